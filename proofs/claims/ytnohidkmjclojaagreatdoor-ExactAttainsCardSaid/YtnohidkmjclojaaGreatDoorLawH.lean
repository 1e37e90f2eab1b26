/- Walks: the law's ends. -/
import Derived.Test.YtnohidkmjclojaaGreatDoorKitE
import Derived.Test.YtnohidkmjclojaaGreatDoorValI
namespace Go.Proofs.YtnohidkmjclojaaGreatDoor
set_option linter.unusedVariables false
set_option linter.unusedSimpArgs false
open Go.RowKit

set_option maxRecDepth 100000 in
set_option maxHeartbeats 1000000 in
theorem lends_x (s1 s2 s3 s4 : ByteArray) (nn dd : Nat → ByteArray) (lb hb : Nat → Bool) (e : Int) (n b cap : Nat) (w : World) (hn : n ≤ 4) (hin : InW b w)
    (HC : Hid (∀ i, i < n → w.cell? ⟨b, i * 2, none⟩ = some (.string (nn i)) ∧ w.cell? ⟨b, i * 2 + 1, none⟩ = some (.string (dd i))))
    (HL : Hid (∀ k, k < n → lb (k + 1) = (lb k || eqR (nn k) (dd k) s1 s2))) (HH : Hid (∀ k, k < n → hb (k + 1) = (hb k || eqR (nn k) (dd k) s3 s4))) (HL0 : Hid (lb 0 = false)) (HH0 : Hid (hb 0 = false)) :
    Calls Tryz.prog 31 #[.agg #[.string s1, .string s2, .string s3, .string s4], .int .i64 e, .slice (some ⟨b, 0, none⟩) n cap] w fun e' w' => e' = .returned (.bool (e != 0 || (lb n && hb n))) ∧ Grown w w' := by
  go_enter Tryz.func31, Tryz.ntmps31
  go_wp2
  go_loopw [7, 8, 9] (fun lv hv kv wr => ∃ (k : Nat), kv = .int .i64 k ∧ lv = .bool (lb k) ∧ hv = .bool (hb k) ∧ k ≤ n ∧ Grown (w.alloc (Obj.cells #[.string s1, .string s2, .string s3, .string s4] 25)) wr) (fun _ _ kv _ => n - (intOf kv).toNat)
  case atStart => exact ⟨0, rfl, by rw [HL0.out], by rw [HH0.out], by omega, Grown.refl _⟩
  case round =>
    obtain ⟨k, rfl, rfl, rfl, hk, ⟨os, d, rfl⟩⟩ := hrel
    by_cases hkn : k < n
    · have hki : (k : Int) < (n : Int) := by omega
      have c0 := (HC.out k hkn).1
      have c1 := (HC.out k hkn).2
      have hl := Lib.hid (HL.out k hkn)
      have hh := Lib.hid (HH.out k hkn)
      cases hlk : lb k <;> cases hhk : hb k
      all_goals
        rw [hlk] at hl
        rw [hhk] at hh
        clear hlk hhk
        go_wp2
        go_quiet (fail)
        go_wp2
        go_quiet (fail)
        go_wp2
        go_roundw
        case measure => show n - (k + 1) < n - k; omega
        case rel => exact ⟨k + 1, rfl, by rw [hl.out]; rfl, by rw [hh.out]; rfl, by omega, (by with_reducible repeat (first | exact Grown.refl _ | apply Grown.more | apply Grown.alloc | apply Grown.drewN | apply Grown.drew))⟩
    · have hki : ¬ (k : Int) < (n : Int) := by omega
      have hkn' : k = n := by omega
      subst hkn'
      by_cases he : e = 0
      · subst he
        cases hlk : lb k <;> cases hhk : hb k
        all_goals
          go_wp2
          go_ret
          exact ⟨rfl, (by with_reducible repeat (first | exact Grown.refl _ | apply Grown.more | apply Grown.alloc | apply Grown.drewN | apply Grown.drew))⟩
      · have he1 : (e == 0) = false := by rw [beq_eq_false_iff_ne]; exact he
        have he2 : (e != 0) = true := by rw [bne_iff_ne]; exact he
        go_wp2
        go_ret
        exact ⟨rfl, (by with_reducible repeat (first | exact Grown.refl _ | apply Grown.more | apply Grown.alloc | apply Grown.drewN | apply Grown.drew))⟩
end Go.Proofs.YtnohidkmjclojaaGreatDoor
