/- Walks: exact's extreme over two fractions. -/
import Derived.Test.YtnohidkmjclojaaGreatDoorKitL
import Derived.Test.YtnohidkmjclojaaGreatDoorValI
namespace Go.Proofs.YtnohidkmjclojaaGreatDoor
open Go.RowKit

theorem ret_rat {fn : Func} {p : Tmp} (h : fn.results = #[.cell p 23]) {tmps : Array Value} {w : World} {a : Addr} {cs : Array Value} (hp : tmps.getD p undef = .pointer (some a)) (hr : rowAt w a 2 = some cs) :
    (results fn tmps).run Tryz.prog w = .ok (.agg cs) w :=
  results_row (d := (Tryz.prog.underlying 23).getD (.struct #[])) h (by kernel_rfl) (by kernel_rfl) (by kernel_rfl) hp hr

set_option maxRecDepth 100000 in
set_option maxHeartbeats 1000000 in
theorem extremeR_any (n0 d0 n1 d1 : ByteArray) (b cap : Nat) (way c : Int) (w : World) (hw : way = 1 ∨ way = -1) (hcap : 2 ≤ cap) (hin : InW b w)
    (h0 : w.cell? ⟨b, 0, none⟩ = some (.string n0)) (h1 : w.cell? ⟨b, 1, none⟩ = some (.string d0)) (h2 : w.cell? ⟨b, 2, none⟩ = some (.string n1)) (h3 : w.cell? ⟨b, 3, none⟩ = some (.string d1))
    (hc3 : c = 0 ∨ c = 1 ∨ c = -1)
    (HC : Hid (∀ w, Calls Tryz.prog 91 #[.agg #[.string n1, .string d1], .agg #[.string n0, .string d0]] w fun e w' => e = .returned (.int .i64 c) ∧ Grown w w')) :
    Calls Tryz.prog 96 #[.func (.func 91) #[] #[], .int .i64 way, .slice (some ⟨b, 0, none⟩) 2 cap] w fun e w' => e = .returned (if c * way > 0 then .agg #[.string n1, .string d1] else .agg #[.string n0, .string d0]) ∧ Grown w w' := by
  have hc1 : ¬ cap = 1 := by omega
  have hwr : wrap64 (c * way) = c * way := by
    rcases hc3 with h | h | h <;> rcases hw with h' | h' <;> rw [h, h'] <;> decide +kernel
  obtain ⟨r, hr⟩ : ∃ r : Value, r = if c * way > 0 then .agg #[.string n1, .string d1] else .agg #[.string n0, .string d0] := ⟨_, rfl⟩
  rw [← hr]
  have HR := Lib.hid hr
  clear hr
  obtain ⟨m, hm⟩ : ∃ m, m = c * way := ⟨_, rfl⟩
  have HWR := Lib.hid hwr
  have HM := Lib.hid hm
  clear hwr hw hc3 hm
  go_enter Tryz.func96, Tryz.ntmps96
  go_wp2
  go_loopw [16] (fun sv wr => ∃ (k : Nat) (x y : ByteArray), sv = .int .i64 k ∧ k ≤ 1 ∧ Hid ((k = 0 ∧ x = n0 ∧ y = d0) ∨ (k = 1 ∧ r = .agg #[.string x, .string y])) ∧ Grown ((w.alloc (Obj.cells #[.string ⟨#[]⟩, .string ⟨#[]⟩] 23)).alloc (Obj.cells #[.string x, .string y] 23)) wr) (fun sv _ => 1 - (intOf sv).toNat)
  case atStart => exact ⟨0, n0, d0, rfl, by omega, Lib.hid (.inl ⟨rfl, rfl, rfl⟩), Grown.refl _⟩
  case round =>
    obtain ⟨k, x, y, rfl, hk, hbest, ⟨os, dd, rfl⟩⟩ := hrel
    by_cases hkl : k = 0
    · subst hkl
      have hxy : x = n0 ∧ y = d0 := by
        rcases hbest.out with ⟨_, h⟩ | ⟨h, _⟩
        · exact h
        · omega
      obtain ⟨rfl, rfl⟩ := hxy
      clear hbest
      go_wp2_with (go_at_call 91; ((with_reducible refine (HC.out _).mono ?_); rintro e w' ⟨rfl, os1, d1', rfl⟩))
      all_goals
        go_roundw
        case measure => show 1 - (0 + 1) < 1 - 0; omega
        case rel =>
          first
            | exact ⟨1, n1, d1, rfl, by omega, Lib.hid (.inr ⟨rfl, by rw [HR.out, if_pos (by rw [← HWR.out]; omega)]⟩), (by with_reducible repeat (first | exact Grown.refl _ | apply Grown.more | apply Grown.alloc | apply Grown.drewN | apply Grown.drew))⟩
            | exact ⟨1, x, y, rfl, by omega, Lib.hid (.inr ⟨rfl, by rw [HR.out, if_neg (by rw [← HWR.out]; omega)]⟩), (by with_reducible repeat (first | exact Grown.refl _ | apply Grown.more | apply Grown.alloc | apply Grown.drewN | apply Grown.drew))⟩
    · have hk1 : k = 1 := by omega
      subst hk1
      have hxy : r = .agg #[.string x, .string y] := by
        rcases hbest.out with ⟨h, _⟩ | ⟨_, h⟩
        · omega
        · exact h
      have HXY := Lib.hid hxy
      clear hbest hxy
      go_wp2
      refine bodyPost_ret (v := .agg #[.string x, .string y]) (ret_rat rfl rfl ?_) rfl ⟨by rw [HXY.out], ?_⟩
      · go_simp
      · exact (by with_reducible repeat (first | exact Grown.refl _ | apply Grown.more | apply Grown.alloc | apply Grown.drewN | apply Grown.drew))

/-- the second of two is taken, or the first -/
def Picked (c way : Int) (x y n1 d1 n0 d0 : ByteArray) : Prop := (c * way > 0 ∧ x = n1 ∧ y = d1) ∨ (¬ c * way > 0 ∧ x = n0 ∧ y = d0)
theorem extremeR (n0 d0 n1 d1 x y : ByteArray) (b cap : Nat) (way c : Int) (w : World) (hw : way = 1 ∨ way = -1) (hcap : 2 ≤ cap) (hin : InW b w)
    (h0 : w.cell? ⟨b, 0, none⟩ = some (.string n0)) (h1 : w.cell? ⟨b, 1, none⟩ = some (.string d0)) (h2 : w.cell? ⟨b, 2, none⟩ = some (.string n1)) (h3 : w.cell? ⟨b, 3, none⟩ = some (.string d1))
    (hc3 : c = 0 ∨ c = 1 ∨ c = -1) (hxy : Picked c way x y n1 d1 n0 d0)
    (HC : Hid (∀ w, Calls Tryz.prog 91 #[.agg #[.string n1, .string d1], .agg #[.string n0, .string d0]] w fun e w' => e = .returned (.int .i64 c) ∧ Grown w w')) :
    Calls Tryz.prog 96 #[.func (.func 91) #[] #[], .int .i64 way, .slice (some ⟨b, 0, none⟩) 2 cap] w fun e w' => e = .returned (.agg #[.string x, .string y]) ∧ Grown w w' := by
  have h := extremeR_any n0 d0 n1 d1 b cap way c w hw hcap hin h0 h1 h2 h3 hc3 HC
  rcases hxy with ⟨h4, rfl, rfl⟩ | ⟨h4, rfl, rfl⟩
  · rw [if_pos h4] at h
    exact h
  · rw [if_neg h4] at h
    exact h
end Go.Proofs.YtnohidkmjclojaaGreatDoor
