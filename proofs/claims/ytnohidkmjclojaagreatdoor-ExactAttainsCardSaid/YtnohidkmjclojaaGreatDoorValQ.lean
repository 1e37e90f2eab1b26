/- Walks: exact's Sum. -/
import Derived.Test.YtnohidkmjclojaaGreatDoorKitL
import Derived.Test.YtnohidkmjclojaaGreatDoorValI
namespace Go.Proofs.YtnohidkmjclojaaGreatDoor
open Go.RowKit

set_option maxRecDepth 100000 in
set_option maxHeartbeats 1000000 in
theorem Sum_x (nn dd sn sd : Nat → ByteArray) (n b cap : Nat) (w : World) (hn : n ≤ 400) (hb : InW b w)
    (hc0 : ∀ i, i < n → w.cell? ⟨b, i * 2, none⟩ = some (.string (nn i))) (hc1 : ∀ i, i < n → w.cell? ⟨b, i * 2 + 1, none⟩ = some (.string (dd i)))
    (HOF : Hid (∀ w, Pow10 w → Calls Tryz.prog 126 #[.int .i64 0, .int .i64 1] w fun e w' => e = .returned (.tuple #[.agg #[.string (sn 0), .string (sd 0)], .int .i64 0]) ∧ Grown w w'))
    (HADD : Hid (∀ k, k < n → ∀ w, Pow10 w → Calls Tryz.prog 27 #[.agg #[.string (sn k), .string (sd k)], .agg #[.string (nn k), .string (dd k)]] w fun e w' => e = .returned (.tuple #[.agg #[.string (sn (k + 1)), .string (sd (k + 1))], .int .i64 0]) ∧ Grown w w'))
    (HPOW : Hid (Pow10 w)) :
    Calls Tryz.prog 127 #[.slice (some ⟨b, 0, none⟩) n cap] w fun e w' => e = .returned (.tuple #[.agg #[.string (sn n), .string (sd n)], .int .i64 0]) ∧ Grown w w' := by
  have hn' : ¬ (400 : Int) < (n : Int) := by omega
  have HC0 := Lib.hid hc0
  have HC1 := Lib.hid hc1
  clear hc0 hc1
  go_enter Tryz.func127, Tryz.ntmps127
  go_wp2_with ((go_at_call 126; ((with_reducible refine (HOF.out _ ?_).mono ?_); (exact HPOW.out.grown (by with_reducible repeat (first | exact Grown.refl _ | apply Grown.more | apply Grown.alloc | apply Grown.drewN | apply Grown.drew))); rintro e w' ⟨rfl, os1, d1, rfl⟩)))
  go_loopw [5, 18] (fun ev sv wr => ∃ (k : Nat), sv = .int .i64 k ∧ ev = .int .i64 0 ∧ k ≤ n ∧ Grown ((grow (w.alloc (Obj.cells #[.string ⟨#[]⟩, .string ⟨#[]⟩] 23)) os1 d1).alloc (Obj.cells #[.string (sn k), .string (sd k)] 23)) wr) (fun _ sv _ => n - (intOf sv).toNat)
  case atStart => exact ⟨0, rfl, rfl, by omega, Grown.refl _⟩
  case round =>
    obtain ⟨k, rfl, rfl, hk, ⟨os, dd', rfl⟩⟩ := hrel
    by_cases hkn : k < n
    · have c0 := HC0.out k hkn
      have c1 := HC1.out k hkn
      have hki : (k : Int) < (n : Int) := by omega
      go_wp2_with ((go_at_call 27; ((with_reducible refine (HADD.out k hkn _ ?_).mono ?_); (exact HPOW.out.grown (by with_reducible repeat (first | exact Grown.refl _ | apply Grown.more | apply Grown.alloc | apply Grown.drewN | apply Grown.drew))); rintro e w' ⟨rfl, os2, d2, rfl⟩)))
      go_roundw
      case measure => show n - (k + 1) < n - k; omega
      case rel => exact ⟨k + 1, rfl, rfl, by omega, (by with_reducible repeat (first | exact Grown.refl _ | apply Grown.more | apply Grown.alloc | apply Grown.drewN | apply Grown.drew))⟩
    · have hki : ¬ (k : Int) < (n : Int) := by omega
      have hkn' : k = n := by omega
      subst hkn'
      go_wp2
      refine bodyPost_ret (v := .tuple #[.agg #[.string (sn k), .string (sd k)], .int .i64 0]) (ret_rat_tmp rfl rfl rfl ?_) rfl ⟨rfl, ?_⟩
      · go_simp
      · exact (by with_reducible repeat (first | exact Grown.refl _ | apply Grown.more | apply Grown.alloc | apply Grown.drewN | apply Grown.drew))
end Go.Proofs.YtnohidkmjclojaaGreatDoor
