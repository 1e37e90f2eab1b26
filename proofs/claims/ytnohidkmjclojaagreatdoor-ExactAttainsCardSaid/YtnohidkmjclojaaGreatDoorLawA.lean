/- Walks: the laws' of, is, SameInts, between. -/
import Derived.Test.YtnohidkmjclojaaGreatDoorValT
namespace Go.Proofs.YtnohidkmjclojaaGreatDoor
open Go.RowKit

set_option maxRecDepth 100000 in
set_option maxHeartbeats 1000000 in
theorem lof_x (a b : Int) (s1 s2 : ByteArray) (t : Int) (w : World)
    (O : Hid (∀ w, Pow10 w → Calls Tryz.prog 126 #[.int .i64 a, .int .i64 b] w fun e w' => e = .returned (.tuple #[.agg #[.string s1, .string s2], .int .i64 t]) ∧ Grown w w')) (HPOW : Hid (Pow10 w)) :
    Calls Tryz.prog 70 #[.int .i64 a, .int .i64 b] w fun e w' => e = .returned (.agg #[.string s1, .string s2]) ∧ Grown w w' := by
  go_enter Tryz.func70, Tryz.ntmps70
  go_wp2_with (go_at_call 126; ((with_reducible refine (O.out _ ?_).mono ?_); (exact HPOW.out.grown (by with_reducible repeat (first | exact Grown.refl _ | apply Grown.more | apply Grown.alloc | apply Grown.drewN | apply Grown.drew))); rintro e w' ⟨rfl, os1, d1, rfl⟩))
  refine bodyPost_ret (v := .agg #[.string s1, .string s2]) (ret_rat rfl rfl ?_) rfl ⟨rfl, ?_⟩
  · go_simp
  · exact (by with_reducible repeat (first | exact Grown.refl _ | apply Grown.more | apply Grown.alloc | apply Grown.drewN | apply Grown.drew))
theorem lof_any (a b : Int) (w : World) (ha1 : -9223372036854775808 ≤ a) (ha2 : a ≤ 9223372036854775807) (hb1 : -9223372036854775808 ≤ b) (hb2 : b ≤ 9223372036854775807) (hpow : Pow10 w) :
    Calls Tryz.prog 70 #[.int .i64 a, .int .i64 b] w fun e w' => e = .returned (ratV (ofS a b).1.1 (ofS a b).1.2) ∧ Grown w w' :=
  lof_x a b ⟨(ofS a b).1.1.toArray⟩ ⟨(ofS a b).1.2.toArray⟩ (ofS a b).2 w (Lib.hid fun w hw => Of_any a b w ha1 ha2 hb1 hb2 hw) (Lib.hid hpow)

set_option maxRecDepth 100000 in
set_option maxHeartbeats 1000000 in
theorem lis_yes (s1 s2 : ByteArray) (w : World) :
    Calls Tryz.prog 72 #[.agg #[.string s1, .string s2], .int .i64 0, .string s1, .string s2] w fun e w' => e = .returned (.bool true) ∧ Grown w w' := by
  go_enter Tryz.func72, Tryz.ntmps72
  go_wp2
  go_ret
  exact ⟨rfl, (by with_reducible repeat (first | exact Grown.refl _ | apply Grown.more | apply Grown.alloc | apply Grown.drewN | apply Grown.drew))⟩

set_option maxRecDepth 100000 in
set_option maxHeartbeats 1000000 in
theorem SameInts_yes (f : Nat → Int) (b b' n cap cap' : Nat) (w : World) (hn : n ≤ 1000) (hc : ∀ i, i < n → w.cell? ⟨b, i, none⟩ = some (.int .i64 (f i))) (hc' : ∀ i, i < n → w.cell? ⟨b', i, none⟩ = some (.int .i64 (f i))) :
    Calls Tryz.prog 73 #[.slice (some ⟨b, 0, none⟩) n cap, .slice (some ⟨b', 0, none⟩) n cap'] w fun e w' => e = .returned (.bool true) ∧ Grown w w' := by
  have HC := Lib.hid hc
  have HC' := Lib.hid hc'
  clear hc hc'
  go_enter Tryz.func73, Tryz.ntmps73
  go_wp2
  go_loopw [5] (fun kv wr => ∃ (k : Nat), kv = .int .i64 k ∧ k ≤ n ∧ Grown w wr) (fun kv _ => n - (intOf kv).toNat)
  case atStart => exact ⟨0, rfl, by omega, Grown.refl _⟩
  case round =>
    obtain ⟨k, rfl, hk, hg⟩ := hrel
    by_cases hkn : k < n
    · have hki : (k : Int) < (n : Int) := by omega
      have c0 : wr.cell? ⟨b, k, none⟩ = some (.int .i64 (f k)) := by
        have h := HC.out k hkn
        obtain ⟨os, d, rfl⟩ := hg
        rw [cell_grow _ _ _ _ _ (World.block_lt_of_cell? w _ h)]
        exact h
      have c1 : wr.cell? ⟨b', k, none⟩ = some (.int .i64 (f k)) := by
        have h := HC'.out k hkn
        obtain ⟨os, d, rfl⟩ := hg
        rw [cell_grow _ _ _ _ _ (World.block_lt_of_cell? w _ h)]
        exact h
      have HG := Lib.hid hg
      clear hg
      go_wp2
      go_quiet (fail)
      go_wp2
      go_roundw
      case measure => show n - (k + 1) < n - k; omega
      case rel => exact ⟨k + 1, rfl, by omega, HG.out.trans (by with_reducible repeat (first | exact Grown.refl _ | apply Grown.more | apply Grown.alloc | apply Grown.drewN | apply Grown.drew))⟩
    · have hki : ¬ (k : Int) < (n : Int) := by omega
      have HG := Lib.hid hg
      clear hg
      go_wp2
      go_ret
      exact ⟨rfl, HG.out⟩

set_option maxRecDepth 100000 in
set_option maxHeartbeats 1000000 in
/-- between, as a Bool -/
theorem between_yes (s1 s2 s3 s4 x y : ByteArray) (e f : Int) (w : World)
    (C : Hid (e = 0 → f = 0 → ∀ w, Calls Tryz.prog 39 #[.agg #[.string s1, .string s2, .string s3, .string s4], .agg #[.string x, .string y]] w fun e w' => e = .returned (.bool true) ∧ Grown w w'))
    (P : Hid (e = 0 → f = 0 → ∀ w, Calls Tryz.prog 25 #[.agg #[.string s1, .string s2, .string s3, .string s4]] w fun e w' => e = .returned (.bool true) ∧ Grown w w')) :
    Calls Tryz.prog 41 #[.agg #[.string s1, .string s2, .string s3, .string s4], .agg #[.string x, .string y], .int .i64 e, .int .i64 f] w fun e w' => e = .returned (.bool true) ∧ Grown w w' := by
  by_cases h1 : e = 0
  · by_cases h2 : f = 0
    · have C2 := Lib.hid (C.out h1 h2)
      have P2 := Lib.hid (P.out h1 h2)
      clear C P
      subst h1 h2
      go_enter Tryz.func41, Tryz.ntmps41
      go_wp2_with (first | (go_at_call 39; ((with_reducible refine (C2.out _).mono ?_); rintro e w' ⟨rfl, os1, d1, rfl⟩)) | (go_at_call 25; ((with_reducible refine (P2.out _).mono ?_); rintro e w' ⟨rfl, os2, d2, rfl⟩)))
      go_ret
      exact ⟨rfl, (by with_reducible repeat (first | exact Grown.refl _ | apply Grown.more | apply Grown.alloc | apply Grown.drewN | apply Grown.drew))⟩
    · subst h1
      clear C P
      have h2' : (f == 0) = false := by rw [beq_eq_false_iff_ne]; exact h2
      have h2'' : (f != 0) = true := by rw [bne_iff_ne]; exact h2
      go_enter Tryz.func41, Tryz.ntmps41
      go_wp2
      go_ret
      exact ⟨rfl, (by with_reducible repeat (first | exact Grown.refl _ | apply Grown.more | apply Grown.alloc | apply Grown.drewN | apply Grown.drew))⟩
  · clear C P
    have h2' : (e == 0) = false := by rw [beq_eq_false_iff_ne]; exact h1
    have h2'' : (e != 0) = true := by rw [bne_iff_ne]; exact h1
    go_enter Tryz.func41, Tryz.ntmps41
    go_wp2
    go_ret
    exact ⟨rfl, (by with_reducible repeat (first | exact Grown.refl _ | apply Grown.more | apply Grown.alloc | apply Grown.drewN | apply Grown.drew))⟩
end Go.Proofs.YtnohidkmjclojaaGreatDoor
