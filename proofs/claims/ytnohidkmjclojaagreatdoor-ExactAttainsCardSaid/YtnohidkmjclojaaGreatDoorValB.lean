/- Walks: exact's values, order, lowest terms and texts. -/
import Derived.Test.YtnohidkmjclojaaGreatDoorValA
import Derived.Test.YtnohidkmjclojaaGreatDoorRat
namespace Go.Proofs.YtnohidkmjclojaaGreatDoor
open Go.RowKit

/-- the order of two values -/
def ordS (a : Bool) (x y : Nat) (b : Bool) (u v : Nat) : Int :=
  if (sumS a (x * v) (!b) (u * y)).2 = 0 then 0 else if (sumS a (x * v) (!b) (u * y)).1 then -1 else 1

set_option maxRecDepth 100000 in
set_option maxHeartbeats 1000000 in
/-- order compares values -/
theorem order_any (a b : Bool) (x y u v : Nat) (w : World) (hx : dl 4294967296 x ≤ 32) (hy : dl 4294967296 y ≤ 32) (hu : dl 4294967296 u ≤ 32) (hv : dl 4294967296 v ≤ 32)
    (h1 : dl 4294967296 (x * v) ≤ 32) (h2 : dl 4294967296 (u * y) ≤ 32) (h3 : dl 4294967296 (x * v + u * y) ≤ 32) :
    Calls Tryz.prog 132 #[.agg (val a x y), .agg (val b u v)] w fun e w' => e = .returned (.int .i64 (ordS a x y b u v)) ∧ Grown w w' := by
  have hsum := sum_any a (!b) (x * v) (u * y)
  have hord : ordS a x y b u v = if (sumS a (x * v) (!b) (u * y)).2 = 0 then 0 else if (sumS a (x * v) (!b) (u * y)).1 then -1 else 1 := rfl
  obtain ⟨c, hc⟩ : ∃ c, c = (sumS a (x * v) (!b) (u * y)).1 := ⟨_, rfl⟩
  obtain ⟨s, hs⟩ : ∃ s, s = (sumS a (x * v) (!b) (u * y)).2 := ⟨_, rfl⟩
  rw [← hc, ← hs] at hsum hord
  have HS := Lib.hid hsum
  have HO := Lib.hid hord
  clear hsum hc hs hord
  have hs0 : s = 0 ∨ 0 < s := by omega
  have hcase : (s = 0 ∧ ((dl 4294967296 s : Int) == 0) = true) ∨ (0 < s ∧ ((dl 4294967296 s : Int) == 0) = false ∧ c = true) ∨ (0 < s ∧ ((dl 4294967296 s : Int) == 0) = false ∧ c = false) := by
    rcases hs0 with h | h
    · exact .inl ⟨h, by rw [h, dl_zero]; rfl⟩
    · have := (dl_pos_iff (B := 4294967296) (by omega)).2 h
      have e : ((dl 4294967296 s : Int) == 0) = false := by rw [beq_eq_false_iff_ne]; omega
      cases c
      · exact .inr (.inr ⟨h, e, rfl⟩)
      · exact .inr (.inl ⟨h, e, rfl⟩)
  clear hs0
  go_enter Tryz.func132, Tryz.ntmps132
  go_wp2_with fail
  go_region_held3 (fun w' => w'.cell? ⟨w.heap.size, 0, none⟩ = some (.bool a) ∧ w'.cell? ⟨w.heap.size + 1, 0, none⟩ = some (.bool b) ∧ rowAt w' ⟨w.heap.size, 1, none⟩ 33 = some (nat x) ∧ rowAt w' ⟨w.heap.size + 1, 1, none⟩ 33 = some (nat u) ∧
      rowAt w' ⟨w.heap.size, 34, none⟩ 33 = some (nat y) ∧ rowAt w' ⟨w.heap.size + 1, 34, none⟩ 33 = some (nat v)) (go_simp)
    (first | (go_at_call 135; ((with_reducible refine (times_any x v _ hx hv h1).mono ?_); rintro e w' ⟨rfl, os1, d1, rfl⟩)) | (go_at_call 135; ((with_reducible refine (times_any u y _ hu hy h2).mono ?_); rintro e w' ⟨rfl, os2, d2, rfl⟩)) | (go_at_call 134; ((with_reducible refine (HS.out _ h1 h2 h3).mono ?_); rintro e w' ⟨rfl, os3, d3, rfl⟩)))
  all_goals
    rcases hcase with ⟨h0, h4⟩ | ⟨h0, h4, h5⟩ | ⟨h0, h4, h5⟩
    · have H0 := Lib.hid h0
      clear h0
      go_wp2
      go_ret
      exact ⟨by rw [HO.out, if_pos H0.out]; rfl, (by with_reducible repeat (first | exact Grown.refl _ | apply Grown.more | apply Grown.alloc | apply Grown.drewN | apply Grown.drew))⟩
    · subst h5
      have H0 := Lib.hid h0
      clear h0
      go_wp2
      go_ret
      exact ⟨by rw [HO.out, if_neg (by have := H0.out; omega)]; rfl, (by with_reducible repeat (first | exact Grown.refl _ | apply Grown.more | apply Grown.alloc | apply Grown.drewN | apply Grown.drew))⟩
    · subst h5
      have H0 := Lib.hid h0
      clear h0
      go_wp2
      go_ret
      exact ⟨by rw [HO.out, if_neg (by have := H0.out; omega)]; rfl, (by with_reducible repeat (first | exact Grown.refl _ | apply Grown.more | apply Grown.alloc | apply Grown.drewN | apply Grown.drew))⟩

/-- the sign of a value -/
def sgS (m : Bool) (x : Nat) : Int := if x = 0 then 0 else if m then -1 else 1
set_option maxRecDepth 100000 in
set_option maxHeartbeats 400000 in
theorem signed_any (m : Bool) (x y : Nat) (w : World) : Calls Tryz.prog 86 #[.agg (val m x y)] w fun e w' => e = .returned (.int .i64 (sgS m x)) ∧ Grown w w' := by
  rcases Nat.eq_zero_or_pos x with h0 | h0
  · subst h0
    have e : ((dl 4294967296 0 : Int) == 0) = true := by rw [dl_zero]; rfl
    go_enter Tryz.func86, Tryz.ntmps86
    go_wp2
    go_ret
    exact ⟨rfl, (by with_reducible repeat (first | exact Grown.refl _ | apply Grown.more | apply Grown.alloc | apply Grown.drewN | apply Grown.drew))⟩
  · have e : ((dl 4294967296 x : Int) == 0) = false := by
      have := (dl_pos_iff (B := 4294967296) (by omega)).2 h0
      rw [beq_eq_false_iff_ne]; omega
    cases m
    · have hf : sgS false x = 1 := by unfold sgS; rw [if_neg (by omega)]; rfl
      have HF := Lib.hid hf
      clear hf
      go_enter Tryz.func86, Tryz.ntmps86
      go_wp2
      go_ret
      exact ⟨by rw [HF.out]; rfl, (by with_reducible repeat (first | exact Grown.refl _ | apply Grown.more | apply Grown.alloc | apply Grown.drewN | apply Grown.drew))⟩
    · have hf : sgS true x = -1 := by unfold sgS; rw [if_neg (by omega)]; rfl
      have HF := Lib.hid hf
      clear hf
      go_enter Tryz.func86, Tryz.ntmps86
      go_wp2
      go_ret
      exact ⟨by rw [HF.out]; rfl, (by with_reducible repeat (first | exact Grown.refl _ | apply Grown.more | apply Grown.alloc | apply Grown.drewN | apply Grown.drew))⟩

set_option maxRecDepth 100000 in
set_option maxHeartbeats 400000 in
theorem xsize_any (n : Int) (w : World) (h1 : -9223372036854775808 ≤ n) (h2 : n ≤ 9223372036854775807) :
    Calls Tryz.prog 165 #[.int .i64 n] w fun e w' => e = .returned (.int .u64 (n.natAbs : Nat)) ∧ w' = w := by
  by_cases h : n < 0
  · go_enter Tryz.func165, Tryz.ntmps165
    go_wp2
    go_ret
    exact ⟨congrArg _ (congrArg (Value.int .u64) (by simp only [IntKind.wrap_u64]; omega)), rfl⟩
  · have hf : ((n.natAbs : Nat) : Int) = n := by omega
    rw [hf]
    clear hf
    go_enter Tryz.func165, Tryz.ntmps165
    go_wp2
    go_ret
    exact ⟨rfl, rfl⟩
end Go.Proofs.YtnohidkmjclojaaGreatDoor
