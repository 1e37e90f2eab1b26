/- Walks: exact's operations on ranges, over lists of bytes. -/
import Derived.Test.YtnohidkmjclojaaGreatDoorValP
import Derived.Test.YtnohidkmjclojaaGreatDoorValR
import Derived.Test.YtnohidkmjclojaaGreatDoorValQ
namespace Go.Proofs.YtnohidkmjclojaaGreatDoor
open Go.RowKit

set_option maxRecDepth 100000 in
set_option maxHeartbeats 400000 in
theorem Minus1_any (a b : Bool) (x y u v : Nat) (w : World) (hx : dl 4294967296 x ≤ 32) (hy : dl 4294967296 y ≤ 32) (hu : dl 4294967296 u ≤ 32) (hv : dl 4294967296 v ≤ 32)
    (h1 : dl 4294967296 (x * v) ≤ 32) (h2 : dl 4294967296 (u * y) ≤ 32) (h3 : dl 4294967296 (x * v + u * y) ≤ 32) (hd : dl 4294967296 (y * v) ≤ 32) :
    Calls Tryz.prog 80 #[.agg (val a x y), .agg (val b u v)] w fun e w' => e = .returned (.agg (val (sumS a (x * v) (!b) (u * y)).1 (sumS a (x * v) (!b) (u * y)).2 (y * v))) ∧ Grown w w' := by
  have hsum := vplus_any a (!b) x y u v
  obtain ⟨c, hc⟩ : ∃ c, c = (sumS a (x * v) (!b) (u * y)).1 := ⟨_, rfl⟩
  obtain ⟨s, hs⟩ : ∃ s, s = (sumS a (x * v) (!b) (u * y)).2 := ⟨_, rfl⟩
  obtain ⟨z, hz⟩ : ∃ z, z = y * v := ⟨_, rfl⟩
  have hsum' : ∀ w, Calls Tryz.prog 75 #[.agg (val a x y), .agg (val (!b) u v)] w fun e w' => e = .returned (.agg (val c s z)) ∧ Grown w w' := by
    intro w
    rw [hc, hs, hz]
    exact hsum w hx hy hu hv h1 h2 h3 hd
  rw [← hc, ← hs, ← hz]
  have HS := Lib.hid hsum'
  clear hsum hsum' hc hs hz h1 h2 h3 hd hx hy hu hv
  go_enter Tryz.func80, Tryz.ntmps80
  go_wp2_with fail
  go_region_held3 (fun w' => rowAt w' ⟨w.heap.size, 0, none⟩ 67 = some (val a x y) ∧ rowAt w' ⟨w.heap.size + 1, 0, none⟩ 67 = some (val b u v)) (go_simp)
    (first | (go_at_call 81; ((with_reducible refine (negated_any b u v _).mono ?_); rintro e w' ⟨rfl, os1, d1, rfl⟩)) | (go_at_call 75; ((with_reducible refine (HS.out _).mono ?_); rintro e w' ⟨rfl, os2, d2, rfl⟩)))
  all_goals
    go_wp2
    refine bodyPost_ret (v := .agg (val c s z)) (ret_val rfl rfl ?_) rfl ⟨rfl, ?_⟩
    · go_simp
    · exact (by with_reducible repeat (first | exact Grown.refl _ | apply Grown.more | apply Grown.alloc | apply Grown.drewN | apply Grown.drew))

theorem minus_rat {n d n' d' : List UInt8} (h1 : validB n d = true) (h2 : validB n' d' = true) :
    ∀ w, Calls Tryz.prog 80 #[valT (ratT n d), valT (ratT n' d')] w fun e w' => e = .returned (valT (addT (ratT n d) (negT (ratT n' d')))) ∧ Grown w w' := by
  obtain ⟨hx, hy, -⟩ := valid_lt h1
  obtain ⟨hu, hv, -⟩ := valid_lt h2
  have g1 := mul_60 hx hv
  have g2 := mul_60 hu hy
  have g3 : rX n * valN d' + rX n' * valN d < 10 ^ 121 := by omega
  have g4 := mul_60 hy hv
  exact fun w => Minus1_any _ _ _ _ _ _ w (dl_300 hx (by omega)) (dl_300 hy (by omega)) (dl_300 hu (by omega)) (dl_300 hv (by omega)) (dl_300 g1 (by omega)) (dl_300 g2 (by omega)) (dl_300 g3 (by omega)) (dl_300 g4 (by omega))
theorem cmp_small (n d n' d' : List UInt8) : cmpS n d n' d' = 0 ∨ cmpS n d n' d' = 1 ∨ cmpS n d n' d' = -1 := by
  unfold cmpS
  split
  · exact .inl rfl
  · exact ord_small (ratT n d) (ratT n' d')
theorem proper_valid {a b c d : List UInt8} (h : properB a b c d = true) : validB a b = true ∧ validB c d = true ∧ cmpS a b c d ≤ 0 := by
  unfold properB at h
  simpa using h

/-- what Plus, Minus and Times return -/
def rangeS (op : Tri → Tri → Tri) (a b c d a' b' c' d' : List UInt8) : ((List UInt8 × List UInt8) × (List UInt8 × List UInt8)) × Int :=
  if (properB a b c d && properB a' b' c' d') = false then ((([], []), ([], [])), 1) else spanS op (ratT a b) (ratT c d) (ratT a' b') (ratT c' d')
/-- what Over returns -/
def overS (a b c d a' b' c' d' : List UInt8) : ((List UInt8 × List UInt8) × (List UInt8 × List UInt8)) × Int :=
  if (properB a b c d && properB a' b' c' d') = false then ((([], []), ([], [])), 1)
  else if sgS (rM a') (rX a') ≤ 0 ∧ 0 ≤ sgS (rM c') (rX c') then ((([], []), ([], [])), 20) else spanS quoT (ratT a b) (ratT c d) (ratT a' b') (ratT c' d')
/-- the arithmetic of values: sum, difference, product -/
def subT (p q : Tri) : Tri := addT p (negT q)

structure Lens (a b c d : List UInt8) : Prop where
  a : a.length ≤ maxLen
  b : b.length ≤ maxLen
  c : c.length ≤ maxLen
  d : d.length ≤ maxLen

theorem op_few {n d n' d' : List UInt8} (h1 : validB n d = true) (h2 : validB n' d' = true) :
    few121 (addT (ratT n d) (ratT n' d')) ∧ few121 (subT (ratT n d) (ratT n' d')) ∧ few121 (mulT (ratT n d) (ratT n' d')) ∧ (0 < rX n' → few121 (quoT (ratT n d) (ratT n' d'))) := by
  have hs := tri_small h1 h2
  have p1 : 0 < valN d := (of_valid h1).pos
  have p2 : 0 < valN d' := (of_valid h2).pos
  have q1 := hs _ (.inl rfl)
  have q2 := hs _ (.inr (.inl rfl))
  have q3 := hs _ (.inr (.inr (.inl rfl)))
  have q4 := hs _ (.inr (.inr (.inr rfl)))
  exact ⟨⟨q1.1, q1.2, Nat.mul_pos p1 p2⟩, ⟨q2.1, q2.2, Nat.mul_pos p1 p2⟩, ⟨q3.1, q3.2, Nat.mul_pos p1 p2⟩, fun h => ⟨q4.1, q4.2, Nat.mul_pos p1 h⟩⟩

theorem Range_plus (a b c d a' b' c' d' : List UInt8) (w : World) (L : Lens a b c d) (L' : Lens a' b' c' d') (hpow : Pow10 w) :
    Calls Tryz.prog 17 #[rngV a b c d, rngV a' b' c' d'] w fun e w' => e = .returned (endsR (rangeS addT a b c d a' b' c' d')) ∧ Grown w w' := by
  refine range_plus ⟨a.toArray⟩ ⟨b.toArray⟩ ⟨c.toArray⟩ ⟨d.toArray⟩ ⟨a'.toArray⟩ ⟨b'.toArray⟩ ⟨c'.toArray⟩ ⟨d'.toArray⟩ (properB a b c d) (properB a' b' c' d') (rangeS addT a b c d a' b' c' d') w
    (Lib.hid fun w => Proper_any a b c d w L.a L.b L.c L.d) (Lib.hid fun w => Proper_any a' b' c' d' w L'.a L'.b L'.c L'.d) (Lib.hid fun h => ?_) (Lib.hid fun h1 h2 w hw => ?_) (Lib.hid hpow)
  · unfold rangeS
    rw [if_pos h]
  · obtain ⟨v1, v2, -⟩ := proper_valid h1
    obtain ⟨v1', v2', -⟩ := proper_valid h2
    have hr : rangeS addT a b c d a' b' c' d' = spanS addT (ratT a b) (ratT c d) (ratT a' b') (ratT c' d') := by
      unfold rangeS
      rw [if_neg (by rw [h1, h2]; decide)]
    rw [hr]
    exact span_plus addT a b c d a' b' c' d' w L.a L.b L.c L.d L'.a L'.b L'.c L'.d v1 v2 v1' v2' (fun n m n' m' g1 g2 _ => ⟨(plus_rat g1 g2).1, (op_few g1 g2).1⟩) hw
theorem Range_sub (a b c d a' b' c' d' : List UInt8) (w : World) (L : Lens a b c d) (L' : Lens a' b' c' d') (hpow : Pow10 w) :
    Calls Tryz.prog 19 #[rngV a b c d, rngV a' b' c' d'] w fun e w' => e = .returned (endsR (rangeS subT a b c d a' b' c' d')) ∧ Grown w w' := by
  refine range_sub ⟨a.toArray⟩ ⟨b.toArray⟩ ⟨c.toArray⟩ ⟨d.toArray⟩ ⟨a'.toArray⟩ ⟨b'.toArray⟩ ⟨c'.toArray⟩ ⟨d'.toArray⟩ (properB a b c d) (properB a' b' c' d') (rangeS subT a b c d a' b' c' d') w
    (Lib.hid fun w => Proper_any a b c d w L.a L.b L.c L.d) (Lib.hid fun w => Proper_any a' b' c' d' w L'.a L'.b L'.c L'.d) (Lib.hid fun h => ?_) (Lib.hid fun h1 h2 w hw => ?_) (Lib.hid hpow)
  · unfold rangeS
    rw [if_pos h]
  · obtain ⟨v1, v2, -⟩ := proper_valid h1
    obtain ⟨v1', v2', -⟩ := proper_valid h2
    have hr : rangeS subT a b c d a' b' c' d' = spanS subT (ratT a b) (ratT c d) (ratT a' b') (ratT c' d') := by
      unfold rangeS
      rw [if_neg (by rw [h1, h2]; decide)]
    rw [hr]
    exact span_sub subT a b c d a' b' c' d' w L.a L.b L.c L.d L'.a L'.b L'.c L'.d v1 v2 v1' v2' (fun n m n' m' g1 g2 _ => ⟨minus_rat g1 g2, (op_few g1 g2).2.1⟩) hw
theorem Range_mul (a b c d a' b' c' d' : List UInt8) (w : World) (L : Lens a b c d) (L' : Lens a' b' c' d') (hpow : Pow10 w) :
    Calls Tryz.prog 21 #[rngV a b c d, rngV a' b' c' d'] w fun e w' => e = .returned (endsR (rangeS mulT a b c d a' b' c' d')) ∧ Grown w w' := by
  refine range_mul ⟨a.toArray⟩ ⟨b.toArray⟩ ⟨c.toArray⟩ ⟨d.toArray⟩ ⟨a'.toArray⟩ ⟨b'.toArray⟩ ⟨c'.toArray⟩ ⟨d'.toArray⟩ (properB a b c d) (properB a' b' c' d') (rangeS mulT a b c d a' b' c' d') w
    (Lib.hid fun w => Proper_any a b c d w L.a L.b L.c L.d) (Lib.hid fun w => Proper_any a' b' c' d' w L'.a L'.b L'.c L'.d) (Lib.hid fun h => ?_) (Lib.hid fun h1 h2 w hw => ?_) (Lib.hid hpow)
  · unfold rangeS
    rw [if_pos h]
  · obtain ⟨v1, v2, -⟩ := proper_valid h1
    obtain ⟨v1', v2', -⟩ := proper_valid h2
    have hr : rangeS mulT a b c d a' b' c' d' = spanS mulT (ratT a b) (ratT c d) (ratT a' b') (ratT c' d') := by
      unfold rangeS
      rw [if_neg (by rw [h1, h2]; decide)]
    rw [hr]
    exact span_mul mulT a b c d a' b' c' d' w L.a L.b L.c L.d L'.a L'.b L'.c L'.d v1 v2 v1' v2' (fun n m n' m' g1 g2 _ => ⟨(plus_rat g1 g2).2.2.1, (op_few g1 g2).2.2.1⟩) hw

theorem zero_or {b1 b2 : Bool} {x y : Int} (h : (decide (x ≤ 0) && decide (0 ≤ y)) = b2) (h2 : b2 = b1) : b1 = true ↔ (x ≤ 0 ∧ 0 ≤ y) := by
  subst h2 h
  simp
theorem sg_values (t : Tri) (w : World) : Calls Tryz.prog 86 #[.agg (val t.1 t.2.1 t.2.2)] w fun e w' => e = .returned (.int .i64 (sgS t.1 t.2.1)) ∧ Grown w w' := signed_any _ _ _ w
theorem sg_nonzero {m : Bool} {x : Nat} (h : ¬ (sgS m x ≤ 0 ∧ 0 ≤ sgS m x)) : 0 < x := by
  rcases Nat.eq_zero_or_pos x with h0 | h0
  · subst h0
    exact absurd (by unfold sgS; rw [if_pos rfl]; omega) h
  · exact h0

/-- two valid fractions in order: signs in order -/
theorem sg_mono {p q : Tri} (hp : 0 < p.2.2) (hq : 0 < q.2.2) (h : qv p ≤ qv q) : (sgS p.1 p.2.1 ≤ 0 ∨ 0 < sgS q.1 q.2.1) ∧ (0 ≤ sgS q.1 q.2.1 ∨ sgS p.1 p.2.1 < 0) := by
  have h1 := sg_pos hp
  have h2 := sg_pos hq
  have h3 := sg_neg hp
  have h4 := sg_neg hq
  constructor
  · by_cases c : 0 < sgS p.1 p.2.1
    · exact .inr (h2.2 (by have := h1.1 c; grind))
    · exact .inl (by omega)
  · by_cases c : sgS q.1 q.2.1 < 0
    · exact .inr (h3.2 (by have := h4.1 c; grind))
    · exact .inl (by omega)

theorem Over_any (a b c d a' b' c' d' : List UInt8) (w : World) (L : Lens a b c d) (L' : Lens a' b' c' d') (hpow : Pow10 w) :
    Calls Tryz.prog 23 #[rngV a b c d, rngV a' b' c' d'] w fun e w' => e = .returned (endsR (overS a b c d a' b' c' d')) ∧ Grown w w' := by
  refine Over_x ⟨a.toArray⟩ ⟨b.toArray⟩ ⟨c.toArray⟩ ⟨d.toArray⟩ ⟨a'.toArray⟩ ⟨b'.toArray⟩ ⟨c'.toArray⟩ ⟨d'.toArray⟩ (properB a b c d) (properB a' b' c' d') _ _ (ratT a' b') (ratT c' d') (sgS (rM a') (rX a')) (sgS (rM c') (rX c')) (overS a b c d a' b' c' d') w
    (Lib.hid fun w => Proper_any a b c d w L.a L.b L.c L.d) (Lib.hid fun w => Proper_any a' b' c' d' w L'.a L'.b L'.c L'.d)
    (Lib.hid fun h w => values_any a' b' c' d' w L'.a L'.b L'.c L'.d (proper_valid h).1 (proper_valid h).2.1)
    (Lib.hid fun w => sg_values (ratT a' b') w) (Lib.hid fun w => sg_values (ratT c' d') w) rfl rfl (Lib.hid fun h => ?_) (Lib.hid fun h hz => ?_) (Lib.hid fun h1 h2 hz w hw => ?_) (Lib.hid hpow)
  · unfold overS
    rw [if_pos h]
  · unfold overS
    rw [if_neg (by rw [h]; decide), if_pos (by simpa using hz)]
  · obtain ⟨v1, v2, -⟩ := proper_valid h1
    obtain ⟨v1', v2', hcmp⟩ := proper_valid h2
    have hz' : ¬ (sgS (rM a') (rX a') ≤ 0 ∧ 0 ≤ sgS (rM c') (rX c')) := by
      intro hc
      rw [(zero_or rfl rfl).2 hc] at hz
      cases hz
    have hr : overS a b c d a' b' c' d' = spanS quoT (ratT a b) (ratT c d) (ratT a' b') (ratT c' d') := by
      unfold overS
      rw [if_neg (by rw [h1, h2]; decide), if_neg hz']
    rw [hr]
    have hle : qv (ratT a' b') ≤ qv (ratT c' d') := by
      rw [← ord_le (of_valid v1').pos (of_valid v2').pos]
      unfold cmpS at hcmp
      rw [v1', v2', if_neg (by decide)] at hcmp
      exact hcmp
    have hsg := sg_mono (of_valid v1').pos (of_valid v2').pos hle
    have e1 : sgS (ratT a' b').1 (ratT a' b').2.1 = sgS (rM a') (rX a') := rfl
    have e2 : sgS (ratT c' d').1 (ratT c' d').2.1 = sgS (rM c') (rX c') := rfl
    rw [e1, e2] at hsg
    have na : 0 < rX a' := sg_nonzero (m := rM a') (by omega)
    have nc : 0 < rX c' := sg_nonzero (m := rM c') (by omega)
    refine span_quo quoT a b c d a' b' c' d' w L.a L.b L.c L.d L'.a L'.b L'.c L'.d v1 v2 v1' v2' (fun n m n' m' g1 g2 hh => ⟨(plus_rat g1 g2).2.2.2.1, (op_few g1 g2).2.2.2 ?_⟩) hw
    rcases hh with ⟨rfl, rfl⟩ | ⟨rfl, rfl⟩
    · exact na
    · exact nc
end Go.Proofs.YtnohidkmjclojaaGreatDoor
