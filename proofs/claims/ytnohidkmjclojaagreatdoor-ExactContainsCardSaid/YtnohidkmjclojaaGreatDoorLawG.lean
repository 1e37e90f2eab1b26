/- The law ExactContains returns true, over lists of bytes. -/
import Derived.Test.YtnohidkmjclojaaGreatDoorLawF
namespace Go.Proofs.YtnohidkmjclojaaGreatDoor
open Go.RowKit

theorem told_len (t : Tri) (h : (toldT t).2 = 0) (hp : 0 < t.2.2) : (toldT t).1.1.length ≤ maxLen ∧ (toldT t).1.2.length ≤ maxLen := appor_len 0 (fun _ => (toldT t).1) (told_ok hp h).1
theorem nil_len : ([] : List UInt8).length ≤ maxLen := by unfold maxLen; simp
theorem told_len' (t : Tri) (hp : 0 < t.2.2) : (toldT t).1.1.length ≤ maxLen ∧ (toldT t).1.2.length ≤ maxLen := by
  by_cases h : (toldT t).2 = 0
  · exact told_len t h hp
  · have : toldT t = (([], []), 3) := by
      unfold toldT toldS at h ⊢
      split
      · rfl
      · rename_i hc; rw [if_neg hc] at h; exact absurd rfl h
    rw [this]
    exact ⟨nil_len, nil_len⟩
theorem endsS_len {t : Tri} {l : List Tri} (hp : ∀ x ∈ t :: l, 0 < x.2.2) : Lens (endsS t l).1.1.1 (endsS t l).1.1.2 (endsS t l).1.2.1 (endsS t l).1.2.2 := by
  have m1 := told_len' _ (hp _ (best_mem ordT (-1) l t))
  have m2 := told_len' _ (hp _ (best_mem ordT 1 l t))
  unfold endsS
  split
  · exact ⟨nil_len, nil_len, nil_len, nil_len⟩
  · exact ⟨m1.1, m1.2, m2.1, m2.2⟩
theorem spanS_len {op : Tri → Tri → Tri} {p0 p1 q0 q1 : Tri} (h1 : 0 < (op p0 q0).2.2) (h2 : 0 < (op p0 q1).2.2) (h3 : 0 < (op p1 q0).2.2) (h4 : 0 < (op p1 q1).2.2) :
    Lens (spanS op p0 p1 q0 q1).1.1.1 (spanS op p0 p1 q0 q1).1.1.2 (spanS op p0 p1 q0 q1).1.2.1 (spanS op p0 p1 q0 q1).1.2.2 := by
  unfold spanS
  refine endsS_len ?_
  intro t ht
  simp only [List.mem_cons, List.not_mem_nil, or_false] at ht
  rcases ht with rfl | rfl | rfl | rfl
  · exact low_pos h1
  · exact low_pos h2
  · exact low_pos h3
  · exact low_pos h4
theorem opS_len {n d n' d' : List UInt8} {t : Tri} : (opS n d n' d' t).1.1.length ≤ maxLen ∧ (opS n d n' d' t).1.2.length ≤ maxLen := by
  unfold opS bothS
  split
  · exact ⟨nil_len, nil_len⟩
  · split
    · exact ⟨nil_len, nil_len⟩
    · rename_i h; exact told_len' t (Nat.pos_of_ne_zero h)
theorem rangeS_len {op : Tri → Tri → Tri} {a b c d a' b' c' d' : List UInt8} (hop : ∀ p q : Tri, 0 < p.2.2 → 0 < q.2.2 → 0 < (op p q).2.2) :
    Lens (rangeS op a b c d a' b' c' d').1.1.1 (rangeS op a b c d a' b' c' d').1.1.2 (rangeS op a b c d a' b' c' d').1.2.1 (rangeS op a b c d a' b' c' d').1.2.2 := by
  unfold rangeS
  split
  · exact ⟨nil_len, nil_len, nil_len, nil_len⟩
  · rename_i h
    rw [Bool.not_eq_false, Bool.and_eq_true] at h
    obtain ⟨h1, h2⟩ := h
    obtain ⟨w1, w2, -⟩ := proper_iff.1 h1
    obtain ⟨w1', w2', -⟩ := proper_iff.1 h2
    exact spanS_len (hop _ _ (rat_pos w1) (rat_pos w1')) (hop _ _ (rat_pos w1) (rat_pos w2')) (hop _ _ (rat_pos w2) (rat_pos w1')) (hop _ _ (rat_pos w2) (rat_pos w2'))
theorem overS_len {a b c d a' b' c' d' : List UInt8} : Lens (overS a b c d a' b' c' d').1.1.1 (overS a b c d a' b' c' d').1.1.2 (overS a b c d a' b' c' d').1.2.1 (overS a b c d a' b' c' d').1.2.2 := by
  by_cases h : (properB a b c d && properB a' b' c' d') = false
  · unfold overS
    rw [if_pos h]
    exact ⟨nil_len, nil_len, nil_len, nil_len⟩
  · have hh := h
    rw [Bool.not_eq_false, Bool.and_eq_true] at hh
    obtain ⟨h1, h2⟩ := hh
    obtain ⟨w1, w2, -⟩ := proper_iff.1 h1
    obtain ⟨w1', w2', hle⟩ := proper_iff.1 h2
    by_cases hz : sgS (rM a') (rX a') ≤ 0 ∧ 0 ≤ sgS (rM c') (rX c')
    · unfold overS
      rw [if_neg h, if_pos hz]
      exact ⟨nil_len, nil_len, nil_len, nil_len⟩
    · have hsg := sg_mono (rat_pos w1') (rat_pos w2') hle
      have e1 : sgS (ratT a' b').1 (ratT a' b').2.1 = sgS (rM a') (rX a') := rfl
      have e2 : sgS (ratT c' d').1 (ratT c' d').2.1 = sgS (rM c') (rX c') := rfl
      rw [e1, e2] at hsg
      have na : 0 < rX a' := sg_nonzero (m := rM a') (by omega)
      have nc : 0 < rX c' := sg_nonzero (m := rM c') (by omega)
      unfold overS
      rw [if_neg h, if_neg hz]
      exact spanS_len (Nat.mul_pos (rat_pos w1) na) (Nat.mul_pos (rat_pos w1) nc) (Nat.mul_pos (rat_pos w2) na) (Nat.mul_pos (rat_pos w2) nc)
theorem add_pos (p q : Tri) (h : 0 < p.2.2) (h' : 0 < q.2.2) : 0 < (addT p q).2.2 := Nat.mul_pos h h'
theorem sub_pos (p q : Tri) (h : 0 < p.2.2) (h' : 0 < q.2.2) : 0 < (subT p q).2.2 := Nat.mul_pos h h'
theorem mul_pos' (p q : Tri) (h : 0 < p.2.2) (h' : 0 < q.2.2) : 0 < (mulT p q).2.2 := Nat.mul_pos h h'
theorem hullS_len {a b c d a' b' c' d' : List UInt8} (L : Lens a b c d) (L' : Lens a' b' c' d') : Lens (hullS a b c d a' b' c' d').1.1.1 (hullS a b c d a' b' c' d').1.1.2 (hullS a b c d a' b' c' d').1.2.1 (hullS a b c d a' b' c' d').1.2.2 := by
  have h1 := bestR_len (way := -1) (x0 := (a, b)) (x1 := (a', b')) ⟨L.a, L.b⟩ ⟨L'.a, L'.b⟩
  have h2 := bestR_len (way := 1) (x0 := (c, d)) (x1 := (c', d')) ⟨L.c, L.d⟩ ⟨L'.c, L'.d⟩
  unfold hullS
  split
  · exact ⟨nil_len, nil_len, nil_len, nil_len⟩
  · exact ⟨h1.1, h1.2, h2.1, h2.2⟩
theorem meetS_len {a b c d a' b' c' d' : List UInt8} (L : Lens a b c d) (L' : Lens a' b' c' d') : Lens (meetS a b c d a' b' c' d').1.1.1 (meetS a b c d a' b' c' d').1.1.2 (meetS a b c d a' b' c' d').1.2.1 (meetS a b c d a' b' c' d').1.2.2 := by
  have h1 := bestR_len (way := 1) (x0 := (a, b)) (x1 := (a', b')) ⟨L.a, L.b⟩ ⟨L'.a, L'.b⟩
  have h2 := bestR_len (way := -1) (x0 := (c, d)) (x1 := (c', d')) ⟨L.c, L.d⟩ ⟨L'.c, L'.d⟩
  unfold meetS
  split
  · exact ⟨nil_len, nil_len, nil_len, nil_len⟩
  · split
    · exact ⟨nil_len, nil_len, nil_len, nil_len⟩
    · exact ⟨h1.1, h1.2, h2.1, h2.2⟩
theorem roundS_len {n d n' d' : List UInt8} {mode : Int} : (roundS n d n' d' mode).1.1.length ≤ maxLen ∧ (roundS n d n' d' mode).1.2.length ≤ maxLen := by
  by_cases h : (validB n d && validB n' d') = false
  · unfold roundS
    rw [if_pos h]
    exact ⟨nil_len, nil_len⟩
  · by_cases h2 : sgS (rM n') (rX n') ≤ 0
    · unfold roundS
      rw [if_neg h, if_pos h2]
      exact ⟨nil_len, nil_len⟩
    · have hh := h
      rw [Bool.not_eq_false, Bool.and_eq_true] at hh
      unfold roundS
      rw [if_neg h, if_neg h2]
      exact told_len' (mulT (roundT (quoT (ratT n d) (ratT n' d')) mode) (ratT n' d')) (Nat.mul_pos (by rw [round_pos]; omega) (rat_pos hh.2))
theorem outerS_len {a b c d x y : List UInt8} : Lens (outerS a b c d x y).1.1.1 (outerS a b c d x y).1.1.2 (outerS a b c d x y).1.2.1 (outerS a b c d x y).1.2.2 := by
  have h1 := roundS_len (n := a) (d := b) (n' := x) (d' := y) (mode := 1)
  have h2 := roundS_len (n := c) (d := d) (n' := x) (d' := y) (mode := 2)
  unfold outerS
  split
  · exact ⟨nil_len, nil_len, nil_len, nil_len⟩
  · split
    · exact ⟨nil_len, nil_len, nil_len, nil_len⟩
    · exact ⟨h1.1, h1.2, h2.1, h2.2⟩
/-- between returns true -/
theorem between_of {R : ((List UInt8 × List UInt8) × (List UInt8 × List UInt8)) × Int} {o : (List UInt8 × List UInt8) × Int} (L : Lens R.1.1.1 R.1.1.2 R.1.2.1 R.1.2.2) (l : o.1.1.length ≤ maxLen ∧ o.1.2.length ≤ maxLen)
    (h : R.2 = 0 → o.2 = 0 → containsB R.1.1.1 R.1.1.2 R.1.2.1 R.1.2.2 o.1.1 o.1.2 = true) (w : World) :
    Calls Tryz.prog 41 #[rngV R.1.1.1 R.1.1.2 R.1.2.1 R.1.2.2, ratV o.1.1 o.1.2, .int .i64 R.2, .int .i64 o.2] w fun e w' => e = .returned (.bool true) ∧ Grown w w' := by
  refine between_yes ⟨R.1.1.1.toArray⟩ ⟨R.1.1.2.toArray⟩ ⟨R.1.2.1.toArray⟩ ⟨R.1.2.2.toArray⟩ ⟨o.1.1.toArray⟩ ⟨o.1.2.toArray⟩ R.2 o.2 w (Lib.hid fun h1 h2 w => ?_) (Lib.hid fun h1 h2 w => ?_)
  · have hc := Contains_any R.1.1.1 R.1.1.2 R.1.2.1 R.1.2.2 o.1.1 o.1.2 w L l.1 l.2
    rw [h h1 h2] at hc
    exact hc
  · have hp := Proper_any R.1.1.1 R.1.1.2 R.1.2.1 R.1.2.2 w L.a L.b L.c L.d
    rw [(contains_iff.1 (h h1 h2)).1] at hp
    exact hp

theorem ExactContains_any (a b c d a' b' c' d' x1 x2 y1 y2 u1 u2 : List UInt8) (w : World) (L : Lens a b c d) (L' : Lens a' b' c' d') (LX : Lens x1 x2 y1 y2) (LU : Lens u1 u2 u1 u2) (hpow : Pow10 w) :
    Calls Tryz.prog 6 #[rngV a b c d, rngV a' b' c' d', ratV x1 x2, ratV y1 y2, ratV u1 u2] w fun e w' => e = .returned (.bool true) ∧ Grown w w' := by
  have SP := Lib.hid fun (w : World) (hw : Pow10 w) => spans_yes w hw
  have C1 := Lib.hid fun w => Contains_any a b c d x1 x2 w L LX.a LX.b
  have C2 := Lib.hid fun w => Contains_any a' b' c' d' y1 y2 w L' LX.c LX.d
  cases hb : (containsB a b c d x1 x2 && containsB a' b' c' d' y1 y2)
  · exact contains_no ⟨a.toArray⟩ ⟨b.toArray⟩ ⟨c.toArray⟩ ⟨d.toArray⟩ ⟨a'.toArray⟩ ⟨b'.toArray⟩ ⟨c'.toArray⟩ ⟨d'.toArray⟩ ⟨x1.toArray⟩ ⟨x2.toArray⟩ ⟨y1.toArray⟩ ⟨y2.toArray⟩ ⟨u1.toArray⟩ ⟨u2.toArray⟩ _ _ w hb C1 C2 SP (Lib.hid hpow)
  · rw [Bool.and_eq_true] at hb
    obtain ⟨h1, h2⟩ := hb
    rw [h1] at C1
    rw [h2] at C2
    have hh := law_hull h1 h2
    have HH := Lib.hid fun w => Hull_any a b c d a' b' c' d' w L L'
    unfold endsR at HH
    rw [hh.1] at HH
    have CHX := Lib.hid fun w => Contains_any _ _ _ _ x1 x2 w (hullS_len L L') LX.a LX.b
    have CHY := Lib.hid fun w => Contains_any _ _ _ _ y1 y2 w (hullS_len L L') LX.c LX.d
    rw [hh.2.1] at CHX
    rw [hh.2.2] at CHY
    exact contains_x ⟨a.toArray⟩ ⟨b.toArray⟩ ⟨c.toArray⟩ ⟨d.toArray⟩ ⟨a'.toArray⟩ ⟨b'.toArray⟩ ⟨c'.toArray⟩ ⟨d'.toArray⟩
      _ _ _ _ _ _ _ _ _ _ _ _ _ _ _ _ _ _ _ _ _ _ _ _ _ _ _ _
      ⟨x1.toArray⟩ ⟨x2.toArray⟩ ⟨y1.toArray⟩ ⟨y2.toArray⟩ ⟨u1.toArray⟩ ⟨u2.toArray⟩ _ _ _ _ _ _ _ _ _ _ _ _ _ _ _ _ _ _ (containsB a' b' c' d' x1 x2) w C1 C2 SP
      (Lib.hid fun w hw => Range_plus a b c d a' b' c' d' w L L' hw) (Lib.hid fun w hw => Add_any x1 x2 y1 y2 w LX.a LX.b LX.c LX.d hw) (Lib.hid fun w => between_of (rangeS_len add_pos) opS_len (law_plus h1 h2) w)
      (Lib.hid fun w hw => Range_sub a b c d a' b' c' d' w L L' hw) (Lib.hid fun w hw => Sub_any x1 x2 y1 y2 w LX.a LX.b LX.c LX.d hw) (Lib.hid fun w => between_of (rangeS_len sub_pos) opS_len (law_minus h1 h2) w)
      (Lib.hid fun w hw => Range_mul a b c d a' b' c' d' w L L' hw) (Lib.hid fun w hw => Mul_any x1 x2 y1 y2 w LX.a LX.b LX.c LX.d hw) (Lib.hid fun w => between_of (rangeS_len mul_pos') opS_len (law_times h1 h2) w)
      (Lib.hid fun w hw => Over_any a b c d a' b' c' d' w L L' hw) (Lib.hid fun w hw => Quo_any x1 x2 y1 y2 w LX.a LX.b LX.c LX.d hw) (Lib.hid fun w => between_of overS_len opS_len (law_over h1 h2) w)
      HH (Lib.hid fun w => Meet_any a b c d a' b' c' d' w L L') (Lib.hid fun w hw => Outer_any a b c d u1 u2 w L LU.a LU.b hw) CHX CHY
      (Lib.hid fun w => Contains_any a' b' c' d' x1 x2 w L' LX.a LX.b)
      (Lib.hid fun h3 w => by
        have hc := Contains_any _ _ _ _ x1 x2 w (meetS_len L L') LX.a LX.b
        rw [(law_meet h1 h3).2] at hc
        exact hc)
      (Lib.hid fun he w => by
        have hc := Contains_any _ _ _ _ x1 x2 w (outerS_len (a := a) (b := b) (c := c) (d := d) (x := u1) (y := u2)) LX.a LX.b
        rw [law_outer h1 he] at hc
        exact hc)
      (Lib.hid fun h3 => (law_meet h1 h3).1) (Lib.hid hpow)
end Go.Proofs.YtnohidkmjclojaaGreatDoor
