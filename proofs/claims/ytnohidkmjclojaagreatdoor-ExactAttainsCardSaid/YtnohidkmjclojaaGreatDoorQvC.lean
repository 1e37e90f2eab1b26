/- Plain laws: sums, differences, products, quotients, hull, meet and outer ranges contain what they should. -/
import Derived.Test.YtnohidkmjclojaaGreatDoorQvB
namespace Go.Proofs.YtnohidkmjclojaaGreatDoor

theorem range_ok {op : Tri → Tri → Tri} {a b c d a' b' c' d' : List UInt8} (h : properB a b c d = true) (h' : properB a' b' c' d' = true) : rangeS op a b c d a' b' c' d' = spanS op (ratT a b) (ratT c d) (ratT a' b') (ratT c' d') := by
  unfold rangeS
  rw [h, h', if_neg (by decide)]
theorem qv_sub {p q : Tri} (hp : 0 < p.2.2) (hq : 0 < q.2.2) : qv (subT p q) = qv p - qv q := by
  unfold subT
  rw [qv_add hp (by show 0 < q.2.2; exact hq), qv_neg]
  grind

theorem law_plus {a b c d a' b' c' d' x y x' y' : List UInt8} (h : containsB a b c d x y = true) (h' : containsB a' b' c' d' x' y' = true) (hr : (rangeS addT a b c d a' b' c' d').2 = 0) (he : (opS x y x' y' (addT (ratT x y) (ratT x' y'))).2 = 0) :
    containsB (rangeS addT a b c d a' b' c' d').1.1.1 (rangeS addT a b c d a' b' c' d').1.1.2 (rangeS addT a b c d a' b' c' d').1.2.1 (rangeS addT a b c d a' b' c' d').1.2.2 (opS x y x' y' (addT (ratT x y) (ratT x' y'))).1.1 (opS x y x' y' (addT (ratT x y) (ratT x' y'))).1.2 = true := by
  obtain ⟨p1, v1, l1, u1⟩ := contains_iff.1 h
  obtain ⟨p2, v2, l2, u2⟩ := contains_iff.1 h'
  obtain ⟨w1, w2, -⟩ := proper_iff.1 p1
  obtain ⟨w1', w2', -⟩ := proper_iff.1 p2
  rw [range_ok p1 p2] at hr ⊢
  unfold vq at l1 u1 l2 u2
  refine between_span v1 v2 ?_ hr he ⟨_, _, .inl rfl, .inl rfl, ?_⟩ ⟨_, _, .inr rfl, .inr rfl, ?_⟩
  · rintro p q (rfl | rfl) (rfl | rfl)
    · exact Nat.mul_pos (rat_pos w1) (rat_pos w1')
    · exact Nat.mul_pos (rat_pos w1) (rat_pos w2')
    · exact Nat.mul_pos (rat_pos w2) (rat_pos w1')
    · exact Nat.mul_pos (rat_pos w2) (rat_pos w2')
  · rw [qv_add (rat_pos w1) (rat_pos w1'), qv_add (rat_pos v1) (rat_pos v2)]
    grind
  · rw [qv_add (rat_pos w2) (rat_pos w2'), qv_add (rat_pos v1) (rat_pos v2)]
    grind
theorem law_minus {a b c d a' b' c' d' x y x' y' : List UInt8} (h : containsB a b c d x y = true) (h' : containsB a' b' c' d' x' y' = true) (hr : (rangeS subT a b c d a' b' c' d').2 = 0) (he : (opS x y x' y' (subT (ratT x y) (ratT x' y'))).2 = 0) :
    containsB (rangeS subT a b c d a' b' c' d').1.1.1 (rangeS subT a b c d a' b' c' d').1.1.2 (rangeS subT a b c d a' b' c' d').1.2.1 (rangeS subT a b c d a' b' c' d').1.2.2 (opS x y x' y' (subT (ratT x y) (ratT x' y'))).1.1 (opS x y x' y' (subT (ratT x y) (ratT x' y'))).1.2 = true := by
  obtain ⟨p1, v1, l1, u1⟩ := contains_iff.1 h
  obtain ⟨p2, v2, l2, u2⟩ := contains_iff.1 h'
  obtain ⟨w1, w2, -⟩ := proper_iff.1 p1
  obtain ⟨w1', w2', -⟩ := proper_iff.1 p2
  rw [range_ok p1 p2] at hr ⊢
  unfold vq at l1 u1 l2 u2
  refine between_span v1 v2 ?_ hr he ⟨_, _, .inl rfl, .inr rfl, ?_⟩ ⟨_, _, .inr rfl, .inl rfl, ?_⟩
  · rintro p q (rfl | rfl) (rfl | rfl)
    · exact Nat.mul_pos (rat_pos w1) (rat_pos w1')
    · exact Nat.mul_pos (rat_pos w1) (rat_pos w2')
    · exact Nat.mul_pos (rat_pos w2) (rat_pos w1')
    · exact Nat.mul_pos (rat_pos w2) (rat_pos w2')
  · rw [qv_sub (rat_pos w1) (rat_pos w2'), qv_sub (rat_pos v1) (rat_pos v2)]
    grind
  · rw [qv_sub (rat_pos w2) (rat_pos w1'), qv_sub (rat_pos v1) (rat_pos v2)]
    grind
theorem law_times {a b c d a' b' c' d' x y x' y' : List UInt8} (h : containsB a b c d x y = true) (h' : containsB a' b' c' d' x' y' = true) (hr : (rangeS mulT a b c d a' b' c' d').2 = 0) (he : (opS x y x' y' (mulT (ratT x y) (ratT x' y'))).2 = 0) :
    containsB (rangeS mulT a b c d a' b' c' d').1.1.1 (rangeS mulT a b c d a' b' c' d').1.1.2 (rangeS mulT a b c d a' b' c' d').1.2.1 (rangeS mulT a b c d a' b' c' d').1.2.2 (opS x y x' y' (mulT (ratT x y) (ratT x' y'))).1.1 (opS x y x' y' (mulT (ratT x y) (ratT x' y'))).1.2 = true := by
  obtain ⟨p1, v1, l1, u1⟩ := contains_iff.1 h
  obtain ⟨p2, v2, l2, u2⟩ := contains_iff.1 h'
  obtain ⟨w1, w2, -⟩ := proper_iff.1 p1
  obtain ⟨w1', w2', -⟩ := proper_iff.1 p2
  rw [range_ok p1 p2] at hr ⊢
  unfold vq at l1 u1 l2 u2
  obtain ⟨b1, b2⟩ := q_box l1 u1 l2 u2
  refine between_span v1 v2 ?_ hr he ?_ ?_
  · rintro p q (rfl | rfl) (rfl | rfl)
    · exact Nat.mul_pos (rat_pos w1) (rat_pos w1')
    · exact Nat.mul_pos (rat_pos w1) (rat_pos w2')
    · exact Nat.mul_pos (rat_pos w2) (rat_pos w1')
    · exact Nat.mul_pos (rat_pos w2) (rat_pos w2')
  · rcases b1 with e | e | e | e
    · exact ⟨_, _, .inl rfl, .inl rfl, by rw [qv_mul, qv_mul]; exact e⟩
    · exact ⟨_, _, .inl rfl, .inr rfl, by rw [qv_mul, qv_mul]; exact e⟩
    · exact ⟨_, _, .inr rfl, .inl rfl, by rw [qv_mul, qv_mul]; exact e⟩
    · exact ⟨_, _, .inr rfl, .inr rfl, by rw [qv_mul, qv_mul]; exact e⟩
  · rcases b2 with e | e | e | e
    · exact ⟨_, _, .inl rfl, .inl rfl, by rw [qv_mul, qv_mul]; exact e⟩
    · exact ⟨_, _, .inl rfl, .inr rfl, by rw [qv_mul, qv_mul]; exact e⟩
    · exact ⟨_, _, .inr rfl, .inl rfl, by rw [qv_mul, qv_mul]; exact e⟩
    · exact ⟨_, _, .inr rfl, .inr rfl, by rw [qv_mul, qv_mul]; exact e⟩

theorem qv_zero {t : Tri} (h : 0 < t.2.2) : qv t = 0 ↔ t.2.1 = 0 := by
  have : (0 : Rat) = qv (false, 0, 1) := rfl
  rw [this, qv_eq_iff h (by show 0 < 1; omega)]
  show sn t.1 t.2.1 * 1 = 0 * _ ↔ _
  rw [Int.mul_one, Int.zero_mul, sn_zero]
theorem qv_div2 {p q : Tri} (hp : 0 < p.2.2) (hq : 0 < q.2.2) (hx : 0 < q.2.1) : qv (quoT p q) = qv p * (qv q)⁻¹ := by
  have h := qv_quo hp hq hx
  have hne : qv q ≠ 0 := by rw [Ne, qv_zero hq]; omega
  rw [← h, Rat.mul_assoc, Rat.mul_inv_cancel _ hne, Rat.mul_one]
theorem over_ok {a b c d a' b' c' d' : List UInt8} (h : properB a b c d = true) (h' : properB a' b' c' d' = true) (e : (overS a b c d a' b' c' d').2 = 0) :
    overS a b c d a' b' c' d' = spanS quoT (ratT a b) (ratT c d) (ratT a' b') (ratT c' d') ∧ 0 < rX a' ∧ 0 < rX c' ∧ (0 < vq a' b' ∨ vq c' d' < 0) := by
  obtain ⟨w1', w2', hle⟩ := proper_iff.1 h'
  unfold overS at e ⊢
  rw [h, h', if_neg (by decide)] at e ⊢
  by_cases hz : sgS (rM a') (rX a') ≤ 0 ∧ 0 ≤ sgS (rM c') (rX c')
  · rw [if_pos hz] at e; exact absurd e (by decide)
  · rw [if_neg hz] at e ⊢
    have hsg := sg_mono (rat_pos w1') (rat_pos w2') hle
    have e1 : sgS (ratT a' b').1 (ratT a' b').2.1 = sgS (rM a') (rX a') := rfl
    have e2 : sgS (ratT c' d').1 (ratT c' d').2.1 = sgS (rM c') (rX c') := rfl
    have s1 := sg_pos (rat_pos w1')
    have s2 := sg_neg (rat_pos w2')
    rw [e1, e2] at hsg
    rw [e1] at s1
    rw [e2] at s2
    refine ⟨rfl, sg_nonzero (m := rM a') (by omega), sg_nonzero (m := rM c') (by omega), ?_⟩
    by_cases hc : sgS (rM a') (rX a') ≤ 0
    · exact .inr (s2.1 (by omega))
    · exact .inl (s1.1 (by omega))
theorem law_over {a b c d a' b' c' d' x y x' y' : List UInt8} (h : containsB a b c d x y = true) (h' : containsB a' b' c' d' x' y' = true) (hr : (overS a b c d a' b' c' d').2 = 0) (he : (opS x y x' y' (quoT (ratT x y) (ratT x' y'))).2 = 0) :
    containsB (overS a b c d a' b' c' d').1.1.1 (overS a b c d a' b' c' d').1.1.2 (overS a b c d a' b' c' d').1.2.1 (overS a b c d a' b' c' d').1.2.2 (opS x y x' y' (quoT (ratT x y) (ratT x' y'))).1.1 (opS x y x' y' (quoT (ratT x y) (ratT x' y'))).1.2 = true := by
  obtain ⟨p1, v1, l1, u1⟩ := contains_iff.1 h
  obtain ⟨p2, v2, l2, u2⟩ := contains_iff.1 h'
  obtain ⟨w1, w2, -⟩ := proper_iff.1 p1
  obtain ⟨w1', w2', -⟩ := proper_iff.1 p2
  obtain ⟨ho, na, nc, hsg⟩ := over_ok p1 p2 hr
  rw [ho] at hr ⊢
  have hb := q_inv_box l2 u2 hsg
  have nx : 0 < rX x' := by
    rcases Nat.eq_zero_or_pos (rX x') with h0 | h0
    · have : vq x' y' = 0 := (qv_zero (rat_pos v2)).2 h0
      grind
    · exact h0
  unfold vq at l1 u1 hb
  obtain ⟨b1, b2⟩ := q_box l1 u1 hb.1 hb.2
  have hq := @qv_div2
  refine between_span v1 v2 ?_ hr he ?_ ?_
  · rintro p q (rfl | rfl) (rfl | rfl)
    · exact Nat.mul_pos (rat_pos w1) na
    · exact Nat.mul_pos (rat_pos w1) nc
    · exact Nat.mul_pos (rat_pos w2) na
    · exact Nat.mul_pos (rat_pos w2) nc
  · rcases b1 with e | e | e | e
    · exact ⟨_, _, .inl rfl, .inr rfl, by rw [hq (rat_pos w1) (rat_pos w2') nc, hq (rat_pos v1) (rat_pos v2) nx]; exact e⟩
    · exact ⟨_, _, .inl rfl, .inl rfl, by rw [hq (rat_pos w1) (rat_pos w1') na, hq (rat_pos v1) (rat_pos v2) nx]; exact e⟩
    · exact ⟨_, _, .inr rfl, .inr rfl, by rw [hq (rat_pos w2) (rat_pos w2') nc, hq (rat_pos v1) (rat_pos v2) nx]; exact e⟩
    · exact ⟨_, _, .inr rfl, .inl rfl, by rw [hq (rat_pos w2) (rat_pos w1') na, hq (rat_pos v1) (rat_pos v2) nx]; exact e⟩
  · rcases b2 with e | e | e | e
    · exact ⟨_, _, .inl rfl, .inr rfl, by rw [hq (rat_pos w1) (rat_pos w2') nc, hq (rat_pos v1) (rat_pos v2) nx]; exact e⟩
    · exact ⟨_, _, .inl rfl, .inl rfl, by rw [hq (rat_pos w1) (rat_pos w1') na, hq (rat_pos v1) (rat_pos v2) nx]; exact e⟩
    · exact ⟨_, _, .inr rfl, .inr rfl, by rw [hq (rat_pos w2) (rat_pos w2') nc, hq (rat_pos v1) (rat_pos v2) nx]; exact e⟩
    · exact ⟨_, _, .inr rfl, .inl rfl, by rw [hq (rat_pos w2) (rat_pos w1') na, hq (rat_pos v1) (rat_pos v2) nx]; exact e⟩

theorem best_lo {x0 x1 : List UInt8 × List UInt8} (h0 : validB x0.1 x0.2 = true) (h1 : validB x1.1 x1.2 = true) :
    validB (bestR (-1) x0 x1).1 (bestR (-1) x0 x1).2 = true ∧ vq (bestR (-1) x0 x1).1 (bestR (-1) x0 x1).2 ≤ vq x0.1 x0.2 ∧ vq (bestR (-1) x0 x1).1 (bestR (-1) x0 x1).2 ≤ vq x1.1 x1.2 ∧ (bestR (-1) x0 x1 = x0 ∨ bestR (-1) x0 x1 = x1) := by
  have hl := cmp_lt h1 h0
  unfold bestR
  by_cases h : cmpS x1.1 x1.2 x0.1 x0.2 * -1 > 0
  · rw [if_pos h]
    exact ⟨h1, by have := hl.1 (by omega); grind, Rat.le_refl, .inr rfl⟩
  · rw [if_neg h]
    exact ⟨h0, Rat.le_refl, Rat.not_lt.1 fun e => by have := hl.2 e; omega, .inl rfl⟩
theorem best_hi {x0 x1 : List UInt8 × List UInt8} (h0 : validB x0.1 x0.2 = true) (h1 : validB x1.1 x1.2 = true) :
    validB (bestR 1 x0 x1).1 (bestR 1 x0 x1).2 = true ∧ vq x0.1 x0.2 ≤ vq (bestR 1 x0 x1).1 (bestR 1 x0 x1).2 ∧ vq x1.1 x1.2 ≤ vq (bestR 1 x0 x1).1 (bestR 1 x0 x1).2 ∧ (bestR 1 x0 x1 = x0 ∨ bestR 1 x0 x1 = x1) := by
  have hl := cmp_gt h1 h0
  unfold bestR
  by_cases h : cmpS x1.1 x1.2 x0.1 x0.2 * 1 > 0
  · rw [if_pos h]
    exact ⟨h1, by have := hl.1 (by omega); grind, Rat.le_refl, .inr rfl⟩
  · rw [if_neg h]
    exact ⟨h0, Rat.le_refl, Rat.not_lt.1 fun e => by have := hl.2 e; omega, .inl rfl⟩
theorem law_hull {a b c d a' b' c' d' x y x' y' : List UInt8} (h : containsB a b c d x y = true) (h' : containsB a' b' c' d' x' y' = true) :
    (hullS a b c d a' b' c' d').2 = 0 ∧ containsB (hullS a b c d a' b' c' d').1.1.1 (hullS a b c d a' b' c' d').1.1.2 (hullS a b c d a' b' c' d').1.2.1 (hullS a b c d a' b' c' d').1.2.2 x y = true ∧
      containsB (hullS a b c d a' b' c' d').1.1.1 (hullS a b c d a' b' c' d').1.1.2 (hullS a b c d a' b' c' d').1.2.1 (hullS a b c d a' b' c' d').1.2.2 x' y' = true := by
  obtain ⟨p1, v1, l1, u1⟩ := contains_iff.1 h
  obtain ⟨p2, v2, l2, u2⟩ := contains_iff.1 h'
  obtain ⟨w1, w2, e1⟩ := proper_iff.1 p1
  obtain ⟨w1', w2', e2⟩ := proper_iff.1 p2
  obtain ⟨m1, m2, m3, -⟩ := best_lo (x0 := (a, b)) (x1 := (a', b')) w1 w1'
  obtain ⟨n1, n2, n3, -⟩ := best_hi (x0 := (c, d)) (x1 := (c', d')) w2 w2'
  unfold hullS
  rw [p1, p2, if_neg (by decide)]
  dsimp only at m2 m3 n2 n3 ⊢
  refine ⟨rfl, ?_, ?_⟩
  · rw [contains_iff, proper_iff]
    exact ⟨⟨m1, n1, by grind⟩, v1, by grind, by grind⟩
  · rw [contains_iff, proper_iff]
    exact ⟨⟨m1, n1, by grind⟩, v2, by grind, by grind⟩
theorem law_meet {a b c d a' b' c' d' x y : List UInt8} (h : containsB a b c d x y = true) (h' : containsB a' b' c' d' x y = true) :
    (meetS a b c d a' b' c' d').2 = true ∧ containsB (meetS a b c d a' b' c' d').1.1.1 (meetS a b c d a' b' c' d').1.1.2 (meetS a b c d a' b' c' d').1.2.1 (meetS a b c d a' b' c' d').1.2.2 x y = true := by
  obtain ⟨p1, v1, l1, u1⟩ := contains_iff.1 h
  obtain ⟨p2, v2, l2, u2⟩ := contains_iff.1 h'
  obtain ⟨w1, w2, e1⟩ := proper_iff.1 p1
  obtain ⟨w1', w2', e2⟩ := proper_iff.1 p2
  obtain ⟨m1, -, -, m4⟩ := best_hi (x0 := (a, b)) (x1 := (a', b')) w1 w1'
  obtain ⟨n1, -, -, n4⟩ := best_lo (x0 := (c, d)) (x1 := (c', d')) w2 w2'
  have hm : vq (bestR 1 (a, b) (a', b')).1 (bestR 1 (a, b) (a', b')).2 ≤ vq x y := by
    rcases m4 with e | e <;> rw [e]
    · exact l1
    · exact l2
  have hn : vq x y ≤ vq (bestR (-1) (c, d) (c', d')).1 (bestR (-1) (c, d) (c', d')).2 := by
    rcases n4 with e | e <;> rw [e]
    · exact u1
    · exact u2
  have hc : ¬ cmpS (bestR 1 (a, b) (a', b')).1 (bestR 1 (a, b) (a', b')).2 (bestR (-1) (c, d) (c', d')).1 (bestR (-1) (c, d) (c', d')).2 > 0 := by
    rw [cmp_gt m1 n1]
    grind
  unfold meetS
  rw [p1, p2, if_neg (by decide), if_neg hc]
  dsimp only
  refine ⟨rfl, ?_⟩
  rw [contains_iff, proper_iff]
  exact ⟨⟨m1, n1, by grind⟩, v1, hm, hn⟩

theorem round_pos (t : Tri) (mode : Int) : (roundT t mode).2.2 = 1 := rfl
theorem round_down {t : Tri} (h : 0 < t.2.2) : qv (roundT t 1) ≤ qv t := by
  rw [qv_le_iff (by rw [round_pos]; omega) h, round_pos]
  have hd := Nat.div_add_mod t.2.1 t.2.2
  have hm := Nat.mod_lt t.2.1 h
  unfold roundT awayS
  dsimp only
  rw [sn_dec, if_pos rfl]
  obtain ⟨m, x, y⟩ := t
  dsimp only at *
  have e : (y : Int) * (x / y : Nat) + (x % y : Nat) = x := by exact_mod_cast hd
  have e2 : ((x / y : Nat) : Int) * (y : Int) = (y : Int) * (x / y : Nat) := Int.mul_comm _ _
  have e3 : ((x / y + 1 : Nat) : Int) * (y : Int) = (y : Int) * (x / y : Nat) + y := by rw [Int.natCast_add, Int.add_mul, e2]; omega
  cases m
  · simp only [sn, Bool.false_and, Bool.false_eq_true, if_false, Nat.add_zero]
    rw [e2]
    omega
  · by_cases h0 : 0 < x % y
    · simp only [sn, Bool.true_and, h0, decide_true, if_true]
      rw [Int.neg_mul, e3]
      omega
    · simp only [sn, Bool.true_and, h0, decide_false, Bool.false_eq_true, if_false, if_true, Nat.add_zero]
      rw [Int.neg_mul, e2]
      omega
theorem round_up {t : Tri} (h : 0 < t.2.2) : qv t ≤ qv (roundT t 2) := by
  rw [qv_le_iff h (by rw [round_pos]; omega), round_pos]
  have hd := Nat.div_add_mod t.2.1 t.2.2
  have hm := Nat.mod_lt t.2.1 h
  unfold roundT awayS
  dsimp only
  rw [sn_dec, if_neg (show ¬ (2 : Int) = 1 by decide), if_pos (show (2 : Int) = 2 from rfl)]
  obtain ⟨m, x, y⟩ := t
  dsimp only at *
  have e : (y : Int) * (x / y : Nat) + (x % y : Nat) = x := by exact_mod_cast hd
  have e2 : ((x / y : Nat) : Int) * (y : Int) = (y : Int) * (x / y : Nat) := Int.mul_comm _ _
  have e3 : ((x / y + 1 : Nat) : Int) * (y : Int) = (y : Int) * (x / y : Nat) + y := by rw [Int.natCast_add, Int.add_mul, e2]; omega
  have e4 : -((x / y : Nat) : Int) * (y : Int) = -((y : Int) * (x / y : Nat)) := by rw [Int.neg_mul, e2]
  cases m
  · by_cases h0 : 0 < x % y
    · simp only [sn, Bool.not_false, Bool.true_and, h0, decide_true, if_true, Bool.false_eq_true, if_false]
      rw [e3]
      omega
    · simp only [sn, Bool.not_false, Bool.true_and, h0, decide_false, Bool.false_eq_true, if_false, Nat.add_zero]
      rw [e2]
      omega
  · simp only [sn, Bool.not_true, Bool.false_and, Bool.false_eq_true, if_false, if_true, Nat.add_zero]
    rw [e4]
    omega
theorem round_ok {n d n' d' : List UInt8} {mode : Int} (h : validB n d = true) (h' : validB n' d' = true) (hs : ¬ sgS (rM n') (rX n') ≤ 0) (e : (roundS n d n' d' mode).2 = 0) :
    validB (roundS n d n' d' mode).1.1 (roundS n d n' d' mode).1.2 = true ∧ vq (roundS n d n' d' mode).1.1 (roundS n d n' d' mode).1.2 = qv (roundT (quoT (ratT n d) (ratT n' d')) mode) * vq n' d' := by
  have hr : roundS n d n' d' mode = toldT (mulT (roundT (quoT (ratT n d) (ratT n' d')) mode) (ratT n' d')) := by
    unfold roundS
    rw [h, h', if_neg (by decide), if_neg hs]
    rfl
  have hp : 0 < (mulT (roundT (quoT (ratT n d) (ratT n' d')) mode) (ratT n' d')).2.2 := Nat.mul_pos (by rw [round_pos]; omega) (rat_pos h')
  rw [hr] at e ⊢
  exact ⟨(told_ok hp e).1, by rw [told_vq hp e, qv_mul]; rfl⟩
theorem law_outer {a b c d x y u v : List UInt8} (h : containsB a b c d x y = true) (e : (outerS a b c d u v).2 = 0) :
    containsB (outerS a b c d u v).1.1.1 (outerS a b c d u v).1.1.2 (outerS a b c d u v).1.2.1 (outerS a b c d u v).1.2.2 x y = true := by
  obtain ⟨p1, v1, l1, u1⟩ := contains_iff.1 h
  obtain ⟨w1, w2, e1⟩ := proper_iff.1 p1
  unfold outerS at e ⊢
  by_cases hc : (properB a b c d && validB u v && !decide (sgS (rM u) (rX u) ≤ 0)) = false
  · rw [if_pos hc] at e; exact absurd e (by decide)
  · rw [if_neg hc] at e ⊢
    have hc' : (properB a b c d && validB u v && !decide (sgS (rM u) (rX u) ≤ 0)) = true := by rw [Bool.not_eq_false] at hc; exact hc
    simp only [Bool.and_eq_true, Bool.not_eq_true', decide_eq_false_iff_not] at hc'
    obtain ⟨⟨-, hv⟩, hs⟩ := hc'
    by_cases h2 : (roundS a b u v 1).2 ≠ 0 ∨ (roundS c d u v 2).2 ≠ 0
    · rw [if_pos h2] at e; exact absurd e (by decide)
    · rw [if_neg h2]
      dsimp only
      obtain ⟨r1, r2⟩ := round_ok w1 hv hs (Decidable.not_not.1 fun z => h2 (.inl z))
      obtain ⟨s1, s2⟩ := round_ok w2 hv hs (Decidable.not_not.1 fun z => h2 (.inr z))
      have hpos : 0 < vq u v := (sg_pos (rat_pos hv)).1 (by show 0 < sgS (rM u) (rX u); omega)
      have hux : 0 < rX u := sg_nonzero (m := rM u) (by omega)
      have q1 := qv_quo (rat_pos w1) (rat_pos hv) hux
      have q2 := qv_quo (rat_pos w2) (rat_pos hv) hux
      have d1 := q_mul_mono (round_down (t := quoT (ratT a b) (ratT u v)) (Nat.mul_pos (rat_pos w1) hux)) (Rat.le_of_lt hpos)
      have d2 := q_mul_mono (round_up (t := quoT (ratT c d) (ratT u v)) (Nat.mul_pos (rat_pos w2) hux)) (Rat.le_of_lt hpos)
      unfold vq at *
      rw [q1, ← r2] at d1
      rw [q2, ← s2] at d2
      rw [contains_iff, proper_iff]
      unfold vq
      exact ⟨⟨r1, s1, by grind⟩, v1, by grind, by grind⟩
end Go.Proofs.YtnohidkmjclojaaGreatDoor
