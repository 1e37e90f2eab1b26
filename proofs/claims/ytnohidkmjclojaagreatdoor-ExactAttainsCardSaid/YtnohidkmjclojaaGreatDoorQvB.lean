/- Plain facts: fractions in texts as rational numbers; what lies between the ends. -/
import Derived.Test.YtnohidkmjclojaaGreatDoorValT
namespace Go.Proofs.YtnohidkmjclojaaGreatDoor

/-- the number that a fraction in texts is -/
def vq (n d : List UInt8) : Rat := qv (ratT n d)
theorem rat_pos {n d : List UInt8} (h : validB n d = true) : 0 < (ratT n d).2.2 := (of_valid h).pos
theorem rM_sgn (m : Bool) (x : Nat) : rM (sgnText m x) = m := by
  unfold rM
  cases m
  · have := (sgn_head false x)
    simp only [Bool.false_eq_true, iff_false] at this
    exact decide_eq_false this
  · exact decide_eq_true ((sgn_head true x).2 rfl)
theorem told_ok {t : Tri} (h : 0 < t.2.2) (e : (toldT t).2 = 0) : validB (toldT t).1.1 (toldT t).1.2 = true ∧ ratT (toldT t).1.1 (toldT t).1.2 = lowT t := by
  have hp := low_pos h
  by_cases hc : 60 < (Lib.decDigits (t.2.1 / Nat.gcd t.2.1 t.2.2)).length ∨ 60 < (Lib.decDigits (t.2.2 / Nat.gcd t.2.1 t.2.2)).length
  · unfold toldT toldS at e
    rw [if_pos hc] at e
    exact absurd e (by decide)
  · have ht : toldT t = ((sgnText (lowT t).1 (lowT t).2.1, Lib.decDigits (lowT t).2.2), 0) := by
      unfold toldT toldS
      rw [if_neg hc]
      rfl
    rw [ht]
    have hx : (lowT t).2.1 < 10 ^ 60 := by
      rw [← dd_len_le (by omega)]
      show (Lib.decDigits (t.2.1 / Nat.gcd t.2.1 t.2.2)).length ≤ 60
      omega
    have hy : (lowT t).2.2 < 10 ^ 60 := by
      rw [← dd_len_le (by omega)]
      show (Lib.decDigits (t.2.2 / Nat.gcd t.2.1 t.2.2)).length ≤ 60
      omega
    have hr : IsRat (sgnText (lowT t).1 (lowT t).2.1) (Lib.decDigits (lowT t).2.2) (lowT t).1 (lowT t).2.1 (lowT t).2.2 := by
      refine ⟨rfl, rfl, ?_, hp, hx, hy, ?_⟩
      · exact Nat.coprime_div_gcd_div_gcd (Nat.gcd_pos_of_pos_right _ h)
      · intro hm
        unfold lowT at hm ⊢
        simp only [Bool.and_eq_true, decide_eq_true_eq] at hm
        exact hm.2
    refine ⟨valid_of hr, ?_⟩
    unfold ratT rX
    rw [rM_sgn, cut_sgn, dd_val, dd_val]
theorem told_vq {t : Tri} (h : 0 < t.2.2) (e : (toldT t).2 = 0) : vq (toldT t).1.1 (toldT t).1.2 = qv t := by
  unfold vq
  rw [(told_ok h e).2, qv_low h]
theorem told_congr {p q : Tri} (hp : 0 < p.2.2) (hq : 0 < q.2.2) (h : qv p = qv q) : toldT p = toldT q := by
  have hl := low_congr hp hq h
  have h1 : (lowT p).2.1 = (lowT q).2.1 := by rw [hl]
  have h2 : (lowT p).2.2 = (lowT q).2.2 := by rw [hl]
  have h3 : (lowT p).1 = (lowT q).1 := by rw [hl]
  unfold lowT at h1 h2 h3
  dsimp only at h1 h2 h3
  unfold toldT toldS
  rw [h1, h2, ← h3, h1]
theorem told_low {t : Tri} (h : 0 < t.2.2) : toldT (lowT t) = toldT t := told_congr (low_pos h) h (qv_low h)
theorem cmp_le {n d n' d' : List UInt8} (h : validB n d = true) (h' : validB n' d' = true) : cmpS n d n' d' ≤ 0 ↔ vq n d ≤ vq n' d' := by
  unfold cmpS
  rw [h, h', if_neg (by decide)]
  exact ord_le (p := ratT n d) (q := ratT n' d') (rat_pos h) (rat_pos h')
theorem cmp_gt {n d n' d' : List UInt8} (h : validB n d = true) (h' : validB n' d' = true) : cmpS n d n' d' > 0 ↔ vq n' d' < vq n d := by
  unfold cmpS
  rw [h, h', if_neg (by decide)]
  exact ord_gt (p := ratT n d) (q := ratT n' d') (rat_pos h) (rat_pos h')
theorem cmp_lt {n d n' d' : List UInt8} (h : validB n d = true) (h' : validB n' d' = true) : cmpS n d n' d' < 0 ↔ vq n d < vq n' d' := by
  unfold cmpS
  rw [h, h', if_neg (by decide)]
  exact ord_lt (p := ratT n d) (q := ratT n' d') (rat_pos h) (rat_pos h')
theorem proper_iff {a b c d : List UInt8} : properB a b c d = true ↔ validB a b = true ∧ validB c d = true ∧ vq a b ≤ vq c d := by
  constructor
  · intro h
    obtain ⟨h1, h2, h3⟩ := proper_valid h
    exact ⟨h1, h2, (cmp_le h1 h2).1 h3⟩
  · rintro ⟨h1, h2, h3⟩
    unfold properB
    rw [h1, h2]
    simpa using (cmp_le h1 h2).2 h3
theorem contains_iff {a b c d x y : List UInt8} : containsB a b c d x y = true ↔ properB a b c d = true ∧ validB x y = true ∧ vq a b ≤ vq x y ∧ vq x y ≤ vq c d := by
  unfold containsB
  simp only [Bool.and_eq_true, decide_eq_true_eq]
  constructor
  · rintro ⟨h1, h2, h3, h4⟩
    obtain ⟨v1, v2, -⟩ := proper_valid h1
    exact ⟨h1, h2, (cmp_le v1 h2).1 h3, (cmp_le h2 v2).1 h4⟩
  · rintro ⟨h1, h2, h3, h4⟩
    obtain ⟨v1, v2, -⟩ := proper_valid h1
    exact ⟨h1, h2, (cmp_le v1 h2).2 h3, (cmp_le h2 v2).2 h4⟩

/-- the ends that are told, of a list of values -/
theorem ends_ok {t : Tri} {l : List Tri} (hp : ∀ x ∈ t :: l, 0 < x.2.2) (h : (endsS t l).2 = 0) :
    ∃ lo hi, lo ∈ t :: l ∧ hi ∈ t :: l ∧ (endsS t l).1 = ((toldT lo).1, (toldT hi).1) ∧ (toldT lo).2 = 0 ∧ (toldT hi).2 = 0 ∧ (∀ x ∈ t :: l, qv lo ≤ qv x) ∧ (∀ x ∈ t :: l, qv x ≤ qv hi) := by
  have m1 := best_mem ordT (-1) l t
  have m2 := best_mem ordT 1 l t
  have b1 := best_min ordT qv (fun x => 0 < x.2.2) (fun x y hx hy => ord_lt hx hy) l t (hp t List.mem_cons_self) (fun x hx => hp x (List.mem_cons_of_mem _ hx))
  have b2 := best_max ordT qv (fun x => 0 < x.2.2) (fun x y hx hy => ord_gt hx hy) l t (hp t List.mem_cons_self) (fun x hx => hp x (List.mem_cons_of_mem _ hx))
  refine ⟨_, _, m1, m2, ?_, ?_, ?_, b1, b2⟩
  · unfold endsS at h ⊢
    split
    · rename_i hc; rw [if_pos hc] at h; exact absurd h (by decide)
    · rfl
  · unfold endsS at h
    split at h
    · exact absurd h (by decide)
    · rename_i hc; exact Decidable.not_not.1 fun e => hc (.inl e)
  · unfold endsS at h
    split at h
    · exact absurd h (by decide)
    · rename_i hc; exact Decidable.not_not.1 fun e => hc (.inr e)
/-- what lies between values for ends lies in the range -/
theorem between_ends {t : Tri} {l : List Tri} {z : Tri} (hp : ∀ x ∈ t :: l, 0 < x.2.2) (hz : 0 < z.2.2) (h : (endsS t l).2 = 0) (hzt : (toldT z).2 = 0)
    (h1 : ∃ x ∈ t :: l, qv x ≤ qv z) (h2 : ∃ x ∈ t :: l, qv z ≤ qv x) :
    containsB (endsS t l).1.1.1 (endsS t l).1.1.2 (endsS t l).1.2.1 (endsS t l).1.2.2 (toldT z).1.1 (toldT z).1.2 = true := by
  obtain ⟨lo, hi, m1, m2, he, e1, e2, b1, b2⟩ := ends_ok hp h
  obtain ⟨x, hx, hxz⟩ := h1
  obtain ⟨y, hy, hyz⟩ := h2
  rw [he]
  dsimp only
  have hlo := b1 x hx
  have hhi := b2 y hy
  have hll := b1 hi m2
  rw [contains_iff, proper_iff]
  rw [told_vq (hp lo m1) e1, told_vq (hp hi m2) e2, told_vq hz hzt]
  exact ⟨⟨(told_ok (hp lo m1) e1).1, (told_ok (hp hi m2) e2).1, hll⟩, (told_ok hz hzt).1, by grind, by grind⟩
theorem ops_ok {n d n' d' : List UInt8} {t : Tri} (h : validB n d = true) (h' : validB n' d' = true) (e : (opS n d n' d' t).2 = 0) : t.2.2 ≠ 0 ∧ opS n d n' d' t = toldT t ∧ (toldT t).2 = 0 := by
  unfold opS bothS at e ⊢
  rw [h, h'] at e ⊢
  rw [if_neg (by decide)] at e ⊢
  by_cases h0 : t.2.2 = 0
  · rw [if_pos h0] at e; exact absurd e (by decide)
  · rw [if_neg h0] at e ⊢
    exact ⟨h0, rfl, e⟩

/-- a rule for sums, differences, products and quotients of what lies in two ranges -/
theorem between_span {op : Tri → Tri → Tri} {a b c d a' b' c' d' x y x' y' : List UInt8} (h1 : validB x y = true) (h2 : validB x' y' = true)
    (hp : ∀ p q, (p = ratT a b ∨ p = ratT c d) → (q = ratT a' b' ∨ q = ratT c' d') → 0 < (op p q).2.2)
    (hr : (spanS op (ratT a b) (ratT c d) (ratT a' b') (ratT c' d')).2 = 0) (he : (opS x y x' y' (op (ratT x y) (ratT x' y'))).2 = 0)
    (hlo : ∃ p q, (p = ratT a b ∨ p = ratT c d) ∧ (q = ratT a' b' ∨ q = ratT c' d') ∧ qv (op p q) ≤ qv (op (ratT x y) (ratT x' y')))
    (hhi : ∃ p q, (p = ratT a b ∨ p = ratT c d) ∧ (q = ratT a' b' ∨ q = ratT c' d') ∧ qv (op (ratT x y) (ratT x' y')) ≤ qv (op p q)) :
    containsB (spanS op (ratT a b) (ratT c d) (ratT a' b') (ratT c' d')).1.1.1 (spanS op (ratT a b) (ratT c d) (ratT a' b') (ratT c' d')).1.1.2
      (spanS op (ratT a b) (ratT c d) (ratT a' b') (ratT c' d')).1.2.1 (spanS op (ratT a b) (ratT c d) (ratT a' b') (ratT c' d')).1.2.2
      (opS x y x' y' (op (ratT x y) (ratT x' y'))).1.1 (opS x y x' y' (op (ratT x y) (ratT x' y'))).1.2 = true := by
  obtain ⟨hz, ho, ht⟩ := ops_ok h1 h2 he
  rw [ho]
  unfold spanS at hr ⊢
  have hmem : ∀ p q, (p = ratT a b ∨ p = ratT c d) → (q = ratT a' b' ∨ q = ratT c' d') → lowT (op p q) ∈ [lowT (op (ratT a b) (ratT a' b')), lowT (op (ratT a b) (ratT c' d')), lowT (op (ratT c d) (ratT a' b')), lowT (op (ratT c d) (ratT c' d'))] := by
    rintro p q (rfl | rfl) (rfl | rfl) <;> simp
  refine between_ends ?_ (Nat.pos_of_ne_zero hz) hr ht ?_ ?_
  · intro t ht
    simp only [List.mem_cons, List.not_mem_nil, or_false] at ht
    rcases ht with rfl | rfl | rfl | rfl
    · exact low_pos (hp _ _ (.inl rfl) (.inl rfl))
    · exact low_pos (hp _ _ (.inl rfl) (.inr rfl))
    · exact low_pos (hp _ _ (.inr rfl) (.inl rfl))
    · exact low_pos (hp _ _ (.inr rfl) (.inr rfl))
  · obtain ⟨p, q, hp', hq', hle⟩ := hlo
    exact ⟨_, hmem p q hp' hq', by rw [qv_low (hp p q hp' hq')]; exact hle⟩
  · obtain ⟨p, q, hp', hq', hle⟩ := hhi
    exact ⟨_, hmem p q hp' hq', by rw [qv_low (hp p q hp' hq')]; exact hle⟩
end Go.Proofs.YtnohidkmjclojaaGreatDoor
