/- Plain facts: values as rational numbers, order, lowest terms, products of ranges, the best of a list. -/
import Derived.Test.YtnohidkmjclojaaGreatDoorValH
import Derived.Test.YtnohidkmjclojaaGreatDoorValK
namespace Go.Proofs.YtnohidkmjclojaaGreatDoor

/-- the signed numerator -/
def sn (m : Bool) (x : Nat) : Int := if m then -(x : Int) else x
/-- the number that a value is -/
def qv (t : Tri) : Rat := mkRat (sn t.1 t.2.1) t.2.2

theorem sn_sum (a b : Bool) (x y : Nat) : sn (sumS a x b y).1 (sumS a x b y).2 = sn a x + sn b y := by
  unfold sumS sn
  cases a <;> cases b <;> simp <;> (try omega) <;> (split <;> simp <;> omega)
theorem sn_neg (a : Bool) (x : Nat) : sn (!a) x = - sn a x := by unfold sn; cases a <;> simp
theorem sn_mul (a b : Bool) (x y : Nat) : sn (a != b) (x * y) = sn a x * sn b y := by
  unfold sn; cases a <;> cases b <;> simp [Int.neg_mul, Int.mul_neg]
theorem sn_scale (a : Bool) (x y : Nat) : sn a (x * y) = sn a x * (y : Int) := by
  unfold sn; cases a <;> simp [Int.neg_mul]
theorem sn_zero {a : Bool} {x : Nat} : sn a x = 0 ↔ x = 0 := by unfold sn; cases a <;> simp
theorem sn_false (x : Nat) : sn false x = x := rfl

theorem qv_div (t : Tri) : qv t = (sn t.1 t.2.1 : Rat) / (t.2.2 : Rat) := by
  unfold qv
  rw [Rat.mkRat_eq_div]
theorem natRat_pos {y : Nat} (h : 0 < y) : (0 : Rat) < (y : Rat) := by exact_mod_cast h
theorem qv_add {p q : Tri} (hp : 0 < p.2.2) (hq : 0 < q.2.2) : qv (addT p q) = qv p + qv q := by
  unfold qv addT
  dsimp only
  rw [sn_sum, sn_scale, sn_scale, Rat.mkRat_add_mkRat _ _ (by omega) (by omega)]
theorem qv_neg (p : Tri) : qv (negT p) = - qv p := by
  unfold qv negT
  dsimp only
  rw [sn_neg, Rat.neg_mkRat]
theorem qv_mul (p q : Tri) : qv (mulT p q) = qv p * qv q := by
  unfold qv mulT
  dsimp only
  rw [sn_mul, Rat.mkRat_mul_mkRat]
theorem qv_quo {p q : Tri} (hp : 0 < p.2.2) (hq : 0 < q.2.2) (hx : 0 < q.2.1) : qv (quoT p q) * qv q = qv p := by
  unfold qv quoT
  dsimp only
  rw [Rat.mkRat_mul_mkRat, Rat.mkRat_eq_iff]
  · rw [sn_mul, Int.natCast_mul, Int.natCast_mul]
    have : sn q.1 q.2.2 * sn q.1 q.2.1 = q.2.2 * q.2.1 := by
      unfold sn; cases q.1 <;> simp [Int.neg_mul, Int.mul_neg]
    have e : sn p.1 p.2.1 * sn q.1 q.2.2 * sn q.1 q.2.1 = sn p.1 p.2.1 * (sn q.1 q.2.2 * sn q.1 q.2.1) := by ac_rfl
    rw [e, this]
    ac_rfl
  · exact Nat.ne_of_gt (Nat.mul_pos (Nat.mul_pos hp hx) hq)
  · omega
theorem qv_le_iff {p q : Tri} (hp : 0 < p.2.2) (hq : 0 < q.2.2) : qv p ≤ qv q ↔ sn p.1 p.2.1 * (q.2.2 : Int) ≤ sn q.1 q.2.1 * (p.2.2 : Int) := by
  rw [Rat.le_iff_sub_nonneg]
  unfold qv
  rw [Rat.sub_eq_add_neg, Rat.neg_mkRat, Rat.mkRat_add_mkRat _ _ (by omega) (by omega), ← Rat.divInt_ofNat, Rat.divInt_nonneg_iff_of_pos_right (by have := Nat.mul_pos hq hp; omega), Int.neg_mul]
  omega
theorem qv_eq_iff {p q : Tri} (hp : 0 < p.2.2) (hq : 0 < q.2.2) : qv p = qv q ↔ sn p.1 p.2.1 * (q.2.2 : Int) = sn q.1 q.2.1 * (p.2.2 : Int) :=
  Rat.mkRat_eq_iff (by omega) (by omega)
theorem ord_sum (p q : Tri) : sn (sumS p.1 (p.2.1 * q.2.2) (!q.1) (q.2.1 * p.2.2)).1 (sumS p.1 (p.2.1 * q.2.2) (!q.1) (q.2.1 * p.2.2)).2 = sn p.1 p.2.1 * (q.2.2 : Int) - sn q.1 q.2.1 * (p.2.2 : Int) := by
  rw [sn_sum, sn_neg, sn_scale, sn_scale]
  omega
theorem ord_sign (a : Bool) (x : Nat) : (if x = 0 then (0 : Int) else if a then -1 else 1) = (if sn a x = 0 then 0 else if sn a x < 0 then -1 else 1) := by
  unfold sn
  cases a <;> by_cases h : x = 0 <;> simp [h] <;> omega
theorem ord_def (p q : Tri) : ordT p q = if sn p.1 p.2.1 * (q.2.2 : Int) - sn q.1 q.2.1 * (p.2.2 : Int) = 0 then 0 else if sn p.1 p.2.1 * (q.2.2 : Int) - sn q.1 q.2.1 * (p.2.2 : Int) < 0 then -1 else 1 := by
  unfold ordT ordS
  rw [ord_sign, ord_sum]
theorem ord_le {p q : Tri} (hp : 0 < p.2.2) (hq : 0 < q.2.2) : ordT p q ≤ 0 ↔ qv p ≤ qv q := by
  rw [qv_le_iff hp hq, ord_def]
  split <;> (try split) <;> omega
theorem ord_gt {p q : Tri} (hp : 0 < p.2.2) (hq : 0 < q.2.2) : ordT p q > 0 ↔ qv q < qv p := by
  rw [← Rat.not_le, ← ord_le hp hq]
  omega
theorem ord_eq {p q : Tri} (hp : 0 < p.2.2) (hq : 0 < q.2.2) : ordT p q = 0 ↔ qv p = qv q := by
  rw [qv_eq_iff hp hq, ord_def]
  split <;> (try split) <;> omega
theorem ord_lt {p q : Tri} (hp : 0 < p.2.2) (hq : 0 < q.2.2) : ordT p q < 0 ↔ qv p < qv q := by
  rw [← Rat.not_le, qv_le_iff hq hp, ord_def]
  split <;> (try split) <;> omega
theorem sg_pos {t : Tri} (h : 0 < t.2.2) : 0 < sgS t.1 t.2.1 ↔ 0 < qv t := by
  rw [← Rat.not_le]
  have : (0 : Rat) = qv (false, 0, 1) := rfl
  rw [this, qv_le_iff h (by show 0 < 1; omega)]
  unfold sgS sn
  cases t.1 <;> simp <;> by_cases h0 : t.2.1 = 0 <;> simp [h0] <;> omega
theorem sg_neg {t : Tri} (h : 0 < t.2.2) : sgS t.1 t.2.1 < 0 ↔ qv t < 0 := by
  rw [← Rat.not_le]
  have : (0 : Rat) = qv (false, 0, 1) := rfl
  rw [this, qv_le_iff (by show 0 < 1; omega) h]
  unfold sgS sn
  cases t.1 <;> simp <;> by_cases h0 : t.2.1 = 0 <;> simp [h0] <;> omega

theorem low_unique {x y x' y' : Nat} (hy : 0 < y) (hy' : 0 < y') (h : x * y' = x' * y) : x / Nat.gcd x y = x' / Nat.gcd x' y' ∧ y / Nat.gcd x y = y' / Nat.gcd x' y' := by
  have hg : 0 < Nat.gcd x y := Nat.gcd_pos_of_pos_right _ hy
  have hg' : 0 < Nat.gcd x' y' := Nat.gcd_pos_of_pos_right _ hy'
  have c := Nat.coprime_div_gcd_div_gcd hg
  have c' := Nat.coprime_div_gcd_div_gcd hg'
  obtain ⟨a, ha⟩ := Nat.gcd_dvd_left x y
  obtain ⟨b, hb⟩ := Nat.gcd_dvd_right x y
  obtain ⟨a', ha'⟩ := Nat.gcd_dvd_left x' y'
  obtain ⟨b', hb'⟩ := Nat.gcd_dvd_right x' y'
  have e1 : x / Nat.gcd x y = a := Nat.div_eq_of_eq_mul_right hg ha
  have e2 : y / Nat.gcd x y = b := Nat.div_eq_of_eq_mul_right hg hb
  have e3 : x' / Nat.gcd x' y' = a' := Nat.div_eq_of_eq_mul_right hg' ha'
  have e4 : y' / Nat.gcd x' y' = b' := Nat.div_eq_of_eq_mul_right hg' hb'
  rw [e1, e2] at c
  rw [e3, e4] at c'
  rw [e1, e2, e3, e4]
  have hab : a * b' = a' * b := by
    generalize Nat.gcd x y = g at *
    generalize Nat.gcd x' y' = g' at *
    rw [ha, hb'] at h
    rw [ha', hb] at h
    have : (g * g') * (a * b') = (g * g') * (a' * b) := by
      calc (g * g') * (a * b') = g * a * (g' * b') := by ac_rfl
        _ = g' * a' * (g * b) := h
        _ = _ := by ac_rfl
    exact Nat.eq_of_mul_eq_mul_left (Nat.mul_pos hg hg') this
  have d1 : a ∣ a' := c.dvd_of_dvd_mul_right ⟨b', hab.symm⟩
  have d2 : a' ∣ a := c'.dvd_of_dvd_mul_right ⟨b, hab⟩
  have d3 : b ∣ b' := c.symm.dvd_of_dvd_mul_left ⟨a', by rw [hab]; ac_rfl⟩
  have d4 : b' ∣ b := c'.symm.dvd_of_dvd_mul_left ⟨a, by rw [← hab]; ac_rfl⟩
  exact ⟨Nat.dvd_antisymm d1 d2, Nat.dvd_antisymm d3 d4⟩

theorem q_mul_mono {a b c : Rat} (h : a ≤ b) (hc : 0 ≤ c) : a * c ≤ b * c := by
  have := Rat.mul_le_mul_of_nonneg_left h hc
  rw [Rat.mul_comm a, Rat.mul_comm b]; exact this
theorem q_mul_anti {a b c : Rat} (h : a ≤ b) (hc : c ≤ 0) : b * c ≤ a * c := by
  have := q_mul_mono h (show 0 ≤ -c by grind)
  grind
/-- a product lies between products of the ends -/
theorem q_box {a b c d x y : Rat} (h1 : a ≤ x) (h2 : x ≤ b) (h3 : c ≤ y) (h4 : y ≤ d) :
    (a * c ≤ x * y ∨ a * d ≤ x * y ∨ b * c ≤ x * y ∨ b * d ≤ x * y) ∧ (x * y ≤ a * c ∨ x * y ≤ a * d ∨ x * y ≤ b * c ∨ x * y ≤ b * d) := by
  have m1 : ∀ z : Rat, (z * c ≤ z * y ∧ z * y ≤ z * d) ∨ (z * d ≤ z * y ∧ z * y ≤ z * c) := by
    intro z
    rcases @Rat.le_total 0 z with hz | hz
    · exact .inl ⟨Rat.mul_le_mul_of_nonneg_left h3 hz, Rat.mul_le_mul_of_nonneg_left h4 hz⟩
    · right
      have e1 := q_mul_anti h3 hz
      have e2 := q_mul_anti h4 hz
      rw [Rat.mul_comm y, Rat.mul_comm c] at e1
      rw [Rat.mul_comm d, Rat.mul_comm y] at e2
      exact ⟨e2, e1⟩
  have m2 : (a * y ≤ x * y ∧ x * y ≤ b * y) ∨ (b * y ≤ x * y ∧ x * y ≤ a * y) := by
    rcases @Rat.le_total 0 y with hy | hy
    · exact .inl ⟨q_mul_mono h1 hy, q_mul_mono h2 hy⟩
    · exact .inr ⟨q_mul_anti h2 hy, q_mul_anti h1 hy⟩
  have ma := m1 a
  have mb := m1 b
  grind
theorem q_inv_anti {c y : Rat} (hc : 0 < c) (h : c ≤ y) : y⁻¹ ≤ c⁻¹ := by
  have hy : 0 < y := by grind
  have h1 : c⁻¹ * c = 1 := Rat.inv_mul_cancel _ (by grind)
  have h2 : y⁻¹ * y = 1 := Rat.inv_mul_cancel _ (by grind)
  have p1 : 0 < c⁻¹ := Rat.inv_pos.2 hc
  have p2 : 0 < y⁻¹ := Rat.inv_pos.2 hy
  -- y⁻¹ = y⁻¹ * c⁻¹ * c ≤ y⁻¹ * c⁻¹ * y = c⁻¹
  have := Rat.mul_le_mul_of_nonneg_left h (Rat.le_of_lt (Rat.mul_pos p2 p1))
  have e1 : y⁻¹ * c⁻¹ * c = y⁻¹ := by rw [Rat.mul_assoc, h1, Rat.mul_one]
  have e2 : y⁻¹ * c⁻¹ * y = c⁻¹ := by rw [Rat.mul_comm y⁻¹, Rat.mul_assoc, h2, Rat.mul_one]
  rwa [e1, e2] at this
theorem q_inv_neg (a : Rat) : (-a)⁻¹ = -a⁻¹ := by
  by_cases h : a = 0
  · subst h; simp
  · have h1 : (-a)⁻¹ * (-a) = 1 := Rat.inv_mul_cancel _ (by grind)
    have h2 : a⁻¹ * a = 1 := Rat.inv_mul_cancel _ h
    have e : ((-a)⁻¹ + a⁻¹) * a = 0 := by grind
    rcases Rat.mul_eq_zero.1 e with e | e
    · grind
    · exact absurd e h
theorem q_inv_box {c d y : Rat} (h3 : c ≤ y) (h4 : y ≤ d) (h : 0 < c ∨ d < 0) : d⁻¹ ≤ y⁻¹ ∧ y⁻¹ ≤ c⁻¹ := by
  rcases h with h | h
  · exact ⟨q_inv_anti (by grind) h4, q_inv_anti h h3⟩
  · have a1 := q_inv_anti (c := -d) (y := -y) (by grind) (by grind)
    have a2 := q_inv_anti (c := -y) (y := -c) (by grind) (by grind)
    rw [q_inv_neg, q_inv_neg] at a1 a2
    grind

/-- in lowest terms -/
def lowT (t : Tri) : Tri := (t.1 && decide (0 < t.2.1 / Nat.gcd t.2.1 t.2.2), t.2.1 / Nat.gcd t.2.1 t.2.2, t.2.2 / Nat.gcd t.2.1 t.2.2)
theorem low_pos {t : Tri} (h : 0 < t.2.2) : 0 < (lowT t).2.2 := Nat.div_pos (Nat.le_of_dvd h (Nat.gcd_dvd_right _ _)) (Nat.gcd_pos_of_pos_right _ h)
theorem sn_dec (m : Bool) (x : Nat) : sn (m && decide (0 < x)) x = sn m x := by
  unfold sn; cases m <;> simp
  intro h
  omega
theorem qv_low {t : Tri} (h : 0 < t.2.2) : qv (lowT t) = qv t := by
  rw [qv_eq_iff (low_pos h) h]
  unfold lowT
  dsimp only
  rw [sn_dec]
  obtain ⟨a, ha⟩ := Nat.gcd_dvd_left t.2.1 t.2.2
  obtain ⟨b, hb⟩ := Nat.gcd_dvd_right t.2.1 t.2.2
  have hg : 0 < Nat.gcd t.2.1 t.2.2 := Nat.gcd_pos_of_pos_right _ h
  rw [Nat.div_eq_of_eq_mul_right hg ha, Nat.div_eq_of_eq_mul_right hg hb]
  generalize Nat.gcd t.2.1 t.2.2 = g at *
  have e : sn t.1 t.2.1 = sn t.1 a * (g : Int) := by rw [← sn_scale, Nat.mul_comm a, ← ha]
  rw [e, hb, Int.natCast_mul]
  ac_rfl
/-- equal values have one lowest form -/
theorem low_congr {p q : Tri} (hp : 0 < p.2.2) (hq : 0 < q.2.2) (h : qv p = qv q) : lowT p = lowT q := by
  rw [qv_eq_iff hp hq] at h
  have hn : p.2.1 * q.2.2 = q.2.1 * p.2.2 := by
    have := congrArg Int.natAbs h
    rw [Int.natAbs_mul, Int.natAbs_mul] at this
    have e : ∀ (m : Bool) x, (sn m x).natAbs = x := by intro m x; unfold sn; cases m <;> simp
    rw [e, e] at this
    simpa using this
  obtain ⟨h1, h2⟩ := low_unique hp hq hn
  unfold lowT
  rw [h1, h2]
  have hs : (p.1 && decide (0 < q.2.1 / Nat.gcd q.2.1 q.2.2)) = (q.1 && decide (0 < q.2.1 / Nat.gcd q.2.1 q.2.2)) := by
    by_cases h0 : 0 < q.2.1 / Nat.gcd q.2.1 q.2.2
    · have hx : 0 < q.2.1 := Nat.pos_of_ne_zero fun h => by rw [h] at h0; simp at h0
      have hx' : 0 < p.2.1 := Nat.pos_of_ne_zero fun h => by
        rw [h, Nat.zero_mul] at hn
        have := Nat.mul_pos hx hp
        omega
      have a1 : 0 < p.2.1 * q.2.2 := Nat.mul_pos hx' hq
      have a2 : 0 < q.2.1 * p.2.2 := Nat.mul_pos hx hp
      rw [← sn_scale, ← sn_scale] at h
      have : p.1 = q.1 := by
        unfold sn at h
        cases hpp : p.1 <;> cases hqq : q.1 <;> rw [hpp, hqq] at h <;> simp at h <;> first | rfl | (exfalso; omega)
      rw [this]
    · simp [h0]
  rw [hs]
theorem low_low {t : Tri} (h : 0 < t.2.2) : lowT (lowT t) = lowT t := low_congr (low_pos h) h (qv_low h)

theorem best_mem {α : Type} (f : α → α → Int) (way : Int) (l : List α) : ∀ b, bestOf f way b l ∈ b :: l := by
  induction l with
  | nil => intro b; exact List.mem_singleton.2 rfl
  | cons x l ih =>
    intro b
    have := ih (if f x b * way > 0 then x else b)
    unfold bestOf
    rcases List.mem_cons.1 this with h | h
    · rw [h]
      split
      · exact List.mem_cons_of_mem _ List.mem_cons_self
      · exact List.mem_cons_self
    · exact List.mem_cons_of_mem _ (List.mem_cons_of_mem _ h)
/-- no one of a list is better than the best, by a total order that the comparison is -/
theorem best_min {α : Type} (f : α → α → Int) (v : α → Rat) (P : α → Prop) (hf : ∀ x y, P x → P y → (f x y < 0 ↔ v x < v y)) (l : List α) :
    ∀ b, P b → (∀ x ∈ l, P x) → ∀ x ∈ b :: l, v (bestOf f (-1) b l) ≤ v x := by
  induction l with
  | nil => intro b _ _ x hx; rw [List.mem_singleton.1 hx]; exact Rat.le_refl
  | cons y l ih =>
    intro b hb hl x hx
    have hy := hl y List.mem_cons_self
    have hl' : ∀ x ∈ l, P x := fun x h => hl x (List.mem_cons_of_mem _ h)
    unfold bestOf
    by_cases h : f y b * -1 > 0
    · rw [if_pos h]
      have h' := (hf y b hy hb).1 (by omega)
      rcases List.mem_cons.1 hx with rfl | hx
      · have := ih y hy hl' y List.mem_cons_self
        grind
      · exact ih y hy hl' x hx
    · rw [if_neg h]
      have h' : ¬ v y < v b := fun e => by have := (hf y b hy hb).2 e; omega
      rcases List.mem_cons.1 hx with rfl | hx
      · exact ih x hb hl' x List.mem_cons_self
      · rcases List.mem_cons.1 hx with rfl | hx
        · have := ih b hb hl' b List.mem_cons_self
          grind
        · exact ih b hb hl' x (List.mem_cons_of_mem _ hx)
theorem best_max {α : Type} (f : α → α → Int) (v : α → Rat) (P : α → Prop) (hf : ∀ x y, P x → P y → (f x y > 0 ↔ v y < v x)) (l : List α) :
    ∀ b, P b → (∀ x ∈ l, P x) → ∀ x ∈ b :: l, v x ≤ v (bestOf f 1 b l) := by
  induction l with
  | nil => intro b _ _ x hx; rw [List.mem_singleton.1 hx]; exact Rat.le_refl
  | cons y l ih =>
    intro b hb hl x hx
    have hy := hl y List.mem_cons_self
    have hl' : ∀ x ∈ l, P x := fun x h => hl x (List.mem_cons_of_mem _ h)
    unfold bestOf
    by_cases h : f y b * 1 > 0
    · rw [if_pos h]
      have h' := (hf y b hy hb).1 (by omega)
      rcases List.mem_cons.1 hx with rfl | hx
      · have := ih y hy hl' y List.mem_cons_self
        grind
      · exact ih y hy hl' x hx
    · rw [if_neg h]
      have h' : ¬ v b < v y := fun e => by have := (hf y b hy hb).2 e; omega
      rcases List.mem_cons.1 hx with rfl | hx
      · exact ih x hb hl' x List.mem_cons_self
      · rcases List.mem_cons.1 hx with rfl | hx
        · have := ih b hb hl' b List.mem_cons_self
          grind
        · exact ih b hb hl' x (List.mem_cons_of_mem _ hx)
end Go.Proofs.YtnohidkmjclojaaGreatDoor
