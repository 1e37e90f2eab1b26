/- Walks: exact's Plus, Minus, Times. -/
import Derived.Test.YtnohidkmjclojaaGreatDoorValL
namespace Go.Proofs.YtnohidkmjclojaaGreatDoor
open Go.RowKit

theorem low_le (t : Tri) : (lowT t).2.1 ≤ t.2.1 ∧ (lowT t).2.2 ≤ t.2.2 := ⟨Nat.div_le_self _ _, Nat.div_le_self _ _⟩
/-- few digits -/
def few121 (t : Tri) : Prop := t.2.1 < 10 ^ 121 ∧ t.2.2 < 10 ^ 120 ∧ 0 < t.2.2
theorem low_few {t : Tri} (h : few121 t) : few121 (lowT t) := by
  obtain ⟨h1, h2, h3⟩ := h
  exact ⟨Nat.lt_of_le_of_lt (low_le t).1 h1, Nat.lt_of_le_of_lt (low_le t).2 h2, low_pos h3⟩
theorem order_few {p q : Tri} (hp : few121 p) (hq : few121 q) (w : World) : Calls Tryz.prog 132 #[valT p, valT q] w fun e w' => e = .returned (.int .i64 (ordT p q)) ∧ Grown w w' := by
  obtain ⟨h1, h2, h3⟩ := hp
  obtain ⟨g1, g2, g3⟩ := hq
  have m1 := mul_60 h1 g2
  have m2 := mul_60 g1 h2
  exact order_any _ _ _ _ _ _ w (dl_300 h1 (by omega)) (dl_300 h2 (by omega)) (dl_300 g1 (by omega)) (dl_300 g2 (by omega)) (dl_300 m1 (by omega)) (dl_300 m2 (by omega)) (dl_300 (k := 242) (by omega) (by omega))
theorem lowest_few {t : Tri} (h : few121 t) (w : World) : Calls Tryz.prog 129 #[valT t] w fun e w' => e = .returned (valT (lowT t)) ∧ Grown w w' := by
  obtain ⟨h1, h2, h3⟩ := h
  exact lowest_any _ _ _ w (dl_300 h1 (by omega)) (dl_300 (k := 121) (by omega) (by omega)) h3
theorem told_few {t : Tri} (h : few121 t) (w : World) (hw : Pow10 w) : Calls Tryz.prog 130 #[valT t] w fun e w' => e = .returned (opR (toldT t)) ∧ Grown w w' := by
  obtain ⟨h1, h2, h3⟩ := h
  exact told_any _ _ _ w (dl_300 h1 (by omega)) (dl_300 (k := 121) (by omega) (by omega)) h3 hw

/-- the ends of the values for the ends of two ranges -/
def spanS (op : Tri → Tri → Tri) (p0 p1 q0 q1 : Tri) : ((List UInt8 × List UInt8) × (List UInt8 × List UInt8)) × Int :=
  endsS (lowT (op p0 q0)) [lowT (op p0 q1), lowT (op p1 q0), lowT (op p1 q1)]

theorem span_plus (op : Tri → Tri → Tri) (a b c d a' b' c' d' : List UInt8) (w : World) (ha : a.length ≤ maxLen) (hb : b.length ≤ maxLen) (hc : c.length ≤ maxLen) (hd : d.length ≤ maxLen)
    (ha' : a'.length ≤ maxLen) (hb' : b'.length ≤ maxLen) (hc' : c'.length ≤ maxLen) (hd' : d'.length ≤ maxLen)
    (h1 : validB a b = true) (h2 : validB c d = true) (h1' : validB a' b' = true) (h2' : validB c' d' = true)
    (hop : ∀ n m n' m', validB n m = true → validB n' m' = true → (n' = a' ∧ m' = b' ∨ n' = c' ∧ m' = d') → (∀ w, Calls Tryz.prog 75 #[valT (ratT n m), valT (ratT n' m')] w fun e w' => e = .returned (valT (op (ratT n m) (ratT n' m'))) ∧ Grown w w') ∧ few121 (op (ratT n m) (ratT n' m')))
    (hpow : Pow10 w) :
    Calls Tryz.prog 74 #[rngV a b c d, rngV a' b' c' d', .func (.func 75) #[] #[]] w fun e w' => e = .returned (endsR (spanS op (ratT a b) (ratT c d) (ratT a' b') (ratT c' d'))) ∧ Grown w w' := by
  have hd2 : ∀ i k, i < 2 → k < 2 → (∀ w, Calls Tryz.prog 75 #[valT (sel (ratT a b) (ratT c d) i), valT (sel (ratT a' b') (ratT c' d') k)] w fun e w' => e = .returned (valT (op (sel (ratT a b) (ratT c d) i) (sel (ratT a' b') (ratT c' d') k))) ∧ Grown w w') ∧ few121 (op (sel (ratT a b) (ratT c d) i) (sel (ratT a' b') (ratT c' d') k)) := by
    intro i k hi hk
    have e1 : i = 0 ∨ i = 1 := by omega
    have e2 : k = 0 ∨ k = 1 := by omega
    rcases e1 with rfl | rfl <;> rcases e2 with rfl | rfl
    · exact hop a b a' b' h1 h1' (.inl ⟨rfl, rfl⟩)
    · exact hop a b c' d' h1 h2' (.inr ⟨rfl, rfl⟩)
    · exact hop c d a' b' h2 h1' (.inl ⟨rfl, rfl⟩)
    · exact hop c d c' d' h2 h2' (.inr ⟨rfl, rfl⟩)
  have hmem : ∀ x, x ∈ [lowT (op (ratT a b) (ratT a' b')), lowT (op (ratT a b) (ratT c' d')), lowT (op (ratT c d) (ratT a' b')), lowT (op (ratT c d) (ratT c' d'))] → few121 x := by
    intro x hx
    simp only [List.mem_cons, List.not_mem_nil, or_false] at hx
    rcases hx with rfl | rfl | rfl | rfl
    · exact low_few (hd2 0 0 (by omega) (by omega)).2
    · exact low_few (hd2 0 1 (by omega) (by omega)).2
    · exact low_few (hd2 1 0 (by omega) (by omega)).2
    · exact low_few (hd2 1 1 (by omega) (by omega)).2
  exact ends_plus ⟨a.toArray⟩ ⟨b.toArray⟩ ⟨c.toArray⟩ ⟨d.toArray⟩ ⟨a'.toArray⟩ ⟨b'.toArray⟩ ⟨c'.toArray⟩ ⟨d'.toArray⟩ (ratT a b) (ratT c d) (ratT a' b') (ratT c' d')
    (fun n => lowT (op (sel (ratT a b) (ratT c d) (n / 2)) (sel (ratT a' b') (ratT c' d') (n % 2)))) (fun i k => op (sel (ratT a b) (ratT c d) i) (sel (ratT a' b') (ratT c' d') k)) w
    (Lib.hid fun w => values_any a b c d w ha hb hc hd h1 h2) (Lib.hid fun w => values_any a' b' c' d' w ha' hb' hc' hd' h1' h2')
    (Lib.hid fun i k hi hk => (hd2 i k hi hk).1)
    (Lib.hid fun i k hi hk w => by rw [show (2 * i + k) / 2 = i from by omega, show (2 * i + k) % 2 = k from by omega]; exact lowest_few (hd2 i k hi hk).2 w)
    (Lib.hid fun x y hx hy w => order_few (hmem x hx) (hmem y hy) w)
    (Lib.hid fun x hx w hw => told_few (hmem x hx) w hw)
    (Lib.hid hpow) _ (Lib.hid rfl)
theorem span_sub (op : Tri → Tri → Tri) (a b c d a' b' c' d' : List UInt8) (w : World) (ha : a.length ≤ maxLen) (hb : b.length ≤ maxLen) (hc : c.length ≤ maxLen) (hd : d.length ≤ maxLen)
    (ha' : a'.length ≤ maxLen) (hb' : b'.length ≤ maxLen) (hc' : c'.length ≤ maxLen) (hd' : d'.length ≤ maxLen)
    (h1 : validB a b = true) (h2 : validB c d = true) (h1' : validB a' b' = true) (h2' : validB c' d' = true)
    (hop : ∀ n m n' m', validB n m = true → validB n' m' = true → (n' = a' ∧ m' = b' ∨ n' = c' ∧ m' = d') → (∀ w, Calls Tryz.prog 80 #[valT (ratT n m), valT (ratT n' m')] w fun e w' => e = .returned (valT (op (ratT n m) (ratT n' m'))) ∧ Grown w w') ∧ few121 (op (ratT n m) (ratT n' m')))
    (hpow : Pow10 w) :
    Calls Tryz.prog 74 #[rngV a b c d, rngV a' b' c' d', .func (.func 80) #[] #[]] w fun e w' => e = .returned (endsR (spanS op (ratT a b) (ratT c d) (ratT a' b') (ratT c' d'))) ∧ Grown w w' := by
  have hd2 : ∀ i k, i < 2 → k < 2 → (∀ w, Calls Tryz.prog 80 #[valT (sel (ratT a b) (ratT c d) i), valT (sel (ratT a' b') (ratT c' d') k)] w fun e w' => e = .returned (valT (op (sel (ratT a b) (ratT c d) i) (sel (ratT a' b') (ratT c' d') k))) ∧ Grown w w') ∧ few121 (op (sel (ratT a b) (ratT c d) i) (sel (ratT a' b') (ratT c' d') k)) := by
    intro i k hi hk
    have e1 : i = 0 ∨ i = 1 := by omega
    have e2 : k = 0 ∨ k = 1 := by omega
    rcases e1 with rfl | rfl <;> rcases e2 with rfl | rfl
    · exact hop a b a' b' h1 h1' (.inl ⟨rfl, rfl⟩)
    · exact hop a b c' d' h1 h2' (.inr ⟨rfl, rfl⟩)
    · exact hop c d a' b' h2 h1' (.inl ⟨rfl, rfl⟩)
    · exact hop c d c' d' h2 h2' (.inr ⟨rfl, rfl⟩)
  have hmem : ∀ x, x ∈ [lowT (op (ratT a b) (ratT a' b')), lowT (op (ratT a b) (ratT c' d')), lowT (op (ratT c d) (ratT a' b')), lowT (op (ratT c d) (ratT c' d'))] → few121 x := by
    intro x hx
    simp only [List.mem_cons, List.not_mem_nil, or_false] at hx
    rcases hx with rfl | rfl | rfl | rfl
    · exact low_few (hd2 0 0 (by omega) (by omega)).2
    · exact low_few (hd2 0 1 (by omega) (by omega)).2
    · exact low_few (hd2 1 0 (by omega) (by omega)).2
    · exact low_few (hd2 1 1 (by omega) (by omega)).2
  exact ends_sub ⟨a.toArray⟩ ⟨b.toArray⟩ ⟨c.toArray⟩ ⟨d.toArray⟩ ⟨a'.toArray⟩ ⟨b'.toArray⟩ ⟨c'.toArray⟩ ⟨d'.toArray⟩ (ratT a b) (ratT c d) (ratT a' b') (ratT c' d')
    (fun n => lowT (op (sel (ratT a b) (ratT c d) (n / 2)) (sel (ratT a' b') (ratT c' d') (n % 2)))) (fun i k => op (sel (ratT a b) (ratT c d) i) (sel (ratT a' b') (ratT c' d') k)) w
    (Lib.hid fun w => values_any a b c d w ha hb hc hd h1 h2) (Lib.hid fun w => values_any a' b' c' d' w ha' hb' hc' hd' h1' h2')
    (Lib.hid fun i k hi hk => (hd2 i k hi hk).1)
    (Lib.hid fun i k hi hk w => by rw [show (2 * i + k) / 2 = i from by omega, show (2 * i + k) % 2 = k from by omega]; exact lowest_few (hd2 i k hi hk).2 w)
    (Lib.hid fun x y hx hy w => order_few (hmem x hx) (hmem y hy) w)
    (Lib.hid fun x hx w hw => told_few (hmem x hx) w hw)
    (Lib.hid hpow) _ (Lib.hid rfl)
theorem span_mul (op : Tri → Tri → Tri) (a b c d a' b' c' d' : List UInt8) (w : World) (ha : a.length ≤ maxLen) (hb : b.length ≤ maxLen) (hc : c.length ≤ maxLen) (hd : d.length ≤ maxLen)
    (ha' : a'.length ≤ maxLen) (hb' : b'.length ≤ maxLen) (hc' : c'.length ≤ maxLen) (hd' : d'.length ≤ maxLen)
    (h1 : validB a b = true) (h2 : validB c d = true) (h1' : validB a' b' = true) (h2' : validB c' d' = true)
    (hop : ∀ n m n' m', validB n m = true → validB n' m' = true → (n' = a' ∧ m' = b' ∨ n' = c' ∧ m' = d') → (∀ w, Calls Tryz.prog 83 #[valT (ratT n m), valT (ratT n' m')] w fun e w' => e = .returned (valT (op (ratT n m) (ratT n' m'))) ∧ Grown w w') ∧ few121 (op (ratT n m) (ratT n' m')))
    (hpow : Pow10 w) :
    Calls Tryz.prog 74 #[rngV a b c d, rngV a' b' c' d', .func (.func 83) #[] #[]] w fun e w' => e = .returned (endsR (spanS op (ratT a b) (ratT c d) (ratT a' b') (ratT c' d'))) ∧ Grown w w' := by
  have hd2 : ∀ i k, i < 2 → k < 2 → (∀ w, Calls Tryz.prog 83 #[valT (sel (ratT a b) (ratT c d) i), valT (sel (ratT a' b') (ratT c' d') k)] w fun e w' => e = .returned (valT (op (sel (ratT a b) (ratT c d) i) (sel (ratT a' b') (ratT c' d') k))) ∧ Grown w w') ∧ few121 (op (sel (ratT a b) (ratT c d) i) (sel (ratT a' b') (ratT c' d') k)) := by
    intro i k hi hk
    have e1 : i = 0 ∨ i = 1 := by omega
    have e2 : k = 0 ∨ k = 1 := by omega
    rcases e1 with rfl | rfl <;> rcases e2 with rfl | rfl
    · exact hop a b a' b' h1 h1' (.inl ⟨rfl, rfl⟩)
    · exact hop a b c' d' h1 h2' (.inr ⟨rfl, rfl⟩)
    · exact hop c d a' b' h2 h1' (.inl ⟨rfl, rfl⟩)
    · exact hop c d c' d' h2 h2' (.inr ⟨rfl, rfl⟩)
  have hmem : ∀ x, x ∈ [lowT (op (ratT a b) (ratT a' b')), lowT (op (ratT a b) (ratT c' d')), lowT (op (ratT c d) (ratT a' b')), lowT (op (ratT c d) (ratT c' d'))] → few121 x := by
    intro x hx
    simp only [List.mem_cons, List.not_mem_nil, or_false] at hx
    rcases hx with rfl | rfl | rfl | rfl
    · exact low_few (hd2 0 0 (by omega) (by omega)).2
    · exact low_few (hd2 0 1 (by omega) (by omega)).2
    · exact low_few (hd2 1 0 (by omega) (by omega)).2
    · exact low_few (hd2 1 1 (by omega) (by omega)).2
  exact ends_mul ⟨a.toArray⟩ ⟨b.toArray⟩ ⟨c.toArray⟩ ⟨d.toArray⟩ ⟨a'.toArray⟩ ⟨b'.toArray⟩ ⟨c'.toArray⟩ ⟨d'.toArray⟩ (ratT a b) (ratT c d) (ratT a' b') (ratT c' d')
    (fun n => lowT (op (sel (ratT a b) (ratT c d) (n / 2)) (sel (ratT a' b') (ratT c' d') (n % 2)))) (fun i k => op (sel (ratT a b) (ratT c d) i) (sel (ratT a' b') (ratT c' d') k)) w
    (Lib.hid fun w => values_any a b c d w ha hb hc hd h1 h2) (Lib.hid fun w => values_any a' b' c' d' w ha' hb' hc' hd' h1' h2')
    (Lib.hid fun i k hi hk => (hd2 i k hi hk).1)
    (Lib.hid fun i k hi hk w => by rw [show (2 * i + k) / 2 = i from by omega, show (2 * i + k) % 2 = k from by omega]; exact lowest_few (hd2 i k hi hk).2 w)
    (Lib.hid fun x y hx hy w => order_few (hmem x hx) (hmem y hy) w)
    (Lib.hid fun x hx w hw => told_few (hmem x hx) w hw)
    (Lib.hid hpow) _ (Lib.hid rfl)
theorem span_quo (op : Tri → Tri → Tri) (a b c d a' b' c' d' : List UInt8) (w : World) (ha : a.length ≤ maxLen) (hb : b.length ≤ maxLen) (hc : c.length ≤ maxLen) (hd : d.length ≤ maxLen)
    (ha' : a'.length ≤ maxLen) (hb' : b'.length ≤ maxLen) (hc' : c'.length ≤ maxLen) (hd' : d'.length ≤ maxLen)
    (h1 : validB a b = true) (h2 : validB c d = true) (h1' : validB a' b' = true) (h2' : validB c' d' = true)
    (hop : ∀ n m n' m', validB n m = true → validB n' m' = true → (n' = a' ∧ m' = b' ∨ n' = c' ∧ m' = d') → (∀ w, Calls Tryz.prog 87 #[valT (ratT n m), valT (ratT n' m')] w fun e w' => e = .returned (valT (op (ratT n m) (ratT n' m'))) ∧ Grown w w') ∧ few121 (op (ratT n m) (ratT n' m')))
    (hpow : Pow10 w) :
    Calls Tryz.prog 74 #[rngV a b c d, rngV a' b' c' d', .func (.func 87) #[] #[]] w fun e w' => e = .returned (endsR (spanS op (ratT a b) (ratT c d) (ratT a' b') (ratT c' d'))) ∧ Grown w w' := by
  have hd2 : ∀ i k, i < 2 → k < 2 → (∀ w, Calls Tryz.prog 87 #[valT (sel (ratT a b) (ratT c d) i), valT (sel (ratT a' b') (ratT c' d') k)] w fun e w' => e = .returned (valT (op (sel (ratT a b) (ratT c d) i) (sel (ratT a' b') (ratT c' d') k))) ∧ Grown w w') ∧ few121 (op (sel (ratT a b) (ratT c d) i) (sel (ratT a' b') (ratT c' d') k)) := by
    intro i k hi hk
    have e1 : i = 0 ∨ i = 1 := by omega
    have e2 : k = 0 ∨ k = 1 := by omega
    rcases e1 with rfl | rfl <;> rcases e2 with rfl | rfl
    · exact hop a b a' b' h1 h1' (.inl ⟨rfl, rfl⟩)
    · exact hop a b c' d' h1 h2' (.inr ⟨rfl, rfl⟩)
    · exact hop c d a' b' h2 h1' (.inl ⟨rfl, rfl⟩)
    · exact hop c d c' d' h2 h2' (.inr ⟨rfl, rfl⟩)
  have hmem : ∀ x, x ∈ [lowT (op (ratT a b) (ratT a' b')), lowT (op (ratT a b) (ratT c' d')), lowT (op (ratT c d) (ratT a' b')), lowT (op (ratT c d) (ratT c' d'))] → few121 x := by
    intro x hx
    simp only [List.mem_cons, List.not_mem_nil, or_false] at hx
    rcases hx with rfl | rfl | rfl | rfl
    · exact low_few (hd2 0 0 (by omega) (by omega)).2
    · exact low_few (hd2 0 1 (by omega) (by omega)).2
    · exact low_few (hd2 1 0 (by omega) (by omega)).2
    · exact low_few (hd2 1 1 (by omega) (by omega)).2
  exact ends_quo ⟨a.toArray⟩ ⟨b.toArray⟩ ⟨c.toArray⟩ ⟨d.toArray⟩ ⟨a'.toArray⟩ ⟨b'.toArray⟩ ⟨c'.toArray⟩ ⟨d'.toArray⟩ (ratT a b) (ratT c d) (ratT a' b') (ratT c' d')
    (fun n => lowT (op (sel (ratT a b) (ratT c d) (n / 2)) (sel (ratT a' b') (ratT c' d') (n % 2)))) (fun i k => op (sel (ratT a b) (ratT c d) i) (sel (ratT a' b') (ratT c' d') k)) w
    (Lib.hid fun w => values_any a b c d w ha hb hc hd h1 h2) (Lib.hid fun w => values_any a' b' c' d' w ha' hb' hc' hd' h1' h2')
    (Lib.hid fun i k hi hk => (hd2 i k hi hk).1)
    (Lib.hid fun i k hi hk w => by rw [show (2 * i + k) / 2 = i from by omega, show (2 * i + k) % 2 = k from by omega]; exact lowest_few (hd2 i k hi hk).2 w)
    (Lib.hid fun x y hx hy w => order_few (hmem x hx) (hmem y hy) w)
    (Lib.hid fun x hx w hw => told_few (hmem x hx) w hw)
    (Lib.hid hpow) _ (Lib.hid rfl)

set_option maxRecDepth 100000 in
set_option maxHeartbeats 1000000 in
theorem range_plus (s1 s2 s3 s4 s1' s2' s3' s4' : ByteArray) (b1 b2 : Bool) (E : ((List UInt8 × List UInt8) × (List UInt8 × List UInt8)) × Int) (w : World)
    (P1 : Hid (∀ w, Calls Tryz.prog 25 #[.agg #[.string s1, .string s2, .string s3, .string s4]] w fun e w' => e = .returned (.bool b1) ∧ Grown w w'))
    (P2 : Hid (∀ w, Calls Tryz.prog 25 #[.agg #[.string s1', .string s2', .string s3', .string s4']] w fun e w' => e = .returned (.bool b2) ∧ Grown w w'))
    (HN : Hid ((b1 && b2) = false → E = ((([], []), ([], [])), 1)))
    (HY : Hid (b1 = true → b2 = true → ∀ w, Pow10 w → Calls Tryz.prog 74 #[.agg #[.string s1, .string s2, .string s3, .string s4], .agg #[.string s1', .string s2', .string s3', .string s4'], .func (.func 75) #[] #[]] w fun e w' => e = .returned (endsR E) ∧ Grown w w'))
    (HPOW : Hid (Pow10 w)) :
    Calls Tryz.prog 17 #[.agg #[.string s1, .string s2, .string s3, .string s4], .agg #[.string s1', .string s2', .string s3', .string s4']] w fun e w' => e = .returned (endsR E) ∧ Grown w w' := by
  cases b1
  · have hE := HN.out rfl
    subst hE
    clear HY
    go_enter Tryz.func17, Tryz.ntmps17
    go_wp2_with ((go_at_call 25; ((with_reducible refine (P1.out _).mono ?_); rintro e w' ⟨rfl, os1, d1, rfl⟩)))
    refine bodyPost_ret (v := .tuple #[.agg #[.string ⟨#[]⟩, .string ⟨#[]⟩, .string ⟨#[]⟩, .string ⟨#[]⟩], .int .i64 1]) (ret_rng_tmp rfl rfl rfl ?_) rfl ⟨rfl, ?_⟩
    · go_simp
    · exact (by with_reducible repeat (first | exact Grown.refl _ | apply Grown.more | apply Grown.alloc | apply Grown.drewN | apply Grown.drew))
  cases b2
  · have hE := HN.out rfl
    subst hE
    clear HY
    go_enter Tryz.func17, Tryz.ntmps17
    go_wp2_with (first | (go_at_call 25; ((with_reducible refine (P1.out _).mono ?_); rintro e w' ⟨rfl, os1, d1, rfl⟩)) | (go_at_call 25; ((with_reducible refine (P2.out _).mono ?_); rintro e w' ⟨rfl, os2, d2, rfl⟩)))
    refine bodyPost_ret (v := .tuple #[.agg #[.string ⟨#[]⟩, .string ⟨#[]⟩, .string ⟨#[]⟩, .string ⟨#[]⟩], .int .i64 1]) (ret_rng_tmp rfl rfl rfl ?_) rfl ⟨rfl, ?_⟩
    · go_simp
    · exact (by with_reducible repeat (first | exact Grown.refl _ | apply Grown.more | apply Grown.alloc | apply Grown.drewN | apply Grown.drew))
  obtain ⟨⟨⟨⟨t1, t2⟩, ⟨t3, t4⟩⟩, t5⟩, hE⟩ : ∃ x, x = E := ⟨_, rfl⟩
  have hy := HY.out rfl rfl
  rw [← hE] at hy ⊢
  unfold endsR rngV at hy ⊢
  dsimp only at hy ⊢
  obtain ⟨z1, hz1⟩ : ∃ s : ByteArray, s = ⟨t1.toArray⟩ := ⟨_, rfl⟩
  obtain ⟨z2, hz2⟩ : ∃ s : ByteArray, s = ⟨t2.toArray⟩ := ⟨_, rfl⟩
  obtain ⟨z3, hz3⟩ : ∃ s : ByteArray, s = ⟨t3.toArray⟩ := ⟨_, rfl⟩
  obtain ⟨z4, hz4⟩ : ∃ s : ByteArray, s = ⟨t4.toArray⟩ := ⟨_, rfl⟩
  rw [← hz1, ← hz2, ← hz3, ← hz4] at hy ⊢
  have HY2 := Lib.hid hy
  clear hy HY HN hE hz1 hz2 hz3 hz4
  go_enter Tryz.func17, Tryz.ntmps17
  go_wp2_with (first | (go_at_call 25; ((with_reducible refine (P1.out _).mono ?_); rintro e w' ⟨rfl, os1, d1, rfl⟩)) | (go_at_call 25; ((with_reducible refine (P2.out _).mono ?_); rintro e w' ⟨rfl, os2, d2, rfl⟩)) | (go_at_call 74; ((with_reducible refine (HY2.out _ ?_).mono ?_); (exact HPOW.out.grown (by with_reducible repeat (first | exact Grown.refl _ | apply Grown.more | apply Grown.alloc | apply Grown.drewN | apply Grown.drew))); rintro e w' ⟨rfl, os3, d3, rfl⟩)))
  refine bodyPost_ret (v := .tuple #[.agg #[.string z1, .string z2, .string z3, .string z4], .int .i64 t5]) (ret_rng_tmp rfl rfl rfl ?_) rfl ⟨rfl, ?_⟩
  · go_simp
  · exact (by with_reducible repeat (first | exact Grown.refl _ | apply Grown.more | apply Grown.alloc | apply Grown.drewN | apply Grown.drew))
set_option maxRecDepth 100000 in
set_option maxHeartbeats 1000000 in
theorem range_sub (s1 s2 s3 s4 s1' s2' s3' s4' : ByteArray) (b1 b2 : Bool) (E : ((List UInt8 × List UInt8) × (List UInt8 × List UInt8)) × Int) (w : World)
    (P1 : Hid (∀ w, Calls Tryz.prog 25 #[.agg #[.string s1, .string s2, .string s3, .string s4]] w fun e w' => e = .returned (.bool b1) ∧ Grown w w'))
    (P2 : Hid (∀ w, Calls Tryz.prog 25 #[.agg #[.string s1', .string s2', .string s3', .string s4']] w fun e w' => e = .returned (.bool b2) ∧ Grown w w'))
    (HN : Hid ((b1 && b2) = false → E = ((([], []), ([], [])), 1)))
    (HY : Hid (b1 = true → b2 = true → ∀ w, Pow10 w → Calls Tryz.prog 74 #[.agg #[.string s1, .string s2, .string s3, .string s4], .agg #[.string s1', .string s2', .string s3', .string s4'], .func (.func 80) #[] #[]] w fun e w' => e = .returned (endsR E) ∧ Grown w w'))
    (HPOW : Hid (Pow10 w)) :
    Calls Tryz.prog 19 #[.agg #[.string s1, .string s2, .string s3, .string s4], .agg #[.string s1', .string s2', .string s3', .string s4']] w fun e w' => e = .returned (endsR E) ∧ Grown w w' := by
  cases b1
  · have hE := HN.out rfl
    subst hE
    clear HY
    go_enter Tryz.func19, Tryz.ntmps19
    go_wp2_with ((go_at_call 25; ((with_reducible refine (P1.out _).mono ?_); rintro e w' ⟨rfl, os1, d1, rfl⟩)))
    refine bodyPost_ret (v := .tuple #[.agg #[.string ⟨#[]⟩, .string ⟨#[]⟩, .string ⟨#[]⟩, .string ⟨#[]⟩], .int .i64 1]) (ret_rng_tmp rfl rfl rfl ?_) rfl ⟨rfl, ?_⟩
    · go_simp
    · exact (by with_reducible repeat (first | exact Grown.refl _ | apply Grown.more | apply Grown.alloc | apply Grown.drewN | apply Grown.drew))
  cases b2
  · have hE := HN.out rfl
    subst hE
    clear HY
    go_enter Tryz.func19, Tryz.ntmps19
    go_wp2_with (first | (go_at_call 25; ((with_reducible refine (P1.out _).mono ?_); rintro e w' ⟨rfl, os1, d1, rfl⟩)) | (go_at_call 25; ((with_reducible refine (P2.out _).mono ?_); rintro e w' ⟨rfl, os2, d2, rfl⟩)))
    refine bodyPost_ret (v := .tuple #[.agg #[.string ⟨#[]⟩, .string ⟨#[]⟩, .string ⟨#[]⟩, .string ⟨#[]⟩], .int .i64 1]) (ret_rng_tmp rfl rfl rfl ?_) rfl ⟨rfl, ?_⟩
    · go_simp
    · exact (by with_reducible repeat (first | exact Grown.refl _ | apply Grown.more | apply Grown.alloc | apply Grown.drewN | apply Grown.drew))
  obtain ⟨⟨⟨⟨t1, t2⟩, ⟨t3, t4⟩⟩, t5⟩, hE⟩ : ∃ x, x = E := ⟨_, rfl⟩
  have hy := HY.out rfl rfl
  rw [← hE] at hy ⊢
  unfold endsR rngV at hy ⊢
  dsimp only at hy ⊢
  obtain ⟨z1, hz1⟩ : ∃ s : ByteArray, s = ⟨t1.toArray⟩ := ⟨_, rfl⟩
  obtain ⟨z2, hz2⟩ : ∃ s : ByteArray, s = ⟨t2.toArray⟩ := ⟨_, rfl⟩
  obtain ⟨z3, hz3⟩ : ∃ s : ByteArray, s = ⟨t3.toArray⟩ := ⟨_, rfl⟩
  obtain ⟨z4, hz4⟩ : ∃ s : ByteArray, s = ⟨t4.toArray⟩ := ⟨_, rfl⟩
  rw [← hz1, ← hz2, ← hz3, ← hz4] at hy ⊢
  have HY2 := Lib.hid hy
  clear hy HY HN hE hz1 hz2 hz3 hz4
  go_enter Tryz.func19, Tryz.ntmps19
  go_wp2_with (first | (go_at_call 25; ((with_reducible refine (P1.out _).mono ?_); rintro e w' ⟨rfl, os1, d1, rfl⟩)) | (go_at_call 25; ((with_reducible refine (P2.out _).mono ?_); rintro e w' ⟨rfl, os2, d2, rfl⟩)) | (go_at_call 74; ((with_reducible refine (HY2.out _ ?_).mono ?_); (exact HPOW.out.grown (by with_reducible repeat (first | exact Grown.refl _ | apply Grown.more | apply Grown.alloc | apply Grown.drewN | apply Grown.drew))); rintro e w' ⟨rfl, os3, d3, rfl⟩)))
  refine bodyPost_ret (v := .tuple #[.agg #[.string z1, .string z2, .string z3, .string z4], .int .i64 t5]) (ret_rng_tmp rfl rfl rfl ?_) rfl ⟨rfl, ?_⟩
  · go_simp
  · exact (by with_reducible repeat (first | exact Grown.refl _ | apply Grown.more | apply Grown.alloc | apply Grown.drewN | apply Grown.drew))
set_option maxRecDepth 100000 in
set_option maxHeartbeats 1000000 in
theorem range_mul (s1 s2 s3 s4 s1' s2' s3' s4' : ByteArray) (b1 b2 : Bool) (E : ((List UInt8 × List UInt8) × (List UInt8 × List UInt8)) × Int) (w : World)
    (P1 : Hid (∀ w, Calls Tryz.prog 25 #[.agg #[.string s1, .string s2, .string s3, .string s4]] w fun e w' => e = .returned (.bool b1) ∧ Grown w w'))
    (P2 : Hid (∀ w, Calls Tryz.prog 25 #[.agg #[.string s1', .string s2', .string s3', .string s4']] w fun e w' => e = .returned (.bool b2) ∧ Grown w w'))
    (HN : Hid ((b1 && b2) = false → E = ((([], []), ([], [])), 1)))
    (HY : Hid (b1 = true → b2 = true → ∀ w, Pow10 w → Calls Tryz.prog 74 #[.agg #[.string s1, .string s2, .string s3, .string s4], .agg #[.string s1', .string s2', .string s3', .string s4'], .func (.func 83) #[] #[]] w fun e w' => e = .returned (endsR E) ∧ Grown w w'))
    (HPOW : Hid (Pow10 w)) :
    Calls Tryz.prog 21 #[.agg #[.string s1, .string s2, .string s3, .string s4], .agg #[.string s1', .string s2', .string s3', .string s4']] w fun e w' => e = .returned (endsR E) ∧ Grown w w' := by
  cases b1
  · have hE := HN.out rfl
    subst hE
    clear HY
    go_enter Tryz.func21, Tryz.ntmps21
    go_wp2_with ((go_at_call 25; ((with_reducible refine (P1.out _).mono ?_); rintro e w' ⟨rfl, os1, d1, rfl⟩)))
    refine bodyPost_ret (v := .tuple #[.agg #[.string ⟨#[]⟩, .string ⟨#[]⟩, .string ⟨#[]⟩, .string ⟨#[]⟩], .int .i64 1]) (ret_rng_tmp rfl rfl rfl ?_) rfl ⟨rfl, ?_⟩
    · go_simp
    · exact (by with_reducible repeat (first | exact Grown.refl _ | apply Grown.more | apply Grown.alloc | apply Grown.drewN | apply Grown.drew))
  cases b2
  · have hE := HN.out rfl
    subst hE
    clear HY
    go_enter Tryz.func21, Tryz.ntmps21
    go_wp2_with (first | (go_at_call 25; ((with_reducible refine (P1.out _).mono ?_); rintro e w' ⟨rfl, os1, d1, rfl⟩)) | (go_at_call 25; ((with_reducible refine (P2.out _).mono ?_); rintro e w' ⟨rfl, os2, d2, rfl⟩)))
    refine bodyPost_ret (v := .tuple #[.agg #[.string ⟨#[]⟩, .string ⟨#[]⟩, .string ⟨#[]⟩, .string ⟨#[]⟩], .int .i64 1]) (ret_rng_tmp rfl rfl rfl ?_) rfl ⟨rfl, ?_⟩
    · go_simp
    · exact (by with_reducible repeat (first | exact Grown.refl _ | apply Grown.more | apply Grown.alloc | apply Grown.drewN | apply Grown.drew))
  obtain ⟨⟨⟨⟨t1, t2⟩, ⟨t3, t4⟩⟩, t5⟩, hE⟩ : ∃ x, x = E := ⟨_, rfl⟩
  have hy := HY.out rfl rfl
  rw [← hE] at hy ⊢
  unfold endsR rngV at hy ⊢
  dsimp only at hy ⊢
  obtain ⟨z1, hz1⟩ : ∃ s : ByteArray, s = ⟨t1.toArray⟩ := ⟨_, rfl⟩
  obtain ⟨z2, hz2⟩ : ∃ s : ByteArray, s = ⟨t2.toArray⟩ := ⟨_, rfl⟩
  obtain ⟨z3, hz3⟩ : ∃ s : ByteArray, s = ⟨t3.toArray⟩ := ⟨_, rfl⟩
  obtain ⟨z4, hz4⟩ : ∃ s : ByteArray, s = ⟨t4.toArray⟩ := ⟨_, rfl⟩
  rw [← hz1, ← hz2, ← hz3, ← hz4] at hy ⊢
  have HY2 := Lib.hid hy
  clear hy HY HN hE hz1 hz2 hz3 hz4
  go_enter Tryz.func21, Tryz.ntmps21
  go_wp2_with (first | (go_at_call 25; ((with_reducible refine (P1.out _).mono ?_); rintro e w' ⟨rfl, os1, d1, rfl⟩)) | (go_at_call 25; ((with_reducible refine (P2.out _).mono ?_); rintro e w' ⟨rfl, os2, d2, rfl⟩)) | (go_at_call 74; ((with_reducible refine (HY2.out _ ?_).mono ?_); (exact HPOW.out.grown (by with_reducible repeat (first | exact Grown.refl _ | apply Grown.more | apply Grown.alloc | apply Grown.drewN | apply Grown.drew))); rintro e w' ⟨rfl, os3, d3, rfl⟩)))
  refine bodyPost_ret (v := .tuple #[.agg #[.string z1, .string z2, .string z3, .string z4], .int .i64 t5]) (ret_rng_tmp rfl rfl rfl ?_) rfl ⟨rfl, ?_⟩
  · go_simp
  · exact (by with_reducible repeat (first | exact Grown.refl _ | apply Grown.more | apply Grown.alloc | apply Grown.drewN | apply Grown.drew))
end Go.Proofs.YtnohidkmjclojaaGreatDoor
