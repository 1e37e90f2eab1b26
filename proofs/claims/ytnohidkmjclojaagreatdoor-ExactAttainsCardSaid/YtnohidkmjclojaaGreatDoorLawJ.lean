/- The law ExactAttains returns true, over lists of bytes. -/
import Derived.Test.YtnohidkmjclojaaGreatDoorLawK
import Derived.Test.YtnohidkmjclojaaGreatDoorQvC
namespace Go.Proofs.YtnohidkmjclojaaGreatDoor
set_option linter.unusedVariables false
set_option linter.unusedSimpArgs false
open Go.RowKit

theorem add_pos (p q : Tri) (h : 0 < p.2.2) (h' : 0 < q.2.2) : 0 < (addT p q).2.2 := Nat.mul_pos h h'
theorem sub_pos (p q : Tri) (h : 0 < p.2.2) (h' : 0 < q.2.2) : 0 < (subT p q).2.2 := Nat.mul_pos h h'
theorem mul_pos' (p q : Tri) (h : 0 < p.2.2) (h' : 0 < q.2.2) : 0 < (mulT p q).2.2 := Nat.mul_pos h h'

/-- is it so for one of the first k? -/
def anyB (q : Nat → Bool) : Nat → Bool
  | 0 => false
  | k + 1 => anyB q k || q k
theorem anyB_of {q : Nat → Bool} {k i : Nat} (hi : i < k) (h : q i = true) : anyB q k = true := by
  induction k with
  | zero => omega
  | succ k ih =>
    unfold anyB
    by_cases hk : i = k
    · subst hk; rw [h, Bool.or_true]
    · rw [ih (by omega), Bool.true_or]
theorem lends_of (nn dd : Nat → ByteArray) (z1 z2 z3 z4 : ByteArray) (e : Int) (h : e = 0 → (∃ i, i < 4 ∧ nn i = z1 ∧ dd i = z2) ∧ (∃ i, i < 4 ∧ nn i = z3 ∧ dd i = z4)) :
    ∀ w' g cap, InW g w' → (∀ i, i < 4 → w'.cell? ⟨g, i * 2, none⟩ = some (.string (nn i)) ∧ w'.cell? ⟨g, i * 2 + 1, none⟩ = some (.string (dd i))) →
      Calls Tryz.prog 31 #[.agg #[.string z1, .string z2, .string z3, .string z4], .int .i64 e, .slice (some ⟨g, 0, none⟩) 4 cap] w' fun e w'' => e = .returned (.bool true) ∧ Grown w' w'' := by
  intro w' g cap hin hc
  have hb : (e != 0 || (anyB (fun i => eqR (nn i) (dd i) z1 z2) 4 && anyB (fun i => eqR (nn i) (dd i) z3 z4) 4)) = true := by
    by_cases he : e = 0
    · obtain ⟨⟨i, hi, h1, h2⟩, ⟨j, hj, h3, h4⟩⟩ := h he
      rw [anyB_of hi (by unfold eqR; rw [h1, h2]; simp), anyB_of hj (by unfold eqR; rw [h3, h4]; simp)]
      simp
    · have : (e != 0) = true := by rw [bne_iff_ne]; exact he
      rw [this, Bool.true_or]
  have := lends_x z1 z2 z3 z4 nn dd (anyB (fun i => eqR (nn i) (dd i) z1 z2)) (anyB (fun i => eqR (nn i) (dd i) z3 z4)) e 4 g cap w' (by omega) hin (Lib.hid hc) (Lib.hid fun _ _ => rfl) (Lib.hid fun _ _ => rfl) (Lib.hid rfl) (Lib.hid rfl)
  rw [hb] at this
  exact this
/-- an end of a range -/
def endK (a b c d : List UInt8) (k : Nat) : List UInt8 × List UInt8 := if k = 0 then (a, b) else (c, d)
/-- what an operation returns for two ends -/
def corner (op : Tri → Tri → Tri) (a b c d a' b' c' d' : List UInt8) (k : Nat) : (List UInt8 × List UInt8) × Int :=
  opS (endK a b c d (k / 2)).1 (endK a b c d (k / 2)).2 (endK a' b' c' d' (k % 2)).1 (endK a' b' c' d' (k % 2)).2 (op (ratT (endK a b c d (k / 2)).1 (endK a b c d (k / 2)).2) (ratT (endK a' b' c' d' (k % 2)).1 (endK a' b' c' d' (k % 2)).2))
theorem opS_told {n d n' d' : List UInt8} {t : Tri} (h : validB n d = true) (h' : validB n' d' = true) (ht : 0 < t.2.2) : opS n d n' d' t = toldT t := by
  unfold opS bothS
  rw [h, h', if_neg (by decide), if_neg (by omega)]
  rfl
theorem attains_span {op : Tri → Tri → Tri} {a b c d a' b' c' d' : List UInt8} (w1 : validB a b = true) (w2 : validB c d = true) (w1' : validB a' b' = true) (w2' : validB c' d' = true)
    (hp : ∀ p q, (p = ratT a b ∨ p = ratT c d) → (q = ratT a' b' ∨ q = ratT c' d') → 0 < (op p q).2.2) (hr : (spanS op (ratT a b) (ratT c d) (ratT a' b') (ratT c' d')).2 = 0) :
    (∃ i, i < 4 ∧ (corner op a b c d a' b' c' d' i).1 = (spanS op (ratT a b) (ratT c d) (ratT a' b') (ratT c' d')).1.1) ∧ (∃ i, i < 4 ∧ (corner op a b c d a' b' c' d' i).1 = (spanS op (ratT a b) (ratT c d) (ratT a' b') (ratT c' d')).1.2) := by
  have c0 : corner op a b c d a' b' c' d' 0 = toldT (op (ratT a b) (ratT a' b')) := opS_told w1 w1' (hp _ _ (.inl rfl) (.inl rfl))
  have c1 : corner op a b c d a' b' c' d' 1 = toldT (op (ratT a b) (ratT c' d')) := opS_told w1 w2' (hp _ _ (.inl rfl) (.inr rfl))
  have c2 : corner op a b c d a' b' c' d' 2 = toldT (op (ratT c d) (ratT a' b')) := opS_told w2 w1' (hp _ _ (.inr rfl) (.inl rfl))
  have c3 : corner op a b c d a' b' c' d' 3 = toldT (op (ratT c d) (ratT c' d')) := opS_told w2 w2' (hp _ _ (.inr rfl) (.inr rfl))
  have key : ∀ t, t ∈ [lowT (op (ratT a b) (ratT a' b')), lowT (op (ratT a b) (ratT c' d')), lowT (op (ratT c d) (ratT a' b')), lowT (op (ratT c d) (ratT c' d'))] → ∃ i, i < 4 ∧ (corner op a b c d a' b' c' d' i).1 = (toldT t).1 := by
    intro t ht
    simp only [List.mem_cons, List.not_mem_nil, or_false] at ht
    rcases ht with rfl | rfl | rfl | rfl
    · exact ⟨0, by omega, by rw [c0, told_low (hp _ _ (.inl rfl) (.inl rfl))]⟩
    · exact ⟨1, by omega, by rw [c1, told_low (hp _ _ (.inl rfl) (.inr rfl))]⟩
    · exact ⟨2, by omega, by rw [c2, told_low (hp _ _ (.inr rfl) (.inl rfl))]⟩
    · exact ⟨3, by omega, by rw [c3, told_low (hp _ _ (.inr rfl) (.inr rfl))]⟩
  unfold spanS at hr ⊢
  obtain ⟨lo, hi, m1, m2, he, -⟩ := ends_ok (by
    intro t ht
    simp only [List.mem_cons, List.not_mem_nil, or_false] at ht
    rcases ht with rfl | rfl | rfl | rfl
    · exact low_pos (hp _ _ (.inl rfl) (.inl rfl))
    · exact low_pos (hp _ _ (.inl rfl) (.inr rfl))
    · exact low_pos (hp _ _ (.inr rfl) (.inl rfl))
    · exact low_pos (hp _ _ (.inr rfl) (.inr rfl))) hr
  rw [he]
  exact ⟨key lo m1, key hi m2⟩
theorem pair_arr {x y : List UInt8 × List UInt8} (h : x = y) : (⟨x.1.toArray⟩ : ByteArray) = ⟨y.1.toArray⟩ ∧ (⟨x.2.toArray⟩ : ByteArray) = ⟨y.2.toArray⟩ := by
  subst h
  exact ⟨rfl, rfl⟩
theorem endK_len {a b c d : List UInt8} (L : Lens a b c d) (k : Nat) : (endK a b c d k).1.length ≤ maxLen ∧ (endK a b c d k).2.length ≤ maxLen := by
  unfold endK
  split
  · exact ⟨L.a, L.b⟩
  · exact ⟨L.c, L.d⟩
theorem ends_R {op : Tri → Tri → Tri} {a b c d a' b' c' d' : List UInt8} {R : ((List UInt8 × List UInt8) × (List UInt8 × List UInt8)) × Int}
    (h : R.2 = 0 → (∃ i, i < 4 ∧ (corner op a b c d a' b' c' d' i).1 = R.1.1) ∧ (∃ i, i < 4 ∧ (corner op a b c d a' b' c' d' i).1 = R.1.2)) :
    R.2 = 0 → (∃ i, i < 4 ∧ (⟨(corner op a b c d a' b' c' d' i).1.1.toArray⟩ : ByteArray) = ⟨R.1.1.1.toArray⟩ ∧ (⟨(corner op a b c d a' b' c' d' i).1.2.toArray⟩ : ByteArray) = ⟨R.1.1.2.toArray⟩) ∧
      (∃ i, i < 4 ∧ (⟨(corner op a b c d a' b' c' d' i).1.1.toArray⟩ : ByteArray) = ⟨R.1.2.1.toArray⟩ ∧ (⟨(corner op a b c d a' b' c' d' i).1.2.toArray⟩ : ByteArray) = ⟨R.1.2.2.toArray⟩) := by
  intro he
  obtain ⟨⟨i, hi, h1⟩, ⟨j, hj, h2⟩⟩ := h he
  exact ⟨⟨i, hi, pair_arr h1⟩, ⟨j, hj, pair_arr h2⟩⟩

theorem ExactAttains_any (a b c d a' b' c' d' : List UInt8) (w : World) (L : Lens a b c d) (L' : Lens a' b' c' d') (hpow : Pow10 w) :
    Calls Tryz.prog 4 #[rngV a b c d, rngV a' b' c' d'] w fun e w' => e = .returned (.bool true) ∧ Grown w w' := by
  have SP := Lib.hid fun (w : World) (hw : Pow10 w) => spans_yes w hw
  have P1 := Lib.hid fun w => Proper_any a b c d w L.a L.b L.c L.d
  have P2 := Lib.hid fun w => Proper_any a' b' c' d' w L'.a L'.b L'.c L'.d
  cases hb : (properB a b c d && properB a' b' c' d')
  · exact attains_no ⟨a.toArray⟩ ⟨b.toArray⟩ ⟨c.toArray⟩ ⟨d.toArray⟩ ⟨a'.toArray⟩ ⟨b'.toArray⟩ ⟨c'.toArray⟩ ⟨d'.toArray⟩ _ _ w hb P1 P2 SP (Lib.hid hpow)
  · rw [Bool.and_eq_true] at hb
    obtain ⟨h1, h2⟩ := hb
    rw [h1] at P1
    rw [h2] at P2
    obtain ⟨w1, w2, -⟩ := proper_iff.1 h1
    obtain ⟨w1', w2', -⟩ := proper_iff.1 h2
    have hpos : ∀ op : Tri → Tri → Tri, (∀ p q : Tri, 0 < p.2.2 → 0 < q.2.2 → 0 < (op p q).2.2) → ∀ p q, (p = ratT a b ∨ p = ratT c d) → (q = ratT a' b' ∨ q = ratT c' d') → 0 < (op p q).2.2 := by
      rintro op hop p q (rfl | rfl) (rfl | rfl)
      · exact hop _ _ (rat_pos w1) (rat_pos w1')
      · exact hop _ _ (rat_pos w1) (rat_pos w2')
      · exact hop _ _ (rat_pos w2) (rat_pos w1')
      · exact hop _ _ (rat_pos w2) (rat_pos w2')
    have hR : ∀ op : Tri → Tri → Tri, (∀ p q : Tri, 0 < p.2.2 → 0 < q.2.2 → 0 < (op p q).2.2) → (rangeS op a b c d a' b' c' d').2 = 0 → (∃ i, i < 4 ∧ (corner op a b c d a' b' c' d' i).1 = (rangeS op a b c d a' b' c' d').1.1) ∧ (∃ i, i < 4 ∧ (corner op a b c d a' b' c' d' i).1 = (rangeS op a b c d a' b' c' d').1.2) := by
      intro op hop hr
      rw [range_ok h1 h2] at hr ⊢
      exact attains_span w1 w2 w1' w2' (hpos op hop) hr
    have hO : (overS a b c d a' b' c' d').2 = 0 → (∃ i, i < 4 ∧ (corner quoT a b c d a' b' c' d' i).1 = (overS a b c d a' b' c' d').1.1) ∧ (∃ i, i < 4 ∧ (corner quoT a b c d a' b' c' d' i).1 = (overS a b c d a' b' c' d').1.2) := by
      intro hr
      obtain ⟨ho, na, nc, -⟩ := over_ok h1 h2 hr
      rw [ho] at hr ⊢
      refine attains_span w1 w2 w1' w2' ?_ hr
      rintro p q (rfl | rfl) (rfl | rfl)
      · exact Nat.mul_pos (rat_pos w1) na
      · exact Nat.mul_pos (rat_pos w1) nc
      · exact Nat.mul_pos (rat_pos w2) na
      · exact Nat.mul_pos (rat_pos w2) nc
    exact attains_x ⟨a.toArray⟩ ⟨b.toArray⟩ ⟨c.toArray⟩ ⟨d.toArray⟩ ⟨a'.toArray⟩ ⟨b'.toArray⟩ ⟨c'.toArray⟩ ⟨d'.toArray⟩
      _ _ _ _ _ _ _ _ _ _ _ _ _ _ _ _ _ _ _ _ (fun k => ⟨(endK a b c d k).1.toArray⟩) (fun k => ⟨(endK a b c d k).2.toArray⟩) (fun k => ⟨(endK a' b' c' d' k).1.toArray⟩) (fun k => ⟨(endK a' b' c' d' k).2.toArray⟩)
      (fun k => ⟨(corner addT a b c d a' b' c' d' k).1.1.toArray⟩) (fun k => ⟨(corner addT a b c d a' b' c' d' k).1.2.toArray⟩) (fun k => ⟨(corner subT a b c d a' b' c' d' k).1.1.toArray⟩) (fun k => ⟨(corner subT a b c d a' b' c' d' k).1.2.toArray⟩)
      (fun k => ⟨(corner mulT a b c d a' b' c' d' k).1.1.toArray⟩) (fun k => ⟨(corner mulT a b c d a' b' c' d' k).1.2.toArray⟩) (fun k => ⟨(corner quoT a b c d a' b' c' d' k).1.1.toArray⟩) (fun k => ⟨(corner quoT a b c d a' b' c' d' k).1.2.toArray⟩)
      (fun k => (corner addT a b c d a' b' c' d' k).2) (fun k => (corner subT a b c d a' b' c' d' k).2) (fun k => (corner mulT a b c d a' b' c' d' k).2) (fun k => (corner quoT a b c d a' b' c' d' k).2) w P1 P2 SP
      (Lib.hid fun w hw => Range_plus a b c d a' b' c' d' w L L' hw) (Lib.hid fun w hw => Range_sub a b c d a' b' c' d' w L L' hw) (Lib.hid fun w hw => Range_mul a b c d a' b' c' d' w L L' hw) (Lib.hid fun w hw => Over_any a b c d a' b' c' d' w L L' hw)
      (Lib.hid fun k _ w hw => Add_any _ _ _ _ w (endK_len L (k / 2)).1 (endK_len L (k / 2)).2 (endK_len L' (k % 2)).1 (endK_len L' (k % 2)).2 hw)
      (Lib.hid fun k _ w hw => Sub_any _ _ _ _ w (endK_len L (k / 2)).1 (endK_len L (k / 2)).2 (endK_len L' (k % 2)).1 (endK_len L' (k % 2)).2 hw)
      (Lib.hid fun k _ w hw => Mul_any _ _ _ _ w (endK_len L (k / 2)).1 (endK_len L (k / 2)).2 (endK_len L' (k % 2)).1 (endK_len L' (k % 2)).2 hw)
      (Lib.hid fun k _ w hw => Quo_any _ _ _ _ w (endK_len L (k / 2)).1 (endK_len L (k / 2)).2 (endK_len L' (k % 2)).1 (endK_len L' (k % 2)).2 hw)
      (Lib.hid (lends_of _ _ _ _ _ _ _ (ends_R (hR addT add_pos)))) (Lib.hid (lends_of _ _ _ _ _ _ _ (ends_R (hR subT sub_pos)))) (Lib.hid (lends_of _ _ _ _ _ _ _ (ends_R (hR mulT mul_pos')))) (Lib.hid (lends_of _ _ _ _ _ _ _ (ends_R hO)))
      ⟨rfl, rfl, rfl, rfl⟩ ⟨rfl, rfl, rfl, rfl⟩ (Lib.hid hpow)
end Go.Proofs.YtnohidkmjclojaaGreatDoor
