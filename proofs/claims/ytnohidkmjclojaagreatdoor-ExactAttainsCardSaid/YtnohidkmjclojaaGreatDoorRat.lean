/- Plain facts on fractions: a sign, a numerator and a denominator, and their texts. -/
import Derived.Test.YtnohidkmjclojaaGreatDoorDec
namespace Go.Proofs.YtnohidkmjclojaaGreatDoor

/-- the text of a signed number -/
def sgnText (m : Bool) (x : Nat) : List UInt8 := if m then 45 :: Lib.decDigits x else Lib.decDigits x
/-- a text without its minus sign -/
def cutMinus (l : List UInt8) : List UInt8 := if l.head? = some 45 then l.tail else l
/-- the syntax of a valid fraction -/
def synB (n d : List UInt8) : Bool := numB (cutMinus n) 60 && numB d 60 && !decide (d = [48]) && !(decide (n.head? = some 45) && decide (cutMinus n = [48]))
/-- is it a valid fraction? -/
def validB (n d : List UInt8) : Bool := synB n d && decide (Nat.gcd (valN (cutMinus n)) (valN d) = 1)

/-- the fraction with a sign, a numerator and a denominator, in lowest terms and within the bounds -/
structure IsRat (n d : List UInt8) (m : Bool) (x y : Nat) : Prop where
  num : n = sgnText m x
  den : d = Lib.decDigits y
  one : Nat.gcd x y = 1
  pos : 0 < y
  hx : x < 10 ^ 60
  hy : y < 10 ^ 60
  hm : m = true → 0 < x

theorem dig_ne {c : UInt8} (h : isDig c = true) : c ≠ 45 := by
  rintro rfl
  simp [isDig] at h
theorem dd_head45 (x : Nat) : (Lib.decDigits x).head? ≠ some 45 := by
  have ha := dd_all x
  have hp := dd_pos x
  cases h : Lib.decDigits x with
  | nil => rw [h] at hp; simp at hp
  | cons c r =>
    rw [h] at ha
    simp only [List.all_cons, Bool.and_eq_true] at ha
    intro e
    simp only [List.head?_cons, Option.some.injEq] at e
    exact dig_ne ha.1 e
theorem sgn_head (m : Bool) (x : Nat) : (sgnText m x).head? = some 45 ↔ m = true := by
  unfold sgnText
  cases m
  · simp [dd_head45]
  · simp
theorem cut_sgn (m : Bool) (x : Nat) : cutMinus (sgnText m x) = Lib.decDigits x := by
  unfold cutMinus
  cases m
  · rw [if_neg]
    · rfl
    · rw [sgn_head]; simp
  · rw [if_pos]
    · rfl
    · rw [sgn_head]
theorem dd_inj {x y : Nat} (h : Lib.decDigits x = Lib.decDigits y) : x = y := by rw [← dd_val x, ← dd_val y, h]
theorem dd_zero : Lib.decDigits 0 = [48] := dd_small (by omega)
theorem dd_eq_zero {x : Nat} : Lib.decDigits x = [48] ↔ x = 0 := by
  rw [← dd_zero]
  exact ⟨dd_inj, fun h => by rw [h]⟩

theorem valid_of {n d : List UInt8} {m : Bool} {x y : Nat} (h : IsRat n d m x y) : validB n d = true := by
  obtain ⟨hn, hd, h1, hp, hx, hy, hm⟩ := h
  subst hn hd
  have hxl := (dd_len_le (x := x) (m := 60) (by omega)).2 hx
  have hyl := (dd_len_le (x := y) (m := 60) (by omega)).2 hy
  unfold validB synB
  rw [cut_sgn, dd_val, dd_val, dd_num, dd_num]
  have h2 : ¬ Lib.decDigits y = [48] := by rw [dd_eq_zero]; omega
  have h3 : ¬ ((sgnText m x).head? = some 45 ∧ Lib.decDigits x = [48]) := by
    rw [sgn_head, dd_eq_zero]
    rintro ⟨e1, e2⟩
    have := hm e1
    omega
  simp [hxl, hyl, h1, h2]
  exact Decidable.not_and_iff_or_not.1 h3
theorem of_valid {n d : List UInt8} (h : validB n d = true) : IsRat n d (decide (n.head? = some 45)) (valN (cutMinus n)) (valN d) := by
  unfold validB synB at h
  simp only [Bool.and_eq_true, Bool.not_eq_true', decide_eq_false_iff_not, decide_eq_true_eq, Bool.and_eq_false_iff] at h
  obtain ⟨⟨⟨⟨h1, h2⟩, h3⟩, h4⟩, h5⟩ := h
  have e1 := dd_of_num h1
  have e2 := dd_of_num h2
  have hl1 : (cutMinus n).length ≤ 60 := by unfold numB at h1; simp at h1; omega
  have hl2 : d.length ≤ 60 := by unfold numB at h2; simp at h2; omega
  refine ⟨?_, e2.symm, h5, ?_, ?_, ?_, ?_⟩
  · unfold sgnText
    rw [e1]
    unfold cutMinus
    split
    · rename_i hh
      simp only [decide_eq_true_eq] at hh
      rw [if_pos hh]
      cases n with
      | nil => simp at hh
      | cons c r => simp at hh; subst hh; rfl
    · rename_i hh
      simp only [decide_eq_true_eq] at hh
      rw [if_neg hh]
  · rcases Nat.eq_zero_or_pos (valN d) with h0 | h0
    · rw [h0, dd_zero] at e2
      exact absurd e2.symm h3
    · exact h0
  · rw [← dd_len_le (by omega), e1]; exact hl1
  · rw [← dd_len_le (by omega), e2]; exact hl2
  · intro hm
    rcases Nat.eq_zero_or_pos (valN (cutMinus n)) with h0 | h0
    · rw [h0, dd_zero] at e1
      rcases h4 with h4 | h4
      · exact absurd (of_decide_eq_true hm) h4
      · exact absurd e1.symm h4
    · exact h0
theorem rat_inj {n d n' d' : List UInt8} {m : Bool} {x y : Nat} (h : IsRat n d m x y) (h' : IsRat n' d' m x y) : n = n' ∧ d = d' := ⟨h.num.trans h'.num.symm, h.den.trans h'.den.symm⟩
end Go.Proofs.YtnohidkmjclojaaGreatDoor
