/- Plain facts on decimal numerals: lists of bytes and the numbers that they are. -/
import Derived.Lib.Atoi
import Derived.Lib.ItoaNum
import Derived.Lib.Repeat
import Derived.Test.YtnohidkmjclojaaGreatDoorDig
namespace Go.Proofs.YtnohidkmjclojaaGreatDoor

/-- is it a decimal digit? -/
def isDig (c : UInt8) : Bool := decide (48 ≤ c.toNat ∧ c.toNat ≤ 57)
/-- a numeral of at most so many digits -/
def numB (l : List UInt8) (m : Nat) : Bool := decide (1 ≤ l.length ∧ l.length ≤ m) && (decide (l.length ≤ 1) || decide (l.head? ≠ some 48)) && l.all isDig
/-- the number that digits are, behind another one -/
def valF (a : Nat) (l : List UInt8) : Nat := l.foldl (fun n c => n * 10 + (c.toNat - 48)) a
def valN (l : List UInt8) : Nat := valF 0 l

theorem valF_append (a : Nat) (l r : List UInt8) : valF a (l ++ r) = valF (valF a l) r := by simp [valF]
theorem valF_eq (l : List UInt8) : ∀ a, valF a l = a * 10 ^ l.length + valF 0 l := by
  induction l with
  | nil => intro a; simp [valF]
  | cons c r ih =>
    intro a
    show valF (a * 10 + (c.toNat - 48)) r = _ + valF (0 * 10 + (c.toNat - 48)) r
    rw [ih, ih (0 * 10 + (c.toNat - 48)), List.length_cons, Nat.pow_succ, Nat.add_mul, Nat.zero_mul, Nat.zero_add]
    have : a * 10 * 10 ^ r.length = a * (10 ^ r.length * 10) := by ac_rfl
    omega
theorem valN_append (l r : List UInt8) : valN (l ++ r) = valN l * 10 ^ r.length + valN r := by
  unfold valN
  rw [valF_append, valF_eq]
theorem valN_lt (l : List UInt8) (h : l.all isDig = true) : valN l < 10 ^ l.length := by
  have key : ∀ (r : List UInt8) (a : Nat), r.all isDig = true → valF a r < (a + 1) * 10 ^ r.length := by
    intro r
    induction r with
    | nil => intro a _; simp [valF]
    | cons c r ih =>
      intro a hr
      simp only [List.all_cons, Bool.and_eq_true] at hr
      have hc : c.toNat ≤ 57 := by have := hr.1; simp [isDig] at this; omega
      have h1 := ih (a * 10 + (c.toNat - 48)) hr.2
      show valF (a * 10 + (c.toNat - 48)) r < _
      rw [List.length_cons, Nat.pow_succ]
      refine Nat.lt_of_lt_of_le h1 ?_
      rw [show (a + 1) * (10 ^ r.length * 10) = ((a + 1) * 10) * 10 ^ r.length from by ac_rfl]
      exact Nat.mul_le_mul_right _ (by omega)
  have := key l 0 h
  simpa [valN] using this

theorem decFrom_valF (l : List UInt8) (h : l.all isDig = true) : ∀ a, Lib.decFrom a l = some (valF a l) := by
  induction l with
  | nil => intro a; rfl
  | cons c r ih =>
    intro a
    simp only [List.all_cons, Bool.and_eq_true] at h
    have hc : 48 ≤ c.toNat ∧ c.toNat ≤ 57 := by have := h.1; simpa [isDig] using this
    simp only [Lib.decFrom, Lib.digitVal, if_pos hc]
    exact ih h.2 _
theorem atoi_valN (l : List UInt8) (h : l.all isDig = true) (h0 : l ≠ []) : Lib.atoi l = some (valN l : Int) := by
  cases l with
  | nil => exact absurd rfl h0
  | cons c r =>
    have hc : 48 ≤ c.toNat ∧ c.toNat ≤ 57 := by
      simp only [List.all_cons, Bool.and_eq_true] at h
      have := h.1
      simpa [isDig] using this
    have h45 : (c == 45) = false := by rw [beq_eq_false_iff_ne]; rintro rfl; simp at hc
    have h43 : (c == 43) = false := by rw [beq_eq_false_iff_ne]; rintro rfl; simp at hc
    simp only [Lib.atoi, h45, h43, Lib.decNat, List.isEmpty_cons]
    simp [decFrom_valF _ h 0, valN]

/-! the digits of a number -/
theorem dd_small {x : Nat} (h : x < 10) : Lib.decDigits x = [UInt8.ofNat (48 + x)] := Lib.decDigits_one h
theorem dd_big {x : Nat} (h : ¬ x < 10) : Lib.decDigits x = Lib.decDigits (x / 10) ++ [UInt8.ofNat (48 + x % 10)] := by rw [Lib.decDigits, dif_neg h]
theorem ofNat_dig {d : Nat} (h : d < 10) : (UInt8.ofNat (48 + d)).toNat = 48 + d := by
  rw [UInt8.toNat_ofNat']; omega

theorem dd_all (x : Nat) : (Lib.decDigits x).all isDig = true := by
  induction x using Nat.strongRecOn with
  | _ x ih =>
    by_cases h : x < 10
    · rw [dd_small h]
      simp [isDig]
      omega
    · rw [dd_big h, List.all_append, ih (x / 10) (by omega)]
      have := ofNat_dig (Nat.mod_lt x (by omega : 0 < 10))
      simp [isDig]
      omega
theorem dd_val (x : Nat) : valN (Lib.decDigits x) = x := by
  induction x using Nat.strongRecOn with
  | _ x ih =>
    by_cases h : x < 10
    · rw [dd_small h]
      have := ofNat_dig h
      simp only [valN, valF, List.foldl_cons, List.foldl_nil]
      omega
    · rw [dd_big h, valN_append, ih (x / 10) (by omega)]
      have := ofNat_dig (Nat.mod_lt x (by omega : 0 < 10))
      simp only [valN, valF, List.foldl_cons, List.foldl_nil, List.length_cons, List.length_nil]
      omega
theorem dd_pos (x : Nat) : 1 ≤ (Lib.decDigits x).length := by rw [Lib.decDigits_length]; exact Lib.nDigits_pos x
theorem dd_head {x : Nat} (h : 0 < x) : (Lib.decDigits x).head? ≠ some 48 := by
  induction x using Nat.strongRecOn with
  | _ x ih =>
    by_cases h10 : x < 10
    · rw [dd_small h10]
      intro he
      simp only [List.head?_cons, Option.some.injEq] at he
      have := ofNat_dig h10
      rw [he] at this
      have h48 : (48 : UInt8).toNat = 48 := rfl
      omega
    · rw [dd_big h10]
      have h1 := ih (x / 10) (by omega) (by omega)
      have h2 := dd_pos (x / 10)
      cases hd : Lib.decDigits (x / 10) with
      | nil => rw [hd] at h2; simp at h2
      | cons c r => rw [hd] at h1; simpa using h1
theorem dd_num (x m : Nat) : numB (Lib.decDigits x) m = decide ((Lib.decDigits x).length ≤ m) := by
  unfold numB
  rw [dd_all, Bool.and_true]
  have h1 := dd_pos x
  rcases Nat.eq_zero_or_pos x with h0 | h0
  · subst h0
    simp [dd_small]
  · have h2 := dd_head h0
    simp [h2]
    omega
/-- a numeral is its number's digits -/
theorem dd_of_num {l : List UInt8} {m : Nat} (h : numB l m = true) : Lib.decDigits (valN l) = l := by
  have key : ∀ (k : Nat) (l : List UInt8), l.length = k → 1 ≤ l.length → (l.length ≤ 1 ∨ l.head? ≠ some 48) → l.all isDig = true → Lib.decDigits (valN l) = l := by
    intro k
    induction k with
    | zero => intro l h1 h2; omega
    | succ k ih =>
      intro l hl _ hh ha
      rcases List.eq_nil_or_concat l with rfl | ⟨r, c, rfl⟩
      · simp at hl
      · simp only [List.concat_eq_append, List.all_append, List.all_cons, List.all_nil, Bool.and_true, Bool.and_eq_true] at ha
        simp only [List.concat_eq_append, List.length_append, List.length_cons, List.length_nil] at hl hh ⊢
        have hc : 48 ≤ c.toNat ∧ c.toNat ≤ 57 := by have := ha.2; simpa [isDig] using this
        have hv : valN (r ++ [c]) = valN r * 10 + (c.toNat - 48) := by
          rw [valN_append]; simp [valN, valF]
        have hcc : UInt8.ofNat (48 + (c.toNat - 48)) = c := by
          rw [show 48 + (c.toNat - 48) = c.toNat from by omega]; simp
        rw [hv]
        cases r with
        | nil =>
          simp only [valN, valF, List.foldl_nil, Nat.zero_mul, Nat.zero_add, List.nil_append]
          rw [dd_small (by omega), hcc]
        | cons d r =>
          have hd : d ≠ 48 := by
            rcases hh with hh | hh
            · simp at hh
            · intro e; subst e; simp at hh
          have ih' := ih (d :: r) (by simpa using hl) (by simp) (.inr (by simpa using hd)) ha.1
          have hpos : 0 < valN (d :: r) := by
            rcases Nat.eq_zero_or_pos (valN (d :: r)) with h0 | h0
            · rw [h0, dd_small (by omega)] at ih'
              injection ih' with e1 _
              exact absurd e1.symm hd
            · exact h0
          rw [dd_big (by omega), show (valN (d :: r) * 10 + (c.toNat - 48)) / 10 = valN (d :: r) from by omega, show (valN (d :: r) * 10 + (c.toNat - 48)) % 10 = c.toNat - 48 from by omega, ih', hcc]
  unfold numB at h
  simp only [Bool.and_eq_true, Bool.or_eq_true, decide_eq_true_eq] at h
  exact key _ l rfl h.1.1.1 h.1.2 h.2

theorem dd_len_le {x m : Nat} (hm : 0 < m) : (Lib.decDigits x).length ≤ m ↔ x < 10 ^ m := by
  rw [Lib.decDigits_length]
  constructor
  · intro h
    exact Nat.lt_of_lt_of_le (Lib.lt_pow_nDigits x) (Nat.pow_le_pow_right (by omega) h)
  · intro h
    rcases Nat.lt_or_ge m (Lib.nDigits x) with h1 | h1
    · have h2 := dd_val x
      rcases Nat.eq_zero_or_pos x with h0 | h0
      · subst h0; rw [Lib.nDigits_small (by omega)] at h1; omega
      · obtain ⟨k, hk⟩ : ∃ k, Lib.nDigits x = k + 1 := ⟨Lib.nDigits x - 1, by have := Lib.nDigits_pos x; omega⟩
        have h3 : ¬ x < 10 ^ k := by
          intro hx
          rcases Nat.eq_zero_or_pos k with hk0 | hk0
          · subst hk0; simp at hx; omega
          · have hx10 : 10 ^ (k - 1) ≤ x ∨ x < 10 ^ (k - 1) := by omega
            have : ∀ j, j ≤ k → x < 10 ^ j → Lib.nDigits x ≤ j := by
              intro j
              induction j with
              | zero => intro _ hx; simp at hx; omega
              | succ j ihj =>
                intro hj hx
                rcases Nat.lt_or_ge x (10 ^ j) with h4 | h4
                · have := ihj (by omega) h4; omega
                · rw [Lib.nDigits_unique j x h4 hx]; omega
            have := this k (Nat.le_refl _) hx
            omega
        have h4 : 10 ^ m ≤ 10 ^ k := Nat.pow_le_pow_right (by omega) (by omega)
        omega
    · exact h1

/-! nine digits at a time -/
/-- r in nine digits -/
def pad9 (r : Nat) : List UInt8 := Lib.repeatL [48] (9 - (Lib.decDigits r).length) ++ Lib.decDigits r
theorem repeat_zeros (n : Nat) : Lib.repeatL [48] n = List.replicate n 48 := by
  induction n with
  | zero => rfl
  | succ n ih => rw [Lib.repeatL, ih, List.replicate_succ]; rfl
theorem val_zeros (n : Nat) : valN (List.replicate n 48) = 0 := by
  induction n with
  | zero => rfl
  | succ n ih =>
    rw [List.replicate_succ, show (48 :: List.replicate n (48 : UInt8)) = [48] ++ List.replicate n 48 from rfl, valN_append, ih]
    simp [valN, valF]
theorem zeros_all (n : Nat) : (List.replicate n (48 : UInt8)).all isDig = true := by
  rw [List.all_eq_true]
  intro c hc
  rw [(List.mem_replicate.1 hc).2]
  rfl
theorem pad9_len {r : Nat} (h : r < 1000000000) : (pad9 r).length = 9 := by
  unfold pad9
  rw [repeat_zeros, List.length_append, List.length_replicate]
  have := (dd_len_le (x := r) (m := 9) (by omega)).2 (by omega)
  omega
theorem pad9_val (r : Nat) : valN (pad9 r) = r := by
  unfold pad9
  rw [repeat_zeros, valN_append, val_zeros, dd_val]
  omega
theorem pad9_all (r : Nat) : (pad9 r).all isDig = true := by
  unfold pad9
  rw [repeat_zeros, List.all_append, zeros_all, dd_all]
  rfl
/-- two numerals of one number are equal -/
theorem num_ext {l r : List UInt8} {m m' : Nat} (hl : numB l m = true) (hr : numB r m' = true) (h : valN l = valN r) : l = r := by
  rw [← dd_of_num hl, ← dd_of_num hr, h]
/-- the digits behind a chunk -/
theorem dd_chunk {x : Nat} (h : 0 < x / 1000000000) : Lib.decDigits x = Lib.decDigits (x / 1000000000) ++ pad9 (x % 1000000000) := by
  have h1 := dd_num x (Lib.decDigits x).length
  simp only [Nat.le_refl, decide_true] at h1
  have hp := dd_pos (x / 1000000000)
  have hh := dd_head h
  have hm : x % 1000000000 < 1000000000 := Nat.mod_lt _ (by omega)
  refine num_ext (m' := (Lib.decDigits (x / 1000000000) ++ pad9 (x % 1000000000)).length) h1 ?_ ?_
  · unfold numB
    simp only [Bool.and_eq_true, Bool.or_eq_true, decide_eq_true_eq]
    refine ⟨⟨⟨by rw [List.length_append]; omega, Nat.le_refl _⟩, .inr ?_⟩, ?_⟩
    · cases hd : Lib.decDigits (x / 1000000000) with
      | nil => rw [hd] at hp; simp at hp
      | cons c r => rw [hd] at hh; simpa using hh
    · rw [List.all_append, dd_all, pad9_all]; rfl
  · rw [dd_val, valN_append, dd_val, pad9_val, pad9_len hm]
    omega

end Go.Proofs.YtnohidkmjclojaaGreatDoor
