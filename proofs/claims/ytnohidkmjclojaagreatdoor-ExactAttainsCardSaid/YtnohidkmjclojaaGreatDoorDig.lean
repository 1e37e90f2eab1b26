/- Plain arithmetic of the digits of natural numbers to a base: no program in sight. -/
namespace Go.Proofs.YtnohidkmjclojaaGreatDoor

/-- digit i of x to the base B -/
def dg (B x i : Nat) : Nat := x / B ^ i % B

theorem dg_lt {B : Nat} (h : 0 < B) (x i : Nat) : dg B x i < B := Nat.mod_lt _ h

theorem mod_succ (B x i : Nat) : x % B ^ (i + 1) = x % B ^ i + B ^ i * dg B x i := by
  rw [Nat.pow_succ, Nat.mod_mul]; rfl

theorem div_succ (B x i : Nat) : x / B ^ i = B * (x / B ^ (i + 1)) + dg B x i := by
  have h := Nat.div_add_mod (x / B ^ i) B
  rw [Nat.div_div_eq_div_mul, ← Nat.pow_succ] at h
  exact h.symm

/-- the number of digits of x to the base B -/
def dl (B x : Nat) : Nat := if h : 1 < B ∧ 0 < x then dl B (x / B) + 1 else 0
termination_by x
decreasing_by exact Nat.div_lt_self h.2 h.1

theorem dl_zero (B : Nat) : dl B 0 = 0 := by unfold dl; simp
theorem dl_pos {B x : Nat} (hB : 1 < B) (hx : 0 < x) : dl B x = dl B (x / B) + 1 := by rw [dl, dif_pos ⟨hB, hx⟩]

theorem lt_pow_dl {B : Nat} (hB : 1 < B) (x : Nat) : x < B ^ dl B x := by
  induction x using Nat.strongRecOn with
  | ind x ih =>
    rcases Nat.eq_zero_or_pos x with rfl | hx
    · simp [dl_zero]
    · have := ih (x / B) (Nat.div_lt_self hx hB)
      rw [dl_pos hB hx, Nat.pow_succ]
      exact (Nat.div_lt_iff_lt_mul (by omega)).1 this

theorem dl_le {B : Nat} (hB : 1 < B) : ∀ (k x : Nat), x < B ^ k → dl B x ≤ k
  | 0, x, h => by
    have : x = 0 := by simpa using h
    subst this; simp [dl_zero]
  | k + 1, x, h => by
    rcases Nat.eq_zero_or_pos x with rfl | hx
    · simp [dl_zero]
    · rw [dl_pos hB hx]
      have := dl_le hB k (x / B) ((Nat.div_lt_iff_lt_mul (by omega)).2 (by rwa [Nat.pow_succ] at h))
      omega

theorem dl_le_iff {B : Nat} (hB : 1 < B) (k x : Nat) : dl B x ≤ k ↔ x < B ^ k :=
  ⟨fun h => Nat.lt_of_lt_of_le (lt_pow_dl hB x) (Nat.pow_le_pow_right (by omega) h), dl_le hB k x⟩

theorem dl_eq_zero {B x : Nat} (hB : 1 < B) : dl B x = 0 ↔ x = 0 := by
  have := dl_le_iff hB 0 x
  simp at this
  exact this

theorem dl_pos_iff {B x : Nat} (hB : 1 < B) : 0 < dl B x ↔ 0 < x := by
  have := dl_eq_zero (x := x) hB
  omega

theorem dl_mono {B x y : Nat} (hB : 1 < B) (h : x ≤ y) : dl B x ≤ dl B y :=
  (dl_le_iff hB _ _).2 (Nat.lt_of_le_of_lt h (lt_pow_dl hB y))

theorem dg_ge {B x i : Nat} (hB : 1 < B) (h : dl B x ≤ i) : dg B x i = 0 := by
  have := (dl_le_iff hB i x).1 h
  simp [dg, Nat.div_eq_of_lt this]

theorem dg_top {B x : Nat} (hB : 1 < B) (h : 0 < x) : dg B x (dl B x - 1) ≠ 0 := by
  have hp := (dl_pos_iff hB).2 h
  have h1 : ¬ x < B ^ (dl B x - 1) := fun hx => by have := (dl_le_iff hB _ _).2 hx; omega
  have h2 : x < B ^ (dl B x - 1) * B := by
    have := lt_pow_dl hB x
    rwa [← Nat.pow_succ, show (dl B x - 1).succ = dl B x from by omega]
  have hpos : 0 < B ^ (dl B x - 1) := Nat.pow_pos (by omega)
  have h3 : x / B ^ (dl B x - 1) < B := Nat.div_lt_of_lt_mul h2
  have h4 : 1 ≤ x / B ^ (dl B x - 1) := (Nat.one_le_div_iff hpos).2 (by omega)
  unfold dg
  rw [Nat.mod_eq_of_lt h3]
  omega

theorem dl_eq {B : Nat} (hB : 1 < B) (n x : Nat) (h1 : x < B ^ n) (h2 : n = 0 ∨ dg B x (n - 1) ≠ 0) : dl B x = n := by
  have h := dl_le hB n x h1
  rcases h2 with h2 | h2
  · omega
  · rcases Nat.lt_or_ge (dl B x) n with hlt | hge
    · exact absurd (dg_ge hB (by omega)) h2
    · omega

theorem mod_pow_of_le {B x n : Nat} (hB : 1 < B) (h : dl B x ≤ n) : x % B ^ n = x := Nat.mod_eq_of_lt ((dl_le_iff hB _ _).1 h)

/-- two numbers with the same digits are equal -/
theorem eq_of_dg {B x y : Nat} (hB : 1 < B) (h : ∀ i, dg B x i = dg B y i) : x = y := by
  have hm : ∀ n, x % B ^ n = y % B ^ n := by
    intro n
    induction n with
    | zero => simp [Nat.mod_one]
    | succ n ih => rw [mod_succ, mod_succ, ih, h]
  have := hm (dl B x + dl B y)
  rwa [mod_pow_of_le hB (by omega), mod_pow_of_le hB (by omega)] at this

/-- the carry into digit i of a sum -/
def ca (B a b i : Nat) : Nat := (a % B ^ i + b % B ^ i) / B ^ i

theorem ca_zero (B a b : Nat) : ca B a b 0 = 0 := by simp [ca, Nat.mod_one]

theorem ca_le {B : Nat} (hB : 0 < B) (a b i : Nat) : ca B a b i ≤ 1 := by
  have hp : 0 < B ^ i := Nat.pow_pos hB
  have h1 := Nat.mod_lt a hp
  have h2 := Nat.mod_lt b hp
  have : ca B a b i < 2 := Nat.div_lt_of_lt_mul (by omega)
  omega

theorem ca_div {B : Nat} (hB : 0 < B) (a b i : Nat) : (a + b) / B ^ i = a / B ^ i + b / B ^ i + ca B a b i := by
  have hp : 0 < B ^ i := Nat.pow_pos hB
  have ha := Nat.div_add_mod a (B ^ i)
  have hb := Nat.div_add_mod b (B ^ i)
  have e : a + b = (a % B ^ i + b % B ^ i) + B ^ i * (a / B ^ i + b / B ^ i) := by rw [Nat.mul_add]; omega
  have : (a + b) / B ^ i = ((a % B ^ i + b % B ^ i) + B ^ i * (a / B ^ i + b / B ^ i)) / B ^ i := by rw [← e]
  rw [this, Nat.add_mul_div_left _ _ hp]
  unfold ca
  omega

theorem ca_step {B : Nat} (hB : 0 < B) (a b i : Nat) : ca B a b i + dg B a i + dg B b i = B * ca B a b (i + 1) + dg B (a + b) i := by
  have h1 := ca_div hB a b i
  have h2 := ca_div hB a b (i + 1)
  have ha := div_succ B a i
  have hb := div_succ B b i
  have hs := div_succ B (a + b) i
  have h3 : B * ((a + b) / B ^ (i + 1)) = B * (a / B ^ (i + 1)) + B * (b / B ^ (i + 1)) + B * ca B a b (i + 1) := by rw [h2, Nat.mul_add, Nat.mul_add]
  omega

theorem ca_end {B : Nat} (hB : 1 < B) {a b n : Nat} (ha : dl B a ≤ n) (hb : dl B b ≤ n) : ca B a b n = dg B (a + b) n := by
  have h := ca_step (by omega : 0 < B) a b n
  rw [dg_ge hB ha, dg_ge hB hb] at h
  have h1 := ca_le (by omega : 0 < B) a b n
  have h2 := ca_le (by omega : 0 < B) a b (n + 1)
  rcases Nat.eq_zero_or_pos (ca B a b (n + 1)) with h0 | h0
  · rw [h0] at h; omega
  · have h4 : B * 1 ≤ B * ca B a b (n + 1) := Nat.mul_le_mul_left _ h0
    omega

theorem plus_len0 {B : Nat} (hB : 1 < B) {a b k : Nat} (ha : dl B a ≤ k) (hb : dl B b ≤ k) (hk : dl B a = k ∨ dl B b = k) (hc : ca B a b k = 0) : dl B (a + b) = k := by
  have h := ca_div (by omega : 0 < B) a b k
  rw [hc, Nat.div_eq_of_lt ((dl_le_iff hB _ _).1 ha), Nat.div_eq_of_lt ((dl_le_iff hB _ _).1 hb)] at h
  have h1 : a + b < B ^ k := by
    rcases Nat.lt_or_ge (a + b) (B ^ k) with h' | h'
    · exact h'
    · have := (Nat.one_le_div_iff (Nat.pow_pos (by omega : 0 < B))).2 h'
      omega
  have h2 := dl_le hB _ _ h1
  have h3 := dl_mono hB (Nat.le_add_right a b)
  have h4 := dl_mono hB (Nat.le_add_left b a)
  omega

theorem plus_len1 {B : Nat} (hB : 1 < B) {a b k : Nat} (ha : dl B a ≤ k) (hb : dl B b ≤ k) (hc : ca B a b k = 1) : dl B (a + b) = k + 1 := by
  have h := ca_div (by omega : 0 < B) a b k
  rw [hc, Nat.div_eq_of_lt ((dl_le_iff hB _ _).1 ha), Nat.div_eq_of_lt ((dl_le_iff hB _ _).1 hb)] at h
  refine dl_eq hB _ _ ?_ (.inr ?_)
  · rw [Nat.pow_succ]
    exact (Nat.div_lt_iff_lt_mul (Nat.pow_pos (by omega))).1 (by omega) |> (Nat.mul_comm _ _ ▸ ·)
  · unfold dg
    rw [Nat.add_sub_cancel, h, Nat.mod_eq_of_lt (by omega)]
    omega

/-- one digit of a division by a number of one digit, from the top -/
theorem short_step {B b : Nat} (hb : 0 < b) (hbB : b ≤ B) (x i : Nat) :
    (x / B ^ (i + 1) % b * B + dg B x i) / b = dg B (x / b) i ∧ (x / B ^ (i + 1) % b * B + dg B x i) % b = x / B ^ i % b := by
  have hB : 0 < B := by omega
  have hd := div_succ B x i
  have hq := Nat.div_add_mod (x / B ^ (i + 1)) b
  have e : x / B ^ i = (x / B ^ (i + 1) % b * B + dg B x i) + b * (x / B ^ (i + 1) / b * B) := by
    rw [hd]
    have : B * (x / B ^ (i + 1)) = x / B ^ (i + 1) % b * B + b * (x / B ^ (i + 1) / b * B) := by
      rw [← Nat.mul_assoc, ← Nat.add_mul, Nat.add_comm (_ % b), hq, Nat.mul_comm]
    omega
  have hr : x / B ^ (i + 1) % b < b := Nat.mod_lt _ hb
  have hdl := dg_lt hB x i
  have hlt : (x / B ^ (i + 1) % b * B + dg B x i) / b < B := by
    refine Nat.div_lt_of_lt_mul ?_
    have : (x / B ^ (i + 1) % b + 1) * B ≤ b * B := Nat.mul_le_mul_right _ hr
    rw [Nat.add_mul] at this
    omega
  constructor
  · have h1 : x / b / B ^ i = (x / B ^ (i + 1) % b * B + dg B x i) / b + x / B ^ (i + 1) / b * B := by
      rw [Nat.div_div_eq_div_mul, Nat.mul_comm b, ← Nat.div_div_eq_div_mul, e, Nat.add_mul_div_left _ _ hb]
    show _ = x / b / B ^ i % B
    rw [h1, Nat.add_mul_mod_self_right, Nat.mod_eq_of_lt hlt]
  · rw [e, Nat.add_mul_mod_self_left]

/-- the inner loop of a product: what the digits of the result say, with the carry c into digit i + k -/
theorem times_step {B : Nat} (hB : 0 < B) (P da b i k : Nat) :
    let T := fun k => P % B ^ (i + k) + da * B ^ i * (b % B ^ k)
    dg B P (i + k) + da * dg B b k + T k / B ^ (i + k) = T (k + 1) / B ^ (i + k) := by
  intro T
  have hp : 0 < B ^ (i + k) := Nat.pow_pos hB
  have e : T (k + 1) = T k + B ^ (i + k) * (dg B P (i + k) + da * dg B b k) := by
    show P % B ^ (i + (k + 1)) + da * B ^ i * (b % B ^ (k + 1)) = P % B ^ (i + k) + da * B ^ i * (b % B ^ k) + _
    rw [show i + (k + 1) = (i + k) + 1 from rfl, mod_succ, mod_succ]
    have : da * B ^ i * (B ^ k * dg B b k) = B ^ (i + k) * (da * dg B b k) := by
      rw [Nat.pow_add]; ac_rfl
    rw [Nat.mul_add, Nat.mul_add, this]
    omega
  rw [e, Nat.add_mul_div_left _ _ hp]
  omega


/-- the carry into digit i + k of the inner loop -/
def tc (B P da b i k : Nat) : Nat := (P % B ^ (i + k) + da * B ^ i * (b % B ^ k)) / B ^ (i + k)
/-- what the inner loop has computed, with the digits of P above -/
def tv (B P da b i k : Nat) : Nat := P % B ^ (i + k) + da * B ^ i * (b % B ^ k)

theorem tc_zero {B : Nat} (hB : 0 < B) (P da b i : Nat) : tc B P da b i 0 = 0 := by
  unfold tc
  simp only [Nat.add_zero, Nat.pow_zero, Nat.mod_one, Nat.mul_zero]
  exact Nat.div_eq_of_lt (Nat.mod_lt _ (Nat.pow_pos hB))

theorem tv_step (B P da b i k : Nat) : tv B P da b i (k + 1) = tv B P da b i k + B ^ (i + k) * (dg B P (i + k) + da * dg B b k) := by
  unfold tv
  rw [show i + (k + 1) = (i + k) + 1 from rfl, mod_succ, mod_succ]
  have : da * B ^ i * (B ^ k * dg B b k) = B ^ (i + k) * (da * dg B b k) := by
    rw [Nat.pow_add]; ac_rfl
  rw [Nat.mul_add, Nat.mul_add, this]
  omega

theorem tc_step {B : Nat} (hB : 0 < B) (P da b i k : Nat) :
    tc B P da b i k + (da * dg B b k + dg B P (i + k)) = B * tc B P da b i (k + 1) + dg B (tv B P da b i (k + 1)) (i + k) := by
  have hp : 0 < B ^ (i + k) := Nat.pow_pos hB
  have h := tv_step B P da b i k
  have h1 : tv B P da b i (k + 1) / B ^ (i + k) = tc B P da b i k + (dg B P (i + k) + da * dg B b k) := by
    rw [h, Nat.add_mul_div_left _ _ hp]; rfl
  have h2 := div_succ B (tv B P da b i (k + 1)) (i + k)
  rw [h1] at h2
  have h3 : tv B P da b i (k + 1) / B ^ (i + k + 1) = tc B P da b i (k + 1) := rfl
  rw [h3] at h2
  omega

theorem tv_low {B : Nat} (hB : 0 < B) (P da b i k j : Nat) (hj : j < i + k) : dg B (tv B P da b i (k + 1)) j = dg B (tv B P da b i k) j := by
  rw [tv_step]
  obtain ⟨m, hm⟩ : ∃ m, i + k = j + 1 + m := ⟨i + k - j - 1, by omega⟩
  unfold dg
  have hp : 0 < B ^ j := Nat.pow_pos hB
  rw [hm, Nat.pow_add, Nat.pow_succ, Nat.mul_assoc, Nat.mul_assoc, Nat.add_mul_div_left _ _ hp, Nat.mul_assoc, Nat.add_mul_mod_self_left]

/-- da < B: the carry fits into one digit -/
theorem tc_lt {B : Nat} (hB : 0 < B) (P da b i k : Nat) (hd : da < B) : tc B P da b i k < B := by
  unfold tc
  refine Nat.div_lt_of_lt_mul ?_
  have hp : 0 < B ^ (i + k) := Nat.pow_pos hB
  have h1 := Nat.mod_lt P hp
  have hb : b % B ^ k + 1 ≤ B ^ k := Nat.mod_lt _ (Nat.pow_pos hB)
  have h2 : da * B ^ i * (b % B ^ k + 1) ≤ da * B ^ i * B ^ k := Nat.mul_le_mul_left _ hb
  have h3 : da * B ^ i * B ^ k = da * B ^ (i + k) := by rw [Nat.mul_assoc, ← Nat.pow_add]
  have h4 : (da + 1) * B ^ (i + k) ≤ B * B ^ (i + k) := Nat.mul_le_mul_right _ hd
  rcases Nat.eq_zero_or_pos da with h0 | h0
  · subst h0
    simp only [Nat.zero_mul, Nat.add_zero]
    have : 1 * B ^ (i + k) ≤ B * B ^ (i + k) := Nat.mul_le_mul_right _ hB
    rw [Nat.mul_comm B] at this
    omega
  · have h5 : 0 < da * B ^ i := Nat.mul_pos h0 (Nat.pow_pos hB)
    rw [Nat.mul_add, h3] at h2
    rw [Nat.add_mul] at h4
    rw [Nat.mul_comm (B ^ (i + k)) B]
    omega

theorem dg_mod {B : Nat} (hB : 0 < B) (x n j : Nat) (hj : j < n) : dg B (x % B ^ n) j = dg B x j := by
  obtain ⟨m, rfl⟩ : ∃ m, n = j + 1 + m := ⟨n - j - 1, by omega⟩
  unfold dg
  have hp : 0 < B ^ j := Nat.pow_pos hB
  have h := Nat.div_add_mod x (B ^ (j + 1 + m))
  have e : x = x % B ^ (j + 1 + m) + B ^ j * (B * (B ^ m * (x / B ^ (j + 1 + m)))) := by
    rw [← Nat.mul_assoc, ← Nat.pow_succ, ← Nat.mul_assoc, ← Nat.pow_add]
    exact (Nat.add_comm _ _ ▸ h).symm
  have : x / B ^ j % B = (x % B ^ (j + 1 + m) + B ^ j * (B * (B ^ m * (x / B ^ (j + 1 + m))))) / B ^ j % B := by rw [← e]
  rw [this, Nat.add_mul_div_left _ _ hp, Nat.add_mul_mod_self_left]

theorem tv_zero {B : Nat} (hB : 0 < B) (P da b i j : Nat) (hj : j < i) : dg B (tv B P da b i 0) j = dg B P j := by
  unfold tv
  simp only [Nat.add_zero, Nat.pow_zero, Nat.mod_one, Nat.mul_zero]
  exact dg_mod hB P i j hj

/-- behind the inner loop: the next part of the product -/
theorem tv_end {B : Nat} (hB : 1 < B) {a b i m : Nat} (hb : dl B b ≤ m) : tv B (a % B ^ i * b) (dg B a i) b i m = a % B ^ (i + 1) * b := by
  have h1 : a % B ^ i * b < B ^ (i + m) := by
    rw [Nat.pow_add]
    have h2 := (dl_le_iff hB _ _).1 hb
    have h3 : a % B ^ i < B ^ i := Nat.mod_lt _ (Nat.pow_pos (by omega))
    exact Nat.mul_lt_mul'' h3 h2
  unfold tv
  rw [Nat.mod_eq_of_lt h1, mod_pow_of_le hB hb, mod_succ, Nat.add_mul]
  congr 1
  rw [Nat.mul_comm (dg B a i)]

/-! a division by bits -/

theorem bit_step {b : Nat} (hb : 0 < b) (a i : Nat) (h : 2 * (a / 2 ^ (i + 1) % b) + dg 2 a i < b) :
    a / 2 ^ i % b = 2 * (a / 2 ^ (i + 1) % b) + dg 2 a i ∧ a / 2 ^ i / b = 2 * (a / 2 ^ (i + 1) / b) := by
  have hd := div_succ 2 a i
  generalize a / 2 ^ (i + 1) = A at *
  generalize a / 2 ^ i = A' at *
  generalize dg 2 a i = d at *
  have hq := Nat.div_add_mod A b
  have e : A' = (2 * (A % b) + d) + b * (2 * (A / b)) := by
    rw [hd, Nat.mul_left_comm]; omega
  rw [e, Nat.add_mul_mod_self_left, Nat.add_mul_div_left _ _ hb, Nat.mod_eq_of_lt h, Nat.div_eq_of_lt h]
  omega

theorem bit_step' {b : Nat} (hb : 0 < b) (a i : Nat) (h : b ≤ 2 * (a / 2 ^ (i + 1) % b) + dg 2 a i) :
    a / 2 ^ i % b = 2 * (a / 2 ^ (i + 1) % b) + dg 2 a i - b ∧ a / 2 ^ i / b = 2 * (a / 2 ^ (i + 1) / b) + 1 := by
  have hd := div_succ 2 a i
  have hdl := dg_lt (by omega : 0 < 2) a i
  generalize a / 2 ^ (i + 1) = A at *
  generalize a / 2 ^ i = A' at *
  generalize dg 2 a i = d at *
  have hq := Nat.div_add_mod A b
  have hr := Nat.mod_lt A hb
  have e : A' = (2 * (A % b) + d - b) + b * (2 * (A / b) + 1) := by
    rw [hd, Nat.mul_add, Nat.mul_left_comm]; omega
  have hlt : 2 * (A % b) + d - b < b := by omega
  rw [e, Nat.add_mul_mod_self_left, Nat.add_mul_div_left _ _ hb, Nat.mod_eq_of_lt hlt, Nat.div_eq_of_lt hlt]
  omega

/-- setting bit i of a multiple of 2^(i+1): the word that holds it -/
theorem set_bit (Q i : Nat) : dg 4294967296 (Q * 2 ^ (i + 1) + 2 ^ i) (i / 32) = dg 4294967296 (Q * 2 ^ (i + 1)) (i / 32) ||| 2 ^ (i % 32) := by
  have hi : i = 32 * (i / 32) + i % 32 := by omega
  have ht : i % 32 < 32 := by omega
  generalize i / 32 = j at *
  generalize i % 32 = t at *
  subst hi
  have hB : (4294967296 : Nat) ^ j = 2 ^ (32 * j) := by rw [Nat.pow_mul]
  have hp : 0 < 2 ^ (32 * j) := Nat.pow_pos (by omega)
  have e1 : Q * 2 ^ (32 * j + t + 1) = 2 ^ (32 * j) * (2 ^ (t + 1) * Q) := by rw [Nat.add_assoc, Nat.pow_add]; ac_rfl
  have e2 : Q * 2 ^ (32 * j + t + 1) + 2 ^ (32 * j + t) = 2 ^ (32 * j) * (2 ^ (t + 1) * Q + 2 ^ t) := by rw [e1, Nat.pow_add 2 (32 * j) t, Nat.mul_add]
  have e3 : (4294967296 : Nat) = 2 ^ (t + 1) * 2 ^ (31 - t) := by rw [← Nat.pow_add, show t + 1 + (31 - t) = 32 from by omega]
  have hlt : 2 ^ t < 2 ^ (t + 1) := Nat.pow_lt_pow_right (by omega) (by omega)
  unfold dg
  rw [hB, e2, e1, Nat.mul_div_cancel_left _ hp, Nat.mul_div_cancel_left _ hp]
  have e4 : (2 ^ (t + 1) * Q + 2 ^ t) % 4294967296 = 2 ^ (t + 1) * (Q % 2 ^ (31 - t)) + 2 ^ t := by
    rw [e3, Nat.mod_mul, Nat.mul_add_mod, Nat.mod_eq_of_lt hlt, Nat.mul_add_div (Nat.pow_pos (by omega)), Nat.div_eq_of_lt hlt, Nat.add_comm]
    simp only [Nat.add_zero]
  have e5 : (2 ^ (t + 1) * Q) % 4294967296 = 2 ^ (t + 1) * (Q % 2 ^ (31 - t)) := by
    rw [e3, Nat.mul_mod_mul_left]
  rw [e4, e5, Nat.two_pow_add_eq_or_of_lt hlt]

/-- setting bit i of a multiple of 2^(i+1): the other words -/
theorem set_bit_other (Q i j : Nat) (hj : j ≠ i / 32) : dg 4294967296 (Q * 2 ^ (i + 1) + 2 ^ i) j = dg 4294967296 (Q * 2 ^ (i + 1)) j := by
  have hB : (4294967296 : Nat) ^ j = 2 ^ (32 * j) := by rw [Nat.pow_mul]
  unfold dg
  rw [hB]
  rcases Nat.lt_or_ge j (i / 32) with h | h
  · have hi : i = 32 * j + (32 + (i - 32 * j - 32)) := by omega
    have hp : 0 < 2 ^ (32 * j) := Nat.pow_pos (by omega)
    have e1 : 2 ^ i = 2 ^ (32 * j) * (4294967296 * 2 ^ (i - 32 * j - 32)) := by
      rw [show (4294967296 : Nat) = 2 ^ 32 from rfl, ← Nat.pow_add, ← Nat.pow_add, ← hi]
    have e2 : Q * 2 ^ (i + 1) = 2 ^ (32 * j) * (4294967296 * (2 ^ (i - 32 * j - 32) * 2 * Q)) := by rw [Nat.pow_succ, e1]; ac_rfl
    rw [e2, e1, ← Nat.mul_add, ← Nat.mul_add, Nat.mul_div_cancel_left _ hp, Nat.mul_div_cancel_left _ hp, Nat.mul_mod_right, Nat.mul_mod_right]
  · have hi : 32 * j = (i + 1) + (32 * j - (i + 1)) := by omega
    have hp : 0 < 2 ^ (i + 1) := Nat.pow_pos (by omega)
    have hlt : 2 ^ i < 2 ^ (i + 1) := Nat.pow_lt_pow_right (by omega) (by omega)
    rw [hi, Nat.pow_add 2 (i + 1) (32 * j - (i + 1)), ← Nat.div_div_eq_div_mul, ← Nat.div_div_eq_div_mul, Nat.mul_comm Q, Nat.mul_add_div hp, Nat.div_eq_of_lt hlt, Nat.add_zero, Nat.mul_div_cancel_left _ hp]

/-- the number of bits, by the top word -/
theorem bits_top {x : Nat} (hx : 0 < x) : dl 2 x = 32 * (dl 4294967296 x - 1) + dl 2 (dg 4294967296 x (dl 4294967296 x - 1)) := by
  have hn := (dl_pos_iff (B := 4294967296) (by omega)).2 hx
  have ht := dg_top (B := 4294967296) (by omega) hx
  generalize hk : dl 4294967296 x - 1 = k at *
  have hB : (4294967296 : Nat) ^ k = 2 ^ (32 * k) := by rw [Nat.pow_mul]
  have hlt : x < 4294967296 ^ (k + 1) := (dl_le_iff (by omega) _ _).1 (by omega)
  have hq : x / 2 ^ (32 * k) < 4294967296 := Nat.div_lt_of_lt_mul (by rwa [← hB, ← Nat.pow_succ])
  have hd : dg 4294967296 x k = x / 2 ^ (32 * k) := by unfold dg; rw [hB]; exact Nat.mod_eq_of_lt hq
  rw [hd] at ht ⊢
  refine dl_eq (by omega) _ _ ?_ ?_
  · rw [Nat.pow_add]
    exact (Nat.div_lt_iff_lt_mul (Nat.pow_pos (by omega))).1 (lt_pow_dl (by omega) (x / 2 ^ (32 * k))) |> (Nat.mul_comm _ _ ▸ ·)
  · right
    have hp := (dl_pos_iff (B := 2) (by omega)).2 (Nat.pos_of_ne_zero ht)
    have := dg_top (B := 2) (by omega) (Nat.pos_of_ne_zero ht)
    unfold dg at this ⊢
    rw [Nat.div_div_eq_div_mul, ← Nat.pow_add] at this
    rwa [show 32 * k + dl 2 (x / 2 ^ (32 * k)) - 1 = 32 * k + (dl 2 (x / 2 ^ (32 * k)) - 1) from by omega]

/-- a bit, out of its word -/
theorem bit_word (x i : Nat) : dg 2 x i = dg 4294967296 x (i / 32) / 2 ^ (i % 32) % 2 := by
  have hi : i = 32 * (i / 32) + i % 32 := by omega
  have ht : i % 32 < 32 := by omega
  generalize i / 32 = j at *
  generalize i % 32 = t at *
  subst hi
  unfold dg
  rw [show (4294967296 : Nat) ^ j = 2 ^ (32 * j) from by rw [Nat.pow_mul], Nat.pow_add, ← Nat.div_div_eq_div_mul]
  generalize x / 2 ^ (32 * j) = y
  have e : (4294967296 : Nat) = 2 ^ t * 2 ^ (32 - t) := by rw [← Nat.pow_add, show t + (32 - t) = 32 from by omega]
  rw [e, Nat.mod_mul_right_div_self]
  have e2 : 2 ^ (32 - t) = 2 * 2 ^ (31 - t) := by rw [← Nat.pow_succ', show (31 - t).succ = 32 - t from by omega]
  rw [e2, Nat.mod_mul_right_mod]

/-- doubling, word by word: x' = 2 x + c -/
theorem dbl_step (x c i : Nat) (hc : c < 2) :
    dg 4294967296 (2 * x + c) i = (2 * dg 4294967296 x i) % 4294967296 + (2 * (x % 4294967296 ^ i) + c) / 4294967296 ^ i ∧
    (2 * (x % 4294967296 ^ (i + 1)) + c) / 4294967296 ^ (i + 1) = dg 4294967296 x i / 2147483648 ∧ (2 * (x % 4294967296 ^ i) + c) / 4294967296 ^ i < 2 := by
  have hp : 0 < 4294967296 ^ i := Nat.pow_pos (by omega)
  have hm := Nat.mod_lt x hp
  have hx := Nat.div_add_mod x (4294967296 ^ i)
  have hs := mod_succ 4294967296 x i
  have hdl := dg_lt (by omega : 0 < 4294967296) x i
  have hd : dg 4294967296 x i = x / 4294967296 ^ i % 4294967296 := rfl
  have hlt : (2 * (x % 4294967296 ^ i) + c) / 4294967296 ^ i < 2 := Nat.div_lt_of_lt_mul (by omega)
  refine ⟨?_, ?_, hlt⟩
  · have e : 2 * x + c = (2 * (x % 4294967296 ^ i) + c) + 4294967296 ^ i * (2 * (x / 4294967296 ^ i)) := by
      rw [Nat.mul_left_comm]; omega
    show (2 * x + c) / 4294967296 ^ i % 4294967296 = _
    rw [e, Nat.add_mul_div_left _ _ hp, hd]
    generalize (2 * (x % 4294967296 ^ i) + c) / 4294967296 ^ i = k at *
    generalize x / 4294967296 ^ i = y at *
    omega
  · have e : 2 * (x % 4294967296 ^ (i + 1)) + c = (2 * (x % 4294967296 ^ i) + c) + 4294967296 ^ i * (2 * dg 4294967296 x i) := by
      rw [hs, Nat.mul_add, Nat.mul_left_comm]; omega
    rw [e, Nat.pow_succ, ← Nat.div_div_eq_div_mul, Nat.add_mul_div_left _ _ hp]
    generalize (2 * (x % 4294967296 ^ i) + c) / 4294967296 ^ i = k at *
    omega

/-- comparing from the top: where the digits above agree and one differs -/
theorem lt_of_dg_lt {B : Nat} (a b i : Nat) (h : a / B ^ (i + 1) = b / B ^ (i + 1)) (hd : dg B a i < dg B b i) : a < b := by
  have h1 := div_succ B a i
  have h2 := div_succ B b i
  rw [h] at h1
  have : a / B ^ i < b / B ^ i := by omega
  rcases Nat.lt_or_ge a b with hl | hg
  · exact hl
  · have := Nat.div_le_div_right (c := B ^ i) hg
    omega

end Go.Proofs.YtnohidkmjclojaaGreatDoor
