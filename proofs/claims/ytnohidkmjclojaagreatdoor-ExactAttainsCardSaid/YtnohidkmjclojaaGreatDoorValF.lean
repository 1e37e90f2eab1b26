/- Walks: exact.Add, Sub, Mul, Quo, Cmp, Of. -/
import Derived.Test.YtnohidkmjclojaaGreatDoorValE
namespace Go.Proofs.YtnohidkmjclojaaGreatDoor
open Go.RowKit

/-- a fraction in numbers: negative or not, numerator, denominator -/
abbrev Tri := Bool × Nat × Nat
def addT (p q : Tri) : Tri := ((sumS p.1 (p.2.1 * q.2.2) q.1 (q.2.1 * p.2.2)).1, (sumS p.1 (p.2.1 * q.2.2) q.1 (q.2.1 * p.2.2)).2, p.2.2 * q.2.2)
def mulT (p q : Tri) : Tri := (p.1 != q.1, p.2.1 * q.2.1, p.2.2 * q.2.2)
def quoT (p q : Tri) : Tri := (p.1 != q.1, p.2.1 * q.2.2, p.2.2 * q.2.1)
def negT (p : Tri) : Tri := (!p.1, p.2.1, p.2.2)
def ratT (n d : List UInt8) : Tri := (rM n, rX n, valN d)
/-- a fraction with an error, as Go has it -/
def opR (r : (List UInt8 × List UInt8) × Int) : Value := .tuple #[ratV r.1.1 r.1.2, .int .i64 r.2]
/-- what an operation on two fractions returns -/
def opS (n d n' d' : List UInt8) (t : Tri) : (List UInt8 × List UInt8) × Int := bothS (validB n d && validB n' d') t.1 t.2.1 t.2.2
def valT (t : Tri) : Value := .agg (val t.1 t.2.1 t.2.2)

theorem valid_lt {n d : List UInt8} (h : validB n d = true) : rX n < 10 ^ 60 ∧ valN d < 10 ^ 60 ∧ 0 < valN d := ⟨(of_valid h).hx, (of_valid h).hy, (of_valid h).pos⟩
theorem mul_60 {a b j k : Nat} (ha : a < 10 ^ j) (hb : b < 10 ^ k) : a * b < 10 ^ (j + k) := by
  rw [Nat.pow_add]
  exact Nat.mul_lt_mul'' ha hb

theorem bothc_plus (n d n' d' : List UInt8) (T : Tri) (w : World) (hn : n.length ≤ maxLen) (hd : d.length ≤ maxLen) (hn' : n'.length ≤ maxLen) (hd' : d'.length ≤ maxLen)
    (h : validB n d = true → validB n' d' = true → (∀ w, Calls Tryz.prog 75 #[valT (ratT n d), valT (ratT n' d')] w fun e w' => e = .returned (valT T) ∧ Grown w w') ∧ dl 4294967296 T.2.1 ≤ 32 ∧ dl 4294967296 (2 * T.2.2) ≤ 32) (hpow : Pow10 w) :
    Calls Tryz.prog 94 #[ratV n d, ratV n' d', .func (.func 75) #[] #[]] w fun e w' => e = .returned (opR (opS n d n' d' T)) ∧ Grown w w' := by
  by_cases hv : validB n d = true ∧ validB n' d' = true
  · obtain ⟨h1, h2, h3⟩ := h hv.1 hv.2
    exact both_plus n d n' d' T.1 T.2.1 T.2.2 w hn hd hn' hd' (fun _ _ => h1) h2 h3 hpow
  · have hf : (validB n d && validB n' d') = false := by
      rw [Bool.and_eq_false_iff]
      rcases Bool.eq_false_or_eq_true (validB n d) with h1 | h1
      · rcases Bool.eq_false_or_eq_true (validB n' d') with h2 | h2
        · exact absurd ⟨h1, h2⟩ hv
        · exact .inr h2
      · exact .inl h1
    refine (both_plus n d n' d' false 0 0 w hn hd hn' hd' (fun a b => absurd ⟨a, b⟩ hv) (by rw [dl_zero]; omega) (by rw [Nat.mul_zero, dl_zero]; omega) hpow).mono ?_
    rintro e w' ⟨rfl, hg⟩
    refine ⟨?_, hg⟩
    unfold opR opS
    rw [hf]
    rfl
theorem bothc_sub (n d n' d' : List UInt8) (T : Tri) (w : World) (hn : n.length ≤ maxLen) (hd : d.length ≤ maxLen) (hn' : n'.length ≤ maxLen) (hd' : d'.length ≤ maxLen)
    (h : validB n d = true → validB n' d' = true → (∀ w, Calls Tryz.prog 95 #[valT (ratT n d), valT (ratT n' d')] w fun e w' => e = .returned (valT T) ∧ Grown w w') ∧ dl 4294967296 T.2.1 ≤ 32 ∧ dl 4294967296 (2 * T.2.2) ≤ 32) (hpow : Pow10 w) :
    Calls Tryz.prog 94 #[ratV n d, ratV n' d', .func (.func 95) #[] #[]] w fun e w' => e = .returned (opR (opS n d n' d' T)) ∧ Grown w w' := by
  by_cases hv : validB n d = true ∧ validB n' d' = true
  · obtain ⟨h1, h2, h3⟩ := h hv.1 hv.2
    exact both_sub n d n' d' T.1 T.2.1 T.2.2 w hn hd hn' hd' (fun _ _ => h1) h2 h3 hpow
  · have hf : (validB n d && validB n' d') = false := by
      rw [Bool.and_eq_false_iff]
      rcases Bool.eq_false_or_eq_true (validB n d) with h1 | h1
      · rcases Bool.eq_false_or_eq_true (validB n' d') with h2 | h2
        · exact absurd ⟨h1, h2⟩ hv
        · exact .inr h2
      · exact .inl h1
    refine (both_sub n d n' d' false 0 0 w hn hd hn' hd' (fun a b => absurd ⟨a, b⟩ hv) (by rw [dl_zero]; omega) (by rw [Nat.mul_zero, dl_zero]; omega) hpow).mono ?_
    rintro e w' ⟨rfl, hg⟩
    refine ⟨?_, hg⟩
    unfold opR opS
    rw [hf]
    rfl
theorem bothc_mul (n d n' d' : List UInt8) (T : Tri) (w : World) (hn : n.length ≤ maxLen) (hd : d.length ≤ maxLen) (hn' : n'.length ≤ maxLen) (hd' : d'.length ≤ maxLen)
    (h : validB n d = true → validB n' d' = true → (∀ w, Calls Tryz.prog 83 #[valT (ratT n d), valT (ratT n' d')] w fun e w' => e = .returned (valT T) ∧ Grown w w') ∧ dl 4294967296 T.2.1 ≤ 32 ∧ dl 4294967296 (2 * T.2.2) ≤ 32) (hpow : Pow10 w) :
    Calls Tryz.prog 94 #[ratV n d, ratV n' d', .func (.func 83) #[] #[]] w fun e w' => e = .returned (opR (opS n d n' d' T)) ∧ Grown w w' := by
  by_cases hv : validB n d = true ∧ validB n' d' = true
  · obtain ⟨h1, h2, h3⟩ := h hv.1 hv.2
    exact both_mul n d n' d' T.1 T.2.1 T.2.2 w hn hd hn' hd' (fun _ _ => h1) h2 h3 hpow
  · have hf : (validB n d && validB n' d') = false := by
      rw [Bool.and_eq_false_iff]
      rcases Bool.eq_false_or_eq_true (validB n d) with h1 | h1
      · rcases Bool.eq_false_or_eq_true (validB n' d') with h2 | h2
        · exact absurd ⟨h1, h2⟩ hv
        · exact .inr h2
      · exact .inl h1
    refine (both_mul n d n' d' false 0 0 w hn hd hn' hd' (fun a b => absurd ⟨a, b⟩ hv) (by rw [dl_zero]; omega) (by rw [Nat.mul_zero, dl_zero]; omega) hpow).mono ?_
    rintro e w' ⟨rfl, hg⟩
    refine ⟨?_, hg⟩
    unfold opR opS
    rw [hf]
    rfl
theorem bothc_quo (n d n' d' : List UInt8) (T : Tri) (w : World) (hn : n.length ≤ maxLen) (hd : d.length ≤ maxLen) (hn' : n'.length ≤ maxLen) (hd' : d'.length ≤ maxLen)
    (h : validB n d = true → validB n' d' = true → (∀ w, Calls Tryz.prog 87 #[valT (ratT n d), valT (ratT n' d')] w fun e w' => e = .returned (valT T) ∧ Grown w w') ∧ dl 4294967296 T.2.1 ≤ 32 ∧ dl 4294967296 (2 * T.2.2) ≤ 32) (hpow : Pow10 w) :
    Calls Tryz.prog 94 #[ratV n d, ratV n' d', .func (.func 87) #[] #[]] w fun e w' => e = .returned (opR (opS n d n' d' T)) ∧ Grown w w' := by
  by_cases hv : validB n d = true ∧ validB n' d' = true
  · obtain ⟨h1, h2, h3⟩ := h hv.1 hv.2
    exact both_quo n d n' d' T.1 T.2.1 T.2.2 w hn hd hn' hd' (fun _ _ => h1) h2 h3 hpow
  · have hf : (validB n d && validB n' d') = false := by
      rw [Bool.and_eq_false_iff]
      rcases Bool.eq_false_or_eq_true (validB n d) with h1 | h1
      · rcases Bool.eq_false_or_eq_true (validB n' d') with h2 | h2
        · exact absurd ⟨h1, h2⟩ hv
        · exact .inr h2
      · exact .inl h1
    refine (both_quo n d n' d' false 0 0 w hn hd hn' hd' (fun a b => absurd ⟨a, b⟩ hv) (by rw [dl_zero]; omega) (by rw [Nat.mul_zero, dl_zero]; omega) hpow).mono ?_
    rintro e w' ⟨rfl, hg⟩
    refine ⟨?_, hg⟩
    unfold opR opS
    rw [hf]
    rfl

set_option maxRecDepth 100000 in
set_option maxHeartbeats 400000 in
theorem Sub1_any (a b : Bool) (x y u v : Nat) (w : World) (hx : dl 4294967296 x ≤ 32) (hy : dl 4294967296 y ≤ 32) (hu : dl 4294967296 u ≤ 32) (hv : dl 4294967296 v ≤ 32)
    (h1 : dl 4294967296 (x * v) ≤ 32) (h2 : dl 4294967296 (u * y) ≤ 32) (h3 : dl 4294967296 (x * v + u * y) ≤ 32) (hd : dl 4294967296 (y * v) ≤ 32) :
    Calls Tryz.prog 95 #[.agg (val a x y), .agg (val b u v)] w fun e w' => e = .returned (.agg (val (sumS a (x * v) (!b) (u * y)).1 (sumS a (x * v) (!b) (u * y)).2 (y * v))) ∧ Grown w w' := by
  have hsum := vplus_any a (!b) x y u v
  obtain ⟨c, hc⟩ : ∃ c, c = (sumS a (x * v) (!b) (u * y)).1 := ⟨_, rfl⟩
  obtain ⟨s, hs⟩ : ∃ s, s = (sumS a (x * v) (!b) (u * y)).2 := ⟨_, rfl⟩
  obtain ⟨z, hz⟩ : ∃ z, z = y * v := ⟨_, rfl⟩
  have hsum' : ∀ w, Calls Tryz.prog 75 #[.agg (val a x y), .agg (val (!b) u v)] w fun e w' => e = .returned (.agg (val c s z)) ∧ Grown w w' := by
    intro w
    rw [hc, hs, hz]
    exact hsum w hx hy hu hv h1 h2 h3 hd
  rw [← hc, ← hs, ← hz]
  have HS := Lib.hid hsum'
  clear hsum hsum' hc hs hz h1 h2 h3 hd hx hy hu hv
  go_enter Tryz.func95, Tryz.ntmps95
  go_wp2_with fail
  go_region_held3 (fun w' => rowAt w' ⟨w.heap.size, 0, none⟩ 67 = some (val a x y) ∧ rowAt w' ⟨w.heap.size + 1, 0, none⟩ 67 = some (val b u v)) (go_simp)
    (first | (go_at_call 81; ((with_reducible refine (negated_any b u v _).mono ?_); rintro e w' ⟨rfl, os1, d1, rfl⟩)) | (go_at_call 75; ((with_reducible refine (HS.out _).mono ?_); rintro e w' ⟨rfl, os2, d2, rfl⟩)))
  all_goals
    go_wp2
    refine bodyPost_ret (v := .agg (val c s z)) (ret_val rfl rfl ?_) rfl ⟨rfl, ?_⟩
    · go_simp
    · exact (by with_reducible repeat (first | exact Grown.refl _ | apply Grown.more | apply Grown.alloc | apply Grown.drewN | apply Grown.drew))

theorem plus_rat {n d n' d' : List UInt8} (h1 : validB n d = true) (h2 : validB n' d' = true) :
    (∀ w, Calls Tryz.prog 75 #[valT (ratT n d), valT (ratT n' d')] w fun e w' => e = .returned (valT (addT (ratT n d) (ratT n' d'))) ∧ Grown w w') ∧
    (∀ w, Calls Tryz.prog 95 #[valT (ratT n d), valT (ratT n' d')] w fun e w' => e = .returned (valT (addT (ratT n d) (negT (ratT n' d')))) ∧ Grown w w') ∧
    (∀ w, Calls Tryz.prog 83 #[valT (ratT n d), valT (ratT n' d')] w fun e w' => e = .returned (valT (mulT (ratT n d) (ratT n' d'))) ∧ Grown w w') ∧
    (∀ w, Calls Tryz.prog 87 #[valT (ratT n d), valT (ratT n' d')] w fun e w' => e = .returned (valT (quoT (ratT n d) (ratT n' d'))) ∧ Grown w w') ∧
    (∀ w, Calls Tryz.prog 132 #[valT (ratT n d), valT (ratT n' d')] w fun e w' => e = .returned (.int .i64 (ordS (rM n) (rX n) (valN d) (rM n') (rX n') (valN d'))) ∧ Grown w w') := by
  obtain ⟨hx, hy, -⟩ := valid_lt h1
  obtain ⟨hu, hv, -⟩ := valid_lt h2
  have g1 := mul_60 hx hv
  have g2 := mul_60 hu hy
  have g3 : rX n * valN d' + rX n' * valN d < 10 ^ 121 := by omega
  have g4 := mul_60 hy hv
  have g5 := mul_60 hx hu
  have g6 := mul_60 hy hu
  refine ⟨fun w => ?_, fun w => ?_, fun w => ?_, fun w => ?_, fun w => ?_⟩
  · exact vplus_any _ _ _ _ _ _ w (dl_300 hx (by omega)) (dl_300 hy (by omega)) (dl_300 hu (by omega)) (dl_300 hv (by omega)) (dl_300 g1 (by omega)) (dl_300 g2 (by omega)) (dl_300 g3 (by omega)) (dl_300 g4 (by omega))
  · exact Sub1_any _ _ _ _ _ _ w (dl_300 hx (by omega)) (dl_300 hy (by omega)) (dl_300 hu (by omega)) (dl_300 hv (by omega)) (dl_300 g1 (by omega)) (dl_300 g2 (by omega)) (dl_300 g3 (by omega)) (dl_300 g4 (by omega))
  · exact vtimes_any _ _ _ _ _ _ w (dl_300 hx (by omega)) (dl_300 hy (by omega)) (dl_300 hu (by omega)) (dl_300 hv (by omega)) (dl_300 g5 (by omega)) (dl_300 g4 (by omega))
  · exact vover_any _ _ _ _ _ _ w (dl_300 hx (by omega)) (dl_300 hy (by omega)) (dl_300 hu (by omega)) (dl_300 hv (by omega)) (dl_300 g1 (by omega)) (dl_300 g6 (by omega))
  · exact order_any _ _ _ _ _ _ w (dl_300 hx (by omega)) (dl_300 hy (by omega)) (dl_300 hu (by omega)) (dl_300 hv (by omega)) (dl_300 g1 (by omega)) (dl_300 g2 (by omega)) (dl_300 g3 (by omega))
/-- results of two valid fractions have few digits -/
theorem tri_small {n d n' d' : List UInt8} (h1 : validB n d = true) (h2 : validB n' d' = true) :
    (∀ q, q = addT (ratT n d) (ratT n' d') ∨ q = addT (ratT n d) (negT (ratT n' d')) ∨ q = mulT (ratT n d) (ratT n' d') ∨ q = quoT (ratT n d) (ratT n' d') → q.2.1 < 10 ^ 121 ∧ q.2.2 < 10 ^ 120) := by
  obtain ⟨hx, hy, -⟩ := valid_lt h1
  obtain ⟨hu, hv, -⟩ := valid_lt h2
  have g1 := mul_60 hx hv
  have g2 := mul_60 hu hy
  have g4 := mul_60 hy hv
  have g5 := mul_60 hx hu
  have g6 := mul_60 hy hu
  have gs : ∀ a b x y, x < 10 ^ 120 → y < 10 ^ 120 → (sumS a x b y).2 < 10 ^ 121 := by
    intro a b x y hx hy
    unfold sumS
    split
    · show x + y < _; omega
    · split
      · show x - y < _; omega
      · show y - x < _; omega
  rintro q (rfl | rfl | rfl | rfl)
  · exact ⟨gs _ _ _ _ g1 g2, g4⟩
  · exact ⟨gs _ _ _ _ g1 g2, g4⟩
  · exact ⟨Nat.lt_of_lt_of_le g5 (Nat.pow_le_pow_right (by omega) (by omega)), g4⟩
  · exact ⟨Nat.lt_of_lt_of_le g1 (Nat.pow_le_pow_right (by omega) (by omega)), g6⟩
theorem tri_dl {t : Tri} (h : t.2.1 < 10 ^ 121 ∧ t.2.2 < 10 ^ 120) : dl 4294967296 t.2.1 ≤ 32 ∧ dl 4294967296 (2 * t.2.2) ≤ 32 :=
  ⟨dl_300 h.1 (by omega), dl_300 (k := 121) (by have := h.2; omega) (by omega)⟩

set_option maxRecDepth 100000 in
set_option maxHeartbeats 400000 in
theorem Add_any (n d n' d' : List UInt8) (w : World) (hn : n.length ≤ maxLen) (hd : d.length ≤ maxLen) (hn' : n'.length ≤ maxLen) (hd' : d'.length ≤ maxLen) (hpow : Pow10 w) :
    Calls Tryz.prog 27 #[ratV n d, ratV n' d'] w fun e w' => e = .returned (opR (opS n d n' d' (addT (ratT n d) (ratT n' d')))) ∧ Grown w w' := by
  have hb : ∀ w, Pow10 w → _ := fun w hpow => bothc_plus n d n' d' (addT (ratT n d) (ratT n' d')) w hn hd hn' hd' (fun h1 h2 => ⟨(plus_rat h1 h2).1, tri_dl (tri_small h1 h2 _ (.inl rfl))⟩) hpow
  obtain ⟨⟨⟨t1, t2⟩, t3⟩, hT⟩ : ∃ T, T = opS n d n' d' (addT (ratT n d) (ratT n' d')) := ⟨_, rfl⟩
  rw [← hT] at hb ⊢
  unfold opR ratV at hb ⊢
  dsimp only at hb ⊢
  obtain ⟨sn, hsn⟩ : ∃ s : ByteArray, s = ⟨n.toArray⟩ := ⟨_, rfl⟩
  obtain ⟨sd, hsd⟩ : ∃ s : ByteArray, s = ⟨d.toArray⟩ := ⟨_, rfl⟩
  obtain ⟨sn', hsn'⟩ : ∃ s : ByteArray, s = ⟨n'.toArray⟩ := ⟨_, rfl⟩
  obtain ⟨sd', hsd'⟩ : ∃ s : ByteArray, s = ⟨d'.toArray⟩ := ⟨_, rfl⟩
  obtain ⟨s1, hs1⟩ : ∃ s : ByteArray, s = ⟨t1.toArray⟩ := ⟨_, rfl⟩
  obtain ⟨s2, hs2⟩ : ∃ s : ByteArray, s = ⟨t2.toArray⟩ := ⟨_, rfl⟩
  rw [← hsn, ← hsd, ← hsn', ← hsd', ← hs1, ← hs2] at hb ⊢
  have HB := Lib.hid hb
  clear hb hT hsn hsd hsn' hsd' hs1 hs2
  go_enter Tryz.func27, Tryz.ntmps27
  go_wp2_with (go_at_call 94; ((with_reducible refine (HB.out _ ?_).mono ?_); (exact hpow.grown (by with_reducible repeat (first | exact Grown.refl _ | apply Grown.more | apply Grown.alloc | apply Grown.drewN | apply Grown.drew))); rintro e w' ⟨rfl, os1, d1, rfl⟩))
  refine bodyPost_ret (v := .tuple #[.agg #[.string s1, .string s2], .int .i64 t3]) (ret_rat_tmp rfl rfl rfl ?_) rfl ⟨rfl, ?_⟩
  · go_simp
  · exact (by with_reducible repeat (first | exact Grown.refl _ | apply Grown.more | apply Grown.alloc | apply Grown.drewN | apply Grown.drew))

set_option maxRecDepth 100000 in
set_option maxHeartbeats 400000 in
theorem Sub_any (n d n' d' : List UInt8) (w : World) (hn : n.length ≤ maxLen) (hd : d.length ≤ maxLen) (hn' : n'.length ≤ maxLen) (hd' : d'.length ≤ maxLen) (hpow : Pow10 w) :
    Calls Tryz.prog 28 #[ratV n d, ratV n' d'] w fun e w' => e = .returned (opR (opS n d n' d' (addT (ratT n d) (negT (ratT n' d'))))) ∧ Grown w w' := by
  have hb : ∀ w, Pow10 w → _ := fun w hpow => bothc_sub n d n' d' (addT (ratT n d) (negT (ratT n' d'))) w hn hd hn' hd' (fun h1 h2 => ⟨(plus_rat h1 h2).2.1, tri_dl (tri_small h1 h2 _ (.inr (.inl rfl)))⟩) hpow
  obtain ⟨⟨⟨t1, t2⟩, t3⟩, hT⟩ : ∃ T, T = opS n d n' d' (addT (ratT n d) (negT (ratT n' d'))) := ⟨_, rfl⟩
  rw [← hT] at hb ⊢
  unfold opR ratV at hb ⊢
  dsimp only at hb ⊢
  obtain ⟨sn, hsn⟩ : ∃ s : ByteArray, s = ⟨n.toArray⟩ := ⟨_, rfl⟩
  obtain ⟨sd, hsd⟩ : ∃ s : ByteArray, s = ⟨d.toArray⟩ := ⟨_, rfl⟩
  obtain ⟨sn', hsn'⟩ : ∃ s : ByteArray, s = ⟨n'.toArray⟩ := ⟨_, rfl⟩
  obtain ⟨sd', hsd'⟩ : ∃ s : ByteArray, s = ⟨d'.toArray⟩ := ⟨_, rfl⟩
  obtain ⟨s1, hs1⟩ : ∃ s : ByteArray, s = ⟨t1.toArray⟩ := ⟨_, rfl⟩
  obtain ⟨s2, hs2⟩ : ∃ s : ByteArray, s = ⟨t2.toArray⟩ := ⟨_, rfl⟩
  rw [← hsn, ← hsd, ← hsn', ← hsd', ← hs1, ← hs2] at hb ⊢
  have HB := Lib.hid hb
  clear hb hT hsn hsd hsn' hsd' hs1 hs2
  go_enter Tryz.func28, Tryz.ntmps28
  go_wp2_with (go_at_call 94; ((with_reducible refine (HB.out _ ?_).mono ?_); (exact hpow.grown (by with_reducible repeat (first | exact Grown.refl _ | apply Grown.more | apply Grown.alloc | apply Grown.drewN | apply Grown.drew))); rintro e w' ⟨rfl, os1, d1, rfl⟩))
  refine bodyPost_ret (v := .tuple #[.agg #[.string s1, .string s2], .int .i64 t3]) (ret_rat_tmp rfl rfl rfl ?_) rfl ⟨rfl, ?_⟩
  · go_simp
  · exact (by with_reducible repeat (first | exact Grown.refl _ | apply Grown.more | apply Grown.alloc | apply Grown.drewN | apply Grown.drew))

set_option maxRecDepth 100000 in
set_option maxHeartbeats 400000 in
theorem Mul_any (n d n' d' : List UInt8) (w : World) (hn : n.length ≤ maxLen) (hd : d.length ≤ maxLen) (hn' : n'.length ≤ maxLen) (hd' : d'.length ≤ maxLen) (hpow : Pow10 w) :
    Calls Tryz.prog 29 #[ratV n d, ratV n' d'] w fun e w' => e = .returned (opR (opS n d n' d' (mulT (ratT n d) (ratT n' d')))) ∧ Grown w w' := by
  have hb : ∀ w, Pow10 w → _ := fun w hpow => bothc_mul n d n' d' (mulT (ratT n d) (ratT n' d')) w hn hd hn' hd' (fun h1 h2 => ⟨(plus_rat h1 h2).2.2.1, tri_dl (tri_small h1 h2 _ (.inr (.inr (.inl rfl))))⟩) hpow
  obtain ⟨⟨⟨t1, t2⟩, t3⟩, hT⟩ : ∃ T, T = opS n d n' d' (mulT (ratT n d) (ratT n' d')) := ⟨_, rfl⟩
  rw [← hT] at hb ⊢
  unfold opR ratV at hb ⊢
  dsimp only at hb ⊢
  obtain ⟨sn, hsn⟩ : ∃ s : ByteArray, s = ⟨n.toArray⟩ := ⟨_, rfl⟩
  obtain ⟨sd, hsd⟩ : ∃ s : ByteArray, s = ⟨d.toArray⟩ := ⟨_, rfl⟩
  obtain ⟨sn', hsn'⟩ : ∃ s : ByteArray, s = ⟨n'.toArray⟩ := ⟨_, rfl⟩
  obtain ⟨sd', hsd'⟩ : ∃ s : ByteArray, s = ⟨d'.toArray⟩ := ⟨_, rfl⟩
  obtain ⟨s1, hs1⟩ : ∃ s : ByteArray, s = ⟨t1.toArray⟩ := ⟨_, rfl⟩
  obtain ⟨s2, hs2⟩ : ∃ s : ByteArray, s = ⟨t2.toArray⟩ := ⟨_, rfl⟩
  rw [← hsn, ← hsd, ← hsn', ← hsd', ← hs1, ← hs2] at hb ⊢
  have HB := Lib.hid hb
  clear hb hT hsn hsd hsn' hsd' hs1 hs2
  go_enter Tryz.func29, Tryz.ntmps29
  go_wp2_with (go_at_call 94; ((with_reducible refine (HB.out _ ?_).mono ?_); (exact hpow.grown (by with_reducible repeat (first | exact Grown.refl _ | apply Grown.more | apply Grown.alloc | apply Grown.drewN | apply Grown.drew))); rintro e w' ⟨rfl, os1, d1, rfl⟩))
  refine bodyPost_ret (v := .tuple #[.agg #[.string s1, .string s2], .int .i64 t3]) (ret_rat_tmp rfl rfl rfl ?_) rfl ⟨rfl, ?_⟩
  · go_simp
  · exact (by with_reducible repeat (first | exact Grown.refl _ | apply Grown.more | apply Grown.alloc | apply Grown.drewN | apply Grown.drew))

set_option maxRecDepth 100000 in
set_option maxHeartbeats 400000 in
theorem Quo_any (n d n' d' : List UInt8) (w : World) (hn : n.length ≤ maxLen) (hd : d.length ≤ maxLen) (hn' : n'.length ≤ maxLen) (hd' : d'.length ≤ maxLen) (hpow : Pow10 w) :
    Calls Tryz.prog 30 #[ratV n d, ratV n' d'] w fun e w' => e = .returned (opR (opS n d n' d' (quoT (ratT n d) (ratT n' d')))) ∧ Grown w w' := by
  have hb : ∀ w, Pow10 w → _ := fun w hpow => bothc_quo n d n' d' (quoT (ratT n d) (ratT n' d')) w hn hd hn' hd' (fun h1 h2 => ⟨(plus_rat h1 h2).2.2.2.1, tri_dl (tri_small h1 h2 _ (.inr (.inr (.inr rfl))))⟩) hpow
  obtain ⟨⟨⟨t1, t2⟩, t3⟩, hT⟩ : ∃ T, T = opS n d n' d' (quoT (ratT n d) (ratT n' d')) := ⟨_, rfl⟩
  rw [← hT] at hb ⊢
  unfold opR ratV at hb ⊢
  dsimp only at hb ⊢
  obtain ⟨sn, hsn⟩ : ∃ s : ByteArray, s = ⟨n.toArray⟩ := ⟨_, rfl⟩
  obtain ⟨sd, hsd⟩ : ∃ s : ByteArray, s = ⟨d.toArray⟩ := ⟨_, rfl⟩
  obtain ⟨sn', hsn'⟩ : ∃ s : ByteArray, s = ⟨n'.toArray⟩ := ⟨_, rfl⟩
  obtain ⟨sd', hsd'⟩ : ∃ s : ByteArray, s = ⟨d'.toArray⟩ := ⟨_, rfl⟩
  obtain ⟨s1, hs1⟩ : ∃ s : ByteArray, s = ⟨t1.toArray⟩ := ⟨_, rfl⟩
  obtain ⟨s2, hs2⟩ : ∃ s : ByteArray, s = ⟨t2.toArray⟩ := ⟨_, rfl⟩
  rw [← hsn, ← hsd, ← hsn', ← hsd', ← hs1, ← hs2] at hb ⊢
  have HB := Lib.hid hb
  clear hb hT hsn hsd hsn' hsd' hs1 hs2
  go_enter Tryz.func30, Tryz.ntmps30
  go_wp2_with (go_at_call 94; ((with_reducible refine (HB.out _ ?_).mono ?_); (exact hpow.grown (by with_reducible repeat (first | exact Grown.refl _ | apply Grown.more | apply Grown.alloc | apply Grown.drewN | apply Grown.drew))); rintro e w' ⟨rfl, os1, d1, rfl⟩))
  refine bodyPost_ret (v := .tuple #[.agg #[.string s1, .string s2], .int .i64 t3]) (ret_rat_tmp rfl rfl rfl ?_) rfl ⟨rfl, ?_⟩
  · go_simp
  · exact (by with_reducible repeat (first | exact Grown.refl _ | apply Grown.more | apply Grown.alloc | apply Grown.drewN | apply Grown.drew))

/-- the sign of a comparison -/
def cmpS (n d n' d' : List UInt8) : Int := if (validB n d && validB n' d') = false then 0 else ordS (rM n) (rX n) (valN d) (rM n') (rX n') (valN d')
set_option maxRecDepth 100000 in
set_option maxHeartbeats 400000 in
/-- Cmp compares fractions -/
theorem Cmp_any (n d n' d' : List UInt8) (w : World) (hn : n.length ≤ maxLen) (hd : d.length ≤ maxLen) (hn' : n'.length ≤ maxLen) (hd' : d'.length ≤ maxLen) :
    Calls Tryz.prog 91 #[ratV n d, ratV n' d'] w fun e w' => e = .returned (.int .i64 (cmpS n d n' d')) ∧ Grown w w' := by
  have ky1 := known_yes n d
  have ky2 := known_yes n' d'
  have kn1 := known_no n d
  have kn2 := known_no n' d'
  have hord : validB n d = true → validB n' d' = true → ∀ w, _ := fun h1 h2 => (plus_rat h1 h2).2.2.2.2
  have hcmp : cmpS n d n' d' = if (validB n d && validB n' d') = false then 0 else ordS (rM n) (rX n) (valN d) (rM n') (rX n') (valN d') := rfl
  obtain ⟨o, ho⟩ : ∃ o, o = ordS (rM n) (rX n) (valN d) (rM n') (rX n') (valN d') := ⟨_, rfl⟩
  rw [← ho] at hord hcmp
  unfold valT ratT at hord
  dsimp only at hord
  obtain ⟨c, hc⟩ : ∃ c, c = cmpS n d n' d' := ⟨_, rfl⟩
  rw [← hc] at hcmp ⊢
  obtain ⟨b1, hb1⟩ : ∃ b, b = validB n d := ⟨_, rfl⟩
  obtain ⟨b2, hb2⟩ : ∃ b, b = validB n' d' := ⟨_, rfl⟩
  obtain ⟨m1, hm1⟩ : ∃ b, b = rM n := ⟨_, rfl⟩
  obtain ⟨m2, hm2⟩ : ∃ b, b = rM n' := ⟨_, rfl⟩
  obtain ⟨x1, hx1⟩ : ∃ b, b = rX n := ⟨_, rfl⟩
  obtain ⟨x2, hx2⟩ : ∃ b, b = rX n' := ⟨_, rfl⟩
  obtain ⟨y1, hy1⟩ : ∃ b, b = valN d := ⟨_, rfl⟩
  obtain ⟨y2, hy2⟩ : ∃ b, b = valN d' := ⟨_, rfl⟩
  rw [← hb1, ← hb2, ← hm1, ← hm2, ← hx1, ← hx2, ← hy1, ← hy2] at hord
  rw [← hb1, ← hb2] at hcmp
  rw [← hb1, ← hm1, ← hx1, ← hy1] at ky1
  rw [← hb2, ← hm2, ← hx2, ← hy2] at ky2
  rw [← hb1] at kn1
  rw [← hb2] at kn2
  clear hb1 hb2 hm1 hm2 hx1 hx2 hy1 hy2 hc ho
  unfold ratV at ky1 ky2 kn1 kn2 ⊢
  obtain ⟨sn, hsn⟩ : ∃ s : ByteArray, s = ⟨n.toArray⟩ := ⟨_, rfl⟩
  obtain ⟨sd, hsd⟩ : ∃ s : ByteArray, s = ⟨d.toArray⟩ := ⟨_, rfl⟩
  obtain ⟨sn', hsn'⟩ : ∃ s : ByteArray, s = ⟨n'.toArray⟩ := ⟨_, rfl⟩
  obtain ⟨sd', hsd'⟩ : ∃ s : ByteArray, s = ⟨d'.toArray⟩ := ⟨_, rfl⟩
  rw [← hsn, ← hsd] at ky1 kn1 ⊢
  rw [← hsn', ← hsd'] at ky2 kn2 ⊢
  clear hsn hsd hsn' hsd'
  have HC := Lib.hid hcmp
  have KY1 := Lib.hid ky1
  have KY2 := Lib.hid ky2
  have KN1 := Lib.hid kn1
  have KN2 := Lib.hid kn2
  have HO := Lib.hid hord
  clear hcmp ky1 ky2 kn1 kn2 hord
  cases b1 <;> cases b2
  all_goals
    go_enter Tryz.func91, Tryz.ntmps91
    go_wp2_with (first | (go_at_call 132; ((with_reducible refine (HO.out (by trivial) (by trivial) _).mono ?_); rintro e w' ⟨rfl, ⟨os3, e3, rfl⟩⟩)) | (go_at_call 97; ((with_reducible refine (KN1.out _ hn hd (by trivial)).mono ?_); rintro e w' ⟨⟨m1', x1', y1', rfl⟩, ⟨os1, e1, rfl⟩⟩)) | (go_at_call 97; ((with_reducible refine (KY1.out _ hn hd (by trivial)).mono ?_); rintro e w' ⟨rfl, ⟨os1, e1, rfl⟩⟩)) | (go_at_call 97; ((with_reducible refine (KN2.out _ hn' hd' (by trivial)).mono ?_); rintro e w' ⟨⟨m2', x2', y2', rfl⟩, ⟨os2, e2, rfl⟩⟩)) | (go_at_call 97; ((with_reducible refine (KY2.out _ hn' hd' (by trivial)).mono ?_); rintro e w' ⟨rfl, ⟨os2, e2, rfl⟩⟩)))
    go_ret
    exact ⟨by rw [HC.out]; rfl, (by with_reducible repeat (first | exact Grown.refl _ | apply Grown.more | apply Grown.alloc | apply Grown.drewN | apply Grown.drew))⟩

/-- what Of returns -/
def ofS (a b : Int) : (List UInt8 × List UInt8) × Int := if b = 0 then (([], []), 20) else toldS (decide (a < 0) != decide (b < 0)) (a.natAbs * 1) (1 * b.natAbs)
set_option maxRecDepth 100000 in
set_option maxHeartbeats 400000 in
/-- Of makes a fraction -/
theorem Of_any (a b : Int) (w : World) (ha1 : -9223372036854775808 ≤ a) (ha2 : a ≤ 9223372036854775807) (hb1 : -9223372036854775808 ≤ b) (hb2 : b ≤ 9223372036854775807) (hpow : Pow10 w) :
    Calls Tryz.prog 126 #[.int .i64 a, .int .i64 b] w fun e w' => e = .returned (opR (ofS a b)) ∧ Grown w w' := by
  have hof : ofS a b = if b = 0 then (([], []), 20) else toldS (decide (a < 0) != decide (b < 0)) (a.natAbs * 1) (1 * b.natAbs) := rfl
  obtain ⟨r, hr⟩ : ∃ r, r = ofS a b := ⟨_, rfl⟩
  rw [← hr] at hof ⊢
  clear hr
  by_cases h0 : b = 0
  · rw [if_pos h0] at hof
    subst hof h0
    go_enter Tryz.func126, Tryz.ntmps126
    go_wp2
    refine bodyPost_ret (v := .tuple #[.agg #[.string ⟨#[]⟩, .string ⟨#[]⟩], .int .i64 20]) (ret_rat_tmp rfl rfl rfl ?_) rfl ⟨rfl, ?_⟩
    · go_simp
    · exact (by with_reducible repeat (first | exact Grown.refl _ | apply Grown.more | apply Grown.alloc | apply Grown.drewN | apply Grown.drew))
  · rw [if_neg h0] at hof
    have hwa := fun w => whole_any a w ha1 ha2
    have hwb := fun w => whole_any b w hb1 hb2
    have hva : a.natAbs < 10 ^ 60 := by omega
    have hvb : b.natAbs < 10 ^ 60 := by omega
    have hv0 : 0 < b.natAbs := by omega
    have hb : (b == 0) = false := by rw [beq_eq_false_iff_ne]; exact h0
    obtain ⟨x, hx⟩ : ∃ x, x = a.natAbs := ⟨_, rfl⟩
    obtain ⟨y, hy⟩ : ∃ y, y = b.natAbs := ⟨_, rfl⟩
    obtain ⟨m, hm⟩ : ∃ m, m = decide (a < 0) := ⟨_, rfl⟩
    obtain ⟨m', hm'⟩ : ∃ m, m = decide (b < 0) := ⟨_, rfl⟩
    rw [← hx, ← hm] at hwa
    rw [← hy, ← hm'] at hwb
    rw [← hx, ← hy, ← hm, ← hm'] at hof
    rw [← hx] at hva
    rw [← hy] at hvb hv0
    have hov : ∀ w, Calls Tryz.prog 87 #[.agg (val m x 1), .agg (val m' y 1)] w fun e w' => e = .returned (.agg (val (m != m') (x * 1) (1 * y))) ∧ Grown w w' := fun w =>
      vover_any m m' x 1 y 1 w (dl_300 hva (by omega)) (dl_300 (k := 1) (by omega) (by omega)) (dl_300 hvb (by omega)) (dl_300 (k := 1) (by omega) (by omega)) (dl_300 (k := 60) (by omega) (by omega)) (dl_300 (k := 60) (by omega) (by omega))
    have hto := fun w hpow => told_any (m != m') (x * 1) (1 * y) w (dl_300 (k := 60) (by omega) (by omega)) (dl_300 (k := 61) (by omega) (by omega)) (by omega) hpow
    rw [← hof] at hto
    obtain ⟨v, hv⟩ : ∃ v, v = val (m != m') (x * 1) (1 * y) := ⟨_, rfl⟩
    rw [← hv] at hov hto
    obtain ⟨⟨t1, t2⟩, t3⟩ := r
    unfold opR ratV at *
    dsimp only at hto ⊢
    obtain ⟨s1, hs1⟩ : ∃ s : ByteArray, s = ⟨t1.toArray⟩ := ⟨_, rfl⟩
    obtain ⟨s2, hs2⟩ : ∃ s : ByteArray, s = ⟨t2.toArray⟩ := ⟨_, rfl⟩
    rw [← hs1, ← hs2] at hto ⊢
    have HA := Lib.hid hwa
    have HB := Lib.hid hwb
    have HV := Lib.hid hov
    have HT := Lib.hid hto
    clear hwa hwb hov hto hof hs1 hs2 hv hva hvb hv0 hx hy hm hm' h0
    go_enter Tryz.func126, Tryz.ntmps126
    go_wp2_with (first | (go_at_call 128; ((with_reducible refine (HA.out _).mono ?_); rintro e w' ⟨rfl, os1, d1, rfl⟩)) | (go_at_call 128; ((with_reducible refine (HB.out _).mono ?_); rintro e w' ⟨rfl, os2, d2, rfl⟩)) | (go_at_call 87; ((with_reducible refine (HV.out _).mono ?_); rintro e w' ⟨rfl, os3, d3, rfl⟩)) | (go_at_call 130; ((with_reducible refine (HT.out _ ?_).mono ?_); (exact hpow.grown (by with_reducible repeat (first | exact Grown.refl _ | apply Grown.more | apply Grown.alloc | apply Grown.drewN | apply Grown.drew))); rintro e w' ⟨rfl, os4, d4, rfl⟩)))
    refine bodyPost_ret (v := .tuple #[.agg #[.string s1, .string s2], .int .i64 t3]) (ret_rat_tmp rfl rfl rfl ?_) rfl ⟨rfl, ?_⟩
    · go_simp
    · exact (by with_reducible repeat (first | exact Grown.refl _ | apply Grown.more | apply Grown.alloc | apply Grown.drewN | apply Grown.drew))
end Go.Proofs.YtnohidkmjclojaaGreatDoor
