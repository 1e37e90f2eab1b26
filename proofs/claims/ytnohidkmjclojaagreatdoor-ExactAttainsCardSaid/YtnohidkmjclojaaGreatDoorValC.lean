/- Walks: exact's values: whole numbers, lowest terms, texts. -/
import Derived.Test.YtnohidkmjclojaaGreatDoorValB
namespace Go.Proofs.YtnohidkmjclojaaGreatDoor
open Go.RowKit

theorem of_one (w : World) : Calls Tryz.prog 148 #[.int .u64 1] w fun e w' => e = .returned (.agg (nat 1)) ∧ Grown w w' := of_any 1 w (by decide)

set_option maxRecDepth 100000 in
set_option maxHeartbeats 400000 in
/-- whole is an integer as a value -/
theorem whole_any (n : Int) (w : World) (h1 : -9223372036854775808 ≤ n) (h2 : n ≤ 9223372036854775807) :
    Calls Tryz.prog 128 #[.int .i64 n] w fun e w' => e = .returned (.agg (val (decide (n < 0)) n.natAbs 1)) ∧ Grown w w' := by
  have hsz := xsize_any n
  have hof := of_any n.natAbs
  obtain ⟨k, hk⟩ : ∃ k, k = n.natAbs := ⟨_, rfl⟩
  have hk64 : k < 18446744073709551616 := by omega
  rw [← hk] at hsz hof ⊢
  have HS := Lib.hid hsz
  have HO := Lib.hid hof
  clear hsz hof hk
  go_enter Tryz.func128, Tryz.ntmps128
  go_wp2_with (first | (go_at_call 165; refine (HS.out _ h1 h2).mono ?_; rintro e w' ⟨rfl, rfl⟩) | (go_at_call 148; ((with_reducible refine (of_one _).mono ?_); rintro e w' ⟨rfl, os1, d1, rfl⟩)) | (go_at_call 148; ((with_reducible refine (HO.out _ hk64).mono ?_); rintro e w' ⟨rfl, os2, d2, rfl⟩)))
  refine bodyPost_ret (v := .agg (val (decide (n < 0)) k 1)) (ret_val rfl rfl ?_) rfl ⟨rfl, ?_⟩
  · go_simp
  · exact (by with_reducible repeat (first | exact Grown.refl _ | apply Grown.more | apply Grown.alloc | apply Grown.drewN | apply Grown.drew))

set_option maxRecDepth 100000 in
set_option maxHeartbeats 1000000 in
/-- lowest brings a value to lowest terms -/
theorem lowest_any (m : Bool) (x y : Nat) (w : World) (hx : dl 4294967296 x ≤ 32) (h2y : dl 4294967296 (2 * y) ≤ 32) (hy : 0 < y) :
    Calls Tryz.prog 129 #[.agg (val m x y)] w fun e w' => e = .returned (.agg (val (m && decide (0 < x / Nat.gcd x y)) (x / Nat.gcd x y) (y / Nat.gcd x y))) ∧ Grown w w' := by
  have hcom := common_any x y
  have hg0 : 0 < Nat.gcd x y := Nat.gcd_pos_of_pos_right _ hy
  have hgy : Nat.gcd x y ≤ y := Nat.gcd_le_right _ hy
  have h2g : dl 4294967296 (2 * Nat.gcd x y) ≤ 32 := Nat.le_trans (dl_mono (by omega) (by omega)) h2y
  have hly : dl 4294967296 y ≤ 32 := Nat.le_trans (dl_mono (by omega) (by omega)) h2y
  have hdx := divide_any x (Nat.gcd x y)
  have hdy := divide_any y (Nat.gcd x y)
  obtain ⟨g, hg⟩ : ∃ g, g = Nat.gcd x y := ⟨_, rfl⟩
  rw [← hg] at hcom hg0 h2g hdx hdy ⊢
  obtain ⟨X, hX⟩ : ∃ X, X = x / g := ⟨_, rfl⟩
  obtain ⟨Y, hY⟩ : ∃ Y, Y = y / g := ⟨_, rfl⟩
  obtain ⟨X', hX'⟩ : ∃ X, X = x % g := ⟨_, rfl⟩
  obtain ⟨Y', hY'⟩ : ∃ Y, Y = y % g := ⟨_, rfl⟩
  rw [← hX] at hdx ⊢
  rw [← hX'] at hdx
  rw [← hY] at hdy ⊢
  rw [← hY'] at hdy
  have HC := Lib.hid hcom
  have HDX := Lib.hid hdx
  have HDY := Lib.hid hdy
  clear hcom hdx hdy hg hX hY hX' hY' hgy
  have hcase : (0 < X ∧ decide (0 < dl 4294967296 X) = true ∧ decide (0 < X) = true) ∨ (decide (0 < dl 4294967296 X) = false ∧ decide (0 < X) = false) := by
    rcases Nat.eq_zero_or_pos X with h | h
    · refine .inr ⟨?_, ?_⟩
      · rw [h, dl_zero]; rfl
      · rw [h]; rfl
    · have := (dl_pos_iff (B := 4294967296) (by omega)).2 h
      exact .inl ⟨h, by rw [decide_eq_true_eq]; omega, by rw [decide_eq_true_eq]; exact h⟩
  have fin : ∀ b, decide (0 < X) = b → (m && decide (0 < X)) = (m && b) := by intro b hb; rw [hb]
  rcases hcase with ⟨h0, h4, h5⟩ | ⟨h4, h5⟩
  · have F := Lib.hid (fin true h5)
    have h0i : (0 : Int) < (dl 4294967296 X : Nat) := by have := of_decide_eq_true h4; omega
    clear fin h5 h0
    cases m
    · go_enter Tryz.func129, Tryz.ntmps129
      go_wp2_with (first | (go_at_call 147; refine (HC.out _ hx h2y).mono ?_; rintro e w' ⟨rfl, os1, d1, rfl⟩) | (go_at_call 131; ((with_reducible refine (HDX.out _ hx hg0 h2g).mono ?_); rintro e w' ⟨rfl, os2, d2, rfl⟩)) | (go_at_call 131; ((with_reducible refine (HDY.out _ hly hg0 h2g).mono ?_); rintro e w' ⟨rfl, os3, d3, rfl⟩)))
      refine bodyPost_ret (v := .agg (val (false) X Y)) (ret_val rfl rfl ?_) rfl ⟨by rw [F.out]; rfl, ?_⟩
      · go_simp
      · exact (by with_reducible repeat (first | exact Grown.refl _ | apply Grown.more | apply Grown.alloc | apply Grown.drewN | apply Grown.drew))
    · go_enter Tryz.func129, Tryz.ntmps129
      go_wp2_with (first | (go_at_call 147; refine (HC.out _ hx h2y).mono ?_; rintro e w' ⟨rfl, os1, d1, rfl⟩) | (go_at_call 131; ((with_reducible refine (HDX.out _ hx hg0 h2g).mono ?_); rintro e w' ⟨rfl, os2, d2, rfl⟩)) | (go_at_call 131; ((with_reducible refine (HDY.out _ hly hg0 h2g).mono ?_); rintro e w' ⟨rfl, os3, d3, rfl⟩)))
      refine bodyPost_ret (v := .agg (val (true) X Y)) (ret_val rfl rfl ?_) rfl ⟨by rw [F.out]; rfl, ?_⟩
      · go_simp
      · exact (by with_reducible repeat (first | exact Grown.refl _ | apply Grown.more | apply Grown.alloc | apply Grown.drewN | apply Grown.drew))
  · have F := Lib.hid (fin false h5)
    clear fin h5
    cases m
    · go_enter Tryz.func129, Tryz.ntmps129
      go_wp2_with (first | (go_at_call 147; refine (HC.out _ hx h2y).mono ?_; rintro e w' ⟨rfl, os1, d1, rfl⟩) | (go_at_call 131; ((with_reducible refine (HDX.out _ hx hg0 h2g).mono ?_); rintro e w' ⟨rfl, os2, d2, rfl⟩)) | (go_at_call 131; ((with_reducible refine (HDY.out _ hly hg0 h2g).mono ?_); rintro e w' ⟨rfl, os3, d3, rfl⟩)))
      refine bodyPost_ret (v := .agg (val (false) X Y)) (ret_val rfl rfl ?_) rfl ⟨by rw [F.out]; rfl, ?_⟩
      · go_simp
      · exact (by with_reducible repeat (first | exact Grown.refl _ | apply Grown.more | apply Grown.alloc | apply Grown.drewN | apply Grown.drew))
    · go_enter Tryz.func129, Tryz.ntmps129
      go_wp2_with (first | (go_at_call 147; refine (HC.out _ hx h2y).mono ?_; rintro e w' ⟨rfl, os1, d1, rfl⟩) | (go_at_call 131; ((with_reducible refine (HDX.out _ hx hg0 h2g).mono ?_); rintro e w' ⟨rfl, os2, d2, rfl⟩)) | (go_at_call 131; ((with_reducible refine (HDY.out _ hly hg0 h2g).mono ?_); rintro e w' ⟨rfl, os3, d3, rfl⟩)))
      refine bodyPost_ret (v := .agg (val (false) X Y)) (ret_val rfl rfl ?_) rfl ⟨by rw [F.out]; rfl, ?_⟩
      · go_simp
      · exact (by with_reducible repeat (first | exact Grown.refl _ | apply Grown.more | apply Grown.alloc | apply Grown.drewN | apply Grown.drew))

theorem ret_rat_tmp {fn : Func} {p u : Tmp} (h : fn.results = #[.cell p 23, .tmp u]) {tmps : Array Value} {w : World} {a : Addr} {cs : Array Value} {v : Value} (hp : tmps.getD p undef = .pointer (some a)) (hq : tmps.getD u undef = v) (hr : rowAt w a 2 = some cs) :
    (results fn tmps).run Tryz.prog w = .ok (.tuple #[.agg cs, v]) w :=
  results_row_tmp (d := (Tryz.prog.underlying 23).getD (.struct #[])) h (by kernel_rfl) (by kernel_rfl) (by kernel_rfl) hp hq hr
theorem ba_minus (l : List UInt8) : (⟨#[45]⟩ ++ ⟨l.toArray⟩ : ByteArray) = ⟨(45 :: l).toArray⟩ := by
  apply ByteArray.ext
  simp
/-- a fraction as Go has it -/
def ratV (n d : List UInt8) : Value := .agg #[.string ⟨n.toArray⟩, .string ⟨d.toArray⟩]
/-- a value, told as a fraction: the texts, and the error -/
def toldS (m : Bool) (x y : Nat) : (List UInt8 × List UInt8) × Int :=
  if 60 < (Lib.decDigits (x / Nat.gcd x y)).length ∨ 60 < (Lib.decDigits (y / Nat.gcd x y)).length then (([], []), 3)
  else ((sgnText (m && decide (0 < x / Nat.gcd x y)) (x / Nat.gcd x y), Lib.decDigits (y / Nat.gcd x y)), 0)

set_option maxRecDepth 100000 in
set_option maxHeartbeats 1000000 in
/-- told tells a value as a fraction -/
theorem told_any (m : Bool) (x y : Nat) (w : World) (hx : dl 4294967296 x ≤ 32) (h2y : dl 4294967296 (2 * y) ≤ 32) (hy : 0 < y) (hpow : Pow10 w) :
    Calls Tryz.prog 130 #[.agg (val m x y)] w fun e w' => e = .returned (.tuple #[ratV (toldS m x y).1.1 (toldS m x y).1.2, .int .i64 (toldS m x y).2]) ∧ Grown w w' := by
  have hlow := lowest_any m x y
  have hdX : dl 4294967296 (x / Nat.gcd x y) ≤ 32 := Nat.le_trans (dl_mono (by omega) (Nat.div_le_self _ _)) hx
  have hdY : dl 4294967296 (y / Nat.gcd x y) ≤ 32 := Nat.le_trans (dl_mono (by omega) (Nat.le_trans (Nat.div_le_self _ _) (by omega))) h2y
  have htold : toldS m x y = if 60 < (Lib.decDigits (x / Nat.gcd x y)).length ∨ 60 < (Lib.decDigits (y / Nat.gcd x y)).length then (([], []), 3)
    else ((sgnText (m && decide (0 < x / Nat.gcd x y)) (x / Nat.gcd x y), Lib.decDigits (y / Nat.gcd x y)), 0) := rfl
  obtain ⟨X, hX⟩ : ∃ X, X = x / Nat.gcd x y := ⟨_, rfl⟩
  obtain ⟨Y, hY⟩ : ∃ Y, Y = y / Nat.gcd x y := ⟨_, rfl⟩
  obtain ⟨M, hM⟩ : ∃ M, M = (m && decide (0 < X)) := ⟨_, rfl⟩
  rw [← hX, ← hY] at hlow htold
  rw [← hX] at hdX
  rw [← hY] at hdY
  rw [← hM] at hlow htold
  have htX := text_any X
  have htY := text_any Y
  have h4X := dd_400 hdX
  have h4Y := dd_400 hdY
  obtain ⟨tX, hx1⟩ : ∃ tX : ByteArray, tX = ⟨(Lib.decDigits X).toArray⟩ := ⟨_, rfl⟩
  obtain ⟨tY, hy1⟩ : ∃ tY : ByteArray, tY = ⟨(Lib.decDigits Y).toArray⟩ := ⟨_, rfl⟩
  have hx2 : tX.size = (Lib.decDigits X).length := by rw [hx1]; simp [ByteArray.size]
  have hy2 : tY.size = (Lib.decDigits Y).length := by rw [hy1]; simp [ByteArray.size]
  rw [← hx1] at htX
  rw [← hy1] at htY
  rw [← hx2] at h4X htold
  rw [← hy2] at h4Y htold
  have HL := Lib.hid hlow
  have HT := Lib.hid htold
  have HTX := Lib.hid htX
  have HTY := Lib.hid htY
  have HX1 := Lib.hid hx1
  have HY1 := Lib.hid hy1
  clear hlow htold htX htY hx1 hy1 hx2 hy2 hX hY hM
  have h4Xi : (tX.size : Int) ≤ 400 := by omega
  have h4Yi : (tY.size : Int) ≤ 400 := by omega
  go_enter Tryz.func130, Tryz.ntmps130
  go_wp2_with (go_at_call 129; refine (HL.out _ hx h2y hy).mono ?_; rintro e w' ⟨rfl, os1, d1, rfl⟩)
  go_region_held3 (fun w' => rowAt w' ⟨w.heap.size, 1, none⟩ 33 = some (nat X) ∧ rowAt w' ⟨w.heap.size, 34, none⟩ 33 = some (nat Y)) (go_simp)
    (first | (go_at_call 166; ((with_reducible refine (HTX.out _ hdX ?_).mono ?_); (exact hpow.grown (by with_reducible repeat (first | exact Grown.refl _ | apply Grown.more | apply Grown.alloc | apply Grown.drewN | apply Grown.drew))); rintro e w' ⟨rfl, os2, d2, rfl⟩)) | (go_at_call 166; ((with_reducible refine (HTY.out _ hdY ?_).mono ?_); (exact hpow.grown (by with_reducible repeat (first | exact Grown.refl _ | apply Grown.more | apply Grown.alloc | apply Grown.drewN | apply Grown.drew))); rintro e w' ⟨rfl, os3, d3, rfl⟩)))
  all_goals
    by_cases hX6 : 60 < tX.size
    · have h6 : decide ((tX.size : Int) > 60) = true := decide_eq_true (by omega)
      have HX6 := Lib.hid hX6
      clear hX6
      go_wp2
      refine bodyPost_ret (v := .tuple #[.agg #[.string ⟨#[]⟩, .string ⟨#[]⟩], .int .i64 3]) (ret_rat_tmp rfl rfl rfl ?_) rfl ⟨by rw [HT.out, if_pos (Or.inl HX6.out)]; rfl, ?_⟩
      · go_simp
      · exact (by with_reducible repeat (first | exact Grown.refl _ | apply Grown.more | apply Grown.alloc | apply Grown.drewN | apply Grown.drew))
    · by_cases hY6 : 60 < tY.size
      · have h6 : decide ((tX.size : Int) > 60) = false := decide_eq_false (by omega)
        have h7 : decide ((tY.size : Int) > 60) = true := decide_eq_true (by omega)
        have HY6 := Lib.hid hY6
        clear hX6 hY6
        go_wp2
        refine bodyPost_ret (v := .tuple #[.agg #[.string ⟨#[]⟩, .string ⟨#[]⟩], .int .i64 3]) (ret_rat_tmp rfl rfl rfl ?_) rfl ⟨by rw [HT.out, if_pos (Or.inr HY6.out)]; rfl, ?_⟩
        · go_simp
        · exact (by with_reducible repeat (first | exact Grown.refl _ | apply Grown.more | apply Grown.alloc | apply Grown.drewN | apply Grown.drew))
      · have h6 : decide ((tX.size : Int) > 60) = false := decide_eq_false (by omega)
        have h7 : decide ((tY.size : Int) > 60) = false := decide_eq_false (by omega)
        have HX6 := Lib.hid hX6
        have HY6 := Lib.hid hY6
        clear hX6 hY6
        cases M
        · go_wp2
          refine bodyPost_ret (v := .tuple #[.agg #[.string tX, .string tY], .int .i64 0]) (ret_rat_tmp rfl rfl rfl ?_) rfl ⟨by rw [HT.out, if_neg (by have := HX6.out; have := HY6.out; omega), HX1.out, HY1.out]; rfl, ?_⟩
          · go_simp
          · exact (by with_reducible repeat (first | exact Grown.refl _ | apply Grown.more | apply Grown.alloc | apply Grown.drewN | apply Grown.drew))
        · go_wp2
          refine bodyPost_ret (v := .tuple #[.agg #[.string (⟨#[45]⟩ ++ tX), .string tY], .int .i64 0]) (ret_rat_tmp rfl rfl rfl ?_) rfl ⟨by rw [HT.out, if_neg (by have := HX6.out; have := HY6.out; omega), HX1.out, HY1.out, ba_minus]; rfl, ?_⟩
          · go_simp
          · exact (by with_reducible repeat (first | exact Grown.refl _ | apply Grown.more | apply Grown.alloc | apply Grown.drewN | apply Grown.drew))
end Go.Proofs.YtnohidkmjclojaaGreatDoor
