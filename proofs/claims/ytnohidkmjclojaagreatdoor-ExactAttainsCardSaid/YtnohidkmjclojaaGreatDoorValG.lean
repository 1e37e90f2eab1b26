/- Walks: exact's rounded, Round. -/
import Derived.Test.YtnohidkmjclojaaGreatDoorValF
namespace Go.Proofs.YtnohidkmjclojaaGreatDoor
open Go.RowKit

/-- is a value rounded away from zero? (the ways 1 down, 2 up, 3 to the nearest) -/
def awayS (m : Bool) (x y : Nat) (mode : Int) : Bool :=
  if mode = 1 then m && decide (0 < x % y) else if mode = 2 then !m && decide (0 < x % y)
  else decide (y < 2 * (x % y)) || (decide (2 * (x % y) = y) && !m)
/-- the rounded value -/
def roundT (t : Tri) (mode : Int) : Tri :=
  let q := t.2.1 / t.2.2 + (if awayS t.1 t.2.1 t.2.2 mode then 1 else 0)
  (t.1 && decide (0 < q), q, 1)

set_option linter.unusedSimpArgs false in
set_option maxRecDepth 100000 in
set_option maxHeartbeats 4000000 in
/-- rounded rounds a value to an integer -/
theorem rounded_any (m : Bool) (x y : Nat) (mode : Int) (w : World) (hx : dl 4294967296 x ≤ 32) (h2y : dl 4294967296 (2 * y) ≤ 32) (h0 : 0 < y) (h1 : dl 4294967296 (x / y + 1) ≤ 32) (hm1 : 1 ≤ mode) (hm2 : mode ≤ 3) :
    Calls Tryz.prog 150 #[.agg (val m x y), .int .i64 mode] w fun e w' => e = .returned (valT (roundT (m, x, y) mode)) ∧ Grown w w' := by
  have hdv := fun w => divide_any x y w hx h0 h2y
  have haw : roundT (m, x, y) mode = (m && decide (0 < x / y + (if awayS m x y mode then 1 else 0)), x / y + (if awayS m x y mode then 1 else 0), 1) := rfl
  have hr : x % y < y := Nat.mod_lt _ h0
  have h1y : dl 4294967296 y ≤ 32 := Nat.le_trans (dl_mono (by omega) (by omega)) h2y
  have hdr : dl 4294967296 (x % y) ≤ 32 := Nat.le_trans (dl_mono (by omega) (by omega)) h1y
  have hd2r : dl 4294967296 (2 * (x % y)) ≤ 32 := Nat.le_trans (dl_mono (by omega) (by omega)) h2y
  have hdq : dl 4294967296 (x / y) ≤ 32 := Nat.le_trans (dl_mono (by omega) (by omega)) h1
  have hdef : awayS m x y mode = if mode = 1 then m && decide (0 < x % y) else if mode = 2 then !m && decide (0 < x % y) else decide (y < 2 * (x % y)) || (decide (2 * (x % y) = y) && !m) := rfl
  obtain ⟨A, hA⟩ : ∃ A, A = awayS m x y mode := ⟨_, rfl⟩
  rw [← hA] at haw hdef
  obtain ⟨q, hq⟩ : ∃ q, q = x / y := ⟨_, rfl⟩
  obtain ⟨r, hrr⟩ : ∃ r, r = x % y := ⟨_, rfl⟩
  obtain ⟨R, hR⟩ : ∃ R, R = roundT (m, x, y) mode := ⟨_, rfl⟩
  rw [← hq] at hdv haw h1 hdq
  rw [← hrr] at hdv hdr hd2r hdef
  rw [← hR] at haw ⊢
  clear hq hrr hA hr h2y hR
  obtain ⟨c, hc⟩ : ∃ c, c = cmpI (2 * r) y := ⟨_, rfl⟩
  have hco : ∀ w, Calls Tryz.prog 146 #[.agg (nat (2 * r)), .agg (nat y)] w fun e w' => e = .returned (.int .i64 c) ∧ Grown w w' := by
    rw [hc]; exact fun w => compare_any (2 * r) y w hd2r h1y
  have hdo : ∀ w, Calls Tryz.prog 169 #[.agg (nat r), .int .u32 0] w fun e w' => e = .returned (.agg (nat (2 * r))) ∧ Grown w w' := fun w => doubled_any r 0 w (by omega) hdr hd2r
  obtain ⟨r2, hr2⟩ : ∃ r2, r2 = 2 * r := ⟨_, rfl⟩
  have hcs : (c = 1 ∧ y < 2 * r) ∨ (c = 0 ∧ 2 * r = y) ∨ (c = -1 ∧ 2 * r < y) := by
    rw [hc]
    unfold cmpI
    by_cases g1 : 2 * r < y
    · exact .inr (.inr ⟨if_pos g1, g1⟩)
    · rw [if_neg g1]
      by_cases g2 : y < 2 * r
      · exact .inl ⟨if_pos g2, g2⟩
      · exact .inr (.inl ⟨if_neg g2, by omega⟩)
  rw [← hr2] at hco hdo
  have hpl : ∀ w, Calls Tryz.prog 173 #[.agg (nat q), .agg (nat 1)] w fun e w' => e = .returned (.agg (nat (q + 1))) ∧ Grown w w' := fun w => plus_any q 1 w hdq (dl_300 (k := 1) (by omega) (by omega)) h1
  obtain ⟨q1, hq1⟩ : ∃ q1, q1 = q + 1 := ⟨_, rfl⟩
  rw [← hq1] at hpl
  have hq1p : decide (0 < dl 4294967296 q1) = true := by
    have := (dl_pos_iff (B := 4294967296) (x := q1) (by omega)).2 (by omega)
    rw [decide_eq_true_eq]; omega
  have hqp : decide (0 < dl 4294967296 q) = decide (0 < q) := by
    have := dl_pos_iff (B := 4294967296) (x := q) (by omega)
    rw [Bool.eq_iff_iff, decide_eq_true_eq, decide_eq_true_eq]; omega
  have hrp : (decide (0 < dl 4294967296 r) = true ∧ decide (0 < r) = true) ∨ (decide (0 < dl 4294967296 r) = false ∧ decide (0 < r) = false) := by
    have := dl_pos_iff (B := 4294967296) (x := r) (by omega)
    by_cases g : 0 < r
    · exact .inl ⟨by rw [decide_eq_true_eq]; have := this.2 g; omega, by simpa using g⟩
    · exact .inr ⟨by rw [decide_eq_false_iff_not]; intro h; exact g (this.1 (by omega)), by simpa using g⟩
  have HAW := Lib.hid haw
  have HDV := Lib.hid hdv
  have HCO := Lib.hid hco
  have HDO := Lib.hid hdo
  have HPL := Lib.hid hpl
  have HQ1 := Lib.hid hq1
  have HDEF := Lib.hid hdef
  have HQP := Lib.hid hqp
  have HCS := Lib.hid hcs
  have HRP := Lib.hid hrp
  have HQ1P := Lib.hid hq1p
  have HM : mode = 1 ∨ mode = 2 ∨ mode = 3 := by omega
  clear haw hdv hco hdo hpl hq1 hdef hqp hcs hrp hq1p hx h0 h1 hm1 hm2 h1y hdr hd2r hdq hc hr2
  have hcases : ∀ (P : Prop), (mode = 1 → m = false → A = false → P) → (mode = 1 → m = true → decide (0 < dl 4294967296 r) = true → A = true → P) → (mode = 1 → m = true → decide (0 < dl 4294967296 r) = false → A = false → P) →
      (mode = 2 → m = true → A = false → P) → (mode = 2 → m = false → decide (0 < dl 4294967296 r) = true → A = true → P) → (mode = 2 → m = false → decide (0 < dl 4294967296 r) = false → A = false → P) →
      (mode = 3 → m = false → c = 1 → A = true → P) → (mode = 3 → m = false → c = 0 → A = true → P) → (mode = 3 → m = false → c = -1 → A = false → P) →
      (mode = 3 → m = true → c = 1 → A = true → P) → (mode = 3 → m = true → c = 0 → A = false → P) → (mode = 3 → m = true → c = -1 → A = false → P) → P := by
    intro P a1 a2 a3 b1 b2 b3 c1 c2 c3 d1 d2 d3
    have hd := HDEF.out
    have hc := HCS.out
    have hr := HRP.out
    rcases HM with h | h | h
    · rw [if_pos h] at hd
      cases m
      · exact a1 h rfl hd
      · rcases hr with ⟨e1, e2⟩ | ⟨e1, e2⟩
        · exact a2 h rfl e1 (by rw [hd, e2]; rfl)
        · exact a3 h rfl e1 (by rw [hd, e2]; rfl)
    · rw [if_neg (by omega), if_pos h] at hd
      cases m
      · rcases hr with ⟨e1, e2⟩ | ⟨e1, e2⟩
        · exact b2 h rfl e1 (by rw [hd, e2]; rfl)
        · exact b3 h rfl e1 (by rw [hd, e2]; rfl)
      · exact b1 h rfl hd
    · rw [if_neg (by omega), if_neg (by omega)] at hd
      cases m
      · rcases hc with ⟨e1, e2⟩ | ⟨e1, e2⟩ | ⟨e1, e2⟩
        · exact c1 h rfl e1 (by rw [hd]; simp [e2])
        · exact c2 h rfl e1 (by rw [hd]; simp [e2])
        · exact c3 h rfl e1 (by rw [hd]; simp; omega)
      · rcases hc with ⟨e1, e2⟩ | ⟨e1, e2⟩ | ⟨e1, e2⟩
        · exact d1 h rfl e1 (by rw [hd]; simp [e2])
        · exact d2 h rfl e1 (by rw [hd]; simp; omega)
        · exact d3 h rfl e1 (by rw [hd]; simp; omega)
  clear HDEF HCS HRP HM
  refine hcases _ ?_ ?_ ?_ ?_ ?_ ?_ ?_ ?_ ?_ ?_ ?_ ?_ <;> clear hcases
  · intro h1 h2 h3
    subst h1 h2 h3
    go_enter Tryz.func150, Tryz.ntmps150
    go_wp2_with (go_at_call 131; refine (HDV.out _).mono ?_; rintro e w' ⟨rfl, os1, d1, rfl⟩)
    go_region_held3 (fun w' => rowAt w' ⟨w.heap.size + 1 + 1 + os1.size + 1, 0, none⟩ 33 = some (nat r) ∧ rowAt w' ⟨w.heap.size, 34, none⟩ 33 = some (nat y)) (go_simp)
      (first | (go_at_call 169; ((with_reducible refine (HDO.out _).mono ?_); rintro e w' ⟨rfl, os2, d2, rfl⟩)) | (go_at_call 146; ((with_reducible refine (HCO.out _).mono ?_); rintro e w' ⟨rfl, os3, d3, rfl⟩)))
    all_goals
      go_wp2_with fail
      refine wp_region_held_drew (S := (fun w' => w'.cell? ⟨w.heap.size, 0, none⟩ = some (.bool false) ∧ w'.cell? ⟨w.heap.size + 1 + 1 + os1.size, 32, none⟩ = some (.int .i64 (dl 4294967296 q)) ∧ rowAt w' ⟨w.heap.size + 1 + 1 + os1.size, 0, none⟩ 33 = some (nat q))) (by kernel_rfl) ?_ (fun hHeld => ?_)
      · try dsimp only
        go_simp
      refine wpAnyH_take (i := 0) (v := ?_) rfl (by kernel_rfl) (by kernel_rfl) (by kernel_rfl) (fun _ _ _ h => h) (Or.inl ⟨by rfl, ?_⟩) (by assumption) ?_
      rotate_left
      · intro w hSw; (try dsimp only at hSw); go_simp; try with_reducible rfl
      try simp only [Act.put, List.setIfInBounds_toArray, List.set_cons_zero, List.set_cons_succ]
      refine wpAnyH_take (i := 1) (v := ?_) rfl (by kernel_rfl) (by kernel_rfl) (by kernel_rfl) (fun _ _ _ h => h) (Or.inl ⟨by rfl, ?_⟩) (by assumption) ?_
      rotate_left
      · intro w hSw; (try dsimp only at hSw); go_simp; try with_reducible rfl
      try simp only [Act.put, List.setIfInBounds_toArray, List.set_cons_zero, List.set_cons_succ]
      refine wpAnyH_take (i := 2) (v := ?_) rfl (by kernel_rfl) (by kernel_rfl) (by kernel_rfl) (fun _ _ _ h => h) (Or.inl ⟨by rfl, ?_⟩) (by assumption) ?_
      rotate_left
      · intro w hSw; (try dsimp only at hSw); go_simp; try with_reducible rfl
      try simp only [Act.put, List.setIfInBounds_toArray, List.set_cons_zero, List.set_cons_succ]
      refine wpAnyH_take (i := 3) (v := undef) rfl (by kernel_rfl) (by kernel_rfl) (by kernel_rfl) (fun _ _ _ h => h) (Or.inr ⟨by rfl, rfl⟩) (by assumption) ?_
      try simp only [Act.put, List.setIfInBounds_toArray, List.set_cons_zero, List.set_cons_succ]
      refine wpAnyH_take (i := 4) (v := undef) rfl (by kernel_rfl) (by kernel_rfl) (by kernel_rfl) (fun _ _ _ h => h) (Or.inr ⟨by rfl, rfl⟩) (by assumption) ?_
      try simp only [Act.put, List.setIfInBounds_toArray, List.set_cons_zero, List.set_cons_succ]
      refine wpAnyH_take (i := 5) (v := undef) rfl (by kernel_rfl) (by kernel_rfl) (by kernel_rfl) (fun _ _ _ h => h) (Or.inr ⟨by rfl, rfl⟩) (by assumption) ?_
      try simp only [Act.put, List.setIfInBounds_toArray, List.set_cons_zero, List.set_cons_succ]
      refine wpAnyH_take (i := 6) (v := ?_) rfl (by kernel_rfl) (by kernel_rfl) (by kernel_rfl) (fun _ _ _ h => h) (Or.inl ⟨by rfl, ?_⟩) (by assumption) ?_
      rotate_left
      · intro w hSw; (try dsimp only at hSw); go_simp; try with_reducible rfl
      try simp only [Act.put, List.setIfInBounds_toArray, List.set_cons_zero, List.set_cons_succ]
      refine wpAnyH_take (i := 7) (v := ?_) rfl (by kernel_rfl) (by kernel_rfl) (by kernel_rfl) (fun _ _ _ h => h) (Or.inl ⟨by rfl, ?_⟩) (by assumption) ?_
      rotate_left
      · intro w hSw; (try dsimp only at hSw); go_simp; try with_reducible rfl
      try simp only [Act.put, List.setIfInBounds_toArray, List.set_cons_zero, List.set_cons_succ]
      refine wpAnyH_ready (rs := [8]) (by kernel_rfl) (by simp) ?_
      refine AllReadyH.cons rfl (fun K hK => ?_) AllReadyH.nil
      go_simp
      (go_at_call 148; ((with_reducible refine (of_one _).mono ?_); rintro e w' ⟨rfl, os4, d4, rfl⟩))
      go_wp2_with fail
      refine hK.out _ _ ?_ (fun hHeld2 => ?_)
      · try dsimp only
        go_simp
      clear hK K
      try simp only [Act.put, List.setIfInBounds_toArray, List.set_cons_zero, List.set_cons_succ]
      refine wpAnyH_take (i := 9) (v := ?_) rfl (by kernel_rfl) (by kernel_rfl) (by kernel_rfl) (fun _ _ _ h => h) (Or.inl ⟨by rfl, ?_⟩) (by assumption) ?_
      rotate_left
      · intro w hSw; (try dsimp only at hSw); go_simp; try with_reducible rfl
      try simp only [Act.put, List.setIfInBounds_toArray, List.set_cons_zero, List.set_cons_succ]
      refine wpAnyH_ready (rs := [10]) (by kernel_rfl) (by simp) ?_
      refine AllReadyH.cons rfl (fun K hK => ?_) AllReadyH.nil
      go_simp
      refine hK.out _ _ ?_ (fun hHeld3 => ?_)
      · try dsimp only
        go_simp
      clear hK K
      try simp only [Act.put, List.setIfInBounds_toArray, List.set_cons_zero, List.set_cons_succ]
      refine wpAnyH_done (by kernel_rfl) ?_ _
      go_wp2
      refine bodyPost_ret (v := .agg (val (false) q 1)) (ret_val rfl rfl ?_) rfl ⟨by rw [HAW.out]; simp [valT], ?_⟩
      · go_simp
      · exact (by with_reducible repeat (first | exact Grown.refl _ | apply Grown.more | apply Grown.alloc | apply Grown.drewN | apply Grown.drew))
  · intro h1 h2 hR0 h3
    subst h1 h2 h3
    go_enter Tryz.func150, Tryz.ntmps150
    go_wp2_with (go_at_call 131; refine (HDV.out _).mono ?_; rintro e w' ⟨rfl, os1, d1, rfl⟩)
    go_region_held3 (fun w' => rowAt w' ⟨w.heap.size + 1 + 1 + os1.size + 1, 0, none⟩ 33 = some (nat r) ∧ rowAt w' ⟨w.heap.size, 34, none⟩ 33 = some (nat y)) (go_simp)
      (first | (go_at_call 169; ((with_reducible refine (HDO.out _).mono ?_); rintro e w' ⟨rfl, os2, d2, rfl⟩)) | (go_at_call 146; ((with_reducible refine (HCO.out _).mono ?_); rintro e w' ⟨rfl, os3, d3, rfl⟩)))
    all_goals
      go_wp2_with fail
      go_region_with (first | (go_at_call 148; ((with_reducible refine (of_one _).mono ?_); rintro e w' ⟨rfl, os5, d5, rfl⟩)) | (go_at_call 173; ((with_reducible refine (HPL.out _).mono ?_); rintro e w' ⟨rfl, os6, d6, rfl⟩)))
    all_goals
      go_wp2_with fail
      first | go_region_held3 (fun w' => w'.cell? ⟨w.heap.size, 0, none⟩ = some (.bool true) ∧ w'.cell? ⟨w.heap.size + 1 + 1 + os1.size, 32, none⟩ = some (.int .i64 (dl 4294967296 q1)) ∧ rowAt w' ⟨w.heap.size + 1 + 1 + os1.size, 0, none⟩ 33 = some (nat q1)) (go_simp) (first | (go_at_call 148; ((with_reducible refine (of_one _).mono ?_); rintro e w' ⟨rfl, os4, d4, rfl⟩)))
    all_goals
      go_wp2
      refine bodyPost_ret (v := .agg (val (decide (0 < dl 4294967296 q1)) q1 1)) (ret_val rfl rfl ?_) rfl ⟨by rw [HAW.out]; rw [HQ1P.out, HQ1.out]; simp [valT], ?_⟩
      · go_simp
      · exact (by with_reducible repeat (first | exact Grown.refl _ | apply Grown.more | apply Grown.alloc | apply Grown.drewN | apply Grown.drew))
  · intro h1 h2 hR0 h3
    subst h1 h2 h3
    go_enter Tryz.func150, Tryz.ntmps150
    go_wp2_with (go_at_call 131; refine (HDV.out _).mono ?_; rintro e w' ⟨rfl, os1, d1, rfl⟩)
    go_region_held3 (fun w' => rowAt w' ⟨w.heap.size + 1 + 1 + os1.size + 1, 0, none⟩ 33 = some (nat r) ∧ rowAt w' ⟨w.heap.size, 34, none⟩ 33 = some (nat y)) (go_simp)
      (first | (go_at_call 169; ((with_reducible refine (HDO.out _).mono ?_); rintro e w' ⟨rfl, os2, d2, rfl⟩)) | (go_at_call 146; ((with_reducible refine (HCO.out _).mono ?_); rintro e w' ⟨rfl, os3, d3, rfl⟩)))
    all_goals
      go_wp2_with fail
      first | go_region_held3 (fun w' => w'.cell? ⟨w.heap.size, 0, none⟩ = some (.bool true) ∧ w'.cell? ⟨w.heap.size + 1 + 1 + os1.size, 32, none⟩ = some (.int .i64 (dl 4294967296 q)) ∧ rowAt w' ⟨w.heap.size + 1 + 1 + os1.size, 0, none⟩ 33 = some (nat q)) (go_simp) (first | (go_at_call 148; ((with_reducible refine (of_one _).mono ?_); rintro e w' ⟨rfl, os4, d4, rfl⟩)))
    all_goals
      go_wp2
      refine bodyPost_ret (v := .agg (val (decide (0 < dl 4294967296 q)) q 1)) (ret_val rfl rfl ?_) rfl ⟨by rw [HAW.out]; rw [HQP.out]; simp [valT], ?_⟩
      · go_simp
      · exact (by with_reducible repeat (first | exact Grown.refl _ | apply Grown.more | apply Grown.alloc | apply Grown.drewN | apply Grown.drew))
  · intro h1 h2 h3
    subst h1 h2 h3
    go_enter Tryz.func150, Tryz.ntmps150
    go_wp2_with (go_at_call 131; refine (HDV.out _).mono ?_; rintro e w' ⟨rfl, os1, d1, rfl⟩)
    go_region_held3 (fun w' => rowAt w' ⟨w.heap.size + 1 + 1 + os1.size + 1, 0, none⟩ 33 = some (nat r) ∧ rowAt w' ⟨w.heap.size, 34, none⟩ 33 = some (nat y)) (go_simp)
      (first | (go_at_call 169; ((with_reducible refine (HDO.out _).mono ?_); rintro e w' ⟨rfl, os2, d2, rfl⟩)) | (go_at_call 146; ((with_reducible refine (HCO.out _).mono ?_); rintro e w' ⟨rfl, os3, d3, rfl⟩)))
    all_goals
      go_wp2_with fail
      first | go_region_held3 (fun w' => w'.cell? ⟨w.heap.size, 0, none⟩ = some (.bool true) ∧ w'.cell? ⟨w.heap.size + 1 + 1 + os1.size, 32, none⟩ = some (.int .i64 (dl 4294967296 q)) ∧ rowAt w' ⟨w.heap.size + 1 + 1 + os1.size, 0, none⟩ 33 = some (nat q)) (go_simp) (first | (go_at_call 148; ((with_reducible refine (of_one _).mono ?_); rintro e w' ⟨rfl, os4, d4, rfl⟩)))
    all_goals
      go_wp2
      refine bodyPost_ret (v := .agg (val (decide (0 < dl 4294967296 q)) q 1)) (ret_val rfl rfl ?_) rfl ⟨by rw [HAW.out]; rw [HQP.out]; simp [valT], ?_⟩
      · go_simp
      · exact (by with_reducible repeat (first | exact Grown.refl _ | apply Grown.more | apply Grown.alloc | apply Grown.drewN | apply Grown.drew))
  · intro h1 h2 hR0 h3
    subst h1 h2 h3
    go_enter Tryz.func150, Tryz.ntmps150
    go_wp2_with (go_at_call 131; refine (HDV.out _).mono ?_; rintro e w' ⟨rfl, os1, d1, rfl⟩)
    go_region_held3 (fun w' => rowAt w' ⟨w.heap.size + 1 + 1 + os1.size + 1, 0, none⟩ 33 = some (nat r) ∧ rowAt w' ⟨w.heap.size, 34, none⟩ 33 = some (nat y)) (go_simp)
      (first | (go_at_call 169; ((with_reducible refine (HDO.out _).mono ?_); rintro e w' ⟨rfl, os2, d2, rfl⟩)) | (go_at_call 146; ((with_reducible refine (HCO.out _).mono ?_); rintro e w' ⟨rfl, os3, d3, rfl⟩)))
    all_goals
      go_wp2_with fail
      go_region_with (first | (go_at_call 148; ((with_reducible refine (of_one _).mono ?_); rintro e w' ⟨rfl, os5, d5, rfl⟩)) | (go_at_call 173; ((with_reducible refine (HPL.out _).mono ?_); rintro e w' ⟨rfl, os6, d6, rfl⟩)))
    all_goals
      go_wp2_with fail
      refine wp_region_held_drew (S := (fun w' => w'.cell? ⟨w.heap.size, 0, none⟩ = some (.bool false) ∧ w'.cell? ⟨w.heap.size + 1 + 1 + os1.size, 32, none⟩ = some (.int .i64 (dl 4294967296 q1)) ∧ rowAt w' ⟨w.heap.size + 1 + 1 + os1.size, 0, none⟩ 33 = some (nat q1))) (by kernel_rfl) ?_ (fun hHeld => ?_)
      · try dsimp only
        go_simp
      refine wpAnyH_take (i := 0) (v := ?_) rfl (by kernel_rfl) (by kernel_rfl) (by kernel_rfl) (fun _ _ _ h => h) (Or.inl ⟨by rfl, ?_⟩) (by assumption) ?_
      rotate_left
      · intro w hSw; (try dsimp only at hSw); go_simp; try with_reducible rfl
      try simp only [Act.put, List.setIfInBounds_toArray, List.set_cons_zero, List.set_cons_succ]
      refine wpAnyH_take (i := 1) (v := ?_) rfl (by kernel_rfl) (by kernel_rfl) (by kernel_rfl) (fun _ _ _ h => h) (Or.inl ⟨by rfl, ?_⟩) (by assumption) ?_
      rotate_left
      · intro w hSw; (try dsimp only at hSw); go_simp; try with_reducible rfl
      try simp only [Act.put, List.setIfInBounds_toArray, List.set_cons_zero, List.set_cons_succ]
      refine wpAnyH_take (i := 2) (v := ?_) rfl (by kernel_rfl) (by kernel_rfl) (by kernel_rfl) (fun _ _ _ h => h) (Or.inl ⟨by rfl, ?_⟩) (by assumption) ?_
      rotate_left
      · intro w hSw; (try dsimp only at hSw); go_simp; try with_reducible rfl
      try simp only [Act.put, List.setIfInBounds_toArray, List.set_cons_zero, List.set_cons_succ]
      refine wpAnyH_take (i := 3) (v := undef) rfl (by kernel_rfl) (by kernel_rfl) (by kernel_rfl) (fun _ _ _ h => h) (Or.inr ⟨by rfl, rfl⟩) (by assumption) ?_
      try simp only [Act.put, List.setIfInBounds_toArray, List.set_cons_zero, List.set_cons_succ]
      refine wpAnyH_take (i := 4) (v := undef) rfl (by kernel_rfl) (by kernel_rfl) (by kernel_rfl) (fun _ _ _ h => h) (Or.inr ⟨by rfl, rfl⟩) (by assumption) ?_
      try simp only [Act.put, List.setIfInBounds_toArray, List.set_cons_zero, List.set_cons_succ]
      refine wpAnyH_take (i := 5) (v := undef) rfl (by kernel_rfl) (by kernel_rfl) (by kernel_rfl) (fun _ _ _ h => h) (Or.inr ⟨by rfl, rfl⟩) (by assumption) ?_
      try simp only [Act.put, List.setIfInBounds_toArray, List.set_cons_zero, List.set_cons_succ]
      refine wpAnyH_take (i := 6) (v := ?_) rfl (by kernel_rfl) (by kernel_rfl) (by kernel_rfl) (fun _ _ _ h => h) (Or.inl ⟨by rfl, ?_⟩) (by assumption) ?_
      rotate_left
      · intro w hSw; (try dsimp only at hSw); go_simp; try with_reducible rfl
      try simp only [Act.put, List.setIfInBounds_toArray, List.set_cons_zero, List.set_cons_succ]
      refine wpAnyH_take (i := 7) (v := ?_) rfl (by kernel_rfl) (by kernel_rfl) (by kernel_rfl) (fun _ _ _ h => h) (Or.inl ⟨by rfl, ?_⟩) (by assumption) ?_
      rotate_left
      · intro w hSw; (try dsimp only at hSw); go_simp; try with_reducible rfl
      try simp only [Act.put, List.setIfInBounds_toArray, List.set_cons_zero, List.set_cons_succ]
      refine wpAnyH_ready (rs := [8]) (by kernel_rfl) (by simp) ?_
      refine AllReadyH.cons rfl (fun K hK => ?_) AllReadyH.nil
      go_simp
      (go_at_call 148; ((with_reducible refine (of_one _).mono ?_); rintro e w' ⟨rfl, os4, d4, rfl⟩))
      go_wp2_with fail
      refine hK.out _ _ ?_ (fun hHeld2 => ?_)
      · try dsimp only
        go_simp
      clear hK K
      try simp only [Act.put, List.setIfInBounds_toArray, List.set_cons_zero, List.set_cons_succ]
      refine wpAnyH_take (i := 9) (v := ?_) rfl (by kernel_rfl) (by kernel_rfl) (by kernel_rfl) (fun _ _ _ h => h) (Or.inl ⟨by rfl, ?_⟩) (by assumption) ?_
      rotate_left
      · intro w hSw; (try dsimp only at hSw); go_simp; try with_reducible rfl
      try simp only [Act.put, List.setIfInBounds_toArray, List.set_cons_zero, List.set_cons_succ]
      refine wpAnyH_ready (rs := [10]) (by kernel_rfl) (by simp) ?_
      refine AllReadyH.cons rfl (fun K hK => ?_) AllReadyH.nil
      go_simp
      refine hK.out _ _ ?_ (fun hHeld3 => ?_)
      · try dsimp only
        go_simp
      clear hK K
      try simp only [Act.put, List.setIfInBounds_toArray, List.set_cons_zero, List.set_cons_succ]
      refine wpAnyH_done (by kernel_rfl) ?_ _
      go_wp2
      refine bodyPost_ret (v := .agg (val (false) q1 1)) (ret_val rfl rfl ?_) rfl ⟨by rw [HAW.out]; simp [valT, HQ1.out], ?_⟩
      · go_simp
      · exact (by with_reducible repeat (first | exact Grown.refl _ | apply Grown.more | apply Grown.alloc | apply Grown.drewN | apply Grown.drew))
  · intro h1 h2 hR0 h3
    subst h1 h2 h3
    go_enter Tryz.func150, Tryz.ntmps150
    go_wp2_with (go_at_call 131; refine (HDV.out _).mono ?_; rintro e w' ⟨rfl, os1, d1, rfl⟩)
    go_region_held3 (fun w' => rowAt w' ⟨w.heap.size + 1 + 1 + os1.size + 1, 0, none⟩ 33 = some (nat r) ∧ rowAt w' ⟨w.heap.size, 34, none⟩ 33 = some (nat y)) (go_simp)
      (first | (go_at_call 169; ((with_reducible refine (HDO.out _).mono ?_); rintro e w' ⟨rfl, os2, d2, rfl⟩)) | (go_at_call 146; ((with_reducible refine (HCO.out _).mono ?_); rintro e w' ⟨rfl, os3, d3, rfl⟩)))
    all_goals
      go_wp2_with fail
      refine wp_region_held_drew (S := (fun w' => w'.cell? ⟨w.heap.size, 0, none⟩ = some (.bool false) ∧ w'.cell? ⟨w.heap.size + 1 + 1 + os1.size, 32, none⟩ = some (.int .i64 (dl 4294967296 q)) ∧ rowAt w' ⟨w.heap.size + 1 + 1 + os1.size, 0, none⟩ 33 = some (nat q))) (by kernel_rfl) ?_ (fun hHeld => ?_)
      · try dsimp only
        go_simp
      refine wpAnyH_take (i := 0) (v := ?_) rfl (by kernel_rfl) (by kernel_rfl) (by kernel_rfl) (fun _ _ _ h => h) (Or.inl ⟨by rfl, ?_⟩) (by assumption) ?_
      rotate_left
      · intro w hSw; (try dsimp only at hSw); go_simp; try with_reducible rfl
      try simp only [Act.put, List.setIfInBounds_toArray, List.set_cons_zero, List.set_cons_succ]
      refine wpAnyH_take (i := 1) (v := ?_) rfl (by kernel_rfl) (by kernel_rfl) (by kernel_rfl) (fun _ _ _ h => h) (Or.inl ⟨by rfl, ?_⟩) (by assumption) ?_
      rotate_left
      · intro w hSw; (try dsimp only at hSw); go_simp; try with_reducible rfl
      try simp only [Act.put, List.setIfInBounds_toArray, List.set_cons_zero, List.set_cons_succ]
      refine wpAnyH_take (i := 2) (v := ?_) rfl (by kernel_rfl) (by kernel_rfl) (by kernel_rfl) (fun _ _ _ h => h) (Or.inl ⟨by rfl, ?_⟩) (by assumption) ?_
      rotate_left
      · intro w hSw; (try dsimp only at hSw); go_simp; try with_reducible rfl
      try simp only [Act.put, List.setIfInBounds_toArray, List.set_cons_zero, List.set_cons_succ]
      refine wpAnyH_take (i := 3) (v := undef) rfl (by kernel_rfl) (by kernel_rfl) (by kernel_rfl) (fun _ _ _ h => h) (Or.inr ⟨by rfl, rfl⟩) (by assumption) ?_
      try simp only [Act.put, List.setIfInBounds_toArray, List.set_cons_zero, List.set_cons_succ]
      refine wpAnyH_take (i := 4) (v := undef) rfl (by kernel_rfl) (by kernel_rfl) (by kernel_rfl) (fun _ _ _ h => h) (Or.inr ⟨by rfl, rfl⟩) (by assumption) ?_
      try simp only [Act.put, List.setIfInBounds_toArray, List.set_cons_zero, List.set_cons_succ]
      refine wpAnyH_take (i := 5) (v := undef) rfl (by kernel_rfl) (by kernel_rfl) (by kernel_rfl) (fun _ _ _ h => h) (Or.inr ⟨by rfl, rfl⟩) (by assumption) ?_
      try simp only [Act.put, List.setIfInBounds_toArray, List.set_cons_zero, List.set_cons_succ]
      refine wpAnyH_take (i := 6) (v := ?_) rfl (by kernel_rfl) (by kernel_rfl) (by kernel_rfl) (fun _ _ _ h => h) (Or.inl ⟨by rfl, ?_⟩) (by assumption) ?_
      rotate_left
      · intro w hSw; (try dsimp only at hSw); go_simp; try with_reducible rfl
      try simp only [Act.put, List.setIfInBounds_toArray, List.set_cons_zero, List.set_cons_succ]
      refine wpAnyH_take (i := 7) (v := ?_) rfl (by kernel_rfl) (by kernel_rfl) (by kernel_rfl) (fun _ _ _ h => h) (Or.inl ⟨by rfl, ?_⟩) (by assumption) ?_
      rotate_left
      · intro w hSw; (try dsimp only at hSw); go_simp; try with_reducible rfl
      try simp only [Act.put, List.setIfInBounds_toArray, List.set_cons_zero, List.set_cons_succ]
      refine wpAnyH_ready (rs := [8]) (by kernel_rfl) (by simp) ?_
      refine AllReadyH.cons rfl (fun K hK => ?_) AllReadyH.nil
      go_simp
      (go_at_call 148; ((with_reducible refine (of_one _).mono ?_); rintro e w' ⟨rfl, os4, d4, rfl⟩))
      go_wp2_with fail
      refine hK.out _ _ ?_ (fun hHeld2 => ?_)
      · try dsimp only
        go_simp
      clear hK K
      try simp only [Act.put, List.setIfInBounds_toArray, List.set_cons_zero, List.set_cons_succ]
      refine wpAnyH_take (i := 9) (v := ?_) rfl (by kernel_rfl) (by kernel_rfl) (by kernel_rfl) (fun _ _ _ h => h) (Or.inl ⟨by rfl, ?_⟩) (by assumption) ?_
      rotate_left
      · intro w hSw; (try dsimp only at hSw); go_simp; try with_reducible rfl
      try simp only [Act.put, List.setIfInBounds_toArray, List.set_cons_zero, List.set_cons_succ]
      refine wpAnyH_ready (rs := [10]) (by kernel_rfl) (by simp) ?_
      refine AllReadyH.cons rfl (fun K hK => ?_) AllReadyH.nil
      go_simp
      refine hK.out _ _ ?_ (fun hHeld3 => ?_)
      · try dsimp only
        go_simp
      clear hK K
      try simp only [Act.put, List.setIfInBounds_toArray, List.set_cons_zero, List.set_cons_succ]
      refine wpAnyH_done (by kernel_rfl) ?_ _
      go_wp2
      refine bodyPost_ret (v := .agg (val (false) q 1)) (ret_val rfl rfl ?_) rfl ⟨by rw [HAW.out]; simp [valT], ?_⟩
      · go_simp
      · exact (by with_reducible repeat (first | exact Grown.refl _ | apply Grown.more | apply Grown.alloc | apply Grown.drewN | apply Grown.drew))
  · intro h1 h2 hR0 h3
    subst h1 h2 hR0 h3
    go_enter Tryz.func150, Tryz.ntmps150
    go_wp2_with (go_at_call 131; refine (HDV.out _).mono ?_; rintro e w' ⟨rfl, os1, d1, rfl⟩)
    go_region_held3 (fun w' => rowAt w' ⟨w.heap.size + 1 + 1 + os1.size + 1, 0, none⟩ 33 = some (nat r) ∧ rowAt w' ⟨w.heap.size, 34, none⟩ 33 = some (nat y)) (go_simp)
      (first | (go_at_call 169; ((with_reducible refine (HDO.out _).mono ?_); rintro e w' ⟨rfl, os2, d2, rfl⟩)) | (go_at_call 146; ((with_reducible refine (HCO.out _).mono ?_); rintro e w' ⟨rfl, os3, d3, rfl⟩)))
    all_goals
      go_wp2_with fail
      go_region_with (first | (go_at_call 148; ((with_reducible refine (of_one _).mono ?_); rintro e w' ⟨rfl, os5, d5, rfl⟩)) | (go_at_call 173; ((with_reducible refine (HPL.out _).mono ?_); rintro e w' ⟨rfl, os6, d6, rfl⟩)))
    all_goals
      go_wp2_with fail
      refine wp_region_held_drew (S := (fun w' => w'.cell? ⟨w.heap.size, 0, none⟩ = some (.bool false) ∧ w'.cell? ⟨w.heap.size + 1 + 1 + os1.size, 32, none⟩ = some (.int .i64 (dl 4294967296 q1)) ∧ rowAt w' ⟨w.heap.size + 1 + 1 + os1.size, 0, none⟩ 33 = some (nat q1))) (by kernel_rfl) ?_ (fun hHeld => ?_)
      · try dsimp only
        go_simp
      refine wpAnyH_take (i := 0) (v := ?_) rfl (by kernel_rfl) (by kernel_rfl) (by kernel_rfl) (fun _ _ _ h => h) (Or.inl ⟨by rfl, ?_⟩) (by assumption) ?_
      rotate_left
      · intro w hSw; (try dsimp only at hSw); go_simp; try with_reducible rfl
      try simp only [Act.put, List.setIfInBounds_toArray, List.set_cons_zero, List.set_cons_succ]
      refine wpAnyH_take (i := 1) (v := ?_) rfl (by kernel_rfl) (by kernel_rfl) (by kernel_rfl) (fun _ _ _ h => h) (Or.inl ⟨by rfl, ?_⟩) (by assumption) ?_
      rotate_left
      · intro w hSw; (try dsimp only at hSw); go_simp; try with_reducible rfl
      try simp only [Act.put, List.setIfInBounds_toArray, List.set_cons_zero, List.set_cons_succ]
      refine wpAnyH_take (i := 2) (v := ?_) rfl (by kernel_rfl) (by kernel_rfl) (by kernel_rfl) (fun _ _ _ h => h) (Or.inl ⟨by rfl, ?_⟩) (by assumption) ?_
      rotate_left
      · intro w hSw; (try dsimp only at hSw); go_simp; try with_reducible rfl
      try simp only [Act.put, List.setIfInBounds_toArray, List.set_cons_zero, List.set_cons_succ]
      refine wpAnyH_take (i := 3) (v := undef) rfl (by kernel_rfl) (by kernel_rfl) (by kernel_rfl) (fun _ _ _ h => h) (Or.inr ⟨by rfl, rfl⟩) (by assumption) ?_
      try simp only [Act.put, List.setIfInBounds_toArray, List.set_cons_zero, List.set_cons_succ]
      refine wpAnyH_take (i := 4) (v := undef) rfl (by kernel_rfl) (by kernel_rfl) (by kernel_rfl) (fun _ _ _ h => h) (Or.inr ⟨by rfl, rfl⟩) (by assumption) ?_
      try simp only [Act.put, List.setIfInBounds_toArray, List.set_cons_zero, List.set_cons_succ]
      refine wpAnyH_take (i := 5) (v := undef) rfl (by kernel_rfl) (by kernel_rfl) (by kernel_rfl) (fun _ _ _ h => h) (Or.inr ⟨by rfl, rfl⟩) (by assumption) ?_
      try simp only [Act.put, List.setIfInBounds_toArray, List.set_cons_zero, List.set_cons_succ]
      refine wpAnyH_take (i := 6) (v := ?_) rfl (by kernel_rfl) (by kernel_rfl) (by kernel_rfl) (fun _ _ _ h => h) (Or.inl ⟨by rfl, ?_⟩) (by assumption) ?_
      rotate_left
      · intro w hSw; (try dsimp only at hSw); go_simp; try with_reducible rfl
      try simp only [Act.put, List.setIfInBounds_toArray, List.set_cons_zero, List.set_cons_succ]
      refine wpAnyH_take (i := 7) (v := ?_) rfl (by kernel_rfl) (by kernel_rfl) (by kernel_rfl) (fun _ _ _ h => h) (Or.inl ⟨by rfl, ?_⟩) (by assumption) ?_
      rotate_left
      · intro w hSw; (try dsimp only at hSw); go_simp; try with_reducible rfl
      try simp only [Act.put, List.setIfInBounds_toArray, List.set_cons_zero, List.set_cons_succ]
      refine wpAnyH_ready (rs := [8]) (by kernel_rfl) (by simp) ?_
      refine AllReadyH.cons rfl (fun K hK => ?_) AllReadyH.nil
      go_simp
      (go_at_call 148; ((with_reducible refine (of_one _).mono ?_); rintro e w' ⟨rfl, os4, d4, rfl⟩))
      go_wp2_with fail
      refine hK.out _ _ ?_ (fun hHeld2 => ?_)
      · try dsimp only
        go_simp
      clear hK K
      try simp only [Act.put, List.setIfInBounds_toArray, List.set_cons_zero, List.set_cons_succ]
      refine wpAnyH_take (i := 9) (v := ?_) rfl (by kernel_rfl) (by kernel_rfl) (by kernel_rfl) (fun _ _ _ h => h) (Or.inl ⟨by rfl, ?_⟩) (by assumption) ?_
      rotate_left
      · intro w hSw; (try dsimp only at hSw); go_simp; try with_reducible rfl
      try simp only [Act.put, List.setIfInBounds_toArray, List.set_cons_zero, List.set_cons_succ]
      refine wpAnyH_ready (rs := [10]) (by kernel_rfl) (by simp) ?_
      refine AllReadyH.cons rfl (fun K hK => ?_) AllReadyH.nil
      go_simp
      refine hK.out _ _ ?_ (fun hHeld3 => ?_)
      · try dsimp only
        go_simp
      clear hK K
      try simp only [Act.put, List.setIfInBounds_toArray, List.set_cons_zero, List.set_cons_succ]
      refine wpAnyH_done (by kernel_rfl) ?_ _
      go_wp2
      refine bodyPost_ret (v := .agg (val (false) q1 1)) (ret_val rfl rfl ?_) rfl ⟨by rw [HAW.out]; simp [valT, HQ1.out], ?_⟩
      · go_simp
      · exact (by with_reducible repeat (first | exact Grown.refl _ | apply Grown.more | apply Grown.alloc | apply Grown.drewN | apply Grown.drew))
  · intro h1 h2 hR0 h3
    subst h1 h2 hR0 h3
    go_enter Tryz.func150, Tryz.ntmps150
    go_wp2_with (go_at_call 131; refine (HDV.out _).mono ?_; rintro e w' ⟨rfl, os1, d1, rfl⟩)
    go_region_held3 (fun w' => rowAt w' ⟨w.heap.size + 1 + 1 + os1.size + 1, 0, none⟩ 33 = some (nat r) ∧ rowAt w' ⟨w.heap.size, 34, none⟩ 33 = some (nat y)) (go_simp)
      (first | (go_at_call 169; ((with_reducible refine (HDO.out _).mono ?_); rintro e w' ⟨rfl, os2, d2, rfl⟩)) | (go_at_call 146; ((with_reducible refine (HCO.out _).mono ?_); rintro e w' ⟨rfl, os3, d3, rfl⟩)))
    all_goals
      go_wp2_with fail
      go_region_with (first | (go_at_call 148; ((with_reducible refine (of_one _).mono ?_); rintro e w' ⟨rfl, os5, d5, rfl⟩)) | (go_at_call 173; ((with_reducible refine (HPL.out _).mono ?_); rintro e w' ⟨rfl, os6, d6, rfl⟩)))
    all_goals
      go_wp2_with fail
      refine wp_region_held_drew (S := (fun w' => w'.cell? ⟨w.heap.size, 0, none⟩ = some (.bool false) ∧ w'.cell? ⟨w.heap.size + 1 + 1 + os1.size, 32, none⟩ = some (.int .i64 (dl 4294967296 q1)) ∧ rowAt w' ⟨w.heap.size + 1 + 1 + os1.size, 0, none⟩ 33 = some (nat q1))) (by kernel_rfl) ?_ (fun hHeld => ?_)
      · try dsimp only
        go_simp
      refine wpAnyH_take (i := 0) (v := ?_) rfl (by kernel_rfl) (by kernel_rfl) (by kernel_rfl) (fun _ _ _ h => h) (Or.inl ⟨by rfl, ?_⟩) (by assumption) ?_
      rotate_left
      · intro w hSw; (try dsimp only at hSw); go_simp; try with_reducible rfl
      try simp only [Act.put, List.setIfInBounds_toArray, List.set_cons_zero, List.set_cons_succ]
      refine wpAnyH_take (i := 1) (v := ?_) rfl (by kernel_rfl) (by kernel_rfl) (by kernel_rfl) (fun _ _ _ h => h) (Or.inl ⟨by rfl, ?_⟩) (by assumption) ?_
      rotate_left
      · intro w hSw; (try dsimp only at hSw); go_simp; try with_reducible rfl
      try simp only [Act.put, List.setIfInBounds_toArray, List.set_cons_zero, List.set_cons_succ]
      refine wpAnyH_take (i := 2) (v := ?_) rfl (by kernel_rfl) (by kernel_rfl) (by kernel_rfl) (fun _ _ _ h => h) (Or.inl ⟨by rfl, ?_⟩) (by assumption) ?_
      rotate_left
      · intro w hSw; (try dsimp only at hSw); go_simp; try with_reducible rfl
      try simp only [Act.put, List.setIfInBounds_toArray, List.set_cons_zero, List.set_cons_succ]
      refine wpAnyH_take (i := 3) (v := undef) rfl (by kernel_rfl) (by kernel_rfl) (by kernel_rfl) (fun _ _ _ h => h) (Or.inr ⟨by rfl, rfl⟩) (by assumption) ?_
      try simp only [Act.put, List.setIfInBounds_toArray, List.set_cons_zero, List.set_cons_succ]
      refine wpAnyH_take (i := 4) (v := undef) rfl (by kernel_rfl) (by kernel_rfl) (by kernel_rfl) (fun _ _ _ h => h) (Or.inr ⟨by rfl, rfl⟩) (by assumption) ?_
      try simp only [Act.put, List.setIfInBounds_toArray, List.set_cons_zero, List.set_cons_succ]
      refine wpAnyH_take (i := 5) (v := undef) rfl (by kernel_rfl) (by kernel_rfl) (by kernel_rfl) (fun _ _ _ h => h) (Or.inr ⟨by rfl, rfl⟩) (by assumption) ?_
      try simp only [Act.put, List.setIfInBounds_toArray, List.set_cons_zero, List.set_cons_succ]
      refine wpAnyH_take (i := 6) (v := ?_) rfl (by kernel_rfl) (by kernel_rfl) (by kernel_rfl) (fun _ _ _ h => h) (Or.inl ⟨by rfl, ?_⟩) (by assumption) ?_
      rotate_left
      · intro w hSw; (try dsimp only at hSw); go_simp; try with_reducible rfl
      try simp only [Act.put, List.setIfInBounds_toArray, List.set_cons_zero, List.set_cons_succ]
      refine wpAnyH_take (i := 7) (v := ?_) rfl (by kernel_rfl) (by kernel_rfl) (by kernel_rfl) (fun _ _ _ h => h) (Or.inl ⟨by rfl, ?_⟩) (by assumption) ?_
      rotate_left
      · intro w hSw; (try dsimp only at hSw); go_simp; try with_reducible rfl
      try simp only [Act.put, List.setIfInBounds_toArray, List.set_cons_zero, List.set_cons_succ]
      refine wpAnyH_ready (rs := [8]) (by kernel_rfl) (by simp) ?_
      refine AllReadyH.cons rfl (fun K hK => ?_) AllReadyH.nil
      go_simp
      (go_at_call 148; ((with_reducible refine (of_one _).mono ?_); rintro e w' ⟨rfl, os4, d4, rfl⟩))
      go_wp2_with fail
      refine hK.out _ _ ?_ (fun hHeld2 => ?_)
      · try dsimp only
        go_simp
      clear hK K
      try simp only [Act.put, List.setIfInBounds_toArray, List.set_cons_zero, List.set_cons_succ]
      refine wpAnyH_take (i := 9) (v := ?_) rfl (by kernel_rfl) (by kernel_rfl) (by kernel_rfl) (fun _ _ _ h => h) (Or.inl ⟨by rfl, ?_⟩) (by assumption) ?_
      rotate_left
      · intro w hSw; (try dsimp only at hSw); go_simp; try with_reducible rfl
      try simp only [Act.put, List.setIfInBounds_toArray, List.set_cons_zero, List.set_cons_succ]
      refine wpAnyH_ready (rs := [10]) (by kernel_rfl) (by simp) ?_
      refine AllReadyH.cons rfl (fun K hK => ?_) AllReadyH.nil
      go_simp
      refine hK.out _ _ ?_ (fun hHeld3 => ?_)
      · try dsimp only
        go_simp
      clear hK K
      try simp only [Act.put, List.setIfInBounds_toArray, List.set_cons_zero, List.set_cons_succ]
      refine wpAnyH_done (by kernel_rfl) ?_ _
      go_wp2
      refine bodyPost_ret (v := .agg (val (false) q1 1)) (ret_val rfl rfl ?_) rfl ⟨by rw [HAW.out]; simp [valT, HQ1.out], ?_⟩
      · go_simp
      · exact (by with_reducible repeat (first | exact Grown.refl _ | apply Grown.more | apply Grown.alloc | apply Grown.drewN | apply Grown.drew))
  · intro h1 h2 hR0 h3
    subst h1 h2 hR0 h3
    go_enter Tryz.func150, Tryz.ntmps150
    go_wp2_with (go_at_call 131; refine (HDV.out _).mono ?_; rintro e w' ⟨rfl, os1, d1, rfl⟩)
    go_region_held3 (fun w' => rowAt w' ⟨w.heap.size + 1 + 1 + os1.size + 1, 0, none⟩ 33 = some (nat r) ∧ rowAt w' ⟨w.heap.size, 34, none⟩ 33 = some (nat y)) (go_simp)
      (first | (go_at_call 169; ((with_reducible refine (HDO.out _).mono ?_); rintro e w' ⟨rfl, os2, d2, rfl⟩)) | (go_at_call 146; ((with_reducible refine (HCO.out _).mono ?_); rintro e w' ⟨rfl, os3, d3, rfl⟩)))
    all_goals
      go_wp2_with fail
      refine wp_region_held_drew (S := (fun w' => w'.cell? ⟨w.heap.size, 0, none⟩ = some (.bool false) ∧ w'.cell? ⟨w.heap.size + 1 + 1 + os1.size, 32, none⟩ = some (.int .i64 (dl 4294967296 q)) ∧ rowAt w' ⟨w.heap.size + 1 + 1 + os1.size, 0, none⟩ 33 = some (nat q))) (by kernel_rfl) ?_ (fun hHeld => ?_)
      · try dsimp only
        go_simp
      refine wpAnyH_take (i := 0) (v := ?_) rfl (by kernel_rfl) (by kernel_rfl) (by kernel_rfl) (fun _ _ _ h => h) (Or.inl ⟨by rfl, ?_⟩) (by assumption) ?_
      rotate_left
      · intro w hSw; (try dsimp only at hSw); go_simp; try with_reducible rfl
      try simp only [Act.put, List.setIfInBounds_toArray, List.set_cons_zero, List.set_cons_succ]
      refine wpAnyH_take (i := 1) (v := ?_) rfl (by kernel_rfl) (by kernel_rfl) (by kernel_rfl) (fun _ _ _ h => h) (Or.inl ⟨by rfl, ?_⟩) (by assumption) ?_
      rotate_left
      · intro w hSw; (try dsimp only at hSw); go_simp; try with_reducible rfl
      try simp only [Act.put, List.setIfInBounds_toArray, List.set_cons_zero, List.set_cons_succ]
      refine wpAnyH_take (i := 2) (v := ?_) rfl (by kernel_rfl) (by kernel_rfl) (by kernel_rfl) (fun _ _ _ h => h) (Or.inl ⟨by rfl, ?_⟩) (by assumption) ?_
      rotate_left
      · intro w hSw; (try dsimp only at hSw); go_simp; try with_reducible rfl
      try simp only [Act.put, List.setIfInBounds_toArray, List.set_cons_zero, List.set_cons_succ]
      refine wpAnyH_take (i := 3) (v := undef) rfl (by kernel_rfl) (by kernel_rfl) (by kernel_rfl) (fun _ _ _ h => h) (Or.inr ⟨by rfl, rfl⟩) (by assumption) ?_
      try simp only [Act.put, List.setIfInBounds_toArray, List.set_cons_zero, List.set_cons_succ]
      refine wpAnyH_take (i := 4) (v := undef) rfl (by kernel_rfl) (by kernel_rfl) (by kernel_rfl) (fun _ _ _ h => h) (Or.inr ⟨by rfl, rfl⟩) (by assumption) ?_
      try simp only [Act.put, List.setIfInBounds_toArray, List.set_cons_zero, List.set_cons_succ]
      refine wpAnyH_take (i := 5) (v := undef) rfl (by kernel_rfl) (by kernel_rfl) (by kernel_rfl) (fun _ _ _ h => h) (Or.inr ⟨by rfl, rfl⟩) (by assumption) ?_
      try simp only [Act.put, List.setIfInBounds_toArray, List.set_cons_zero, List.set_cons_succ]
      refine wpAnyH_take (i := 6) (v := ?_) rfl (by kernel_rfl) (by kernel_rfl) (by kernel_rfl) (fun _ _ _ h => h) (Or.inl ⟨by rfl, ?_⟩) (by assumption) ?_
      rotate_left
      · intro w hSw; (try dsimp only at hSw); go_simp; try with_reducible rfl
      try simp only [Act.put, List.setIfInBounds_toArray, List.set_cons_zero, List.set_cons_succ]
      refine wpAnyH_take (i := 7) (v := ?_) rfl (by kernel_rfl) (by kernel_rfl) (by kernel_rfl) (fun _ _ _ h => h) (Or.inl ⟨by rfl, ?_⟩) (by assumption) ?_
      rotate_left
      · intro w hSw; (try dsimp only at hSw); go_simp; try with_reducible rfl
      try simp only [Act.put, List.setIfInBounds_toArray, List.set_cons_zero, List.set_cons_succ]
      refine wpAnyH_ready (rs := [8]) (by kernel_rfl) (by simp) ?_
      refine AllReadyH.cons rfl (fun K hK => ?_) AllReadyH.nil
      go_simp
      (go_at_call 148; ((with_reducible refine (of_one _).mono ?_); rintro e w' ⟨rfl, os4, d4, rfl⟩))
      go_wp2_with fail
      refine hK.out _ _ ?_ (fun hHeld2 => ?_)
      · try dsimp only
        go_simp
      clear hK K
      try simp only [Act.put, List.setIfInBounds_toArray, List.set_cons_zero, List.set_cons_succ]
      refine wpAnyH_take (i := 9) (v := ?_) rfl (by kernel_rfl) (by kernel_rfl) (by kernel_rfl) (fun _ _ _ h => h) (Or.inl ⟨by rfl, ?_⟩) (by assumption) ?_
      rotate_left
      · intro w hSw; (try dsimp only at hSw); go_simp; try with_reducible rfl
      try simp only [Act.put, List.setIfInBounds_toArray, List.set_cons_zero, List.set_cons_succ]
      refine wpAnyH_ready (rs := [10]) (by kernel_rfl) (by simp) ?_
      refine AllReadyH.cons rfl (fun K hK => ?_) AllReadyH.nil
      go_simp
      refine hK.out _ _ ?_ (fun hHeld3 => ?_)
      · try dsimp only
        go_simp
      clear hK K
      try simp only [Act.put, List.setIfInBounds_toArray, List.set_cons_zero, List.set_cons_succ]
      refine wpAnyH_done (by kernel_rfl) ?_ _
      go_wp2
      refine bodyPost_ret (v := .agg (val (false) q 1)) (ret_val rfl rfl ?_) rfl ⟨by rw [HAW.out]; simp [valT], ?_⟩
      · go_simp
      · exact (by with_reducible repeat (first | exact Grown.refl _ | apply Grown.more | apply Grown.alloc | apply Grown.drewN | apply Grown.drew))
  · intro h1 h2 hR0 h3
    subst h1 h2 hR0 h3
    go_enter Tryz.func150, Tryz.ntmps150
    go_wp2_with (go_at_call 131; refine (HDV.out _).mono ?_; rintro e w' ⟨rfl, os1, d1, rfl⟩)
    go_region_held3 (fun w' => rowAt w' ⟨w.heap.size + 1 + 1 + os1.size + 1, 0, none⟩ 33 = some (nat r) ∧ rowAt w' ⟨w.heap.size, 34, none⟩ 33 = some (nat y)) (go_simp)
      (first | (go_at_call 169; ((with_reducible refine (HDO.out _).mono ?_); rintro e w' ⟨rfl, os2, d2, rfl⟩)) | (go_at_call 146; ((with_reducible refine (HCO.out _).mono ?_); rintro e w' ⟨rfl, os3, d3, rfl⟩)))
    all_goals
      go_wp2_with fail
      go_region_with (first | (go_at_call 148; ((with_reducible refine (of_one _).mono ?_); rintro e w' ⟨rfl, os5, d5, rfl⟩)) | (go_at_call 173; ((with_reducible refine (HPL.out _).mono ?_); rintro e w' ⟨rfl, os6, d6, rfl⟩)))
    all_goals
      go_wp2_with fail
      first | go_region_held3 (fun w' => w'.cell? ⟨w.heap.size, 0, none⟩ = some (.bool true) ∧ w'.cell? ⟨w.heap.size + 1 + 1 + os1.size, 32, none⟩ = some (.int .i64 (dl 4294967296 q1)) ∧ rowAt w' ⟨w.heap.size + 1 + 1 + os1.size, 0, none⟩ 33 = some (nat q1)) (go_simp) (first | (go_at_call 148; ((with_reducible refine (of_one _).mono ?_); rintro e w' ⟨rfl, os4, d4, rfl⟩)))
    all_goals
      go_wp2
      refine bodyPost_ret (v := .agg (val (decide (0 < dl 4294967296 q1)) q1 1)) (ret_val rfl rfl ?_) rfl ⟨by rw [HAW.out]; rw [HQ1P.out, HQ1.out]; simp [valT], ?_⟩
      · go_simp
      · exact (by with_reducible repeat (first | exact Grown.refl _ | apply Grown.more | apply Grown.alloc | apply Grown.drewN | apply Grown.drew))
  · intro h1 h2 hR0 h3
    subst h1 h2 hR0 h3
    go_enter Tryz.func150, Tryz.ntmps150
    go_wp2_with (go_at_call 131; refine (HDV.out _).mono ?_; rintro e w' ⟨rfl, os1, d1, rfl⟩)
    go_region_held3 (fun w' => rowAt w' ⟨w.heap.size + 1 + 1 + os1.size + 1, 0, none⟩ 33 = some (nat r) ∧ rowAt w' ⟨w.heap.size, 34, none⟩ 33 = some (nat y)) (go_simp)
      (first | (go_at_call 169; ((with_reducible refine (HDO.out _).mono ?_); rintro e w' ⟨rfl, os2, d2, rfl⟩)) | (go_at_call 146; ((with_reducible refine (HCO.out _).mono ?_); rintro e w' ⟨rfl, os3, d3, rfl⟩)))
    all_goals
      go_wp2_with fail
      first | go_region_held3 (fun w' => w'.cell? ⟨w.heap.size, 0, none⟩ = some (.bool true) ∧ w'.cell? ⟨w.heap.size + 1 + 1 + os1.size, 32, none⟩ = some (.int .i64 (dl 4294967296 q)) ∧ rowAt w' ⟨w.heap.size + 1 + 1 + os1.size, 0, none⟩ 33 = some (nat q)) (go_simp) (first | (go_at_call 148; ((with_reducible refine (of_one _).mono ?_); rintro e w' ⟨rfl, os4, d4, rfl⟩)))
    all_goals
      go_wp2
      refine bodyPost_ret (v := .agg (val (decide (0 < dl 4294967296 q)) q 1)) (ret_val rfl rfl ?_) rfl ⟨by rw [HAW.out]; rw [HQP.out]; simp [valT], ?_⟩
      · go_simp
      · exact (by with_reducible repeat (first | exact Grown.refl _ | apply Grown.more | apply Grown.alloc | apply Grown.drewN | apply Grown.drew))
  · intro h1 h2 hR0 h3
    subst h1 h2 hR0 h3
    go_enter Tryz.func150, Tryz.ntmps150
    go_wp2_with (go_at_call 131; refine (HDV.out _).mono ?_; rintro e w' ⟨rfl, os1, d1, rfl⟩)
    go_region_held3 (fun w' => rowAt w' ⟨w.heap.size + 1 + 1 + os1.size + 1, 0, none⟩ 33 = some (nat r) ∧ rowAt w' ⟨w.heap.size, 34, none⟩ 33 = some (nat y)) (go_simp)
      (first | (go_at_call 169; ((with_reducible refine (HDO.out _).mono ?_); rintro e w' ⟨rfl, os2, d2, rfl⟩)) | (go_at_call 146; ((with_reducible refine (HCO.out _).mono ?_); rintro e w' ⟨rfl, os3, d3, rfl⟩)))
    all_goals
      go_wp2_with fail
      first | go_region_held3 (fun w' => w'.cell? ⟨w.heap.size, 0, none⟩ = some (.bool true) ∧ w'.cell? ⟨w.heap.size + 1 + 1 + os1.size, 32, none⟩ = some (.int .i64 (dl 4294967296 q)) ∧ rowAt w' ⟨w.heap.size + 1 + 1 + os1.size, 0, none⟩ 33 = some (nat q)) (go_simp) (first | (go_at_call 148; ((with_reducible refine (of_one _).mono ?_); rintro e w' ⟨rfl, os4, d4, rfl⟩)))
    all_goals
      go_wp2
      refine bodyPost_ret (v := .agg (val (decide (0 < dl 4294967296 q)) q 1)) (ret_val rfl rfl ?_) rfl ⟨by rw [HAW.out]; rw [HQP.out]; simp [valT], ?_⟩
      · go_simp
      · exact (by with_reducible repeat (first | exact Grown.refl _ | apply Grown.more | apply Grown.alloc | apply Grown.drewN | apply Grown.drew))
end Go.Proofs.YtnohidkmjclojaaGreatDoor
