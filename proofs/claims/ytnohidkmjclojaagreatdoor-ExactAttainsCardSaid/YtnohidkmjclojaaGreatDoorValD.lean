/- Walks: exact.known, Valid, both. -/
import Derived.Test.YtnohidkmjclojaaGreatDoorValC
namespace Go.Proofs.YtnohidkmjclojaaGreatDoor
open Go.RowKit

theorem has45 (l : List UInt8) : Lib.hasPrefix l [45] = decide (l.head? = some 45) := by
  unfold Lib.hasPrefix
  cases l with
  | nil => rfl
  | cons c r =>
    show (45 == c && List.isPrefixOf [] r) = _
    cases r <;> by_cases h : c = 45
    · subst h; rfl
    · simp [h, Ne.symm h]
    · subst h; rfl
    · simp [h, Ne.symm h]
theorem trim45 (l : List UInt8) : Lib.trimPrefix l [45] = cutMinus l := by
  unfold Lib.trimPrefix
  rw [has45]
  unfold cutMinus
  by_cases h : l.head? = some 45
  · rw [if_pos h, decide_eq_true h]; cases l <;> rfl
  · rw [if_neg h, decide_eq_false h]; rfl
theorem dl_300 {x k : Nat} (h : x < 10 ^ k) (hk : k ≤ 300) : dl 4294967296 x ≤ 32 := by
  refine dl_le (by omega) _ _ (Nat.lt_of_lt_of_le h (Nat.le_trans (Nat.pow_le_pow_right (by omega) hk) ?_))
  decide +kernel

set_option maxRecDepth 100000 in
set_option maxHeartbeats 1000000 in
/-- known reads a fraction -/
theorem known_any (n d : List UInt8) (w : World) (hn : n.length ≤ maxLen) (hd : d.length ≤ maxLen) :
    Calls Tryz.prog 97 #[ratV n d] w fun e w' => (∃ m x y, e = .returned (.tuple #[.agg (val m x y), .bool (validB n d)]) ∧ (validB n d = true → m = decide (n.head? = some 45) ∧ x = valN (cutMinus n) ∧ y = valN d)) ∧ Grown w w' := by
  have hcl : (cutMinus n).length ≤ n.length := by unfold cutMinus; split <;> simp
  have hcp : ∀ w, Calls Tryz.prog 143 #[.string ⟨n.toArray⟩, .string ⟨#[45]⟩] w fun e w' => e = .returned (.tuple #[.string ⟨(cutMinus n).toArray⟩, .bool (decide (n.head? = some 45))]) ∧ w' = w := by
    intro w
    have := Tryz.strings_CutPrefix ⟨n.toArray⟩ ⟨#[45]⟩ w
    rw [show (ByteArray.mk n.toArray).data.toList = n from rfl, show (ByteArray.mk #[45]).data.toList = [45] from rfl, trim45, has45] at this
    exact this
  have hnA : ∀ w, Calls Tryz.prog 144 #[.string ⟨(cutMinus n).toArray⟩, .int .i64 60] w fun e w' => e = .returned (.bool (numB (cutMinus n) 60)) ∧ Grown w w' := fun w => numeral_any ⟨(cutMinus n).toArray⟩ 60 w (by show (cutMinus n).toArray.size ≤ _; simp; omega) (by omega)
  have hnB : ∀ w, Calls Tryz.prog 144 #[.string ⟨d.toArray⟩, .int .i64 60] w fun e w' => e = .returned (.bool (numB d 60)) ∧ Grown w w' := fun w => numeral_any ⟨d.toArray⟩ 60 w (by show d.toArray.size ≤ _; simpa using hd) (by omega)
  have hrA : numB (cutMinus n) 60 = true → ∀ w, Calls Tryz.prog 145 #[.string ⟨(cutMinus n).toArray⟩] w fun e w' => e = .returned (.agg (nat (valN (cutMinus n)))) ∧ Grown w w' := by
    intro h w
    refine read_any ⟨(cutMinus n).toArray⟩ w ?_ ?_
    · show (cutMinus n).toArray.size ≤ _
      unfold numB at h
      simp at h ⊢
      omega
    · show (cutMinus n).all isDig = true
      unfold numB at h
      simp only [Bool.and_eq_true] at h
      exact h.2
  have hrB : numB d 60 = true → ∀ w, Calls Tryz.prog 145 #[.string ⟨d.toArray⟩] w fun e w' => e = .returned (.agg (nat (valN d))) ∧ Grown w w' := by
    intro h w
    refine read_any ⟨d.toArray⟩ w ?_ ?_
    · show d.toArray.size ≤ _
      unfold numB at h
      simp at h ⊢
      omega
    · show d.all isDig = true
      unfold numB at h
      simp only [Bool.and_eq_true] at h
      exact h.2
  have hv : validB n d = (numB (cutMinus n) 60 && numB d 60 && !decide (d = [48]) && !(decide (n.head? = some 45) && decide (cutMinus n = [48])) && decide (Nat.gcd (valN (cutMinus n)) (valN d) = 1)) := rfl
  have h60A : numB (cutMinus n) 60 = true → valN (cutMinus n) < 10 ^ 60 := fun h => by rw [← dd_len_le (by omega), dd_of_num h]; unfold numB at h; simp at h; omega
  have h60B : numB d 60 = true → valN d < 10 ^ 60 := fun h => by rw [← dd_len_le (by omega), dd_of_num h]; unfold numB at h; simp at h; omega
  have h0B : numB d 60 = true → d ≠ [48] → 0 < valN d := by
    intro h h'
    rcases Nat.eq_zero_or_pos (valN d) with h0 | h0
    · have := dd_of_num h
      rw [h0, dd_zero] at this
      exact absurd this.symm h'
    · exact h0
  have hba : ∀ a : List UInt8, ((⟨a.toArray⟩ : ByteArray).toList == [48]) = decide (a = [48]) := by
    intro a
    rw [ByteArray.toList_mk, Bool.eq_iff_iff, beq_iff_eq, decide_eq_true_eq]
  have hE1 := hba d
  have hE2 := hba (cutMinus n)
  clear hba
  obtain ⟨C, hC⟩ : ∃ C, C = decide (d = [48]) := ⟨_, rfl⟩
  obtain ⟨D, hD⟩ : ∃ D, D = decide (n.head? = some 45) := ⟨_, rfl⟩
  obtain ⟨E, hEE⟩ : ∃ E, E = decide (cutMinus n = [48]) := ⟨_, rfl⟩
  obtain ⟨A, hA⟩ : ∃ A, A = numB (cutMinus n) 60 := ⟨_, rfl⟩
  obtain ⟨B, hB⟩ : ∃ B, B = numB d 60 := ⟨_, rfl⟩
  obtain ⟨V, hV⟩ : ∃ V, V = validB n d := ⟨_, rfl⟩
  obtain ⟨x, hx⟩ : ∃ x, x = valN (cutMinus n) := ⟨_, rfl⟩
  obtain ⟨y, hy⟩ : ∃ y, y = valN d := ⟨_, rfl⟩
  obtain ⟨sn, hsn⟩ : ∃ s : ByteArray, s = ⟨n.toArray⟩ := ⟨_, rfl⟩
  obtain ⟨st, hst⟩ : ∃ s : ByteArray, s = ⟨(cutMinus n).toArray⟩ := ⟨_, rfl⟩
  obtain ⟨sd, hsd⟩ : ∃ s : ByteArray, s = ⟨d.toArray⟩ := ⟨_, rfl⟩
  have h0C : C = false → d ≠ [48] := by rw [hC]; simp
  unfold ratV
  rw [← hV, ← hx, ← hy, ← hD, ← hsn, ← hsd]
  rw [← hst] at hcp hnA hrA hE2
  rw [← hsn] at hcp
  rw [← hsd] at hnB hrB hE1
  rw [← hA] at hnA hrA hv h60A
  rw [← hB] at hnB hrB hv h60B h0B
  rw [← hC] at hv hE1
  rw [← hEE] at hv hE2
  rw [← hD] at hv hcp
  rw [← hx] at hv hrA h60A
  rw [← hy] at hv hrB h60B h0B
  rw [← hV] at hv
  clear hV hx hy hD hsn hsd hst hA hB hC hEE
  have HV := Lib.hid hv
  have HCP := Lib.hid hcp
  have HNA := Lib.hid hnA
  have HNB := Lib.hid hnB
  have HRA := Lib.hid hrA
  have HRB := Lib.hid hrB
  have H6A := Lib.hid h60A
  have H6B := Lib.hid h60B
  have H0B := Lib.hid h0B
  have H0C := Lib.hid h0C
  clear hv hcp hnA hnB hrA hrB h60A h60B h0B h0C
  have hno : (A && B && !C && !(D && E)) = false → Calls Tryz.prog 97 #[.agg #[.string sn, .string sd]] w fun e w' => (e = .returned (.tuple #[.agg (val false 0 0), .bool false])) ∧ Grown w w' := by
    intro h
    cases A
    · clear h HRA HRB H6A H6B H0B H0C HV
      go_enter Tryz.func97, Tryz.ntmps97
      go_wp2_with (first | (go_at_call 143; refine (HCP.out _).mono ?_; rintro e w' ⟨rfl, rfl⟩) | (go_at_call 144; ((with_reducible refine (HNA.out _).mono ?_); rintro e w' ⟨rfl, os1, d1, rfl⟩)) | (go_at_call 144; ((with_reducible refine (HNB.out _).mono ?_); rintro e w' ⟨rfl, os2, d2, rfl⟩)))
      refine bodyPost_ret (v := .tuple #[.agg (val false 0 0), .bool false]) (ret_val_tmp rfl rfl rfl ?_) rfl ⟨rfl, ?_⟩
      · go_simp
      · exact (by with_reducible repeat (first | exact Grown.refl _ | apply Grown.more | apply Grown.alloc | apply Grown.drewN | apply Grown.drew))
    · cases B
      · clear h HRA HRB H6A H6B H0B H0C HV
        go_enter Tryz.func97, Tryz.ntmps97
        go_wp2_with (first | (go_at_call 143; refine (HCP.out _).mono ?_; rintro e w' ⟨rfl, rfl⟩) | (go_at_call 144; ((with_reducible refine (HNA.out _).mono ?_); rintro e w' ⟨rfl, os1, d1, rfl⟩)) | (go_at_call 144; ((with_reducible refine (HNB.out _).mono ?_); rintro e w' ⟨rfl, os2, d2, rfl⟩)))
        refine bodyPost_ret (v := .tuple #[.agg (val false 0 0), .bool false]) (ret_val_tmp rfl rfl rfl ?_) rfl ⟨rfl, ?_⟩
        · go_simp
        · exact (by with_reducible repeat (first | exact Grown.refl _ | apply Grown.more | apply Grown.alloc | apply Grown.drewN | apply Grown.drew))
      · cases C
        · cases D
          · simp at h
          · cases E
            · simp at h
            · clear h HRA HRB H6A H6B H0B H0C HV
              go_enter Tryz.func97, Tryz.ntmps97
              go_wp2_with (first | (go_at_call 143; refine (HCP.out _).mono ?_; rintro e w' ⟨rfl, rfl⟩) | (go_at_call 144; ((with_reducible refine (HNA.out _).mono ?_); rintro e w' ⟨rfl, os1, d1, rfl⟩)) | (go_at_call 144; ((with_reducible refine (HNB.out _).mono ?_); rintro e w' ⟨rfl, os2, d2, rfl⟩)))
              refine bodyPost_ret (v := .tuple #[.agg (val false 0 0), .bool false]) (ret_val_tmp rfl rfl rfl ?_) rfl ⟨rfl, ?_⟩
              · go_simp
              · exact (by with_reducible repeat (first | exact Grown.refl _ | apply Grown.more | apply Grown.alloc | apply Grown.drewN | apply Grown.drew))
        · cases D <;> clear h HRA HRB H6A H6B H0B H0C HV <;> go_enter Tryz.func97, Tryz.ntmps97
          all_goals
            go_wp2_with (first | (go_at_call 143; refine (HCP.out _).mono ?_; rintro e w' ⟨rfl, rfl⟩) | (go_at_call 144; ((with_reducible refine (HNA.out _).mono ?_); rintro e w' ⟨rfl, os1, d1, rfl⟩)) | (go_at_call 144; ((with_reducible refine (HNB.out _).mono ?_); rintro e w' ⟨rfl, os2, d2, rfl⟩)))
            refine bodyPost_ret (v := .tuple #[.agg (val false 0 0), .bool false]) (ret_val_tmp rfl rfl rfl ?_) rfl ⟨rfl, ?_⟩
            · go_simp
            · exact (by with_reducible repeat (first | exact Grown.refl _ | apply Grown.more | apply Grown.alloc | apply Grown.drewN | apply Grown.drew))
  by_cases hz : (A && B && !C && !(D && E)) = false
  · refine (hno hz).mono ?_
    rintro e w' ⟨rfl, hg⟩
    refine ⟨⟨false, 0, 0, ?_, ?_⟩, hg⟩
    · rw [HV.out, hz]; rfl
    · rw [HV.out, hz]; intro h; cases h
  clear hno
  have hz2 : A = true ∧ B = true ∧ C = false ∧ (D = false ∨ E = false) := by
    revert hz
    cases A <;> cases B <;> cases C <;> cases D <;> cases E <;> decide
  obtain ⟨hA, hB, hC, hDE⟩ := hz2
  clear hz
  subst hA hB hC
  have hx6 := H6A.out rfl
  have hy6 := H6B.out rfl
  have hy0 := H0B.out rfl (H0C.out rfl)
  have hdx := dl_300 hx6 (by omega)
  have hdy := dl_300 hy6 (by omega)
  have hd2 : dl 4294967296 (2 * y) ≤ 32 := dl_300 (k := 61) (by omega) (by omega)
  have HRA' := Lib.hid (HRA.out rfl)
  have HRB' := Lib.hid (HRB.out rfl)
  have HV' : Hid (V = (cmpI (Nat.gcd x y) 1 == 0)) := by
    have h : (!(D && E)) = true := by rcases hDE with h | h <;> simp [h]
    rw [HV.out, h]
    show decide (Nat.gcd x y = 1) = _
    rw [Bool.eq_iff_iff, beq_iff_eq, decide_eq_true_eq]
    unfold cmpI
    split
    · refine ⟨fun h => by omega, fun h => by cases h⟩
    · split
      · refine ⟨fun h => by omega, fun h => by cases h⟩
      · refine ⟨fun h => rfl, fun h => by omega⟩
  have hcm : ∀ w, Calls Tryz.prog 147 #[.agg (nat x), .agg (nat y)] w fun e w' => e = .returned (.agg (nat (Nat.gcd x y))) ∧ Grown w w' := fun w => common_any x y w hdx hd2
  obtain ⟨g, hg⟩ : ∃ g, g = Nat.gcd x y := ⟨_, rfl⟩
  have hdg : dl 4294967296 g ≤ 32 := Nat.le_trans (dl_mono (by omega) (by rw [hg]; exact Nat.gcd_le_right _ hy0)) hdy
  rw [← hg] at hcm HV'
  have hco : ∀ w, Calls Tryz.prog 146 #[.agg (nat g), .agg (nat 1)] w fun e w' => e = .returned (.int .i64 (cmpI g 1)) ∧ Grown w w' := fun w => compare_any g 1 w hdg (dl_300 (k := 1) (by omega) (by omega))
  have HCM := Lib.hid hcm
  have HCO := Lib.hid hco
  clear hcm hco hg hdg
  clear HRA HRB H6A H6B H0B H0C HV hx6 hy6 hcl hn hd
  have main : Calls Tryz.prog 97 #[.agg #[.string sn, .string sd]] w fun e w' => (e = .returned (.tuple #[.agg (val D x y), .bool V])) ∧ Grown w w' := by
    cases D
    · clear hDE
      go_enter Tryz.func97, Tryz.ntmps97
      go_wp2_with (first | (go_at_call 143; refine (HCP.out _).mono ?_; rintro e w' ⟨rfl, rfl⟩) | (go_at_call 144; ((with_reducible refine (HNA.out _).mono ?_); rintro e w' ⟨rfl, os1, d1, rfl⟩)) | (go_at_call 144; ((with_reducible refine (HNB.out _).mono ?_); rintro e w' ⟨rfl, os2, d2, rfl⟩)))
      go_region_held3 (fun w' => w'.cell? ⟨w.heap.size, 1, none⟩ = some (.string sd)) (go_simp) (first | (go_at_call 145; ((with_reducible refine (HRA'.out _).mono ?_); rintro e w' ⟨rfl, os3, d3, rfl⟩)) | (go_at_call 145; ((with_reducible refine (HRB'.out _).mono ?_); rintro e w' ⟨rfl, os4, d4, rfl⟩)))
      all_goals
        go_wp2_with fail
        first
          | go_region_held3 (fun w' => rowAt w' ⟨w.heap.size + 1 + 1 + (os1.size + (os2.size + (os3.size + os4.size))), 0, none⟩ 67 = some (val false x y) ∧ rowAt w' ⟨w.heap.size + 1 + 1 + (os1.size + (os2.size + (os3.size + os4.size))), 1, none⟩ 33 = some (nat x) ∧ rowAt w' ⟨w.heap.size + 1 + 1 + (os1.size + (os2.size + (os3.size + os4.size))), 34, none⟩ 33 = some (nat y)) (go_simp) (first | (go_at_call 147; ((with_reducible refine (HCM.out _).mono ?_); rintro e w' ⟨rfl, os5, d5, rfl⟩)) | (go_at_call 148; ((with_reducible refine (of_one _).mono ?_); rintro e w' ⟨rfl, os6, d6, rfl⟩)) | (go_at_call 146; ((with_reducible refine (HCO.out _).mono ?_); rintro e w' ⟨rfl, os7, d7, rfl⟩)))
          | go_region_held3 (fun w' => rowAt w' ⟨w.heap.size + 1 + 1 + (os1.size + (os2.size + os3.size)), 0, none⟩ 67 = some (val false x y) ∧ rowAt w' ⟨w.heap.size + 1 + 1 + (os1.size + (os2.size + os3.size)), 1, none⟩ 33 = some (nat x) ∧ rowAt w' ⟨w.heap.size + 1 + 1 + (os1.size + (os2.size + os3.size)), 34, none⟩ 33 = some (nat y)) (go_simp) (first | (go_at_call 147; ((with_reducible refine (HCM.out _).mono ?_); rintro e w' ⟨rfl, os5, d5, rfl⟩)) | (go_at_call 148; ((with_reducible refine (of_one _).mono ?_); rintro e w' ⟨rfl, os6, d6, rfl⟩)) | (go_at_call 146; ((with_reducible refine (HCO.out _).mono ?_); rintro e w' ⟨rfl, os7, d7, rfl⟩)))
          | go_region_held3 (fun w' => rowAt w' ⟨w.heap.size + 1 + 1 + (os1.size + os2.size), 0, none⟩ 67 = some (val false x y) ∧ rowAt w' ⟨w.heap.size + 1 + 1 + (os1.size + os2.size), 1, none⟩ 33 = some (nat x) ∧ rowAt w' ⟨w.heap.size + 1 + 1 + (os1.size + os2.size), 34, none⟩ 33 = some (nat y)) (go_simp) (first | (go_at_call 147; ((with_reducible refine (HCM.out _).mono ?_); rintro e w' ⟨rfl, os5, d5, rfl⟩)) | (go_at_call 148; ((with_reducible refine (of_one _).mono ?_); rintro e w' ⟨rfl, os6, d6, rfl⟩)) | (go_at_call 146; ((with_reducible refine (HCO.out _).mono ?_); rintro e w' ⟨rfl, os7, d7, rfl⟩)))
        go_wp2
        refine bodyPost_ret (v := .tuple #[.agg (val false x y), .bool (cmpI g 1 == 0)]) (ret_val_tmp rfl rfl rfl ?_) rfl ⟨by rw [HV'.out], ?_⟩
        · go_simp
        · exact (by with_reducible repeat (first | exact Grown.refl _ | apply Grown.more | apply Grown.alloc | apply Grown.drewN | apply Grown.drew))
    · have hE : E = false := by rcases hDE with h | h; cases h; exact h
      subst hE
      clear hDE
      go_enter Tryz.func97, Tryz.ntmps97
      go_wp2_with (first | (go_at_call 143; refine (HCP.out _).mono ?_; rintro e w' ⟨rfl, rfl⟩) | (go_at_call 144; ((with_reducible refine (HNA.out _).mono ?_); rintro e w' ⟨rfl, os1, d1, rfl⟩)) | (go_at_call 144; ((with_reducible refine (HNB.out _).mono ?_); rintro e w' ⟨rfl, os2, d2, rfl⟩)))
      go_region_held3 (fun w' => w'.cell? ⟨w.heap.size, 1, none⟩ = some (.string sd)) (go_simp) (first | (go_at_call 145; ((with_reducible refine (HRA'.out _).mono ?_); rintro e w' ⟨rfl, os3, d3, rfl⟩)) | (go_at_call 145; ((with_reducible refine (HRB'.out _).mono ?_); rintro e w' ⟨rfl, os4, d4, rfl⟩)))
      all_goals
        go_wp2_with fail
        first
          | go_region_held3 (fun w' => rowAt w' ⟨w.heap.size + 1 + 1 + (os1.size + (os2.size + (os3.size + os4.size))), 0, none⟩ 67 = some (val true x y) ∧ rowAt w' ⟨w.heap.size + 1 + 1 + (os1.size + (os2.size + (os3.size + os4.size))), 1, none⟩ 33 = some (nat x) ∧ rowAt w' ⟨w.heap.size + 1 + 1 + (os1.size + (os2.size + (os3.size + os4.size))), 34, none⟩ 33 = some (nat y)) (go_simp) (first | (go_at_call 147; ((with_reducible refine (HCM.out _).mono ?_); rintro e w' ⟨rfl, os5, d5, rfl⟩)) | (go_at_call 148; ((with_reducible refine (of_one _).mono ?_); rintro e w' ⟨rfl, os6, d6, rfl⟩)) | (go_at_call 146; ((with_reducible refine (HCO.out _).mono ?_); rintro e w' ⟨rfl, os7, d7, rfl⟩)))
          | go_region_held3 (fun w' => rowAt w' ⟨w.heap.size + 1 + 1 + (os1.size + (os2.size + os3.size)), 0, none⟩ 67 = some (val true x y) ∧ rowAt w' ⟨w.heap.size + 1 + 1 + (os1.size + (os2.size + os3.size)), 1, none⟩ 33 = some (nat x) ∧ rowAt w' ⟨w.heap.size + 1 + 1 + (os1.size + (os2.size + os3.size)), 34, none⟩ 33 = some (nat y)) (go_simp) (first | (go_at_call 147; ((with_reducible refine (HCM.out _).mono ?_); rintro e w' ⟨rfl, os5, d5, rfl⟩)) | (go_at_call 148; ((with_reducible refine (of_one _).mono ?_); rintro e w' ⟨rfl, os6, d6, rfl⟩)) | (go_at_call 146; ((with_reducible refine (HCO.out _).mono ?_); rintro e w' ⟨rfl, os7, d7, rfl⟩)))
          | go_region_held3 (fun w' => rowAt w' ⟨w.heap.size + 1 + 1 + (os1.size + os2.size), 0, none⟩ 67 = some (val true x y) ∧ rowAt w' ⟨w.heap.size + 1 + 1 + (os1.size + os2.size), 1, none⟩ 33 = some (nat x) ∧ rowAt w' ⟨w.heap.size + 1 + 1 + (os1.size + os2.size), 34, none⟩ 33 = some (nat y)) (go_simp) (first | (go_at_call 147; ((with_reducible refine (HCM.out _).mono ?_); rintro e w' ⟨rfl, os5, d5, rfl⟩)) | (go_at_call 148; ((with_reducible refine (of_one _).mono ?_); rintro e w' ⟨rfl, os6, d6, rfl⟩)) | (go_at_call 146; ((with_reducible refine (HCO.out _).mono ?_); rintro e w' ⟨rfl, os7, d7, rfl⟩)))
        go_wp2
        refine bodyPost_ret (v := .tuple #[.agg (val true x y), .bool (cmpI g 1 == 0)]) (ret_val_tmp rfl rfl rfl ?_) rfl ⟨by rw [HV'.out], ?_⟩
        · go_simp
        · exact (by with_reducible repeat (first | exact Grown.refl _ | apply Grown.more | apply Grown.alloc | apply Grown.drewN | apply Grown.drew))
  refine main.mono ?_
  rintro e w' ⟨rfl, hg⟩
  exact ⟨⟨D, x, y, rfl, fun _ => ⟨rfl, rfl, rfl⟩⟩, hg⟩

/-- Valid reports whether a fraction is valid -/
theorem Valid_any (n d : List UInt8) (w : World) (hn : n.length ≤ maxLen) (hd : d.length ≤ maxLen) :
    Calls Tryz.prog 90 #[ratV n d] w fun e w' => e = .returned (.bool (validB n d)) ∧ Grown w w' := by
  have HK := Lib.hid (known_any n d)
  obtain ⟨b, hb⟩ : ∃ b, b = validB n d := ⟨_, rfl⟩
  unfold ratV at HK ⊢
  rw [← hb] at HK ⊢
  clear hb
  go_enter Tryz.func90, Tryz.ntmps90
  go_wp2_with (go_at_call 97; refine (HK.out _ hn hd).mono ?_; rintro e w' ⟨⟨m, x, y, rfl, -⟩, ⟨os, dd, rfl⟩⟩)
  go_ret
  exact ⟨rfl, (by with_reducible repeat (first | exact Grown.refl _ | apply Grown.more | apply Grown.alloc | apply Grown.drewN | apply Grown.drew))⟩
end Go.Proofs.YtnohidkmjclojaaGreatDoor
