/- The law's examples: spans returns true. -/
import Derived.Test.YtnohidkmjclojaaGreatDoorLawD
namespace Go.Proofs.YtnohidkmjclojaaGreatDoor
open Go.RowKit

theorem lens9 (a b c d : List UInt8) (h : a.length ≤ 9 ∧ b.length ≤ 9 ∧ c.length ≤ 9 ∧ d.length ≤ 9) : Lens a b c d := by
  have : 9 ≤ maxLen := by unfold maxLen; omega
  exact ⟨by omega, by omega, by omega, by omega⟩
theorem lens1 (a : List UInt8) (h : a.length ≤ 9) : a.length ≤ maxLen := by
  have : 9 ≤ maxLen := by unfold maxLen; omega
  omega

set_option maxRecDepth 100000 in
set_option maxHeartbeats 2000000 in
theorem spans_yes (w : World) (hpow : Pow10 w) : Calls Tryz.prog 16 #[] w fun e w' => e = .returned (.bool true) ∧ Grown w w' := by
  have HPOW := Lib.hid hpow
  clear hpow
  have hof_m1 : ∀ w, Pow10 w → Calls Tryz.prog 70 #[.int .i64 (-1), .int .i64 1] w fun e w' => e = .returned (.agg #[.string ⟨#[45, 49]⟩, .string ⟨#[49]⟩]) ∧ Grown w w' := fun w hw => by
    have h := lof_any (-1) 1 w (by omega) (by omega) (by omega) (by omega) hw
    rw [of_m1] at h
    exact h
  have Hof_m1 := Lib.hid hof_m1
  clear hof_m1
  have hof_2 : ∀ w, Pow10 w → Calls Tryz.prog 70 #[.int .i64 2, .int .i64 1] w fun e w' => e = .returned (.agg #[.string ⟨#[50]⟩, .string ⟨#[49]⟩]) ∧ Grown w w' := fun w hw => by
    have h := lof_any 2 1 w (by omega) (by omega) (by omega) (by omega) hw
    rw [of_2] at h
    exact h
  have Hof_2 := Lib.hid hof_2
  clear hof_2
  have hof_3 : ∀ w, Pow10 w → Calls Tryz.prog 70 #[.int .i64 3, .int .i64 1] w fun e w' => e = .returned (.agg #[.string ⟨#[51]⟩, .string ⟨#[49]⟩]) ∧ Grown w w' := fun w hw => by
    have h := lof_any 3 1 w (by omega) (by omega) (by omega) (by omega) hw
    rw [of_3] at h
    exact h
  have Hof_3 := Lib.hid hof_3
  clear hof_3
  have hof_4 : ∀ w, Pow10 w → Calls Tryz.prog 70 #[.int .i64 4, .int .i64 1] w fun e w' => e = .returned (.agg #[.string ⟨#[52]⟩, .string ⟨#[49]⟩]) ∧ Grown w w' := fun w hw => by
    have h := lof_any 4 1 w (by omega) (by omega) (by omega) (by omega) hw
    rw [of_4] at h
    exact h
  have Hof_4 := Lib.hid hof_4
  clear hof_4
  have hof_1 : ∀ w, Pow10 w → Calls Tryz.prog 70 #[.int .i64 1, .int .i64 1] w fun e w' => e = .returned (.agg #[.string ⟨#[49]⟩, .string ⟨#[49]⟩]) ∧ Grown w w' := fun w hw => by
    have h := lof_any 1 1 w (by omega) (by omega) (by omega) (by omega) hw
    rw [of_1] at h
    exact h
  have Hof_1 := Lib.hid hof_1
  clear hof_1
  have hof_13 : ∀ w, Pow10 w → Calls Tryz.prog 70 #[.int .i64 1, .int .i64 3] w fun e w' => e = .returned (.agg #[.string ⟨#[49]⟩, .string ⟨#[51]⟩]) ∧ Grown w w' := fun w hw => by
    have h := lof_any 1 3 w (by omega) (by omega) (by omega) (by omega) hw
    rw [of_13] at h
    exact h
  have Hof_13 := Lib.hid hof_13
  clear hof_13
  have hof_53 : ∀ w, Pow10 w → Calls Tryz.prog 70 #[.int .i64 5, .int .i64 3] w fun e w' => e = .returned (.agg #[.string ⟨#[53]⟩, .string ⟨#[51]⟩]) ∧ Grown w w' := fun w hw => by
    have h := lof_any 5 3 w (by omega) (by omega) (by omega) (by omega) hw
    rw [of_53] at h
    exact h
  have Hof_53 := Lib.hid hof_53
  clear hof_53
  have hof_12 : ∀ w, Pow10 w → Calls Tryz.prog 70 #[.int .i64 1, .int .i64 2] w fun e w' => e = .returned (.agg #[.string ⟨#[49]⟩, .string ⟨#[50]⟩]) ∧ Grown w w' := fun w hw => by
    have h := lof_any 1 2 w (by omega) (by omega) (by omega) (by omega) hw
    rw [of_12] at h
    exact h
  have Hof_12 := Lib.hid hof_12
  clear hof_12
  have hof_14 : ∀ w, Pow10 w → Calls Tryz.prog 70 #[.int .i64 1, .int .i64 4] w fun e w' => e = .returned (.agg #[.string ⟨#[49]⟩, .string ⟨#[52]⟩]) ∧ Grown w w' := fun w hw => by
    have h := lof_any 1 4 w (by omega) (by omega) (by omega) (by omega) hw
    rw [of_14] at h
    exact h
  have Hof_14 := Lib.hid hof_14
  clear hof_14
  have ht : ∀ w, Pow10 w → Calls Tryz.prog 21 #[.agg #[.string ⟨#[45, 49]⟩, .string ⟨#[49]⟩, .string ⟨#[50]⟩, .string ⟨#[49]⟩], .agg #[.string ⟨#[51]⟩, .string ⟨#[49]⟩, .string ⟨#[52]⟩, .string ⟨#[49]⟩]] w fun e w' => e = .returned (.tuple #[.agg #[.string ⟨#[45, 52]⟩, .string ⟨#[49]⟩, .string ⟨#[56]⟩, .string ⟨#[49]⟩], .int .i64 0]) ∧ Grown w w' := fun w hw => by
    have h := Range_mul [45, 49] [49] [50] [49] [51] [49] [52] [49] w (lens9 _ _ _ _ (by decide)) (lens9 _ _ _ _ (by decide)) hw
    rw [ex_times] at h
    exact h
  have ho : ∀ w, Pow10 w → Calls Tryz.prog 23 #[.agg #[.string ⟨#[49]⟩, .string ⟨#[49]⟩, .string ⟨#[50]⟩, .string ⟨#[49]⟩], .agg #[.string ⟨#[45, 49]⟩, .string ⟨#[49]⟩, .string ⟨#[49]⟩, .string ⟨#[49]⟩]] w fun e w' => e = .returned (.tuple #[.agg #[.string ⟨#[]⟩, .string ⟨#[]⟩, .string ⟨#[]⟩, .string ⟨#[]⟩], .int .i64 20]) ∧ Grown w w' := fun w hw => by
    have h := Over_any [49] [49] [50] [49] [45, 49] [49] [49] [49] w (lens9 _ _ _ _ (by decide)) (lens9 _ _ _ _ (by decide)) hw
    rw [ex_over] at h
    exact h
  have hu : ∀ w, Pow10 w → Calls Tryz.prog 37 #[.agg #[.string ⟨#[49]⟩, .string ⟨#[51]⟩, .string ⟨#[53]⟩, .string ⟨#[51]⟩], .agg #[.string ⟨#[49]⟩, .string ⟨#[50]⟩]] w fun e w' => e = .returned (.tuple #[.agg #[.string ⟨#[48]⟩, .string ⟨#[49]⟩, .string ⟨#[50]⟩, .string ⟨#[49]⟩], .int .i64 0]) ∧ Grown w w' := fun w hw => by
    have h := Outer_any [49] [51] [53] [51] [49] [50] w (lens9 _ _ _ _ (by decide)) (lens1 _ (by decide)) (lens1 _ (by decide)) hw
    rw [ex_outer] at h
    exact h
  have HT := Lib.hid ht
  have HO := Lib.hid ho
  have HU := Lib.hid hu
  clear ht ho hu
  go_enter Tryz.func16, Tryz.ntmps16
  go_wp2_with (first | (go_at_call 70; ((with_reducible refine (Hof_m1.out _ ?_).mono ?_); (exact HPOW.out.grown (by with_reducible repeat (first | exact Grown.refl _ | apply Grown.more | apply Grown.alloc | apply Grown.drewN | apply Grown.drew))); rintro e w' ⟨rfl, oof_m1, cof_m1, rfl⟩)) | (go_at_call 70; ((with_reducible refine (Hof_2.out _ ?_).mono ?_); (exact HPOW.out.grown (by with_reducible repeat (first | exact Grown.refl _ | apply Grown.more | apply Grown.alloc | apply Grown.drewN | apply Grown.drew))); rintro e w' ⟨rfl, oof_2, cof_2, rfl⟩)) | (go_at_call 70; ((with_reducible refine (Hof_3.out _ ?_).mono ?_); (exact HPOW.out.grown (by with_reducible repeat (first | exact Grown.refl _ | apply Grown.more | apply Grown.alloc | apply Grown.drewN | apply Grown.drew))); rintro e w' ⟨rfl, oof_3, cof_3, rfl⟩)) | (go_at_call 70; ((with_reducible refine (Hof_4.out _ ?_).mono ?_); (exact HPOW.out.grown (by with_reducible repeat (first | exact Grown.refl _ | apply Grown.more | apply Grown.alloc | apply Grown.drewN | apply Grown.drew))); rintro e w' ⟨rfl, oof_4, cof_4, rfl⟩)) | (go_at_call 70; ((with_reducible refine (Hof_1.out _ ?_).mono ?_); (exact HPOW.out.grown (by with_reducible repeat (first | exact Grown.refl _ | apply Grown.more | apply Grown.alloc | apply Grown.drewN | apply Grown.drew))); rintro e w' ⟨rfl, oof_1, cof_1, rfl⟩)) | (go_at_call 70; ((with_reducible refine (Hof_13.out _ ?_).mono ?_); (exact HPOW.out.grown (by with_reducible repeat (first | exact Grown.refl _ | apply Grown.more | apply Grown.alloc | apply Grown.drewN | apply Grown.drew))); rintro e w' ⟨rfl, oof_13, cof_13, rfl⟩)) | (go_at_call 70; ((with_reducible refine (Hof_53.out _ ?_).mono ?_); (exact HPOW.out.grown (by with_reducible repeat (first | exact Grown.refl _ | apply Grown.more | apply Grown.alloc | apply Grown.drewN | apply Grown.drew))); rintro e w' ⟨rfl, oof_53, cof_53, rfl⟩)) | (go_at_call 70; ((with_reducible refine (Hof_12.out _ ?_).mono ?_); (exact HPOW.out.grown (by with_reducible repeat (first | exact Grown.refl _ | apply Grown.more | apply Grown.alloc | apply Grown.drewN | apply Grown.drew))); rintro e w' ⟨rfl, oof_12, cof_12, rfl⟩)) | (go_at_call 70; ((with_reducible refine (Hof_14.out _ ?_).mono ?_); (exact HPOW.out.grown (by with_reducible repeat (first | exact Grown.refl _ | apply Grown.more | apply Grown.alloc | apply Grown.drewN | apply Grown.drew))); rintro e w' ⟨rfl, oof_14, cof_14, rfl⟩)) | (go_at_call 21; ((with_reducible refine (HT.out _ ?_).mono ?_); (exact HPOW.out.grown (by with_reducible repeat (first | exact Grown.refl _ | apply Grown.more | apply Grown.alloc | apply Grown.drewN | apply Grown.drew))); rintro e w' ⟨rfl, oHT, cHT, rfl⟩)) | (go_at_call 23; ((with_reducible refine (HO.out _ ?_).mono ?_); (exact HPOW.out.grown (by with_reducible repeat (first | exact Grown.refl _ | apply Grown.more | apply Grown.alloc | apply Grown.drewN | apply Grown.drew))); rintro e w' ⟨rfl, oHO, cHO, rfl⟩)) | (go_at_call 37; ((with_reducible refine (HU.out _ ?_).mono ?_); (exact HPOW.out.grown (by with_reducible repeat (first | exact Grown.refl _ | apply Grown.more | apply Grown.alloc | apply Grown.drewN | apply Grown.drew))); rintro e w' ⟨rfl, oHU, cHU, rfl⟩)))
  refine (AppA _ _ _ ?_ ?_ ?_ ?_).mono ?_
  · go_simp
  · refine three ?_ ?_ ?_
    · go_simp
      rfl
    · go_simp
      rfl
    · go_simp
      rfl
  · refine three ?_ ?_ ?_
    · go_simp
      rfl
    · go_simp
      rfl
    · go_simp
      rfl
  · exact HPOW.out.grown (by with_reducible repeat (first | exact Grown.refl _ | apply Grown.more | apply Grown.alloc | apply Grown.drewN | apply Grown.drew))
  rintro e w' ⟨gA, rfl, ⟨oA, cA, rfl⟩, hgA, hgA2, hcA⟩
  have HCA := Lib.hid hcA
  have HGA := Lib.hid hgA
  clear hcA hgA hgA2
  go_wp2_with (first | (go_at_call 70; ((with_reducible refine (Hof_m1.out _ ?_).mono ?_); (exact HPOW.out.grown (by with_reducible repeat (first | exact Grown.refl _ | apply Grown.more | apply Grown.alloc | apply Grown.drewN | apply Grown.drew))); rintro e w' ⟨rfl, oof_m1, cof_m1, rfl⟩)) | (go_at_call 70; ((with_reducible refine (Hof_2.out _ ?_).mono ?_); (exact HPOW.out.grown (by with_reducible repeat (first | exact Grown.refl _ | apply Grown.more | apply Grown.alloc | apply Grown.drewN | apply Grown.drew))); rintro e w' ⟨rfl, oof_2, cof_2, rfl⟩)) | (go_at_call 70; ((with_reducible refine (Hof_3.out _ ?_).mono ?_); (exact HPOW.out.grown (by with_reducible repeat (first | exact Grown.refl _ | apply Grown.more | apply Grown.alloc | apply Grown.drewN | apply Grown.drew))); rintro e w' ⟨rfl, oof_3, cof_3, rfl⟩)) | (go_at_call 70; ((with_reducible refine (Hof_4.out _ ?_).mono ?_); (exact HPOW.out.grown (by with_reducible repeat (first | exact Grown.refl _ | apply Grown.more | apply Grown.alloc | apply Grown.drewN | apply Grown.drew))); rintro e w' ⟨rfl, oof_4, cof_4, rfl⟩)) | (go_at_call 70; ((with_reducible refine (Hof_1.out _ ?_).mono ?_); (exact HPOW.out.grown (by with_reducible repeat (first | exact Grown.refl _ | apply Grown.more | apply Grown.alloc | apply Grown.drewN | apply Grown.drew))); rintro e w' ⟨rfl, oof_1, cof_1, rfl⟩)) | (go_at_call 70; ((with_reducible refine (Hof_13.out _ ?_).mono ?_); (exact HPOW.out.grown (by with_reducible repeat (first | exact Grown.refl _ | apply Grown.more | apply Grown.alloc | apply Grown.drewN | apply Grown.drew))); rintro e w' ⟨rfl, oof_13, cof_13, rfl⟩)) | (go_at_call 70; ((with_reducible refine (Hof_53.out _ ?_).mono ?_); (exact HPOW.out.grown (by with_reducible repeat (first | exact Grown.refl _ | apply Grown.more | apply Grown.alloc | apply Grown.drewN | apply Grown.drew))); rintro e w' ⟨rfl, oof_53, cof_53, rfl⟩)) | (go_at_call 70; ((with_reducible refine (Hof_12.out _ ?_).mono ?_); (exact HPOW.out.grown (by with_reducible repeat (first | exact Grown.refl _ | apply Grown.more | apply Grown.alloc | apply Grown.drewN | apply Grown.drew))); rintro e w' ⟨rfl, oof_12, cof_12, rfl⟩)) | (go_at_call 70; ((with_reducible refine (Hof_14.out _ ?_).mono ?_); (exact HPOW.out.grown (by with_reducible repeat (first | exact Grown.refl _ | apply Grown.more | apply Grown.alloc | apply Grown.drewN | apply Grown.drew))); rintro e w' ⟨rfl, oof_14, cof_14, rfl⟩)) | (go_at_call 21; ((with_reducible refine (HT.out _ ?_).mono ?_); (exact HPOW.out.grown (by with_reducible repeat (first | exact Grown.refl _ | apply Grown.more | apply Grown.alloc | apply Grown.drewN | apply Grown.drew))); rintro e w' ⟨rfl, oHT, cHT, rfl⟩)) | (go_at_call 23; ((with_reducible refine (HO.out _ ?_).mono ?_); (exact HPOW.out.grown (by with_reducible repeat (first | exact Grown.refl _ | apply Grown.more | apply Grown.alloc | apply Grown.drewN | apply Grown.drew))); rintro e w' ⟨rfl, oHO, cHO, rfl⟩)) | (go_at_call 37; ((with_reducible refine (HU.out _ ?_).mono ?_); (exact HPOW.out.grown (by with_reducible repeat (first | exact Grown.refl _ | apply Grown.more | apply Grown.alloc | apply Grown.drewN | apply Grown.drew))); rintro e w' ⟨rfl, oHU, cHU, rfl⟩)))
  refine (AppB _ _ _ ?_ ?_ ?_ ?_).mono ?_
  · go_simp
  · refine three ?_ ?_ ?_
    · go_simp
      rfl
    · go_simp
      rfl
    · go_simp
      rfl
  · refine three ?_ ?_ ?_
    · go_simp
      rfl
    · go_simp
      rfl
    · go_simp
      rfl
  · exact HPOW.out.grown (by with_reducible repeat (first | exact Grown.refl _ | apply Grown.more | apply Grown.alloc | apply Grown.drewN | apply Grown.drew))
  rintro e w' ⟨gB, rfl, ⟨oB, cB, rfl⟩, hgB, hgB2, hcB⟩
  have HCB := Lib.hid hcB
  have HGB := Lib.hid hgB
  clear hcB hgB hgB2
  go_wp2_with (first | (go_at_call 72; ((with_reducible refine (lis_yes ⟨#[45, 52]⟩ ⟨#[49]⟩ _).mono ?_); rintro e w' ⟨rfl, oi0, ci0, rfl⟩)) | (go_at_call 72; ((with_reducible refine (lis_yes ⟨#[56]⟩ ⟨#[49]⟩ _).mono ?_); rintro e w' ⟨rfl, oi1, ci1, rfl⟩)) | (go_at_call 72; ((with_reducible refine (lis_yes ⟨#[48]⟩ ⟨#[49]⟩ _).mono ?_); rintro e w' ⟨rfl, oi2, ci2, rfl⟩)) | (go_at_call 72; ((with_reducible refine (lis_yes ⟨#[50]⟩ ⟨#[49]⟩ _).mono ?_); rintro e w' ⟨rfl, oi3, ci3, rfl⟩)))
  refine (SameInts_yes nA gA _ 3 _ _ _ (by omega) ?_ ?_).mono ?_
  · intro i hi
    exact cell_of_grown (by with_reducible repeat (first | exact Grown.refl _ | exact Grown.app _ _ _ _ _ | apply Grown.alloc | apply Grown.drewN | apply Grown.drew | apply Grown.more)) HGA.out.lt (HCA.out i hi)
  · refine three ?_ ?_ ?_
    · go_simp
      rfl
    · go_simp
      rfl
    · go_simp
      rfl
  rintro e w' ⟨rfl, oS, cS, rfl⟩
  go_wp2_with fail
  refine (SameInts_yes nB gB _ 3 _ _ _ (by omega) ?_ ?_).mono ?_
  · intro i hi
    exact cell_of_grown (by with_reducible repeat (first | exact Grown.refl _ | exact Grown.app _ _ _ _ _ | apply Grown.alloc | apply Grown.drewN | apply Grown.drew | apply Grown.more)) HGB.out.lt (HCB.out i hi)
  · refine three ?_ ?_ ?_
    · go_simp
      rfl
    · go_simp
      rfl
    · go_simp
      rfl
  rintro e w' ⟨rfl, oT, cT, rfl⟩
  go_wp2_with fail
  go_ret
  exact ⟨rfl, (by with_reducible repeat (first | exact Grown.refl _ | apply Grown.more | apply Grown.alloc | apply Grown.drewN | apply Grown.drew))⟩
end Go.Proofs.YtnohidkmjclojaaGreatDoor
