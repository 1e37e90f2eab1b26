/- Walks: the law ExactAttains. (under way) -/
import Derived.Test.YtnohidkmjclojaaGreatDoorLawE
import Derived.Test.YtnohidkmjclojaaGreatDoorLawH
import Derived.Test.YtnohidkmjclojaaGreatDoorKitO
import Derived.Deep.DeepCutAuto
namespace Go.Proofs.YtnohidkmjclojaaGreatDoor
set_option linter.unusedVariables false
set_option linter.unusedSimpArgs false
open Go.RowKit

set_option maxRecDepth 100000 in
set_option maxHeartbeats 2000000 in
theorem attains_no (r1 r2 r3 r4 s1 s2 s3 s4 : ByteArray) (b1 b2 : Bool) (w : World) (hb : (b1 && b2) = false)
    (P1 : Hid (∀ w, Calls Tryz.prog 25 #[.agg #[.string r1, .string r2, .string r3, .string r4]] w fun e w' => e = .returned (.bool b1) ∧ Grown w w'))
    (P2 : Hid (∀ w, Calls Tryz.prog 25 #[.agg #[.string s1, .string s2, .string s3, .string s4]] w fun e w' => e = .returned (.bool b2) ∧ Grown w w'))
    (SP : Hid (∀ w, Pow10 w → Calls Tryz.prog 16 #[] w fun e w' => e = .returned (.bool true) ∧ Grown w w'))
    (HPOW : Hid (Pow10 w)) :
    Calls Tryz.prog 4 #[.agg #[.string r1, .string r2, .string r3, .string r4], .agg #[.string s1, .string s2, .string s3, .string s4]] w fun e w' => e = .returned (.bool true) ∧ Grown w w' := by
  cases b1 <;> cases b2 <;> first | (exact absurd hb (by decide)) | skip
  all_goals
    clear hb
    go_enter Tryz.func4, Tryz.ntmps4
    go_wp2_with (first | (go_at_call 25; ((with_reducible refine (P1.out _).mono ?_); rintro e w' ⟨rfl, oP1, cP1, rfl⟩)) | (go_at_call 25; ((with_reducible refine (P2.out _).mono ?_); rintro e w' ⟨rfl, oP2, cP2, rfl⟩)) | (go_at_call 16; ((with_reducible refine (SP.out _ ?_).mono ?_); (exact HPOW.out.grown (by with_reducible repeat (first | exact Grown.refl _ | apply Grown.more | apply Grown.alloc | apply Grown.drewN | apply Grown.drew))); rintro e w' ⟨rfl, oSP, cSP, rfl⟩)))
    go_ret
    exact ⟨rfl, (by with_reducible repeat (first | exact Grown.refl _ | apply Grown.more | apply Grown.alloc | apply Grown.drewN | apply Grown.drew))⟩

set_option maxRecDepth 100000 in
set_option maxHeartbeats 40000000 in
theorem attains_x (r1 r2 r3 r4 s1 s2 s3 s4 p1 p2 p3 p4 m1 m2 m3 m4 t1 t2 t3 t4 o1 o2 o3 o4 : ByteArray) (ep em et eo : Int) (xn xd yn yd an ad dn dd vn vd qn qd : Nat → ByteArray) (ae de ve qe : Nat → Int) (w : World)
    (P1 : Hid (∀ w, Calls Tryz.prog 25 #[.agg #[.string r1, .string r2, .string r3, .string r4]] w fun e w' => e = .returned (.bool true) ∧ Grown w w'))
    (P2 : Hid (∀ w, Calls Tryz.prog 25 #[.agg #[.string s1, .string s2, .string s3, .string s4]] w fun e w' => e = .returned (.bool true) ∧ Grown w w'))
    (SP : Hid (∀ w, Pow10 w → Calls Tryz.prog 16 #[] w fun e w' => e = .returned (.bool true) ∧ Grown w w'))
    (HP : Hid (∀ w, Pow10 w → Calls Tryz.prog 17 #[.agg #[.string r1, .string r2, .string r3, .string r4], .agg #[.string s1, .string s2, .string s3, .string s4]] w fun e w' => e = .returned (.tuple #[.agg #[.string p1, .string p2, .string p3, .string p4], .int .i64 ep]) ∧ Grown w w'))
    (HN : Hid (∀ w, Pow10 w → Calls Tryz.prog 19 #[.agg #[.string r1, .string r2, .string r3, .string r4], .agg #[.string s1, .string s2, .string s3, .string s4]] w fun e w' => e = .returned (.tuple #[.agg #[.string m1, .string m2, .string m3, .string m4], .int .i64 em]) ∧ Grown w w'))
    (HT : Hid (∀ w, Pow10 w → Calls Tryz.prog 21 #[.agg #[.string r1, .string r2, .string r3, .string r4], .agg #[.string s1, .string s2, .string s3, .string s4]] w fun e w' => e = .returned (.tuple #[.agg #[.string t1, .string t2, .string t3, .string t4], .int .i64 et]) ∧ Grown w w'))
    (HO : Hid (∀ w, Pow10 w → Calls Tryz.prog 23 #[.agg #[.string r1, .string r2, .string r3, .string r4], .agg #[.string s1, .string s2, .string s3, .string s4]] w fun e w' => e = .returned (.tuple #[.agg #[.string o1, .string o2, .string o3, .string o4], .int .i64 eo]) ∧ Grown w w'))
    (KA : Hid (∀ k, k < 4 → ∀ w, Pow10 w → Calls Tryz.prog 27 #[.agg #[.string (xn (k / 2)), .string (xd (k / 2))], .agg #[.string (yn (k % 2)), .string (yd (k % 2))]] w fun e w' => e = .returned (.tuple #[.agg #[.string (an k), .string (ad k)], .int .i64 (ae k)]) ∧ Grown w w'))
    (KS : Hid (∀ k, k < 4 → ∀ w, Pow10 w → Calls Tryz.prog 28 #[.agg #[.string (xn (k / 2)), .string (xd (k / 2))], .agg #[.string (yn (k % 2)), .string (yd (k % 2))]] w fun e w' => e = .returned (.tuple #[.agg #[.string (dn k), .string (dd k)], .int .i64 (de k)]) ∧ Grown w w'))
    (KM : Hid (∀ k, k < 4 → ∀ w, Pow10 w → Calls Tryz.prog 29 #[.agg #[.string (xn (k / 2)), .string (xd (k / 2))], .agg #[.string (yn (k % 2)), .string (yd (k % 2))]] w fun e w' => e = .returned (.tuple #[.agg #[.string (vn k), .string (vd k)], .int .i64 (ve k)]) ∧ Grown w w'))
    (KQ : Hid (∀ k, k < 4 → ∀ w, Pow10 w → Calls Tryz.prog 30 #[.agg #[.string (xn (k / 2)), .string (xd (k / 2))], .agg #[.string (yn (k % 2)), .string (yd (k % 2))]] w fun e w' => e = .returned (.tuple #[.agg #[.string (qn k), .string (qd k)], .int .i64 (qe k)]) ∧ Grown w w'))
    (Ep : Hid (∀ w' g cap, InW g w' → (∀ i, i < 4 → w'.cell? ⟨g, i * 2, none⟩ = some (.string (an i)) ∧ w'.cell? ⟨g, i * 2 + 1, none⟩ = some (.string (ad i))) → Calls Tryz.prog 31 #[.agg #[.string p1, .string p2, .string p3, .string p4], .int .i64 ep, .slice (some ⟨g, 0, none⟩) 4 cap] w' fun e w'' => e = .returned (.bool true) ∧ Grown w' w''))
    (Em : Hid (∀ w' g cap, InW g w' → (∀ i, i < 4 → w'.cell? ⟨g, i * 2, none⟩ = some (.string (dn i)) ∧ w'.cell? ⟨g, i * 2 + 1, none⟩ = some (.string (dd i))) → Calls Tryz.prog 31 #[.agg #[.string m1, .string m2, .string m3, .string m4], .int .i64 em, .slice (some ⟨g, 0, none⟩) 4 cap] w' fun e w'' => e = .returned (.bool true) ∧ Grown w' w''))
    (Et : Hid (∀ w' g cap, InW g w' → (∀ i, i < 4 → w'.cell? ⟨g, i * 2, none⟩ = some (.string (vn i)) ∧ w'.cell? ⟨g, i * 2 + 1, none⟩ = some (.string (vd i))) → Calls Tryz.prog 31 #[.agg #[.string t1, .string t2, .string t3, .string t4], .int .i64 et, .slice (some ⟨g, 0, none⟩) 4 cap] w' fun e w'' => e = .returned (.bool true) ∧ Grown w' w''))
    (Eo : Hid (∀ w' g cap, InW g w' → (∀ i, i < 4 → w'.cell? ⟨g, i * 2, none⟩ = some (.string (qn i)) ∧ w'.cell? ⟨g, i * 2 + 1, none⟩ = some (.string (qd i))) → Calls Tryz.prog 31 #[.agg #[.string o1, .string o2, .string o3, .string o4], .int .i64 eo, .slice (some ⟨g, 0, none⟩) 4 cap] w' fun e w'' => e = .returned (.bool true) ∧ Grown w' w''))
    (hx : xn 0 = r1 ∧ xd 0 = r2 ∧ xn 1 = r3 ∧ xd 1 = r4) (hy : yn 0 = s1 ∧ yd 0 = s2 ∧ yn 1 = s3 ∧ yd 1 = s4)
    (HPOW : Hid (Pow10 w)) :
    Calls Tryz.prog 4 #[.agg #[.string r1, .string r2, .string r3, .string r4], .agg #[.string s1, .string s2, .string s3, .string s4]] w fun e w' => e = .returned (.bool true) ∧ Grown w w' := by
  have HX := Lib.hid hx
  have HY := Lib.hid hy
  clear hx hy
  go_enter Tryz.func4, Tryz.ntmps4
  go_wp2_with (first | (go_at_call 25; ((with_reducible refine (P1.out _).mono ?_); rintro e w' ⟨rfl, oP1, cP1, rfl⟩)) | (go_at_call 25; ((with_reducible refine (P2.out _).mono ?_); rintro e w' ⟨rfl, oP2, cP2, rfl⟩)) | (go_at_call 17; ((with_reducible refine (HP.out _ ?_).mono ?_); (exact HPOW.out.grown (by with_reducible repeat (first | exact Grown.refl _ | apply Grown.more | apply Grown.alloc | apply Grown.drewN | apply Grown.drew))); rintro e w' ⟨rfl, oHP, cHP, rfl⟩)) | (go_at_call 19; ((with_reducible refine (HN.out _ ?_).mono ?_); (exact HPOW.out.grown (by with_reducible repeat (first | exact Grown.refl _ | apply Grown.more | apply Grown.alloc | apply Grown.drewN | apply Grown.drew))); rintro e w' ⟨rfl, oHN, cHN, rfl⟩)) | (go_at_call 21; ((with_reducible refine (HT.out _ ?_).mono ?_); (exact HPOW.out.grown (by with_reducible repeat (first | exact Grown.refl _ | apply Grown.more | apply Grown.alloc | apply Grown.drewN | apply Grown.drew))); rintro e w' ⟨rfl, oHT, cHT, rfl⟩)) | (go_at_call 23; ((with_reducible refine (HO.out _ ?_).mono ?_); (exact HPOW.out.grown (by with_reducible repeat (first | exact Grown.refl _ | apply Grown.more | apply Grown.alloc | apply Grown.drewN | apply Grown.drew))); rintro e w' ⟨rfl, oHO, cHO, rfl⟩)))
  obtain ⟨W0, hW0⟩ : ∃ W0 : World, W0 = (grow ((grow ((grow ((grow (((grow ((w.alloc (Obj.cells #[Value.string r1, Value.string r2, Value.string r3, Value.string r4] 25)).alloc (Obj.cells #[Value.string s1, Value.string s2, Value.string s3, Value.string s4] 25)) (oP1 ++ oP2) cP2).alloc (Obj.cells #[Value.string r1, Value.string r2, Value.string r3, Value.string r4] 23)).alloc (Obj.cells #[Value.string s1, Value.string s2, Value.string s3, Value.string s4] 23)) oHP cHP).alloc (Obj.cells #[Value.string p1, Value.string p2, Value.string p3, Value.string p4] 25)) oHN cHN).alloc (Obj.cells #[Value.string m1, Value.string m2, Value.string m3, Value.string m4] 25)) oHT cHT).alloc (Obj.cells #[Value.string t1, Value.string t2, Value.string t3, Value.string t4] 25)) oHO cHO).alloc (Obj.cells #[Value.string o1, Value.string o2, Value.string o3, Value.string o4] 25) := ⟨_, rfl⟩
  rw [← hW0]
  have hpow0 : Pow10 W0 := by rw [hW0]; exact HPOW.out.grown (by with_reducible repeat (first | exact Grown.refl _ | apply Grown.more | apply Grown.alloc | apply Grown.drewN | apply Grown.drew))
  have hgW0 : Grown w W0 := by rw [hW0]; exact (by with_reducible repeat (first | exact Grown.refl _ | apply Grown.more | apply Grown.alloc | apply Grown.drewN | apply Grown.drew))
  have fx0 : W0.cell? ⟨w.heap.size + 1 + 1 + (oP1.size + oP2.size), 0, none⟩ = some (.string r1) := by rw [hW0]; go_simp
  have fx1 : W0.cell? ⟨w.heap.size + 1 + 1 + (oP1.size + oP2.size), 1, none⟩ = some (.string r2) := by rw [hW0]; go_simp
  have fx2 : W0.cell? ⟨w.heap.size + 1 + 1 + (oP1.size + oP2.size), 2, none⟩ = some (.string r3) := by rw [hW0]; go_simp
  have fx3 : W0.cell? ⟨w.heap.size + 1 + 1 + (oP1.size + oP2.size), 3, none⟩ = some (.string r4) := by rw [hW0]; go_simp
  have fy0 : W0.cell? ⟨w.heap.size + 1 + 1 + (oP1.size + oP2.size) + 1, 0, none⟩ = some (.string s1) := by rw [hW0]; go_simp
  have fy1 : W0.cell? ⟨w.heap.size + 1 + 1 + (oP1.size + oP2.size) + 1, 1, none⟩ = some (.string s2) := by rw [hW0]; go_simp
  have fy2 : W0.cell? ⟨w.heap.size + 1 + 1 + (oP1.size + oP2.size) + 1, 2, none⟩ = some (.string s3) := by rw [hW0]; go_simp
  have fy3 : W0.cell? ⟨w.heap.size + 1 + 1 + (oP1.size + oP2.size) + 1, 3, none⟩ = some (.string s4) := by rw [hW0]; go_simp
  have FX0 := Lib.hid fx0
  clear fx0
  have FX1 := Lib.hid fx1
  clear fx1
  have FX2 := Lib.hid fx2
  clear fx2
  have FX3 := Lib.hid fx3
  clear fx3
  have FY0 := Lib.hid fy0
  clear fy0
  have FY1 := Lib.hid fy1
  clear fy1
  have FY2 := Lib.hid fy2
  clear fy2
  have FY3 := Lib.hid fy3
  clear fy3
  have fp0 : W0.cell? ⟨w.heap.size + 1 + 1 + (oP1.size + oP2.size) + 1 + 1 + oHP.size, 0, none⟩ = some (.string p1) := by rw [hW0]; go_simp
  have FPP0 := Lib.hid fp0
  clear fp0
  have fp1 : W0.cell? ⟨w.heap.size + 1 + 1 + (oP1.size + oP2.size) + 1 + 1 + oHP.size, 1, none⟩ = some (.string p2) := by rw [hW0]; go_simp
  have FPP1 := Lib.hid fp1
  clear fp1
  have fp2 : W0.cell? ⟨w.heap.size + 1 + 1 + (oP1.size + oP2.size) + 1 + 1 + oHP.size, 2, none⟩ = some (.string p3) := by rw [hW0]; go_simp
  have FPP2 := Lib.hid fp2
  clear fp2
  have fp3 : W0.cell? ⟨w.heap.size + 1 + 1 + (oP1.size + oP2.size) + 1 + 1 + oHP.size, 3, none⟩ = some (.string p4) := by rw [hW0]; go_simp
  have FPP3 := Lib.hid fp3
  clear fp3
  have fm0 : W0.cell? ⟨w.heap.size + 1 + 1 + (oP1.size + oP2.size) + 1 + 1 + oHP.size + 1 + oHN.size, 0, none⟩ = some (.string m1) := by rw [hW0]; go_simp
  have FMM0 := Lib.hid fm0
  clear fm0
  have fm1 : W0.cell? ⟨w.heap.size + 1 + 1 + (oP1.size + oP2.size) + 1 + 1 + oHP.size + 1 + oHN.size, 1, none⟩ = some (.string m2) := by rw [hW0]; go_simp
  have FMM1 := Lib.hid fm1
  clear fm1
  have fm2 : W0.cell? ⟨w.heap.size + 1 + 1 + (oP1.size + oP2.size) + 1 + 1 + oHP.size + 1 + oHN.size, 2, none⟩ = some (.string m3) := by rw [hW0]; go_simp
  have FMM2 := Lib.hid fm2
  clear fm2
  have fm3 : W0.cell? ⟨w.heap.size + 1 + 1 + (oP1.size + oP2.size) + 1 + 1 + oHP.size + 1 + oHN.size, 3, none⟩ = some (.string m4) := by rw [hW0]; go_simp
  have FMM3 := Lib.hid fm3
  clear fm3
  have ft0 : W0.cell? ⟨w.heap.size + 1 + 1 + (oP1.size + oP2.size) + 1 + 1 + oHP.size + 1 + oHN.size + 1 + oHT.size, 0, none⟩ = some (.string t1) := by rw [hW0]; go_simp
  have FTT0 := Lib.hid ft0
  clear ft0
  have ft1 : W0.cell? ⟨w.heap.size + 1 + 1 + (oP1.size + oP2.size) + 1 + 1 + oHP.size + 1 + oHN.size + 1 + oHT.size, 1, none⟩ = some (.string t2) := by rw [hW0]; go_simp
  have FTT1 := Lib.hid ft1
  clear ft1
  have ft2 : W0.cell? ⟨w.heap.size + 1 + 1 + (oP1.size + oP2.size) + 1 + 1 + oHP.size + 1 + oHN.size + 1 + oHT.size, 2, none⟩ = some (.string t3) := by rw [hW0]; go_simp
  have FTT2 := Lib.hid ft2
  clear ft2
  have ft3 : W0.cell? ⟨w.heap.size + 1 + 1 + (oP1.size + oP2.size) + 1 + 1 + oHP.size + 1 + oHN.size + 1 + oHT.size, 3, none⟩ = some (.string t4) := by rw [hW0]; go_simp
  have FTT3 := Lib.hid ft3
  clear ft3
  have fo0 : W0.cell? ⟨w.heap.size + 1 + 1 + (oP1.size + oP2.size) + 1 + 1 + oHP.size + 1 + oHN.size + 1 + oHT.size + 1 + oHO.size, 0, none⟩ = some (.string o1) := by rw [hW0]; go_simp
  have FOO0 := Lib.hid fo0
  clear fo0
  have fo1 : W0.cell? ⟨w.heap.size + 1 + 1 + (oP1.size + oP2.size) + 1 + 1 + oHP.size + 1 + oHN.size + 1 + oHT.size + 1 + oHO.size, 1, none⟩ = some (.string o2) := by rw [hW0]; go_simp
  have FOO1 := Lib.hid fo1
  clear fo1
  have fo2 : W0.cell? ⟨w.heap.size + 1 + 1 + (oP1.size + oP2.size) + 1 + 1 + oHP.size + 1 + oHN.size + 1 + oHT.size + 1 + oHO.size, 2, none⟩ = some (.string o3) := by rw [hW0]; go_simp
  have FOO2 := Lib.hid fo2
  clear fo2
  have fo3 : W0.cell? ⟨w.heap.size + 1 + 1 + (oP1.size + oP2.size) + 1 + 1 + oHP.size + 1 + oHN.size + 1 + oHT.size + 1 + oHO.size, 3, none⟩ = some (.string o4) := by rw [hW0]; go_simp
  have FOO3 := Lib.hid fo3
  clear fo3
  have HP0 := Lib.hid hpow0
  have HGW0 := Lib.hid hgW0
  have HW0 := Lib.hid hW0
  clear hpow0 hgW0 hW0
  obtain ⟨iv, hiv, hi2, hi32, hi0⟩ := infoRat
  have HI := Lib.hid hiv
  have HI2 := Lib.hid hi2
  have HI32 := Lib.hid hi32
  have HI0 := Lib.hid hi0
  clear hiv hi2 hi32 hi0
  go_loopw [15, 16, 17, 18, 19] (fun u1 u2 u3 u4 kv wr => ∃ (k : Nat), kv = .int .i64 k ∧ k ≤ 4 ∧ Own4 W0 wr u1 u2 u3 u4 k k k k (rowsR an ad k) (rowsR dn dd k) (rowsR vn vd k) (rowsR qn qd k)) (fun _ _ _ _ kv _ => 4 - (intOf kv).toNat)
  case atStart => exact ⟨0, rfl, by omega, Own4.nil W0 W0 (Grown.refl _)⟩
  case round =>
    obtain ⟨k, rfl, hk, hown⟩ := hrel
    have HOWN := Lib.hid hown
    clear hown
    by_cases hk4 : k < 4
    · have hkk : k = 0 ∨ k = 1 ∨ k = 2 ∨ k = 3 := by omega
      rcases hkk with rfl | rfl | rfl | rfl
      · as_aux_lemma =>
        obtain ⟨wv0, rfl⟩ : ∃ x : World, x = wr := ⟨_, rfl⟩
        have x0 := cell_of_grown HOWN.out.g (World.block_lt_of_cell? W0 _ FX0.out) FX0.out
        have x1 := cell_of_grown HOWN.out.g (World.block_lt_of_cell? W0 _ FX1.out) FX1.out
        have y0 := cell_of_grown HOWN.out.g (World.block_lt_of_cell? W0 _ FY0.out) FY0.out
        have y1 := cell_of_grown HOWN.out.g (World.block_lt_of_cell? W0 _ FY1.out) FY1.out
        have ka := KA.out 0 (by omega)
        rw [show (0 / 2) = 0 from rfl, show (0 % 2) = 0 from rfl, HX.out.1, HX.out.2.1, HY.out.1, HY.out.2.1] at ka
        have ka' := Lib.hid ka
        clear ka
        have ks := KS.out 0 (by omega)
        rw [show (0 / 2) = 0 from rfl, show (0 % 2) = 0 from rfl, HX.out.1, HX.out.2.1, HY.out.1, HY.out.2.1] at ks
        have ks' := Lib.hid ks
        clear ks
        have km := KM.out 0 (by omega)
        rw [show (0 / 2) = 0 from rfl, show (0 % 2) = 0 from rfl, HX.out.1, HX.out.2.1, HY.out.1, HY.out.2.1] at km
        have km' := Lib.hid km
        clear km
        have kq := KQ.out 0 (by omega)
        rw [show (0 / 2) = 0 from rfl, show (0 % 2) = 0 from rfl, HX.out.1, HX.out.2.1, HY.out.1, HY.out.2.1] at kq
        have kq' := Lib.hid kq
        clear kq
        rw [show ((0 : Nat) : Int) = 0 from rfl]
        have inx : InW (w.heap.size + 1 + 1 + (oP1.size + oP2.size)) wv0 := World.block_lt_of_cell? wv0 _ x0
        have iny : InW (w.heap.size + 1 + 1 + (oP1.size + oP2.size) + 1) wv0 := World.block_lt_of_cell? wv0 _ y0
        have HO1 := Lib.hid HOWN.out
        have own0 := HOWN.out
        have OWN0 := Lib.hid own0
        clear own0 HO1
        have hw1 : IntKind.i64.wrap (Int.tdiv 0 2) = 0 := by decide
        have hw2 : IntKind.i64.wrap (Int.tmod 0 2) = 0 := by decide
        have hw3 : IntKind.i64.wrap 0 = 0 := by decide
        have hw4 : IntKind.i64.wrap 1 = 1 := by decide
        go_upto_region 16 with fail
        go_cut [20, 21] (fun sa sb wx => ∃ g : Nat, sa = .pointer (some ⟨g, 0, none⟩) ∧ sb = .int .i64 (ae 0) ∧ Grown wv0 wx ∧ InW g wx ∧ wv0.heap.size ≤ g ∧ wx.cell? ⟨g, 0, none⟩ = some (.string (an 0)) ∧ wx.cell? ⟨g, 1, none⟩ = some (.string (ad 0)))
        case first => as_aux_lemma =>
          go_region_held3 (fun w' => w'.cell? ⟨w.heap.size + 1 + 1 + (oP1.size + oP2.size), 0, none⟩ = some (.string r1) ∧ w'.cell? ⟨w.heap.size + 1 + 1 + (oP1.size + oP2.size), 1, none⟩ = some (.string r2) ∧ w'.cell? ⟨w.heap.size + 1 + 1 + (oP1.size + oP2.size) + 1, 0, none⟩ = some (.string s1) ∧ w'.cell? ⟨w.heap.size + 1 + 1 + (oP1.size + oP2.size) + 1, 1, none⟩ = some (.string s2)) (go_simp) (first | (go_at_call 27; ((with_reducible refine (ka'.out _ ?_).mono ?_); (exact HP0.out.grown (OWN0.out.g.trans (by with_reducible repeat (first | exact Grown.refl _ | apply Grown.more | apply Grown.alloc | apply Grown.drewN | apply Grown.drew)))); rintro e w' ⟨rfl, oa, ca, rfl⟩)))
          all_goals (go_wp2_with fail; go_meet; exact ⟨_, rfl, rfl, (by with_reducible repeat (first | exact Grown.refl _ | apply Grown.more | apply Grown.alloc | apply Grown.drewN | apply Grown.drew)), by go_simp, by omega, by go_simp, by go_simp⟩)
        case rest => as_aux_lemma =>
          obtain ⟨ga, rfl, rfl, hga, hia, hba, ca0, ca1⟩ := hcut
          obtain ⟨wv1, rfl⟩ : ∃ x : World, x = wc := ⟨_, rfl⟩
          have OWN1 := Lib.hid (OWN0.out.grown hga)
          have x0n := cell_of_grown hga inx.lt x0
          clear x0
          have x0 := x0n
          clear x0n
          have x1n := cell_of_grown hga inx.lt x1
          clear x1
          have x1 := x1n
          clear x1n
          have y0n := cell_of_grown hga iny.lt y0
          clear y0
          have y0 := y0n
          clear y0n
          have y1n := cell_of_grown hga iny.lt y1
          clear y1
          have y1 := y1n
          clear y1n
          have inxn := inW_grown hga inx
          clear inx
          have inx := inxn
          clear inxn
          have inyn := inW_grown hga iny
          clear iny
          have iny := inyn
          clear inyn
          have lea : wv0.heap.size ≤ ga := by skip; omega
          have Na1 := Lib.hid (own_ne OWN0.out.o1 lea)
          have Na2 := Lib.hid (own_ne OWN0.out.o2 lea)
          have Na3 := Lib.hid (own_ne OWN0.out.o3 lea)
          have Na4 := Lib.hid (own_ne OWN0.out.o4 lea)
          have sza := grown_size hga
          have LEa : Hid (wv0.heap.size ≤ wv1.heap.size) := Lib.hid (by have := grown_size hga; skip; omega)
          clear lea hba sza hga
          go_upto_region 17 with fail
          go_cut [22, 23] (fun sa sb wx => ∃ g : Nat, sa = .pointer (some ⟨g, 0, none⟩) ∧ sb = .int .i64 (de 0) ∧ Grown wv1 wx ∧ InW g wx ∧ wv1.heap.size ≤ g ∧ wx.cell? ⟨g, 0, none⟩ = some (.string (dn 0)) ∧ wx.cell? ⟨g, 1, none⟩ = some (.string (dd 0)))
          case first => as_aux_lemma =>
            go_region_held3 (fun w' => w'.cell? ⟨w.heap.size + 1 + 1 + (oP1.size + oP2.size), 0, none⟩ = some (.string r1) ∧ w'.cell? ⟨w.heap.size + 1 + 1 + (oP1.size + oP2.size), 1, none⟩ = some (.string r2) ∧ w'.cell? ⟨w.heap.size + 1 + 1 + (oP1.size + oP2.size) + 1, 0, none⟩ = some (.string s1) ∧ w'.cell? ⟨w.heap.size + 1 + 1 + (oP1.size + oP2.size) + 1, 1, none⟩ = some (.string s2)) (go_simp) (first | (go_at_call 28; ((with_reducible refine (ks'.out _ ?_).mono ?_); (exact HP0.out.grown (OWN1.out.g.trans (by with_reducible repeat (first | exact Grown.refl _ | apply Grown.more | apply Grown.alloc | apply Grown.drewN | apply Grown.drew)))); rintro e w' ⟨rfl, oa, ca, rfl⟩)))
            all_goals (go_wp2_with fail; go_meet; exact ⟨_, rfl, rfl, (by with_reducible repeat (first | exact Grown.refl _ | apply Grown.more | apply Grown.alloc | apply Grown.drewN | apply Grown.drew)), by go_simp, by omega, by go_simp, by go_simp⟩)
          case rest => as_aux_lemma =>
            obtain ⟨gd, rfl, rfl, hgd, hid, hbd, cd0, cd1⟩ := hcut
            obtain ⟨wv2, rfl⟩ : ∃ x : World, x = wc := ⟨_, rfl⟩
            have OWN2 := Lib.hid (OWN1.out.grown hgd)
            have x0n := cell_of_grown hgd inx.lt x0
            clear x0
            have x0 := x0n
            clear x0n
            have x1n := cell_of_grown hgd inx.lt x1
            clear x1
            have x1 := x1n
            clear x1n
            have y0n := cell_of_grown hgd iny.lt y0
            clear y0
            have y0 := y0n
            clear y0n
            have y1n := cell_of_grown hgd iny.lt y1
            clear y1
            have y1 := y1n
            clear y1n
            have ca0n := cell_of_grown hgd hia.lt ca0
            clear ca0
            have ca0 := ca0n
            clear ca0n
            have ca1n := cell_of_grown hgd hia.lt ca1
            clear ca1
            have ca1 := ca1n
            clear ca1n
            have hian := inW_grown hgd hia
            clear hia
            have hia := hian
            clear hian
            have inxn := inW_grown hgd inx
            clear inx
            have inx := inxn
            clear inxn
            have inyn := inW_grown hgd iny
            clear iny
            have iny := inyn
            clear inyn
            have led : wv0.heap.size ≤ gd := by have za := LEa.out; omega
            have Nd1 := Lib.hid (own_ne OWN0.out.o1 led)
            have Nd2 := Lib.hid (own_ne OWN0.out.o2 led)
            have Nd3 := Lib.hid (own_ne OWN0.out.o3 led)
            have Nd4 := Lib.hid (own_ne OWN0.out.o4 led)
            have szd := grown_size hgd
            have LEd : Hid (wv0.heap.size ≤ wv2.heap.size) := Lib.hid (by have := grown_size hgd; have za := LEa.out; omega)
            clear led hbd szd hgd
            go_upto_region 18 with fail
            go_cut [24, 25] (fun sa sb wx => ∃ g : Nat, sa = .pointer (some ⟨g, 0, none⟩) ∧ sb = .int .i64 (ve 0) ∧ Grown wv2 wx ∧ InW g wx ∧ wv2.heap.size ≤ g ∧ wx.cell? ⟨g, 0, none⟩ = some (.string (vn 0)) ∧ wx.cell? ⟨g, 1, none⟩ = some (.string (vd 0)))
            case first => as_aux_lemma =>
              go_region_held3 (fun w' => w'.cell? ⟨w.heap.size + 1 + 1 + (oP1.size + oP2.size), 0, none⟩ = some (.string r1) ∧ w'.cell? ⟨w.heap.size + 1 + 1 + (oP1.size + oP2.size), 1, none⟩ = some (.string r2) ∧ w'.cell? ⟨w.heap.size + 1 + 1 + (oP1.size + oP2.size) + 1, 0, none⟩ = some (.string s1) ∧ w'.cell? ⟨w.heap.size + 1 + 1 + (oP1.size + oP2.size) + 1, 1, none⟩ = some (.string s2)) (go_simp) (first | (go_at_call 29; ((with_reducible refine (km'.out _ ?_).mono ?_); (exact HP0.out.grown (OWN2.out.g.trans (by with_reducible repeat (first | exact Grown.refl _ | apply Grown.more | apply Grown.alloc | apply Grown.drewN | apply Grown.drew)))); rintro e w' ⟨rfl, oa, ca, rfl⟩)))
              all_goals (go_wp2_with fail; go_meet; exact ⟨_, rfl, rfl, (by with_reducible repeat (first | exact Grown.refl _ | apply Grown.more | apply Grown.alloc | apply Grown.drewN | apply Grown.drew)), by go_simp, by omega, by go_simp, by go_simp⟩)
            case rest => as_aux_lemma =>
              obtain ⟨gv, rfl, rfl, hgv, hiv, hbv, cv0, cv1⟩ := hcut
              obtain ⟨wv3, rfl⟩ : ∃ x : World, x = wc := ⟨_, rfl⟩
              have OWN3 := Lib.hid (OWN2.out.grown hgv)
              have x0n := cell_of_grown hgv inx.lt x0
              clear x0
              have x0 := x0n
              clear x0n
              have x1n := cell_of_grown hgv inx.lt x1
              clear x1
              have x1 := x1n
              clear x1n
              have y0n := cell_of_grown hgv iny.lt y0
              clear y0
              have y0 := y0n
              clear y0n
              have y1n := cell_of_grown hgv iny.lt y1
              clear y1
              have y1 := y1n
              clear y1n
              have ca0n := cell_of_grown hgv hia.lt ca0
              clear ca0
              have ca0 := ca0n
              clear ca0n
              have ca1n := cell_of_grown hgv hia.lt ca1
              clear ca1
              have ca1 := ca1n
              clear ca1n
              have hian := inW_grown hgv hia
              clear hia
              have hia := hian
              clear hian
              have cd0n := cell_of_grown hgv hid.lt cd0
              clear cd0
              have cd0 := cd0n
              clear cd0n
              have cd1n := cell_of_grown hgv hid.lt cd1
              clear cd1
              have cd1 := cd1n
              clear cd1n
              have hidn := inW_grown hgv hid
              clear hid
              have hid := hidn
              clear hidn
              have inxn := inW_grown hgv inx
              clear inx
              have inx := inxn
              clear inxn
              have inyn := inW_grown hgv iny
              clear iny
              have iny := inyn
              clear inyn
              have lev : wv0.heap.size ≤ gv := by have za := LEa.out; have zd := LEd.out; omega
              have Nv1 := Lib.hid (own_ne OWN0.out.o1 lev)
              have Nv2 := Lib.hid (own_ne OWN0.out.o2 lev)
              have Nv3 := Lib.hid (own_ne OWN0.out.o3 lev)
              have Nv4 := Lib.hid (own_ne OWN0.out.o4 lev)
              have szv := grown_size hgv
              have LEv : Hid (wv0.heap.size ≤ wv3.heap.size) := Lib.hid (by have := grown_size hgv; have zd := LEd.out; omega)
              clear lev hbv szv hgv
              go_upto_region 19 with fail
              go_cut [26, 27] (fun sa sb wx => ∃ g : Nat, sa = .pointer (some ⟨g, 0, none⟩) ∧ sb = .int .i64 (qe 0) ∧ Grown wv3 wx ∧ InW g wx ∧ wv3.heap.size ≤ g ∧ wx.cell? ⟨g, 0, none⟩ = some (.string (qn 0)) ∧ wx.cell? ⟨g, 1, none⟩ = some (.string (qd 0)))
              case first => as_aux_lemma =>
                go_region_held3 (fun w' => w'.cell? ⟨w.heap.size + 1 + 1 + (oP1.size + oP2.size), 0, none⟩ = some (.string r1) ∧ w'.cell? ⟨w.heap.size + 1 + 1 + (oP1.size + oP2.size), 1, none⟩ = some (.string r2) ∧ w'.cell? ⟨w.heap.size + 1 + 1 + (oP1.size + oP2.size) + 1, 0, none⟩ = some (.string s1) ∧ w'.cell? ⟨w.heap.size + 1 + 1 + (oP1.size + oP2.size) + 1, 1, none⟩ = some (.string s2)) (go_simp) (first | (go_at_call 30; ((with_reducible refine (kq'.out _ ?_).mono ?_); (exact HP0.out.grown (OWN3.out.g.trans (by with_reducible repeat (first | exact Grown.refl _ | apply Grown.more | apply Grown.alloc | apply Grown.drewN | apply Grown.drew)))); rintro e w' ⟨rfl, oa, ca, rfl⟩)))
                all_goals (go_wp2_with fail; go_meet; exact ⟨_, rfl, rfl, (by with_reducible repeat (first | exact Grown.refl _ | apply Grown.more | apply Grown.alloc | apply Grown.drewN | apply Grown.drew)), by go_simp, by omega, by go_simp, by go_simp⟩)
              case rest => as_aux_lemma =>
                obtain ⟨gq, rfl, rfl, hgq, hiq, hbq, cq0, cq1⟩ := hcut
                obtain ⟨wv4, rfl⟩ : ∃ x : World, x = wc := ⟨_, rfl⟩
                have OWN4 := Lib.hid (OWN3.out.grown hgq)
                have x0n := cell_of_grown hgq inx.lt x0
                clear x0
                have x0 := x0n
                clear x0n
                have x1n := cell_of_grown hgq inx.lt x1
                clear x1
                have x1 := x1n
                clear x1n
                have y0n := cell_of_grown hgq iny.lt y0
                clear y0
                have y0 := y0n
                clear y0n
                have y1n := cell_of_grown hgq iny.lt y1
                clear y1
                have y1 := y1n
                clear y1n
                have ca0n := cell_of_grown hgq hia.lt ca0
                clear ca0
                have ca0 := ca0n
                clear ca0n
                have ca1n := cell_of_grown hgq hia.lt ca1
                clear ca1
                have ca1 := ca1n
                clear ca1n
                have hian := inW_grown hgq hia
                clear hia
                have hia := hian
                clear hian
                have cd0n := cell_of_grown hgq hid.lt cd0
                clear cd0
                have cd0 := cd0n
                clear cd0n
                have cd1n := cell_of_grown hgq hid.lt cd1
                clear cd1
                have cd1 := cd1n
                clear cd1n
                have hidn := inW_grown hgq hid
                clear hid
                have hid := hidn
                clear hidn
                have cv0n := cell_of_grown hgq hiv.lt cv0
                clear cv0
                have cv0 := cv0n
                clear cv0n
                have cv1n := cell_of_grown hgq hiv.lt cv1
                clear cv1
                have cv1 := cv1n
                clear cv1n
                have hivn := inW_grown hgq hiv
                clear hiv
                have hiv := hivn
                clear hivn
                have inxn := inW_grown hgq inx
                clear inx
                have inx := inxn
                clear inxn
                have inyn := inW_grown hgq iny
                clear iny
                have iny := inyn
                clear inyn
                have leq : wv0.heap.size ≤ gq := by have za := LEa.out; have zd := LEd.out; have zv := LEv.out; omega
                have Nq1 := Lib.hid (own_ne OWN0.out.o1 leq)
                have Nq2 := Lib.hid (own_ne OWN0.out.o2 leq)
                have Nq3 := Lib.hid (own_ne OWN0.out.o3 leq)
                have Nq4 := Lib.hid (own_ne OWN0.out.o4 leq)
                have szq := grown_size hgq
                have LEq : Hid (wv0.heap.size ≤ wv4.heap.size) := Lib.hid (by have := grown_size hgq; have zv := LEv.out; omega)
                clear leq hbq szq hgq
                go_wp2_with (first | (at_builtin; refine wpList_append_own_at _ rfl (.tmp 131) (.tmp 133) 32 rfl W0.heap.size 23 iv (.agg #[.string ⟨#[]⟩, .string ⟨#[]⟩]) 2 32 slRat HI.out HI0.out HI2.out HI32.out rfl (by decide) _ 0 (rowsR an ad 0) rfl ?c0 _ 1 1 (#[.string (an 0), .string (ad 0)] : Array Value).toList rfl rfl ?d0 (fun u hu => by simp at hu; rcases hu with rfl | rfl <;> rfl) (by decide) (by decide) ?e0 ?_; (case c0 => exact (own_grown OWN4.out.o1 (by with_reducible repeat (first | exact Grown.refl _ | apply Grown.more | apply Grown.alloc | apply Grown.drewN | apply Grown.drew)))); (case d0 => exact news_cell _ _ _ _ (by go_simp)); (case e0 => (have hsz := grown_size OWN4.out.g; go_simp; omega)); intro v0 w9 hown0 hgrow0 hnil0 hblk0; (have OWN5 := Lib.hid ((((OWN4.out.grown (by with_reducible repeat (first | exact Grown.refl _ | apply Grown.more | apply Grown.alloc | apply Grown.drewN | apply Grown.drew)))).app1 hown0 hgrow0 hblk0))); (have cd0n := cell_grownBy hgrow0 (inW_grown (by with_reducible repeat (first | exact Grown.refl _ | apply Grown.more | apply Grown.alloc | apply Grown.drewN | apply Grown.drew)) hid) Nd1.out (cell_of_grown (by with_reducible repeat (first | exact Grown.refl _ | apply Grown.more | apply Grown.alloc | apply Grown.drewN | apply Grown.drew)) hid.lt cd0)); (have cd1n := cell_grownBy hgrow0 (inW_grown (by with_reducible repeat (first | exact Grown.refl _ | apply Grown.more | apply Grown.alloc | apply Grown.drewN | apply Grown.drew)) hid) Nd1.out (cell_of_grown (by with_reducible repeat (first | exact Grown.refl _ | apply Grown.more | apply Grown.alloc | apply Grown.drewN | apply Grown.drew)) hid.lt cd1)); (have hidn := inW_grownBy hgrow0 (inW_grown (by with_reducible repeat (first | exact Grown.refl _ | apply Grown.more | apply Grown.alloc | apply Grown.drewN | apply Grown.drew)) hid)); (have cv0n := cell_grownBy hgrow0 (inW_grown (by with_reducible repeat (first | exact Grown.refl _ | apply Grown.more | apply Grown.alloc | apply Grown.drewN | apply Grown.drew)) hiv) Nv1.out (cell_of_grown (by with_reducible repeat (first | exact Grown.refl _ | apply Grown.more | apply Grown.alloc | apply Grown.drewN | apply Grown.drew)) hiv.lt cv0)); (have cv1n := cell_grownBy hgrow0 (inW_grown (by with_reducible repeat (first | exact Grown.refl _ | apply Grown.more | apply Grown.alloc | apply Grown.drewN | apply Grown.drew)) hiv) Nv1.out (cell_of_grown (by with_reducible repeat (first | exact Grown.refl _ | apply Grown.more | apply Grown.alloc | apply Grown.drewN | apply Grown.drew)) hiv.lt cv1)); (have hivn := inW_grownBy hgrow0 (inW_grown (by with_reducible repeat (first | exact Grown.refl _ | apply Grown.more | apply Grown.alloc | apply Grown.drewN | apply Grown.drew)) hiv)); (have cq0n := cell_grownBy hgrow0 (inW_grown (by with_reducible repeat (first | exact Grown.refl _ | apply Grown.more | apply Grown.alloc | apply Grown.drewN | apply Grown.drew)) hiq) Nq1.out (cell_of_grown (by with_reducible repeat (first | exact Grown.refl _ | apply Grown.more | apply Grown.alloc | apply Grown.drewN | apply Grown.drew)) hiq.lt cq0)); (have cq1n := cell_grownBy hgrow0 (inW_grown (by with_reducible repeat (first | exact Grown.refl _ | apply Grown.more | apply Grown.alloc | apply Grown.drewN | apply Grown.drew)) hiq) Nq1.out (cell_of_grown (by with_reducible repeat (first | exact Grown.refl _ | apply Grown.more | apply Grown.alloc | apply Grown.drewN | apply Grown.drew)) hiq.lt cq1)); (have hiqn := inW_grownBy hgrow0 (inW_grown (by with_reducible repeat (first | exact Grown.refl _ | apply Grown.more | apply Grown.alloc | apply Grown.drewN | apply Grown.drew)) hiq)); clear cd0; (have cd0 := cd0n); clear cd0n; clear cd1; (have cd1 := cd1n); clear cd1n; clear hid; (have hid := hidn); clear hidn; clear cv0; (have cv0 := cv0n); clear cv0n; clear cv1; (have cv1 := cv1n); clear cv1n; clear hiv; (have hiv := hivn); clear hivn; clear cq0; (have cq0 := cq0n); clear cq0n; clear cq1; (have cq1 := cq1n); clear cq1n; clear hiq; (have hiq := hiqn); clear hiqn; clear hown0 hgrow0 hnil0 hblk0) | (at_builtin; refine wpList_append_own_at _ rfl (.tmp 135) (.tmp 137) 32 rfl W0.heap.size 23 iv (.agg #[.string ⟨#[]⟩, .string ⟨#[]⟩]) 2 32 slRat HI.out HI0.out HI2.out HI32.out rfl (by decide) _ 0 (rowsR dn dd 0) rfl ?c1 _ 1 1 (#[.string (dn 0), .string (dd 0)] : Array Value).toList rfl rfl ?d1 (fun u hu => by simp at hu; rcases hu with rfl | rfl <;> rfl) (by decide) (by decide) ?e1 ?_; (case c1 => exact (own_grown OWN5.out.o2 (by with_reducible repeat (first | exact Grown.refl _ | apply Grown.more | apply Grown.alloc | apply Grown.drewN | apply Grown.drew)))); (case d1 => exact news_cell _ _ _ _ (by go_simp)); (case e1 => (have hsz := grown_size OWN5.out.g; go_simp; omega)); intro v1 w10 hown1 hgrow1 hnil1 hblk1; (have OWN6 := Lib.hid ((((OWN5.out.grown (by with_reducible repeat (first | exact Grown.refl _ | apply Grown.more | apply Grown.alloc | apply Grown.drewN | apply Grown.drew))).rot).app1 hown1 hgrow1 hblk1).rot.rot.rot)); (have cv0n := cell_grownBy hgrow1 (inW_grown (by with_reducible repeat (first | exact Grown.refl _ | apply Grown.more | apply Grown.alloc | apply Grown.drewN | apply Grown.drew)) hiv) Nv2.out (cell_of_grown (by with_reducible repeat (first | exact Grown.refl _ | apply Grown.more | apply Grown.alloc | apply Grown.drewN | apply Grown.drew)) hiv.lt cv0)); (have cv1n := cell_grownBy hgrow1 (inW_grown (by with_reducible repeat (first | exact Grown.refl _ | apply Grown.more | apply Grown.alloc | apply Grown.drewN | apply Grown.drew)) hiv) Nv2.out (cell_of_grown (by with_reducible repeat (first | exact Grown.refl _ | apply Grown.more | apply Grown.alloc | apply Grown.drewN | apply Grown.drew)) hiv.lt cv1)); (have hivn := inW_grownBy hgrow1 (inW_grown (by with_reducible repeat (first | exact Grown.refl _ | apply Grown.more | apply Grown.alloc | apply Grown.drewN | apply Grown.drew)) hiv)); (have cq0n := cell_grownBy hgrow1 (inW_grown (by with_reducible repeat (first | exact Grown.refl _ | apply Grown.more | apply Grown.alloc | apply Grown.drewN | apply Grown.drew)) hiq) Nq2.out (cell_of_grown (by with_reducible repeat (first | exact Grown.refl _ | apply Grown.more | apply Grown.alloc | apply Grown.drewN | apply Grown.drew)) hiq.lt cq0)); (have cq1n := cell_grownBy hgrow1 (inW_grown (by with_reducible repeat (first | exact Grown.refl _ | apply Grown.more | apply Grown.alloc | apply Grown.drewN | apply Grown.drew)) hiq) Nq2.out (cell_of_grown (by with_reducible repeat (first | exact Grown.refl _ | apply Grown.more | apply Grown.alloc | apply Grown.drewN | apply Grown.drew)) hiq.lt cq1)); (have hiqn := inW_grownBy hgrow1 (inW_grown (by with_reducible repeat (first | exact Grown.refl _ | apply Grown.more | apply Grown.alloc | apply Grown.drewN | apply Grown.drew)) hiq)); clear cv0; (have cv0 := cv0n); clear cv0n; clear cv1; (have cv1 := cv1n); clear cv1n; clear hiv; (have hiv := hivn); clear hivn; clear cq0; (have cq0 := cq0n); clear cq0n; clear cq1; (have cq1 := cq1n); clear cq1n; clear hiq; (have hiq := hiqn); clear hiqn; clear hown1 hgrow1 hnil1 hblk1) | (at_builtin; refine wpList_append_own_at _ rfl (.tmp 139) (.tmp 141) 32 rfl W0.heap.size 23 iv (.agg #[.string ⟨#[]⟩, .string ⟨#[]⟩]) 2 32 slRat HI.out HI0.out HI2.out HI32.out rfl (by decide) _ 0 (rowsR vn vd 0) rfl ?c2 _ 1 1 (#[.string (vn 0), .string (vd 0)] : Array Value).toList rfl rfl ?d2 (fun u hu => by simp at hu; rcases hu with rfl | rfl <;> rfl) (by decide) (by decide) ?e2 ?_; (case c2 => exact (own_grown OWN6.out.o3 (by with_reducible repeat (first | exact Grown.refl _ | apply Grown.more | apply Grown.alloc | apply Grown.drewN | apply Grown.drew)))); (case d2 => exact news_cell _ _ _ _ (by go_simp)); (case e2 => (have hsz := grown_size OWN6.out.g; go_simp; omega)); intro v2 w11 hown2 hgrow2 hnil2 hblk2; (have OWN7 := Lib.hid ((((OWN6.out.grown (by with_reducible repeat (first | exact Grown.refl _ | apply Grown.more | apply Grown.alloc | apply Grown.drewN | apply Grown.drew))).rot.rot).app1 hown2 hgrow2 hblk2).rot.rot)); (have cq0n := cell_grownBy hgrow2 (inW_grown (by with_reducible repeat (first | exact Grown.refl _ | apply Grown.more | apply Grown.alloc | apply Grown.drewN | apply Grown.drew)) hiq) Nq3.out (cell_of_grown (by with_reducible repeat (first | exact Grown.refl _ | apply Grown.more | apply Grown.alloc | apply Grown.drewN | apply Grown.drew)) hiq.lt cq0)); (have cq1n := cell_grownBy hgrow2 (inW_grown (by with_reducible repeat (first | exact Grown.refl _ | apply Grown.more | apply Grown.alloc | apply Grown.drewN | apply Grown.drew)) hiq) Nq3.out (cell_of_grown (by with_reducible repeat (first | exact Grown.refl _ | apply Grown.more | apply Grown.alloc | apply Grown.drewN | apply Grown.drew)) hiq.lt cq1)); (have hiqn := inW_grownBy hgrow2 (inW_grown (by with_reducible repeat (first | exact Grown.refl _ | apply Grown.more | apply Grown.alloc | apply Grown.drewN | apply Grown.drew)) hiq)); clear cq0; (have cq0 := cq0n); clear cq0n; clear cq1; (have cq1 := cq1n); clear cq1n; clear hiq; (have hiq := hiqn); clear hiqn; clear hown2 hgrow2 hnil2 hblk2) | (at_builtin; refine wpList_append_own_at _ rfl (.tmp 143) (.tmp 145) 32 rfl W0.heap.size 23 iv (.agg #[.string ⟨#[]⟩, .string ⟨#[]⟩]) 2 32 slRat HI.out HI0.out HI2.out HI32.out rfl (by decide) _ 0 (rowsR qn qd 0) rfl ?c3 _ 1 1 (#[.string (qn 0), .string (qd 0)] : Array Value).toList rfl rfl ?d3 (fun u hu => by simp at hu; rcases hu with rfl | rfl <;> rfl) (by decide) (by decide) ?e3 ?_; (case c3 => exact (own_grown OWN7.out.o4 (by with_reducible repeat (first | exact Grown.refl _ | apply Grown.more | apply Grown.alloc | apply Grown.drewN | apply Grown.drew)))); (case d3 => exact news_cell _ _ _ _ (by go_simp)); (case e3 => (have hsz := grown_size OWN7.out.g; go_simp; omega)); intro v3 w12 hown3 hgrow3 hnil3 hblk3; (have OWN8 := Lib.hid ((((OWN7.out.grown (by with_reducible repeat (first | exact Grown.refl _ | apply Grown.more | apply Grown.alloc | apply Grown.drewN | apply Grown.drew))).rot.rot.rot).app1 hown3 hgrow3 hblk3).rot)); clear hown3 hgrow3 hnil3 hblk3))
                go_roundw
                case measure => show 4 - 1 < 4 - 0; omega
                case rel => exact ⟨1, rfl, by omega, OWN8.out⟩
      · as_aux_lemma =>
        obtain ⟨wv0, rfl⟩ : ∃ x : World, x = wr := ⟨_, rfl⟩
        have x0 := cell_of_grown HOWN.out.g (World.block_lt_of_cell? W0 _ FX0.out) FX0.out
        have x1 := cell_of_grown HOWN.out.g (World.block_lt_of_cell? W0 _ FX1.out) FX1.out
        have y0 := cell_of_grown HOWN.out.g (World.block_lt_of_cell? W0 _ FY2.out) FY2.out
        have y1 := cell_of_grown HOWN.out.g (World.block_lt_of_cell? W0 _ FY3.out) FY3.out
        have ka := KA.out 1 (by omega)
        rw [show (1 / 2) = 0 from rfl, show (1 % 2) = 1 from rfl, HX.out.1, HX.out.2.1, HY.out.2.2.1, HY.out.2.2.2] at ka
        have ka' := Lib.hid ka
        clear ka
        have ks := KS.out 1 (by omega)
        rw [show (1 / 2) = 0 from rfl, show (1 % 2) = 1 from rfl, HX.out.1, HX.out.2.1, HY.out.2.2.1, HY.out.2.2.2] at ks
        have ks' := Lib.hid ks
        clear ks
        have km := KM.out 1 (by omega)
        rw [show (1 / 2) = 0 from rfl, show (1 % 2) = 1 from rfl, HX.out.1, HX.out.2.1, HY.out.2.2.1, HY.out.2.2.2] at km
        have km' := Lib.hid km
        clear km
        have kq := KQ.out 1 (by omega)
        rw [show (1 / 2) = 0 from rfl, show (1 % 2) = 1 from rfl, HX.out.1, HX.out.2.1, HY.out.2.2.1, HY.out.2.2.2] at kq
        have kq' := Lib.hid kq
        clear kq
        rw [show ((1 : Nat) : Int) = 1 from rfl]
        have inx : InW (w.heap.size + 1 + 1 + (oP1.size + oP2.size)) wv0 := World.block_lt_of_cell? wv0 _ x0
        have iny : InW (w.heap.size + 1 + 1 + (oP1.size + oP2.size) + 1) wv0 := World.block_lt_of_cell? wv0 _ y0
        have HO1 := Lib.hid HOWN.out
        have own0 := HOWN.out
        have OWN0 := Lib.hid own0
        clear own0 HO1
        have hw1 : IntKind.i64.wrap (Int.tdiv 1 2) = 0 := by decide
        have hw2 : IntKind.i64.wrap (Int.tmod 1 2) = 1 := by decide
        have hw3 : IntKind.i64.wrap 0 = 0 := by decide
        have hw4 : IntKind.i64.wrap 1 = 1 := by decide
        go_upto_region 16 with fail
        go_cut [20, 21] (fun sa sb wx => ∃ g : Nat, sa = .pointer (some ⟨g, 0, none⟩) ∧ sb = .int .i64 (ae 1) ∧ Grown wv0 wx ∧ InW g wx ∧ wv0.heap.size ≤ g ∧ wx.cell? ⟨g, 0, none⟩ = some (.string (an 1)) ∧ wx.cell? ⟨g, 1, none⟩ = some (.string (ad 1)))
        case first => as_aux_lemma =>
          go_region_held3 (fun w' => w'.cell? ⟨w.heap.size + 1 + 1 + (oP1.size + oP2.size), 0, none⟩ = some (.string r1) ∧ w'.cell? ⟨w.heap.size + 1 + 1 + (oP1.size + oP2.size), 1, none⟩ = some (.string r2) ∧ w'.cell? ⟨w.heap.size + 1 + 1 + (oP1.size + oP2.size) + 1, 2, none⟩ = some (.string s3) ∧ w'.cell? ⟨w.heap.size + 1 + 1 + (oP1.size + oP2.size) + 1, 3, none⟩ = some (.string s4)) (go_simp) (first | (go_at_call 27; ((with_reducible refine (ka'.out _ ?_).mono ?_); (exact HP0.out.grown (OWN0.out.g.trans (by with_reducible repeat (first | exact Grown.refl _ | apply Grown.more | apply Grown.alloc | apply Grown.drewN | apply Grown.drew)))); rintro e w' ⟨rfl, oa, ca, rfl⟩)))
          all_goals (go_wp2_with fail; go_meet; exact ⟨_, rfl, rfl, (by with_reducible repeat (first | exact Grown.refl _ | apply Grown.more | apply Grown.alloc | apply Grown.drewN | apply Grown.drew)), by go_simp, by omega, by go_simp, by go_simp⟩)
        case rest => as_aux_lemma =>
          obtain ⟨ga, rfl, rfl, hga, hia, hba, ca0, ca1⟩ := hcut
          obtain ⟨wv1, rfl⟩ : ∃ x : World, x = wc := ⟨_, rfl⟩
          have OWN1 := Lib.hid (OWN0.out.grown hga)
          have x0n := cell_of_grown hga inx.lt x0
          clear x0
          have x0 := x0n
          clear x0n
          have x1n := cell_of_grown hga inx.lt x1
          clear x1
          have x1 := x1n
          clear x1n
          have y0n := cell_of_grown hga iny.lt y0
          clear y0
          have y0 := y0n
          clear y0n
          have y1n := cell_of_grown hga iny.lt y1
          clear y1
          have y1 := y1n
          clear y1n
          have inxn := inW_grown hga inx
          clear inx
          have inx := inxn
          clear inxn
          have inyn := inW_grown hga iny
          clear iny
          have iny := inyn
          clear inyn
          have lea : wv0.heap.size ≤ ga := by skip; omega
          have Na1 := Lib.hid (own_ne OWN0.out.o1 lea)
          have Na2 := Lib.hid (own_ne OWN0.out.o2 lea)
          have Na3 := Lib.hid (own_ne OWN0.out.o3 lea)
          have Na4 := Lib.hid (own_ne OWN0.out.o4 lea)
          have sza := grown_size hga
          have LEa : Hid (wv0.heap.size ≤ wv1.heap.size) := Lib.hid (by have := grown_size hga; skip; omega)
          clear lea hba sza hga
          go_upto_region 17 with fail
          go_cut [22, 23] (fun sa sb wx => ∃ g : Nat, sa = .pointer (some ⟨g, 0, none⟩) ∧ sb = .int .i64 (de 1) ∧ Grown wv1 wx ∧ InW g wx ∧ wv1.heap.size ≤ g ∧ wx.cell? ⟨g, 0, none⟩ = some (.string (dn 1)) ∧ wx.cell? ⟨g, 1, none⟩ = some (.string (dd 1)))
          case first => as_aux_lemma =>
            go_region_held3 (fun w' => w'.cell? ⟨w.heap.size + 1 + 1 + (oP1.size + oP2.size), 0, none⟩ = some (.string r1) ∧ w'.cell? ⟨w.heap.size + 1 + 1 + (oP1.size + oP2.size), 1, none⟩ = some (.string r2) ∧ w'.cell? ⟨w.heap.size + 1 + 1 + (oP1.size + oP2.size) + 1, 2, none⟩ = some (.string s3) ∧ w'.cell? ⟨w.heap.size + 1 + 1 + (oP1.size + oP2.size) + 1, 3, none⟩ = some (.string s4)) (go_simp) (first | (go_at_call 28; ((with_reducible refine (ks'.out _ ?_).mono ?_); (exact HP0.out.grown (OWN1.out.g.trans (by with_reducible repeat (first | exact Grown.refl _ | apply Grown.more | apply Grown.alloc | apply Grown.drewN | apply Grown.drew)))); rintro e w' ⟨rfl, oa, ca, rfl⟩)))
            all_goals (go_wp2_with fail; go_meet; exact ⟨_, rfl, rfl, (by with_reducible repeat (first | exact Grown.refl _ | apply Grown.more | apply Grown.alloc | apply Grown.drewN | apply Grown.drew)), by go_simp, by omega, by go_simp, by go_simp⟩)
          case rest => as_aux_lemma =>
            obtain ⟨gd, rfl, rfl, hgd, hid, hbd, cd0, cd1⟩ := hcut
            obtain ⟨wv2, rfl⟩ : ∃ x : World, x = wc := ⟨_, rfl⟩
            have OWN2 := Lib.hid (OWN1.out.grown hgd)
            have x0n := cell_of_grown hgd inx.lt x0
            clear x0
            have x0 := x0n
            clear x0n
            have x1n := cell_of_grown hgd inx.lt x1
            clear x1
            have x1 := x1n
            clear x1n
            have y0n := cell_of_grown hgd iny.lt y0
            clear y0
            have y0 := y0n
            clear y0n
            have y1n := cell_of_grown hgd iny.lt y1
            clear y1
            have y1 := y1n
            clear y1n
            have ca0n := cell_of_grown hgd hia.lt ca0
            clear ca0
            have ca0 := ca0n
            clear ca0n
            have ca1n := cell_of_grown hgd hia.lt ca1
            clear ca1
            have ca1 := ca1n
            clear ca1n
            have hian := inW_grown hgd hia
            clear hia
            have hia := hian
            clear hian
            have inxn := inW_grown hgd inx
            clear inx
            have inx := inxn
            clear inxn
            have inyn := inW_grown hgd iny
            clear iny
            have iny := inyn
            clear inyn
            have led : wv0.heap.size ≤ gd := by have za := LEa.out; omega
            have Nd1 := Lib.hid (own_ne OWN0.out.o1 led)
            have Nd2 := Lib.hid (own_ne OWN0.out.o2 led)
            have Nd3 := Lib.hid (own_ne OWN0.out.o3 led)
            have Nd4 := Lib.hid (own_ne OWN0.out.o4 led)
            have szd := grown_size hgd
            have LEd : Hid (wv0.heap.size ≤ wv2.heap.size) := Lib.hid (by have := grown_size hgd; have za := LEa.out; omega)
            clear led hbd szd hgd
            go_upto_region 18 with fail
            go_cut [24, 25] (fun sa sb wx => ∃ g : Nat, sa = .pointer (some ⟨g, 0, none⟩) ∧ sb = .int .i64 (ve 1) ∧ Grown wv2 wx ∧ InW g wx ∧ wv2.heap.size ≤ g ∧ wx.cell? ⟨g, 0, none⟩ = some (.string (vn 1)) ∧ wx.cell? ⟨g, 1, none⟩ = some (.string (vd 1)))
            case first => as_aux_lemma =>
              go_region_held3 (fun w' => w'.cell? ⟨w.heap.size + 1 + 1 + (oP1.size + oP2.size), 0, none⟩ = some (.string r1) ∧ w'.cell? ⟨w.heap.size + 1 + 1 + (oP1.size + oP2.size), 1, none⟩ = some (.string r2) ∧ w'.cell? ⟨w.heap.size + 1 + 1 + (oP1.size + oP2.size) + 1, 2, none⟩ = some (.string s3) ∧ w'.cell? ⟨w.heap.size + 1 + 1 + (oP1.size + oP2.size) + 1, 3, none⟩ = some (.string s4)) (go_simp) (first | (go_at_call 29; ((with_reducible refine (km'.out _ ?_).mono ?_); (exact HP0.out.grown (OWN2.out.g.trans (by with_reducible repeat (first | exact Grown.refl _ | apply Grown.more | apply Grown.alloc | apply Grown.drewN | apply Grown.drew)))); rintro e w' ⟨rfl, oa, ca, rfl⟩)))
              all_goals (go_wp2_with fail; go_meet; exact ⟨_, rfl, rfl, (by with_reducible repeat (first | exact Grown.refl _ | apply Grown.more | apply Grown.alloc | apply Grown.drewN | apply Grown.drew)), by go_simp, by omega, by go_simp, by go_simp⟩)
            case rest => as_aux_lemma =>
              obtain ⟨gv, rfl, rfl, hgv, hiv, hbv, cv0, cv1⟩ := hcut
              obtain ⟨wv3, rfl⟩ : ∃ x : World, x = wc := ⟨_, rfl⟩
              have OWN3 := Lib.hid (OWN2.out.grown hgv)
              have x0n := cell_of_grown hgv inx.lt x0
              clear x0
              have x0 := x0n
              clear x0n
              have x1n := cell_of_grown hgv inx.lt x1
              clear x1
              have x1 := x1n
              clear x1n
              have y0n := cell_of_grown hgv iny.lt y0
              clear y0
              have y0 := y0n
              clear y0n
              have y1n := cell_of_grown hgv iny.lt y1
              clear y1
              have y1 := y1n
              clear y1n
              have ca0n := cell_of_grown hgv hia.lt ca0
              clear ca0
              have ca0 := ca0n
              clear ca0n
              have ca1n := cell_of_grown hgv hia.lt ca1
              clear ca1
              have ca1 := ca1n
              clear ca1n
              have hian := inW_grown hgv hia
              clear hia
              have hia := hian
              clear hian
              have cd0n := cell_of_grown hgv hid.lt cd0
              clear cd0
              have cd0 := cd0n
              clear cd0n
              have cd1n := cell_of_grown hgv hid.lt cd1
              clear cd1
              have cd1 := cd1n
              clear cd1n
              have hidn := inW_grown hgv hid
              clear hid
              have hid := hidn
              clear hidn
              have inxn := inW_grown hgv inx
              clear inx
              have inx := inxn
              clear inxn
              have inyn := inW_grown hgv iny
              clear iny
              have iny := inyn
              clear inyn
              have lev : wv0.heap.size ≤ gv := by have za := LEa.out; have zd := LEd.out; omega
              have Nv1 := Lib.hid (own_ne OWN0.out.o1 lev)
              have Nv2 := Lib.hid (own_ne OWN0.out.o2 lev)
              have Nv3 := Lib.hid (own_ne OWN0.out.o3 lev)
              have Nv4 := Lib.hid (own_ne OWN0.out.o4 lev)
              have szv := grown_size hgv
              have LEv : Hid (wv0.heap.size ≤ wv3.heap.size) := Lib.hid (by have := grown_size hgv; have zd := LEd.out; omega)
              clear lev hbv szv hgv
              go_upto_region 19 with fail
              go_cut [26, 27] (fun sa sb wx => ∃ g : Nat, sa = .pointer (some ⟨g, 0, none⟩) ∧ sb = .int .i64 (qe 1) ∧ Grown wv3 wx ∧ InW g wx ∧ wv3.heap.size ≤ g ∧ wx.cell? ⟨g, 0, none⟩ = some (.string (qn 1)) ∧ wx.cell? ⟨g, 1, none⟩ = some (.string (qd 1)))
              case first => as_aux_lemma =>
                go_region_held3 (fun w' => w'.cell? ⟨w.heap.size + 1 + 1 + (oP1.size + oP2.size), 0, none⟩ = some (.string r1) ∧ w'.cell? ⟨w.heap.size + 1 + 1 + (oP1.size + oP2.size), 1, none⟩ = some (.string r2) ∧ w'.cell? ⟨w.heap.size + 1 + 1 + (oP1.size + oP2.size) + 1, 2, none⟩ = some (.string s3) ∧ w'.cell? ⟨w.heap.size + 1 + 1 + (oP1.size + oP2.size) + 1, 3, none⟩ = some (.string s4)) (go_simp) (first | (go_at_call 30; ((with_reducible refine (kq'.out _ ?_).mono ?_); (exact HP0.out.grown (OWN3.out.g.trans (by with_reducible repeat (first | exact Grown.refl _ | apply Grown.more | apply Grown.alloc | apply Grown.drewN | apply Grown.drew)))); rintro e w' ⟨rfl, oa, ca, rfl⟩)))
                all_goals (go_wp2_with fail; go_meet; exact ⟨_, rfl, rfl, (by with_reducible repeat (first | exact Grown.refl _ | apply Grown.more | apply Grown.alloc | apply Grown.drewN | apply Grown.drew)), by go_simp, by omega, by go_simp, by go_simp⟩)
              case rest => as_aux_lemma =>
                obtain ⟨gq, rfl, rfl, hgq, hiq, hbq, cq0, cq1⟩ := hcut
                obtain ⟨wv4, rfl⟩ : ∃ x : World, x = wc := ⟨_, rfl⟩
                have OWN4 := Lib.hid (OWN3.out.grown hgq)
                have x0n := cell_of_grown hgq inx.lt x0
                clear x0
                have x0 := x0n
                clear x0n
                have x1n := cell_of_grown hgq inx.lt x1
                clear x1
                have x1 := x1n
                clear x1n
                have y0n := cell_of_grown hgq iny.lt y0
                clear y0
                have y0 := y0n
                clear y0n
                have y1n := cell_of_grown hgq iny.lt y1
                clear y1
                have y1 := y1n
                clear y1n
                have ca0n := cell_of_grown hgq hia.lt ca0
                clear ca0
                have ca0 := ca0n
                clear ca0n
                have ca1n := cell_of_grown hgq hia.lt ca1
                clear ca1
                have ca1 := ca1n
                clear ca1n
                have hian := inW_grown hgq hia
                clear hia
                have hia := hian
                clear hian
                have cd0n := cell_of_grown hgq hid.lt cd0
                clear cd0
                have cd0 := cd0n
                clear cd0n
                have cd1n := cell_of_grown hgq hid.lt cd1
                clear cd1
                have cd1 := cd1n
                clear cd1n
                have hidn := inW_grown hgq hid
                clear hid
                have hid := hidn
                clear hidn
                have cv0n := cell_of_grown hgq hiv.lt cv0
                clear cv0
                have cv0 := cv0n
                clear cv0n
                have cv1n := cell_of_grown hgq hiv.lt cv1
                clear cv1
                have cv1 := cv1n
                clear cv1n
                have hivn := inW_grown hgq hiv
                clear hiv
                have hiv := hivn
                clear hivn
                have inxn := inW_grown hgq inx
                clear inx
                have inx := inxn
                clear inxn
                have inyn := inW_grown hgq iny
                clear iny
                have iny := inyn
                clear inyn
                have leq : wv0.heap.size ≤ gq := by have za := LEa.out; have zd := LEd.out; have zv := LEv.out; omega
                have Nq1 := Lib.hid (own_ne OWN0.out.o1 leq)
                have Nq2 := Lib.hid (own_ne OWN0.out.o2 leq)
                have Nq3 := Lib.hid (own_ne OWN0.out.o3 leq)
                have Nq4 := Lib.hid (own_ne OWN0.out.o4 leq)
                have szq := grown_size hgq
                have LEq : Hid (wv0.heap.size ≤ wv4.heap.size) := Lib.hid (by have := grown_size hgq; have zv := LEv.out; omega)
                clear leq hbq szq hgq
                go_wp2_with (first | (at_builtin; refine wpList_append_own_at _ rfl (.tmp 131) (.tmp 133) 32 rfl W0.heap.size 23 iv (.agg #[.string ⟨#[]⟩, .string ⟨#[]⟩]) 2 32 slRat HI.out HI0.out HI2.out HI32.out rfl (by decide) _ 1 (rowsR an ad 1) rfl ?c0 _ 1 1 (#[.string (an 1), .string (ad 1)] : Array Value).toList rfl rfl ?d0 (fun u hu => by simp at hu; rcases hu with rfl | rfl <;> rfl) (by decide) (by decide) ?e0 ?_; (case c0 => exact (own_grown OWN4.out.o1 (by with_reducible repeat (first | exact Grown.refl _ | apply Grown.more | apply Grown.alloc | apply Grown.drewN | apply Grown.drew)))); (case d0 => exact news_cell _ _ _ _ (by go_simp)); (case e0 => (have hsz := grown_size OWN4.out.g; go_simp; omega)); intro v0 w9 hown0 hgrow0 hnil0 hblk0; (have OWN5 := Lib.hid ((((OWN4.out.grown (by with_reducible repeat (first | exact Grown.refl _ | apply Grown.more | apply Grown.alloc | apply Grown.drewN | apply Grown.drew)))).app1 hown0 hgrow0 hblk0))); (have cd0n := cell_grownBy hgrow0 (inW_grown (by with_reducible repeat (first | exact Grown.refl _ | apply Grown.more | apply Grown.alloc | apply Grown.drewN | apply Grown.drew)) hid) Nd1.out (cell_of_grown (by with_reducible repeat (first | exact Grown.refl _ | apply Grown.more | apply Grown.alloc | apply Grown.drewN | apply Grown.drew)) hid.lt cd0)); (have cd1n := cell_grownBy hgrow0 (inW_grown (by with_reducible repeat (first | exact Grown.refl _ | apply Grown.more | apply Grown.alloc | apply Grown.drewN | apply Grown.drew)) hid) Nd1.out (cell_of_grown (by with_reducible repeat (first | exact Grown.refl _ | apply Grown.more | apply Grown.alloc | apply Grown.drewN | apply Grown.drew)) hid.lt cd1)); (have hidn := inW_grownBy hgrow0 (inW_grown (by with_reducible repeat (first | exact Grown.refl _ | apply Grown.more | apply Grown.alloc | apply Grown.drewN | apply Grown.drew)) hid)); (have cv0n := cell_grownBy hgrow0 (inW_grown (by with_reducible repeat (first | exact Grown.refl _ | apply Grown.more | apply Grown.alloc | apply Grown.drewN | apply Grown.drew)) hiv) Nv1.out (cell_of_grown (by with_reducible repeat (first | exact Grown.refl _ | apply Grown.more | apply Grown.alloc | apply Grown.drewN | apply Grown.drew)) hiv.lt cv0)); (have cv1n := cell_grownBy hgrow0 (inW_grown (by with_reducible repeat (first | exact Grown.refl _ | apply Grown.more | apply Grown.alloc | apply Grown.drewN | apply Grown.drew)) hiv) Nv1.out (cell_of_grown (by with_reducible repeat (first | exact Grown.refl _ | apply Grown.more | apply Grown.alloc | apply Grown.drewN | apply Grown.drew)) hiv.lt cv1)); (have hivn := inW_grownBy hgrow0 (inW_grown (by with_reducible repeat (first | exact Grown.refl _ | apply Grown.more | apply Grown.alloc | apply Grown.drewN | apply Grown.drew)) hiv)); (have cq0n := cell_grownBy hgrow0 (inW_grown (by with_reducible repeat (first | exact Grown.refl _ | apply Grown.more | apply Grown.alloc | apply Grown.drewN | apply Grown.drew)) hiq) Nq1.out (cell_of_grown (by with_reducible repeat (first | exact Grown.refl _ | apply Grown.more | apply Grown.alloc | apply Grown.drewN | apply Grown.drew)) hiq.lt cq0)); (have cq1n := cell_grownBy hgrow0 (inW_grown (by with_reducible repeat (first | exact Grown.refl _ | apply Grown.more | apply Grown.alloc | apply Grown.drewN | apply Grown.drew)) hiq) Nq1.out (cell_of_grown (by with_reducible repeat (first | exact Grown.refl _ | apply Grown.more | apply Grown.alloc | apply Grown.drewN | apply Grown.drew)) hiq.lt cq1)); (have hiqn := inW_grownBy hgrow0 (inW_grown (by with_reducible repeat (first | exact Grown.refl _ | apply Grown.more | apply Grown.alloc | apply Grown.drewN | apply Grown.drew)) hiq)); clear cd0; (have cd0 := cd0n); clear cd0n; clear cd1; (have cd1 := cd1n); clear cd1n; clear hid; (have hid := hidn); clear hidn; clear cv0; (have cv0 := cv0n); clear cv0n; clear cv1; (have cv1 := cv1n); clear cv1n; clear hiv; (have hiv := hivn); clear hivn; clear cq0; (have cq0 := cq0n); clear cq0n; clear cq1; (have cq1 := cq1n); clear cq1n; clear hiq; (have hiq := hiqn); clear hiqn; clear hown0 hgrow0 hnil0 hblk0) | (at_builtin; refine wpList_append_own_at _ rfl (.tmp 135) (.tmp 137) 32 rfl W0.heap.size 23 iv (.agg #[.string ⟨#[]⟩, .string ⟨#[]⟩]) 2 32 slRat HI.out HI0.out HI2.out HI32.out rfl (by decide) _ 1 (rowsR dn dd 1) rfl ?c1 _ 1 1 (#[.string (dn 1), .string (dd 1)] : Array Value).toList rfl rfl ?d1 (fun u hu => by simp at hu; rcases hu with rfl | rfl <;> rfl) (by decide) (by decide) ?e1 ?_; (case c1 => exact (own_grown OWN5.out.o2 (by with_reducible repeat (first | exact Grown.refl _ | apply Grown.more | apply Grown.alloc | apply Grown.drewN | apply Grown.drew)))); (case d1 => exact news_cell _ _ _ _ (by go_simp)); (case e1 => (have hsz := grown_size OWN5.out.g; go_simp; omega)); intro v1 w10 hown1 hgrow1 hnil1 hblk1; (have OWN6 := Lib.hid ((((OWN5.out.grown (by with_reducible repeat (first | exact Grown.refl _ | apply Grown.more | apply Grown.alloc | apply Grown.drewN | apply Grown.drew))).rot).app1 hown1 hgrow1 hblk1).rot.rot.rot)); (have cv0n := cell_grownBy hgrow1 (inW_grown (by with_reducible repeat (first | exact Grown.refl _ | apply Grown.more | apply Grown.alloc | apply Grown.drewN | apply Grown.drew)) hiv) Nv2.out (cell_of_grown (by with_reducible repeat (first | exact Grown.refl _ | apply Grown.more | apply Grown.alloc | apply Grown.drewN | apply Grown.drew)) hiv.lt cv0)); (have cv1n := cell_grownBy hgrow1 (inW_grown (by with_reducible repeat (first | exact Grown.refl _ | apply Grown.more | apply Grown.alloc | apply Grown.drewN | apply Grown.drew)) hiv) Nv2.out (cell_of_grown (by with_reducible repeat (first | exact Grown.refl _ | apply Grown.more | apply Grown.alloc | apply Grown.drewN | apply Grown.drew)) hiv.lt cv1)); (have hivn := inW_grownBy hgrow1 (inW_grown (by with_reducible repeat (first | exact Grown.refl _ | apply Grown.more | apply Grown.alloc | apply Grown.drewN | apply Grown.drew)) hiv)); (have cq0n := cell_grownBy hgrow1 (inW_grown (by with_reducible repeat (first | exact Grown.refl _ | apply Grown.more | apply Grown.alloc | apply Grown.drewN | apply Grown.drew)) hiq) Nq2.out (cell_of_grown (by with_reducible repeat (first | exact Grown.refl _ | apply Grown.more | apply Grown.alloc | apply Grown.drewN | apply Grown.drew)) hiq.lt cq0)); (have cq1n := cell_grownBy hgrow1 (inW_grown (by with_reducible repeat (first | exact Grown.refl _ | apply Grown.more | apply Grown.alloc | apply Grown.drewN | apply Grown.drew)) hiq) Nq2.out (cell_of_grown (by with_reducible repeat (first | exact Grown.refl _ | apply Grown.more | apply Grown.alloc | apply Grown.drewN | apply Grown.drew)) hiq.lt cq1)); (have hiqn := inW_grownBy hgrow1 (inW_grown (by with_reducible repeat (first | exact Grown.refl _ | apply Grown.more | apply Grown.alloc | apply Grown.drewN | apply Grown.drew)) hiq)); clear cv0; (have cv0 := cv0n); clear cv0n; clear cv1; (have cv1 := cv1n); clear cv1n; clear hiv; (have hiv := hivn); clear hivn; clear cq0; (have cq0 := cq0n); clear cq0n; clear cq1; (have cq1 := cq1n); clear cq1n; clear hiq; (have hiq := hiqn); clear hiqn; clear hown1 hgrow1 hnil1 hblk1) | (at_builtin; refine wpList_append_own_at _ rfl (.tmp 139) (.tmp 141) 32 rfl W0.heap.size 23 iv (.agg #[.string ⟨#[]⟩, .string ⟨#[]⟩]) 2 32 slRat HI.out HI0.out HI2.out HI32.out rfl (by decide) _ 1 (rowsR vn vd 1) rfl ?c2 _ 1 1 (#[.string (vn 1), .string (vd 1)] : Array Value).toList rfl rfl ?d2 (fun u hu => by simp at hu; rcases hu with rfl | rfl <;> rfl) (by decide) (by decide) ?e2 ?_; (case c2 => exact (own_grown OWN6.out.o3 (by with_reducible repeat (first | exact Grown.refl _ | apply Grown.more | apply Grown.alloc | apply Grown.drewN | apply Grown.drew)))); (case d2 => exact news_cell _ _ _ _ (by go_simp)); (case e2 => (have hsz := grown_size OWN6.out.g; go_simp; omega)); intro v2 w11 hown2 hgrow2 hnil2 hblk2; (have OWN7 := Lib.hid ((((OWN6.out.grown (by with_reducible repeat (first | exact Grown.refl _ | apply Grown.more | apply Grown.alloc | apply Grown.drewN | apply Grown.drew))).rot.rot).app1 hown2 hgrow2 hblk2).rot.rot)); (have cq0n := cell_grownBy hgrow2 (inW_grown (by with_reducible repeat (first | exact Grown.refl _ | apply Grown.more | apply Grown.alloc | apply Grown.drewN | apply Grown.drew)) hiq) Nq3.out (cell_of_grown (by with_reducible repeat (first | exact Grown.refl _ | apply Grown.more | apply Grown.alloc | apply Grown.drewN | apply Grown.drew)) hiq.lt cq0)); (have cq1n := cell_grownBy hgrow2 (inW_grown (by with_reducible repeat (first | exact Grown.refl _ | apply Grown.more | apply Grown.alloc | apply Grown.drewN | apply Grown.drew)) hiq) Nq3.out (cell_of_grown (by with_reducible repeat (first | exact Grown.refl _ | apply Grown.more | apply Grown.alloc | apply Grown.drewN | apply Grown.drew)) hiq.lt cq1)); (have hiqn := inW_grownBy hgrow2 (inW_grown (by with_reducible repeat (first | exact Grown.refl _ | apply Grown.more | apply Grown.alloc | apply Grown.drewN | apply Grown.drew)) hiq)); clear cq0; (have cq0 := cq0n); clear cq0n; clear cq1; (have cq1 := cq1n); clear cq1n; clear hiq; (have hiq := hiqn); clear hiqn; clear hown2 hgrow2 hnil2 hblk2) | (at_builtin; refine wpList_append_own_at _ rfl (.tmp 143) (.tmp 145) 32 rfl W0.heap.size 23 iv (.agg #[.string ⟨#[]⟩, .string ⟨#[]⟩]) 2 32 slRat HI.out HI0.out HI2.out HI32.out rfl (by decide) _ 1 (rowsR qn qd 1) rfl ?c3 _ 1 1 (#[.string (qn 1), .string (qd 1)] : Array Value).toList rfl rfl ?d3 (fun u hu => by simp at hu; rcases hu with rfl | rfl <;> rfl) (by decide) (by decide) ?e3 ?_; (case c3 => exact (own_grown OWN7.out.o4 (by with_reducible repeat (first | exact Grown.refl _ | apply Grown.more | apply Grown.alloc | apply Grown.drewN | apply Grown.drew)))); (case d3 => exact news_cell _ _ _ _ (by go_simp)); (case e3 => (have hsz := grown_size OWN7.out.g; go_simp; omega)); intro v3 w12 hown3 hgrow3 hnil3 hblk3; (have OWN8 := Lib.hid ((((OWN7.out.grown (by with_reducible repeat (first | exact Grown.refl _ | apply Grown.more | apply Grown.alloc | apply Grown.drewN | apply Grown.drew))).rot.rot.rot).app1 hown3 hgrow3 hblk3).rot)); clear hown3 hgrow3 hnil3 hblk3))
                go_roundw
                case measure => show 4 - 2 < 4 - 1; omega
                case rel => exact ⟨2, rfl, by omega, OWN8.out⟩
      · as_aux_lemma =>
        obtain ⟨wv0, rfl⟩ : ∃ x : World, x = wr := ⟨_, rfl⟩
        have x0 := cell_of_grown HOWN.out.g (World.block_lt_of_cell? W0 _ FX2.out) FX2.out
        have x1 := cell_of_grown HOWN.out.g (World.block_lt_of_cell? W0 _ FX3.out) FX3.out
        have y0 := cell_of_grown HOWN.out.g (World.block_lt_of_cell? W0 _ FY0.out) FY0.out
        have y1 := cell_of_grown HOWN.out.g (World.block_lt_of_cell? W0 _ FY1.out) FY1.out
        have ka := KA.out 2 (by omega)
        rw [show (2 / 2) = 1 from rfl, show (2 % 2) = 0 from rfl, HX.out.2.2.1, HX.out.2.2.2, HY.out.1, HY.out.2.1] at ka
        have ka' := Lib.hid ka
        clear ka
        have ks := KS.out 2 (by omega)
        rw [show (2 / 2) = 1 from rfl, show (2 % 2) = 0 from rfl, HX.out.2.2.1, HX.out.2.2.2, HY.out.1, HY.out.2.1] at ks
        have ks' := Lib.hid ks
        clear ks
        have km := KM.out 2 (by omega)
        rw [show (2 / 2) = 1 from rfl, show (2 % 2) = 0 from rfl, HX.out.2.2.1, HX.out.2.2.2, HY.out.1, HY.out.2.1] at km
        have km' := Lib.hid km
        clear km
        have kq := KQ.out 2 (by omega)
        rw [show (2 / 2) = 1 from rfl, show (2 % 2) = 0 from rfl, HX.out.2.2.1, HX.out.2.2.2, HY.out.1, HY.out.2.1] at kq
        have kq' := Lib.hid kq
        clear kq
        rw [show ((2 : Nat) : Int) = 2 from rfl]
        have inx : InW (w.heap.size + 1 + 1 + (oP1.size + oP2.size)) wv0 := World.block_lt_of_cell? wv0 _ x0
        have iny : InW (w.heap.size + 1 + 1 + (oP1.size + oP2.size) + 1) wv0 := World.block_lt_of_cell? wv0 _ y0
        have HO1 := Lib.hid HOWN.out
        have own0 := HOWN.out
        have OWN0 := Lib.hid own0
        clear own0 HO1
        have hw1 : IntKind.i64.wrap (Int.tdiv 2 2) = 1 := by decide
        have hw2 : IntKind.i64.wrap (Int.tmod 2 2) = 0 := by decide
        have hw3 : IntKind.i64.wrap 0 = 0 := by decide
        have hw4 : IntKind.i64.wrap 1 = 1 := by decide
        go_upto_region 16 with fail
        go_cut [20, 21] (fun sa sb wx => ∃ g : Nat, sa = .pointer (some ⟨g, 0, none⟩) ∧ sb = .int .i64 (ae 2) ∧ Grown wv0 wx ∧ InW g wx ∧ wv0.heap.size ≤ g ∧ wx.cell? ⟨g, 0, none⟩ = some (.string (an 2)) ∧ wx.cell? ⟨g, 1, none⟩ = some (.string (ad 2)))
        case first => as_aux_lemma =>
          go_region_held3 (fun w' => w'.cell? ⟨w.heap.size + 1 + 1 + (oP1.size + oP2.size), 2, none⟩ = some (.string r3) ∧ w'.cell? ⟨w.heap.size + 1 + 1 + (oP1.size + oP2.size), 3, none⟩ = some (.string r4) ∧ w'.cell? ⟨w.heap.size + 1 + 1 + (oP1.size + oP2.size) + 1, 0, none⟩ = some (.string s1) ∧ w'.cell? ⟨w.heap.size + 1 + 1 + (oP1.size + oP2.size) + 1, 1, none⟩ = some (.string s2)) (go_simp) (first | (go_at_call 27; ((with_reducible refine (ka'.out _ ?_).mono ?_); (exact HP0.out.grown (OWN0.out.g.trans (by with_reducible repeat (first | exact Grown.refl _ | apply Grown.more | apply Grown.alloc | apply Grown.drewN | apply Grown.drew)))); rintro e w' ⟨rfl, oa, ca, rfl⟩)))
          all_goals (go_wp2_with fail; go_meet; exact ⟨_, rfl, rfl, (by with_reducible repeat (first | exact Grown.refl _ | apply Grown.more | apply Grown.alloc | apply Grown.drewN | apply Grown.drew)), by go_simp, by omega, by go_simp, by go_simp⟩)
        case rest => as_aux_lemma =>
          obtain ⟨ga, rfl, rfl, hga, hia, hba, ca0, ca1⟩ := hcut
          obtain ⟨wv1, rfl⟩ : ∃ x : World, x = wc := ⟨_, rfl⟩
          have OWN1 := Lib.hid (OWN0.out.grown hga)
          have x0n := cell_of_grown hga inx.lt x0
          clear x0
          have x0 := x0n
          clear x0n
          have x1n := cell_of_grown hga inx.lt x1
          clear x1
          have x1 := x1n
          clear x1n
          have y0n := cell_of_grown hga iny.lt y0
          clear y0
          have y0 := y0n
          clear y0n
          have y1n := cell_of_grown hga iny.lt y1
          clear y1
          have y1 := y1n
          clear y1n
          have inxn := inW_grown hga inx
          clear inx
          have inx := inxn
          clear inxn
          have inyn := inW_grown hga iny
          clear iny
          have iny := inyn
          clear inyn
          have lea : wv0.heap.size ≤ ga := by skip; omega
          have Na1 := Lib.hid (own_ne OWN0.out.o1 lea)
          have Na2 := Lib.hid (own_ne OWN0.out.o2 lea)
          have Na3 := Lib.hid (own_ne OWN0.out.o3 lea)
          have Na4 := Lib.hid (own_ne OWN0.out.o4 lea)
          have sza := grown_size hga
          have LEa : Hid (wv0.heap.size ≤ wv1.heap.size) := Lib.hid (by have := grown_size hga; skip; omega)
          clear lea hba sza hga
          go_upto_region 17 with fail
          go_cut [22, 23] (fun sa sb wx => ∃ g : Nat, sa = .pointer (some ⟨g, 0, none⟩) ∧ sb = .int .i64 (de 2) ∧ Grown wv1 wx ∧ InW g wx ∧ wv1.heap.size ≤ g ∧ wx.cell? ⟨g, 0, none⟩ = some (.string (dn 2)) ∧ wx.cell? ⟨g, 1, none⟩ = some (.string (dd 2)))
          case first => as_aux_lemma =>
            go_region_held3 (fun w' => w'.cell? ⟨w.heap.size + 1 + 1 + (oP1.size + oP2.size), 2, none⟩ = some (.string r3) ∧ w'.cell? ⟨w.heap.size + 1 + 1 + (oP1.size + oP2.size), 3, none⟩ = some (.string r4) ∧ w'.cell? ⟨w.heap.size + 1 + 1 + (oP1.size + oP2.size) + 1, 0, none⟩ = some (.string s1) ∧ w'.cell? ⟨w.heap.size + 1 + 1 + (oP1.size + oP2.size) + 1, 1, none⟩ = some (.string s2)) (go_simp) (first | (go_at_call 28; ((with_reducible refine (ks'.out _ ?_).mono ?_); (exact HP0.out.grown (OWN1.out.g.trans (by with_reducible repeat (first | exact Grown.refl _ | apply Grown.more | apply Grown.alloc | apply Grown.drewN | apply Grown.drew)))); rintro e w' ⟨rfl, oa, ca, rfl⟩)))
            all_goals (go_wp2_with fail; go_meet; exact ⟨_, rfl, rfl, (by with_reducible repeat (first | exact Grown.refl _ | apply Grown.more | apply Grown.alloc | apply Grown.drewN | apply Grown.drew)), by go_simp, by omega, by go_simp, by go_simp⟩)
          case rest => as_aux_lemma =>
            obtain ⟨gd, rfl, rfl, hgd, hid, hbd, cd0, cd1⟩ := hcut
            obtain ⟨wv2, rfl⟩ : ∃ x : World, x = wc := ⟨_, rfl⟩
            have OWN2 := Lib.hid (OWN1.out.grown hgd)
            have x0n := cell_of_grown hgd inx.lt x0
            clear x0
            have x0 := x0n
            clear x0n
            have x1n := cell_of_grown hgd inx.lt x1
            clear x1
            have x1 := x1n
            clear x1n
            have y0n := cell_of_grown hgd iny.lt y0
            clear y0
            have y0 := y0n
            clear y0n
            have y1n := cell_of_grown hgd iny.lt y1
            clear y1
            have y1 := y1n
            clear y1n
            have ca0n := cell_of_grown hgd hia.lt ca0
            clear ca0
            have ca0 := ca0n
            clear ca0n
            have ca1n := cell_of_grown hgd hia.lt ca1
            clear ca1
            have ca1 := ca1n
            clear ca1n
            have hian := inW_grown hgd hia
            clear hia
            have hia := hian
            clear hian
            have inxn := inW_grown hgd inx
            clear inx
            have inx := inxn
            clear inxn
            have inyn := inW_grown hgd iny
            clear iny
            have iny := inyn
            clear inyn
            have led : wv0.heap.size ≤ gd := by have za := LEa.out; omega
            have Nd1 := Lib.hid (own_ne OWN0.out.o1 led)
            have Nd2 := Lib.hid (own_ne OWN0.out.o2 led)
            have Nd3 := Lib.hid (own_ne OWN0.out.o3 led)
            have Nd4 := Lib.hid (own_ne OWN0.out.o4 led)
            have szd := grown_size hgd
            have LEd : Hid (wv0.heap.size ≤ wv2.heap.size) := Lib.hid (by have := grown_size hgd; have za := LEa.out; omega)
            clear led hbd szd hgd
            go_upto_region 18 with fail
            go_cut [24, 25] (fun sa sb wx => ∃ g : Nat, sa = .pointer (some ⟨g, 0, none⟩) ∧ sb = .int .i64 (ve 2) ∧ Grown wv2 wx ∧ InW g wx ∧ wv2.heap.size ≤ g ∧ wx.cell? ⟨g, 0, none⟩ = some (.string (vn 2)) ∧ wx.cell? ⟨g, 1, none⟩ = some (.string (vd 2)))
            case first => as_aux_lemma =>
              go_region_held3 (fun w' => w'.cell? ⟨w.heap.size + 1 + 1 + (oP1.size + oP2.size), 2, none⟩ = some (.string r3) ∧ w'.cell? ⟨w.heap.size + 1 + 1 + (oP1.size + oP2.size), 3, none⟩ = some (.string r4) ∧ w'.cell? ⟨w.heap.size + 1 + 1 + (oP1.size + oP2.size) + 1, 0, none⟩ = some (.string s1) ∧ w'.cell? ⟨w.heap.size + 1 + 1 + (oP1.size + oP2.size) + 1, 1, none⟩ = some (.string s2)) (go_simp) (first | (go_at_call 29; ((with_reducible refine (km'.out _ ?_).mono ?_); (exact HP0.out.grown (OWN2.out.g.trans (by with_reducible repeat (first | exact Grown.refl _ | apply Grown.more | apply Grown.alloc | apply Grown.drewN | apply Grown.drew)))); rintro e w' ⟨rfl, oa, ca, rfl⟩)))
              all_goals (go_wp2_with fail; go_meet; exact ⟨_, rfl, rfl, (by with_reducible repeat (first | exact Grown.refl _ | apply Grown.more | apply Grown.alloc | apply Grown.drewN | apply Grown.drew)), by go_simp, by omega, by go_simp, by go_simp⟩)
            case rest => as_aux_lemma =>
              obtain ⟨gv, rfl, rfl, hgv, hiv, hbv, cv0, cv1⟩ := hcut
              obtain ⟨wv3, rfl⟩ : ∃ x : World, x = wc := ⟨_, rfl⟩
              have OWN3 := Lib.hid (OWN2.out.grown hgv)
              have x0n := cell_of_grown hgv inx.lt x0
              clear x0
              have x0 := x0n
              clear x0n
              have x1n := cell_of_grown hgv inx.lt x1
              clear x1
              have x1 := x1n
              clear x1n
              have y0n := cell_of_grown hgv iny.lt y0
              clear y0
              have y0 := y0n
              clear y0n
              have y1n := cell_of_grown hgv iny.lt y1
              clear y1
              have y1 := y1n
              clear y1n
              have ca0n := cell_of_grown hgv hia.lt ca0
              clear ca0
              have ca0 := ca0n
              clear ca0n
              have ca1n := cell_of_grown hgv hia.lt ca1
              clear ca1
              have ca1 := ca1n
              clear ca1n
              have hian := inW_grown hgv hia
              clear hia
              have hia := hian
              clear hian
              have cd0n := cell_of_grown hgv hid.lt cd0
              clear cd0
              have cd0 := cd0n
              clear cd0n
              have cd1n := cell_of_grown hgv hid.lt cd1
              clear cd1
              have cd1 := cd1n
              clear cd1n
              have hidn := inW_grown hgv hid
              clear hid
              have hid := hidn
              clear hidn
              have inxn := inW_grown hgv inx
              clear inx
              have inx := inxn
              clear inxn
              have inyn := inW_grown hgv iny
              clear iny
              have iny := inyn
              clear inyn
              have lev : wv0.heap.size ≤ gv := by have za := LEa.out; have zd := LEd.out; omega
              have Nv1 := Lib.hid (own_ne OWN0.out.o1 lev)
              have Nv2 := Lib.hid (own_ne OWN0.out.o2 lev)
              have Nv3 := Lib.hid (own_ne OWN0.out.o3 lev)
              have Nv4 := Lib.hid (own_ne OWN0.out.o4 lev)
              have szv := grown_size hgv
              have LEv : Hid (wv0.heap.size ≤ wv3.heap.size) := Lib.hid (by have := grown_size hgv; have zd := LEd.out; omega)
              clear lev hbv szv hgv
              go_upto_region 19 with fail
              go_cut [26, 27] (fun sa sb wx => ∃ g : Nat, sa = .pointer (some ⟨g, 0, none⟩) ∧ sb = .int .i64 (qe 2) ∧ Grown wv3 wx ∧ InW g wx ∧ wv3.heap.size ≤ g ∧ wx.cell? ⟨g, 0, none⟩ = some (.string (qn 2)) ∧ wx.cell? ⟨g, 1, none⟩ = some (.string (qd 2)))
              case first => as_aux_lemma =>
                go_region_held3 (fun w' => w'.cell? ⟨w.heap.size + 1 + 1 + (oP1.size + oP2.size), 2, none⟩ = some (.string r3) ∧ w'.cell? ⟨w.heap.size + 1 + 1 + (oP1.size + oP2.size), 3, none⟩ = some (.string r4) ∧ w'.cell? ⟨w.heap.size + 1 + 1 + (oP1.size + oP2.size) + 1, 0, none⟩ = some (.string s1) ∧ w'.cell? ⟨w.heap.size + 1 + 1 + (oP1.size + oP2.size) + 1, 1, none⟩ = some (.string s2)) (go_simp) (first | (go_at_call 30; ((with_reducible refine (kq'.out _ ?_).mono ?_); (exact HP0.out.grown (OWN3.out.g.trans (by with_reducible repeat (first | exact Grown.refl _ | apply Grown.more | apply Grown.alloc | apply Grown.drewN | apply Grown.drew)))); rintro e w' ⟨rfl, oa, ca, rfl⟩)))
                all_goals (go_wp2_with fail; go_meet; exact ⟨_, rfl, rfl, (by with_reducible repeat (first | exact Grown.refl _ | apply Grown.more | apply Grown.alloc | apply Grown.drewN | apply Grown.drew)), by go_simp, by omega, by go_simp, by go_simp⟩)
              case rest => as_aux_lemma =>
                obtain ⟨gq, rfl, rfl, hgq, hiq, hbq, cq0, cq1⟩ := hcut
                obtain ⟨wv4, rfl⟩ : ∃ x : World, x = wc := ⟨_, rfl⟩
                have OWN4 := Lib.hid (OWN3.out.grown hgq)
                have x0n := cell_of_grown hgq inx.lt x0
                clear x0
                have x0 := x0n
                clear x0n
                have x1n := cell_of_grown hgq inx.lt x1
                clear x1
                have x1 := x1n
                clear x1n
                have y0n := cell_of_grown hgq iny.lt y0
                clear y0
                have y0 := y0n
                clear y0n
                have y1n := cell_of_grown hgq iny.lt y1
                clear y1
                have y1 := y1n
                clear y1n
                have ca0n := cell_of_grown hgq hia.lt ca0
                clear ca0
                have ca0 := ca0n
                clear ca0n
                have ca1n := cell_of_grown hgq hia.lt ca1
                clear ca1
                have ca1 := ca1n
                clear ca1n
                have hian := inW_grown hgq hia
                clear hia
                have hia := hian
                clear hian
                have cd0n := cell_of_grown hgq hid.lt cd0
                clear cd0
                have cd0 := cd0n
                clear cd0n
                have cd1n := cell_of_grown hgq hid.lt cd1
                clear cd1
                have cd1 := cd1n
                clear cd1n
                have hidn := inW_grown hgq hid
                clear hid
                have hid := hidn
                clear hidn
                have cv0n := cell_of_grown hgq hiv.lt cv0
                clear cv0
                have cv0 := cv0n
                clear cv0n
                have cv1n := cell_of_grown hgq hiv.lt cv1
                clear cv1
                have cv1 := cv1n
                clear cv1n
                have hivn := inW_grown hgq hiv
                clear hiv
                have hiv := hivn
                clear hivn
                have inxn := inW_grown hgq inx
                clear inx
                have inx := inxn
                clear inxn
                have inyn := inW_grown hgq iny
                clear iny
                have iny := inyn
                clear inyn
                have leq : wv0.heap.size ≤ gq := by have za := LEa.out; have zd := LEd.out; have zv := LEv.out; omega
                have Nq1 := Lib.hid (own_ne OWN0.out.o1 leq)
                have Nq2 := Lib.hid (own_ne OWN0.out.o2 leq)
                have Nq3 := Lib.hid (own_ne OWN0.out.o3 leq)
                have Nq4 := Lib.hid (own_ne OWN0.out.o4 leq)
                have szq := grown_size hgq
                have LEq : Hid (wv0.heap.size ≤ wv4.heap.size) := Lib.hid (by have := grown_size hgq; have zv := LEv.out; omega)
                clear leq hbq szq hgq
                go_wp2_with (first | (at_builtin; refine wpList_append_own_at _ rfl (.tmp 131) (.tmp 133) 32 rfl W0.heap.size 23 iv (.agg #[.string ⟨#[]⟩, .string ⟨#[]⟩]) 2 32 slRat HI.out HI0.out HI2.out HI32.out rfl (by decide) _ 2 (rowsR an ad 2) rfl ?c0 _ 1 1 (#[.string (an 2), .string (ad 2)] : Array Value).toList rfl rfl ?d0 (fun u hu => by simp at hu; rcases hu with rfl | rfl <;> rfl) (by decide) (by decide) ?e0 ?_; (case c0 => exact (own_grown OWN4.out.o1 (by with_reducible repeat (first | exact Grown.refl _ | apply Grown.more | apply Grown.alloc | apply Grown.drewN | apply Grown.drew)))); (case d0 => exact news_cell _ _ _ _ (by go_simp)); (case e0 => (have hsz := grown_size OWN4.out.g; go_simp; omega)); intro v0 w9 hown0 hgrow0 hnil0 hblk0; (have OWN5 := Lib.hid ((((OWN4.out.grown (by with_reducible repeat (first | exact Grown.refl _ | apply Grown.more | apply Grown.alloc | apply Grown.drewN | apply Grown.drew)))).app1 hown0 hgrow0 hblk0))); (have cd0n := cell_grownBy hgrow0 (inW_grown (by with_reducible repeat (first | exact Grown.refl _ | apply Grown.more | apply Grown.alloc | apply Grown.drewN | apply Grown.drew)) hid) Nd1.out (cell_of_grown (by with_reducible repeat (first | exact Grown.refl _ | apply Grown.more | apply Grown.alloc | apply Grown.drewN | apply Grown.drew)) hid.lt cd0)); (have cd1n := cell_grownBy hgrow0 (inW_grown (by with_reducible repeat (first | exact Grown.refl _ | apply Grown.more | apply Grown.alloc | apply Grown.drewN | apply Grown.drew)) hid) Nd1.out (cell_of_grown (by with_reducible repeat (first | exact Grown.refl _ | apply Grown.more | apply Grown.alloc | apply Grown.drewN | apply Grown.drew)) hid.lt cd1)); (have hidn := inW_grownBy hgrow0 (inW_grown (by with_reducible repeat (first | exact Grown.refl _ | apply Grown.more | apply Grown.alloc | apply Grown.drewN | apply Grown.drew)) hid)); (have cv0n := cell_grownBy hgrow0 (inW_grown (by with_reducible repeat (first | exact Grown.refl _ | apply Grown.more | apply Grown.alloc | apply Grown.drewN | apply Grown.drew)) hiv) Nv1.out (cell_of_grown (by with_reducible repeat (first | exact Grown.refl _ | apply Grown.more | apply Grown.alloc | apply Grown.drewN | apply Grown.drew)) hiv.lt cv0)); (have cv1n := cell_grownBy hgrow0 (inW_grown (by with_reducible repeat (first | exact Grown.refl _ | apply Grown.more | apply Grown.alloc | apply Grown.drewN | apply Grown.drew)) hiv) Nv1.out (cell_of_grown (by with_reducible repeat (first | exact Grown.refl _ | apply Grown.more | apply Grown.alloc | apply Grown.drewN | apply Grown.drew)) hiv.lt cv1)); (have hivn := inW_grownBy hgrow0 (inW_grown (by with_reducible repeat (first | exact Grown.refl _ | apply Grown.more | apply Grown.alloc | apply Grown.drewN | apply Grown.drew)) hiv)); (have cq0n := cell_grownBy hgrow0 (inW_grown (by with_reducible repeat (first | exact Grown.refl _ | apply Grown.more | apply Grown.alloc | apply Grown.drewN | apply Grown.drew)) hiq) Nq1.out (cell_of_grown (by with_reducible repeat (first | exact Grown.refl _ | apply Grown.more | apply Grown.alloc | apply Grown.drewN | apply Grown.drew)) hiq.lt cq0)); (have cq1n := cell_grownBy hgrow0 (inW_grown (by with_reducible repeat (first | exact Grown.refl _ | apply Grown.more | apply Grown.alloc | apply Grown.drewN | apply Grown.drew)) hiq) Nq1.out (cell_of_grown (by with_reducible repeat (first | exact Grown.refl _ | apply Grown.more | apply Grown.alloc | apply Grown.drewN | apply Grown.drew)) hiq.lt cq1)); (have hiqn := inW_grownBy hgrow0 (inW_grown (by with_reducible repeat (first | exact Grown.refl _ | apply Grown.more | apply Grown.alloc | apply Grown.drewN | apply Grown.drew)) hiq)); clear cd0; (have cd0 := cd0n); clear cd0n; clear cd1; (have cd1 := cd1n); clear cd1n; clear hid; (have hid := hidn); clear hidn; clear cv0; (have cv0 := cv0n); clear cv0n; clear cv1; (have cv1 := cv1n); clear cv1n; clear hiv; (have hiv := hivn); clear hivn; clear cq0; (have cq0 := cq0n); clear cq0n; clear cq1; (have cq1 := cq1n); clear cq1n; clear hiq; (have hiq := hiqn); clear hiqn; clear hown0 hgrow0 hnil0 hblk0) | (at_builtin; refine wpList_append_own_at _ rfl (.tmp 135) (.tmp 137) 32 rfl W0.heap.size 23 iv (.agg #[.string ⟨#[]⟩, .string ⟨#[]⟩]) 2 32 slRat HI.out HI0.out HI2.out HI32.out rfl (by decide) _ 2 (rowsR dn dd 2) rfl ?c1 _ 1 1 (#[.string (dn 2), .string (dd 2)] : Array Value).toList rfl rfl ?d1 (fun u hu => by simp at hu; rcases hu with rfl | rfl <;> rfl) (by decide) (by decide) ?e1 ?_; (case c1 => exact (own_grown OWN5.out.o2 (by with_reducible repeat (first | exact Grown.refl _ | apply Grown.more | apply Grown.alloc | apply Grown.drewN | apply Grown.drew)))); (case d1 => exact news_cell _ _ _ _ (by go_simp)); (case e1 => (have hsz := grown_size OWN5.out.g; go_simp; omega)); intro v1 w10 hown1 hgrow1 hnil1 hblk1; (have OWN6 := Lib.hid ((((OWN5.out.grown (by with_reducible repeat (first | exact Grown.refl _ | apply Grown.more | apply Grown.alloc | apply Grown.drewN | apply Grown.drew))).rot).app1 hown1 hgrow1 hblk1).rot.rot.rot)); (have cv0n := cell_grownBy hgrow1 (inW_grown (by with_reducible repeat (first | exact Grown.refl _ | apply Grown.more | apply Grown.alloc | apply Grown.drewN | apply Grown.drew)) hiv) Nv2.out (cell_of_grown (by with_reducible repeat (first | exact Grown.refl _ | apply Grown.more | apply Grown.alloc | apply Grown.drewN | apply Grown.drew)) hiv.lt cv0)); (have cv1n := cell_grownBy hgrow1 (inW_grown (by with_reducible repeat (first | exact Grown.refl _ | apply Grown.more | apply Grown.alloc | apply Grown.drewN | apply Grown.drew)) hiv) Nv2.out (cell_of_grown (by with_reducible repeat (first | exact Grown.refl _ | apply Grown.more | apply Grown.alloc | apply Grown.drewN | apply Grown.drew)) hiv.lt cv1)); (have hivn := inW_grownBy hgrow1 (inW_grown (by with_reducible repeat (first | exact Grown.refl _ | apply Grown.more | apply Grown.alloc | apply Grown.drewN | apply Grown.drew)) hiv)); (have cq0n := cell_grownBy hgrow1 (inW_grown (by with_reducible repeat (first | exact Grown.refl _ | apply Grown.more | apply Grown.alloc | apply Grown.drewN | apply Grown.drew)) hiq) Nq2.out (cell_of_grown (by with_reducible repeat (first | exact Grown.refl _ | apply Grown.more | apply Grown.alloc | apply Grown.drewN | apply Grown.drew)) hiq.lt cq0)); (have cq1n := cell_grownBy hgrow1 (inW_grown (by with_reducible repeat (first | exact Grown.refl _ | apply Grown.more | apply Grown.alloc | apply Grown.drewN | apply Grown.drew)) hiq) Nq2.out (cell_of_grown (by with_reducible repeat (first | exact Grown.refl _ | apply Grown.more | apply Grown.alloc | apply Grown.drewN | apply Grown.drew)) hiq.lt cq1)); (have hiqn := inW_grownBy hgrow1 (inW_grown (by with_reducible repeat (first | exact Grown.refl _ | apply Grown.more | apply Grown.alloc | apply Grown.drewN | apply Grown.drew)) hiq)); clear cv0; (have cv0 := cv0n); clear cv0n; clear cv1; (have cv1 := cv1n); clear cv1n; clear hiv; (have hiv := hivn); clear hivn; clear cq0; (have cq0 := cq0n); clear cq0n; clear cq1; (have cq1 := cq1n); clear cq1n; clear hiq; (have hiq := hiqn); clear hiqn; clear hown1 hgrow1 hnil1 hblk1) | (at_builtin; refine wpList_append_own_at _ rfl (.tmp 139) (.tmp 141) 32 rfl W0.heap.size 23 iv (.agg #[.string ⟨#[]⟩, .string ⟨#[]⟩]) 2 32 slRat HI.out HI0.out HI2.out HI32.out rfl (by decide) _ 2 (rowsR vn vd 2) rfl ?c2 _ 1 1 (#[.string (vn 2), .string (vd 2)] : Array Value).toList rfl rfl ?d2 (fun u hu => by simp at hu; rcases hu with rfl | rfl <;> rfl) (by decide) (by decide) ?e2 ?_; (case c2 => exact (own_grown OWN6.out.o3 (by with_reducible repeat (first | exact Grown.refl _ | apply Grown.more | apply Grown.alloc | apply Grown.drewN | apply Grown.drew)))); (case d2 => exact news_cell _ _ _ _ (by go_simp)); (case e2 => (have hsz := grown_size OWN6.out.g; go_simp; omega)); intro v2 w11 hown2 hgrow2 hnil2 hblk2; (have OWN7 := Lib.hid ((((OWN6.out.grown (by with_reducible repeat (first | exact Grown.refl _ | apply Grown.more | apply Grown.alloc | apply Grown.drewN | apply Grown.drew))).rot.rot).app1 hown2 hgrow2 hblk2).rot.rot)); (have cq0n := cell_grownBy hgrow2 (inW_grown (by with_reducible repeat (first | exact Grown.refl _ | apply Grown.more | apply Grown.alloc | apply Grown.drewN | apply Grown.drew)) hiq) Nq3.out (cell_of_grown (by with_reducible repeat (first | exact Grown.refl _ | apply Grown.more | apply Grown.alloc | apply Grown.drewN | apply Grown.drew)) hiq.lt cq0)); (have cq1n := cell_grownBy hgrow2 (inW_grown (by with_reducible repeat (first | exact Grown.refl _ | apply Grown.more | apply Grown.alloc | apply Grown.drewN | apply Grown.drew)) hiq) Nq3.out (cell_of_grown (by with_reducible repeat (first | exact Grown.refl _ | apply Grown.more | apply Grown.alloc | apply Grown.drewN | apply Grown.drew)) hiq.lt cq1)); (have hiqn := inW_grownBy hgrow2 (inW_grown (by with_reducible repeat (first | exact Grown.refl _ | apply Grown.more | apply Grown.alloc | apply Grown.drewN | apply Grown.drew)) hiq)); clear cq0; (have cq0 := cq0n); clear cq0n; clear cq1; (have cq1 := cq1n); clear cq1n; clear hiq; (have hiq := hiqn); clear hiqn; clear hown2 hgrow2 hnil2 hblk2) | (at_builtin; refine wpList_append_own_at _ rfl (.tmp 143) (.tmp 145) 32 rfl W0.heap.size 23 iv (.agg #[.string ⟨#[]⟩, .string ⟨#[]⟩]) 2 32 slRat HI.out HI0.out HI2.out HI32.out rfl (by decide) _ 2 (rowsR qn qd 2) rfl ?c3 _ 1 1 (#[.string (qn 2), .string (qd 2)] : Array Value).toList rfl rfl ?d3 (fun u hu => by simp at hu; rcases hu with rfl | rfl <;> rfl) (by decide) (by decide) ?e3 ?_; (case c3 => exact (own_grown OWN7.out.o4 (by with_reducible repeat (first | exact Grown.refl _ | apply Grown.more | apply Grown.alloc | apply Grown.drewN | apply Grown.drew)))); (case d3 => exact news_cell _ _ _ _ (by go_simp)); (case e3 => (have hsz := grown_size OWN7.out.g; go_simp; omega)); intro v3 w12 hown3 hgrow3 hnil3 hblk3; (have OWN8 := Lib.hid ((((OWN7.out.grown (by with_reducible repeat (first | exact Grown.refl _ | apply Grown.more | apply Grown.alloc | apply Grown.drewN | apply Grown.drew))).rot.rot.rot).app1 hown3 hgrow3 hblk3).rot)); clear hown3 hgrow3 hnil3 hblk3))
                go_roundw
                case measure => show 4 - 3 < 4 - 2; omega
                case rel => exact ⟨3, rfl, by omega, OWN8.out⟩
      · as_aux_lemma =>
        obtain ⟨wv0, rfl⟩ : ∃ x : World, x = wr := ⟨_, rfl⟩
        have x0 := cell_of_grown HOWN.out.g (World.block_lt_of_cell? W0 _ FX2.out) FX2.out
        have x1 := cell_of_grown HOWN.out.g (World.block_lt_of_cell? W0 _ FX3.out) FX3.out
        have y0 := cell_of_grown HOWN.out.g (World.block_lt_of_cell? W0 _ FY2.out) FY2.out
        have y1 := cell_of_grown HOWN.out.g (World.block_lt_of_cell? W0 _ FY3.out) FY3.out
        have ka := KA.out 3 (by omega)
        rw [show (3 / 2) = 1 from rfl, show (3 % 2) = 1 from rfl, HX.out.2.2.1, HX.out.2.2.2, HY.out.2.2.1, HY.out.2.2.2] at ka
        have ka' := Lib.hid ka
        clear ka
        have ks := KS.out 3 (by omega)
        rw [show (3 / 2) = 1 from rfl, show (3 % 2) = 1 from rfl, HX.out.2.2.1, HX.out.2.2.2, HY.out.2.2.1, HY.out.2.2.2] at ks
        have ks' := Lib.hid ks
        clear ks
        have km := KM.out 3 (by omega)
        rw [show (3 / 2) = 1 from rfl, show (3 % 2) = 1 from rfl, HX.out.2.2.1, HX.out.2.2.2, HY.out.2.2.1, HY.out.2.2.2] at km
        have km' := Lib.hid km
        clear km
        have kq := KQ.out 3 (by omega)
        rw [show (3 / 2) = 1 from rfl, show (3 % 2) = 1 from rfl, HX.out.2.2.1, HX.out.2.2.2, HY.out.2.2.1, HY.out.2.2.2] at kq
        have kq' := Lib.hid kq
        clear kq
        rw [show ((3 : Nat) : Int) = 3 from rfl]
        have inx : InW (w.heap.size + 1 + 1 + (oP1.size + oP2.size)) wv0 := World.block_lt_of_cell? wv0 _ x0
        have iny : InW (w.heap.size + 1 + 1 + (oP1.size + oP2.size) + 1) wv0 := World.block_lt_of_cell? wv0 _ y0
        have HO1 := Lib.hid HOWN.out
        have own0 := HOWN.out
        have OWN0 := Lib.hid own0
        clear own0 HO1
        have hw1 : IntKind.i64.wrap (Int.tdiv 3 2) = 1 := by decide
        have hw2 : IntKind.i64.wrap (Int.tmod 3 2) = 1 := by decide
        have hw3 : IntKind.i64.wrap 0 = 0 := by decide
        have hw4 : IntKind.i64.wrap 1 = 1 := by decide
        go_upto_region 16 with fail
        go_cut [20, 21] (fun sa sb wx => ∃ g : Nat, sa = .pointer (some ⟨g, 0, none⟩) ∧ sb = .int .i64 (ae 3) ∧ Grown wv0 wx ∧ InW g wx ∧ wv0.heap.size ≤ g ∧ wx.cell? ⟨g, 0, none⟩ = some (.string (an 3)) ∧ wx.cell? ⟨g, 1, none⟩ = some (.string (ad 3)))
        case first => as_aux_lemma =>
          go_region_held3 (fun w' => w'.cell? ⟨w.heap.size + 1 + 1 + (oP1.size + oP2.size), 2, none⟩ = some (.string r3) ∧ w'.cell? ⟨w.heap.size + 1 + 1 + (oP1.size + oP2.size), 3, none⟩ = some (.string r4) ∧ w'.cell? ⟨w.heap.size + 1 + 1 + (oP1.size + oP2.size) + 1, 2, none⟩ = some (.string s3) ∧ w'.cell? ⟨w.heap.size + 1 + 1 + (oP1.size + oP2.size) + 1, 3, none⟩ = some (.string s4)) (go_simp) (first | (go_at_call 27; ((with_reducible refine (ka'.out _ ?_).mono ?_); (exact HP0.out.grown (OWN0.out.g.trans (by with_reducible repeat (first | exact Grown.refl _ | apply Grown.more | apply Grown.alloc | apply Grown.drewN | apply Grown.drew)))); rintro e w' ⟨rfl, oa, ca, rfl⟩)))
          all_goals (go_wp2_with fail; go_meet; exact ⟨_, rfl, rfl, (by with_reducible repeat (first | exact Grown.refl _ | apply Grown.more | apply Grown.alloc | apply Grown.drewN | apply Grown.drew)), by go_simp, by omega, by go_simp, by go_simp⟩)
        case rest => as_aux_lemma =>
          obtain ⟨ga, rfl, rfl, hga, hia, hba, ca0, ca1⟩ := hcut
          obtain ⟨wv1, rfl⟩ : ∃ x : World, x = wc := ⟨_, rfl⟩
          have OWN1 := Lib.hid (OWN0.out.grown hga)
          have x0n := cell_of_grown hga inx.lt x0
          clear x0
          have x0 := x0n
          clear x0n
          have x1n := cell_of_grown hga inx.lt x1
          clear x1
          have x1 := x1n
          clear x1n
          have y0n := cell_of_grown hga iny.lt y0
          clear y0
          have y0 := y0n
          clear y0n
          have y1n := cell_of_grown hga iny.lt y1
          clear y1
          have y1 := y1n
          clear y1n
          have inxn := inW_grown hga inx
          clear inx
          have inx := inxn
          clear inxn
          have inyn := inW_grown hga iny
          clear iny
          have iny := inyn
          clear inyn
          have lea : wv0.heap.size ≤ ga := by skip; omega
          have Na1 := Lib.hid (own_ne OWN0.out.o1 lea)
          have Na2 := Lib.hid (own_ne OWN0.out.o2 lea)
          have Na3 := Lib.hid (own_ne OWN0.out.o3 lea)
          have Na4 := Lib.hid (own_ne OWN0.out.o4 lea)
          have sza := grown_size hga
          have LEa : Hid (wv0.heap.size ≤ wv1.heap.size) := Lib.hid (by have := grown_size hga; skip; omega)
          clear lea hba sza hga
          go_upto_region 17 with fail
          go_cut [22, 23] (fun sa sb wx => ∃ g : Nat, sa = .pointer (some ⟨g, 0, none⟩) ∧ sb = .int .i64 (de 3) ∧ Grown wv1 wx ∧ InW g wx ∧ wv1.heap.size ≤ g ∧ wx.cell? ⟨g, 0, none⟩ = some (.string (dn 3)) ∧ wx.cell? ⟨g, 1, none⟩ = some (.string (dd 3)))
          case first => as_aux_lemma =>
            go_region_held3 (fun w' => w'.cell? ⟨w.heap.size + 1 + 1 + (oP1.size + oP2.size), 2, none⟩ = some (.string r3) ∧ w'.cell? ⟨w.heap.size + 1 + 1 + (oP1.size + oP2.size), 3, none⟩ = some (.string r4) ∧ w'.cell? ⟨w.heap.size + 1 + 1 + (oP1.size + oP2.size) + 1, 2, none⟩ = some (.string s3) ∧ w'.cell? ⟨w.heap.size + 1 + 1 + (oP1.size + oP2.size) + 1, 3, none⟩ = some (.string s4)) (go_simp) (first | (go_at_call 28; ((with_reducible refine (ks'.out _ ?_).mono ?_); (exact HP0.out.grown (OWN1.out.g.trans (by with_reducible repeat (first | exact Grown.refl _ | apply Grown.more | apply Grown.alloc | apply Grown.drewN | apply Grown.drew)))); rintro e w' ⟨rfl, oa, ca, rfl⟩)))
            all_goals (go_wp2_with fail; go_meet; exact ⟨_, rfl, rfl, (by with_reducible repeat (first | exact Grown.refl _ | apply Grown.more | apply Grown.alloc | apply Grown.drewN | apply Grown.drew)), by go_simp, by omega, by go_simp, by go_simp⟩)
          case rest => as_aux_lemma =>
            obtain ⟨gd, rfl, rfl, hgd, hid, hbd, cd0, cd1⟩ := hcut
            obtain ⟨wv2, rfl⟩ : ∃ x : World, x = wc := ⟨_, rfl⟩
            have OWN2 := Lib.hid (OWN1.out.grown hgd)
            have x0n := cell_of_grown hgd inx.lt x0
            clear x0
            have x0 := x0n
            clear x0n
            have x1n := cell_of_grown hgd inx.lt x1
            clear x1
            have x1 := x1n
            clear x1n
            have y0n := cell_of_grown hgd iny.lt y0
            clear y0
            have y0 := y0n
            clear y0n
            have y1n := cell_of_grown hgd iny.lt y1
            clear y1
            have y1 := y1n
            clear y1n
            have ca0n := cell_of_grown hgd hia.lt ca0
            clear ca0
            have ca0 := ca0n
            clear ca0n
            have ca1n := cell_of_grown hgd hia.lt ca1
            clear ca1
            have ca1 := ca1n
            clear ca1n
            have hian := inW_grown hgd hia
            clear hia
            have hia := hian
            clear hian
            have inxn := inW_grown hgd inx
            clear inx
            have inx := inxn
            clear inxn
            have inyn := inW_grown hgd iny
            clear iny
            have iny := inyn
            clear inyn
            have led : wv0.heap.size ≤ gd := by have za := LEa.out; omega
            have Nd1 := Lib.hid (own_ne OWN0.out.o1 led)
            have Nd2 := Lib.hid (own_ne OWN0.out.o2 led)
            have Nd3 := Lib.hid (own_ne OWN0.out.o3 led)
            have Nd4 := Lib.hid (own_ne OWN0.out.o4 led)
            have szd := grown_size hgd
            have LEd : Hid (wv0.heap.size ≤ wv2.heap.size) := Lib.hid (by have := grown_size hgd; have za := LEa.out; omega)
            clear led hbd szd hgd
            go_upto_region 18 with fail
            go_cut [24, 25] (fun sa sb wx => ∃ g : Nat, sa = .pointer (some ⟨g, 0, none⟩) ∧ sb = .int .i64 (ve 3) ∧ Grown wv2 wx ∧ InW g wx ∧ wv2.heap.size ≤ g ∧ wx.cell? ⟨g, 0, none⟩ = some (.string (vn 3)) ∧ wx.cell? ⟨g, 1, none⟩ = some (.string (vd 3)))
            case first => as_aux_lemma =>
              go_region_held3 (fun w' => w'.cell? ⟨w.heap.size + 1 + 1 + (oP1.size + oP2.size), 2, none⟩ = some (.string r3) ∧ w'.cell? ⟨w.heap.size + 1 + 1 + (oP1.size + oP2.size), 3, none⟩ = some (.string r4) ∧ w'.cell? ⟨w.heap.size + 1 + 1 + (oP1.size + oP2.size) + 1, 2, none⟩ = some (.string s3) ∧ w'.cell? ⟨w.heap.size + 1 + 1 + (oP1.size + oP2.size) + 1, 3, none⟩ = some (.string s4)) (go_simp) (first | (go_at_call 29; ((with_reducible refine (km'.out _ ?_).mono ?_); (exact HP0.out.grown (OWN2.out.g.trans (by with_reducible repeat (first | exact Grown.refl _ | apply Grown.more | apply Grown.alloc | apply Grown.drewN | apply Grown.drew)))); rintro e w' ⟨rfl, oa, ca, rfl⟩)))
              all_goals (go_wp2_with fail; go_meet; exact ⟨_, rfl, rfl, (by with_reducible repeat (first | exact Grown.refl _ | apply Grown.more | apply Grown.alloc | apply Grown.drewN | apply Grown.drew)), by go_simp, by omega, by go_simp, by go_simp⟩)
            case rest => as_aux_lemma =>
              obtain ⟨gv, rfl, rfl, hgv, hiv, hbv, cv0, cv1⟩ := hcut
              obtain ⟨wv3, rfl⟩ : ∃ x : World, x = wc := ⟨_, rfl⟩
              have OWN3 := Lib.hid (OWN2.out.grown hgv)
              have x0n := cell_of_grown hgv inx.lt x0
              clear x0
              have x0 := x0n
              clear x0n
              have x1n := cell_of_grown hgv inx.lt x1
              clear x1
              have x1 := x1n
              clear x1n
              have y0n := cell_of_grown hgv iny.lt y0
              clear y0
              have y0 := y0n
              clear y0n
              have y1n := cell_of_grown hgv iny.lt y1
              clear y1
              have y1 := y1n
              clear y1n
              have ca0n := cell_of_grown hgv hia.lt ca0
              clear ca0
              have ca0 := ca0n
              clear ca0n
              have ca1n := cell_of_grown hgv hia.lt ca1
              clear ca1
              have ca1 := ca1n
              clear ca1n
              have hian := inW_grown hgv hia
              clear hia
              have hia := hian
              clear hian
              have cd0n := cell_of_grown hgv hid.lt cd0
              clear cd0
              have cd0 := cd0n
              clear cd0n
              have cd1n := cell_of_grown hgv hid.lt cd1
              clear cd1
              have cd1 := cd1n
              clear cd1n
              have hidn := inW_grown hgv hid
              clear hid
              have hid := hidn
              clear hidn
              have inxn := inW_grown hgv inx
              clear inx
              have inx := inxn
              clear inxn
              have inyn := inW_grown hgv iny
              clear iny
              have iny := inyn
              clear inyn
              have lev : wv0.heap.size ≤ gv := by have za := LEa.out; have zd := LEd.out; omega
              have Nv1 := Lib.hid (own_ne OWN0.out.o1 lev)
              have Nv2 := Lib.hid (own_ne OWN0.out.o2 lev)
              have Nv3 := Lib.hid (own_ne OWN0.out.o3 lev)
              have Nv4 := Lib.hid (own_ne OWN0.out.o4 lev)
              have szv := grown_size hgv
              have LEv : Hid (wv0.heap.size ≤ wv3.heap.size) := Lib.hid (by have := grown_size hgv; have zd := LEd.out; omega)
              clear lev hbv szv hgv
              go_upto_region 19 with fail
              go_cut [26, 27] (fun sa sb wx => ∃ g : Nat, sa = .pointer (some ⟨g, 0, none⟩) ∧ sb = .int .i64 (qe 3) ∧ Grown wv3 wx ∧ InW g wx ∧ wv3.heap.size ≤ g ∧ wx.cell? ⟨g, 0, none⟩ = some (.string (qn 3)) ∧ wx.cell? ⟨g, 1, none⟩ = some (.string (qd 3)))
              case first => as_aux_lemma =>
                go_region_held3 (fun w' => w'.cell? ⟨w.heap.size + 1 + 1 + (oP1.size + oP2.size), 2, none⟩ = some (.string r3) ∧ w'.cell? ⟨w.heap.size + 1 + 1 + (oP1.size + oP2.size), 3, none⟩ = some (.string r4) ∧ w'.cell? ⟨w.heap.size + 1 + 1 + (oP1.size + oP2.size) + 1, 2, none⟩ = some (.string s3) ∧ w'.cell? ⟨w.heap.size + 1 + 1 + (oP1.size + oP2.size) + 1, 3, none⟩ = some (.string s4)) (go_simp) (first | (go_at_call 30; ((with_reducible refine (kq'.out _ ?_).mono ?_); (exact HP0.out.grown (OWN3.out.g.trans (by with_reducible repeat (first | exact Grown.refl _ | apply Grown.more | apply Grown.alloc | apply Grown.drewN | apply Grown.drew)))); rintro e w' ⟨rfl, oa, ca, rfl⟩)))
                all_goals (go_wp2_with fail; go_meet; exact ⟨_, rfl, rfl, (by with_reducible repeat (first | exact Grown.refl _ | apply Grown.more | apply Grown.alloc | apply Grown.drewN | apply Grown.drew)), by go_simp, by omega, by go_simp, by go_simp⟩)
              case rest => as_aux_lemma =>
                obtain ⟨gq, rfl, rfl, hgq, hiq, hbq, cq0, cq1⟩ := hcut
                obtain ⟨wv4, rfl⟩ : ∃ x : World, x = wc := ⟨_, rfl⟩
                have OWN4 := Lib.hid (OWN3.out.grown hgq)
                have x0n := cell_of_grown hgq inx.lt x0
                clear x0
                have x0 := x0n
                clear x0n
                have x1n := cell_of_grown hgq inx.lt x1
                clear x1
                have x1 := x1n
                clear x1n
                have y0n := cell_of_grown hgq iny.lt y0
                clear y0
                have y0 := y0n
                clear y0n
                have y1n := cell_of_grown hgq iny.lt y1
                clear y1
                have y1 := y1n
                clear y1n
                have ca0n := cell_of_grown hgq hia.lt ca0
                clear ca0
                have ca0 := ca0n
                clear ca0n
                have ca1n := cell_of_grown hgq hia.lt ca1
                clear ca1
                have ca1 := ca1n
                clear ca1n
                have hian := inW_grown hgq hia
                clear hia
                have hia := hian
                clear hian
                have cd0n := cell_of_grown hgq hid.lt cd0
                clear cd0
                have cd0 := cd0n
                clear cd0n
                have cd1n := cell_of_grown hgq hid.lt cd1
                clear cd1
                have cd1 := cd1n
                clear cd1n
                have hidn := inW_grown hgq hid
                clear hid
                have hid := hidn
                clear hidn
                have cv0n := cell_of_grown hgq hiv.lt cv0
                clear cv0
                have cv0 := cv0n
                clear cv0n
                have cv1n := cell_of_grown hgq hiv.lt cv1
                clear cv1
                have cv1 := cv1n
                clear cv1n
                have hivn := inW_grown hgq hiv
                clear hiv
                have hiv := hivn
                clear hivn
                have inxn := inW_grown hgq inx
                clear inx
                have inx := inxn
                clear inxn
                have inyn := inW_grown hgq iny
                clear iny
                have iny := inyn
                clear inyn
                have leq : wv0.heap.size ≤ gq := by have za := LEa.out; have zd := LEd.out; have zv := LEv.out; omega
                have Nq1 := Lib.hid (own_ne OWN0.out.o1 leq)
                have Nq2 := Lib.hid (own_ne OWN0.out.o2 leq)
                have Nq3 := Lib.hid (own_ne OWN0.out.o3 leq)
                have Nq4 := Lib.hid (own_ne OWN0.out.o4 leq)
                have szq := grown_size hgq
                have LEq : Hid (wv0.heap.size ≤ wv4.heap.size) := Lib.hid (by have := grown_size hgq; have zv := LEv.out; omega)
                clear leq hbq szq hgq
                go_wp2_with (first | (at_builtin; refine wpList_append_own_at _ rfl (.tmp 131) (.tmp 133) 32 rfl W0.heap.size 23 iv (.agg #[.string ⟨#[]⟩, .string ⟨#[]⟩]) 2 32 slRat HI.out HI0.out HI2.out HI32.out rfl (by decide) _ 3 (rowsR an ad 3) rfl ?c0 _ 1 1 (#[.string (an 3), .string (ad 3)] : Array Value).toList rfl rfl ?d0 (fun u hu => by simp at hu; rcases hu with rfl | rfl <;> rfl) (by decide) (by decide) ?e0 ?_; (case c0 => exact (own_grown OWN4.out.o1 (by with_reducible repeat (first | exact Grown.refl _ | apply Grown.more | apply Grown.alloc | apply Grown.drewN | apply Grown.drew)))); (case d0 => exact news_cell _ _ _ _ (by go_simp)); (case e0 => (have hsz := grown_size OWN4.out.g; go_simp; omega)); intro v0 w9 hown0 hgrow0 hnil0 hblk0; (have OWN5 := Lib.hid ((((OWN4.out.grown (by with_reducible repeat (first | exact Grown.refl _ | apply Grown.more | apply Grown.alloc | apply Grown.drewN | apply Grown.drew)))).app1 hown0 hgrow0 hblk0))); (have cd0n := cell_grownBy hgrow0 (inW_grown (by with_reducible repeat (first | exact Grown.refl _ | apply Grown.more | apply Grown.alloc | apply Grown.drewN | apply Grown.drew)) hid) Nd1.out (cell_of_grown (by with_reducible repeat (first | exact Grown.refl _ | apply Grown.more | apply Grown.alloc | apply Grown.drewN | apply Grown.drew)) hid.lt cd0)); (have cd1n := cell_grownBy hgrow0 (inW_grown (by with_reducible repeat (first | exact Grown.refl _ | apply Grown.more | apply Grown.alloc | apply Grown.drewN | apply Grown.drew)) hid) Nd1.out (cell_of_grown (by with_reducible repeat (first | exact Grown.refl _ | apply Grown.more | apply Grown.alloc | apply Grown.drewN | apply Grown.drew)) hid.lt cd1)); (have hidn := inW_grownBy hgrow0 (inW_grown (by with_reducible repeat (first | exact Grown.refl _ | apply Grown.more | apply Grown.alloc | apply Grown.drewN | apply Grown.drew)) hid)); (have cv0n := cell_grownBy hgrow0 (inW_grown (by with_reducible repeat (first | exact Grown.refl _ | apply Grown.more | apply Grown.alloc | apply Grown.drewN | apply Grown.drew)) hiv) Nv1.out (cell_of_grown (by with_reducible repeat (first | exact Grown.refl _ | apply Grown.more | apply Grown.alloc | apply Grown.drewN | apply Grown.drew)) hiv.lt cv0)); (have cv1n := cell_grownBy hgrow0 (inW_grown (by with_reducible repeat (first | exact Grown.refl _ | apply Grown.more | apply Grown.alloc | apply Grown.drewN | apply Grown.drew)) hiv) Nv1.out (cell_of_grown (by with_reducible repeat (first | exact Grown.refl _ | apply Grown.more | apply Grown.alloc | apply Grown.drewN | apply Grown.drew)) hiv.lt cv1)); (have hivn := inW_grownBy hgrow0 (inW_grown (by with_reducible repeat (first | exact Grown.refl _ | apply Grown.more | apply Grown.alloc | apply Grown.drewN | apply Grown.drew)) hiv)); (have cq0n := cell_grownBy hgrow0 (inW_grown (by with_reducible repeat (first | exact Grown.refl _ | apply Grown.more | apply Grown.alloc | apply Grown.drewN | apply Grown.drew)) hiq) Nq1.out (cell_of_grown (by with_reducible repeat (first | exact Grown.refl _ | apply Grown.more | apply Grown.alloc | apply Grown.drewN | apply Grown.drew)) hiq.lt cq0)); (have cq1n := cell_grownBy hgrow0 (inW_grown (by with_reducible repeat (first | exact Grown.refl _ | apply Grown.more | apply Grown.alloc | apply Grown.drewN | apply Grown.drew)) hiq) Nq1.out (cell_of_grown (by with_reducible repeat (first | exact Grown.refl _ | apply Grown.more | apply Grown.alloc | apply Grown.drewN | apply Grown.drew)) hiq.lt cq1)); (have hiqn := inW_grownBy hgrow0 (inW_grown (by with_reducible repeat (first | exact Grown.refl _ | apply Grown.more | apply Grown.alloc | apply Grown.drewN | apply Grown.drew)) hiq)); clear cd0; (have cd0 := cd0n); clear cd0n; clear cd1; (have cd1 := cd1n); clear cd1n; clear hid; (have hid := hidn); clear hidn; clear cv0; (have cv0 := cv0n); clear cv0n; clear cv1; (have cv1 := cv1n); clear cv1n; clear hiv; (have hiv := hivn); clear hivn; clear cq0; (have cq0 := cq0n); clear cq0n; clear cq1; (have cq1 := cq1n); clear cq1n; clear hiq; (have hiq := hiqn); clear hiqn; clear hown0 hgrow0 hnil0 hblk0) | (at_builtin; refine wpList_append_own_at _ rfl (.tmp 135) (.tmp 137) 32 rfl W0.heap.size 23 iv (.agg #[.string ⟨#[]⟩, .string ⟨#[]⟩]) 2 32 slRat HI.out HI0.out HI2.out HI32.out rfl (by decide) _ 3 (rowsR dn dd 3) rfl ?c1 _ 1 1 (#[.string (dn 3), .string (dd 3)] : Array Value).toList rfl rfl ?d1 (fun u hu => by simp at hu; rcases hu with rfl | rfl <;> rfl) (by decide) (by decide) ?e1 ?_; (case c1 => exact (own_grown OWN5.out.o2 (by with_reducible repeat (first | exact Grown.refl _ | apply Grown.more | apply Grown.alloc | apply Grown.drewN | apply Grown.drew)))); (case d1 => exact news_cell _ _ _ _ (by go_simp)); (case e1 => (have hsz := grown_size OWN5.out.g; go_simp; omega)); intro v1 w10 hown1 hgrow1 hnil1 hblk1; (have OWN6 := Lib.hid ((((OWN5.out.grown (by with_reducible repeat (first | exact Grown.refl _ | apply Grown.more | apply Grown.alloc | apply Grown.drewN | apply Grown.drew))).rot).app1 hown1 hgrow1 hblk1).rot.rot.rot)); (have cv0n := cell_grownBy hgrow1 (inW_grown (by with_reducible repeat (first | exact Grown.refl _ | apply Grown.more | apply Grown.alloc | apply Grown.drewN | apply Grown.drew)) hiv) Nv2.out (cell_of_grown (by with_reducible repeat (first | exact Grown.refl _ | apply Grown.more | apply Grown.alloc | apply Grown.drewN | apply Grown.drew)) hiv.lt cv0)); (have cv1n := cell_grownBy hgrow1 (inW_grown (by with_reducible repeat (first | exact Grown.refl _ | apply Grown.more | apply Grown.alloc | apply Grown.drewN | apply Grown.drew)) hiv) Nv2.out (cell_of_grown (by with_reducible repeat (first | exact Grown.refl _ | apply Grown.more | apply Grown.alloc | apply Grown.drewN | apply Grown.drew)) hiv.lt cv1)); (have hivn := inW_grownBy hgrow1 (inW_grown (by with_reducible repeat (first | exact Grown.refl _ | apply Grown.more | apply Grown.alloc | apply Grown.drewN | apply Grown.drew)) hiv)); (have cq0n := cell_grownBy hgrow1 (inW_grown (by with_reducible repeat (first | exact Grown.refl _ | apply Grown.more | apply Grown.alloc | apply Grown.drewN | apply Grown.drew)) hiq) Nq2.out (cell_of_grown (by with_reducible repeat (first | exact Grown.refl _ | apply Grown.more | apply Grown.alloc | apply Grown.drewN | apply Grown.drew)) hiq.lt cq0)); (have cq1n := cell_grownBy hgrow1 (inW_grown (by with_reducible repeat (first | exact Grown.refl _ | apply Grown.more | apply Grown.alloc | apply Grown.drewN | apply Grown.drew)) hiq) Nq2.out (cell_of_grown (by with_reducible repeat (first | exact Grown.refl _ | apply Grown.more | apply Grown.alloc | apply Grown.drewN | apply Grown.drew)) hiq.lt cq1)); (have hiqn := inW_grownBy hgrow1 (inW_grown (by with_reducible repeat (first | exact Grown.refl _ | apply Grown.more | apply Grown.alloc | apply Grown.drewN | apply Grown.drew)) hiq)); clear cv0; (have cv0 := cv0n); clear cv0n; clear cv1; (have cv1 := cv1n); clear cv1n; clear hiv; (have hiv := hivn); clear hivn; clear cq0; (have cq0 := cq0n); clear cq0n; clear cq1; (have cq1 := cq1n); clear cq1n; clear hiq; (have hiq := hiqn); clear hiqn; clear hown1 hgrow1 hnil1 hblk1) | (at_builtin; refine wpList_append_own_at _ rfl (.tmp 139) (.tmp 141) 32 rfl W0.heap.size 23 iv (.agg #[.string ⟨#[]⟩, .string ⟨#[]⟩]) 2 32 slRat HI.out HI0.out HI2.out HI32.out rfl (by decide) _ 3 (rowsR vn vd 3) rfl ?c2 _ 1 1 (#[.string (vn 3), .string (vd 3)] : Array Value).toList rfl rfl ?d2 (fun u hu => by simp at hu; rcases hu with rfl | rfl <;> rfl) (by decide) (by decide) ?e2 ?_; (case c2 => exact (own_grown OWN6.out.o3 (by with_reducible repeat (first | exact Grown.refl _ | apply Grown.more | apply Grown.alloc | apply Grown.drewN | apply Grown.drew)))); (case d2 => exact news_cell _ _ _ _ (by go_simp)); (case e2 => (have hsz := grown_size OWN6.out.g; go_simp; omega)); intro v2 w11 hown2 hgrow2 hnil2 hblk2; (have OWN7 := Lib.hid ((((OWN6.out.grown (by with_reducible repeat (first | exact Grown.refl _ | apply Grown.more | apply Grown.alloc | apply Grown.drewN | apply Grown.drew))).rot.rot).app1 hown2 hgrow2 hblk2).rot.rot)); (have cq0n := cell_grownBy hgrow2 (inW_grown (by with_reducible repeat (first | exact Grown.refl _ | apply Grown.more | apply Grown.alloc | apply Grown.drewN | apply Grown.drew)) hiq) Nq3.out (cell_of_grown (by with_reducible repeat (first | exact Grown.refl _ | apply Grown.more | apply Grown.alloc | apply Grown.drewN | apply Grown.drew)) hiq.lt cq0)); (have cq1n := cell_grownBy hgrow2 (inW_grown (by with_reducible repeat (first | exact Grown.refl _ | apply Grown.more | apply Grown.alloc | apply Grown.drewN | apply Grown.drew)) hiq) Nq3.out (cell_of_grown (by with_reducible repeat (first | exact Grown.refl _ | apply Grown.more | apply Grown.alloc | apply Grown.drewN | apply Grown.drew)) hiq.lt cq1)); (have hiqn := inW_grownBy hgrow2 (inW_grown (by with_reducible repeat (first | exact Grown.refl _ | apply Grown.more | apply Grown.alloc | apply Grown.drewN | apply Grown.drew)) hiq)); clear cq0; (have cq0 := cq0n); clear cq0n; clear cq1; (have cq1 := cq1n); clear cq1n; clear hiq; (have hiq := hiqn); clear hiqn; clear hown2 hgrow2 hnil2 hblk2) | (at_builtin; refine wpList_append_own_at _ rfl (.tmp 143) (.tmp 145) 32 rfl W0.heap.size 23 iv (.agg #[.string ⟨#[]⟩, .string ⟨#[]⟩]) 2 32 slRat HI.out HI0.out HI2.out HI32.out rfl (by decide) _ 3 (rowsR qn qd 3) rfl ?c3 _ 1 1 (#[.string (qn 3), .string (qd 3)] : Array Value).toList rfl rfl ?d3 (fun u hu => by simp at hu; rcases hu with rfl | rfl <;> rfl) (by decide) (by decide) ?e3 ?_; (case c3 => exact (own_grown OWN7.out.o4 (by with_reducible repeat (first | exact Grown.refl _ | apply Grown.more | apply Grown.alloc | apply Grown.drewN | apply Grown.drew)))); (case d3 => exact news_cell _ _ _ _ (by go_simp)); (case e3 => (have hsz := grown_size OWN7.out.g; go_simp; omega)); intro v3 w12 hown3 hgrow3 hnil3 hblk3; (have OWN8 := Lib.hid ((((OWN7.out.grown (by with_reducible repeat (first | exact Grown.refl _ | apply Grown.more | apply Grown.alloc | apply Grown.drewN | apply Grown.drew))).rot.rot.rot).app1 hown3 hgrow3 hblk3).rot)); clear hown3 hgrow3 hnil3 hblk3))
                go_roundw
                case measure => show 4 - 4 < 4 - 3; omega
                case rel => exact ⟨4, rfl, by omega, OWN8.out⟩
    · as_aux_lemma =>
      have hk4' : k = 4 := by omega
      subst hk4'
      have hkd : decide (((4 : Nat) : Int) < 4) = false := by decide
      obtain ⟨g1, cap1, rfl, hin1, hc1⟩ := own_cells HOWN.out.o1 (by omega)
      obtain ⟨g2, cap2, rfl, hin2, hc2⟩ := own_cells HOWN.out.o2 (by omega)
      obtain ⟨g3, cap3, rfl, hin3, hc3⟩ := own_cells HOWN.out.o3 (by omega)
      obtain ⟨g4, cap4, rfl, hin4, hc4⟩ := own_cells HOWN.out.o4 (by omega)
      have CE1 := Lib.hid hc1
      have CE2 := Lib.hid hc2
      have CE3 := Lib.hid hc3
      have CE4 := Lib.hid hc4
      have IE1 := Lib.hid hin1
      have IE2 := Lib.hid hin2
      have IE3 := Lib.hid hin3
      have IE4 := Lib.hid hin4
      clear hc1 hc2 hc3 hc4 hin1 hin2 hin3 hin4
      have hp0 := cell_of_grown HOWN.out.g (World.block_lt_of_cell? W0 _ FPP0.out) FPP0.out
      have hp1 := cell_of_grown HOWN.out.g (World.block_lt_of_cell? W0 _ FPP1.out) FPP1.out
      have hp2 := cell_of_grown HOWN.out.g (World.block_lt_of_cell? W0 _ FPP2.out) FPP2.out
      have hp3 := cell_of_grown HOWN.out.g (World.block_lt_of_cell? W0 _ FPP3.out) FPP3.out
      have hip : InW (w.heap.size + 1 + 1 + (oP1.size + oP2.size) + 1 + 1 + oHP.size) wr := World.block_lt_of_cell? wr _ hp0
      have hm0 := cell_of_grown HOWN.out.g (World.block_lt_of_cell? W0 _ FMM0.out) FMM0.out
      have hm1 := cell_of_grown HOWN.out.g (World.block_lt_of_cell? W0 _ FMM1.out) FMM1.out
      have hm2 := cell_of_grown HOWN.out.g (World.block_lt_of_cell? W0 _ FMM2.out) FMM2.out
      have hm3 := cell_of_grown HOWN.out.g (World.block_lt_of_cell? W0 _ FMM3.out) FMM3.out
      have him : InW (w.heap.size + 1 + 1 + (oP1.size + oP2.size) + 1 + 1 + oHP.size + 1 + oHN.size) wr := World.block_lt_of_cell? wr _ hm0
      have ht0 := cell_of_grown HOWN.out.g (World.block_lt_of_cell? W0 _ FTT0.out) FTT0.out
      have ht1 := cell_of_grown HOWN.out.g (World.block_lt_of_cell? W0 _ FTT1.out) FTT1.out
      have ht2 := cell_of_grown HOWN.out.g (World.block_lt_of_cell? W0 _ FTT2.out) FTT2.out
      have ht3 := cell_of_grown HOWN.out.g (World.block_lt_of_cell? W0 _ FTT3.out) FTT3.out
      have hit : InW (w.heap.size + 1 + 1 + (oP1.size + oP2.size) + 1 + 1 + oHP.size + 1 + oHN.size + 1 + oHT.size) wr := World.block_lt_of_cell? wr _ ht0
      have ho0 := cell_of_grown HOWN.out.g (World.block_lt_of_cell? W0 _ FOO0.out) FOO0.out
      have ho1 := cell_of_grown HOWN.out.g (World.block_lt_of_cell? W0 _ FOO1.out) FOO1.out
      have ho2 := cell_of_grown HOWN.out.g (World.block_lt_of_cell? W0 _ FOO2.out) FOO2.out
      have ho3 := cell_of_grown HOWN.out.g (World.block_lt_of_cell? W0 _ FOO3.out) FOO3.out
      have hio : InW (w.heap.size + 1 + 1 + (oP1.size + oP2.size) + 1 + 1 + oHP.size + 1 + oHN.size + 1 + oHT.size + 1 + oHO.size) wr := World.block_lt_of_cell? wr _ ho0
      go_wp2_with (first | (go_at_call 16; ((with_reducible refine (SP.out _ ?_).mono ?_); (exact (HP0.out.grown HOWN.out.g).grown (by with_reducible repeat (first | exact Grown.refl _ | apply Grown.more | apply Grown.alloc | apply Grown.drewN | apply Grown.drew))); rintro e w' ⟨rfl, oSP, cSP, rfl⟩)) | (go_at_call 31; ((with_reducible refine (Ep.out _ g1 cap1 ?_ ?_).mono ?_); (exact inW_grown (by with_reducible repeat (first | exact Grown.refl _ | apply Grown.more | apply Grown.alloc | apply Grown.drewN | apply Grown.drew)) IE1.out); (exact fun i hi => ⟨cell_of_grown (by with_reducible repeat (first | exact Grown.refl _ | apply Grown.more | apply Grown.alloc | apply Grown.drewN | apply Grown.drew)) IE1.out.lt (CE1.out i hi).1, cell_of_grown (by with_reducible repeat (first | exact Grown.refl _ | apply Grown.more | apply Grown.alloc | apply Grown.drewN | apply Grown.drew)) IE1.out.lt (CE1.out i hi).2⟩); rintro e w' ⟨rfl, oe1, ce1, rfl⟩)) | (go_at_call 31; ((with_reducible refine (Em.out _ g2 cap2 ?_ ?_).mono ?_); (exact inW_grown (by with_reducible repeat (first | exact Grown.refl _ | apply Grown.more | apply Grown.alloc | apply Grown.drewN | apply Grown.drew)) IE2.out); (exact fun i hi => ⟨cell_of_grown (by with_reducible repeat (first | exact Grown.refl _ | apply Grown.more | apply Grown.alloc | apply Grown.drewN | apply Grown.drew)) IE2.out.lt (CE2.out i hi).1, cell_of_grown (by with_reducible repeat (first | exact Grown.refl _ | apply Grown.more | apply Grown.alloc | apply Grown.drewN | apply Grown.drew)) IE2.out.lt (CE2.out i hi).2⟩); rintro e w' ⟨rfl, oe2, ce2, rfl⟩)) | (go_at_call 31; ((with_reducible refine (Et.out _ g3 cap3 ?_ ?_).mono ?_); (exact inW_grown (by with_reducible repeat (first | exact Grown.refl _ | apply Grown.more | apply Grown.alloc | apply Grown.drewN | apply Grown.drew)) IE3.out); (exact fun i hi => ⟨cell_of_grown (by with_reducible repeat (first | exact Grown.refl _ | apply Grown.more | apply Grown.alloc | apply Grown.drewN | apply Grown.drew)) IE3.out.lt (CE3.out i hi).1, cell_of_grown (by with_reducible repeat (first | exact Grown.refl _ | apply Grown.more | apply Grown.alloc | apply Grown.drewN | apply Grown.drew)) IE3.out.lt (CE3.out i hi).2⟩); rintro e w' ⟨rfl, oe3, ce3, rfl⟩)) | (go_at_call 31; ((with_reducible refine (Eo.out _ g4 cap4 ?_ ?_).mono ?_); (exact inW_grown (by with_reducible repeat (first | exact Grown.refl _ | apply Grown.more | apply Grown.alloc | apply Grown.drewN | apply Grown.drew)) IE4.out); (exact fun i hi => ⟨cell_of_grown (by with_reducible repeat (first | exact Grown.refl _ | apply Grown.more | apply Grown.alloc | apply Grown.drewN | apply Grown.drew)) IE4.out.lt (CE4.out i hi).1, cell_of_grown (by with_reducible repeat (first | exact Grown.refl _ | apply Grown.more | apply Grown.alloc | apply Grown.drewN | apply Grown.drew)) IE4.out.lt (CE4.out i hi).2⟩); rintro e w' ⟨rfl, oe4, ce4, rfl⟩)))
      go_ret
      exact ⟨rfl, (HGW0.out.trans HOWN.out.g).trans (by with_reducible repeat (first | exact Grown.refl _ | apply Grown.more | apply Grown.alloc | apply Grown.drewN | apply Grown.drew))⟩
end Go.Proofs.YtnohidkmjclojaaGreatDoor
