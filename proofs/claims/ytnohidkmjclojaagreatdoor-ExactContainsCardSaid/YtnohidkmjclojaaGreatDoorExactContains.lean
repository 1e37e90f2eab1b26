/- The law ExactContains returns true for every input and leaves its arguments as they were: the row, and its tied card. The variable listed that the proof leans on is strconv's table of powers of ten, as the program's text lays it. -/
import Derived.Test.YtnohidkmjclojaaGreatDoorFrameA
import Derived.Test.YtnohidkmjclojaaGreatDoorLawG
namespace Go.Proofs.YtnohidkmjclojaaGreatDoor
open Go.ChangeShapes Go.WideShapes Go.ChangeAt Go.RowKit
open Go.ChangeMaps (open_string shut_string)

set_option maxRecDepth 100000 in
theorem lifted_exactContains (os : Os) (started : os.Started) (H : Type) (enc : TypeId × Value → H) :
    ReturnsInHanded {} Tryz.checked os 6 .any (fun w args => (Rows.exactContainsSpec.pre enc Tryz.prog Tryz.f6 [] false w args ∧ laidMetH Tryz.prog laidAll w) ∧ sizedMet enc Tryz.prog Tryz.f6 (OpenSpec.ofChange Rows.exactContainsSpec) false w args)
      (Rows.exactContainsSpec.post enc Tryz.prog Tryz.f6 false true false false) := by
  refine returnsInHanded_of_change_and (C := Tryz.checked) (X := fun w _ => laidMetH Tryz.prog laidAll w) (fun _ _ _ hh h => h.of_heap hh) own started (by kernel_rfl) Tryz.func6
    (ChangeSpec.witness_shaped (enc := enc) (C := Tryz.checked) (os := os) (X := fun w _ => laidMetH Tryz.prog laidAll w) false (World.doorLaid Tryz.prog 400 os) #[.agg #[.string ByteArray.empty, .string ByteArray.empty, .string ByteArray.empty, .string ByteArray.empty], .agg #[.string ByteArray.empty, .string ByteArray.empty, .string ByteArray.empty, .string ByteArray.empty], .agg #[.string ByteArray.empty, .string ByteArray.empty], .agg #[.string ByteArray.empty, .string ByteArray.empty], .agg #[.string ByteArray.empty, .string ByteArray.empty]] 8 rfl (World.shaped_of_RefB (by kernel_rfl) (by kernel_rfl)) (by kernel_rfl) (by kernel_rfl) (by kernel_rfl) (door_met os _)) ?_
  intro W base args ds gs before hval0 hW _ _ hL _
  have hval : ∀ (j : Nat) t v, Tryz.f6.params[j]? = some t → args[j]? = some v → Value.okWide Tryz.prog W .any base t v := hval0
  have hW' := hW
  obtain ⟨p, q, hA0, hV, rfl, hfz, hnd⟩ := hW
  have hA : DataW.TrodAll enc Tryz.prog W 0 (fun _ => true) true Tryz.f6.params.toList args.toList ds p := hA0
  rw [Tryz.params6] at hA hval
  obtain ⟨v0, vs0, d0, ds0, p0, q0, hargs, rfl, rfl, h0, r0⟩ := trodAll_cons hA
  obtain ⟨v1, vs1, d1, ds1, p1, q1, rfl, rfl, rfl, h1, r1⟩ := trodAll_cons r0
  obtain ⟨v2, vs2, d2, ds2, p2, q2, rfl, rfl, rfl, h2, r2⟩ := trodAll_cons r1
  obtain ⟨v3, vs3, d3, ds3, p3, q3, rfl, rfl, rfl, h3, r3⟩ := trodAll_cons r2
  obtain ⟨v4, vs4, d4, ds4, p4, q4, rfl, rfl, rfl, h4, r4⟩ := trodAll_cons r3
  obtain ⟨rfl, rfl, rfl⟩ := trodAll_nil r4
  obtain rfl : args = #[v0, v1, v2, v3, v4] := by cases args; simp_all
  obtain ⟨rfl, rfl⟩ := trodVars_none hV
  obtain ⟨s0_0, s0_1, s0_2, s0_3, rfl, rfl, zs0_0, zs0_1, zs0_2, zs0_3, back0⟩ := open_rng (hval 0 25 v0 rfl rfl) h0
  obtain ⟨s1_0, s1_1, s1_2, s1_3, rfl, rfl, zs1_0, zs1_1, zs1_2, zs1_3, back1⟩ := open_rng (hval 1 25 v1 rfl rfl) h1
  obtain ⟨s2_0, s2_1, rfl, rfl, zs2_0, zs2_1, back2⟩ := open_rat (hval 2 23 v2 rfl rfl) h2
  obtain ⟨s3_0, s3_1, rfl, rfl, zs3_0, zs3_1, back3⟩ := open_rat (hval 3 23 v3 rfl rfl) h3
  obtain ⟨s4_0, s4_1, rfl, rfl, zs4_0, zs4_1, back4⟩ := open_rat (hval 4 23 v4 rfl rfl) h4
  have hpow := laid_pow hL
  clear hA0 hval0
  have hcall := ExactContains_any s0_0.data.toList s0_1.data.toList s0_2.data.toList s0_3.data.toList s1_0.data.toList s1_1.data.toList s1_2.data.toList s1_3.data.toList s2_0.data.toList s2_1.data.toList s3_0.data.toList s3_1.data.toList s4_0.data.toList s4_1.data.toList W ⟨list_len zs0_0, list_len zs0_1, list_len zs0_2, list_len zs0_3⟩ ⟨list_len zs1_0, list_len zs1_1, list_len zs1_2, list_len zs1_3⟩ ⟨list_len zs2_0, list_len zs2_1, list_len zs3_0, list_len zs3_1⟩ ⟨list_len zs4_0, list_len zs4_1, list_len zs4_0, list_len zs4_1⟩ hpow
  unfold rngV ratV at hcall
  rw [← ba_list s0_0, ← ba_list s0_1, ← ba_list s0_2, ← ba_list s0_3, ← ba_list s1_0, ← ba_list s1_1, ← ba_list s1_2, ← ba_list s1_3, ← ba_list s2_0, ← ba_list s2_1, ← ba_list s3_0, ← ba_list s3_1, ← ba_list s4_0, ← ba_list s4_1] at hcall
  refine hcall.mono fun e W' ⟨he, hg⟩ => ?_
  have bel := hg.below
  subst he
  exact ⟨_, rfl, _, _, _, [], _, [], hW', trodAll_mk1 (shut_bool bool_T _), (trodAll_cons_mk (back0 _ _ _) (trodAll_cons_mk (back1 _ _ _) (trodAll_cons_mk (back2 _ _ _) (trodAll_cons_mk (back3 _ _ _) (trodAll_cons_mk (back4 _ _ _) trodAll_mk0))))), rfl, bel.frame _, fun h => by cases h⟩
end Go.Proofs.YtnohidkmjclojaaGreatDoor
