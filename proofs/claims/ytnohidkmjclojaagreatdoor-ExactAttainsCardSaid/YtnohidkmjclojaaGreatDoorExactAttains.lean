/- The law ExactAttains returns true for every input and leaves its arguments as they were: the row, and its tied card. The variable listed that the proof leans on is strconv's table of powers of ten, as the program's text lays it. -/
import Derived.Test.YtnohidkmjclojaaGreatDoorFrameA
import Derived.Test.YtnohidkmjclojaaGreatDoorLawJ
namespace Go.Proofs.YtnohidkmjclojaaGreatDoor
set_option linter.unusedVariables false
set_option linter.unusedSimpArgs false
open Go.ChangeShapes Go.WideShapes Go.ChangeAt Go.RowKit
open Go.ChangeMaps (open_string shut_string)

set_option maxRecDepth 100000 in
theorem lifted_exactAttains (os : Os) (started : os.Started) (H : Type) (enc : TypeId × Value → H) :
    ReturnsInHanded {} Tryz.checked os 4 .any (fun w args => (Rows.exactAttainsSpec.pre enc Tryz.prog Tryz.f4 [] false w args ∧ laidMetH Tryz.prog laidAll w) ∧ sizedMet enc Tryz.prog Tryz.f4 (OpenSpec.ofChange Rows.exactAttainsSpec) false w args)
      (Rows.exactAttainsSpec.post enc Tryz.prog Tryz.f4 false true false false) := by
  refine returnsInHanded_of_change_and (C := Tryz.checked) (X := fun w _ => laidMetH Tryz.prog laidAll w) (fun _ _ _ hh h => h.of_heap hh) own started (by kernel_rfl) Tryz.func4
    (ChangeSpec.witness_shaped (enc := enc) (C := Tryz.checked) (os := os) (X := fun w _ => laidMetH Tryz.prog laidAll w) false (World.doorLaid Tryz.prog 400 os) #[.agg #[.string ByteArray.empty, .string ByteArray.empty, .string ByteArray.empty, .string ByteArray.empty], .agg #[.string ByteArray.empty, .string ByteArray.empty, .string ByteArray.empty, .string ByteArray.empty]] 8 rfl (World.shaped_of_RefB (by kernel_rfl) (by kernel_rfl)) (by kernel_rfl) (by kernel_rfl) (by kernel_rfl) (door_met os _)) ?_
  intro W base args ds gs before hval0 hW _ _ hL _
  have hval : ∀ (j : Nat) t v, Tryz.f4.params[j]? = some t → args[j]? = some v → Value.okWide Tryz.prog W .any base t v := hval0
  have hW' := hW
  obtain ⟨p, q, hA0, hV, rfl, hfz, hnd⟩ := hW
  have hA : DataW.TrodAll enc Tryz.prog W 0 (fun _ => true) true Tryz.f4.params.toList args.toList ds p := hA0
  rw [Tryz.params4] at hA hval
  obtain ⟨v0, vs0, d0, ds0, p0, q0, hargs, rfl, rfl, h0, r0⟩ := trodAll_cons hA
  obtain ⟨v1, vs1, d1, ds1, p1, q1, rfl, rfl, rfl, h1, r1⟩ := trodAll_cons r0
  obtain ⟨rfl, rfl, rfl⟩ := trodAll_nil r1
  obtain rfl : args = #[v0, v1] := by cases args; simp_all
  obtain ⟨rfl, rfl⟩ := trodVars_none hV
  obtain ⟨s0_0, s0_1, s0_2, s0_3, rfl, rfl, zs0_0, zs0_1, zs0_2, zs0_3, back0⟩ := open_rng (hval 0 25 v0 rfl rfl) h0
  obtain ⟨s1_0, s1_1, s1_2, s1_3, rfl, rfl, zs1_0, zs1_1, zs1_2, zs1_3, back1⟩ := open_rng (hval 1 25 v1 rfl rfl) h1
  have hpow := laid_pow hL
  clear hA0 hval0
  have hcall := ExactAttains_any s0_0.data.toList s0_1.data.toList s0_2.data.toList s0_3.data.toList s1_0.data.toList s1_1.data.toList s1_2.data.toList s1_3.data.toList W ⟨list_len zs0_0, list_len zs0_1, list_len zs0_2, list_len zs0_3⟩ ⟨list_len zs1_0, list_len zs1_1, list_len zs1_2, list_len zs1_3⟩ hpow
  unfold rngV at hcall
  rw [← ba_list s0_0, ← ba_list s0_1, ← ba_list s0_2, ← ba_list s0_3, ← ba_list s1_0, ← ba_list s1_1, ← ba_list s1_2, ← ba_list s1_3] at hcall
  refine hcall.mono fun e W' ⟨he, hg⟩ => ?_
  have bel := hg.below
  subst he
  exact ⟨_, rfl, _, _, _, [], _, [], hW', trodAll_mk1 (shut_bool bool_T _), (trodAll_cons_mk (back0 _ _ _) (trodAll_cons_mk (back1 _ _ _) trodAll_mk0)), rfl, bel.frame _, fun h => by cases h⟩
end Go.Proofs.YtnohidkmjclojaaGreatDoor
