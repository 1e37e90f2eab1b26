/- The row of ExactContains. -/
import Derived.Test.YtnohidkmjclojaaGreatDoorExactContains
import Derived.Test.YtnohidkmjclojaaGreatDoorExactContainsJ
import Derived.ProofKit
namespace Go.Proofs.YtnohidkmjclojaaGreatDoor
open Go.ChangeShapes Go.WideShapes Go.ChangeAt Go.RowKit
theorem exactContains_row : Rows.ExactContainsSaid :=
  OpenClaim.holds_of_wide 6 Tryz.f6 rfl rfl rfl rfl rfl rfl rfl ⟨rfl, rfl, rfl, rfl, rfl⟩ rfl rfl rfl rfl rfl (by kernel_rfl) Tryz.func6 joined_exactContains
    (of_decide_eq_true (by kernel_rfl)) (by unfold Func.isWrapper; first | (rw [if_pos (by decide +kernel)]; kernel_rfl) | (rw [if_neg (by decide +kernel)]; exact ⟨rfl, rfl⟩))
    (fun os started H enc _ => lifted_exactContains os started H enc)
end Go.Proofs.YtnohidkmjclojaaGreatDoor
