/- The row of ExactAttains. -/
import Derived.Test.YtnohidkmjclojaaGreatDoorExactAttains
import Derived.Test.YtnohidkmjclojaaGreatDoorExactAttainsJ
import Derived.ProofKit
namespace Go.Proofs.YtnohidkmjclojaaGreatDoor
set_option linter.unusedVariables false
set_option linter.unusedSimpArgs false
open Go.ChangeShapes Go.WideShapes Go.ChangeAt Go.RowKit
theorem exactAttains_row : Rows.ExactAttainsSaid :=
  OpenClaim.holds_of_wide 4 Tryz.f4 rfl rfl rfl rfl rfl rfl rfl ⟨rfl, rfl, rfl, rfl, rfl⟩ rfl rfl rfl rfl rfl (by kernel_rfl) Tryz.func4 joined_exactAttains
    (of_decide_eq_true (by kernel_rfl)) (by unfold Func.isWrapper; first | (rw [if_pos (by decide +kernel)]; kernel_rfl) | (rw [if_neg (by decide +kernel)]; exact ⟨rfl, rfl⟩))
    (fun os started H enc _ => lifted_exactAttains os started H enc)
end Go.Proofs.YtnohidkmjclojaaGreatDoor
