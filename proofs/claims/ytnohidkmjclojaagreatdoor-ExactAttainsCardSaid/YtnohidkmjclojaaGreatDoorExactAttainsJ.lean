/- The closed facts of the row of ExactAttains. -/
import Derived.Test.YtnohidkmjclojaaGreatDoorRows
import Derived.JoinedOf
import Derived.ProofKit
namespace Go.Proofs.YtnohidkmjclojaaGreatDoor
set_option linter.unusedVariables false
set_option linter.unusedSimpArgs false
open Go.ChangeShapes Go.WideShapes Go.ChangeAt Go.RowKit
set_option maxHeartbeats 8000000 in
theorem joined_exactAttains : joinedFacts Tryz.pinned.checked.prog 4 Tryz.f4 Rows.exactAttainsSpec Rows.exactAttainsRow = true := by
  unfold joinedFacts
  repeat' (with_reducible refine Bool.and_eq_true_iff.2 (And.intro ?_ ?_))
  all_goals (as_aux_lemma => kernel_rfl)
end Go.Proofs.YtnohidkmjclojaaGreatDoor
