/- The closed facts of the row of ExactContains. -/
import Derived.Test.YtnohidkmjclojaaGreatDoorRows
import Derived.JoinedOf
import Derived.ProofKit
namespace Go.Proofs.YtnohidkmjclojaaGreatDoor
open Go.ChangeShapes Go.WideShapes Go.ChangeAt Go.RowKit
set_option maxHeartbeats 8000000 in
theorem joined_exactContains : joinedFacts Tryz.pinned.checked.prog 6 Tryz.f6 Rows.exactContainsSpec Rows.exactContainsRow = true := by
  unfold joinedFacts
  repeat' (with_reducible refine Bool.and_eq_true_iff.2 (And.intro ?_ ?_))
  all_goals (as_aux_lemma => kernel_rfl)
end Go.Proofs.YtnohidkmjclojaaGreatDoor
