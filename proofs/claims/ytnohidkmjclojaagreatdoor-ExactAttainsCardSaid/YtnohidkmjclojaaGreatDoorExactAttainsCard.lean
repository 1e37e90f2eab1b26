/- The law ExactAttains returns true for every input and leaves its arguments as they were: its tied card. The variable listed that the proof leans on is strconv's table of powers of ten, as the program's text lays it. -/
import Derived.Test.YtnohidkmjclojaaGreatDoorExactAttainsRow
import Derived.Test.YtnohidkmjclojaaGreatDoorCards
import Derived.Test.YtnohidkmjclojaaGreatDoorTie
import Derived.SevenTiedAt
namespace Go.Proofs.YtnohidkmjclojaaGreatDoor
set_option linter.unusedVariables false
set_option linter.unusedSimpArgs false
set_option maxHeartbeats 8000000 in
theorem exactAttains_card : Rows.ExactAttainsCardSaid :=
  Claim7.holds_tied_plain_at .later [] [.data, .data, .data, .sentinel, .sentinel] true (true, "7b85e534b0684cc2716941b4b3d6b3c2889954563d89c0d92bb0713937b17cf6") true
    exactAttains_row (fun _ h => by cases h) (by as_aux_lemma => kernel_rfl) (fun _ h => by cases h) exactAttains_row_tie rfl ⟨rfl, rfl⟩ (by as_aux_lemma => kernel_rfl) rfl
    (fun f fn hf hfn => by
      obtain rfl : f = 4 := Option.some.inj ((show Tryz.prog.funcNamed "dryweight/dryweightlaw02.ExactAttains" = some 4 by kernel_rfl).symm.trans hf) |>.symm
      obtain rfl : fn = Tryz.f4 := (Option.some.inj (Tryz.func4.symm.trans hfn)).symm
      exact ⟨by kernel_rfl, fun j t ht => by
        rw [Tryz.params4] at ht
        have hm : t ∈ [25, 25] := by simpa using Array.mem_of_getElem? ht
        have hall : ([25, 25].all fun u => !Tryz.prog.wantsStandIn u) = true := by kernel_rfl
        exact (show Tryz.prog.wantsStandIn t = false by simpa using List.all_eq_true.1 hall t hm)⟩)
    (by as_aux_lemma => kernel_rfl)
#print axioms exactAttains_card
end Go.Proofs.YtnohidkmjclojaaGreatDoor
