/-
  DERIVED. GIVEN WITH THE SEED: THE CARDS: each row of YtnohidkmjclojaaGreatDoorRows.lean that lists a variable, with what it lists TIED to the program's text (the seventh form; the later family's looks); each row that meets fmt, with fmt's text TOLD by the authors' own Lean function (tested against real Go, not proved from fmt's source: count such statements apart). THE CARD IS WHAT COUNTS. Prove the row's statement (the work); the ties are given (YtnohidkmjclojaaGreatDoorTie.lean); close each card by the builder's one call (the guide's Derived/Test/ToyasCard.lean, 'card_holds'). Laid BY PROGRAM, IN A SANDBOX (cutbox-door.mjs). By AI agents, Wed Nov 11 2026. No macro, syntax, notation, axiom, sorry.
-/
import Derived.Test.YtnohidkmjclojaaGreatDoorRows
import GoSem.ClaimSeven
namespace Go.Proofs.YtnohidkmjclojaaGreatDoor
namespace Rows

/-- THE TIED CARD OF 'dryweightlaw02.ExactSpansAsSpecified'. -/
def exactSpansAsSpecifiedCard : Claim7 := { stood := { row := exactSpansAsSpecifiedRow, standIns := [], harness := (true, "7b85e534b0684cc2716941b4b3d6b3c2889954563d89c0d92bb0713937b17cf6"), looks := true }, kinds := [], alts := [], laidByText := true, laidKinds := [.data, .data, .data, .sentinel, .sentinel], laidTests := true, laidLooks := .later }
def ExactSpansAsSpecifiedCardSaid : Prop := Claim7.holds Tryz.pinned (.plain (OpenSpec.ofChange exactSpansAsSpecifiedSpec)) exactSpansAsSpecifiedCard

/-- THE TIED CARD OF 'dryweightlaw02.ExactAttains'. -/
def exactAttainsCard : Claim7 := { stood := { row := exactAttainsRow, standIns := [], harness := (true, "7b85e534b0684cc2716941b4b3d6b3c2889954563d89c0d92bb0713937b17cf6"), looks := true }, kinds := [], alts := [], laidByText := true, laidKinds := [.data, .data, .data, .sentinel, .sentinel], laidTests := true, laidLooks := .later }
def ExactAttainsCardSaid : Prop := Claim7.holds Tryz.pinned (.plain (OpenSpec.ofChange exactAttainsSpec)) exactAttainsCard

/-- THE TIED CARD OF 'dryweightlaw02.ExactCoversAsSpecified'. -/
def exactCoversAsSpecifiedCard : Claim7 := { stood := { row := exactCoversAsSpecifiedRow, standIns := [], harness := (true, "7b85e534b0684cc2716941b4b3d6b3c2889954563d89c0d92bb0713937b17cf6"), looks := true }, kinds := [], alts := [], laidByText := true, laidKinds := [.data, .data, .data, .sentinel, .sentinel], laidTests := true, laidLooks := .later }
def ExactCoversAsSpecifiedCardSaid : Prop := Claim7.holds Tryz.pinned (.plain (OpenSpec.ofChange exactCoversAsSpecifiedSpec)) exactCoversAsSpecifiedCard

/-- THE TIED CARD OF 'dryweightlaw02.ExactContains'. -/
def exactContainsCard : Claim7 := { stood := { row := exactContainsRow, standIns := [], harness := (true, "7b85e534b0684cc2716941b4b3d6b3c2889954563d89c0d92bb0713937b17cf6"), looks := true }, kinds := [], alts := [], laidByText := true, laidKinds := [.data, .data, .data, .sentinel, .sentinel], laidTests := true, laidLooks := .later }
def ExactContainsCardSaid : Prop := Claim7.holds Tryz.pinned (.plain (OpenSpec.ofChange exactContainsSpec)) exactContainsCard

/-- THE TIED CARD OF 'dryweightlaw05.SamplingChecksAsSpecified'. -/
def samplingChecksAsSpecifiedCard : Claim7 := { stood := { row := samplingChecksAsSpecifiedRow, standIns := [], harness := (true, "7b85e534b0684cc2716941b4b3d6b3c2889954563d89c0d92bb0713937b17cf6"), looks := true }, kinds := [], alts := [], laidByText := true, laidKinds := [.data, .data, .data, .sentinel, .sentinel], laidTests := true, laidLooks := .later }
def SamplingChecksAsSpecifiedCardSaid : Prop := Claim7.holds Tryz.pinned (.plain (OpenSpec.ofChange samplingChecksAsSpecifiedSpec)) samplingChecksAsSpecifiedCard

/-- THE TIED CARD OF 'dryweightlaw05.SamplingCommitsAsSpecified'. -/
def samplingCommitsAsSpecifiedCard : Claim7 := { stood := { row := samplingCommitsAsSpecifiedRow, standIns := [], harness := (true, "7b85e534b0684cc2716941b4b3d6b3c2889954563d89c0d92bb0713937b17cf6"), looks := true }, kinds := [], alts := [], laidByText := true, laidKinds := [.data, .data, .data, .sentinel, .sentinel], laidTests := true, laidLooks := .later }
def SamplingCommitsAsSpecifiedCardSaid : Prop := Claim7.holds Tryz.pinned (.plain (OpenSpec.ofChange samplingCommitsAsSpecifiedSpec)) samplingCommitsAsSpecifiedCard

/-- THE TIED CARD OF 'dryweightlaw05.SamplingProvesAsSpecified'. -/
def samplingProvesAsSpecifiedCard : Claim7 := { stood := { row := samplingProvesAsSpecifiedRow, standIns := [], harness := (true, "7b85e534b0684cc2716941b4b3d6b3c2889954563d89c0d92bb0713937b17cf6"), looks := true }, kinds := [], alts := [], laidByText := true, laidKinds := [.data, .data, .data, .sentinel, .sentinel], laidTests := true, laidLooks := .later }
def SamplingProvesAsSpecifiedCardSaid : Prop := Claim7.holds Tryz.pinned (.plain (OpenSpec.ofChange samplingProvesAsSpecifiedSpec)) samplingProvesAsSpecifiedCard

/-- THE TIED CARD OF 'dryweightlaw05.SamplingDriesAsSpecified'. -/
def samplingDriesAsSpecifiedCard : Claim7 := { stood := { row := samplingDriesAsSpecifiedRow, standIns := [], harness := (true, "7b85e534b0684cc2716941b4b3d6b3c2889954563d89c0d92bb0713937b17cf6"), looks := true }, kinds := [], alts := [], laidByText := true, laidKinds := [.data, .data, .data, .sentinel, .sentinel], laidTests := true, laidLooks := .later }
def SamplingDriesAsSpecifiedCardSaid : Prop := Claim7.holds Tryz.pinned (.plain (OpenSpec.ofChange samplingDriesAsSpecifiedSpec)) samplingDriesAsSpecifiedCard

/-- THE TIED CARD OF 'dryweightlaw05.SamplingNobodySteers'. -/
def samplingNobodySteersCard : Claim7 := { stood := { row := samplingNobodySteersRow, standIns := [], harness := (true, "7b85e534b0684cc2716941b4b3d6b3c2889954563d89c0d92bb0713937b17cf6"), looks := true }, kinds := [], alts := [], laidByText := true, laidKinds := [.data, .data, .data, .sentinel, .sentinel], laidTests := true, laidLooks := .later }
def SamplingNobodySteersCardSaid : Prop := Claim7.holds Tryz.pinned (.plain (OpenSpec.ofChange samplingNobodySteersSpec)) samplingNobodySteersCard

/-- THE TIED CARD OF 'dryweightlaw05.SamplingStaysDry'. -/
def samplingStaysDryCard : Claim7 := { stood := { row := samplingStaysDryRow, standIns := [], harness := (true, "7b85e534b0684cc2716941b4b3d6b3c2889954563d89c0d92bb0713937b17cf6"), looks := true }, kinds := [], alts := [], laidByText := true, laidKinds := [.data, .data, .data, .sentinel, .sentinel], laidTests := true, laidLooks := .later }
def SamplingStaysDryCardSaid : Prop := Claim7.holds Tryz.pinned (.plain (OpenSpec.ofChange samplingStaysDrySpec)) samplingStaysDryCard

/-- THE TIED CARD OF 'dryweightlaw05.SamplingDrawsAsSpecified'. -/
def samplingDrawsAsSpecifiedCard : Claim7 := { stood := { row := samplingDrawsAsSpecifiedRow, standIns := [], harness := (true, "7b85e534b0684cc2716941b4b3d6b3c2889954563d89c0d92bb0713937b17cf6"), looks := true }, kinds := [], alts := [], laidByText := true, laidKinds := [.data, .data, .data, .sentinel, .sentinel], laidTests := true, laidLooks := .later }
def SamplingDrawsAsSpecifiedCardSaid : Prop := Claim7.holds Tryz.pinned (.plain (OpenSpec.ofChange samplingDrawsAsSpecifiedSpec)) samplingDrawsAsSpecifiedCard

/-- THE TIED CARD OF 'dryweightlaw05.SamplingDrawsOnce'. -/
def samplingDrawsOnceCard : Claim7 := { stood := { row := samplingDrawsOnceRow, standIns := [], harness := (true, "7b85e534b0684cc2716941b4b3d6b3c2889954563d89c0d92bb0713937b17cf6"), looks := true }, kinds := [], alts := [], laidByText := true, laidKinds := [.data, .data, .data, .sentinel, .sentinel], laidTests := true, laidLooks := .later }
def SamplingDrawsOnceCardSaid : Prop := Claim7.holds Tryz.pinned (.plain (OpenSpec.ofChange samplingDrawsOnceSpec)) samplingDrawsOnceCard

/-- THE SECOND FORM's CARD OF 'dryweightlaw02.ExactSpansAsSpecified'. -/
def exactSpansAsSpecifiedUptoCard : Claim7 := { stood := { row := exactSpansAsSpecifiedUptoRow, standIns := [], harness := (true, "7b85e534b0684cc2716941b4b3d6b3c2889954563d89c0d92bb0713937b17cf6"), looks := true }, kinds := [], alts := [], laidByText := true, laidKinds := [.data, .data, .data, .sentinel, .sentinel], laidTests := true, laidLooks := .later }
def ExactSpansAsSpecifiedUptoCardSaid : Prop := Claim7.holds Tryz.pinned (.plain (OpenSpec.upto exactSpansAsSpecifiedSpec)) exactSpansAsSpecifiedUptoCard

/-- THE SECOND FORM's CARD OF 'dryweightlaw02.ExactAttains'. -/
def exactAttainsUptoCard : Claim7 := { stood := { row := exactAttainsUptoRow, standIns := [], harness := (true, "7b85e534b0684cc2716941b4b3d6b3c2889954563d89c0d92bb0713937b17cf6"), looks := true }, kinds := [], alts := [], laidByText := true, laidKinds := [.data, .data, .data, .sentinel, .sentinel], laidTests := true, laidLooks := .later }
def ExactAttainsUptoCardSaid : Prop := Claim7.holds Tryz.pinned (.plain (OpenSpec.upto exactAttainsSpec)) exactAttainsUptoCard

/-- THE SECOND FORM's CARD OF 'dryweightlaw02.ExactCoversAsSpecified'. -/
def exactCoversAsSpecifiedUptoCard : Claim7 := { stood := { row := exactCoversAsSpecifiedUptoRow, standIns := [], harness := (true, "7b85e534b0684cc2716941b4b3d6b3c2889954563d89c0d92bb0713937b17cf6"), looks := true }, kinds := [], alts := [], laidByText := true, laidKinds := [.data, .data, .data, .sentinel, .sentinel], laidTests := true, laidLooks := .later }
def ExactCoversAsSpecifiedUptoCardSaid : Prop := Claim7.holds Tryz.pinned (.plain (OpenSpec.upto exactCoversAsSpecifiedSpec)) exactCoversAsSpecifiedUptoCard

/-- THE SECOND FORM's CARD OF 'dryweightlaw02.ExactContains'. -/
def exactContainsUptoCard : Claim7 := { stood := { row := exactContainsUptoRow, standIns := [], harness := (true, "7b85e534b0684cc2716941b4b3d6b3c2889954563d89c0d92bb0713937b17cf6"), looks := true }, kinds := [], alts := [], laidByText := true, laidKinds := [.data, .data, .data, .sentinel, .sentinel], laidTests := true, laidLooks := .later }
def ExactContainsUptoCardSaid : Prop := Claim7.holds Tryz.pinned (.plain (OpenSpec.upto exactContainsSpec)) exactContainsUptoCard

/-- THE SECOND FORM's CARD OF 'dryweightlaw05.SamplingChecksAsSpecified'. -/
def samplingChecksAsSpecifiedUptoCard : Claim7 := { stood := { row := samplingChecksAsSpecifiedUptoRow, standIns := [], harness := (true, "7b85e534b0684cc2716941b4b3d6b3c2889954563d89c0d92bb0713937b17cf6"), looks := true }, kinds := [], alts := [], laidByText := true, laidKinds := [.data, .data, .data, .sentinel, .sentinel], laidTests := true, laidLooks := .later }
def SamplingChecksAsSpecifiedUptoCardSaid : Prop := Claim7.holds Tryz.pinned (.plain (OpenSpec.upto samplingChecksAsSpecifiedSpec)) samplingChecksAsSpecifiedUptoCard

/-- THE SECOND FORM's CARD OF 'dryweightlaw05.SamplingCommitsAsSpecified'. -/
def samplingCommitsAsSpecifiedUptoCard : Claim7 := { stood := { row := samplingCommitsAsSpecifiedUptoRow, standIns := [], harness := (true, "7b85e534b0684cc2716941b4b3d6b3c2889954563d89c0d92bb0713937b17cf6"), looks := true }, kinds := [], alts := [], laidByText := true, laidKinds := [.data, .data, .data, .sentinel, .sentinel], laidTests := true, laidLooks := .later }
def SamplingCommitsAsSpecifiedUptoCardSaid : Prop := Claim7.holds Tryz.pinned (.plain (OpenSpec.upto samplingCommitsAsSpecifiedSpec)) samplingCommitsAsSpecifiedUptoCard

/-- THE SECOND FORM's CARD OF 'dryweightlaw05.SamplingProvesAsSpecified'. -/
def samplingProvesAsSpecifiedUptoCard : Claim7 := { stood := { row := samplingProvesAsSpecifiedUptoRow, standIns := [], harness := (true, "7b85e534b0684cc2716941b4b3d6b3c2889954563d89c0d92bb0713937b17cf6"), looks := true }, kinds := [], alts := [], laidByText := true, laidKinds := [.data, .data, .data, .sentinel, .sentinel], laidTests := true, laidLooks := .later }
def SamplingProvesAsSpecifiedUptoCardSaid : Prop := Claim7.holds Tryz.pinned (.plain (OpenSpec.upto samplingProvesAsSpecifiedSpec)) samplingProvesAsSpecifiedUptoCard

/-- THE SECOND FORM's CARD OF 'dryweightlaw05.SamplingDriesAsSpecified'. -/
def samplingDriesAsSpecifiedUptoCard : Claim7 := { stood := { row := samplingDriesAsSpecifiedUptoRow, standIns := [], harness := (true, "7b85e534b0684cc2716941b4b3d6b3c2889954563d89c0d92bb0713937b17cf6"), looks := true }, kinds := [], alts := [], laidByText := true, laidKinds := [.data, .data, .data, .sentinel, .sentinel], laidTests := true, laidLooks := .later }
def SamplingDriesAsSpecifiedUptoCardSaid : Prop := Claim7.holds Tryz.pinned (.plain (OpenSpec.upto samplingDriesAsSpecifiedSpec)) samplingDriesAsSpecifiedUptoCard

/-- THE SECOND FORM's CARD OF 'dryweightlaw05.SamplingNobodySteers'. -/
def samplingNobodySteersUptoCard : Claim7 := { stood := { row := samplingNobodySteersUptoRow, standIns := [], harness := (true, "7b85e534b0684cc2716941b4b3d6b3c2889954563d89c0d92bb0713937b17cf6"), looks := true }, kinds := [], alts := [], laidByText := true, laidKinds := [.data, .data, .data, .sentinel, .sentinel], laidTests := true, laidLooks := .later }
def SamplingNobodySteersUptoCardSaid : Prop := Claim7.holds Tryz.pinned (.plain (OpenSpec.upto samplingNobodySteersSpec)) samplingNobodySteersUptoCard

/-- THE SECOND FORM's CARD OF 'dryweightlaw05.SamplingStaysDry'. -/
def samplingStaysDryUptoCard : Claim7 := { stood := { row := samplingStaysDryUptoRow, standIns := [], harness := (true, "7b85e534b0684cc2716941b4b3d6b3c2889954563d89c0d92bb0713937b17cf6"), looks := true }, kinds := [], alts := [], laidByText := true, laidKinds := [.data, .data, .data, .sentinel, .sentinel], laidTests := true, laidLooks := .later }
def SamplingStaysDryUptoCardSaid : Prop := Claim7.holds Tryz.pinned (.plain (OpenSpec.upto samplingStaysDrySpec)) samplingStaysDryUptoCard

/-- THE SECOND FORM's CARD OF 'dryweightlaw05.SamplingDrawsAsSpecified'. -/
def samplingDrawsAsSpecifiedUptoCard : Claim7 := { stood := { row := samplingDrawsAsSpecifiedUptoRow, standIns := [], harness := (true, "7b85e534b0684cc2716941b4b3d6b3c2889954563d89c0d92bb0713937b17cf6"), looks := true }, kinds := [], alts := [], laidByText := true, laidKinds := [.data, .data, .data, .sentinel, .sentinel], laidTests := true, laidLooks := .later }
def SamplingDrawsAsSpecifiedUptoCardSaid : Prop := Claim7.holds Tryz.pinned (.plain (OpenSpec.upto samplingDrawsAsSpecifiedSpec)) samplingDrawsAsSpecifiedUptoCard

/-- THE SECOND FORM's CARD OF 'dryweightlaw05.SamplingDrawsOnce'. -/
def samplingDrawsOnceUptoCard : Claim7 := { stood := { row := samplingDrawsOnceUptoRow, standIns := [], harness := (true, "7b85e534b0684cc2716941b4b3d6b3c2889954563d89c0d92bb0713937b17cf6"), looks := true }, kinds := [], alts := [], laidByText := true, laidKinds := [.data, .data, .data, .sentinel, .sentinel], laidTests := true, laidLooks := .later }
def SamplingDrawsOnceUptoCardSaid : Prop := Claim7.holds Tryz.pinned (.plain (OpenSpec.upto samplingDrawsOnceSpec)) samplingDrawsOnceUptoCard
end Rows
end Go.Proofs.YtnohidkmjclojaaGreatDoor
