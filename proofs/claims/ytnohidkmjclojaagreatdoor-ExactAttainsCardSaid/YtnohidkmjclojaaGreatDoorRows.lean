/-
  NARROWER THAN 'FOR EVERY INPUT', by the rows' own cells (each row's printed sentence says how): ExactSpansAsSpecified: laid · ExactAttains: laid · ExactCoversAsSpecified: laid · ExactContains: laid · SamplingChecksAsSpecified: laid · SamplingCommitsAsSpecified: laid · SamplingProvesAsSpecified: laid · SamplingDriesAsSpecified: laid · SamplingNobodySteers: laid · SamplingStaysDry: laid · SamplingDrawsAsSpecified: laid · SamplingDrawsOnce: laid.
  DERIVED. THE GIVEN ROWS OF THIS SEAT. 12 by the template 'for every input the law returns true; each argument reads behind the call as it read before'; 0 by the template 'total and deterministic' (their statements: YtnohidkmjclojaaGreatDoorTotals.lean).
  GIVEN WITH THE SEED: the statements are not yours to turn. If you find one false, say at which input.
  Laid BY PROGRAM, IN A SANDBOX (cutbox-rows.mjs): the forced cells as the released guide's own fill.sh prints them over the translation 4768b90152169e53… (all of the seat's roots in one cut). By AI agents, Wed Nov 11 2026. No macro, syntax, notation, axiom, sorry.
-/
import Derived.Test.YtnohidkmjclojaaGreatDoorChecked
import GoSem.Claim
import GoSem.ClaimJoined
import GoSem.ClaimMapViews
import Derived.JoinedTies
import Derived.KernelRfl
namespace Go.Proofs.YtnohidkmjclojaaGreatDoor
/- THE CELL 'sum', in the pinned program and in every row, IS THE sha256 OF THE DUMP (.gsa) THAT YtnohidkmjclojaaGreatDoorProg.lean LOADS. Nothing in Lean hashes anything: it is a label: what it is worth is what the hold of that sum in a sandbox is worth. -/
noncomputable def Tryz.pinned : Pinned := { name := "ytnohidkmjclojaagreatdoor", sum := "4768b90152169e53f26df928a87c6c530548737361d0211085db886251eff18b", checked := Tryz.checked }
namespace Rows
def none {H : Type} : Left H := { results := [], args := [] }

/- WHAT THE LISTED PACKAGE-LEVEL VARIABLES READ AS WHEN THE CALL BEGINS. Each datum BY PROGRAM (the guide's laid-datum.mjs) off the statement by which the dump's own 'gosem.cut.vars' lays the variable. In a bare row this is a premise. The card (YtnohidkmjclojaaGreatDoorCards.lean) ties it to the program's text. -/
def laid_math_bits_deBruijn32tab {H : Type} : DataW H := .agg [.lit (.int .u8 0), .lit (.int .u8 1), .lit (.int .u8 28), .lit (.int .u8 2), .lit (.int .u8 29), .lit (.int .u8 14), .lit (.int .u8 24), .lit (.int .u8 3), .lit (.int .u8 30), .lit (.int .u8 22), .lit (.int .u8 20), .lit (.int .u8 15), .lit (.int .u8 25), .lit (.int .u8 17), .lit (.int .u8 4), .lit (.int .u8 8), .lit (.int .u8 31), .lit (.int .u8 27), .lit (.int .u8 13), .lit (.int .u8 23), .lit (.int .u8 21), .lit (.int .u8 19), .lit (.int .u8 16), .lit (.int .u8 7), .lit (.int .u8 26), .lit (.int .u8 12), .lit (.int .u8 18), .lit (.int .u8 6), .lit (.int .u8 11), .lit (.int .u8 5), .lit (.int .u8 10), .lit (.int .u8 9)]
def laid_math_bits_deBruijn64tab {H : Type} : DataW H := .agg [.lit (.int .u8 0), .lit (.int .u8 1), .lit (.int .u8 56), .lit (.int .u8 2), .lit (.int .u8 57), .lit (.int .u8 49), .lit (.int .u8 28), .lit (.int .u8 3), .lit (.int .u8 61), .lit (.int .u8 58), .lit (.int .u8 42), .lit (.int .u8 50), .lit (.int .u8 38), .lit (.int .u8 29), .lit (.int .u8 17), .lit (.int .u8 4), .lit (.int .u8 62), .lit (.int .u8 47), .lit (.int .u8 59), .lit (.int .u8 36), .lit (.int .u8 45), .lit (.int .u8 43), .lit (.int .u8 51), .lit (.int .u8 22), .lit (.int .u8 53), .lit (.int .u8 39), .lit (.int .u8 33), .lit (.int .u8 30), .lit (.int .u8 24), .lit (.int .u8 18), .lit (.int .u8 12), .lit (.int .u8 5), .lit (.int .u8 63), .lit (.int .u8 55), .lit (.int .u8 48), .lit (.int .u8 27), .lit (.int .u8 60), .lit (.int .u8 41), .lit (.int .u8 37), .lit (.int .u8 16), .lit (.int .u8 46), .lit (.int .u8 35), .lit (.int .u8 44), .lit (.int .u8 21), .lit (.int .u8 52), .lit (.int .u8 32), .lit (.int .u8 23), .lit (.int .u8 11), .lit (.int .u8 54), .lit (.int .u8 26), .lit (.int .u8 40), .lit (.int .u8 15), .lit (.int .u8 34), .lit (.int .u8 20), .lit (.int .u8 31), .lit (.int .u8 10), .lit (.int .u8 25), .lit (.int .u8 14), .lit (.int .u8 19), .lit (.int .u8 9), .lit (.int .u8 13), .lit (.int .u8 8), .lit (.int .u8 7), .lit (.int .u8 6)]
def laid_internal_strconv_uint64pow10 {H : Type} : DataW H := .agg [.lit (.int .u64 1), .lit (.int .u64 10), .lit (.int .u64 100), .lit (.int .u64 1000), .lit (.int .u64 10000), .lit (.int .u64 100000), .lit (.int .u64 1000000), .lit (.int .u64 10000000), .lit (.int .u64 100000000), .lit (.int .u64 1000000000), .lit (.int .u64 10000000000), .lit (.int .u64 100000000000), .lit (.int .u64 1000000000000), .lit (.int .u64 10000000000000), .lit (.int .u64 100000000000000), .lit (.int .u64 1000000000000000), .lit (.int .u64 10000000000000000), .lit (.int .u64 100000000000000000), .lit (.int .u64 1000000000000000000), .lit (.int .u64 10000000000000000000)]
def laid_strconv_ErrRange {H : Type} : DataW H := .iface "*errors.errorString" (.ptr (.agg [.lit (.string [118, 97, 108, 117, 101, 32, 111, 117, 116, 32, 111, 102, 32, 114, 97, 110, 103, 101])]))
def laid_strconv_ErrSyntax {H : Type} : DataW H := .iface "*errors.errorString" (.ptr (.agg [.lit (.string [105, 110, 118, 97, 108, 105, 100, 32, 115, 121, 110, 116, 97, 120])]))

/-- 'dryweightlaw02.ExactSpansAsSpecified': WHATEVER THE INPUT: true; the input reads as it did. -/
def exactSpansAsSpecifiedSpec : ChangeSpec := { name := "exactSpansAsSpecified", fn := fun _ => fun
  | [d1, d2] => { results := [.lit (.bool true)], args := [d1, d2] }
  | _ => none }
def exactSpansAsSpecifiedRow : OpenClaim := { program := "ytnohidkmjclojaagreatdoor", sum := "4768b90152169e53f26df928a87c6c530548737361d0211085db886251eff18b", func := "dryweight/dryweightlaw02.ExactSpansAsSpecified", spec := "exactSpansAsSpecified", inPlace := ["internal/abi.NoEscape", "internal/bytealg.MakeNoZero"], unfollowed := true, recurses := true, named := ["internal/strconv.uint64pow10", "math/bits.deBruijn32tab", "math/bits.deBruijn64tab", "strconv.ErrSyntax", "strconv.ErrRange"], apart := false, laid := [("math/bits.deBruijn32tab", laid_math_bits_deBruijn32tab), ("math/bits.deBruijn64tab", laid_math_bits_deBruijn64tab), ("internal/strconv.uint64pow10", laid_internal_strconv_uint64pow10), ("strconv.ErrRange", laid_strconv_ErrRange), ("strconv.ErrSyntax", laid_strconv_ErrSyntax)] }
def ExactSpansAsSpecifiedSaid : Prop := exactSpansAsSpecifiedRow.holds Tryz.pinned (OpenSpec.ofChange exactSpansAsSpecifiedSpec)

/-- ITS FALSE NEIGHBOUR: 'it returns false'. Refute it at one input. -/
def exactSpansAsSpecifiedWrong : ChangeSpec := { name := "exactSpansAsSpecified", fn := fun _ => fun
  | [d1, d2] => { results := [.lit (.bool false)], args := [d1, d2] }
  | _ => none }
def ExactSpansAsSpecifiedWrongFalsely : Prop := exactSpansAsSpecifiedRow.holds Tryz.pinned (OpenSpec.ofChange exactSpansAsSpecifiedWrong)

/-- 'dryweightlaw02.ExactAttains': WHATEVER THE INPUT: true; the input reads as it did. -/
def exactAttainsSpec : ChangeSpec := { name := "exactAttains", fn := fun _ => fun
  | [d1, d2] => { results := [.lit (.bool true)], args := [d1, d2] }
  | _ => none }
def exactAttainsRow : OpenClaim := { program := "ytnohidkmjclojaagreatdoor", sum := "4768b90152169e53f26df928a87c6c530548737361d0211085db886251eff18b", func := "dryweight/dryweightlaw02.ExactAttains", spec := "exactAttains", inPlace := ["internal/abi.NoEscape", "internal/bytealg.MakeNoZero"], unfollowed := true, recurses := true, named := ["strconv.ErrSyntax", "strconv.ErrRange", "internal/strconv.uint64pow10", "math/bits.deBruijn32tab", "math/bits.deBruijn64tab"], apart := false, laid := [("math/bits.deBruijn32tab", laid_math_bits_deBruijn32tab), ("math/bits.deBruijn64tab", laid_math_bits_deBruijn64tab), ("internal/strconv.uint64pow10", laid_internal_strconv_uint64pow10), ("strconv.ErrRange", laid_strconv_ErrRange), ("strconv.ErrSyntax", laid_strconv_ErrSyntax)] }
def ExactAttainsSaid : Prop := exactAttainsRow.holds Tryz.pinned (OpenSpec.ofChange exactAttainsSpec)

/-- ITS FALSE NEIGHBOUR: 'it returns false'. Refute it at one input. -/
def exactAttainsWrong : ChangeSpec := { name := "exactAttains", fn := fun _ => fun
  | [d1, d2] => { results := [.lit (.bool false)], args := [d1, d2] }
  | _ => none }
def ExactAttainsWrongFalsely : Prop := exactAttainsRow.holds Tryz.pinned (OpenSpec.ofChange exactAttainsWrong)

/-- 'dryweightlaw02.ExactCoversAsSpecified': WHATEVER THE INPUT: true; the input reads as it did. -/
def exactCoversAsSpecifiedSpec : ChangeSpec := { name := "exactCoversAsSpecified", fn := fun _ => fun
  | [d1, d2, d3] => { results := [.lit (.bool true)], args := [d1, d2, d3] }
  | _ => none }
def exactCoversAsSpecifiedRow : OpenClaim := { program := "ytnohidkmjclojaagreatdoor", sum := "4768b90152169e53f26df928a87c6c530548737361d0211085db886251eff18b", func := "dryweight/dryweightlaw02.ExactCoversAsSpecified", spec := "exactCoversAsSpecified", inPlace := ["internal/abi.NoEscape", "internal/bytealg.MakeNoZero"], unfollowed := true, recurses := true, named := ["internal/strconv.uint64pow10", "math/bits.deBruijn32tab", "math/bits.deBruijn64tab", "strconv.ErrSyntax", "strconv.ErrRange"], apart := false, laid := [("math/bits.deBruijn32tab", laid_math_bits_deBruijn32tab), ("math/bits.deBruijn64tab", laid_math_bits_deBruijn64tab), ("internal/strconv.uint64pow10", laid_internal_strconv_uint64pow10), ("strconv.ErrRange", laid_strconv_ErrRange), ("strconv.ErrSyntax", laid_strconv_ErrSyntax)] }
def ExactCoversAsSpecifiedSaid : Prop := exactCoversAsSpecifiedRow.holds Tryz.pinned (OpenSpec.ofChange exactCoversAsSpecifiedSpec)

/-- ITS FALSE NEIGHBOUR: 'it returns false'. Refute it at one input. -/
def exactCoversAsSpecifiedWrong : ChangeSpec := { name := "exactCoversAsSpecified", fn := fun _ => fun
  | [d1, d2, d3] => { results := [.lit (.bool false)], args := [d1, d2, d3] }
  | _ => none }
def ExactCoversAsSpecifiedWrongFalsely : Prop := exactCoversAsSpecifiedRow.holds Tryz.pinned (OpenSpec.ofChange exactCoversAsSpecifiedWrong)

/-- 'dryweightlaw02.ExactContains': WHATEVER THE INPUT: true; the input reads as it did. -/
def exactContainsSpec : ChangeSpec := { name := "exactContains", fn := fun _ => fun
  | [d1, d2, d3, d4, d5] => { results := [.lit (.bool true)], args := [d1, d2, d3, d4, d5] }
  | _ => none }
def exactContainsRow : OpenClaim := { program := "ytnohidkmjclojaagreatdoor", sum := "4768b90152169e53f26df928a87c6c530548737361d0211085db886251eff18b", func := "dryweight/dryweightlaw02.ExactContains", spec := "exactContains", inPlace := ["internal/abi.NoEscape", "internal/bytealg.MakeNoZero"], unfollowed := true, recurses := true, named := ["strconv.ErrSyntax", "strconv.ErrRange", "internal/strconv.uint64pow10", "math/bits.deBruijn32tab", "math/bits.deBruijn64tab"], apart := false, laid := [("math/bits.deBruijn32tab", laid_math_bits_deBruijn32tab), ("math/bits.deBruijn64tab", laid_math_bits_deBruijn64tab), ("internal/strconv.uint64pow10", laid_internal_strconv_uint64pow10), ("strconv.ErrRange", laid_strconv_ErrRange), ("strconv.ErrSyntax", laid_strconv_ErrSyntax)] }
def ExactContainsSaid : Prop := exactContainsRow.holds Tryz.pinned (OpenSpec.ofChange exactContainsSpec)

/-- ITS FALSE NEIGHBOUR: 'it returns false'. Refute it at one input. -/
def exactContainsWrong : ChangeSpec := { name := "exactContains", fn := fun _ => fun
  | [d1, d2, d3, d4, d5] => { results := [.lit (.bool false)], args := [d1, d2, d3, d4, d5] }
  | _ => none }
def ExactContainsWrongFalsely : Prop := exactContainsRow.holds Tryz.pinned (OpenSpec.ofChange exactContainsWrong)

/-- 'dryweightlaw05.SamplingChecksAsSpecified': WHATEVER THE INPUT: true; the input reads as it did. -/
def samplingChecksAsSpecifiedSpec : ChangeSpec := { name := "samplingChecksAsSpecified", fn := fun _ => fun
  | [d] => { results := [.lit (.bool true)], args := [d] }
  | _ => none }
def samplingChecksAsSpecifiedRow : OpenClaim := { program := "ytnohidkmjclojaagreatdoor", sum := "4768b90152169e53f26df928a87c6c530548737361d0211085db886251eff18b", func := "dryweight/dryweightlaw05.SamplingChecksAsSpecified", spec := "samplingChecksAsSpecified", inPlace := ["internal/abi.NoEscape", "internal/bytealg.MakeNoZero"], unfollowed := true, recurses := true, named := ["strconv.ErrSyntax", "strconv.ErrRange", "internal/strconv.uint64pow10", "math/bits.deBruijn32tab", "math/bits.deBruijn64tab"], apart := false, laid := [("math/bits.deBruijn32tab", laid_math_bits_deBruijn32tab), ("math/bits.deBruijn64tab", laid_math_bits_deBruijn64tab), ("internal/strconv.uint64pow10", laid_internal_strconv_uint64pow10), ("strconv.ErrRange", laid_strconv_ErrRange), ("strconv.ErrSyntax", laid_strconv_ErrSyntax)] }
def SamplingChecksAsSpecifiedSaid : Prop := samplingChecksAsSpecifiedRow.holds Tryz.pinned (OpenSpec.ofChange samplingChecksAsSpecifiedSpec)

/-- ITS FALSE NEIGHBOUR: 'it returns false'. Refute it at one input. -/
def samplingChecksAsSpecifiedWrong : ChangeSpec := { name := "samplingChecksAsSpecified", fn := fun _ => fun
  | [d] => { results := [.lit (.bool false)], args := [d] }
  | _ => none }
def SamplingChecksAsSpecifiedWrongFalsely : Prop := samplingChecksAsSpecifiedRow.holds Tryz.pinned (OpenSpec.ofChange samplingChecksAsSpecifiedWrong)

/-- 'dryweightlaw05.SamplingCommitsAsSpecified': WHATEVER THE INPUT: true; the input reads as it did. -/
def samplingCommitsAsSpecifiedSpec : ChangeSpec := { name := "samplingCommitsAsSpecified", fn := fun _ => fun
  | [d1, d2, d3, d4, d5] => { results := [.lit (.bool true)], args := [d1, d2, d3, d4, d5] }
  | _ => none }
def samplingCommitsAsSpecifiedRow : OpenClaim := { program := "ytnohidkmjclojaagreatdoor", sum := "4768b90152169e53f26df928a87c6c530548737361d0211085db886251eff18b", func := "dryweight/dryweightlaw05.SamplingCommitsAsSpecified", spec := "samplingCommitsAsSpecified", inPlace := ["internal/abi.NoEscape", "internal/bytealg.MakeNoZero"], unfollowed := true, recurses := true, named := ["strconv.ErrSyntax", "strconv.ErrRange", "internal/strconv.uint64pow10", "math/bits.deBruijn32tab", "math/bits.deBruijn64tab"], apart := false, laid := [("math/bits.deBruijn32tab", laid_math_bits_deBruijn32tab), ("math/bits.deBruijn64tab", laid_math_bits_deBruijn64tab), ("internal/strconv.uint64pow10", laid_internal_strconv_uint64pow10), ("strconv.ErrRange", laid_strconv_ErrRange), ("strconv.ErrSyntax", laid_strconv_ErrSyntax)] }
def SamplingCommitsAsSpecifiedSaid : Prop := samplingCommitsAsSpecifiedRow.holds Tryz.pinned (OpenSpec.ofChange samplingCommitsAsSpecifiedSpec)

/-- ITS FALSE NEIGHBOUR: 'it returns false'. Refute it at one input. -/
def samplingCommitsAsSpecifiedWrong : ChangeSpec := { name := "samplingCommitsAsSpecified", fn := fun _ => fun
  | [d1, d2, d3, d4, d5] => { results := [.lit (.bool false)], args := [d1, d2, d3, d4, d5] }
  | _ => none }
def SamplingCommitsAsSpecifiedWrongFalsely : Prop := samplingCommitsAsSpecifiedRow.holds Tryz.pinned (OpenSpec.ofChange samplingCommitsAsSpecifiedWrong)

/-- 'dryweightlaw05.SamplingProvesAsSpecified': WHATEVER THE INPUT: true; the input reads as it did. -/
def samplingProvesAsSpecifiedSpec : ChangeSpec := { name := "samplingProvesAsSpecified", fn := fun _ => fun
  | [d1, d2, d3, d4, d5, d6] => { results := [.lit (.bool true)], args := [d1, d2, d3, d4, d5, d6] }
  | _ => none }
def samplingProvesAsSpecifiedRow : OpenClaim := { program := "ytnohidkmjclojaagreatdoor", sum := "4768b90152169e53f26df928a87c6c530548737361d0211085db886251eff18b", func := "dryweight/dryweightlaw05.SamplingProvesAsSpecified", spec := "samplingProvesAsSpecified", inPlace := ["internal/abi.NoEscape", "internal/bytealg.MakeNoZero"], unfollowed := true, recurses := true, named := ["strconv.ErrSyntax", "strconv.ErrRange", "internal/strconv.uint64pow10", "math/bits.deBruijn32tab", "math/bits.deBruijn64tab"], apart := false, laid := [("math/bits.deBruijn32tab", laid_math_bits_deBruijn32tab), ("math/bits.deBruijn64tab", laid_math_bits_deBruijn64tab), ("internal/strconv.uint64pow10", laid_internal_strconv_uint64pow10), ("strconv.ErrRange", laid_strconv_ErrRange), ("strconv.ErrSyntax", laid_strconv_ErrSyntax)] }
def SamplingProvesAsSpecifiedSaid : Prop := samplingProvesAsSpecifiedRow.holds Tryz.pinned (OpenSpec.ofChange samplingProvesAsSpecifiedSpec)

/-- ITS FALSE NEIGHBOUR: 'it returns false'. Refute it at one input. -/
def samplingProvesAsSpecifiedWrong : ChangeSpec := { name := "samplingProvesAsSpecified", fn := fun _ => fun
  | [d1, d2, d3, d4, d5, d6] => { results := [.lit (.bool false)], args := [d1, d2, d3, d4, d5, d6] }
  | _ => none }
def SamplingProvesAsSpecifiedWrongFalsely : Prop := samplingProvesAsSpecifiedRow.holds Tryz.pinned (OpenSpec.ofChange samplingProvesAsSpecifiedWrong)

/-- 'dryweightlaw05.SamplingDriesAsSpecified': WHATEVER THE INPUT: true; the input reads as it did. -/
def samplingDriesAsSpecifiedSpec : ChangeSpec := { name := "samplingDriesAsSpecified", fn := fun _ => fun
  | [d1, d2, d3, d4] => { results := [.lit (.bool true)], args := [d1, d2, d3, d4] }
  | _ => none }
def samplingDriesAsSpecifiedRow : OpenClaim := { program := "ytnohidkmjclojaagreatdoor", sum := "4768b90152169e53f26df928a87c6c530548737361d0211085db886251eff18b", func := "dryweight/dryweightlaw05.SamplingDriesAsSpecified", spec := "samplingDriesAsSpecified", inPlace := ["internal/abi.NoEscape", "internal/bytealg.MakeNoZero"], unfollowed := true, recurses := true, named := ["strconv.ErrSyntax", "strconv.ErrRange", "internal/strconv.uint64pow10", "math/bits.deBruijn32tab", "math/bits.deBruijn64tab"], apart := false, laid := [("math/bits.deBruijn32tab", laid_math_bits_deBruijn32tab), ("math/bits.deBruijn64tab", laid_math_bits_deBruijn64tab), ("internal/strconv.uint64pow10", laid_internal_strconv_uint64pow10), ("strconv.ErrRange", laid_strconv_ErrRange), ("strconv.ErrSyntax", laid_strconv_ErrSyntax)] }
def SamplingDriesAsSpecifiedSaid : Prop := samplingDriesAsSpecifiedRow.holds Tryz.pinned (OpenSpec.ofChange samplingDriesAsSpecifiedSpec)

/-- ITS FALSE NEIGHBOUR: 'it returns false'. Refute it at one input. -/
def samplingDriesAsSpecifiedWrong : ChangeSpec := { name := "samplingDriesAsSpecified", fn := fun _ => fun
  | [d1, d2, d3, d4] => { results := [.lit (.bool false)], args := [d1, d2, d3, d4] }
  | _ => none }
def SamplingDriesAsSpecifiedWrongFalsely : Prop := samplingDriesAsSpecifiedRow.holds Tryz.pinned (OpenSpec.ofChange samplingDriesAsSpecifiedWrong)

/-- 'dryweightlaw05.SamplingNobodySteers': WHATEVER THE INPUT: true; the input reads as it did. -/
def samplingNobodySteersSpec : ChangeSpec := { name := "samplingNobodySteers", fn := fun _ => fun
  | [d1, d2, d3, d4, d5] => { results := [.lit (.bool true)], args := [d1, d2, d3, d4, d5] }
  | _ => none }
def samplingNobodySteersRow : OpenClaim := { program := "ytnohidkmjclojaagreatdoor", sum := "4768b90152169e53f26df928a87c6c530548737361d0211085db886251eff18b", func := "dryweight/dryweightlaw05.SamplingNobodySteers", spec := "samplingNobodySteers", inPlace := ["internal/abi.NoEscape", "internal/bytealg.MakeNoZero"], unfollowed := true, recurses := true, named := ["strconv.ErrSyntax", "strconv.ErrRange", "internal/strconv.uint64pow10", "math/bits.deBruijn32tab", "math/bits.deBruijn64tab"], apart := false, laid := [("math/bits.deBruijn32tab", laid_math_bits_deBruijn32tab), ("math/bits.deBruijn64tab", laid_math_bits_deBruijn64tab), ("internal/strconv.uint64pow10", laid_internal_strconv_uint64pow10), ("strconv.ErrRange", laid_strconv_ErrRange), ("strconv.ErrSyntax", laid_strconv_ErrSyntax)] }
def SamplingNobodySteersSaid : Prop := samplingNobodySteersRow.holds Tryz.pinned (OpenSpec.ofChange samplingNobodySteersSpec)

/-- ITS FALSE NEIGHBOUR: 'it returns false'. Refute it at one input. -/
def samplingNobodySteersWrong : ChangeSpec := { name := "samplingNobodySteers", fn := fun _ => fun
  | [d1, d2, d3, d4, d5] => { results := [.lit (.bool false)], args := [d1, d2, d3, d4, d5] }
  | _ => none }
def SamplingNobodySteersWrongFalsely : Prop := samplingNobodySteersRow.holds Tryz.pinned (OpenSpec.ofChange samplingNobodySteersWrong)

/-- 'dryweightlaw05.SamplingStaysDry': WHATEVER THE INPUT: true; the input reads as it did. -/
def samplingStaysDrySpec : ChangeSpec := { name := "samplingStaysDry", fn := fun _ => fun
  | [d1, d2, d3, d4] => { results := [.lit (.bool true)], args := [d1, d2, d3, d4] }
  | _ => none }
def samplingStaysDryRow : OpenClaim := { program := "ytnohidkmjclojaagreatdoor", sum := "4768b90152169e53f26df928a87c6c530548737361d0211085db886251eff18b", func := "dryweight/dryweightlaw05.SamplingStaysDry", spec := "samplingStaysDry", inPlace := ["internal/abi.NoEscape", "internal/bytealg.MakeNoZero"], unfollowed := true, recurses := true, named := ["strconv.ErrSyntax", "strconv.ErrRange", "internal/strconv.uint64pow10", "math/bits.deBruijn32tab", "math/bits.deBruijn64tab"], apart := false, laid := [("math/bits.deBruijn32tab", laid_math_bits_deBruijn32tab), ("math/bits.deBruijn64tab", laid_math_bits_deBruijn64tab), ("internal/strconv.uint64pow10", laid_internal_strconv_uint64pow10), ("strconv.ErrRange", laid_strconv_ErrRange), ("strconv.ErrSyntax", laid_strconv_ErrSyntax)] }
def SamplingStaysDrySaid : Prop := samplingStaysDryRow.holds Tryz.pinned (OpenSpec.ofChange samplingStaysDrySpec)

/-- ITS FALSE NEIGHBOUR: 'it returns false'. Refute it at one input. -/
def samplingStaysDryWrong : ChangeSpec := { name := "samplingStaysDry", fn := fun _ => fun
  | [d1, d2, d3, d4] => { results := [.lit (.bool false)], args := [d1, d2, d3, d4] }
  | _ => none }
def SamplingStaysDryWrongFalsely : Prop := samplingStaysDryRow.holds Tryz.pinned (OpenSpec.ofChange samplingStaysDryWrong)

/-- 'dryweightlaw05.SamplingDrawsAsSpecified': WHATEVER THE INPUT: true; the input reads as it did. -/
def samplingDrawsAsSpecifiedSpec : ChangeSpec := { name := "samplingDrawsAsSpecified", fn := fun _ => fun
  | [d1, d2, d3, d4] => { results := [.lit (.bool true)], args := [d1, d2, d3, d4] }
  | _ => none }
def samplingDrawsAsSpecifiedRow : OpenClaim := { program := "ytnohidkmjclojaagreatdoor", sum := "4768b90152169e53f26df928a87c6c530548737361d0211085db886251eff18b", func := "dryweight/dryweightlaw05.SamplingDrawsAsSpecified", spec := "samplingDrawsAsSpecified", inPlace := ["internal/abi.NoEscape", "internal/bytealg.MakeNoZero"], unfollowed := true, recurses := true, named := ["strconv.ErrSyntax", "strconv.ErrRange", "internal/strconv.uint64pow10", "math/bits.deBruijn32tab", "math/bits.deBruijn64tab"], apart := false, laid := [("math/bits.deBruijn32tab", laid_math_bits_deBruijn32tab), ("math/bits.deBruijn64tab", laid_math_bits_deBruijn64tab), ("internal/strconv.uint64pow10", laid_internal_strconv_uint64pow10), ("strconv.ErrRange", laid_strconv_ErrRange), ("strconv.ErrSyntax", laid_strconv_ErrSyntax)] }
def SamplingDrawsAsSpecifiedSaid : Prop := samplingDrawsAsSpecifiedRow.holds Tryz.pinned (OpenSpec.ofChange samplingDrawsAsSpecifiedSpec)

/-- ITS FALSE NEIGHBOUR: 'it returns false'. Refute it at one input. -/
def samplingDrawsAsSpecifiedWrong : ChangeSpec := { name := "samplingDrawsAsSpecified", fn := fun _ => fun
  | [d1, d2, d3, d4] => { results := [.lit (.bool false)], args := [d1, d2, d3, d4] }
  | _ => none }
def SamplingDrawsAsSpecifiedWrongFalsely : Prop := samplingDrawsAsSpecifiedRow.holds Tryz.pinned (OpenSpec.ofChange samplingDrawsAsSpecifiedWrong)

/-- 'dryweightlaw05.SamplingDrawsOnce': WHATEVER THE INPUT: true; the input reads as it did. -/
def samplingDrawsOnceSpec : ChangeSpec := { name := "samplingDrawsOnce", fn := fun _ => fun
  | [d1, d2, d3] => { results := [.lit (.bool true)], args := [d1, d2, d3] }
  | _ => none }
def samplingDrawsOnceRow : OpenClaim := { program := "ytnohidkmjclojaagreatdoor", sum := "4768b90152169e53f26df928a87c6c530548737361d0211085db886251eff18b", func := "dryweight/dryweightlaw05.SamplingDrawsOnce", spec := "samplingDrawsOnce", inPlace := ["internal/abi.NoEscape", "internal/bytealg.MakeNoZero"], unfollowed := true, recurses := true, named := ["strconv.ErrSyntax", "strconv.ErrRange", "internal/strconv.uint64pow10", "math/bits.deBruijn32tab", "math/bits.deBruijn64tab"], apart := false, laid := [("math/bits.deBruijn32tab", laid_math_bits_deBruijn32tab), ("math/bits.deBruijn64tab", laid_math_bits_deBruijn64tab), ("internal/strconv.uint64pow10", laid_internal_strconv_uint64pow10), ("strconv.ErrRange", laid_strconv_ErrRange), ("strconv.ErrSyntax", laid_strconv_ErrSyntax)] }
def SamplingDrawsOnceSaid : Prop := samplingDrawsOnceRow.holds Tryz.pinned (OpenSpec.ofChange samplingDrawsOnceSpec)

/-- ITS FALSE NEIGHBOUR: 'it returns false'. Refute it at one input. -/
def samplingDrawsOnceWrong : ChangeSpec := { name := "samplingDrawsOnce", fn := fun _ => fun
  | [d1, d2, d3] => { results := [.lit (.bool false)], args := [d1, d2, d3] }
  | _ => none }
def SamplingDrawsOnceWrongFalsely : Prop := samplingDrawsOnceRow.holds Tryz.pinned (OpenSpec.ofChange samplingDrawsOnceWrong)

/- THE SECOND FORM. 'bulk': how many values and letters a reading holds, each counted each time it is reached (what is shared counts as often as it is met; a slice's spare places count too). A statement '..UptoSaid' is the law's where the arguments, and the package variables that the reading takes, are together of bulk at most 1048576: NARROWER than '..Said'. Prove '..Said' where nothing that the law and all that it calls make is longer than what came in: it says more and counts as full. Else prove '..UptoSaid'. A law counts once. -/
mutual
def uptoBulk {H : Type} : DataW H → Nat
  | .lit (.string bytes) => bytes.length + 1
  | .lit _ => 1
  | .nil => 1
  | .ptr d => uptoBulk d + 1
  | .slice elems spare => uptoBulkAll elems + uptoBulkAll spare + 1
  | .agg parts => uptoBulkAll parts + 1
  | .iface _ d => uptoBulk d + 1
  | .map entries => uptoBulkEntries entries + 1
  | .held _ => 1
def uptoBulkAll {H : Type} : List (DataW H) → Nat
  | [] => 0
  | d :: r => uptoBulk d + uptoBulkAll r
def uptoBulkEntries {H : Type} : List (Lit × DataW H) → Nat
  | [] => 0
  | x :: r => uptoBulkEntry x + uptoBulkEntries r
def uptoBulkEntry {H : Type} : Lit × DataW H → Nat
  | (.string bytes, d) => bytes.length + uptoBulk d + 1
  | (_, d) => uptoBulk d + 1
 end
def uptoSmall : (H : Type) → List (DataW H) → Bool := fun _ ds => decide (uptoBulkAll ds ≤ 1048576)
def OpenSpec.upto (s : _root_.Go.ChangeSpec) : _root_.Go.OpenSpec := { _root_.Go.OpenSpec.ofChange s with cond := some uptoSmall }

/-- 'dryweightlaw02.ExactSpansAsSpecified', WHERE WHAT IT READS IS OF BULK AT MOST 1048576: true; the input reads as it did. -/
def exactSpansAsSpecifiedUptoRow : OpenClaim := { program := "ytnohidkmjclojaagreatdoor", sum := "4768b90152169e53f26df928a87c6c530548737361d0211085db886251eff18b", func := "dryweight/dryweightlaw02.ExactSpansAsSpecified", spec := "exactSpansAsSpecified", inPlace := ["internal/abi.NoEscape", "internal/bytealg.MakeNoZero"], unfollowed := true, recurses := true, named := ["internal/strconv.uint64pow10", "math/bits.deBruijn32tab", "math/bits.deBruijn64tab", "strconv.ErrSyntax", "strconv.ErrRange"], apart := false, laid := [("math/bits.deBruijn32tab", laid_math_bits_deBruijn32tab), ("math/bits.deBruijn64tab", laid_math_bits_deBruijn64tab), ("internal/strconv.uint64pow10", laid_internal_strconv_uint64pow10), ("strconv.ErrRange", laid_strconv_ErrRange), ("strconv.ErrSyntax", laid_strconv_ErrSyntax)], narrowed := true }
def ExactSpansAsSpecifiedUptoSaid : Prop := exactSpansAsSpecifiedUptoRow.holds Tryz.pinned (OpenSpec.upto exactSpansAsSpecifiedSpec)

/-- 'dryweightlaw02.ExactAttains', WHERE WHAT IT READS IS OF BULK AT MOST 1048576: true; the input reads as it did. -/
def exactAttainsUptoRow : OpenClaim := { program := "ytnohidkmjclojaagreatdoor", sum := "4768b90152169e53f26df928a87c6c530548737361d0211085db886251eff18b", func := "dryweight/dryweightlaw02.ExactAttains", spec := "exactAttains", inPlace := ["internal/abi.NoEscape", "internal/bytealg.MakeNoZero"], unfollowed := true, recurses := true, named := ["strconv.ErrSyntax", "strconv.ErrRange", "internal/strconv.uint64pow10", "math/bits.deBruijn32tab", "math/bits.deBruijn64tab"], apart := false, laid := [("math/bits.deBruijn32tab", laid_math_bits_deBruijn32tab), ("math/bits.deBruijn64tab", laid_math_bits_deBruijn64tab), ("internal/strconv.uint64pow10", laid_internal_strconv_uint64pow10), ("strconv.ErrRange", laid_strconv_ErrRange), ("strconv.ErrSyntax", laid_strconv_ErrSyntax)], narrowed := true }
def ExactAttainsUptoSaid : Prop := exactAttainsUptoRow.holds Tryz.pinned (OpenSpec.upto exactAttainsSpec)

/-- 'dryweightlaw02.ExactCoversAsSpecified', WHERE WHAT IT READS IS OF BULK AT MOST 1048576: true; the input reads as it did. -/
def exactCoversAsSpecifiedUptoRow : OpenClaim := { program := "ytnohidkmjclojaagreatdoor", sum := "4768b90152169e53f26df928a87c6c530548737361d0211085db886251eff18b", func := "dryweight/dryweightlaw02.ExactCoversAsSpecified", spec := "exactCoversAsSpecified", inPlace := ["internal/abi.NoEscape", "internal/bytealg.MakeNoZero"], unfollowed := true, recurses := true, named := ["internal/strconv.uint64pow10", "math/bits.deBruijn32tab", "math/bits.deBruijn64tab", "strconv.ErrSyntax", "strconv.ErrRange"], apart := false, laid := [("math/bits.deBruijn32tab", laid_math_bits_deBruijn32tab), ("math/bits.deBruijn64tab", laid_math_bits_deBruijn64tab), ("internal/strconv.uint64pow10", laid_internal_strconv_uint64pow10), ("strconv.ErrRange", laid_strconv_ErrRange), ("strconv.ErrSyntax", laid_strconv_ErrSyntax)], narrowed := true }
def ExactCoversAsSpecifiedUptoSaid : Prop := exactCoversAsSpecifiedUptoRow.holds Tryz.pinned (OpenSpec.upto exactCoversAsSpecifiedSpec)

/-- 'dryweightlaw02.ExactContains', WHERE WHAT IT READS IS OF BULK AT MOST 1048576: true; the input reads as it did. -/
def exactContainsUptoRow : OpenClaim := { program := "ytnohidkmjclojaagreatdoor", sum := "4768b90152169e53f26df928a87c6c530548737361d0211085db886251eff18b", func := "dryweight/dryweightlaw02.ExactContains", spec := "exactContains", inPlace := ["internal/abi.NoEscape", "internal/bytealg.MakeNoZero"], unfollowed := true, recurses := true, named := ["strconv.ErrSyntax", "strconv.ErrRange", "internal/strconv.uint64pow10", "math/bits.deBruijn32tab", "math/bits.deBruijn64tab"], apart := false, laid := [("math/bits.deBruijn32tab", laid_math_bits_deBruijn32tab), ("math/bits.deBruijn64tab", laid_math_bits_deBruijn64tab), ("internal/strconv.uint64pow10", laid_internal_strconv_uint64pow10), ("strconv.ErrRange", laid_strconv_ErrRange), ("strconv.ErrSyntax", laid_strconv_ErrSyntax)], narrowed := true }
def ExactContainsUptoSaid : Prop := exactContainsUptoRow.holds Tryz.pinned (OpenSpec.upto exactContainsSpec)

/-- 'dryweightlaw05.SamplingChecksAsSpecified', WHERE WHAT IT READS IS OF BULK AT MOST 1048576: true; the input reads as it did. -/
def samplingChecksAsSpecifiedUptoRow : OpenClaim := { program := "ytnohidkmjclojaagreatdoor", sum := "4768b90152169e53f26df928a87c6c530548737361d0211085db886251eff18b", func := "dryweight/dryweightlaw05.SamplingChecksAsSpecified", spec := "samplingChecksAsSpecified", inPlace := ["internal/abi.NoEscape", "internal/bytealg.MakeNoZero"], unfollowed := true, recurses := true, named := ["strconv.ErrSyntax", "strconv.ErrRange", "internal/strconv.uint64pow10", "math/bits.deBruijn32tab", "math/bits.deBruijn64tab"], apart := false, laid := [("math/bits.deBruijn32tab", laid_math_bits_deBruijn32tab), ("math/bits.deBruijn64tab", laid_math_bits_deBruijn64tab), ("internal/strconv.uint64pow10", laid_internal_strconv_uint64pow10), ("strconv.ErrRange", laid_strconv_ErrRange), ("strconv.ErrSyntax", laid_strconv_ErrSyntax)], narrowed := true }
def SamplingChecksAsSpecifiedUptoSaid : Prop := samplingChecksAsSpecifiedUptoRow.holds Tryz.pinned (OpenSpec.upto samplingChecksAsSpecifiedSpec)

/-- 'dryweightlaw05.SamplingCommitsAsSpecified', WHERE WHAT IT READS IS OF BULK AT MOST 1048576: true; the input reads as it did. -/
def samplingCommitsAsSpecifiedUptoRow : OpenClaim := { program := "ytnohidkmjclojaagreatdoor", sum := "4768b90152169e53f26df928a87c6c530548737361d0211085db886251eff18b", func := "dryweight/dryweightlaw05.SamplingCommitsAsSpecified", spec := "samplingCommitsAsSpecified", inPlace := ["internal/abi.NoEscape", "internal/bytealg.MakeNoZero"], unfollowed := true, recurses := true, named := ["strconv.ErrSyntax", "strconv.ErrRange", "internal/strconv.uint64pow10", "math/bits.deBruijn32tab", "math/bits.deBruijn64tab"], apart := false, laid := [("math/bits.deBruijn32tab", laid_math_bits_deBruijn32tab), ("math/bits.deBruijn64tab", laid_math_bits_deBruijn64tab), ("internal/strconv.uint64pow10", laid_internal_strconv_uint64pow10), ("strconv.ErrRange", laid_strconv_ErrRange), ("strconv.ErrSyntax", laid_strconv_ErrSyntax)], narrowed := true }
def SamplingCommitsAsSpecifiedUptoSaid : Prop := samplingCommitsAsSpecifiedUptoRow.holds Tryz.pinned (OpenSpec.upto samplingCommitsAsSpecifiedSpec)

/-- 'dryweightlaw05.SamplingProvesAsSpecified', WHERE WHAT IT READS IS OF BULK AT MOST 1048576: true; the input reads as it did. -/
def samplingProvesAsSpecifiedUptoRow : OpenClaim := { program := "ytnohidkmjclojaagreatdoor", sum := "4768b90152169e53f26df928a87c6c530548737361d0211085db886251eff18b", func := "dryweight/dryweightlaw05.SamplingProvesAsSpecified", spec := "samplingProvesAsSpecified", inPlace := ["internal/abi.NoEscape", "internal/bytealg.MakeNoZero"], unfollowed := true, recurses := true, named := ["strconv.ErrSyntax", "strconv.ErrRange", "internal/strconv.uint64pow10", "math/bits.deBruijn32tab", "math/bits.deBruijn64tab"], apart := false, laid := [("math/bits.deBruijn32tab", laid_math_bits_deBruijn32tab), ("math/bits.deBruijn64tab", laid_math_bits_deBruijn64tab), ("internal/strconv.uint64pow10", laid_internal_strconv_uint64pow10), ("strconv.ErrRange", laid_strconv_ErrRange), ("strconv.ErrSyntax", laid_strconv_ErrSyntax)], narrowed := true }
def SamplingProvesAsSpecifiedUptoSaid : Prop := samplingProvesAsSpecifiedUptoRow.holds Tryz.pinned (OpenSpec.upto samplingProvesAsSpecifiedSpec)

/-- 'dryweightlaw05.SamplingDriesAsSpecified', WHERE WHAT IT READS IS OF BULK AT MOST 1048576: true; the input reads as it did. -/
def samplingDriesAsSpecifiedUptoRow : OpenClaim := { program := "ytnohidkmjclojaagreatdoor", sum := "4768b90152169e53f26df928a87c6c530548737361d0211085db886251eff18b", func := "dryweight/dryweightlaw05.SamplingDriesAsSpecified", spec := "samplingDriesAsSpecified", inPlace := ["internal/abi.NoEscape", "internal/bytealg.MakeNoZero"], unfollowed := true, recurses := true, named := ["strconv.ErrSyntax", "strconv.ErrRange", "internal/strconv.uint64pow10", "math/bits.deBruijn32tab", "math/bits.deBruijn64tab"], apart := false, laid := [("math/bits.deBruijn32tab", laid_math_bits_deBruijn32tab), ("math/bits.deBruijn64tab", laid_math_bits_deBruijn64tab), ("internal/strconv.uint64pow10", laid_internal_strconv_uint64pow10), ("strconv.ErrRange", laid_strconv_ErrRange), ("strconv.ErrSyntax", laid_strconv_ErrSyntax)], narrowed := true }
def SamplingDriesAsSpecifiedUptoSaid : Prop := samplingDriesAsSpecifiedUptoRow.holds Tryz.pinned (OpenSpec.upto samplingDriesAsSpecifiedSpec)

/-- 'dryweightlaw05.SamplingNobodySteers', WHERE WHAT IT READS IS OF BULK AT MOST 1048576: true; the input reads as it did. -/
def samplingNobodySteersUptoRow : OpenClaim := { program := "ytnohidkmjclojaagreatdoor", sum := "4768b90152169e53f26df928a87c6c530548737361d0211085db886251eff18b", func := "dryweight/dryweightlaw05.SamplingNobodySteers", spec := "samplingNobodySteers", inPlace := ["internal/abi.NoEscape", "internal/bytealg.MakeNoZero"], unfollowed := true, recurses := true, named := ["strconv.ErrSyntax", "strconv.ErrRange", "internal/strconv.uint64pow10", "math/bits.deBruijn32tab", "math/bits.deBruijn64tab"], apart := false, laid := [("math/bits.deBruijn32tab", laid_math_bits_deBruijn32tab), ("math/bits.deBruijn64tab", laid_math_bits_deBruijn64tab), ("internal/strconv.uint64pow10", laid_internal_strconv_uint64pow10), ("strconv.ErrRange", laid_strconv_ErrRange), ("strconv.ErrSyntax", laid_strconv_ErrSyntax)], narrowed := true }
def SamplingNobodySteersUptoSaid : Prop := samplingNobodySteersUptoRow.holds Tryz.pinned (OpenSpec.upto samplingNobodySteersSpec)

/-- 'dryweightlaw05.SamplingStaysDry', WHERE WHAT IT READS IS OF BULK AT MOST 1048576: true; the input reads as it did. -/
def samplingStaysDryUptoRow : OpenClaim := { program := "ytnohidkmjclojaagreatdoor", sum := "4768b90152169e53f26df928a87c6c530548737361d0211085db886251eff18b", func := "dryweight/dryweightlaw05.SamplingStaysDry", spec := "samplingStaysDry", inPlace := ["internal/abi.NoEscape", "internal/bytealg.MakeNoZero"], unfollowed := true, recurses := true, named := ["strconv.ErrSyntax", "strconv.ErrRange", "internal/strconv.uint64pow10", "math/bits.deBruijn32tab", "math/bits.deBruijn64tab"], apart := false, laid := [("math/bits.deBruijn32tab", laid_math_bits_deBruijn32tab), ("math/bits.deBruijn64tab", laid_math_bits_deBruijn64tab), ("internal/strconv.uint64pow10", laid_internal_strconv_uint64pow10), ("strconv.ErrRange", laid_strconv_ErrRange), ("strconv.ErrSyntax", laid_strconv_ErrSyntax)], narrowed := true }
def SamplingStaysDryUptoSaid : Prop := samplingStaysDryUptoRow.holds Tryz.pinned (OpenSpec.upto samplingStaysDrySpec)

/-- 'dryweightlaw05.SamplingDrawsAsSpecified', WHERE WHAT IT READS IS OF BULK AT MOST 1048576: true; the input reads as it did. -/
def samplingDrawsAsSpecifiedUptoRow : OpenClaim := { program := "ytnohidkmjclojaagreatdoor", sum := "4768b90152169e53f26df928a87c6c530548737361d0211085db886251eff18b", func := "dryweight/dryweightlaw05.SamplingDrawsAsSpecified", spec := "samplingDrawsAsSpecified", inPlace := ["internal/abi.NoEscape", "internal/bytealg.MakeNoZero"], unfollowed := true, recurses := true, named := ["strconv.ErrSyntax", "strconv.ErrRange", "internal/strconv.uint64pow10", "math/bits.deBruijn32tab", "math/bits.deBruijn64tab"], apart := false, laid := [("math/bits.deBruijn32tab", laid_math_bits_deBruijn32tab), ("math/bits.deBruijn64tab", laid_math_bits_deBruijn64tab), ("internal/strconv.uint64pow10", laid_internal_strconv_uint64pow10), ("strconv.ErrRange", laid_strconv_ErrRange), ("strconv.ErrSyntax", laid_strconv_ErrSyntax)], narrowed := true }
def SamplingDrawsAsSpecifiedUptoSaid : Prop := samplingDrawsAsSpecifiedUptoRow.holds Tryz.pinned (OpenSpec.upto samplingDrawsAsSpecifiedSpec)

/-- 'dryweightlaw05.SamplingDrawsOnce', WHERE WHAT IT READS IS OF BULK AT MOST 1048576: true; the input reads as it did. -/
def samplingDrawsOnceUptoRow : OpenClaim := { program := "ytnohidkmjclojaagreatdoor", sum := "4768b90152169e53f26df928a87c6c530548737361d0211085db886251eff18b", func := "dryweight/dryweightlaw05.SamplingDrawsOnce", spec := "samplingDrawsOnce", inPlace := ["internal/abi.NoEscape", "internal/bytealg.MakeNoZero"], unfollowed := true, recurses := true, named := ["strconv.ErrSyntax", "strconv.ErrRange", "internal/strconv.uint64pow10", "math/bits.deBruijn32tab", "math/bits.deBruijn64tab"], apart := false, laid := [("math/bits.deBruijn32tab", laid_math_bits_deBruijn32tab), ("math/bits.deBruijn64tab", laid_math_bits_deBruijn64tab), ("internal/strconv.uint64pow10", laid_internal_strconv_uint64pow10), ("strconv.ErrRange", laid_strconv_ErrRange), ("strconv.ErrSyntax", laid_strconv_ErrSyntax)], narrowed := true }
def SamplingDrawsOnceUptoSaid : Prop := samplingDrawsOnceUptoRow.holds Tryz.pinned (OpenSpec.upto samplingDrawsOnceSpec)

end Rows
end Go.Proofs.YtnohidkmjclojaaGreatDoor
