/-
  NARROWER THAN 'FOR EVERY INPUT', by the rows' own cells (each row's printed sentence says how): NodePolls: laid · NodeFull: laid · NodeGoes: laid · NodeLeases: laid · NodeAlone: laid · NodeTakes: laid.
  DERIVED. THE GIVEN ROWS OF THIS SEAT. 6 by the template 'for every input the law returns true; each argument reads behind the call as it read before'; 0 by the template 'total and deterministic' (their statements: YtnmpijbcajclgaaGreatDoorTotals.lean).
  GIVEN WITH THE SEED: the statements are not yours to turn. If you find one false, say at which input.
  Laid BY PROGRAM, IN A SANDBOX (cutbox-rows.mjs): the forced cells as the released guide's own fill.sh prints them over the translation 188cc786aeccb737… (all of the seat's roots in one cut). By AI agents, Wed Nov 11 2026. No macro, syntax, notation, axiom, sorry.
-/
import Derived.Test.YtnmpijbcajclgaaGreatDoorChecked
import GoSem.Claim
import GoSem.ClaimJoined
import GoSem.ClaimMapViews
import Derived.JoinedTies
import Derived.KernelRfl
namespace Go.Proofs.YtnmpijbcajclgaaGreatDoor
/- THE CELL 'sum', in the pinned program and in every row, IS THE sha256 OF THE DUMP (.gsa) THAT YtnmpijbcajclgaaGreatDoorProg.lean LOADS. Nothing in Lean hashes anything: it is a label: what it is worth is what the hold of that sum in a sandbox is worth. -/
noncomputable def Tryz.pinned : Pinned := { name := "ytnmpijbcajclgaagreatdoor", sum := "188cc786aeccb7371f5095e1cc4e83919e9c41ede49f862a431ef16ec1426a6c", checked := Tryz.checked }
namespace Rows
def none {H : Type} : Left H := { results := [], args := [] }

/- WHAT THE LISTED PACKAGE-LEVEL VARIABLES READ AS WHEN THE CALL BEGINS. Each datum BY PROGRAM (the guide's laid-datum.mjs) off the statement by which the dump's own 'gosem.cut.vars' lays the variable. In a bare row this is a premise. The card (YtnmpijbcajclgaaGreatDoorCards.lean) ties it to the program's text. -/
def laid_math_bits_deBruijn32tab {H : Type} : DataW H := .agg [.lit (.int .u8 0), .lit (.int .u8 1), .lit (.int .u8 28), .lit (.int .u8 2), .lit (.int .u8 29), .lit (.int .u8 14), .lit (.int .u8 24), .lit (.int .u8 3), .lit (.int .u8 30), .lit (.int .u8 22), .lit (.int .u8 20), .lit (.int .u8 15), .lit (.int .u8 25), .lit (.int .u8 17), .lit (.int .u8 4), .lit (.int .u8 8), .lit (.int .u8 31), .lit (.int .u8 27), .lit (.int .u8 13), .lit (.int .u8 23), .lit (.int .u8 21), .lit (.int .u8 19), .lit (.int .u8 16), .lit (.int .u8 7), .lit (.int .u8 26), .lit (.int .u8 12), .lit (.int .u8 18), .lit (.int .u8 6), .lit (.int .u8 11), .lit (.int .u8 5), .lit (.int .u8 10), .lit (.int .u8 9)]
def laid_math_bits_deBruijn64tab {H : Type} : DataW H := .agg [.lit (.int .u8 0), .lit (.int .u8 1), .lit (.int .u8 56), .lit (.int .u8 2), .lit (.int .u8 57), .lit (.int .u8 49), .lit (.int .u8 28), .lit (.int .u8 3), .lit (.int .u8 61), .lit (.int .u8 58), .lit (.int .u8 42), .lit (.int .u8 50), .lit (.int .u8 38), .lit (.int .u8 29), .lit (.int .u8 17), .lit (.int .u8 4), .lit (.int .u8 62), .lit (.int .u8 47), .lit (.int .u8 59), .lit (.int .u8 36), .lit (.int .u8 45), .lit (.int .u8 43), .lit (.int .u8 51), .lit (.int .u8 22), .lit (.int .u8 53), .lit (.int .u8 39), .lit (.int .u8 33), .lit (.int .u8 30), .lit (.int .u8 24), .lit (.int .u8 18), .lit (.int .u8 12), .lit (.int .u8 5), .lit (.int .u8 63), .lit (.int .u8 55), .lit (.int .u8 48), .lit (.int .u8 27), .lit (.int .u8 60), .lit (.int .u8 41), .lit (.int .u8 37), .lit (.int .u8 16), .lit (.int .u8 46), .lit (.int .u8 35), .lit (.int .u8 44), .lit (.int .u8 21), .lit (.int .u8 52), .lit (.int .u8 32), .lit (.int .u8 23), .lit (.int .u8 11), .lit (.int .u8 54), .lit (.int .u8 26), .lit (.int .u8 40), .lit (.int .u8 15), .lit (.int .u8 34), .lit (.int .u8 20), .lit (.int .u8 31), .lit (.int .u8 10), .lit (.int .u8 25), .lit (.int .u8 14), .lit (.int .u8 19), .lit (.int .u8 9), .lit (.int .u8 13), .lit (.int .u8 8), .lit (.int .u8 7), .lit (.int .u8 6)]
def laid_internal_strconv_uint64pow10 {H : Type} : DataW H := .agg [.lit (.int .u64 1), .lit (.int .u64 10), .lit (.int .u64 100), .lit (.int .u64 1000), .lit (.int .u64 10000), .lit (.int .u64 100000), .lit (.int .u64 1000000), .lit (.int .u64 10000000), .lit (.int .u64 100000000), .lit (.int .u64 1000000000), .lit (.int .u64 10000000000), .lit (.int .u64 100000000000), .lit (.int .u64 1000000000000), .lit (.int .u64 10000000000000), .lit (.int .u64 100000000000000), .lit (.int .u64 1000000000000000), .lit (.int .u64 10000000000000000), .lit (.int .u64 100000000000000000), .lit (.int .u64 1000000000000000000), .lit (.int .u64 10000000000000000000)]
def laid_errors_errorType {H : Type} : DataW H := .iface "internal/reflectlite.rtype" (.agg [.ptr (.lit (.string [101, 114, 114, 111, 114]))])

/-- 'wigwaglaw16.NodePolls': WHATEVER THE INPUT: true; the input reads as it did. -/
def nodePollsSpec : ChangeSpec := { name := "nodePolls", fn := fun _ => fun
  | [d1, d2] => { results := [.lit (.bool true)], args := [d1, d2] }
  | _ => none }
def nodePollsRow : OpenClaim := { program := "ytnmpijbcajclgaagreatdoor", sum := "188cc786aeccb7371f5095e1cc4e83919e9c41ede49f862a431ef16ec1426a6c", func := "wigwag/wigwaglaw16.NodePolls", spec := "nodePolls", inPlace := ["internal/reflectlite.TypeOf", "slices.overlaps[wigwag/table.Entry]"], unfollowed := true, recurses := true, named := ["internal/strconv.uint64pow10", "math/bits.deBruijn32tab", "math/bits.deBruijn64tab"], apart := false, laid := [("math/bits.deBruijn32tab", laid_math_bits_deBruijn32tab), ("math/bits.deBruijn64tab", laid_math_bits_deBruijn64tab), ("internal/strconv.uint64pow10", laid_internal_strconv_uint64pow10)] }
def NodePollsSaid : Prop := nodePollsRow.holds Tryz.pinned (OpenSpec.ofChange nodePollsSpec)

/-- ITS FALSE NEIGHBOUR: 'it returns false'. Refute it at one input. -/
def nodePollsWrong : ChangeSpec := { name := "nodePolls", fn := fun _ => fun
  | [d1, d2] => { results := [.lit (.bool false)], args := [d1, d2] }
  | _ => none }
def NodePollsWrongFalsely : Prop := nodePollsRow.holds Tryz.pinned (OpenSpec.ofChange nodePollsWrong)

/-- 'wigwaglaw16.NodeFull': WHATEVER THE INPUT: true; the input reads as it did. -/
def nodeFullSpec : ChangeSpec := { name := "nodeFull", fn := fun _ => fun
  | [d] => { results := [.lit (.bool true)], args := [d] }
  | _ => none }
def nodeFullRow : OpenClaim := { program := "ytnmpijbcajclgaagreatdoor", sum := "188cc786aeccb7371f5095e1cc4e83919e9c41ede49f862a431ef16ec1426a6c", func := "wigwag/wigwaglaw16.NodeFull", spec := "nodeFull", inPlace := ["internal/reflectlite.TypeOf", "slices.overlaps[wigwag/table.Entry]", "internal/reflectlite.ValueOf", "(internal/reflectlite.Value).Type", "(internal/reflectlite.Value).IsNil", "(internal/reflectlite.Value).Elem", "(internal/reflectlite.Value).Set"], unfollowed := true, recurses := true, named := ["internal/strconv.uint64pow10", "math/bits.deBruijn32tab", "math/bits.deBruijn64tab", "errors.errorType"], apart := false, laid := [("math/bits.deBruijn32tab", laid_math_bits_deBruijn32tab), ("math/bits.deBruijn64tab", laid_math_bits_deBruijn64tab), ("internal/strconv.uint64pow10", laid_internal_strconv_uint64pow10), ("errors.errorType", laid_errors_errorType)] }
def NodeFullSaid : Prop := nodeFullRow.holds Tryz.pinned (OpenSpec.ofChange nodeFullSpec)

/-- ITS FALSE NEIGHBOUR: 'it returns false'. Refute it at one input. -/
def nodeFullWrong : ChangeSpec := { name := "nodeFull", fn := fun _ => fun
  | [d] => { results := [.lit (.bool false)], args := [d] }
  | _ => none }
def NodeFullWrongFalsely : Prop := nodeFullRow.holds Tryz.pinned (OpenSpec.ofChange nodeFullWrong)

/-- 'wigwaglaw16.NodeGoes': WHATEVER THE INPUT: true; the input reads as it did. -/
def nodeGoesSpec : ChangeSpec := { name := "nodeGoes", fn := fun _ => fun
  | [d1, d2] => { results := [.lit (.bool true)], args := [d1, d2] }
  | _ => none }
def nodeGoesRow : OpenClaim := { program := "ytnmpijbcajclgaagreatdoor", sum := "188cc786aeccb7371f5095e1cc4e83919e9c41ede49f862a431ef16ec1426a6c", func := "wigwag/wigwaglaw16.NodeGoes", spec := "nodeGoes", inPlace := ["internal/reflectlite.TypeOf", "slices.overlaps[wigwag/table.Entry]", "internal/reflectlite.ValueOf", "(internal/reflectlite.Value).Type", "(internal/reflectlite.Value).IsNil", "(internal/reflectlite.Value).Elem", "(internal/reflectlite.Value).Set"], unfollowed := true, recurses := true, named := ["internal/strconv.uint64pow10", "math/bits.deBruijn32tab", "math/bits.deBruijn64tab", "errors.errorType"], apart := false, laid := [("math/bits.deBruijn32tab", laid_math_bits_deBruijn32tab), ("math/bits.deBruijn64tab", laid_math_bits_deBruijn64tab), ("internal/strconv.uint64pow10", laid_internal_strconv_uint64pow10), ("errors.errorType", laid_errors_errorType)] }
def NodeGoesSaid : Prop := nodeGoesRow.holds Tryz.pinned (OpenSpec.ofChange nodeGoesSpec)

/-- ITS FALSE NEIGHBOUR: 'it returns false'. Refute it at one input. -/
def nodeGoesWrong : ChangeSpec := { name := "nodeGoes", fn := fun _ => fun
  | [d1, d2] => { results := [.lit (.bool false)], args := [d1, d2] }
  | _ => none }
def NodeGoesWrongFalsely : Prop := nodeGoesRow.holds Tryz.pinned (OpenSpec.ofChange nodeGoesWrong)

/-- 'wigwaglaw16.NodeLeases': WHATEVER THE INPUT: true; the input reads as it did. -/
def nodeLeasesSpec : ChangeSpec := { name := "nodeLeases", fn := fun _ => fun
  | [d1, d2] => { results := [.lit (.bool true)], args := [d1, d2] }
  | _ => none }
def nodeLeasesRow : OpenClaim := { program := "ytnmpijbcajclgaagreatdoor", sum := "188cc786aeccb7371f5095e1cc4e83919e9c41ede49f862a431ef16ec1426a6c", func := "wigwag/wigwaglaw16.NodeLeases", spec := "nodeLeases", inPlace := ["internal/reflectlite.TypeOf", "slices.overlaps[wigwag/table.Entry]"], unfollowed := true, recurses := true, named := ["internal/strconv.uint64pow10", "math/bits.deBruijn32tab", "math/bits.deBruijn64tab"], apart := false, laid := [("math/bits.deBruijn32tab", laid_math_bits_deBruijn32tab), ("math/bits.deBruijn64tab", laid_math_bits_deBruijn64tab), ("internal/strconv.uint64pow10", laid_internal_strconv_uint64pow10)] }
def NodeLeasesSaid : Prop := nodeLeasesRow.holds Tryz.pinned (OpenSpec.ofChange nodeLeasesSpec)

/-- ITS FALSE NEIGHBOUR: 'it returns false'. Refute it at one input. -/
def nodeLeasesWrong : ChangeSpec := { name := "nodeLeases", fn := fun _ => fun
  | [d1, d2] => { results := [.lit (.bool false)], args := [d1, d2] }
  | _ => none }
def NodeLeasesWrongFalsely : Prop := nodeLeasesRow.holds Tryz.pinned (OpenSpec.ofChange nodeLeasesWrong)

/-- 'wigwaglaw16.NodeAlone': WHATEVER THE INPUT: true; the input reads as it did. -/
def nodeAloneSpec : ChangeSpec := { name := "nodeAlone", fn := fun _ => fun
  | [d1, d2, d3, d4] => { results := [.lit (.bool true)], args := [d1, d2, d3, d4] }
  | _ => none }
def nodeAloneRow : OpenClaim := { program := "ytnmpijbcajclgaagreatdoor", sum := "188cc786aeccb7371f5095e1cc4e83919e9c41ede49f862a431ef16ec1426a6c", func := "wigwag/wigwaglaw16.NodeAlone", spec := "nodeAlone", inPlace := ["internal/reflectlite.TypeOf", "slices.overlaps[wigwag/table.Entry]", "internal/reflectlite.ValueOf", "(internal/reflectlite.Value).Type", "(internal/reflectlite.Value).IsNil", "(internal/reflectlite.Value).Elem", "(internal/reflectlite.Value).Set"], unfollowed := true, recurses := true, named := ["internal/strconv.uint64pow10", "math/bits.deBruijn32tab", "math/bits.deBruijn64tab", "errors.errorType"], apart := false, laid := [("math/bits.deBruijn32tab", laid_math_bits_deBruijn32tab), ("math/bits.deBruijn64tab", laid_math_bits_deBruijn64tab), ("internal/strconv.uint64pow10", laid_internal_strconv_uint64pow10), ("errors.errorType", laid_errors_errorType)] }
def NodeAloneSaid : Prop := nodeAloneRow.holds Tryz.pinned (OpenSpec.ofChange nodeAloneSpec)

/-- ITS FALSE NEIGHBOUR: 'it returns false'. Refute it at one input. -/
def nodeAloneWrong : ChangeSpec := { name := "nodeAlone", fn := fun _ => fun
  | [d1, d2, d3, d4] => { results := [.lit (.bool false)], args := [d1, d2, d3, d4] }
  | _ => none }
def NodeAloneWrongFalsely : Prop := nodeAloneRow.holds Tryz.pinned (OpenSpec.ofChange nodeAloneWrong)

/-- 'wigwaglaw16.NodeTakes': WHATEVER THE INPUT: true; the input reads as it did. -/
def nodeTakesSpec : ChangeSpec := { name := "nodeTakes", fn := fun _ => fun
  | [d] => { results := [.lit (.bool true)], args := [d] }
  | _ => none }
def nodeTakesRow : OpenClaim := { program := "ytnmpijbcajclgaagreatdoor", sum := "188cc786aeccb7371f5095e1cc4e83919e9c41ede49f862a431ef16ec1426a6c", func := "wigwag/wigwaglaw16.NodeTakes", spec := "nodeTakes", inPlace := ["internal/reflectlite.TypeOf", "slices.overlaps[wigwag/table.Entry]", "internal/reflectlite.ValueOf", "(internal/reflectlite.Value).Type", "(internal/reflectlite.Value).IsNil", "(internal/reflectlite.Value).Elem", "(internal/reflectlite.Value).Set"], unfollowed := true, recurses := true, named := ["internal/strconv.uint64pow10", "math/bits.deBruijn32tab", "math/bits.deBruijn64tab", "errors.errorType"], apart := false, laid := [("math/bits.deBruijn32tab", laid_math_bits_deBruijn32tab), ("math/bits.deBruijn64tab", laid_math_bits_deBruijn64tab), ("internal/strconv.uint64pow10", laid_internal_strconv_uint64pow10), ("errors.errorType", laid_errors_errorType)] }
def NodeTakesSaid : Prop := nodeTakesRow.holds Tryz.pinned (OpenSpec.ofChange nodeTakesSpec)

/-- ITS FALSE NEIGHBOUR: 'it returns false'. Refute it at one input. -/
def nodeTakesWrong : ChangeSpec := { name := "nodeTakes", fn := fun _ => fun
  | [d] => { results := [.lit (.bool false)], args := [d] }
  | _ => none }
def NodeTakesWrongFalsely : Prop := nodeTakesRow.holds Tryz.pinned (OpenSpec.ofChange nodeTakesWrong)

/- THE SECOND FORM. 'bulk': how many values and letters a reading holds, each counted each time it is reached (what is shared counts as often as it is met; a slice's spare places count too). A statement '..UptoSaid' is the law's where the arguments, and the package variables that the reading takes, are together of bulk at most 1048576: NARROWER than '..Said'. Prove '..Said' where nothing that the law and all that it calls make is longer than what came in: it says more and counts as full. Else prove '..UptoSaid'. A law counts once. -/
mutual
def uptoBulk {H : Type} : DataW H → Nat
  | .lit (.string bytes) => bytes.length + 1
  | .lit _ => 1
  | .nil => 1
  | .ptr d => uptoBulk d + 1
  | .slice elems spare => uptoBulkAll elems + uptoBulkAll spare + 1
  | .agg parts => uptoBulkAll parts + 1
  | .iface _ d => uptoBulk d + 1
  | .map entries => uptoBulkEntries entries + 1
  | .held _ => 1
def uptoBulkAll {H : Type} : List (DataW H) → Nat
  | [] => 0
  | d :: r => uptoBulk d + uptoBulkAll r
def uptoBulkEntries {H : Type} : List (Lit × DataW H) → Nat
  | [] => 0
  | x :: r => uptoBulkEntry x + uptoBulkEntries r
def uptoBulkEntry {H : Type} : Lit × DataW H → Nat
  | (.string bytes, d) => bytes.length + uptoBulk d + 1
  | (_, d) => uptoBulk d + 1
 end
def uptoSmall : (H : Type) → List (DataW H) → Bool := fun _ ds => decide (uptoBulkAll ds ≤ 1048576)
def OpenSpec.upto (s : _root_.Go.ChangeSpec) : _root_.Go.OpenSpec := { _root_.Go.OpenSpec.ofChange s with cond := some uptoSmall }

/-- 'wigwaglaw16.NodePolls', WHERE WHAT IT READS IS OF BULK AT MOST 1048576: true; the input reads as it did. -/
def nodePollsUptoRow : OpenClaim := { program := "ytnmpijbcajclgaagreatdoor", sum := "188cc786aeccb7371f5095e1cc4e83919e9c41ede49f862a431ef16ec1426a6c", func := "wigwag/wigwaglaw16.NodePolls", spec := "nodePolls", inPlace := ["internal/reflectlite.TypeOf", "slices.overlaps[wigwag/table.Entry]"], unfollowed := true, recurses := true, named := ["internal/strconv.uint64pow10", "math/bits.deBruijn32tab", "math/bits.deBruijn64tab"], apart := false, laid := [("math/bits.deBruijn32tab", laid_math_bits_deBruijn32tab), ("math/bits.deBruijn64tab", laid_math_bits_deBruijn64tab), ("internal/strconv.uint64pow10", laid_internal_strconv_uint64pow10)], narrowed := true }
def NodePollsUptoSaid : Prop := nodePollsUptoRow.holds Tryz.pinned (OpenSpec.upto nodePollsSpec)

/-- 'wigwaglaw16.NodeFull', WHERE WHAT IT READS IS OF BULK AT MOST 1048576: true; the input reads as it did. -/
def nodeFullUptoRow : OpenClaim := { program := "ytnmpijbcajclgaagreatdoor", sum := "188cc786aeccb7371f5095e1cc4e83919e9c41ede49f862a431ef16ec1426a6c", func := "wigwag/wigwaglaw16.NodeFull", spec := "nodeFull", inPlace := ["internal/reflectlite.TypeOf", "slices.overlaps[wigwag/table.Entry]", "internal/reflectlite.ValueOf", "(internal/reflectlite.Value).Type", "(internal/reflectlite.Value).IsNil", "(internal/reflectlite.Value).Elem", "(internal/reflectlite.Value).Set"], unfollowed := true, recurses := true, named := ["internal/strconv.uint64pow10", "math/bits.deBruijn32tab", "math/bits.deBruijn64tab", "errors.errorType"], apart := false, laid := [("math/bits.deBruijn32tab", laid_math_bits_deBruijn32tab), ("math/bits.deBruijn64tab", laid_math_bits_deBruijn64tab), ("internal/strconv.uint64pow10", laid_internal_strconv_uint64pow10), ("errors.errorType", laid_errors_errorType)], narrowed := true }
def NodeFullUptoSaid : Prop := nodeFullUptoRow.holds Tryz.pinned (OpenSpec.upto nodeFullSpec)

/-- 'wigwaglaw16.NodeGoes', WHERE WHAT IT READS IS OF BULK AT MOST 1048576: true; the input reads as it did. -/
def nodeGoesUptoRow : OpenClaim := { program := "ytnmpijbcajclgaagreatdoor", sum := "188cc786aeccb7371f5095e1cc4e83919e9c41ede49f862a431ef16ec1426a6c", func := "wigwag/wigwaglaw16.NodeGoes", spec := "nodeGoes", inPlace := ["internal/reflectlite.TypeOf", "slices.overlaps[wigwag/table.Entry]", "internal/reflectlite.ValueOf", "(internal/reflectlite.Value).Type", "(internal/reflectlite.Value).IsNil", "(internal/reflectlite.Value).Elem", "(internal/reflectlite.Value).Set"], unfollowed := true, recurses := true, named := ["internal/strconv.uint64pow10", "math/bits.deBruijn32tab", "math/bits.deBruijn64tab", "errors.errorType"], apart := false, laid := [("math/bits.deBruijn32tab", laid_math_bits_deBruijn32tab), ("math/bits.deBruijn64tab", laid_math_bits_deBruijn64tab), ("internal/strconv.uint64pow10", laid_internal_strconv_uint64pow10), ("errors.errorType", laid_errors_errorType)], narrowed := true }
def NodeGoesUptoSaid : Prop := nodeGoesUptoRow.holds Tryz.pinned (OpenSpec.upto nodeGoesSpec)

/-- 'wigwaglaw16.NodeLeases', WHERE WHAT IT READS IS OF BULK AT MOST 1048576: true; the input reads as it did. -/
def nodeLeasesUptoRow : OpenClaim := { program := "ytnmpijbcajclgaagreatdoor", sum := "188cc786aeccb7371f5095e1cc4e83919e9c41ede49f862a431ef16ec1426a6c", func := "wigwag/wigwaglaw16.NodeLeases", spec := "nodeLeases", inPlace := ["internal/reflectlite.TypeOf", "slices.overlaps[wigwag/table.Entry]"], unfollowed := true, recurses := true, named := ["internal/strconv.uint64pow10", "math/bits.deBruijn32tab", "math/bits.deBruijn64tab"], apart := false, laid := [("math/bits.deBruijn32tab", laid_math_bits_deBruijn32tab), ("math/bits.deBruijn64tab", laid_math_bits_deBruijn64tab), ("internal/strconv.uint64pow10", laid_internal_strconv_uint64pow10)], narrowed := true }
def NodeLeasesUptoSaid : Prop := nodeLeasesUptoRow.holds Tryz.pinned (OpenSpec.upto nodeLeasesSpec)

/-- 'wigwaglaw16.NodeAlone', WHERE WHAT IT READS IS OF BULK AT MOST 1048576: true; the input reads as it did. -/
def nodeAloneUptoRow : OpenClaim := { program := "ytnmpijbcajclgaagreatdoor", sum := "188cc786aeccb7371f5095e1cc4e83919e9c41ede49f862a431ef16ec1426a6c", func := "wigwag/wigwaglaw16.NodeAlone", spec := "nodeAlone", inPlace := ["internal/reflectlite.TypeOf", "slices.overlaps[wigwag/table.Entry]", "internal/reflectlite.ValueOf", "(internal/reflectlite.Value).Type", "(internal/reflectlite.Value).IsNil", "(internal/reflectlite.Value).Elem", "(internal/reflectlite.Value).Set"], unfollowed := true, recurses := true, named := ["internal/strconv.uint64pow10", "math/bits.deBruijn32tab", "math/bits.deBruijn64tab", "errors.errorType"], apart := false, laid := [("math/bits.deBruijn32tab", laid_math_bits_deBruijn32tab), ("math/bits.deBruijn64tab", laid_math_bits_deBruijn64tab), ("internal/strconv.uint64pow10", laid_internal_strconv_uint64pow10), ("errors.errorType", laid_errors_errorType)], narrowed := true }
def NodeAloneUptoSaid : Prop := nodeAloneUptoRow.holds Tryz.pinned (OpenSpec.upto nodeAloneSpec)

/-- 'wigwaglaw16.NodeTakes', WHERE WHAT IT READS IS OF BULK AT MOST 1048576: true; the input reads as it did. -/
def nodeTakesUptoRow : OpenClaim := { program := "ytnmpijbcajclgaagreatdoor", sum := "188cc786aeccb7371f5095e1cc4e83919e9c41ede49f862a431ef16ec1426a6c", func := "wigwag/wigwaglaw16.NodeTakes", spec := "nodeTakes", inPlace := ["internal/reflectlite.TypeOf", "slices.overlaps[wigwag/table.Entry]", "internal/reflectlite.ValueOf", "(internal/reflectlite.Value).Type", "(internal/reflectlite.Value).IsNil", "(internal/reflectlite.Value).Elem", "(internal/reflectlite.Value).Set"], unfollowed := true, recurses := true, named := ["internal/strconv.uint64pow10", "math/bits.deBruijn32tab", "math/bits.deBruijn64tab", "errors.errorType"], apart := false, laid := [("math/bits.deBruijn32tab", laid_math_bits_deBruijn32tab), ("math/bits.deBruijn64tab", laid_math_bits_deBruijn64tab), ("internal/strconv.uint64pow10", laid_internal_strconv_uint64pow10), ("errors.errorType", laid_errors_errorType)], narrowed := true }
def NodeTakesUptoSaid : Prop := nodeTakesUptoRow.holds Tryz.pinned (OpenSpec.upto nodeTakesSpec)

end Rows
end Go.Proofs.YtnmpijbcajclgaaGreatDoor
