/-
  NARROWER THAN 'FOR EVERY INPUT', by the rows' own cells (each row's printed sentence says how): FilterBlanks: laid · FilterJoins: laid · FilterPlaces: laid · FilterParses: laid · FilterNumbers: laid · FilterStrings: laid · FilterReads: laid · FilterBack: laid.
  DERIVED. THE GIVEN ROWS OF THIS SEAT. 8 by the template 'for every input the law returns true; each argument reads behind the call as it read before'; 0 by the template 'total and deterministic' (their statements: YthaapijjjgkacaaDoorTotals.lean).
  GIVEN WITH THE SEED: the statements are not yours to turn. If you find one false, say at which input.
  Laid BY PROGRAM, IN A SANDBOX (cutbox-rows.mjs): the forced cells as the released guide's own fill.sh prints them over the translation 6fd83ec23abfc781… (all of the seat's roots in one cut). By AI agents, Wed Nov 11 2026. No macro, syntax, notation, axiom, sorry.
-/
import Derived.Test.YthaapijjjgkacaaDoorChecked
import GoSem.Claim
import GoSem.ClaimJoined
import GoSem.ClaimMapViews
import Derived.JoinedTies
import Derived.KernelRfl
namespace Go.Proofs.YthaapijjjgkacaaDoor
/- THE CELL 'sum', in the pinned program and in every row, IS THE sha256 OF THE DUMP (.gsa) THAT YthaapijjjgkacaaDoorProg.lean LOADS. Nothing in Lean hashes anything: it is a label: what it is worth is what the hold of that sum in a sandbox is worth. -/
noncomputable def Tryd.pinned : Pinned := { name := "ythaapijjjgkacaadoor", sum := "6fd83ec23abfc781d1f415e4ca496dfe395246b2845e6a28b2e7f3b6a30d0d90", checked := Tryd.checked }
namespace Rows
def none {H : Type} : Left H := { results := [], args := [] }

/- WHAT THE LISTED PACKAGE-LEVEL VARIABLES READ AS WHEN THE CALL BEGINS. Each datum BY PROGRAM (the guide's laid-datum.mjs) off the statement by which the dump's own 'gosem.cut.vars' lays the variable. In a bare row this is a premise. The card (YthaapijjjgkacaaDoorCards.lean) ties it to the program's text. -/
def laid_errors_errorType {H : Type} : DataW H := .iface "internal/reflectlite.rtype" (.agg [.ptr (.lit (.string [101, 114, 114, 111, 114]))])
def laid_math_bits_deBruijn32tab {H : Type} : DataW H := .agg [.lit (.int .u8 0), .lit (.int .u8 1), .lit (.int .u8 28), .lit (.int .u8 2), .lit (.int .u8 29), .lit (.int .u8 14), .lit (.int .u8 24), .lit (.int .u8 3), .lit (.int .u8 30), .lit (.int .u8 22), .lit (.int .u8 20), .lit (.int .u8 15), .lit (.int .u8 25), .lit (.int .u8 17), .lit (.int .u8 4), .lit (.int .u8 8), .lit (.int .u8 31), .lit (.int .u8 27), .lit (.int .u8 13), .lit (.int .u8 23), .lit (.int .u8 21), .lit (.int .u8 19), .lit (.int .u8 16), .lit (.int .u8 7), .lit (.int .u8 26), .lit (.int .u8 12), .lit (.int .u8 18), .lit (.int .u8 6), .lit (.int .u8 11), .lit (.int .u8 5), .lit (.int .u8 10), .lit (.int .u8 9)]
def laid_math_bits_deBruijn64tab {H : Type} : DataW H := .agg [.lit (.int .u8 0), .lit (.int .u8 1), .lit (.int .u8 56), .lit (.int .u8 2), .lit (.int .u8 57), .lit (.int .u8 49), .lit (.int .u8 28), .lit (.int .u8 3), .lit (.int .u8 61), .lit (.int .u8 58), .lit (.int .u8 42), .lit (.int .u8 50), .lit (.int .u8 38), .lit (.int .u8 29), .lit (.int .u8 17), .lit (.int .u8 4), .lit (.int .u8 62), .lit (.int .u8 47), .lit (.int .u8 59), .lit (.int .u8 36), .lit (.int .u8 45), .lit (.int .u8 43), .lit (.int .u8 51), .lit (.int .u8 22), .lit (.int .u8 53), .lit (.int .u8 39), .lit (.int .u8 33), .lit (.int .u8 30), .lit (.int .u8 24), .lit (.int .u8 18), .lit (.int .u8 12), .lit (.int .u8 5), .lit (.int .u8 63), .lit (.int .u8 55), .lit (.int .u8 48), .lit (.int .u8 27), .lit (.int .u8 60), .lit (.int .u8 41), .lit (.int .u8 37), .lit (.int .u8 16), .lit (.int .u8 46), .lit (.int .u8 35), .lit (.int .u8 44), .lit (.int .u8 21), .lit (.int .u8 52), .lit (.int .u8 32), .lit (.int .u8 23), .lit (.int .u8 11), .lit (.int .u8 54), .lit (.int .u8 26), .lit (.int .u8 40), .lit (.int .u8 15), .lit (.int .u8 34), .lit (.int .u8 20), .lit (.int .u8 31), .lit (.int .u8 10), .lit (.int .u8 25), .lit (.int .u8 14), .lit (.int .u8 19), .lit (.int .u8 9), .lit (.int .u8 13), .lit (.int .u8 8), .lit (.int .u8 7), .lit (.int .u8 6)]
def laid_internal_strconv_uint64pow10 {H : Type} : DataW H := .agg [.lit (.int .u64 1), .lit (.int .u64 10), .lit (.int .u64 100), .lit (.int .u64 1000), .lit (.int .u64 10000), .lit (.int .u64 100000), .lit (.int .u64 1000000), .lit (.int .u64 10000000), .lit (.int .u64 100000000), .lit (.int .u64 1000000000), .lit (.int .u64 10000000000), .lit (.int .u64 100000000000), .lit (.int .u64 1000000000000), .lit (.int .u64 10000000000000), .lit (.int .u64 100000000000000), .lit (.int .u64 1000000000000000), .lit (.int .u64 10000000000000000), .lit (.int .u64 100000000000000000), .lit (.int .u64 1000000000000000000), .lit (.int .u64 10000000000000000000)]

/-- 'wigwaglaw06.FilterBlanks': WHATEVER THE INPUT: true; the input reads as it did. -/
def filterBlanksSpec : ChangeSpec := { name := "filterBlanks", fn := fun _ => fun
  | [d1, d2, d3] => { results := [.lit (.bool true)], args := [d1, d2, d3] }
  | _ => none }
def filterBlanksRow : OpenClaim := { program := "ythaapijjjgkacaadoor", sum := "6fd83ec23abfc781d1f415e4ca496dfe395246b2845e6a28b2e7f3b6a30d0d90", func := "wigwag/wigwaglaw06.FilterBlanks", spec := "filterBlanks", inPlace := ["internal/reflectlite.TypeOf", "internal/reflectlite.ValueOf", "(internal/reflectlite.Value).Type", "(internal/reflectlite.Value).IsNil", "(internal/reflectlite.Value).Elem", "(internal/reflectlite.Value).Set"], unfollowed := true, recurses := true, named := ["errors.errorType"], apart := false, laid := [("errors.errorType", laid_errors_errorType)] }
def FilterBlanksSaid : Prop := filterBlanksRow.holds Tryd.pinned (OpenSpec.ofChange filterBlanksSpec)

/-- ITS FALSE NEIGHBOUR: 'it returns false'. Refute it at one input. -/
def filterBlanksWrong : ChangeSpec := { name := "filterBlanks", fn := fun _ => fun
  | [d1, d2, d3] => { results := [.lit (.bool false)], args := [d1, d2, d3] }
  | _ => none }
def FilterBlanksWrongFalsely : Prop := filterBlanksRow.holds Tryd.pinned (OpenSpec.ofChange filterBlanksWrong)

/-- 'wigwaglaw06.FilterJoins': WHATEVER THE INPUT: true; the input reads as it did. -/
def filterJoinsSpec : ChangeSpec := { name := "filterJoins", fn := fun _ => fun
  | [d1, d2] => { results := [.lit (.bool true)], args := [d1, d2] }
  | _ => none }
def filterJoinsRow : OpenClaim := { program := "ythaapijjjgkacaadoor", sum := "6fd83ec23abfc781d1f415e4ca496dfe395246b2845e6a28b2e7f3b6a30d0d90", func := "wigwag/wigwaglaw06.FilterJoins", spec := "filterJoins", inPlace := ["internal/reflectlite.TypeOf", "internal/reflectlite.ValueOf", "(internal/reflectlite.Value).Type", "(internal/reflectlite.Value).IsNil", "(internal/reflectlite.Value).Elem", "(internal/reflectlite.Value).Set"], unfollowed := true, recurses := true, named := ["errors.errorType"], apart := false, laid := [("errors.errorType", laid_errors_errorType)] }
def FilterJoinsSaid : Prop := filterJoinsRow.holds Tryd.pinned (OpenSpec.ofChange filterJoinsSpec)

/-- ITS FALSE NEIGHBOUR: 'it returns false'. Refute it at one input. -/
def filterJoinsWrong : ChangeSpec := { name := "filterJoins", fn := fun _ => fun
  | [d1, d2] => { results := [.lit (.bool false)], args := [d1, d2] }
  | _ => none }
def FilterJoinsWrongFalsely : Prop := filterJoinsRow.holds Tryd.pinned (OpenSpec.ofChange filterJoinsWrong)

/-- 'wigwaglaw06.FilterPlaces': WHATEVER THE INPUT: true; the input reads as it did. -/
def filterPlacesSpec : ChangeSpec := { name := "filterPlaces", fn := fun _ => fun
  | [d1, d2] => { results := [.lit (.bool true)], args := [d1, d2] }
  | _ => none }
def filterPlacesRow : OpenClaim := { program := "ythaapijjjgkacaadoor", sum := "6fd83ec23abfc781d1f415e4ca496dfe395246b2845e6a28b2e7f3b6a30d0d90", func := "wigwag/wigwaglaw06.FilterPlaces", spec := "filterPlaces", inPlace := ["internal/reflectlite.TypeOf", "internal/reflectlite.ValueOf", "(internal/reflectlite.Value).Type", "(internal/reflectlite.Value).IsNil", "(internal/reflectlite.Value).Elem", "(internal/reflectlite.Value).Set"], unfollowed := true, recurses := true, named := ["errors.errorType"], apart := false, laid := [("errors.errorType", laid_errors_errorType)] }
def FilterPlacesSaid : Prop := filterPlacesRow.holds Tryd.pinned (OpenSpec.ofChange filterPlacesSpec)

/-- ITS FALSE NEIGHBOUR: 'it returns false'. Refute it at one input. -/
def filterPlacesWrong : ChangeSpec := { name := "filterPlaces", fn := fun _ => fun
  | [d1, d2] => { results := [.lit (.bool false)], args := [d1, d2] }
  | _ => none }
def FilterPlacesWrongFalsely : Prop := filterPlacesRow.holds Tryd.pinned (OpenSpec.ofChange filterPlacesWrong)

/-- 'wigwaglaw06.FilterParses': WHATEVER THE INPUT: true; the input reads as it did. -/
def filterParsesSpec : ChangeSpec := { name := "filterParses", fn := fun _ => fun
  | [d] => { results := [.lit (.bool true)], args := [d] }
  | _ => none }
def filterParsesRow : OpenClaim := { program := "ythaapijjjgkacaadoor", sum := "6fd83ec23abfc781d1f415e4ca496dfe395246b2845e6a28b2e7f3b6a30d0d90", func := "wigwag/wigwaglaw06.FilterParses", spec := "filterParses", inPlace := ["internal/reflectlite.TypeOf", "internal/reflectlite.ValueOf", "(internal/reflectlite.Value).Type", "(internal/reflectlite.Value).IsNil", "(internal/reflectlite.Value).Elem", "(internal/reflectlite.Value).Set"], unfollowed := true, recurses := true, named := ["errors.errorType"], apart := false, laid := [("errors.errorType", laid_errors_errorType)] }
def FilterParsesSaid : Prop := filterParsesRow.holds Tryd.pinned (OpenSpec.ofChange filterParsesSpec)

/-- ITS FALSE NEIGHBOUR: 'it returns false'. Refute it at one input. -/
def filterParsesWrong : ChangeSpec := { name := "filterParses", fn := fun _ => fun
  | [d] => { results := [.lit (.bool false)], args := [d] }
  | _ => none }
def FilterParsesWrongFalsely : Prop := filterParsesRow.holds Tryd.pinned (OpenSpec.ofChange filterParsesWrong)

/-- 'wigwaglaw06.FilterNumbers': WHATEVER THE INPUT: true; the input reads as it did. -/
def filterNumbersSpec : ChangeSpec := { name := "filterNumbers", fn := fun _ => fun
  | [d1, d2] => { results := [.lit (.bool true)], args := [d1, d2] }
  | _ => none }
def filterNumbersRow : OpenClaim := { program := "ythaapijjjgkacaadoor", sum := "6fd83ec23abfc781d1f415e4ca496dfe395246b2845e6a28b2e7f3b6a30d0d90", func := "wigwag/wigwaglaw06.FilterNumbers", spec := "filterNumbers", inPlace := ["internal/reflectlite.TypeOf", "internal/reflectlite.ValueOf", "(internal/reflectlite.Value).Type", "(internal/reflectlite.Value).IsNil", "(internal/reflectlite.Value).Elem", "(internal/reflectlite.Value).Set"], unfollowed := true, recurses := true, named := ["errors.errorType", "internal/strconv.uint64pow10", "math/bits.deBruijn32tab", "math/bits.deBruijn64tab"], apart := false, laid := [("math/bits.deBruijn32tab", laid_math_bits_deBruijn32tab), ("math/bits.deBruijn64tab", laid_math_bits_deBruijn64tab), ("internal/strconv.uint64pow10", laid_internal_strconv_uint64pow10), ("errors.errorType", laid_errors_errorType)] }
def FilterNumbersSaid : Prop := filterNumbersRow.holds Tryd.pinned (OpenSpec.ofChange filterNumbersSpec)

/-- ITS FALSE NEIGHBOUR: 'it returns false'. Refute it at one input. -/
def filterNumbersWrong : ChangeSpec := { name := "filterNumbers", fn := fun _ => fun
  | [d1, d2] => { results := [.lit (.bool false)], args := [d1, d2] }
  | _ => none }
def FilterNumbersWrongFalsely : Prop := filterNumbersRow.holds Tryd.pinned (OpenSpec.ofChange filterNumbersWrong)

/-- 'wigwaglaw06.FilterStrings': WHATEVER THE INPUT: true; the input reads as it did. -/
def filterStringsSpec : ChangeSpec := { name := "filterStrings", fn := fun _ => fun
  | [d1, d2] => { results := [.lit (.bool true)], args := [d1, d2] }
  | _ => none }
def filterStringsRow : OpenClaim := { program := "ythaapijjjgkacaadoor", sum := "6fd83ec23abfc781d1f415e4ca496dfe395246b2845e6a28b2e7f3b6a30d0d90", func := "wigwag/wigwaglaw06.FilterStrings", spec := "filterStrings", inPlace := ["internal/reflectlite.TypeOf", "internal/reflectlite.ValueOf", "(internal/reflectlite.Value).Type", "(internal/reflectlite.Value).IsNil", "(internal/reflectlite.Value).Elem", "(internal/reflectlite.Value).Set"], unfollowed := true, recurses := true, named := ["errors.errorType", "internal/strconv.uint64pow10", "math/bits.deBruijn32tab", "math/bits.deBruijn64tab"], apart := false, laid := [("math/bits.deBruijn32tab", laid_math_bits_deBruijn32tab), ("math/bits.deBruijn64tab", laid_math_bits_deBruijn64tab), ("internal/strconv.uint64pow10", laid_internal_strconv_uint64pow10), ("errors.errorType", laid_errors_errorType)] }
def FilterStringsSaid : Prop := filterStringsRow.holds Tryd.pinned (OpenSpec.ofChange filterStringsSpec)

/-- ITS FALSE NEIGHBOUR: 'it returns false'. Refute it at one input. -/
def filterStringsWrong : ChangeSpec := { name := "filterStrings", fn := fun _ => fun
  | [d1, d2] => { results := [.lit (.bool false)], args := [d1, d2] }
  | _ => none }
def FilterStringsWrongFalsely : Prop := filterStringsRow.holds Tryd.pinned (OpenSpec.ofChange filterStringsWrong)

/-- 'wigwaglaw06.FilterReads': WHATEVER THE INPUT: true; the input reads as it did. -/
def filterReadsSpec : ChangeSpec := { name := "filterReads", fn := fun _ => fun
  | [d1, d2] => { results := [.lit (.bool true)], args := [d1, d2] }
  | _ => none }
def filterReadsRow : OpenClaim := { program := "ythaapijjjgkacaadoor", sum := "6fd83ec23abfc781d1f415e4ca496dfe395246b2845e6a28b2e7f3b6a30d0d90", func := "wigwag/wigwaglaw06.FilterReads", spec := "filterReads", inPlace := ["internal/reflectlite.TypeOf", "internal/reflectlite.ValueOf", "(internal/reflectlite.Value).Type", "(internal/reflectlite.Value).IsNil", "(internal/reflectlite.Value).Elem", "(internal/reflectlite.Value).Set"], unfollowed := true, recurses := true, named := ["errors.errorType", "internal/strconv.uint64pow10", "math/bits.deBruijn32tab", "math/bits.deBruijn64tab"], apart := false, laid := [("math/bits.deBruijn32tab", laid_math_bits_deBruijn32tab), ("math/bits.deBruijn64tab", laid_math_bits_deBruijn64tab), ("internal/strconv.uint64pow10", laid_internal_strconv_uint64pow10), ("errors.errorType", laid_errors_errorType)] }
def FilterReadsSaid : Prop := filterReadsRow.holds Tryd.pinned (OpenSpec.ofChange filterReadsSpec)

/-- ITS FALSE NEIGHBOUR: 'it returns false'. Refute it at one input. -/
def filterReadsWrong : ChangeSpec := { name := "filterReads", fn := fun _ => fun
  | [d1, d2] => { results := [.lit (.bool false)], args := [d1, d2] }
  | _ => none }
def FilterReadsWrongFalsely : Prop := filterReadsRow.holds Tryd.pinned (OpenSpec.ofChange filterReadsWrong)

/-- 'wigwaglaw06.FilterBack': WHATEVER THE INPUT: true; the input reads as it did. -/
def filterBackSpec : ChangeSpec := { name := "filterBack", fn := fun _ => fun
  | [d1, d2] => { results := [.lit (.bool true)], args := [d1, d2] }
  | _ => none }
def filterBackRow : OpenClaim := { program := "ythaapijjjgkacaadoor", sum := "6fd83ec23abfc781d1f415e4ca496dfe395246b2845e6a28b2e7f3b6a30d0d90", func := "wigwag/wigwaglaw06.FilterBack", spec := "filterBack", inPlace := ["internal/reflectlite.TypeOf", "internal/reflectlite.ValueOf", "(internal/reflectlite.Value).Type", "(internal/reflectlite.Value).IsNil", "(internal/reflectlite.Value).Elem", "(internal/reflectlite.Value).Set"], unfollowed := true, recurses := true, named := ["errors.errorType", "internal/strconv.uint64pow10", "math/bits.deBruijn32tab", "math/bits.deBruijn64tab"], apart := false, laid := [("math/bits.deBruijn32tab", laid_math_bits_deBruijn32tab), ("math/bits.deBruijn64tab", laid_math_bits_deBruijn64tab), ("internal/strconv.uint64pow10", laid_internal_strconv_uint64pow10), ("errors.errorType", laid_errors_errorType)] }
def FilterBackSaid : Prop := filterBackRow.holds Tryd.pinned (OpenSpec.ofChange filterBackSpec)

/-- ITS FALSE NEIGHBOUR: 'it returns false'. Refute it at one input. -/
def filterBackWrong : ChangeSpec := { name := "filterBack", fn := fun _ => fun
  | [d1, d2] => { results := [.lit (.bool false)], args := [d1, d2] }
  | _ => none }
def FilterBackWrongFalsely : Prop := filterBackRow.holds Tryd.pinned (OpenSpec.ofChange filterBackWrong)

/- THE SECOND FORM. 'bulk': how many values and letters a reading holds, each counted each time it is reached (what is shared counts as often as it is met; a slice's spare places count too). A statement '..UptoSaid' is the law's where the arguments, and the package variables that the reading takes, are together of bulk at most 1048576: NARROWER than '..Said'. Prove '..Said' where nothing that the law and all that it calls make is longer than what came in: it says more and counts as full. Else prove '..UptoSaid'. A law counts once. -/
mutual
def uptoBulk {H : Type} : DataW H → Nat
  | .lit (.string bytes) => bytes.length + 1
  | .lit _ => 1
  | .nil => 1
  | .ptr d => uptoBulk d + 1
  | .slice elems spare => uptoBulkAll elems + uptoBulkAll spare + 1
  | .agg parts => uptoBulkAll parts + 1
  | .iface _ d => uptoBulk d + 1
  | .map entries => uptoBulkEntries entries + 1
  | .held _ => 1
def uptoBulkAll {H : Type} : List (DataW H) → Nat
  | [] => 0
  | d :: r => uptoBulk d + uptoBulkAll r
def uptoBulkEntries {H : Type} : List (Lit × DataW H) → Nat
  | [] => 0
  | x :: r => uptoBulkEntry x + uptoBulkEntries r
def uptoBulkEntry {H : Type} : Lit × DataW H → Nat
  | (.string bytes, d) => bytes.length + uptoBulk d + 1
  | (_, d) => uptoBulk d + 1
 end
def uptoSmall : (H : Type) → List (DataW H) → Bool := fun _ ds => decide (uptoBulkAll ds ≤ 1048576)
def OpenSpec.upto (s : _root_.Go.ChangeSpec) : _root_.Go.OpenSpec := { _root_.Go.OpenSpec.ofChange s with cond := some uptoSmall }

/-- 'wigwaglaw06.FilterBlanks', WHERE WHAT IT READS IS OF BULK AT MOST 1048576: true; the input reads as it did. -/
def filterBlanksUptoRow : OpenClaim := { program := "ythaapijjjgkacaadoor", sum := "6fd83ec23abfc781d1f415e4ca496dfe395246b2845e6a28b2e7f3b6a30d0d90", func := "wigwag/wigwaglaw06.FilterBlanks", spec := "filterBlanks", inPlace := ["internal/reflectlite.TypeOf", "internal/reflectlite.ValueOf", "(internal/reflectlite.Value).Type", "(internal/reflectlite.Value).IsNil", "(internal/reflectlite.Value).Elem", "(internal/reflectlite.Value).Set"], unfollowed := true, recurses := true, named := ["errors.errorType"], apart := false, laid := [("errors.errorType", laid_errors_errorType)], narrowed := true }
def FilterBlanksUptoSaid : Prop := filterBlanksUptoRow.holds Tryd.pinned (OpenSpec.upto filterBlanksSpec)

/-- 'wigwaglaw06.FilterJoins', WHERE WHAT IT READS IS OF BULK AT MOST 1048576: true; the input reads as it did. -/
def filterJoinsUptoRow : OpenClaim := { program := "ythaapijjjgkacaadoor", sum := "6fd83ec23abfc781d1f415e4ca496dfe395246b2845e6a28b2e7f3b6a30d0d90", func := "wigwag/wigwaglaw06.FilterJoins", spec := "filterJoins", inPlace := ["internal/reflectlite.TypeOf", "internal/reflectlite.ValueOf", "(internal/reflectlite.Value).Type", "(internal/reflectlite.Value).IsNil", "(internal/reflectlite.Value).Elem", "(internal/reflectlite.Value).Set"], unfollowed := true, recurses := true, named := ["errors.errorType"], apart := false, laid := [("errors.errorType", laid_errors_errorType)], narrowed := true }
def FilterJoinsUptoSaid : Prop := filterJoinsUptoRow.holds Tryd.pinned (OpenSpec.upto filterJoinsSpec)

/-- 'wigwaglaw06.FilterPlaces', WHERE WHAT IT READS IS OF BULK AT MOST 1048576: true; the input reads as it did. -/
def filterPlacesUptoRow : OpenClaim := { program := "ythaapijjjgkacaadoor", sum := "6fd83ec23abfc781d1f415e4ca496dfe395246b2845e6a28b2e7f3b6a30d0d90", func := "wigwag/wigwaglaw06.FilterPlaces", spec := "filterPlaces", inPlace := ["internal/reflectlite.TypeOf", "internal/reflectlite.ValueOf", "(internal/reflectlite.Value).Type", "(internal/reflectlite.Value).IsNil", "(internal/reflectlite.Value).Elem", "(internal/reflectlite.Value).Set"], unfollowed := true, recurses := true, named := ["errors.errorType"], apart := false, laid := [("errors.errorType", laid_errors_errorType)], narrowed := true }
def FilterPlacesUptoSaid : Prop := filterPlacesUptoRow.holds Tryd.pinned (OpenSpec.upto filterPlacesSpec)

/-- 'wigwaglaw06.FilterParses', WHERE WHAT IT READS IS OF BULK AT MOST 1048576: true; the input reads as it did. -/
def filterParsesUptoRow : OpenClaim := { program := "ythaapijjjgkacaadoor", sum := "6fd83ec23abfc781d1f415e4ca496dfe395246b2845e6a28b2e7f3b6a30d0d90", func := "wigwag/wigwaglaw06.FilterParses", spec := "filterParses", inPlace := ["internal/reflectlite.TypeOf", "internal/reflectlite.ValueOf", "(internal/reflectlite.Value).Type", "(internal/reflectlite.Value).IsNil", "(internal/reflectlite.Value).Elem", "(internal/reflectlite.Value).Set"], unfollowed := true, recurses := true, named := ["errors.errorType"], apart := false, laid := [("errors.errorType", laid_errors_errorType)], narrowed := true }
def FilterParsesUptoSaid : Prop := filterParsesUptoRow.holds Tryd.pinned (OpenSpec.upto filterParsesSpec)

/-- 'wigwaglaw06.FilterNumbers', WHERE WHAT IT READS IS OF BULK AT MOST 1048576: true; the input reads as it did. -/
def filterNumbersUptoRow : OpenClaim := { program := "ythaapijjjgkacaadoor", sum := "6fd83ec23abfc781d1f415e4ca496dfe395246b2845e6a28b2e7f3b6a30d0d90", func := "wigwag/wigwaglaw06.FilterNumbers", spec := "filterNumbers", inPlace := ["internal/reflectlite.TypeOf", "internal/reflectlite.ValueOf", "(internal/reflectlite.Value).Type", "(internal/reflectlite.Value).IsNil", "(internal/reflectlite.Value).Elem", "(internal/reflectlite.Value).Set"], unfollowed := true, recurses := true, named := ["errors.errorType", "internal/strconv.uint64pow10", "math/bits.deBruijn32tab", "math/bits.deBruijn64tab"], apart := false, laid := [("math/bits.deBruijn32tab", laid_math_bits_deBruijn32tab), ("math/bits.deBruijn64tab", laid_math_bits_deBruijn64tab), ("internal/strconv.uint64pow10", laid_internal_strconv_uint64pow10), ("errors.errorType", laid_errors_errorType)], narrowed := true }
def FilterNumbersUptoSaid : Prop := filterNumbersUptoRow.holds Tryd.pinned (OpenSpec.upto filterNumbersSpec)

/-- 'wigwaglaw06.FilterStrings', WHERE WHAT IT READS IS OF BULK AT MOST 1048576: true; the input reads as it did. -/
def filterStringsUptoRow : OpenClaim := { program := "ythaapijjjgkacaadoor", sum := "6fd83ec23abfc781d1f415e4ca496dfe395246b2845e6a28b2e7f3b6a30d0d90", func := "wigwag/wigwaglaw06.FilterStrings", spec := "filterStrings", inPlace := ["internal/reflectlite.TypeOf", "internal/reflectlite.ValueOf", "(internal/reflectlite.Value).Type", "(internal/reflectlite.Value).IsNil", "(internal/reflectlite.Value).Elem", "(internal/reflectlite.Value).Set"], unfollowed := true, recurses := true, named := ["errors.errorType", "internal/strconv.uint64pow10", "math/bits.deBruijn32tab", "math/bits.deBruijn64tab"], apart := false, laid := [("math/bits.deBruijn32tab", laid_math_bits_deBruijn32tab), ("math/bits.deBruijn64tab", laid_math_bits_deBruijn64tab), ("internal/strconv.uint64pow10", laid_internal_strconv_uint64pow10), ("errors.errorType", laid_errors_errorType)], narrowed := true }
def FilterStringsUptoSaid : Prop := filterStringsUptoRow.holds Tryd.pinned (OpenSpec.upto filterStringsSpec)

/-- 'wigwaglaw06.FilterReads', WHERE WHAT IT READS IS OF BULK AT MOST 1048576: true; the input reads as it did. -/
def filterReadsUptoRow : OpenClaim := { program := "ythaapijjjgkacaadoor", sum := "6fd83ec23abfc781d1f415e4ca496dfe395246b2845e6a28b2e7f3b6a30d0d90", func := "wigwag/wigwaglaw06.FilterReads", spec := "filterReads", inPlace := ["internal/reflectlite.TypeOf", "internal/reflectlite.ValueOf", "(internal/reflectlite.Value).Type", "(internal/reflectlite.Value).IsNil", "(internal/reflectlite.Value).Elem", "(internal/reflectlite.Value).Set"], unfollowed := true, recurses := true, named := ["errors.errorType", "internal/strconv.uint64pow10", "math/bits.deBruijn32tab", "math/bits.deBruijn64tab"], apart := false, laid := [("math/bits.deBruijn32tab", laid_math_bits_deBruijn32tab), ("math/bits.deBruijn64tab", laid_math_bits_deBruijn64tab), ("internal/strconv.uint64pow10", laid_internal_strconv_uint64pow10), ("errors.errorType", laid_errors_errorType)], narrowed := true }
def FilterReadsUptoSaid : Prop := filterReadsUptoRow.holds Tryd.pinned (OpenSpec.upto filterReadsSpec)

/-- 'wigwaglaw06.FilterBack', WHERE WHAT IT READS IS OF BULK AT MOST 1048576: true; the input reads as it did. -/
def filterBackUptoRow : OpenClaim := { program := "ythaapijjjgkacaadoor", sum := "6fd83ec23abfc781d1f415e4ca496dfe395246b2845e6a28b2e7f3b6a30d0d90", func := "wigwag/wigwaglaw06.FilterBack", spec := "filterBack", inPlace := ["internal/reflectlite.TypeOf", "internal/reflectlite.ValueOf", "(internal/reflectlite.Value).Type", "(internal/reflectlite.Value).IsNil", "(internal/reflectlite.Value).Elem", "(internal/reflectlite.Value).Set"], unfollowed := true, recurses := true, named := ["errors.errorType", "internal/strconv.uint64pow10", "math/bits.deBruijn32tab", "math/bits.deBruijn64tab"], apart := false, laid := [("math/bits.deBruijn32tab", laid_math_bits_deBruijn32tab), ("math/bits.deBruijn64tab", laid_math_bits_deBruijn64tab), ("internal/strconv.uint64pow10", laid_internal_strconv_uint64pow10), ("errors.errorType", laid_errors_errorType)], narrowed := true }
def FilterBackUptoSaid : Prop := filterBackUptoRow.holds Tryd.pinned (OpenSpec.upto filterBackSpec)

end Rows
end Go.Proofs.YthaapijjjgkacaaDoor
