/-
  No cell of these rows narrows 'for every input' (looked for: loops, veiled, ifaces, maps, wideKeys, modest, calm, conditions, laid).
  DERIVED. THE GIVEN ROWS OF THIS SEAT. 4 by the template 'for every input the law returns true; each argument reads behind the call as it read before'; 0 by the template 'total and deterministic' (their statements: YtlokmijoaocofaaTotals.lean).
  GIVEN WITH THE SEED: the statements are not yours to turn. If you find one false, say at which input.
  Laid BY PROGRAM, IN A SANDBOX (cutbox-rows.mjs): the forced cells as the released guide's own fill.sh prints them over the translation 8bc3970963ad6646… (all of the seat's roots in one cut). By AI agents, Wed Nov 11 2026. No macro, syntax, notation, axiom, sorry.
-/
import Derived.Test.YtlokmijoaocofaaChecked
import GoSem.Claim
import GoSem.ClaimJoined
import GoSem.ClaimMapViews
import Derived.JoinedTies
import Derived.KernelRfl
namespace Go.Proofs.Ytlokmijoaocofaa
/- THE CELL 'sum', in the pinned program and in every row, IS THE sha256 OF THE DUMP (.gsa) THAT YtlokmijoaocofaaProg.lean LOADS. Nothing in Lean hashes anything: it is a label: what it is worth is what the hold of that sum in a sandbox is worth. -/
noncomputable def Try.pinned : Pinned := { name := "ytlokmijoaocofaa", sum := "8bc3970963ad6646d0f76c0460bc556c5147c2f0f9d066f478eeafcfe2faf231", checked := Try.checked }
namespace Rows
def none {H : Type} : Left H := { results := [], args := [] }

/-- 'wigwaglaw18.BoardSame': WHATEVER THE INPUT: true; the input reads as it did. -/
def boardSameSpec : ChangeSpec := { name := "boardSame", fn := fun _ => fun
  | [d1, d2] => { results := [.lit (.bool true)], args := [d1, d2] }
  | _ => none }
def boardSameRow : OpenClaim := { program := "ytlokmijoaocofaa", sum := "8bc3970963ad6646d0f76c0460bc556c5147c2f0f9d066f478eeafcfe2faf231", func := "wigwag/wigwaglaw18.BoardSame", spec := "boardSame", inPlace := ["internal/reflectlite.TypeOf"], unfollowed := true, recurses := true, plainKeys := false, apart := false }
def BoardSameSaid : Prop := boardSameRow.holds Try.pinned (OpenSpec.ofChange boardSameSpec)

/-- ITS FALSE NEIGHBOUR: 'it returns false'. Refute it at one input. -/
def boardSameWrong : ChangeSpec := { name := "boardSame", fn := fun _ => fun
  | [d1, d2] => { results := [.lit (.bool false)], args := [d1, d2] }
  | _ => none }
def BoardSameWrongFalsely : Prop := boardSameRow.holds Try.pinned (OpenSpec.ofChange boardSameWrong)

/-- 'wigwaglaw18.BoardAgain': WHATEVER THE INPUT: true; the input reads as it did. -/
def boardAgainSpec : ChangeSpec := { name := "boardAgain", fn := fun _ => fun
  | [d1, d2, d3, d4] => { results := [.lit (.bool true)], args := [d1, d2, d3, d4] }
  | _ => none }
def boardAgainRow : OpenClaim := { program := "ytlokmijoaocofaa", sum := "8bc3970963ad6646d0f76c0460bc556c5147c2f0f9d066f478eeafcfe2faf231", func := "wigwag/wigwaglaw18.BoardAgain", spec := "boardAgain", inPlace := ["internal/reflectlite.TypeOf"], unfollowed := true, recurses := true, plainKeys := false, apart := false }
def BoardAgainSaid : Prop := boardAgainRow.holds Try.pinned (OpenSpec.ofChange boardAgainSpec)

/-- ITS FALSE NEIGHBOUR: 'it returns false'. Refute it at one input. -/
def boardAgainWrong : ChangeSpec := { name := "boardAgain", fn := fun _ => fun
  | [d1, d2, d3, d4] => { results := [.lit (.bool false)], args := [d1, d2, d3, d4] }
  | _ => none }
def BoardAgainWrongFalsely : Prop := boardAgainRow.holds Try.pinned (OpenSpec.ofChange boardAgainWrong)

/-- 'wigwaglaw18.BoardOnce': WHATEVER THE INPUT: true; the input reads as it did. -/
def boardOnceSpec : ChangeSpec := { name := "boardOnce", fn := fun _ => fun
  | [d1, d2, d3] => { results := [.lit (.bool true)], args := [d1, d2, d3] }
  | _ => none }
def boardOnceRow : OpenClaim := { program := "ytlokmijoaocofaa", sum := "8bc3970963ad6646d0f76c0460bc556c5147c2f0f9d066f478eeafcfe2faf231", func := "wigwag/wigwaglaw18.BoardOnce", spec := "boardOnce", inPlace := ["internal/reflectlite.TypeOf"], unfollowed := true, recurses := true, plainKeys := false, apart := false }
def BoardOnceSaid : Prop := boardOnceRow.holds Try.pinned (OpenSpec.ofChange boardOnceSpec)

/-- ITS FALSE NEIGHBOUR: 'it returns false'. Refute it at one input. -/
def boardOnceWrong : ChangeSpec := { name := "boardOnce", fn := fun _ => fun
  | [d1, d2, d3] => { results := [.lit (.bool false)], args := [d1, d2, d3] }
  | _ => none }
def BoardOnceWrongFalsely : Prop := boardOnceRow.holds Try.pinned (OpenSpec.ofChange boardOnceWrong)

/-- 'wigwaglaw18.BoardGone': WHATEVER THE INPUT: true; the input reads as it did. -/
def boardGoneSpec : ChangeSpec := { name := "boardGone", fn := fun _ => fun
  | [d1, d2, d3, d4] => { results := [.lit (.bool true)], args := [d1, d2, d3, d4] }
  | _ => none }
def boardGoneRow : OpenClaim := { program := "ytlokmijoaocofaa", sum := "8bc3970963ad6646d0f76c0460bc556c5147c2f0f9d066f478eeafcfe2faf231", func := "wigwag/wigwaglaw18.BoardGone", spec := "boardGone", inPlace := ["internal/reflectlite.TypeOf"], unfollowed := true, recurses := true, plainKeys := false, apart := false }
def BoardGoneSaid : Prop := boardGoneRow.holds Try.pinned (OpenSpec.ofChange boardGoneSpec)

/-- ITS FALSE NEIGHBOUR: 'it returns false'. Refute it at one input. -/
def boardGoneWrong : ChangeSpec := { name := "boardGone", fn := fun _ => fun
  | [d1, d2, d3, d4] => { results := [.lit (.bool false)], args := [d1, d2, d3, d4] }
  | _ => none }
def BoardGoneWrongFalsely : Prop := boardGoneRow.holds Try.pinned (OpenSpec.ofChange boardGoneWrong)

/- THE SECOND FORM. 'bulk': how many values and letters a reading holds, each counted each time it is reached (what is shared counts as often as it is met; a slice's spare places count too). A statement '..UptoSaid' is the law's where the arguments, and the package variables that the reading takes, are together of bulk at most 1048576: NARROWER than '..Said'. Prove '..Said' where nothing that the law and all that it calls make is longer than what came in: it says more and counts as full. Else prove '..UptoSaid'. A law counts once. -/
mutual
def uptoBulk {H : Type} : DataW H → Nat
  | .lit (.string bytes) => bytes.length + 1
  | .lit _ => 1
  | .nil => 1
  | .ptr d => uptoBulk d + 1
  | .slice elems spare => uptoBulkAll elems + uptoBulkAll spare + 1
  | .agg parts => uptoBulkAll parts + 1
  | .iface _ d => uptoBulk d + 1
  | .map entries => uptoBulkEntries entries + 1
  | .held _ => 1
def uptoBulkAll {H : Type} : List (DataW H) → Nat
  | [] => 0
  | d :: r => uptoBulk d + uptoBulkAll r
def uptoBulkEntries {H : Type} : List (Lit × DataW H) → Nat
  | [] => 0
  | x :: r => uptoBulkEntry x + uptoBulkEntries r
def uptoBulkEntry {H : Type} : Lit × DataW H → Nat
  | (.string bytes, d) => bytes.length + uptoBulk d + 1
  | (_, d) => uptoBulk d + 1
 end
def uptoSmall : (H : Type) → List (DataW H) → Bool := fun _ ds => decide (uptoBulkAll ds ≤ 1048576)
def OpenSpec.upto (s : _root_.Go.ChangeSpec) : _root_.Go.OpenSpec := { _root_.Go.OpenSpec.ofChange s with cond := some uptoSmall }

/-- 'wigwaglaw18.BoardSame', WHERE WHAT IT READS IS OF BULK AT MOST 1048576: true; the input reads as it did. -/
def boardSameUptoRow : OpenClaim := { program := "ytlokmijoaocofaa", sum := "8bc3970963ad6646d0f76c0460bc556c5147c2f0f9d066f478eeafcfe2faf231", func := "wigwag/wigwaglaw18.BoardSame", spec := "boardSame", inPlace := ["internal/reflectlite.TypeOf"], unfollowed := true, recurses := true, plainKeys := false, apart := false, narrowed := true }
def BoardSameUptoSaid : Prop := boardSameUptoRow.holds Try.pinned (OpenSpec.upto boardSameSpec)

/-- 'wigwaglaw18.BoardAgain', WHERE WHAT IT READS IS OF BULK AT MOST 1048576: true; the input reads as it did. -/
def boardAgainUptoRow : OpenClaim := { program := "ytlokmijoaocofaa", sum := "8bc3970963ad6646d0f76c0460bc556c5147c2f0f9d066f478eeafcfe2faf231", func := "wigwag/wigwaglaw18.BoardAgain", spec := "boardAgain", inPlace := ["internal/reflectlite.TypeOf"], unfollowed := true, recurses := true, plainKeys := false, apart := false, narrowed := true }
def BoardAgainUptoSaid : Prop := boardAgainUptoRow.holds Try.pinned (OpenSpec.upto boardAgainSpec)

/-- 'wigwaglaw18.BoardOnce', WHERE WHAT IT READS IS OF BULK AT MOST 1048576: true; the input reads as it did. -/
def boardOnceUptoRow : OpenClaim := { program := "ytlokmijoaocofaa", sum := "8bc3970963ad6646d0f76c0460bc556c5147c2f0f9d066f478eeafcfe2faf231", func := "wigwag/wigwaglaw18.BoardOnce", spec := "boardOnce", inPlace := ["internal/reflectlite.TypeOf"], unfollowed := true, recurses := true, plainKeys := false, apart := false, narrowed := true }
def BoardOnceUptoSaid : Prop := boardOnceUptoRow.holds Try.pinned (OpenSpec.upto boardOnceSpec)

/-- 'wigwaglaw18.BoardGone', WHERE WHAT IT READS IS OF BULK AT MOST 1048576: true; the input reads as it did. -/
def boardGoneUptoRow : OpenClaim := { program := "ytlokmijoaocofaa", sum := "8bc3970963ad6646d0f76c0460bc556c5147c2f0f9d066f478eeafcfe2faf231", func := "wigwag/wigwaglaw18.BoardGone", spec := "boardGone", inPlace := ["internal/reflectlite.TypeOf"], unfollowed := true, recurses := true, plainKeys := false, apart := false, narrowed := true }
def BoardGoneUptoSaid : Prop := boardGoneUptoRow.holds Try.pinned (OpenSpec.upto boardGoneSpec)

end Rows
end Go.Proofs.Ytlokmijoaocofaa
