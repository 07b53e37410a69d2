/-
  No cell of these rows narrows 'for every input' (looked for: loops, veiled, ifaces, maps, wideKeys, modest, calm, conditions, laid).
  DERIVED. THE GIVEN ROWS OF THIS SEAT. 8 by the template 'for every input the law returns true; each argument reads behind the call as it read before'; 0 by the template 'total and deterministic' (their statements: YtjdhnhfglpogmaaTotals.lean).
  GIVEN WITH THE SEED: the statements are not yours to turn. If you find one false, say at which input.
  Laid BY PROGRAM, IN A SANDBOX (cutbox-rows.mjs): the forced cells as the released guide's own fill.sh prints them over the translation 2e76d008577dc6a3… (all of the seat's roots in one cut). By AI agents, Wed Nov 11 2026. No macro, syntax, notation, axiom, sorry.
-/
import Derived.Test.YtjdhnhfglpogmaaChecked
import GoSem.Claim
import GoSem.ClaimJoined
import GoSem.ClaimMapViews
import Derived.JoinedTies
import Derived.KernelRfl
namespace Go.Proofs.Ytjdhnhfglpogmaa
/- THE CELL 'sum', in the pinned program and in every row, IS THE sha256 OF THE DUMP (.gsa) THAT YtjdhnhfglpogmaaProg.lean LOADS. Nothing in Lean hashes anything: it is a label: what it is worth is what the hold of that sum in a sandbox is worth. -/
noncomputable def Try.pinned : Pinned := { name := "ytjdhnhfglpogmaa", sum := "2e76d008577dc6a368ac715906991d5164d5b761cb8e4d2cb25293c459399447", checked := Try.checked }
namespace Rows
def none {H : Type} : Left H := { results := [], args := [] }

/-- 'cohousinglaw36.CauseMatchesReference': WHATEVER THE INPUT: true; the input reads as it did. -/
def causeMatchesReferenceSpec : ChangeSpec := { name := "causeMatchesReference", fn := fun _ => fun
  | [d1, d2, d3, d4, d5] => { results := [.lit (.bool true)], args := [d1, d2, d3, d4, d5] }
  | _ => none }
def causeMatchesReferenceRow : OpenClaim := { program := "ytjdhnhfglpogmaa", sum := "2e76d008577dc6a368ac715906991d5164d5b761cb8e4d2cb25293c459399447", func := "cohousing/cohousinglaw36.CauseMatchesReference", spec := "causeMatchesReference", unfollowed := true, recurses := true, apart := false }
def CauseMatchesReferenceSaid : Prop := causeMatchesReferenceRow.holds Try.pinned (OpenSpec.ofChange causeMatchesReferenceSpec)

/-- ITS FALSE NEIGHBOUR: 'it returns false'. Refute it at one input. -/
def causeMatchesReferenceWrong : ChangeSpec := { name := "causeMatchesReference", fn := fun _ => fun
  | [d1, d2, d3, d4, d5] => { results := [.lit (.bool false)], args := [d1, d2, d3, d4, d5] }
  | _ => none }
def CauseMatchesReferenceWrongFalsely : Prop := causeMatchesReferenceRow.holds Try.pinned (OpenSpec.ofChange causeMatchesReferenceWrong)

/-- 'cohousinglaw36.CauseRuns': WHATEVER THE INPUT: true; the input reads as it did. -/
def causeRunsSpec : ChangeSpec := { name := "causeRuns", fn := fun _ => fun
  | [d1, d2] => { results := [.lit (.bool true)], args := [d1, d2] }
  | _ => none }
def causeRunsRow : OpenClaim := { program := "ytjdhnhfglpogmaa", sum := "2e76d008577dc6a368ac715906991d5164d5b761cb8e4d2cb25293c459399447", func := "cohousing/cohousinglaw36.CauseRuns", spec := "causeRuns", unfollowed := true, recurses := true, apart := false }
def CauseRunsSaid : Prop := causeRunsRow.holds Try.pinned (OpenSpec.ofChange causeRunsSpec)

/-- ITS FALSE NEIGHBOUR: 'it returns false'. Refute it at one input. -/
def causeRunsWrong : ChangeSpec := { name := "causeRuns", fn := fun _ => fun
  | [d1, d2] => { results := [.lit (.bool false)], args := [d1, d2] }
  | _ => none }
def CauseRunsWrongFalsely : Prop := causeRunsRow.holds Try.pinned (OpenSpec.ofChange causeRunsWrong)

/-- 'cohousinglaw36.CauseStates': WHATEVER THE INPUT: true; the input reads as it did. -/
def causeStatesSpec : ChangeSpec := { name := "causeStates", fn := fun _ => fun
  | [d1, d2, d3, d4] => { results := [.lit (.bool true)], args := [d1, d2, d3, d4] }
  | _ => none }
def causeStatesRow : OpenClaim := { program := "ytjdhnhfglpogmaa", sum := "2e76d008577dc6a368ac715906991d5164d5b761cb8e4d2cb25293c459399447", func := "cohousing/cohousinglaw36.CauseStates", spec := "causeStates", unfollowed := true, recurses := true, apart := false }
def CauseStatesSaid : Prop := causeStatesRow.holds Try.pinned (OpenSpec.ofChange causeStatesSpec)

/-- ITS FALSE NEIGHBOUR: 'it returns false'. Refute it at one input. -/
def causeStatesWrong : ChangeSpec := { name := "causeStates", fn := fun _ => fun
  | [d1, d2, d3, d4] => { results := [.lit (.bool false)], args := [d1, d2, d3, d4] }
  | _ => none }
def CauseStatesWrongFalsely : Prop := causeStatesRow.holds Try.pinned (OpenSpec.ofChange causeStatesWrong)

/-- 'cohousinglaw36.CauseObserves': WHATEVER THE INPUT: true; the input reads as it did. -/
def causeObservesSpec : ChangeSpec := { name := "causeObserves", fn := fun _ => fun
  | [d1, d2, d3, d4] => { results := [.lit (.bool true)], args := [d1, d2, d3, d4] }
  | _ => none }
def causeObservesRow : OpenClaim := { program := "ytjdhnhfglpogmaa", sum := "2e76d008577dc6a368ac715906991d5164d5b761cb8e4d2cb25293c459399447", func := "cohousing/cohousinglaw36.CauseObserves", spec := "causeObserves", unfollowed := true, recurses := true, apart := false }
def CauseObservesSaid : Prop := causeObservesRow.holds Try.pinned (OpenSpec.ofChange causeObservesSpec)

/-- ITS FALSE NEIGHBOUR: 'it returns false'. Refute it at one input. -/
def causeObservesWrong : ChangeSpec := { name := "causeObserves", fn := fun _ => fun
  | [d1, d2, d3, d4] => { results := [.lit (.bool false)], args := [d1, d2, d3, d4] }
  | _ => none }
def CauseObservesWrongFalsely : Prop := causeObservesRow.holds Try.pinned (OpenSpec.ofChange causeObservesWrong)

/-- 'cohousinglaw36.CauseBlames': WHATEVER THE INPUT: true; the input reads as it did. -/
def causeBlamesSpec : ChangeSpec := { name := "causeBlames", fn := fun _ => fun
  | [d1, d2, d3, d4, d5] => { results := [.lit (.bool true)], args := [d1, d2, d3, d4, d5] }
  | _ => none }
def causeBlamesRow : OpenClaim := { program := "ytjdhnhfglpogmaa", sum := "2e76d008577dc6a368ac715906991d5164d5b761cb8e4d2cb25293c459399447", func := "cohousing/cohousinglaw36.CauseBlames", spec := "causeBlames", unfollowed := true, recurses := true, apart := false }
def CauseBlamesSaid : Prop := causeBlamesRow.holds Try.pinned (OpenSpec.ofChange causeBlamesSpec)

/-- ITS FALSE NEIGHBOUR: 'it returns false'. Refute it at one input. -/
def causeBlamesWrong : ChangeSpec := { name := "causeBlames", fn := fun _ => fun
  | [d1, d2, d3, d4, d5] => { results := [.lit (.bool false)], args := [d1, d2, d3, d4, d5] }
  | _ => none }
def CauseBlamesWrongFalsely : Prop := causeBlamesRow.holds Try.pinned (OpenSpec.ofChange causeBlamesWrong)

/-- 'cohousinglaw36.CauseLearns': WHATEVER THE INPUT: true; the input reads as it did. -/
def causeLearnsSpec : ChangeSpec := { name := "causeLearns", fn := fun _ => fun
  | [d1, d2, d3, d4, d5] => { results := [.lit (.bool true)], args := [d1, d2, d3, d4, d5] }
  | _ => none }
def causeLearnsRow : OpenClaim := { program := "ytjdhnhfglpogmaa", sum := "2e76d008577dc6a368ac715906991d5164d5b761cb8e4d2cb25293c459399447", func := "cohousing/cohousinglaw36.CauseLearns", spec := "causeLearns", unfollowed := true, recurses := true, apart := false }
def CauseLearnsSaid : Prop := causeLearnsRow.holds Try.pinned (OpenSpec.ofChange causeLearnsSpec)

/-- ITS FALSE NEIGHBOUR: 'it returns false'. Refute it at one input. -/
def causeLearnsWrong : ChangeSpec := { name := "causeLearns", fn := fun _ => fun
  | [d1, d2, d3, d4, d5] => { results := [.lit (.bool false)], args := [d1, d2, d3, d4, d5] }
  | _ => none }
def CauseLearnsWrongFalsely : Prop := causeLearnsRow.holds Try.pinned (OpenSpec.ofChange causeLearnsWrong)

/-- 'cohousinglaw36.CauseInnocent': WHATEVER THE INPUT: true; the input reads as it did. -/
def causeInnocentSpec : ChangeSpec := { name := "causeInnocent", fn := fun _ => fun
  | [d1, d2, d3, d4] => { results := [.lit (.bool true)], args := [d1, d2, d3, d4] }
  | _ => none }
def causeInnocentRow : OpenClaim := { program := "ytjdhnhfglpogmaa", sum := "2e76d008577dc6a368ac715906991d5164d5b761cb8e4d2cb25293c459399447", func := "cohousing/cohousinglaw36.CauseInnocent", spec := "causeInnocent", unfollowed := true, recurses := true, apart := false }
def CauseInnocentSaid : Prop := causeInnocentRow.holds Try.pinned (OpenSpec.ofChange causeInnocentSpec)

/-- ITS FALSE NEIGHBOUR: 'it returns false'. Refute it at one input. -/
def causeInnocentWrong : ChangeSpec := { name := "causeInnocent", fn := fun _ => fun
  | [d1, d2, d3, d4] => { results := [.lit (.bool false)], args := [d1, d2, d3, d4] }
  | _ => none }
def CauseInnocentWrongFalsely : Prop := causeInnocentRow.holds Try.pinned (OpenSpec.ofChange causeInnocentWrong)

/-- 'cohousinglaw36.CauseDays': WHATEVER THE INPUT: true; the input reads as it did. -/
def causeDaysSpec : ChangeSpec := { name := "causeDays", fn := fun _ => fun
  | [d1, d2, d3, d4] => { results := [.lit (.bool true)], args := [d1, d2, d3, d4] }
  | _ => none }
def causeDaysRow : OpenClaim := { program := "ytjdhnhfglpogmaa", sum := "2e76d008577dc6a368ac715906991d5164d5b761cb8e4d2cb25293c459399447", func := "cohousing/cohousinglaw36.CauseDays", spec := "causeDays", unfollowed := true, recurses := true, apart := false }
def CauseDaysSaid : Prop := causeDaysRow.holds Try.pinned (OpenSpec.ofChange causeDaysSpec)

/-- ITS FALSE NEIGHBOUR: 'it returns false'. Refute it at one input. -/
def causeDaysWrong : ChangeSpec := { name := "causeDays", fn := fun _ => fun
  | [d1, d2, d3, d4] => { results := [.lit (.bool false)], args := [d1, d2, d3, d4] }
  | _ => none }
def CauseDaysWrongFalsely : Prop := causeDaysRow.holds Try.pinned (OpenSpec.ofChange causeDaysWrong)

/- THE SECOND FORM. 'bulk': how many values and letters a reading holds, each counted each time it is reached (what is shared counts as often as it is met; a slice's spare places count too). A statement '..UptoSaid' is the law's where the arguments, and the package variables that the reading takes, are together of bulk at most 1048576: NARROWER than '..Said'. Prove '..Said' where nothing that the law and all that it calls make is longer than what came in: it says more and counts as full. Else prove '..UptoSaid'. A law counts once. -/
mutual
def uptoBulk {H : Type} : DataW H → Nat
  | .lit (.string bytes) => bytes.length + 1
  | .lit _ => 1
  | .nil => 1
  | .ptr d => uptoBulk d + 1
  | .slice elems spare => uptoBulkAll elems + uptoBulkAll spare + 1
  | .agg parts => uptoBulkAll parts + 1
  | .iface _ d => uptoBulk d + 1
  | .map entries => uptoBulkEntries entries + 1
  | .held _ => 1
def uptoBulkAll {H : Type} : List (DataW H) → Nat
  | [] => 0
  | d :: r => uptoBulk d + uptoBulkAll r
def uptoBulkEntries {H : Type} : List (Lit × DataW H) → Nat
  | [] => 0
  | x :: r => uptoBulkEntry x + uptoBulkEntries r
def uptoBulkEntry {H : Type} : Lit × DataW H → Nat
  | (.string bytes, d) => bytes.length + uptoBulk d + 1
  | (_, d) => uptoBulk d + 1
 end
def uptoSmall : (H : Type) → List (DataW H) → Bool := fun _ ds => decide (uptoBulkAll ds ≤ 1048576)
def OpenSpec.upto (s : _root_.Go.ChangeSpec) : _root_.Go.OpenSpec := { _root_.Go.OpenSpec.ofChange s with cond := some uptoSmall }

/-- 'cohousinglaw36.CauseMatchesReference', WHERE WHAT IT READS IS OF BULK AT MOST 1048576: true; the input reads as it did. -/
def causeMatchesReferenceUptoRow : OpenClaim := { program := "ytjdhnhfglpogmaa", sum := "2e76d008577dc6a368ac715906991d5164d5b761cb8e4d2cb25293c459399447", func := "cohousing/cohousinglaw36.CauseMatchesReference", spec := "causeMatchesReference", unfollowed := true, recurses := true, apart := false, narrowed := true }
def CauseMatchesReferenceUptoSaid : Prop := causeMatchesReferenceUptoRow.holds Try.pinned (OpenSpec.upto causeMatchesReferenceSpec)

/-- 'cohousinglaw36.CauseRuns', WHERE WHAT IT READS IS OF BULK AT MOST 1048576: true; the input reads as it did. -/
def causeRunsUptoRow : OpenClaim := { program := "ytjdhnhfglpogmaa", sum := "2e76d008577dc6a368ac715906991d5164d5b761cb8e4d2cb25293c459399447", func := "cohousing/cohousinglaw36.CauseRuns", spec := "causeRuns", unfollowed := true, recurses := true, apart := false, narrowed := true }
def CauseRunsUptoSaid : Prop := causeRunsUptoRow.holds Try.pinned (OpenSpec.upto causeRunsSpec)

/-- 'cohousinglaw36.CauseStates', WHERE WHAT IT READS IS OF BULK AT MOST 1048576: true; the input reads as it did. -/
def causeStatesUptoRow : OpenClaim := { program := "ytjdhnhfglpogmaa", sum := "2e76d008577dc6a368ac715906991d5164d5b761cb8e4d2cb25293c459399447", func := "cohousing/cohousinglaw36.CauseStates", spec := "causeStates", unfollowed := true, recurses := true, apart := false, narrowed := true }
def CauseStatesUptoSaid : Prop := causeStatesUptoRow.holds Try.pinned (OpenSpec.upto causeStatesSpec)

/-- 'cohousinglaw36.CauseObserves', WHERE WHAT IT READS IS OF BULK AT MOST 1048576: true; the input reads as it did. -/
def causeObservesUptoRow : OpenClaim := { program := "ytjdhnhfglpogmaa", sum := "2e76d008577dc6a368ac715906991d5164d5b761cb8e4d2cb25293c459399447", func := "cohousing/cohousinglaw36.CauseObserves", spec := "causeObserves", unfollowed := true, recurses := true, apart := false, narrowed := true }
def CauseObservesUptoSaid : Prop := causeObservesUptoRow.holds Try.pinned (OpenSpec.upto causeObservesSpec)

/-- 'cohousinglaw36.CauseBlames', WHERE WHAT IT READS IS OF BULK AT MOST 1048576: true; the input reads as it did. -/
def causeBlamesUptoRow : OpenClaim := { program := "ytjdhnhfglpogmaa", sum := "2e76d008577dc6a368ac715906991d5164d5b761cb8e4d2cb25293c459399447", func := "cohousing/cohousinglaw36.CauseBlames", spec := "causeBlames", unfollowed := true, recurses := true, apart := false, narrowed := true }
def CauseBlamesUptoSaid : Prop := causeBlamesUptoRow.holds Try.pinned (OpenSpec.upto causeBlamesSpec)

/-- 'cohousinglaw36.CauseLearns', WHERE WHAT IT READS IS OF BULK AT MOST 1048576: true; the input reads as it did. -/
def causeLearnsUptoRow : OpenClaim := { program := "ytjdhnhfglpogmaa", sum := "2e76d008577dc6a368ac715906991d5164d5b761cb8e4d2cb25293c459399447", func := "cohousing/cohousinglaw36.CauseLearns", spec := "causeLearns", unfollowed := true, recurses := true, apart := false, narrowed := true }
def CauseLearnsUptoSaid : Prop := causeLearnsUptoRow.holds Try.pinned (OpenSpec.upto causeLearnsSpec)

/-- 'cohousinglaw36.CauseInnocent', WHERE WHAT IT READS IS OF BULK AT MOST 1048576: true; the input reads as it did. -/
def causeInnocentUptoRow : OpenClaim := { program := "ytjdhnhfglpogmaa", sum := "2e76d008577dc6a368ac715906991d5164d5b761cb8e4d2cb25293c459399447", func := "cohousing/cohousinglaw36.CauseInnocent", spec := "causeInnocent", unfollowed := true, recurses := true, apart := false, narrowed := true }
def CauseInnocentUptoSaid : Prop := causeInnocentUptoRow.holds Try.pinned (OpenSpec.upto causeInnocentSpec)

/-- 'cohousinglaw36.CauseDays', WHERE WHAT IT READS IS OF BULK AT MOST 1048576: true; the input reads as it did. -/
def causeDaysUptoRow : OpenClaim := { program := "ytjdhnhfglpogmaa", sum := "2e76d008577dc6a368ac715906991d5164d5b761cb8e4d2cb25293c459399447", func := "cohousing/cohousinglaw36.CauseDays", spec := "causeDays", unfollowed := true, recurses := true, apart := false, narrowed := true }
def CauseDaysUptoSaid : Prop := causeDaysUptoRow.holds Try.pinned (OpenSpec.upto causeDaysSpec)

end Rows
end Go.Proofs.Ytjdhnhfglpogmaa
