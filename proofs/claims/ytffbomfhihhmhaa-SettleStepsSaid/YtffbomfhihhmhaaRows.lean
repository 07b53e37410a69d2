/-
  No cell of these rows narrows 'for every input' (looked for: loops, veiled, ifaces, maps, wideKeys, modest, calm, conditions, laid).
  DERIVED. THE GIVEN ROWS OF THIS SEAT. 5 by the template 'for every input the law returns true; each argument reads behind the call as it read before'; 0 by the template 'total and deterministic' (their statements: YtffbomfhihhmhaaTotals.lean).
  GIVEN WITH THE SEED: the statements are not yours to turn. If you find one false, say at which input.
  Laid BY PROGRAM, IN A SANDBOX (cutbox-rows.mjs): the forced cells as the released guide's own fill.sh prints them over the translation d4fefd4e9f0f82e4… (all of the seat's roots in one cut). By AI agents, Wed Nov 11 2026. No macro, syntax, notation, axiom, sorry.
-/
import Derived.Test.YtffbomfhihhmhaaChecked
import GoSem.Claim
import GoSem.ClaimJoined
import GoSem.ClaimMapViews
import Derived.JoinedTies
import Derived.KernelRfl
namespace Go.Proofs.Ytffbomfhihhmhaa
/- THE CELL 'sum', in the pinned program and in every row, IS THE sha256 OF THE DUMP (.gsa) THAT YtffbomfhihhmhaaProg.lean LOADS. Nothing in Lean hashes anything: it is a label: what it is worth is what the hold of that sum in a sandbox is worth. -/
noncomputable def Try.pinned : Pinned := { name := "ytffbomfhihhmhaa", sum := "d4fefd4e9f0f82e43895382bcd3112d748724c563d60ec2bc379e828d022d161", checked := Try.checked }
namespace Rows
def none {H : Type} : Left H := { results := [], args := [] }

/-- 'cohousinglaw31.SettleMatchesReference': WHATEVER THE INPUT: true; the input reads as it did. -/
def settleMatchesReferenceSpec : ChangeSpec := { name := "settleMatchesReference", fn := fun _ => fun
  | [d1, d2, d3, d4] => { results := [.lit (.bool true)], args := [d1, d2, d3, d4] }
  | _ => none }
def settleMatchesReferenceRow : OpenClaim := { program := "ytffbomfhihhmhaa", sum := "d4fefd4e9f0f82e43895382bcd3112d748724c563d60ec2bc379e828d022d161", func := "cohousing/cohousinglaw31.SettleMatchesReference", spec := "settleMatchesReference", unfollowed := true, recurses := true, apart := false }
def SettleMatchesReferenceSaid : Prop := settleMatchesReferenceRow.holds Try.pinned (OpenSpec.ofChange settleMatchesReferenceSpec)

/-- ITS FALSE NEIGHBOUR: 'it returns false'. Refute it at one input. -/
def settleMatchesReferenceWrong : ChangeSpec := { name := "settleMatchesReference", fn := fun _ => fun
  | [d1, d2, d3, d4] => { results := [.lit (.bool false)], args := [d1, d2, d3, d4] }
  | _ => none }
def SettleMatchesReferenceWrongFalsely : Prop := settleMatchesReferenceRow.holds Try.pinned (OpenSpec.ofChange settleMatchesReferenceWrong)

/-- 'cohousinglaw31.SettleSums': WHATEVER THE INPUT: true; the input reads as it did. -/
def settleSumsSpec : ChangeSpec := { name := "settleSums", fn := fun _ => fun
  | [d1, d2, d3, d4] => { results := [.lit (.bool true)], args := [d1, d2, d3, d4] }
  | _ => none }
def settleSumsRow : OpenClaim := { program := "ytffbomfhihhmhaa", sum := "d4fefd4e9f0f82e43895382bcd3112d748724c563d60ec2bc379e828d022d161", func := "cohousing/cohousinglaw31.SettleSums", spec := "settleSums", unfollowed := true, recurses := true, apart := false }
def SettleSumsSaid : Prop := settleSumsRow.holds Try.pinned (OpenSpec.ofChange settleSumsSpec)

/-- ITS FALSE NEIGHBOUR: 'it returns false'. Refute it at one input. -/
def settleSumsWrong : ChangeSpec := { name := "settleSums", fn := fun _ => fun
  | [d1, d2, d3, d4] => { results := [.lit (.bool false)], args := [d1, d2, d3, d4] }
  | _ => none }
def SettleSumsWrongFalsely : Prop := settleSumsRow.holds Try.pinned (OpenSpec.ofChange settleSumsWrong)

/-- 'cohousinglaw31.SettleOrder': WHATEVER THE INPUT: true; the input reads as it did. -/
def settleOrderSpec : ChangeSpec := { name := "settleOrder", fn := fun _ => fun
  | [d1, d2, d3] => { results := [.lit (.bool true)], args := [d1, d2, d3] }
  | _ => none }
def settleOrderRow : OpenClaim := { program := "ytffbomfhihhmhaa", sum := "d4fefd4e9f0f82e43895382bcd3112d748724c563d60ec2bc379e828d022d161", func := "cohousing/cohousinglaw31.SettleOrder", spec := "settleOrder", unfollowed := true, recurses := true, apart := false }
def SettleOrderSaid : Prop := settleOrderRow.holds Try.pinned (OpenSpec.ofChange settleOrderSpec)

/-- ITS FALSE NEIGHBOUR: 'it returns false'. Refute it at one input. -/
def settleOrderWrong : ChangeSpec := { name := "settleOrder", fn := fun _ => fun
  | [d1, d2, d3] => { results := [.lit (.bool false)], args := [d1, d2, d3] }
  | _ => none }
def SettleOrderWrongFalsely : Prop := settleOrderRow.holds Try.pinned (OpenSpec.ofChange settleOrderWrong)

/-- 'cohousinglaw31.SettleSteps': WHATEVER THE INPUT: true; the input reads as it did. -/
def settleStepsSpec : ChangeSpec := { name := "settleSteps", fn := fun _ => fun
  | [d1, d2, d3, d4, d5, d6] => { results := [.lit (.bool true)], args := [d1, d2, d3, d4, d5, d6] }
  | _ => none }
def settleStepsRow : OpenClaim := { program := "ytffbomfhihhmhaa", sum := "d4fefd4e9f0f82e43895382bcd3112d748724c563d60ec2bc379e828d022d161", func := "cohousing/cohousinglaw31.SettleSteps", spec := "settleSteps", unfollowed := true, recurses := true, apart := false }
def SettleStepsSaid : Prop := settleStepsRow.holds Try.pinned (OpenSpec.ofChange settleStepsSpec)

/-- ITS FALSE NEIGHBOUR: 'it returns false'. Refute it at one input. -/
def settleStepsWrong : ChangeSpec := { name := "settleSteps", fn := fun _ => fun
  | [d1, d2, d3, d4, d5, d6] => { results := [.lit (.bool false)], args := [d1, d2, d3, d4, d5, d6] }
  | _ => none }
def SettleStepsWrongFalsely : Prop := settleStepsRow.holds Try.pinned (OpenSpec.ofChange settleStepsWrong)

/-- 'cohousinglaw31.SettleSure': WHATEVER THE INPUT: true; the input reads as it did. -/
def settleSureSpec : ChangeSpec := { name := "settleSure", fn := fun _ => fun
  | [d1, d2, d3, d4] => { results := [.lit (.bool true)], args := [d1, d2, d3, d4] }
  | _ => none }
def settleSureRow : OpenClaim := { program := "ytffbomfhihhmhaa", sum := "d4fefd4e9f0f82e43895382bcd3112d748724c563d60ec2bc379e828d022d161", func := "cohousing/cohousinglaw31.SettleSure", spec := "settleSure", unfollowed := true, recurses := true, apart := false }
def SettleSureSaid : Prop := settleSureRow.holds Try.pinned (OpenSpec.ofChange settleSureSpec)

/-- ITS FALSE NEIGHBOUR: 'it returns false'. Refute it at one input. -/
def settleSureWrong : ChangeSpec := { name := "settleSure", fn := fun _ => fun
  | [d1, d2, d3, d4] => { results := [.lit (.bool false)], args := [d1, d2, d3, d4] }
  | _ => none }
def SettleSureWrongFalsely : Prop := settleSureRow.holds Try.pinned (OpenSpec.ofChange settleSureWrong)

/- THE SECOND FORM. 'bulk': how many values and letters a reading holds, each counted each time it is reached (what is shared counts as often as it is met; a slice's spare places count too). A statement '..UptoSaid' is the law's where the arguments, and the package variables that the reading takes, are together of bulk at most 1048576: NARROWER than '..Said'. Prove '..Said' where nothing that the law and all that it calls make is longer than what came in: it says more and counts as full. Else prove '..UptoSaid'. A law counts once. -/
mutual
def uptoBulk {H : Type} : DataW H → Nat
  | .lit (.string bytes) => bytes.length + 1
  | .lit _ => 1
  | .nil => 1
  | .ptr d => uptoBulk d + 1
  | .slice elems spare => uptoBulkAll elems + uptoBulkAll spare + 1
  | .agg parts => uptoBulkAll parts + 1
  | .iface _ d => uptoBulk d + 1
  | .map entries => uptoBulkEntries entries + 1
  | .held _ => 1
def uptoBulkAll {H : Type} : List (DataW H) → Nat
  | [] => 0
  | d :: r => uptoBulk d + uptoBulkAll r
def uptoBulkEntries {H : Type} : List (Lit × DataW H) → Nat
  | [] => 0
  | x :: r => uptoBulkEntry x + uptoBulkEntries r
def uptoBulkEntry {H : Type} : Lit × DataW H → Nat
  | (.string bytes, d) => bytes.length + uptoBulk d + 1
  | (_, d) => uptoBulk d + 1
 end
def uptoSmall : (H : Type) → List (DataW H) → Bool := fun _ ds => decide (uptoBulkAll ds ≤ 1048576)
def OpenSpec.upto (s : _root_.Go.ChangeSpec) : _root_.Go.OpenSpec := { _root_.Go.OpenSpec.ofChange s with cond := some uptoSmall }

/-- 'cohousinglaw31.SettleMatchesReference', WHERE WHAT IT READS IS OF BULK AT MOST 1048576: true; the input reads as it did. -/
def settleMatchesReferenceUptoRow : OpenClaim := { program := "ytffbomfhihhmhaa", sum := "d4fefd4e9f0f82e43895382bcd3112d748724c563d60ec2bc379e828d022d161", func := "cohousing/cohousinglaw31.SettleMatchesReference", spec := "settleMatchesReference", unfollowed := true, recurses := true, apart := false, narrowed := true }
def SettleMatchesReferenceUptoSaid : Prop := settleMatchesReferenceUptoRow.holds Try.pinned (OpenSpec.upto settleMatchesReferenceSpec)

/-- 'cohousinglaw31.SettleSums', WHERE WHAT IT READS IS OF BULK AT MOST 1048576: true; the input reads as it did. -/
def settleSumsUptoRow : OpenClaim := { program := "ytffbomfhihhmhaa", sum := "d4fefd4e9f0f82e43895382bcd3112d748724c563d60ec2bc379e828d022d161", func := "cohousing/cohousinglaw31.SettleSums", spec := "settleSums", unfollowed := true, recurses := true, apart := false, narrowed := true }
def SettleSumsUptoSaid : Prop := settleSumsUptoRow.holds Try.pinned (OpenSpec.upto settleSumsSpec)

/-- 'cohousinglaw31.SettleOrder', WHERE WHAT IT READS IS OF BULK AT MOST 1048576: true; the input reads as it did. -/
def settleOrderUptoRow : OpenClaim := { program := "ytffbomfhihhmhaa", sum := "d4fefd4e9f0f82e43895382bcd3112d748724c563d60ec2bc379e828d022d161", func := "cohousing/cohousinglaw31.SettleOrder", spec := "settleOrder", unfollowed := true, recurses := true, apart := false, narrowed := true }
def SettleOrderUptoSaid : Prop := settleOrderUptoRow.holds Try.pinned (OpenSpec.upto settleOrderSpec)

/-- 'cohousinglaw31.SettleSteps', WHERE WHAT IT READS IS OF BULK AT MOST 1048576: true; the input reads as it did. -/
def settleStepsUptoRow : OpenClaim := { program := "ytffbomfhihhmhaa", sum := "d4fefd4e9f0f82e43895382bcd3112d748724c563d60ec2bc379e828d022d161", func := "cohousing/cohousinglaw31.SettleSteps", spec := "settleSteps", unfollowed := true, recurses := true, apart := false, narrowed := true }
def SettleStepsUptoSaid : Prop := settleStepsUptoRow.holds Try.pinned (OpenSpec.upto settleStepsSpec)

/-- 'cohousinglaw31.SettleSure', WHERE WHAT IT READS IS OF BULK AT MOST 1048576: true; the input reads as it did. -/
def settleSureUptoRow : OpenClaim := { program := "ytffbomfhihhmhaa", sum := "d4fefd4e9f0f82e43895382bcd3112d748724c563d60ec2bc379e828d022d161", func := "cohousing/cohousinglaw31.SettleSure", spec := "settleSure", unfollowed := true, recurses := true, apart := false, narrowed := true }
def SettleSureUptoSaid : Prop := settleSureUptoRow.holds Try.pinned (OpenSpec.upto settleSureSpec)

end Rows
end Go.Proofs.Ytffbomfhihhmhaa
