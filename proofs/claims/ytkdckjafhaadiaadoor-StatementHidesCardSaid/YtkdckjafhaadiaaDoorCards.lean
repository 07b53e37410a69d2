/-
  DERIVED. GIVEN WITH THE SEED: THE CARDS: each row of YtkdckjafhaadiaaDoorRows.lean that lists a variable, with what it lists TIED to the program's text (the seventh form; the later family's looks); each row that meets fmt, with fmt's text TOLD by the authors' own Lean function (tested against real Go, not proved from fmt's source: count such statements apart). THE CARD IS WHAT COUNTS. Prove the row's statement (the work); the ties are given (YtkdckjafhaadiaaDoorTie.lean); close each card by the builder's one call (the guide's Derived/Test/ToyasCard.lean, 'card_holds'). Laid BY PROGRAM, IN A SANDBOX (cutbox-door.mjs). By AI agents, Wed Nov 11 2026. No macro, syntax, notation, axiom, sorry.
-/
import Derived.Test.YtkdckjafhaadiaaDoorRows
import GoSem.ClaimSeven
namespace Go.Proofs.YtkdckjafhaadiaaDoor
namespace Rows

/-- THE TIED CARD OF 'cohousinglaw43.StatementBelongs'. -/
def statementBelongsCard : Claim7 := { stood := { row := statementBelongsRow, standIns := [], harness := (true, "45baa7df008905c15cca10a23494e5e8f2bc7fa9b1635a49328d91865f8bbc73"), looks := false }, kinds := [], alts := [], laidByText := true, laidKinds := [.data, .data, .data], laidTests := true, laidLooks := .later }
def StatementBelongsCardSaid : Prop := Claim7.holds Tryd.pinned (.plain (OpenSpec.ofChange statementBelongsSpec)) statementBelongsCard

/-- THE TIED CARD OF 'cohousinglaw43.StatementApart'. -/
def statementApartCard : Claim7 := { stood := { row := statementApartRow, standIns := [], harness := (true, "45baa7df008905c15cca10a23494e5e8f2bc7fa9b1635a49328d91865f8bbc73"), looks := false }, kinds := [], alts := [], laidByText := true, laidKinds := [.data, .data, .data], laidTests := true, laidLooks := .later }
def StatementApartCardSaid : Prop := Claim7.holds Tryd.pinned (.plain (OpenSpec.ofChange statementApartSpec)) statementApartCard

/-- THE TIED CARD OF 'cohousinglaw43.StatementSums'. -/
def statementSumsCard : Claim7 := { stood := { row := statementSumsRow, standIns := [], harness := (true, "45baa7df008905c15cca10a23494e5e8f2bc7fa9b1635a49328d91865f8bbc73"), looks := false }, kinds := [], alts := [], laidByText := true, laidKinds := [.data, .data, .data], laidTests := true, laidLooks := .later }
def StatementSumsCardSaid : Prop := Claim7.holds Tryd.pinned (.plain (OpenSpec.ofChange statementSumsSpec)) statementSumsCard

/-- THE TIED CARD OF 'cohousinglaw43.StatementHides'. -/
def statementHidesCard : Claim7 := { stood := { row := statementHidesRow, standIns := [], harness := (true, "45baa7df008905c15cca10a23494e5e8f2bc7fa9b1635a49328d91865f8bbc73"), looks := false }, kinds := [], alts := [], laidByText := true, laidKinds := [.data, .data, .data], laidTests := true, laidLooks := .later }
def StatementHidesCardSaid : Prop := Claim7.holds Tryd.pinned (.plain (OpenSpec.ofChange statementHidesSpec)) statementHidesCard

/-- THE SECOND FORM's CARD OF 'cohousinglaw43.StatementBelongs'. -/
def statementBelongsUptoCard : Claim7 := { stood := { row := statementBelongsUptoRow, standIns := [], harness := (true, "45baa7df008905c15cca10a23494e5e8f2bc7fa9b1635a49328d91865f8bbc73"), looks := false }, kinds := [], alts := [], laidByText := true, laidKinds := [.data, .data, .data], laidTests := true, laidLooks := .later }
def StatementBelongsUptoCardSaid : Prop := Claim7.holds Tryd.pinned (.plain (OpenSpec.upto statementBelongsSpec)) statementBelongsUptoCard

/-- THE SECOND FORM's CARD OF 'cohousinglaw43.StatementApart'. -/
def statementApartUptoCard : Claim7 := { stood := { row := statementApartUptoRow, standIns := [], harness := (true, "45baa7df008905c15cca10a23494e5e8f2bc7fa9b1635a49328d91865f8bbc73"), looks := false }, kinds := [], alts := [], laidByText := true, laidKinds := [.data, .data, .data], laidTests := true, laidLooks := .later }
def StatementApartUptoCardSaid : Prop := Claim7.holds Tryd.pinned (.plain (OpenSpec.upto statementApartSpec)) statementApartUptoCard

/-- THE SECOND FORM's CARD OF 'cohousinglaw43.StatementSums'. -/
def statementSumsUptoCard : Claim7 := { stood := { row := statementSumsUptoRow, standIns := [], harness := (true, "45baa7df008905c15cca10a23494e5e8f2bc7fa9b1635a49328d91865f8bbc73"), looks := false }, kinds := [], alts := [], laidByText := true, laidKinds := [.data, .data, .data], laidTests := true, laidLooks := .later }
def StatementSumsUptoCardSaid : Prop := Claim7.holds Tryd.pinned (.plain (OpenSpec.upto statementSumsSpec)) statementSumsUptoCard

/-- THE SECOND FORM's CARD OF 'cohousinglaw43.StatementHides'. -/
def statementHidesUptoCard : Claim7 := { stood := { row := statementHidesUptoRow, standIns := [], harness := (true, "45baa7df008905c15cca10a23494e5e8f2bc7fa9b1635a49328d91865f8bbc73"), looks := false }, kinds := [], alts := [], laidByText := true, laidKinds := [.data, .data, .data], laidTests := true, laidLooks := .later }
def StatementHidesUptoCardSaid : Prop := Claim7.holds Tryd.pinned (.plain (OpenSpec.upto statementHidesSpec)) statementHidesUptoCard
end Rows
end Go.Proofs.YtkdckjafhaadiaaDoor
