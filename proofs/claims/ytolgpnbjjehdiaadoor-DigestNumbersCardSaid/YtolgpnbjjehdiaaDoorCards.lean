/-
  DERIVED. GIVEN WITH THE SEED: THE CARDS: each row of YtolgpnbjjehdiaaDoorRows.lean that lists a variable, with what it lists TIED to the program's text (the seventh form; the later family's looks); each row that meets fmt, with fmt's text TOLD by the authors' own Lean function (tested against real Go, not proved from fmt's source: count such statements apart). THE CARD IS WHAT COUNTS. Prove the row's statement (the work); the ties are given (YtolgpnbjjehdiaaDoorTie.lean); close each card by the builder's one call (the guide's Derived/Test/ToyasCard.lean, 'card_holds'). Laid BY PROGRAM, IN A SANDBOX (cutbox-door.mjs). By AI agents, Wed Nov 11 2026. No macro, syntax, notation, axiom, sorry.
-/
import Derived.Test.YtolgpnbjjehdiaaDoorRows
import GoSem.ClaimSeven
namespace Go.Proofs.YtolgpnbjjehdiaaDoor
namespace Rows

/-- THE TIED CARD OF 'cohousinglaw06.DigestMatchesReference'. -/
def digestMatchesReferenceCard : Claim7 := { stood := { row := digestMatchesReferenceRow, standIns := [], harness := (true, "5f2676687bc6fcf9dbfae6924f65d5c7ef9de57593533f0f7b62a17b2c02ed82"), looks := false }, kinds := [], alts := [], laidByText := true, laidKinds := [.data, .data, .data], laidTests := true, laidLooks := .later }
def DigestMatchesReferenceCardSaid : Prop := Claim7.holds Tryd.pinned (.plain (OpenSpec.ofChange digestMatchesReferenceSpec)) digestMatchesReferenceCard

/-- THE TIED CARD OF 'cohousinglaw06.DigestOneByte'. -/
def digestOneByteCard : Claim7 := { stood := { row := digestOneByteRow, standIns := [], harness := (true, "5f2676687bc6fcf9dbfae6924f65d5c7ef9de57593533f0f7b62a17b2c02ed82"), looks := false }, kinds := [], alts := [], laidByText := true, laidKinds := [.data, .data, .data], laidTests := true, laidLooks := .later }
def DigestOneByteCardSaid : Prop := Claim7.holds Tryd.pinned (.plain (OpenSpec.ofChange digestOneByteSpec)) digestOneByteCard

/-- THE TIED CARD OF 'cohousinglaw06.DigestNumbers'. -/
def digestNumbersCard : Claim7 := { stood := { row := digestNumbersRow, standIns := [], harness := (true, "5f2676687bc6fcf9dbfae6924f65d5c7ef9de57593533f0f7b62a17b2c02ed82"), looks := false }, kinds := [], alts := [], laidByText := true, laidKinds := [.data, .data, .data], laidTests := true, laidLooks := .later }
def DigestNumbersCardSaid : Prop := Claim7.holds Tryd.pinned (.plain (OpenSpec.ofChange digestNumbersSpec)) digestNumbersCard

/-- THE TIED CARD OF 'cohousinglaw06.DigestTree'. -/
def digestTreeCard : Claim7 := { stood := { row := digestTreeRow, standIns := [], harness := (true, "5f2676687bc6fcf9dbfae6924f65d5c7ef9de57593533f0f7b62a17b2c02ed82"), looks := false }, kinds := [], alts := [], laidByText := true, laidKinds := [.data, .data, .data], laidTests := true, laidLooks := .later }
def DigestTreeCardSaid : Prop := Claim7.holds Tryd.pinned (.plain (OpenSpec.ofChange digestTreeSpec)) digestTreeCard

/-- THE TIED CARD OF 'cohousinglaw06.DigestPath'. -/
def digestPathCard : Claim7 := { stood := { row := digestPathRow, standIns := [], harness := (true, "5f2676687bc6fcf9dbfae6924f65d5c7ef9de57593533f0f7b62a17b2c02ed82"), looks := false }, kinds := [], alts := [], laidByText := true, laidKinds := [.data, .data, .data], laidTests := true, laidLooks := .later }
def DigestPathCardSaid : Prop := Claim7.holds Tryd.pinned (.plain (OpenSpec.ofChange digestPathSpec)) digestPathCard

/-- THE TIED CARD OF 'cohousinglaw06.DigestBinding'. -/
def digestBindingCard : Claim7 := { stood := { row := digestBindingRow, standIns := [], harness := (true, "5f2676687bc6fcf9dbfae6924f65d5c7ef9de57593533f0f7b62a17b2c02ed82"), looks := false }, kinds := [], alts := [], laidByText := true, laidKinds := [.data, .data, .data], laidTests := true, laidLooks := .later }
def DigestBindingCardSaid : Prop := Claim7.holds Tryd.pinned (.plain (OpenSpec.ofChange digestBindingSpec)) digestBindingCard

/-- THE TIED CARD OF 'cohousinglaw06.DigestShape'. -/
def digestShapeCard : Claim7 := { stood := { row := digestShapeRow, standIns := [], harness := (true, "5f2676687bc6fcf9dbfae6924f65d5c7ef9de57593533f0f7b62a17b2c02ed82"), looks := false }, kinds := [], alts := [], laidByText := true, laidKinds := [.data, .data, .data], laidTests := true, laidLooks := .later }
def DigestShapeCardSaid : Prop := Claim7.holds Tryd.pinned (.plain (OpenSpec.ofChange digestShapeSpec)) digestShapeCard

/-- THE SECOND FORM's CARD OF 'cohousinglaw06.DigestMatchesReference'. -/
def digestMatchesReferenceUptoCard : Claim7 := { stood := { row := digestMatchesReferenceUptoRow, standIns := [], harness := (true, "5f2676687bc6fcf9dbfae6924f65d5c7ef9de57593533f0f7b62a17b2c02ed82"), looks := false }, kinds := [], alts := [], laidByText := true, laidKinds := [.data, .data, .data], laidTests := true, laidLooks := .later }
def DigestMatchesReferenceUptoCardSaid : Prop := Claim7.holds Tryd.pinned (.plain (OpenSpec.upto digestMatchesReferenceSpec)) digestMatchesReferenceUptoCard

/-- THE SECOND FORM's CARD OF 'cohousinglaw06.DigestOneByte'. -/
def digestOneByteUptoCard : Claim7 := { stood := { row := digestOneByteUptoRow, standIns := [], harness := (true, "5f2676687bc6fcf9dbfae6924f65d5c7ef9de57593533f0f7b62a17b2c02ed82"), looks := false }, kinds := [], alts := [], laidByText := true, laidKinds := [.data, .data, .data], laidTests := true, laidLooks := .later }
def DigestOneByteUptoCardSaid : Prop := Claim7.holds Tryd.pinned (.plain (OpenSpec.upto digestOneByteSpec)) digestOneByteUptoCard

/-- THE SECOND FORM's CARD OF 'cohousinglaw06.DigestNumbers'. -/
def digestNumbersUptoCard : Claim7 := { stood := { row := digestNumbersUptoRow, standIns := [], harness := (true, "5f2676687bc6fcf9dbfae6924f65d5c7ef9de57593533f0f7b62a17b2c02ed82"), looks := false }, kinds := [], alts := [], laidByText := true, laidKinds := [.data, .data, .data], laidTests := true, laidLooks := .later }
def DigestNumbersUptoCardSaid : Prop := Claim7.holds Tryd.pinned (.plain (OpenSpec.upto digestNumbersSpec)) digestNumbersUptoCard

/-- THE SECOND FORM's CARD OF 'cohousinglaw06.DigestTree'. -/
def digestTreeUptoCard : Claim7 := { stood := { row := digestTreeUptoRow, standIns := [], harness := (true, "5f2676687bc6fcf9dbfae6924f65d5c7ef9de57593533f0f7b62a17b2c02ed82"), looks := false }, kinds := [], alts := [], laidByText := true, laidKinds := [.data, .data, .data], laidTests := true, laidLooks := .later }
def DigestTreeUptoCardSaid : Prop := Claim7.holds Tryd.pinned (.plain (OpenSpec.upto digestTreeSpec)) digestTreeUptoCard

/-- THE SECOND FORM's CARD OF 'cohousinglaw06.DigestPath'. -/
def digestPathUptoCard : Claim7 := { stood := { row := digestPathUptoRow, standIns := [], harness := (true, "5f2676687bc6fcf9dbfae6924f65d5c7ef9de57593533f0f7b62a17b2c02ed82"), looks := false }, kinds := [], alts := [], laidByText := true, laidKinds := [.data, .data, .data], laidTests := true, laidLooks := .later }
def DigestPathUptoCardSaid : Prop := Claim7.holds Tryd.pinned (.plain (OpenSpec.upto digestPathSpec)) digestPathUptoCard

/-- THE SECOND FORM's CARD OF 'cohousinglaw06.DigestBinding'. -/
def digestBindingUptoCard : Claim7 := { stood := { row := digestBindingUptoRow, standIns := [], harness := (true, "5f2676687bc6fcf9dbfae6924f65d5c7ef9de57593533f0f7b62a17b2c02ed82"), looks := false }, kinds := [], alts := [], laidByText := true, laidKinds := [.data, .data, .data], laidTests := true, laidLooks := .later }
def DigestBindingUptoCardSaid : Prop := Claim7.holds Tryd.pinned (.plain (OpenSpec.upto digestBindingSpec)) digestBindingUptoCard

/-- THE SECOND FORM's CARD OF 'cohousinglaw06.DigestShape'. -/
def digestShapeUptoCard : Claim7 := { stood := { row := digestShapeUptoRow, standIns := [], harness := (true, "5f2676687bc6fcf9dbfae6924f65d5c7ef9de57593533f0f7b62a17b2c02ed82"), looks := false }, kinds := [], alts := [], laidByText := true, laidKinds := [.data, .data, .data], laidTests := true, laidLooks := .later }
def DigestShapeUptoCardSaid : Prop := Claim7.holds Tryd.pinned (.plain (OpenSpec.upto digestShapeSpec)) digestShapeUptoCard
end Rows
end Go.Proofs.YtolgpnbjjehdiaaDoor
