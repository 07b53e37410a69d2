/-
  DERIVED. GIVEN WITH THE SEED: THE CARDS: each row of YtkaebblbmoolaaaDoorRows.lean that lists a variable, with what it lists TIED to the program's text (the seventh form; the later family's looks); each row that meets fmt, with fmt's text TOLD by the authors' own Lean function (tested against real Go, not proved from fmt's source: count such statements apart). THE CARD IS WHAT COUNTS. Prove the row's statement (the work); the ties are given (YtkaebblbmoolaaaDoorTie.lean); close each card by the builder's one call (the guide's Derived/Test/ToyasCard.lean, 'card_holds'). Laid BY PROGRAM, IN A SANDBOX (cutbox-door.mjs). By AI agents, Wed Nov 11 2026. No macro, syntax, notation, axiom, sorry.
-/
import Derived.Test.YtkaebblbmoolaaaDoorRows
import GoSem.ClaimSeven
namespace Go.Proofs.YtkaebblbmoolaaaDoor
namespace Rows

/-- THE TIED CARD OF 'cohousinglaw40.BallotMatchesReference'. -/
def ballotMatchesReferenceCard : Claim7 := { stood := { row := ballotMatchesReferenceRow, standIns := [], harness := (true, "724e7fb86f5ab34938a1ca92c889dc6ddad04bc1f6bfa653c1f5900588ee0d27"), looks := false }, kinds := [], alts := [], laidByText := true, laidKinds := [.data, .data, .data], laidTests := true, laidLooks := .later }
def BallotMatchesReferenceCardSaid : Prop := Claim7.holds Tryd.pinned (.plain (OpenSpec.ofChange ballotMatchesReferenceSpec)) ballotMatchesReferenceCard

/-- THE TIED CARD OF 'cohousinglaw40.BallotOpens'. -/
def ballotOpensCard : Claim7 := { stood := { row := ballotOpensRow, standIns := [], harness := (true, "724e7fb86f5ab34938a1ca92c889dc6ddad04bc1f6bfa653c1f5900588ee0d27"), looks := false }, kinds := [], alts := [], laidByText := true, laidKinds := [.data, .data, .data], laidTests := true, laidLooks := .later }
def BallotOpensCardSaid : Prop := Claim7.holds Tryd.pinned (.plain (OpenSpec.ofChange ballotOpensSpec)) ballotOpensCard

/-- THE TIED CARD OF 'cohousinglaw40.BallotAgain'. -/
def ballotAgainCard : Claim7 := { stood := { row := ballotAgainRow, standIns := [], harness := (true, "724e7fb86f5ab34938a1ca92c889dc6ddad04bc1f6bfa653c1f5900588ee0d27"), looks := false }, kinds := [], alts := [], laidByText := true, laidKinds := [.data, .data, .data], laidTests := true, laidLooks := .later }
def BallotAgainCardSaid : Prop := Claim7.holds Tryd.pinned (.plain (OpenSpec.ofChange ballotAgainSpec)) ballotAgainCard

/-- THE TIED CARD OF 'cohousinglaw40.BallotMixes'. -/
def ballotMixesCard : Claim7 := { stood := { row := ballotMixesRow, standIns := [], harness := (true, "724e7fb86f5ab34938a1ca92c889dc6ddad04bc1f6bfa653c1f5900588ee0d27"), looks := false }, kinds := [], alts := [], laidByText := true, laidKinds := [.data, .data, .data], laidTests := true, laidLooks := .later }
def BallotMixesCardSaid : Prop := Claim7.holds Tryd.pinned (.plain (OpenSpec.ofChange ballotMixesSpec)) ballotMixesCard

/-- THE TIED CARD OF 'cohousinglaw40.BallotLinks'. -/
def ballotLinksCard : Claim7 := { stood := { row := ballotLinksRow, standIns := [], harness := (true, "724e7fb86f5ab34938a1ca92c889dc6ddad04bc1f6bfa653c1f5900588ee0d27"), looks := false }, kinds := [], alts := [], laidByText := true, laidKinds := [.data, .data, .data], laidTests := true, laidLooks := .later }
def BallotLinksCardSaid : Prop := Claim7.holds Tryd.pinned (.plain (OpenSpec.ofChange ballotLinksSpec)) ballotLinksCard

/-- THE TIED CARD OF 'cohousinglaw40.BallotTampers'. -/
def ballotTampersCard : Claim7 := { stood := { row := ballotTampersRow, standIns := [], harness := (true, "724e7fb86f5ab34938a1ca92c889dc6ddad04bc1f6bfa653c1f5900588ee0d27"), looks := false }, kinds := [], alts := [], laidByText := true, laidKinds := [.data, .data, .data], laidTests := true, laidLooks := .later }
def BallotTampersCardSaid : Prop := Claim7.holds Tryd.pinned (.plain (OpenSpec.ofChange ballotTampersSpec)) ballotTampersCard

/-- THE SECOND FORM's CARD OF 'cohousinglaw40.BallotMatchesReference'. -/
def ballotMatchesReferenceUptoCard : Claim7 := { stood := { row := ballotMatchesReferenceUptoRow, standIns := [], harness := (true, "724e7fb86f5ab34938a1ca92c889dc6ddad04bc1f6bfa653c1f5900588ee0d27"), looks := false }, kinds := [], alts := [], laidByText := true, laidKinds := [.data, .data, .data], laidTests := true, laidLooks := .later }
def BallotMatchesReferenceUptoCardSaid : Prop := Claim7.holds Tryd.pinned (.plain (OpenSpec.upto ballotMatchesReferenceSpec)) ballotMatchesReferenceUptoCard

/-- THE SECOND FORM's CARD OF 'cohousinglaw40.BallotOpens'. -/
def ballotOpensUptoCard : Claim7 := { stood := { row := ballotOpensUptoRow, standIns := [], harness := (true, "724e7fb86f5ab34938a1ca92c889dc6ddad04bc1f6bfa653c1f5900588ee0d27"), looks := false }, kinds := [], alts := [], laidByText := true, laidKinds := [.data, .data, .data], laidTests := true, laidLooks := .later }
def BallotOpensUptoCardSaid : Prop := Claim7.holds Tryd.pinned (.plain (OpenSpec.upto ballotOpensSpec)) ballotOpensUptoCard

/-- THE SECOND FORM's CARD OF 'cohousinglaw40.BallotAgain'. -/
def ballotAgainUptoCard : Claim7 := { stood := { row := ballotAgainUptoRow, standIns := [], harness := (true, "724e7fb86f5ab34938a1ca92c889dc6ddad04bc1f6bfa653c1f5900588ee0d27"), looks := false }, kinds := [], alts := [], laidByText := true, laidKinds := [.data, .data, .data], laidTests := true, laidLooks := .later }
def BallotAgainUptoCardSaid : Prop := Claim7.holds Tryd.pinned (.plain (OpenSpec.upto ballotAgainSpec)) ballotAgainUptoCard

/-- THE SECOND FORM's CARD OF 'cohousinglaw40.BallotMixes'. -/
def ballotMixesUptoCard : Claim7 := { stood := { row := ballotMixesUptoRow, standIns := [], harness := (true, "724e7fb86f5ab34938a1ca92c889dc6ddad04bc1f6bfa653c1f5900588ee0d27"), looks := false }, kinds := [], alts := [], laidByText := true, laidKinds := [.data, .data, .data], laidTests := true, laidLooks := .later }
def BallotMixesUptoCardSaid : Prop := Claim7.holds Tryd.pinned (.plain (OpenSpec.upto ballotMixesSpec)) ballotMixesUptoCard

/-- THE SECOND FORM's CARD OF 'cohousinglaw40.BallotLinks'. -/
def ballotLinksUptoCard : Claim7 := { stood := { row := ballotLinksUptoRow, standIns := [], harness := (true, "724e7fb86f5ab34938a1ca92c889dc6ddad04bc1f6bfa653c1f5900588ee0d27"), looks := false }, kinds := [], alts := [], laidByText := true, laidKinds := [.data, .data, .data], laidTests := true, laidLooks := .later }
def BallotLinksUptoCardSaid : Prop := Claim7.holds Tryd.pinned (.plain (OpenSpec.upto ballotLinksSpec)) ballotLinksUptoCard

/-- THE SECOND FORM's CARD OF 'cohousinglaw40.BallotTampers'. -/
def ballotTampersUptoCard : Claim7 := { stood := { row := ballotTampersUptoRow, standIns := [], harness := (true, "724e7fb86f5ab34938a1ca92c889dc6ddad04bc1f6bfa653c1f5900588ee0d27"), looks := false }, kinds := [], alts := [], laidByText := true, laidKinds := [.data, .data, .data], laidTests := true, laidLooks := .later }
def BallotTampersUptoCardSaid : Prop := Claim7.holds Tryd.pinned (.plain (OpenSpec.upto ballotTampersSpec)) ballotTampersUptoCard
end Rows
end Go.Proofs.YtkaebblbmoolaaaDoor
