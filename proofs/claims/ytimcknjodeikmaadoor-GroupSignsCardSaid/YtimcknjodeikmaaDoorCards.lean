/-
  DERIVED. GIVEN WITH THE SEED: THE CARDS: each row of YtimcknjodeikmaaDoorRows.lean that lists a variable, with what it lists TIED to the program's text (the seventh form; the later family's looks); each row that meets fmt, with fmt's text TOLD by the authors' own Lean function (tested against real Go, not proved from fmt's source: count such statements apart). THE CARD IS WHAT COUNTS. Prove the row's statement (the work); the ties are given (YtimcknjodeikmaaDoorTie.lean); close each card by the builder's one call (the guide's Derived/Test/ToyasCard.lean, 'card_holds'). Laid BY PROGRAM, IN A SANDBOX (cutbox-door.mjs). By AI agents, Wed Nov 11 2026. No macro, syntax, notation, axiom, sorry.
-/
import Derived.Test.YtimcknjodeikmaaDoorRows
import GoSem.ClaimSeven
namespace Go.Proofs.YtimcknjodeikmaaDoor
namespace Rows

/-- THE TIED CARD OF 'cohousinglaw08.GroupMatchesReference'. -/
def groupMatchesReferenceCard : Claim7 := { stood := { row := groupMatchesReferenceRow, standIns := [], harness := (true, "ecc7fcc30b7c210339517422c9a97f6581b00d2fe6b56d8a11637f29b0817de5"), looks := false }, kinds := [], alts := [], laidByText := true, laidKinds := [.data, .data, .data], laidTests := true, laidLooks := .later }
def GroupMatchesReferenceCardSaid : Prop := Claim7.holds Tryd.pinned (.plain (OpenSpec.ofChange groupMatchesReferenceSpec)) groupMatchesReferenceCard

/-- THE TIED CARD OF 'cohousinglaw08.GroupProducts'. -/
def groupProductsCard : Claim7 := { stood := { row := groupProductsRow, standIns := [], harness := (true, "ecc7fcc30b7c210339517422c9a97f6581b00d2fe6b56d8a11637f29b0817de5"), looks := false }, kinds := [], alts := [], laidByText := true, laidKinds := [.data, .data, .data], laidTests := true, laidLooks := .later }
def GroupProductsCardSaid : Prop := Claim7.holds Tryd.pinned (.plain (OpenSpec.ofChange groupProductsSpec)) groupProductsCard

/-- THE TIED CARD OF 'cohousinglaw08.GroupCommits'. -/
def groupCommitsCard : Claim7 := { stood := { row := groupCommitsRow, standIns := [], harness := (true, "ecc7fcc30b7c210339517422c9a97f6581b00d2fe6b56d8a11637f29b0817de5"), looks := false }, kinds := [], alts := [], laidByText := true, laidKinds := [.data, .data, .data], laidTests := true, laidLooks := .later }
def GroupCommitsCardSaid : Prop := Claim7.holds Tryd.pinned (.plain (OpenSpec.ofChange groupCommitsSpec)) groupCommitsCard

/-- THE TIED CARD OF 'cohousinglaw08.GroupHides'. -/
def groupHidesCard : Claim7 := { stood := { row := groupHidesRow, standIns := [], harness := (true, "ecc7fcc30b7c210339517422c9a97f6581b00d2fe6b56d8a11637f29b0817de5"), looks := false }, kinds := [], alts := [], laidByText := true, laidKinds := [.data, .data, .data], laidTests := true, laidLooks := .later }
def GroupHidesCardSaid : Prop := Claim7.holds Tryd.pinned (.plain (OpenSpec.ofChange groupHidesSpec)) groupHidesCard

/-- THE TIED CARD OF 'cohousinglaw08.GroupSigns'. -/
def groupSignsCard : Claim7 := { stood := { row := groupSignsRow, standIns := [], harness := (true, "ecc7fcc30b7c210339517422c9a97f6581b00d2fe6b56d8a11637f29b0817de5"), looks := false }, kinds := [], alts := [], laidByText := true, laidKinds := [.data, .data, .data], laidTests := true, laidLooks := .later }
def GroupSignsCardSaid : Prop := Claim7.holds Tryd.pinned (.plain (OpenSpec.ofChange groupSignsSpec)) groupSignsCard

/-- THE TIED CARD OF 'cohousinglaw08.GroupSame'. -/
def groupSameCard : Claim7 := { stood := { row := groupSameRow, standIns := [], harness := (true, "ecc7fcc30b7c210339517422c9a97f6581b00d2fe6b56d8a11637f29b0817de5"), looks := false }, kinds := [], alts := [], laidByText := true, laidKinds := [.data, .data, .data], laidTests := true, laidLooks := .later }
def GroupSameCardSaid : Prop := Claim7.holds Tryd.pinned (.plain (OpenSpec.ofChange groupSameSpec)) groupSameCard

/-- THE TIED CARD OF 'cohousinglaw08.GroupExtracts'. -/
def groupExtractsCard : Claim7 := { stood := { row := groupExtractsRow, standIns := [], harness := (true, "ecc7fcc30b7c210339517422c9a97f6581b00d2fe6b56d8a11637f29b0817de5"), looks := false }, kinds := [], alts := [], laidByText := true, laidKinds := [.data, .data, .data], laidTests := true, laidLooks := .later }
def GroupExtractsCardSaid : Prop := Claim7.holds Tryd.pinned (.plain (OpenSpec.ofChange groupExtractsSpec)) groupExtractsCard

/-- THE SECOND FORM's CARD OF 'cohousinglaw08.GroupMatchesReference'. -/
def groupMatchesReferenceUptoCard : Claim7 := { stood := { row := groupMatchesReferenceUptoRow, standIns := [], harness := (true, "ecc7fcc30b7c210339517422c9a97f6581b00d2fe6b56d8a11637f29b0817de5"), looks := false }, kinds := [], alts := [], laidByText := true, laidKinds := [.data, .data, .data], laidTests := true, laidLooks := .later }
def GroupMatchesReferenceUptoCardSaid : Prop := Claim7.holds Tryd.pinned (.plain (OpenSpec.upto groupMatchesReferenceSpec)) groupMatchesReferenceUptoCard

/-- THE SECOND FORM's CARD OF 'cohousinglaw08.GroupProducts'. -/
def groupProductsUptoCard : Claim7 := { stood := { row := groupProductsUptoRow, standIns := [], harness := (true, "ecc7fcc30b7c210339517422c9a97f6581b00d2fe6b56d8a11637f29b0817de5"), looks := false }, kinds := [], alts := [], laidByText := true, laidKinds := [.data, .data, .data], laidTests := true, laidLooks := .later }
def GroupProductsUptoCardSaid : Prop := Claim7.holds Tryd.pinned (.plain (OpenSpec.upto groupProductsSpec)) groupProductsUptoCard

/-- THE SECOND FORM's CARD OF 'cohousinglaw08.GroupCommits'. -/
def groupCommitsUptoCard : Claim7 := { stood := { row := groupCommitsUptoRow, standIns := [], harness := (true, "ecc7fcc30b7c210339517422c9a97f6581b00d2fe6b56d8a11637f29b0817de5"), looks := false }, kinds := [], alts := [], laidByText := true, laidKinds := [.data, .data, .data], laidTests := true, laidLooks := .later }
def GroupCommitsUptoCardSaid : Prop := Claim7.holds Tryd.pinned (.plain (OpenSpec.upto groupCommitsSpec)) groupCommitsUptoCard

/-- THE SECOND FORM's CARD OF 'cohousinglaw08.GroupHides'. -/
def groupHidesUptoCard : Claim7 := { stood := { row := groupHidesUptoRow, standIns := [], harness := (true, "ecc7fcc30b7c210339517422c9a97f6581b00d2fe6b56d8a11637f29b0817de5"), looks := false }, kinds := [], alts := [], laidByText := true, laidKinds := [.data, .data, .data], laidTests := true, laidLooks := .later }
def GroupHidesUptoCardSaid : Prop := Claim7.holds Tryd.pinned (.plain (OpenSpec.upto groupHidesSpec)) groupHidesUptoCard

/-- THE SECOND FORM's CARD OF 'cohousinglaw08.GroupSigns'. -/
def groupSignsUptoCard : Claim7 := { stood := { row := groupSignsUptoRow, standIns := [], harness := (true, "ecc7fcc30b7c210339517422c9a97f6581b00d2fe6b56d8a11637f29b0817de5"), looks := false }, kinds := [], alts := [], laidByText := true, laidKinds := [.data, .data, .data], laidTests := true, laidLooks := .later }
def GroupSignsUptoCardSaid : Prop := Claim7.holds Tryd.pinned (.plain (OpenSpec.upto groupSignsSpec)) groupSignsUptoCard

/-- THE SECOND FORM's CARD OF 'cohousinglaw08.GroupSame'. -/
def groupSameUptoCard : Claim7 := { stood := { row := groupSameUptoRow, standIns := [], harness := (true, "ecc7fcc30b7c210339517422c9a97f6581b00d2fe6b56d8a11637f29b0817de5"), looks := false }, kinds := [], alts := [], laidByText := true, laidKinds := [.data, .data, .data], laidTests := true, laidLooks := .later }
def GroupSameUptoCardSaid : Prop := Claim7.holds Tryd.pinned (.plain (OpenSpec.upto groupSameSpec)) groupSameUptoCard

/-- THE SECOND FORM's CARD OF 'cohousinglaw08.GroupExtracts'. -/
def groupExtractsUptoCard : Claim7 := { stood := { row := groupExtractsUptoRow, standIns := [], harness := (true, "ecc7fcc30b7c210339517422c9a97f6581b00d2fe6b56d8a11637f29b0817de5"), looks := false }, kinds := [], alts := [], laidByText := true, laidKinds := [.data, .data, .data], laidTests := true, laidLooks := .later }
def GroupExtractsUptoCardSaid : Prop := Claim7.holds Tryd.pinned (.plain (OpenSpec.upto groupExtractsSpec)) groupExtractsUptoCard
end Rows
end Go.Proofs.YtimcknjodeikmaaDoor
