/-
  DERIVED. GIVEN WITH THE SEED: THE CARDS: each row of YtcnkenknbmmglaaDoorRows.lean that lists a variable, with what it lists TIED to the program's text (the seventh form; the later family's looks); each row that meets fmt, with fmt's text TOLD by the authors' own Lean function (tested against real Go, not proved from fmt's source: count such statements apart). THE CARD IS WHAT COUNTS. Prove the row's statement (the work); the ties are given (YtcnkenknbmmglaaDoorTie.lean); close each card by the builder's one call (the guide's Derived/Test/ToyasCard.lean, 'card_holds'). Laid BY PROGRAM, IN A SANDBOX (cutbox-door.mjs). By AI agents, Wed Nov 11 2026. No macro, syntax, notation, axiom, sorry.
-/
import Derived.Test.YtcnkenknbmmglaaDoorRows
import GoSem.ClaimSeven
namespace Go.Proofs.YtcnkenknbmmglaaDoor
namespace Rows

/-- THE TIED CARD OF 'cohousinglaw20.KeysMatchesReference'. -/
def keysMatchesReferenceCard : Claim7 := { stood := { row := keysMatchesReferenceRow, standIns := [], harness := (true, "30fae89b500c226012f781f54accd871247366aa1ff04491c318cf738a839535"), looks := false }, kinds := [], alts := [], laidByText := true, laidKinds := [.data, .data, .data], laidTests := true, laidLooks := .later }
def KeysMatchesReferenceCardSaid : Prop := Claim7.holds Tryd.pinned (.plain (OpenSpec.ofChange keysMatchesReferenceSpec)) keysMatchesReferenceCard

/-- THE TIED CARD OF 'cohousinglaw20.KeysHistory'. -/
def keysHistoryCard : Claim7 := { stood := { row := keysHistoryRow, standIns := [], harness := (true, "30fae89b500c226012f781f54accd871247366aa1ff04491c318cf738a839535"), looks := false }, kinds := [], alts := [], laidByText := true, laidKinds := [.data, .data, .data], laidTests := true, laidLooks := .later }
def KeysHistoryCardSaid : Prop := Claim7.holds Tryd.pinned (.plain (OpenSpec.ofChange keysHistorySpec)) keysHistoryCard

/-- THE TIED CARD OF 'cohousinglaw20.KeysEnough'. -/
def keysEnoughCard : Claim7 := { stood := { row := keysEnoughRow, standIns := [], harness := (true, "30fae89b500c226012f781f54accd871247366aa1ff04491c318cf738a839535"), looks := false }, kinds := [], alts := [], laidByText := true, laidKinds := [.data, .data, .data], laidTests := true, laidLooks := .later }
def KeysEnoughCardSaid : Prop := Claim7.holds Tryd.pinned (.plain (OpenSpec.ofChange keysEnoughSpec)) keysEnoughCard

/-- THE TIED CARD OF 'cohousinglaw20.KeysOthers'. -/
def keysOthersCard : Claim7 := { stood := { row := keysOthersRow, standIns := [], harness := (true, "30fae89b500c226012f781f54accd871247366aa1ff04491c318cf738a839535"), looks := false }, kinds := [], alts := [], laidByText := true, laidKinds := [.data, .data, .data], laidTests := true, laidLooks := .later }
def KeysOthersCardSaid : Prop := Claim7.holds Tryd.pinned (.plain (OpenSpec.ofChange keysOthersSpec)) keysOthersCard

/-- THE TIED CARD OF 'cohousinglaw20.KeysChain'. -/
def keysChainCard : Claim7 := { stood := { row := keysChainRow, standIns := [], harness := (true, "30fae89b500c226012f781f54accd871247366aa1ff04491c318cf738a839535"), looks := false }, kinds := [], alts := [], laidByText := true, laidKinds := [.data, .data, .data], laidTests := true, laidLooks := .later }
def KeysChainCardSaid : Prop := Claim7.holds Tryd.pinned (.plain (OpenSpec.ofChange keysChainSpec)) keysChainCard

/-- THE SECOND FORM's CARD OF 'cohousinglaw20.KeysMatchesReference'. -/
def keysMatchesReferenceUptoCard : Claim7 := { stood := { row := keysMatchesReferenceUptoRow, standIns := [], harness := (true, "30fae89b500c226012f781f54accd871247366aa1ff04491c318cf738a839535"), looks := false }, kinds := [], alts := [], laidByText := true, laidKinds := [.data, .data, .data], laidTests := true, laidLooks := .later }
def KeysMatchesReferenceUptoCardSaid : Prop := Claim7.holds Tryd.pinned (.plain (OpenSpec.upto keysMatchesReferenceSpec)) keysMatchesReferenceUptoCard

/-- THE SECOND FORM's CARD OF 'cohousinglaw20.KeysHistory'. -/
def keysHistoryUptoCard : Claim7 := { stood := { row := keysHistoryUptoRow, standIns := [], harness := (true, "30fae89b500c226012f781f54accd871247366aa1ff04491c318cf738a839535"), looks := false }, kinds := [], alts := [], laidByText := true, laidKinds := [.data, .data, .data], laidTests := true, laidLooks := .later }
def KeysHistoryUptoCardSaid : Prop := Claim7.holds Tryd.pinned (.plain (OpenSpec.upto keysHistorySpec)) keysHistoryUptoCard

/-- THE SECOND FORM's CARD OF 'cohousinglaw20.KeysEnough'. -/
def keysEnoughUptoCard : Claim7 := { stood := { row := keysEnoughUptoRow, standIns := [], harness := (true, "30fae89b500c226012f781f54accd871247366aa1ff04491c318cf738a839535"), looks := false }, kinds := [], alts := [], laidByText := true, laidKinds := [.data, .data, .data], laidTests := true, laidLooks := .later }
def KeysEnoughUptoCardSaid : Prop := Claim7.holds Tryd.pinned (.plain (OpenSpec.upto keysEnoughSpec)) keysEnoughUptoCard

/-- THE SECOND FORM's CARD OF 'cohousinglaw20.KeysOthers'. -/
def keysOthersUptoCard : Claim7 := { stood := { row := keysOthersUptoRow, standIns := [], harness := (true, "30fae89b500c226012f781f54accd871247366aa1ff04491c318cf738a839535"), looks := false }, kinds := [], alts := [], laidByText := true, laidKinds := [.data, .data, .data], laidTests := true, laidLooks := .later }
def KeysOthersUptoCardSaid : Prop := Claim7.holds Tryd.pinned (.plain (OpenSpec.upto keysOthersSpec)) keysOthersUptoCard

/-- THE SECOND FORM's CARD OF 'cohousinglaw20.KeysChain'. -/
def keysChainUptoCard : Claim7 := { stood := { row := keysChainUptoRow, standIns := [], harness := (true, "30fae89b500c226012f781f54accd871247366aa1ff04491c318cf738a839535"), looks := false }, kinds := [], alts := [], laidByText := true, laidKinds := [.data, .data, .data], laidTests := true, laidLooks := .later }
def KeysChainUptoCardSaid : Prop := Claim7.holds Tryd.pinned (.plain (OpenSpec.upto keysChainSpec)) keysChainUptoCard
end Rows
end Go.Proofs.YtcnkenknbmmglaaDoor
