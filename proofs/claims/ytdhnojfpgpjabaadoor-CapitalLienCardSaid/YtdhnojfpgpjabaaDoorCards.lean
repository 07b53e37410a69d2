/-
  DERIVED. GIVEN WITH THE SEED: THE CARDS: each row of YtdhnojfpgpjabaaDoorRows.lean that lists a variable, with what it lists TIED to the program's text (the seventh form; the later family's looks); each row that meets fmt, with fmt's text TOLD by the authors' own Lean function (tested against real Go, not proved from fmt's source: count such statements apart). THE CARD IS WHAT COUNTS. Prove the row's statement (the work); the ties are given (YtdhnojfpgpjabaaDoorTie.lean); close each card by the builder's one call (the guide's Derived/Test/ToyasCard.lean, 'card_holds'). Laid BY PROGRAM, IN A SANDBOX (cutbox-door.mjs). By AI agents, Wed Nov 11 2026. No macro, syntax, notation, axiom, sorry.
-/
import Derived.Test.YtdhnojfpgpjabaaDoorRows
import GoSem.ClaimSeven
namespace Go.Proofs.YtdhnojfpgpjabaaDoor
namespace Rows

/-- THE TIED CARD OF 'cohousinglaw32.CapitalMatchesReference'. -/
def capitalMatchesReferenceCard : Claim7 := { stood := { row := capitalMatchesReferenceRow, standIns := [], harness := (true, "d36cc746156fb43de1e2b06915062bc037833ab7524d37320843f83655e6e5cd"), looks := false }, kinds := [], alts := [], laidByText := true, laidKinds := [.data, .data, .data, .data], laidTests := true, laidLooks := .later }
def CapitalMatchesReferenceCardSaid : Prop := Claim7.holds Tryd.pinned (.plain (OpenSpec.ofChange capitalMatchesReferenceSpec)) capitalMatchesReferenceCard

/-- THE TIED CARD OF 'cohousinglaw32.CapitalPaid'. -/
def capitalPaidCard : Claim7 := { stood := { row := capitalPaidRow, standIns := [], harness := (true, "d36cc746156fb43de1e2b06915062bc037833ab7524d37320843f83655e6e5cd"), looks := false }, kinds := [], alts := [], laidByText := true, laidKinds := [.data, .data, .data, .data], laidTests := true, laidLooks := .later }
def CapitalPaidCardSaid : Prop := Claim7.holds Tryd.pinned (.plain (OpenSpec.ofChange capitalPaidSpec)) capitalPaidCard

/-- THE TIED CARD OF 'cohousinglaw32.CapitalGrows'. -/
def capitalGrowsCard : Claim7 := { stood := { row := capitalGrowsRow, standIns := [], harness := (true, "d36cc746156fb43de1e2b06915062bc037833ab7524d37320843f83655e6e5cd"), looks := false }, kinds := [], alts := [], laidByText := true, laidKinds := [.data, .data, .data, .data], laidTests := true, laidLooks := .later }
def CapitalGrowsCardSaid : Prop := Claim7.holds Tryd.pinned (.plain (OpenSpec.ofChange capitalGrowsSpec)) capitalGrowsCard

/-- THE TIED CARD OF 'cohousinglaw32.CapitalExact'. -/
def capitalExactCard : Claim7 := { stood := { row := capitalExactRow, standIns := [], harness := (true, "d36cc746156fb43de1e2b06915062bc037833ab7524d37320843f83655e6e5cd"), looks := false }, kinds := [], alts := [], laidByText := true, laidKinds := [.data, .data, .data, .data], laidTests := true, laidLooks := .later }
def CapitalExactCardSaid : Prop := Claim7.holds Tryd.pinned (.plain (OpenSpec.ofChange capitalExactSpec)) capitalExactCard

/-- THE TIED CARD OF 'cohousinglaw32.CapitalLien'. -/
def capitalLienCard : Claim7 := { stood := { row := capitalLienRow, standIns := [], harness := (true, "d36cc746156fb43de1e2b06915062bc037833ab7524d37320843f83655e6e5cd"), looks := false }, kinds := [], alts := [], laidByText := true, laidKinds := [.data, .data, .data, .data], laidTests := true, laidLooks := .later }
def CapitalLienCardSaid : Prop := Claim7.holds Tryd.pinned (.plain (OpenSpec.ofChange capitalLienSpec)) capitalLienCard

/-- THE TIED CARD OF 'cohousinglaw32.CapitalRedeems'. -/
def capitalRedeemsCard : Claim7 := { stood := { row := capitalRedeemsRow, standIns := [], harness := (true, "d36cc746156fb43de1e2b06915062bc037833ab7524d37320843f83655e6e5cd"), looks := false }, kinds := [], alts := [], laidByText := true, laidKinds := [.data, .data, .data, .data], laidTests := true, laidLooks := .later }
def CapitalRedeemsCardSaid : Prop := Claim7.holds Tryd.pinned (.plain (OpenSpec.ofChange capitalRedeemsSpec)) capitalRedeemsCard

/-- THE TIED CARD OF 'cohousinglaw32.CapitalPast'. -/
def capitalPastCard : Claim7 := { stood := { row := capitalPastRow, standIns := [], harness := (true, "d36cc746156fb43de1e2b06915062bc037833ab7524d37320843f83655e6e5cd"), looks := false }, kinds := [], alts := [], laidByText := true, laidKinds := [.data, .data, .data, .data], laidTests := true, laidLooks := .later }
def CapitalPastCardSaid : Prop := Claim7.holds Tryd.pinned (.plain (OpenSpec.ofChange capitalPastSpec)) capitalPastCard

/-- THE SECOND FORM's CARD OF 'cohousinglaw32.CapitalMatchesReference'. -/
def capitalMatchesReferenceUptoCard : Claim7 := { stood := { row := capitalMatchesReferenceUptoRow, standIns := [], harness := (true, "d36cc746156fb43de1e2b06915062bc037833ab7524d37320843f83655e6e5cd"), looks := false }, kinds := [], alts := [], laidByText := true, laidKinds := [.data, .data, .data, .data], laidTests := true, laidLooks := .later }
def CapitalMatchesReferenceUptoCardSaid : Prop := Claim7.holds Tryd.pinned (.plain (OpenSpec.upto capitalMatchesReferenceSpec)) capitalMatchesReferenceUptoCard

/-- THE SECOND FORM's CARD OF 'cohousinglaw32.CapitalPaid'. -/
def capitalPaidUptoCard : Claim7 := { stood := { row := capitalPaidUptoRow, standIns := [], harness := (true, "d36cc746156fb43de1e2b06915062bc037833ab7524d37320843f83655e6e5cd"), looks := false }, kinds := [], alts := [], laidByText := true, laidKinds := [.data, .data, .data, .data], laidTests := true, laidLooks := .later }
def CapitalPaidUptoCardSaid : Prop := Claim7.holds Tryd.pinned (.plain (OpenSpec.upto capitalPaidSpec)) capitalPaidUptoCard

/-- THE SECOND FORM's CARD OF 'cohousinglaw32.CapitalGrows'. -/
def capitalGrowsUptoCard : Claim7 := { stood := { row := capitalGrowsUptoRow, standIns := [], harness := (true, "d36cc746156fb43de1e2b06915062bc037833ab7524d37320843f83655e6e5cd"), looks := false }, kinds := [], alts := [], laidByText := true, laidKinds := [.data, .data, .data, .data], laidTests := true, laidLooks := .later }
def CapitalGrowsUptoCardSaid : Prop := Claim7.holds Tryd.pinned (.plain (OpenSpec.upto capitalGrowsSpec)) capitalGrowsUptoCard

/-- THE SECOND FORM's CARD OF 'cohousinglaw32.CapitalExact'. -/
def capitalExactUptoCard : Claim7 := { stood := { row := capitalExactUptoRow, standIns := [], harness := (true, "d36cc746156fb43de1e2b06915062bc037833ab7524d37320843f83655e6e5cd"), looks := false }, kinds := [], alts := [], laidByText := true, laidKinds := [.data, .data, .data, .data], laidTests := true, laidLooks := .later }
def CapitalExactUptoCardSaid : Prop := Claim7.holds Tryd.pinned (.plain (OpenSpec.upto capitalExactSpec)) capitalExactUptoCard

/-- THE SECOND FORM's CARD OF 'cohousinglaw32.CapitalLien'. -/
def capitalLienUptoCard : Claim7 := { stood := { row := capitalLienUptoRow, standIns := [], harness := (true, "d36cc746156fb43de1e2b06915062bc037833ab7524d37320843f83655e6e5cd"), looks := false }, kinds := [], alts := [], laidByText := true, laidKinds := [.data, .data, .data, .data], laidTests := true, laidLooks := .later }
def CapitalLienUptoCardSaid : Prop := Claim7.holds Tryd.pinned (.plain (OpenSpec.upto capitalLienSpec)) capitalLienUptoCard

/-- THE SECOND FORM's CARD OF 'cohousinglaw32.CapitalRedeems'. -/
def capitalRedeemsUptoCard : Claim7 := { stood := { row := capitalRedeemsUptoRow, standIns := [], harness := (true, "d36cc746156fb43de1e2b06915062bc037833ab7524d37320843f83655e6e5cd"), looks := false }, kinds := [], alts := [], laidByText := true, laidKinds := [.data, .data, .data, .data], laidTests := true, laidLooks := .later }
def CapitalRedeemsUptoCardSaid : Prop := Claim7.holds Tryd.pinned (.plain (OpenSpec.upto capitalRedeemsSpec)) capitalRedeemsUptoCard

/-- THE SECOND FORM's CARD OF 'cohousinglaw32.CapitalPast'. -/
def capitalPastUptoCard : Claim7 := { stood := { row := capitalPastUptoRow, standIns := [], harness := (true, "d36cc746156fb43de1e2b06915062bc037833ab7524d37320843f83655e6e5cd"), looks := false }, kinds := [], alts := [], laidByText := true, laidKinds := [.data, .data, .data, .data], laidTests := true, laidLooks := .later }
def CapitalPastUptoCardSaid : Prop := Claim7.holds Tryd.pinned (.plain (OpenSpec.upto capitalPastSpec)) capitalPastUptoCard
end Rows
end Go.Proofs.YtdhnojfpgpjabaaDoor
