/-
  DERIVED. GIVEN WITH THE SEED: THE CARDS: each row of YtnoejikcdigceaaDoorRows.lean that lists a variable, with what it lists TIED to the program's text (the seventh form; the later family's looks); each row that meets fmt, with fmt's text TOLD by the authors' own Lean function (tested against real Go, not proved from fmt's source: count such statements apart). THE CARD IS WHAT COUNTS. Prove the row's statement (the work); the ties are given (YtnoejikcdigceaaDoorTie.lean); close each card by the builder's one call (the guide's Derived/Test/ToyasCard.lean, 'card_holds'). Laid BY PROGRAM, IN A SANDBOX (cutbox-door.mjs). By AI agents, Wed Nov 11 2026. No macro, syntax, notation, axiom, sorry.
-/
import Derived.Test.YtnoejikcdigceaaDoorRows
import GoSem.ClaimSeven
namespace Go.Proofs.YtnoejikcdigceaaDoor
namespace Rows

/-- THE TIED CARD OF 'distafflaw05.AsmSilent'. -/
def asmSilentCard : Claim7 := { stood := { row := asmSilentRow, standIns := [], harness := (true, "c08200f95f7856d9ce5d9836616d241a8489ad15d19ebedaea16ed19b9cfcb61"), looks := true }, kinds := [], alts := [], laidByText := true, laidKinds := [.data, .pinned], laidTests := true, laidLooks := .later }
def AsmSilentCardSaid : Prop := Claim7.holds Tryd.pinned (.plain (OpenSpec.ofChange asmSilentSpec)) asmSilentCard

/-- THE TIED CARD OF 'distafflaw05.AsmNames'. -/
def asmNamesCard : Claim7 := { stood := { row := asmNamesRow, standIns := [], harness := (true, "c08200f95f7856d9ce5d9836616d241a8489ad15d19ebedaea16ed19b9cfcb61"), looks := true }, kinds := [], alts := [], laidByText := true, laidKinds := [.data, .handle, .pinned], laidTests := true, laidLooks := .later }
def AsmNamesCardSaid : Prop := Claim7.holds Tryd.pinned (.plain (OpenSpec.ofChange asmNamesSpec)) asmNamesCard

/-- THE TIED CARD OF 'distafflaw05.AsmJoins'. -/
def asmJoinsCard : Claim7 := { stood := { row := asmJoinsRow, standIns := [], harness := (true, "c08200f95f7856d9ce5d9836616d241a8489ad15d19ebedaea16ed19b9cfcb61"), looks := true }, kinds := [], alts := [], laidByText := true, laidKinds := [.data, .handle, .pinned], laidTests := true, laidLooks := .later }
def AsmJoinsCardSaid : Prop := Claim7.holds Tryd.pinned (.plain (OpenSpec.ofChange asmJoinsSpec)) asmJoinsCard

/-- THE TIED CARD OF 'distafflaw05.AsmBack'. -/
def asmBackCard : Claim7 := { stood := { row := asmBackRow, standIns := [], harness := (true, "c08200f95f7856d9ce5d9836616d241a8489ad15d19ebedaea16ed19b9cfcb61"), looks := true }, kinds := [], alts := [], laidByText := true, laidKinds := [.data, .handle, .pinned], laidTests := true, laidLooks := .later }
def AsmBackCardSaid : Prop := Claim7.holds Tryd.pinned (.plain (OpenSpec.ofChange asmBackSpec)) asmBackCard

/-- THE TIED CARD OF 'distafflaw05.AsmPrints'. -/
def asmPrintsCard : Claim7 := { stood := { row := asmPrintsRow, standIns := [], harness := (true, "c08200f95f7856d9ce5d9836616d241a8489ad15d19ebedaea16ed19b9cfcb61"), looks := true }, kinds := [], alts := [], laidByText := true, laidKinds := [.data, .handle, .pinned], laidTests := true, laidLooks := .later }
def AsmPrintsCardSaid : Prop := Claim7.holds Tryd.pinned (.plain (OpenSpec.ofChange asmPrintsSpec)) asmPrintsCard

/-- THE SECOND FORM's CARD OF 'distafflaw05.AsmSilent'. -/
def asmSilentUptoCard : Claim7 := { stood := { row := asmSilentUptoRow, standIns := [], harness := (true, "c08200f95f7856d9ce5d9836616d241a8489ad15d19ebedaea16ed19b9cfcb61"), looks := true }, kinds := [], alts := [], laidByText := true, laidKinds := [.data, .pinned], laidTests := true, laidLooks := .later }
def AsmSilentUptoCardSaid : Prop := Claim7.holds Tryd.pinned (.plain (OpenSpec.upto asmSilentSpec)) asmSilentUptoCard

/-- THE SECOND FORM's CARD OF 'distafflaw05.AsmNames'. -/
def asmNamesUptoCard : Claim7 := { stood := { row := asmNamesUptoRow, standIns := [], harness := (true, "c08200f95f7856d9ce5d9836616d241a8489ad15d19ebedaea16ed19b9cfcb61"), looks := true }, kinds := [], alts := [], laidByText := true, laidKinds := [.data, .handle, .pinned], laidTests := true, laidLooks := .later }
def AsmNamesUptoCardSaid : Prop := Claim7.holds Tryd.pinned (.plain (OpenSpec.upto asmNamesSpec)) asmNamesUptoCard

/-- THE SECOND FORM's CARD OF 'distafflaw05.AsmJoins'. -/
def asmJoinsUptoCard : Claim7 := { stood := { row := asmJoinsUptoRow, standIns := [], harness := (true, "c08200f95f7856d9ce5d9836616d241a8489ad15d19ebedaea16ed19b9cfcb61"), looks := true }, kinds := [], alts := [], laidByText := true, laidKinds := [.data, .handle, .pinned], laidTests := true, laidLooks := .later }
def AsmJoinsUptoCardSaid : Prop := Claim7.holds Tryd.pinned (.plain (OpenSpec.upto asmJoinsSpec)) asmJoinsUptoCard

/-- THE SECOND FORM's CARD OF 'distafflaw05.AsmBack'. -/
def asmBackUptoCard : Claim7 := { stood := { row := asmBackUptoRow, standIns := [], harness := (true, "c08200f95f7856d9ce5d9836616d241a8489ad15d19ebedaea16ed19b9cfcb61"), looks := true }, kinds := [], alts := [], laidByText := true, laidKinds := [.data, .handle, .pinned], laidTests := true, laidLooks := .later }
def AsmBackUptoCardSaid : Prop := Claim7.holds Tryd.pinned (.plain (OpenSpec.upto asmBackSpec)) asmBackUptoCard

/-- THE SECOND FORM's CARD OF 'distafflaw05.AsmPrints'. -/
def asmPrintsUptoCard : Claim7 := { stood := { row := asmPrintsUptoRow, standIns := [], harness := (true, "c08200f95f7856d9ce5d9836616d241a8489ad15d19ebedaea16ed19b9cfcb61"), looks := true }, kinds := [], alts := [], laidByText := true, laidKinds := [.data, .handle, .pinned], laidTests := true, laidLooks := .later }
def AsmPrintsUptoCardSaid : Prop := Claim7.holds Tryd.pinned (.plain (OpenSpec.upto asmPrintsSpec)) asmPrintsUptoCard
end Rows
end Go.Proofs.YtnoejikcdigceaaDoor
