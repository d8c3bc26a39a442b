/-
  DERIVED. GIVEN WITH THE SEED: THE CARDS: each row of YtfnilkpkogipfaaGreatDoorRows.lean that lists a variable, with what it lists TIED to the program's text (the seventh form; the later family's looks); each row that meets fmt, with fmt's text TOLD by the authors' own Lean function (tested against real Go, not proved from fmt's source: count such statements apart). THE CARD IS WHAT COUNTS. Prove the row's statement (the work); the ties are given (YtfnilkpkogipfaaGreatDoorTie.lean); close each card by the builder's one call (the guide's Derived/Test/ToyasCard.lean, 'card_holds'). Laid BY PROGRAM, IN A SANDBOX (cutbox-door.mjs). By AI agents, Wed Nov 11 2026. No macro, syntax, notation, axiom, sorry.
-/
import Derived.Test.YtfnilkpkogipfaaGreatDoorRows
import GoSem.ClaimSeven
namespace Go.Proofs.YtfnilkpkogipfaaGreatDoor
namespace Rows

/-- THE TIED CARD OF 'distafflaw13.KernHeld'. -/
def kernHeldCard : Claim7 := { stood := { row := kernHeldRow, standIns := [], harness := (true, "c1a2f3bf9f6401d5eaa5e4240cae541e5e199f4de8fb22a7308fb14a8e25352d"), looks := true }, kinds := [], alts := [], laidByText := true, laidKinds := [.handle], laidTests := true, laidLooks := .later }
def KernHeldCardSaid : Prop := Claim7.holds Tryz.pinned (.plain (OpenSpec.ofChange kernHeldSpec)) kernHeldCard

/-- THE TIED CARD OF 'distafflaw13.KernTicks'. -/
def kernTicksCard : Claim7 := { stood := { row := kernTicksRow, standIns := [], harness := (true, "c1a2f3bf9f6401d5eaa5e4240cae541e5e199f4de8fb22a7308fb14a8e25352d"), looks := true }, kinds := [], alts := [], laidByText := true, laidKinds := [.handle], laidTests := true, laidLooks := .later }
def KernTicksCardSaid : Prop := Claim7.holds Tryz.pinned (.plain (OpenSpec.ofChange kernTicksSpec)) kernTicksCard

/-- THE TIED CARD OF 'distafflaw13.KernOne'. -/
def kernOneCard : Claim7 := { stood := { row := kernOneRow, standIns := [], harness := (true, "c1a2f3bf9f6401d5eaa5e4240cae541e5e199f4de8fb22a7308fb14a8e25352d"), looks := true }, kinds := [], alts := [], laidByText := true, laidKinds := [.handle], laidTests := true, laidLooks := .later }
def KernOneCardSaid : Prop := Claim7.holds Tryz.pinned (.plain (OpenSpec.ofChange kernOneSpec)) kernOneCard

/-- THE TIED CARD OF 'distafflaw13.KernClient'. -/
def kernClientCard : Claim7 := { stood := { row := kernClientRow, standIns := [], harness := (true, "c1a2f3bf9f6401d5eaa5e4240cae541e5e199f4de8fb22a7308fb14a8e25352d"), looks := true }, kinds := [], alts := [], laidByText := true, laidKinds := [.handle], laidTests := true, laidLooks := .later }
def KernClientCardSaid : Prop := Claim7.holds Tryz.pinned (.plain (OpenSpec.ofChange kernClientSpec)) kernClientCard

/-- THE TIED CARD OF 'distafflaw13.KernAgain'. -/
def kernAgainCard : Claim7 := { stood := { row := kernAgainRow, standIns := [], harness := (true, "c1a2f3bf9f6401d5eaa5e4240cae541e5e199f4de8fb22a7308fb14a8e25352d"), looks := true }, kinds := [], alts := [], laidByText := true, laidKinds := [.handle], laidTests := true, laidLooks := .later }
def KernAgainCardSaid : Prop := Claim7.holds Tryz.pinned (.plain (OpenSpec.ofChange kernAgainSpec)) kernAgainCard

/-- THE TIED CARD OF 'distafflaw13.KernOwn'. -/
def kernOwnCard : Claim7 := { stood := { row := kernOwnRow, standIns := [], harness := (true, "c1a2f3bf9f6401d5eaa5e4240cae541e5e199f4de8fb22a7308fb14a8e25352d"), looks := true }, kinds := [], alts := [], laidByText := true, laidKinds := [.handle], laidTests := true, laidLooks := .later }
def KernOwnCardSaid : Prop := Claim7.holds Tryz.pinned (.plain (OpenSpec.ofChange kernOwnSpec)) kernOwnCard

/-- THE SECOND FORM's CARD OF 'distafflaw13.KernHeld'. -/
def kernHeldUptoCard : Claim7 := { stood := { row := kernHeldUptoRow, standIns := [], harness := (true, "c1a2f3bf9f6401d5eaa5e4240cae541e5e199f4de8fb22a7308fb14a8e25352d"), looks := true }, kinds := [], alts := [], laidByText := true, laidKinds := [.handle], laidTests := true, laidLooks := .later }
def KernHeldUptoCardSaid : Prop := Claim7.holds Tryz.pinned (.plain (OpenSpec.upto kernHeldSpec)) kernHeldUptoCard

/-- THE SECOND FORM's CARD OF 'distafflaw13.KernTicks'. -/
def kernTicksUptoCard : Claim7 := { stood := { row := kernTicksUptoRow, standIns := [], harness := (true, "c1a2f3bf9f6401d5eaa5e4240cae541e5e199f4de8fb22a7308fb14a8e25352d"), looks := true }, kinds := [], alts := [], laidByText := true, laidKinds := [.handle], laidTests := true, laidLooks := .later }
def KernTicksUptoCardSaid : Prop := Claim7.holds Tryz.pinned (.plain (OpenSpec.upto kernTicksSpec)) kernTicksUptoCard

/-- THE SECOND FORM's CARD OF 'distafflaw13.KernOne'. -/
def kernOneUptoCard : Claim7 := { stood := { row := kernOneUptoRow, standIns := [], harness := (true, "c1a2f3bf9f6401d5eaa5e4240cae541e5e199f4de8fb22a7308fb14a8e25352d"), looks := true }, kinds := [], alts := [], laidByText := true, laidKinds := [.handle], laidTests := true, laidLooks := .later }
def KernOneUptoCardSaid : Prop := Claim7.holds Tryz.pinned (.plain (OpenSpec.upto kernOneSpec)) kernOneUptoCard

/-- THE SECOND FORM's CARD OF 'distafflaw13.KernClient'. -/
def kernClientUptoCard : Claim7 := { stood := { row := kernClientUptoRow, standIns := [], harness := (true, "c1a2f3bf9f6401d5eaa5e4240cae541e5e199f4de8fb22a7308fb14a8e25352d"), looks := true }, kinds := [], alts := [], laidByText := true, laidKinds := [.handle], laidTests := true, laidLooks := .later }
def KernClientUptoCardSaid : Prop := Claim7.holds Tryz.pinned (.plain (OpenSpec.upto kernClientSpec)) kernClientUptoCard

/-- THE SECOND FORM's CARD OF 'distafflaw13.KernAgain'. -/
def kernAgainUptoCard : Claim7 := { stood := { row := kernAgainUptoRow, standIns := [], harness := (true, "c1a2f3bf9f6401d5eaa5e4240cae541e5e199f4de8fb22a7308fb14a8e25352d"), looks := true }, kinds := [], alts := [], laidByText := true, laidKinds := [.handle], laidTests := true, laidLooks := .later }
def KernAgainUptoCardSaid : Prop := Claim7.holds Tryz.pinned (.plain (OpenSpec.upto kernAgainSpec)) kernAgainUptoCard

/-- THE SECOND FORM's CARD OF 'distafflaw13.KernOwn'. -/
def kernOwnUptoCard : Claim7 := { stood := { row := kernOwnUptoRow, standIns := [], harness := (true, "c1a2f3bf9f6401d5eaa5e4240cae541e5e199f4de8fb22a7308fb14a8e25352d"), looks := true }, kinds := [], alts := [], laidByText := true, laidKinds := [.handle], laidTests := true, laidLooks := .later }
def KernOwnUptoCardSaid : Prop := Claim7.holds Tryz.pinned (.plain (OpenSpec.upto kernOwnSpec)) kernOwnUptoCard
end Rows
end Go.Proofs.YtfnilkpkogipfaaGreatDoor
