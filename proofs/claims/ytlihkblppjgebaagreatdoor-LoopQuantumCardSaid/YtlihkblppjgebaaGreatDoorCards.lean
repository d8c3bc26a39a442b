/-
  DERIVED. GIVEN WITH THE SEED: THE CARDS: each row of YtlihkblppjgebaaGreatDoorRows.lean that lists a variable, with what it lists TIED to the program's text (the seventh form; the later family's looks); each row that meets fmt, with fmt's text TOLD by the authors' own Lean function (tested against real Go, not proved from fmt's source: count such statements apart). THE CARD IS WHAT COUNTS. Prove the row's statement (the work); the ties are given (YtlihkblppjgebaaGreatDoorTie.lean); close each card by the builder's one call (the guide's Derived/Test/ToyasCard.lean, 'card_holds'). Laid BY PROGRAM, IN A SANDBOX (cutbox-door.mjs). By AI agents, Wed Nov 11 2026. No macro, syntax, notation, axiom, sorry.
-/
import Derived.Test.YtlihkblppjgebaaGreatDoorRows
import GoSem.ClaimSeven
namespace Go.Proofs.YtlihkblppjgebaaGreatDoor
namespace Rows

/-- THE TIED CARD OF 'distafflaw13.KernOwn'. -/
def kernOwnCard : Claim7 := { stood := { row := kernOwnRow, standIns := [], harness := (true, "60ab844b118abf1c82e7a2b909b6e729ebf9f59389591a3667b4425081f96d82"), looks := true }, kinds := [], alts := [], laidByText := true, laidKinds := [.handle], laidTests := true, laidLooks := .later }
def KernOwnCardSaid : Prop := Claim7.holds Tryz.pinned (.plain (OpenSpec.ofChange kernOwnSpec)) kernOwnCard

/-- THE TIED CARD OF 'distafflaw14.DequeRaces'. -/
def dequeRacesCard : Claim7 := { stood := { row := dequeRacesRow, standIns := [], harness := (true, "60ab844b118abf1c82e7a2b909b6e729ebf9f59389591a3667b4425081f96d82"), looks := true }, kinds := [], alts := [], laidByText := true, laidKinds := [.data, .handle, .pinned], laidTests := true, laidLooks := .later }
def DequeRacesCardSaid : Prop := Claim7.holds Tryz.pinned (.plain (OpenSpec.ofChange dequeRacesSpec)) dequeRacesCard

/-- THE TIED CARD OF 'distafflaw14.DequeEnds'. -/
def dequeEndsCard : Claim7 := { stood := { row := dequeEndsRow, standIns := [], harness := (true, "60ab844b118abf1c82e7a2b909b6e729ebf9f59389591a3667b4425081f96d82"), looks := true }, kinds := [], alts := [], laidByText := true, laidKinds := [.data, .handle, .pinned], laidTests := true, laidLooks := .later }
def DequeEndsCardSaid : Prop := Claim7.holds Tryz.pinned (.plain (OpenSpec.ofChange dequeEndsSpec)) dequeEndsCard

/-- THE TIED CARD OF 'distafflaw14.DequeGrows'. -/
def dequeGrowsCard : Claim7 := { stood := { row := dequeGrowsRow, standIns := [], harness := (true, "60ab844b118abf1c82e7a2b909b6e729ebf9f59389591a3667b4425081f96d82"), looks := true }, kinds := [], alts := [], laidByText := true, laidKinds := [.data, .handle, .pinned], laidTests := true, laidLooks := .later }
def DequeGrowsCardSaid : Prop := Claim7.holds Tryz.pinned (.plain (OpenSpec.ofChange dequeGrowsSpec)) dequeGrowsCard

/-- THE TIED CARD OF 'distafflaw14.DequeOnce'. -/
def dequeOnceCard : Claim7 := { stood := { row := dequeOnceRow, standIns := [], harness := (true, "60ab844b118abf1c82e7a2b909b6e729ebf9f59389591a3667b4425081f96d82"), looks := true }, kinds := [], alts := [], laidByText := true, laidKinds := [.data, .handle, .pinned], laidTests := true, laidLooks := .later }
def DequeOnceCardSaid : Prop := Claim7.holds Tryz.pinned (.plain (OpenSpec.ofChange dequeOnceSpec)) dequeOnceCard

/-- THE TIED CARD OF 'distafflaw15.LoopQuantum'. -/
def loopQuantumCard : Claim7 := { stood := { row := loopQuantumRow, standIns := [], harness := (true, "60ab844b118abf1c82e7a2b909b6e729ebf9f59389591a3667b4425081f96d82"), looks := true }, kinds := [], alts := [], laidByText := true, laidKinds := [.data, .handle, .pinned], laidTests := true, laidLooks := .later }
def LoopQuantumCardSaid : Prop := Claim7.holds Tryz.pinned (.plain (OpenSpec.ofChange loopQuantumSpec)) loopQuantumCard

/-- THE SECOND FORM's CARD OF 'distafflaw13.KernOwn'. -/
def kernOwnUptoCard : Claim7 := { stood := { row := kernOwnUptoRow, standIns := [], harness := (true, "60ab844b118abf1c82e7a2b909b6e729ebf9f59389591a3667b4425081f96d82"), looks := true }, kinds := [], alts := [], laidByText := true, laidKinds := [.handle], laidTests := true, laidLooks := .later }
def KernOwnUptoCardSaid : Prop := Claim7.holds Tryz.pinned (.plain (OpenSpec.upto kernOwnSpec)) kernOwnUptoCard

/-- THE SECOND FORM's CARD OF 'distafflaw14.DequeRaces'. -/
def dequeRacesUptoCard : Claim7 := { stood := { row := dequeRacesUptoRow, standIns := [], harness := (true, "60ab844b118abf1c82e7a2b909b6e729ebf9f59389591a3667b4425081f96d82"), looks := true }, kinds := [], alts := [], laidByText := true, laidKinds := [.data, .handle, .pinned], laidTests := true, laidLooks := .later }
def DequeRacesUptoCardSaid : Prop := Claim7.holds Tryz.pinned (.plain (OpenSpec.upto dequeRacesSpec)) dequeRacesUptoCard

/-- THE SECOND FORM's CARD OF 'distafflaw14.DequeEnds'. -/
def dequeEndsUptoCard : Claim7 := { stood := { row := dequeEndsUptoRow, standIns := [], harness := (true, "60ab844b118abf1c82e7a2b909b6e729ebf9f59389591a3667b4425081f96d82"), looks := true }, kinds := [], alts := [], laidByText := true, laidKinds := [.data, .handle, .pinned], laidTests := true, laidLooks := .later }
def DequeEndsUptoCardSaid : Prop := Claim7.holds Tryz.pinned (.plain (OpenSpec.upto dequeEndsSpec)) dequeEndsUptoCard

/-- THE SECOND FORM's CARD OF 'distafflaw14.DequeGrows'. -/
def dequeGrowsUptoCard : Claim7 := { stood := { row := dequeGrowsUptoRow, standIns := [], harness := (true, "60ab844b118abf1c82e7a2b909b6e729ebf9f59389591a3667b4425081f96d82"), looks := true }, kinds := [], alts := [], laidByText := true, laidKinds := [.data, .handle, .pinned], laidTests := true, laidLooks := .later }
def DequeGrowsUptoCardSaid : Prop := Claim7.holds Tryz.pinned (.plain (OpenSpec.upto dequeGrowsSpec)) dequeGrowsUptoCard

/-- THE SECOND FORM's CARD OF 'distafflaw14.DequeOnce'. -/
def dequeOnceUptoCard : Claim7 := { stood := { row := dequeOnceUptoRow, standIns := [], harness := (true, "60ab844b118abf1c82e7a2b909b6e729ebf9f59389591a3667b4425081f96d82"), looks := true }, kinds := [], alts := [], laidByText := true, laidKinds := [.data, .handle, .pinned], laidTests := true, laidLooks := .later }
def DequeOnceUptoCardSaid : Prop := Claim7.holds Tryz.pinned (.plain (OpenSpec.upto dequeOnceSpec)) dequeOnceUptoCard

/-- THE SECOND FORM's CARD OF 'distafflaw15.LoopQuantum'. -/
def loopQuantumUptoCard : Claim7 := { stood := { row := loopQuantumUptoRow, standIns := [], harness := (true, "60ab844b118abf1c82e7a2b909b6e729ebf9f59389591a3667b4425081f96d82"), looks := true }, kinds := [], alts := [], laidByText := true, laidKinds := [.data, .handle, .pinned], laidTests := true, laidLooks := .later }
def LoopQuantumUptoCardSaid : Prop := Claim7.holds Tryz.pinned (.plain (OpenSpec.upto loopQuantumSpec)) loopQuantumUptoCard
end Rows
end Go.Proofs.YtlihkblppjgebaaGreatDoor
