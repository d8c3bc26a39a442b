/-
  DERIVED. GIVEN WITH THE SEED: THE CARDS: each row of YtmfnplmcfkkdpaaGreatDoorRows.lean that lists a variable, with what it lists TIED to the program's text (the seventh form; the later family's looks); each row that meets fmt, with fmt's text TOLD by the authors' own Lean function (tested against real Go, not proved from fmt's source: count such statements apart). THE CARD IS WHAT COUNTS. Prove the row's statement (the work); the ties are given (YtmfnplmcfkkdpaaGreatDoorTie.lean); close each card by the builder's one call (the guide's Derived/Test/ToyasCard.lean, 'card_holds'). Laid BY PROGRAM, IN A SANDBOX (cutbox-door.mjs). By AI agents, Wed Nov 11 2026. No macro, syntax, notation, axiom, sorry.
-/
import Derived.Test.YtmfnplmcfkkdpaaGreatDoorRows
import GoSem.ClaimSeven
namespace Go.Proofs.YtmfnplmcfkkdpaaGreatDoor
namespace Rows

/-- THE TIED CARD OF 'distafflaw18.MutexGone'. -/
def mutexGoneCard : Claim7 := { stood := { row := mutexGoneRow, standIns := [], harness := (true, "0b7fca96998bc245312047bf2ac2c374a44e0a9f1e7a8be94d1535cdc1c089bd"), looks := true }, kinds := [], alts := [], laidByText := true, laidKinds := [.data, .handle, .pinned], laidTests := true, laidLooks := .later }
def MutexGoneCardSaid : Prop := Claim7.holds Tryz.pinned (.plain (OpenSpec.ofChange mutexGoneSpec)) mutexGoneCard

/-- THE SECOND FORM's CARD OF 'distafflaw18.MutexGone'. -/
def mutexGoneUptoCard : Claim7 := { stood := { row := mutexGoneUptoRow, standIns := [], harness := (true, "0b7fca96998bc245312047bf2ac2c374a44e0a9f1e7a8be94d1535cdc1c089bd"), looks := true }, kinds := [], alts := [], laidByText := true, laidKinds := [.data, .handle, .pinned], laidTests := true, laidLooks := .later }
def MutexGoneUptoCardSaid : Prop := Claim7.holds Tryz.pinned (.plain (OpenSpec.upto mutexGoneSpec)) mutexGoneUptoCard
end Rows
end Go.Proofs.YtmfnplmcfkkdpaaGreatDoor
