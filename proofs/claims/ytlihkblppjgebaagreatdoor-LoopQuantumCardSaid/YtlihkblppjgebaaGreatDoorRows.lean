/-
  NARROWER THAN 'FOR EVERY INPUT', by the rows' own cells (each row's printed sentence says how): KernOwn: laid · DequeRaces: laid · DequeEnds: laid · DequeGrows: laid · DequeOnce: laid · LoopQuantum: laid.
  DERIVED. THE GIVEN ROWS OF THIS SEAT. 6 by the template 'for every input the law returns true; each argument reads behind the call as it read before'; 0 by the template 'total and deterministic' (their statements: YtlihkblppjgebaaGreatDoorTotals.lean).
  GIVEN WITH THE SEED: the statements are not yours to turn. If you find one false, say at which input.
  Laid BY PROGRAM, IN A SANDBOX (cutbox-rows.mjs): the forced cells as the released guide's own fill.sh prints them over the translation fb7a4adca25a3d54… (all of the seat's roots in one cut). By AI agents, Wed Nov 11 2026. No macro, syntax, notation, axiom, sorry.
-/
import Derived.Test.YtlihkblppjgebaaGreatDoorChecked
import GoSem.PinnedTables
import GoSem.Claim
import GoSem.ClaimJoined
import GoSem.ClaimMapViews
import Derived.JoinedTies
import Derived.KernelRfl
namespace Go.Proofs.YtlihkblppjgebaaGreatDoor
/- THE CELL 'sum', in the pinned program and in every row, IS THE sha256 OF THE DUMP (.gsa) THAT YtlihkblppjgebaaGreatDoorProg.lean LOADS. Nothing in Lean hashes anything: it is a label: what it is worth is what the hold of that sum in a sandbox is worth. -/
noncomputable def Tryz.pinned : Pinned := { name := "ytlihkblppjgebaagreatdoor", sum := "fb7a4adca25a3d54d4f340434be6de3629a7bbd858bf4b51db4d3d2973c8857d", checked := Tryz.checked }
namespace Rows
def none {H : Type} : Left H := { results := [], args := [] }

/- WHAT THE LISTED PACKAGE-LEVEL VARIABLES READ AS WHEN THE CALL BEGINS. Each datum BY PROGRAM (the guide's laid-datum.mjs) off the statement by which the dump's own 'gosem.cut.vars' lays the variable. In a bare row this is a premise. The card (YtlihkblppjgebaaGreatDoorCards.lean) ties it to the program's text. -/
def laid_errors_errorType {H : Type} : DataW H := .iface "internal/reflectlite.rtype" (.agg [.ptr (.lit (.string [101, 114, 114, 111, 114]))])
def laid_unicode_utf8_acceptRanges {H : Type} : DataW H := .agg [.agg [.lit (.int .u8 128), .lit (.int .u8 191)], .agg [.lit (.int .u8 160), .lit (.int .u8 191)], .agg [.lit (.int .u8 128), .lit (.int .u8 159)], .agg [.lit (.int .u8 144), .lit (.int .u8 191)], .agg [.lit (.int .u8 128), .lit (.int .u8 143)], .agg [.lit (.int .u8 0), .lit (.int .u8 0)], .agg [.lit (.int .u8 0), .lit (.int .u8 0)], .agg [.lit (.int .u8 0), .lit (.int .u8 0)], .agg [.lit (.int .u8 0), .lit (.int .u8 0)], .agg [.lit (.int .u8 0), .lit (.int .u8 0)], .agg [.lit (.int .u8 0), .lit (.int .u8 0)], .agg [.lit (.int .u8 0), .lit (.int .u8 0)], .agg [.lit (.int .u8 0), .lit (.int .u8 0)], .agg [.lit (.int .u8 0), .lit (.int .u8 0)], .agg [.lit (.int .u8 0), .lit (.int .u8 0)], .agg [.lit (.int .u8 0), .lit (.int .u8 0)]]
/-- One of Go's own tables, pinned by name: the form's constant. -/
def laid_unicode_utf8_first : DataW Unit := Go.Pinned.utf8First

/-- 'distafflaw13.KernOwn': WHATEVER THE INPUT: true; the input reads as it did. -/
def kernOwnSpec : ChangeSpec := { name := "kernOwn", fn := fun _ => fun
  | [d1, d2, d3] => { results := [.lit (.bool true)], args := [d1, d2, d3] }
  | _ => none }
def kernOwnRow : OpenClaim := { program := "ytlihkblppjgebaagreatdoor", sum := "fb7a4adca25a3d54d4f340434be6de3629a7bbd858bf4b51db4d3d2973c8857d", func := "distaff/distafflaw13.KernOwn", spec := "kernOwn", inPlace := ["internal/reflectlite.ValueOf", "(internal/reflectlite.Value).Type", "(internal/reflectlite.Value).IsNil", "internal/reflectlite.TypeOf", "(internal/reflectlite.Value).Elem", "(internal/reflectlite.Value).Set"], unfollowed := true, recurses := true, named := ["errors.errorType"], apart := false, laid := [("errors.errorType", laid_errors_errorType)] }
def KernOwnSaid : Prop := kernOwnRow.holds Tryz.pinned (OpenSpec.ofChange kernOwnSpec)

/-- ITS FALSE NEIGHBOUR: 'it returns false'. Refute it at one input. -/
def kernOwnWrong : ChangeSpec := { name := "kernOwn", fn := fun _ => fun
  | [d1, d2, d3] => { results := [.lit (.bool false)], args := [d1, d2, d3] }
  | _ => none }
def KernOwnWrongFalsely : Prop := kernOwnRow.holds Tryz.pinned (OpenSpec.ofChange kernOwnWrong)

/-- 'distafflaw14.DequeRaces': WHATEVER THE INPUT: true; the input reads as it did. -/
def dequeRacesSpec : ChangeSpec := { name := "dequeRaces", fn := fun _ => fun
  | [d1, d2] => { results := [.lit (.bool true)], args := [d1, d2] }
  | _ => none }
def dequeRacesRow : OpenClaim := { program := "ytlihkblppjgebaagreatdoor", sum := "fb7a4adca25a3d54d4f340434be6de3629a7bbd858bf4b51db4d3d2973c8857d", func := "distaff/distafflaw14.DequeRaces", spec := "dequeRaces", inPlace := ["internal/bytealg.CountString", "internal/bytealg.IndexByteString", "internal/bytealg.IndexString", "internal/reflectlite.ValueOf", "(internal/reflectlite.Value).Type", "(internal/reflectlite.Value).IsNil", "internal/reflectlite.TypeOf", "(internal/reflectlite.Value).Elem", "(internal/reflectlite.Value).Set"], unfollowed := true, recurses := true, named := ["unicode/utf8.first", "unicode/utf8.acceptRanges", "internal/bytealg.MaxLen", "errors.errorType"], apart := false, laid := [("unicode/utf8.acceptRanges", laid_unicode_utf8_acceptRanges), ("errors.errorType", laid_errors_errorType), ("unicode/utf8.first", laid_unicode_utf8_first)] }
def DequeRacesSaid : Prop := dequeRacesRow.holds Tryz.pinned (OpenSpec.ofChange dequeRacesSpec)

/-- ITS FALSE NEIGHBOUR: 'it returns false'. Refute it at one input. -/
def dequeRacesWrong : ChangeSpec := { name := "dequeRaces", fn := fun _ => fun
  | [d1, d2] => { results := [.lit (.bool false)], args := [d1, d2] }
  | _ => none }
def DequeRacesWrongFalsely : Prop := dequeRacesRow.holds Tryz.pinned (OpenSpec.ofChange dequeRacesWrong)

/-- 'distafflaw14.DequeEnds': WHATEVER THE INPUT: true; the input reads as it did. -/
def dequeEndsSpec : ChangeSpec := { name := "dequeEnds", fn := fun _ => fun
  | [d] => { results := [.lit (.bool true)], args := [d] }
  | _ => none }
def dequeEndsRow : OpenClaim := { program := "ytlihkblppjgebaagreatdoor", sum := "fb7a4adca25a3d54d4f340434be6de3629a7bbd858bf4b51db4d3d2973c8857d", func := "distaff/distafflaw14.DequeEnds", spec := "dequeEnds", inPlace := ["internal/bytealg.CountString", "internal/bytealg.IndexByteString", "internal/bytealg.IndexString", "internal/reflectlite.ValueOf", "(internal/reflectlite.Value).Type", "(internal/reflectlite.Value).IsNil", "internal/reflectlite.TypeOf", "(internal/reflectlite.Value).Elem", "(internal/reflectlite.Value).Set"], unfollowed := true, recurses := true, named := ["unicode/utf8.first", "unicode/utf8.acceptRanges", "internal/bytealg.MaxLen", "errors.errorType"], apart := false, laid := [("unicode/utf8.acceptRanges", laid_unicode_utf8_acceptRanges), ("errors.errorType", laid_errors_errorType), ("unicode/utf8.first", laid_unicode_utf8_first)] }
def DequeEndsSaid : Prop := dequeEndsRow.holds Tryz.pinned (OpenSpec.ofChange dequeEndsSpec)

/-- ITS FALSE NEIGHBOUR: 'it returns false'. Refute it at one input. -/
def dequeEndsWrong : ChangeSpec := { name := "dequeEnds", fn := fun _ => fun
  | [d] => { results := [.lit (.bool false)], args := [d] }
  | _ => none }
def DequeEndsWrongFalsely : Prop := dequeEndsRow.holds Tryz.pinned (OpenSpec.ofChange dequeEndsWrong)

/-- 'distafflaw14.DequeGrows': WHATEVER THE INPUT: true; the input reads as it did. -/
def dequeGrowsSpec : ChangeSpec := { name := "dequeGrows", fn := fun _ => fun
  | [d1, d2, d3] => { results := [.lit (.bool true)], args := [d1, d2, d3] }
  | _ => none }
def dequeGrowsRow : OpenClaim := { program := "ytlihkblppjgebaagreatdoor", sum := "fb7a4adca25a3d54d4f340434be6de3629a7bbd858bf4b51db4d3d2973c8857d", func := "distaff/distafflaw14.DequeGrows", spec := "dequeGrows", inPlace := ["internal/bytealg.CountString", "internal/bytealg.IndexByteString", "internal/bytealg.IndexString", "internal/reflectlite.ValueOf", "(internal/reflectlite.Value).Type", "(internal/reflectlite.Value).IsNil", "internal/reflectlite.TypeOf", "(internal/reflectlite.Value).Elem", "(internal/reflectlite.Value).Set"], unfollowed := true, recurses := true, named := ["unicode/utf8.first", "unicode/utf8.acceptRanges", "internal/bytealg.MaxLen", "errors.errorType"], apart := false, laid := [("unicode/utf8.acceptRanges", laid_unicode_utf8_acceptRanges), ("errors.errorType", laid_errors_errorType), ("unicode/utf8.first", laid_unicode_utf8_first)] }
def DequeGrowsSaid : Prop := dequeGrowsRow.holds Tryz.pinned (OpenSpec.ofChange dequeGrowsSpec)

/-- ITS FALSE NEIGHBOUR: 'it returns false'. Refute it at one input. -/
def dequeGrowsWrong : ChangeSpec := { name := "dequeGrows", fn := fun _ => fun
  | [d1, d2, d3] => { results := [.lit (.bool false)], args := [d1, d2, d3] }
  | _ => none }
def DequeGrowsWrongFalsely : Prop := dequeGrowsRow.holds Tryz.pinned (OpenSpec.ofChange dequeGrowsWrong)

/-- 'distafflaw14.DequeOnce': WHATEVER THE INPUT: true; the input reads as it did. -/
def dequeOnceSpec : ChangeSpec := { name := "dequeOnce", fn := fun _ => fun
  | [d1, d2] => { results := [.lit (.bool true)], args := [d1, d2] }
  | _ => none }
def dequeOnceRow : OpenClaim := { program := "ytlihkblppjgebaagreatdoor", sum := "fb7a4adca25a3d54d4f340434be6de3629a7bbd858bf4b51db4d3d2973c8857d", func := "distaff/distafflaw14.DequeOnce", spec := "dequeOnce", inPlace := ["internal/bytealg.CountString", "internal/bytealg.IndexByteString", "internal/bytealg.IndexString", "internal/reflectlite.ValueOf", "(internal/reflectlite.Value).Type", "(internal/reflectlite.Value).IsNil", "internal/reflectlite.TypeOf", "(internal/reflectlite.Value).Elem", "(internal/reflectlite.Value).Set"], unfollowed := true, recurses := true, named := ["unicode/utf8.first", "unicode/utf8.acceptRanges", "internal/bytealg.MaxLen", "errors.errorType"], apart := false, laid := [("unicode/utf8.acceptRanges", laid_unicode_utf8_acceptRanges), ("errors.errorType", laid_errors_errorType), ("unicode/utf8.first", laid_unicode_utf8_first)] }
def DequeOnceSaid : Prop := dequeOnceRow.holds Tryz.pinned (OpenSpec.ofChange dequeOnceSpec)

/-- ITS FALSE NEIGHBOUR: 'it returns false'. Refute it at one input. -/
def dequeOnceWrong : ChangeSpec := { name := "dequeOnce", fn := fun _ => fun
  | [d1, d2] => { results := [.lit (.bool false)], args := [d1, d2] }
  | _ => none }
def DequeOnceWrongFalsely : Prop := dequeOnceRow.holds Tryz.pinned (OpenSpec.ofChange dequeOnceWrong)

/-- 'distafflaw15.LoopQuantum': WHATEVER THE INPUT: true; the input reads as it did. -/
def loopQuantumSpec : ChangeSpec := { name := "loopQuantum", fn := fun _ => fun
  | [d] => { results := [.lit (.bool true)], args := [d] }
  | _ => none }
def loopQuantumRow : OpenClaim := { program := "ytlihkblppjgebaagreatdoor", sum := "fb7a4adca25a3d54d4f340434be6de3629a7bbd858bf4b51db4d3d2973c8857d", func := "distaff/distafflaw15.LoopQuantum", spec := "loopQuantum", inPlace := ["internal/bytealg.CountString", "internal/bytealg.IndexByteString", "internal/bytealg.IndexString", "internal/reflectlite.ValueOf", "(internal/reflectlite.Value).Type", "(internal/reflectlite.Value).IsNil", "internal/reflectlite.TypeOf", "(internal/reflectlite.Value).Elem", "(internal/reflectlite.Value).Set"], unfollowed := true, recurses := true, named := ["unicode/utf8.first", "unicode/utf8.acceptRanges", "internal/bytealg.MaxLen", "errors.errorType"], apart := false, laid := [("unicode/utf8.acceptRanges", laid_unicode_utf8_acceptRanges), ("errors.errorType", laid_errors_errorType), ("unicode/utf8.first", laid_unicode_utf8_first)] }
def LoopQuantumSaid : Prop := loopQuantumRow.holds Tryz.pinned (OpenSpec.ofChange loopQuantumSpec)

/-- ITS FALSE NEIGHBOUR: 'it returns false'. Refute it at one input. -/
def loopQuantumWrong : ChangeSpec := { name := "loopQuantum", fn := fun _ => fun
  | [d] => { results := [.lit (.bool false)], args := [d] }
  | _ => none }
def LoopQuantumWrongFalsely : Prop := loopQuantumRow.holds Tryz.pinned (OpenSpec.ofChange loopQuantumWrong)

/- THE SECOND FORM. 'bulk': how many values and letters a reading holds, each counted each time it is reached (what is shared counts as often as it is met; a slice's spare places count too). A statement '..UptoSaid' is the law's where the arguments, and the package variables that the reading takes, are together of bulk at most 1048576: NARROWER than '..Said'. Prove '..Said' where nothing that the law and all that it calls make is longer than what came in: it says more and counts as full. Else prove '..UptoSaid'. A law counts once. -/
mutual
def uptoBulk {H : Type} : DataW H → Nat
  | .lit (.string bytes) => bytes.length + 1
  | .lit _ => 1
  | .nil => 1
  | .ptr d => uptoBulk d + 1
  | .slice elems spare => uptoBulkAll elems + uptoBulkAll spare + 1
  | .agg parts => uptoBulkAll parts + 1
  | .iface _ d => uptoBulk d + 1
  | .map entries => uptoBulkEntries entries + 1
  | .held _ => 1
def uptoBulkAll {H : Type} : List (DataW H) → Nat
  | [] => 0
  | d :: r => uptoBulk d + uptoBulkAll r
def uptoBulkEntries {H : Type} : List (Lit × DataW H) → Nat
  | [] => 0
  | x :: r => uptoBulkEntry x + uptoBulkEntries r
def uptoBulkEntry {H : Type} : Lit × DataW H → Nat
  | (.string bytes, d) => bytes.length + uptoBulk d + 1
  | (_, d) => uptoBulk d + 1
 end
def uptoSmall : (H : Type) → List (DataW H) → Bool := fun _ ds => decide (uptoBulkAll ds ≤ 1048576)
def OpenSpec.upto (s : _root_.Go.ChangeSpec) : _root_.Go.OpenSpec := { _root_.Go.OpenSpec.ofChange s with cond := some uptoSmall }

/-- 'distafflaw13.KernOwn', WHERE WHAT IT READS IS OF BULK AT MOST 1048576: true; the input reads as it did. -/
def kernOwnUptoRow : OpenClaim := { program := "ytlihkblppjgebaagreatdoor", sum := "fb7a4adca25a3d54d4f340434be6de3629a7bbd858bf4b51db4d3d2973c8857d", func := "distaff/distafflaw13.KernOwn", spec := "kernOwn", inPlace := ["internal/reflectlite.ValueOf", "(internal/reflectlite.Value).Type", "(internal/reflectlite.Value).IsNil", "internal/reflectlite.TypeOf", "(internal/reflectlite.Value).Elem", "(internal/reflectlite.Value).Set"], unfollowed := true, recurses := true, named := ["errors.errorType"], apart := false, laid := [("errors.errorType", laid_errors_errorType)], narrowed := true }
def KernOwnUptoSaid : Prop := kernOwnUptoRow.holds Tryz.pinned (OpenSpec.upto kernOwnSpec)

/-- 'distafflaw14.DequeRaces', WHERE WHAT IT READS IS OF BULK AT MOST 1048576: true; the input reads as it did. -/
def dequeRacesUptoRow : OpenClaim := { program := "ytlihkblppjgebaagreatdoor", sum := "fb7a4adca25a3d54d4f340434be6de3629a7bbd858bf4b51db4d3d2973c8857d", func := "distaff/distafflaw14.DequeRaces", spec := "dequeRaces", inPlace := ["internal/bytealg.CountString", "internal/bytealg.IndexByteString", "internal/bytealg.IndexString", "internal/reflectlite.ValueOf", "(internal/reflectlite.Value).Type", "(internal/reflectlite.Value).IsNil", "internal/reflectlite.TypeOf", "(internal/reflectlite.Value).Elem", "(internal/reflectlite.Value).Set"], unfollowed := true, recurses := true, named := ["unicode/utf8.first", "unicode/utf8.acceptRanges", "internal/bytealg.MaxLen", "errors.errorType"], apart := false, laid := [("unicode/utf8.acceptRanges", laid_unicode_utf8_acceptRanges), ("errors.errorType", laid_errors_errorType), ("unicode/utf8.first", laid_unicode_utf8_first)], narrowed := true }
def DequeRacesUptoSaid : Prop := dequeRacesUptoRow.holds Tryz.pinned (OpenSpec.upto dequeRacesSpec)

/-- 'distafflaw14.DequeEnds', WHERE WHAT IT READS IS OF BULK AT MOST 1048576: true; the input reads as it did. -/
def dequeEndsUptoRow : OpenClaim := { program := "ytlihkblppjgebaagreatdoor", sum := "fb7a4adca25a3d54d4f340434be6de3629a7bbd858bf4b51db4d3d2973c8857d", func := "distaff/distafflaw14.DequeEnds", spec := "dequeEnds", inPlace := ["internal/bytealg.CountString", "internal/bytealg.IndexByteString", "internal/bytealg.IndexString", "internal/reflectlite.ValueOf", "(internal/reflectlite.Value).Type", "(internal/reflectlite.Value).IsNil", "internal/reflectlite.TypeOf", "(internal/reflectlite.Value).Elem", "(internal/reflectlite.Value).Set"], unfollowed := true, recurses := true, named := ["unicode/utf8.first", "unicode/utf8.acceptRanges", "internal/bytealg.MaxLen", "errors.errorType"], apart := false, laid := [("unicode/utf8.acceptRanges", laid_unicode_utf8_acceptRanges), ("errors.errorType", laid_errors_errorType), ("unicode/utf8.first", laid_unicode_utf8_first)], narrowed := true }
def DequeEndsUptoSaid : Prop := dequeEndsUptoRow.holds Tryz.pinned (OpenSpec.upto dequeEndsSpec)

/-- 'distafflaw14.DequeGrows', WHERE WHAT IT READS IS OF BULK AT MOST 1048576: true; the input reads as it did. -/
def dequeGrowsUptoRow : OpenClaim := { program := "ytlihkblppjgebaagreatdoor", sum := "fb7a4adca25a3d54d4f340434be6de3629a7bbd858bf4b51db4d3d2973c8857d", func := "distaff/distafflaw14.DequeGrows", spec := "dequeGrows", inPlace := ["internal/bytealg.CountString", "internal/bytealg.IndexByteString", "internal/bytealg.IndexString", "internal/reflectlite.ValueOf", "(internal/reflectlite.Value).Type", "(internal/reflectlite.Value).IsNil", "internal/reflectlite.TypeOf", "(internal/reflectlite.Value).Elem", "(internal/reflectlite.Value).Set"], unfollowed := true, recurses := true, named := ["unicode/utf8.first", "unicode/utf8.acceptRanges", "internal/bytealg.MaxLen", "errors.errorType"], apart := false, laid := [("unicode/utf8.acceptRanges", laid_unicode_utf8_acceptRanges), ("errors.errorType", laid_errors_errorType), ("unicode/utf8.first", laid_unicode_utf8_first)], narrowed := true }
def DequeGrowsUptoSaid : Prop := dequeGrowsUptoRow.holds Tryz.pinned (OpenSpec.upto dequeGrowsSpec)

/-- 'distafflaw14.DequeOnce', WHERE WHAT IT READS IS OF BULK AT MOST 1048576: true; the input reads as it did. -/
def dequeOnceUptoRow : OpenClaim := { program := "ytlihkblppjgebaagreatdoor", sum := "fb7a4adca25a3d54d4f340434be6de3629a7bbd858bf4b51db4d3d2973c8857d", func := "distaff/distafflaw14.DequeOnce", spec := "dequeOnce", inPlace := ["internal/bytealg.CountString", "internal/bytealg.IndexByteString", "internal/bytealg.IndexString", "internal/reflectlite.ValueOf", "(internal/reflectlite.Value).Type", "(internal/reflectlite.Value).IsNil", "internal/reflectlite.TypeOf", "(internal/reflectlite.Value).Elem", "(internal/reflectlite.Value).Set"], unfollowed := true, recurses := true, named := ["unicode/utf8.first", "unicode/utf8.acceptRanges", "internal/bytealg.MaxLen", "errors.errorType"], apart := false, laid := [("unicode/utf8.acceptRanges", laid_unicode_utf8_acceptRanges), ("errors.errorType", laid_errors_errorType), ("unicode/utf8.first", laid_unicode_utf8_first)], narrowed := true }
def DequeOnceUptoSaid : Prop := dequeOnceUptoRow.holds Tryz.pinned (OpenSpec.upto dequeOnceSpec)

/-- 'distafflaw15.LoopQuantum', WHERE WHAT IT READS IS OF BULK AT MOST 1048576: true; the input reads as it did. -/
def loopQuantumUptoRow : OpenClaim := { program := "ytlihkblppjgebaagreatdoor", sum := "fb7a4adca25a3d54d4f340434be6de3629a7bbd858bf4b51db4d3d2973c8857d", func := "distaff/distafflaw15.LoopQuantum", spec := "loopQuantum", inPlace := ["internal/bytealg.CountString", "internal/bytealg.IndexByteString", "internal/bytealg.IndexString", "internal/reflectlite.ValueOf", "(internal/reflectlite.Value).Type", "(internal/reflectlite.Value).IsNil", "internal/reflectlite.TypeOf", "(internal/reflectlite.Value).Elem", "(internal/reflectlite.Value).Set"], unfollowed := true, recurses := true, named := ["unicode/utf8.first", "unicode/utf8.acceptRanges", "internal/bytealg.MaxLen", "errors.errorType"], apart := false, laid := [("unicode/utf8.acceptRanges", laid_unicode_utf8_acceptRanges), ("errors.errorType", laid_errors_errorType), ("unicode/utf8.first", laid_unicode_utf8_first)], narrowed := true }
def LoopQuantumUptoSaid : Prop := loopQuantumUptoRow.holds Tryz.pinned (OpenSpec.upto loopQuantumSpec)

end Rows
end Go.Proofs.YtlihkblppjgebaaGreatDoor
