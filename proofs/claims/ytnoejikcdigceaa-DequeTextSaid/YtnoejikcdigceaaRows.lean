/-
  No cell of these rows narrows 'for every input' (looked for: loops, veiled, ifaces, maps, wideKeys, modest, calm, conditions, laid).
  DERIVED. THE GIVEN ROWS OF THIS SEAT. 6 by the template 'for every input the law returns true; each argument reads behind the call as it read before'; 0 by the template 'total and deterministic' (their statements: YtnoejikcdigceaaTotals.lean).
  GIVEN WITH THE SEED: the statements are not yours to turn. If you find one false, say at which input.
  Laid BY PROGRAM, IN A SANDBOX (cutbox-rows.mjs): the forced cells as the released guide's own fill.sh prints them over the translation 0b9a0dbe9da4651b… (all of the seat's roots in one cut). By AI agents, Wed Nov 11 2026. No macro, syntax, notation, axiom, sorry.
-/
import Derived.Test.YtnoejikcdigceaaChecked
import GoSem.Claim
import GoSem.ClaimJoined
import GoSem.ClaimMapViews
import Derived.JoinedTies
import Derived.KernelRfl
namespace Go.Proofs.Ytnoejikcdigceaa
/- THE CELL 'sum', in the pinned program and in every row, IS THE sha256 OF THE DUMP (.gsa) THAT YtnoejikcdigceaaProg.lean LOADS. Nothing in Lean hashes anything: it is a label: what it is worth is what the hold of that sum in a sandbox is worth. -/
noncomputable def Try.pinned : Pinned := { name := "ytnoejikcdigceaa", sum := "0b9a0dbe9da4651ba5337b8bfdf0c91d5fda619795772c461f95815e3db5b00b", checked := Try.checked }
namespace Rows
def none {H : Type} : Left H := { results := [], args := [] }

/-- 'distafflaw14.DequeText': WHATEVER THE INPUT: true; the input reads as it did. -/
def dequeTextSpec : ChangeSpec := { name := "dequeText", fn := fun _ => fun
  | [] => { results := [.lit (.bool true)], args := [] }
  | _ => none }
def dequeTextRow : OpenClaim := { program := "ytnoejikcdigceaa", sum := "0b9a0dbe9da4651ba5337b8bfdf0c91d5fda619795772c461f95815e3db5b00b", func := "distaff/distafflaw14.DequeText", spec := "dequeText", apart := false }
def DequeTextSaid : Prop := dequeTextRow.holds Try.pinned (OpenSpec.ofChange dequeTextSpec)

/-- ITS FALSE NEIGHBOUR: 'it returns false'. Refute it at one input. -/
def dequeTextWrong : ChangeSpec := { name := "dequeText", fn := fun _ => fun
  | [] => { results := [.lit (.bool false)], args := [] }
  | _ => none }
def DequeTextWrongFalsely : Prop := dequeTextRow.holds Try.pinned (OpenSpec.ofChange dequeTextWrong)

/-- 'distafflaw15.LoopText': WHATEVER THE INPUT: true; the input reads as it did. -/
def loopTextSpec : ChangeSpec := { name := "loopText", fn := fun _ => fun
  | [] => { results := [.lit (.bool true)], args := [] }
  | _ => none }
def loopTextRow : OpenClaim := { program := "ytnoejikcdigceaa", sum := "0b9a0dbe9da4651ba5337b8bfdf0c91d5fda619795772c461f95815e3db5b00b", func := "distaff/distafflaw15.LoopText", spec := "loopText", apart := false }
def LoopTextSaid : Prop := loopTextRow.holds Try.pinned (OpenSpec.ofChange loopTextSpec)

/-- ITS FALSE NEIGHBOUR: 'it returns false'. Refute it at one input. -/
def loopTextWrong : ChangeSpec := { name := "loopText", fn := fun _ => fun
  | [] => { results := [.lit (.bool false)], args := [] }
  | _ => none }
def LoopTextWrongFalsely : Prop := loopTextRow.holds Try.pinned (OpenSpec.ofChange loopTextWrong)

/-- 'distafflaw16.FutexText': WHATEVER THE INPUT: true; the input reads as it did. -/
def futexTextSpec : ChangeSpec := { name := "futexText", fn := fun _ => fun
  | [] => { results := [.lit (.bool true)], args := [] }
  | _ => none }
def futexTextRow : OpenClaim := { program := "ytnoejikcdigceaa", sum := "0b9a0dbe9da4651ba5337b8bfdf0c91d5fda619795772c461f95815e3db5b00b", func := "distaff/distafflaw16.FutexText", spec := "futexText", apart := false }
def FutexTextSaid : Prop := futexTextRow.holds Try.pinned (OpenSpec.ofChange futexTextSpec)

/-- ITS FALSE NEIGHBOUR: 'it returns false'. Refute it at one input. -/
def futexTextWrong : ChangeSpec := { name := "futexText", fn := fun _ => fun
  | [] => { results := [.lit (.bool false)], args := [] }
  | _ => none }
def FutexTextWrongFalsely : Prop := futexTextRow.holds Try.pinned (OpenSpec.ofChange futexTextWrong)

/-- 'distafflaw17.LifeText': WHATEVER THE INPUT: true; the input reads as it did. -/
def lifeTextSpec : ChangeSpec := { name := "lifeText", fn := fun _ => fun
  | [] => { results := [.lit (.bool true)], args := [] }
  | _ => none }
def lifeTextRow : OpenClaim := { program := "ytnoejikcdigceaa", sum := "0b9a0dbe9da4651ba5337b8bfdf0c91d5fda619795772c461f95815e3db5b00b", func := "distaff/distafflaw17.LifeText", spec := "lifeText", apart := false }
def LifeTextSaid : Prop := lifeTextRow.holds Try.pinned (OpenSpec.ofChange lifeTextSpec)

/-- ITS FALSE NEIGHBOUR: 'it returns false'. Refute it at one input. -/
def lifeTextWrong : ChangeSpec := { name := "lifeText", fn := fun _ => fun
  | [] => { results := [.lit (.bool false)], args := [] }
  | _ => none }
def LifeTextWrongFalsely : Prop := lifeTextRow.holds Try.pinned (OpenSpec.ofChange lifeTextWrong)

/-- 'distafflaw18.MutexText': WHATEVER THE INPUT: true; the input reads as it did. -/
def mutexTextSpec : ChangeSpec := { name := "mutexText", fn := fun _ => fun
  | [] => { results := [.lit (.bool true)], args := [] }
  | _ => none }
def mutexTextRow : OpenClaim := { program := "ytnoejikcdigceaa", sum := "0b9a0dbe9da4651ba5337b8bfdf0c91d5fda619795772c461f95815e3db5b00b", func := "distaff/distafflaw18.MutexText", spec := "mutexText", apart := false }
def MutexTextSaid : Prop := mutexTextRow.holds Try.pinned (OpenSpec.ofChange mutexTextSpec)

/-- ITS FALSE NEIGHBOUR: 'it returns false'. Refute it at one input. -/
def mutexTextWrong : ChangeSpec := { name := "mutexText", fn := fun _ => fun
  | [] => { results := [.lit (.bool false)], args := [] }
  | _ => none }
def MutexTextWrongFalsely : Prop := mutexTextRow.holds Try.pinned (OpenSpec.ofChange mutexTextWrong)

/-- 'distafflaw19.SemaText': WHATEVER THE INPUT: true; the input reads as it did. -/
def semaTextSpec : ChangeSpec := { name := "semaText", fn := fun _ => fun
  | [] => { results := [.lit (.bool true)], args := [] }
  | _ => none }
def semaTextRow : OpenClaim := { program := "ytnoejikcdigceaa", sum := "0b9a0dbe9da4651ba5337b8bfdf0c91d5fda619795772c461f95815e3db5b00b", func := "distaff/distafflaw19.SemaText", spec := "semaText", apart := false }
def SemaTextSaid : Prop := semaTextRow.holds Try.pinned (OpenSpec.ofChange semaTextSpec)

/-- ITS FALSE NEIGHBOUR: 'it returns false'. Refute it at one input. -/
def semaTextWrong : ChangeSpec := { name := "semaText", fn := fun _ => fun
  | [] => { results := [.lit (.bool false)], args := [] }
  | _ => none }
def SemaTextWrongFalsely : Prop := semaTextRow.holds Try.pinned (OpenSpec.ofChange semaTextWrong)

/- THE SECOND FORM. 'bulk': how many values and letters a reading holds, each counted each time it is reached (what is shared counts as often as it is met; a slice's spare places count too). A statement '..UptoSaid' is the law's where the arguments, and the package variables that the reading takes, are together of bulk at most 1048576: NARROWER than '..Said'. Prove '..Said' where nothing that the law and all that it calls make is longer than what came in: it says more and counts as full. Else prove '..UptoSaid'. A law counts once. -/
mutual
def uptoBulk {H : Type} : DataW H → Nat
  | .lit (.string bytes) => bytes.length + 1
  | .lit _ => 1
  | .nil => 1
  | .ptr d => uptoBulk d + 1
  | .slice elems spare => uptoBulkAll elems + uptoBulkAll spare + 1
  | .agg parts => uptoBulkAll parts + 1
  | .iface _ d => uptoBulk d + 1
  | .map entries => uptoBulkEntries entries + 1
  | .held _ => 1
def uptoBulkAll {H : Type} : List (DataW H) → Nat
  | [] => 0
  | d :: r => uptoBulk d + uptoBulkAll r
def uptoBulkEntries {H : Type} : List (Lit × DataW H) → Nat
  | [] => 0
  | x :: r => uptoBulkEntry x + uptoBulkEntries r
def uptoBulkEntry {H : Type} : Lit × DataW H → Nat
  | (.string bytes, d) => bytes.length + uptoBulk d + 1
  | (_, d) => uptoBulk d + 1
 end
def uptoSmall : (H : Type) → List (DataW H) → Bool := fun _ ds => decide (uptoBulkAll ds ≤ 1048576)
def OpenSpec.upto (s : _root_.Go.ChangeSpec) : _root_.Go.OpenSpec := { _root_.Go.OpenSpec.ofChange s with cond := some uptoSmall }

/-- 'distafflaw14.DequeText', WHERE WHAT IT READS IS OF BULK AT MOST 1048576: true; the input reads as it did. -/
def dequeTextUptoRow : OpenClaim := { program := "ytnoejikcdigceaa", sum := "0b9a0dbe9da4651ba5337b8bfdf0c91d5fda619795772c461f95815e3db5b00b", func := "distaff/distafflaw14.DequeText", spec := "dequeText", apart := false, narrowed := true }
def DequeTextUptoSaid : Prop := dequeTextUptoRow.holds Try.pinned (OpenSpec.upto dequeTextSpec)

/-- 'distafflaw15.LoopText', WHERE WHAT IT READS IS OF BULK AT MOST 1048576: true; the input reads as it did. -/
def loopTextUptoRow : OpenClaim := { program := "ytnoejikcdigceaa", sum := "0b9a0dbe9da4651ba5337b8bfdf0c91d5fda619795772c461f95815e3db5b00b", func := "distaff/distafflaw15.LoopText", spec := "loopText", apart := false, narrowed := true }
def LoopTextUptoSaid : Prop := loopTextUptoRow.holds Try.pinned (OpenSpec.upto loopTextSpec)

/-- 'distafflaw16.FutexText', WHERE WHAT IT READS IS OF BULK AT MOST 1048576: true; the input reads as it did. -/
def futexTextUptoRow : OpenClaim := { program := "ytnoejikcdigceaa", sum := "0b9a0dbe9da4651ba5337b8bfdf0c91d5fda619795772c461f95815e3db5b00b", func := "distaff/distafflaw16.FutexText", spec := "futexText", apart := false, narrowed := true }
def FutexTextUptoSaid : Prop := futexTextUptoRow.holds Try.pinned (OpenSpec.upto futexTextSpec)

/-- 'distafflaw17.LifeText', WHERE WHAT IT READS IS OF BULK AT MOST 1048576: true; the input reads as it did. -/
def lifeTextUptoRow : OpenClaim := { program := "ytnoejikcdigceaa", sum := "0b9a0dbe9da4651ba5337b8bfdf0c91d5fda619795772c461f95815e3db5b00b", func := "distaff/distafflaw17.LifeText", spec := "lifeText", apart := false, narrowed := true }
def LifeTextUptoSaid : Prop := lifeTextUptoRow.holds Try.pinned (OpenSpec.upto lifeTextSpec)

/-- 'distafflaw18.MutexText', WHERE WHAT IT READS IS OF BULK AT MOST 1048576: true; the input reads as it did. -/
def mutexTextUptoRow : OpenClaim := { program := "ytnoejikcdigceaa", sum := "0b9a0dbe9da4651ba5337b8bfdf0c91d5fda619795772c461f95815e3db5b00b", func := "distaff/distafflaw18.MutexText", spec := "mutexText", apart := false, narrowed := true }
def MutexTextUptoSaid : Prop := mutexTextUptoRow.holds Try.pinned (OpenSpec.upto mutexTextSpec)

/-- 'distafflaw19.SemaText', WHERE WHAT IT READS IS OF BULK AT MOST 1048576: true; the input reads as it did. -/
def semaTextUptoRow : OpenClaim := { program := "ytnoejikcdigceaa", sum := "0b9a0dbe9da4651ba5337b8bfdf0c91d5fda619795772c461f95815e3db5b00b", func := "distaff/distafflaw19.SemaText", spec := "semaText", apart := false, narrowed := true }
def SemaTextUptoSaid : Prop := semaTextUptoRow.holds Try.pinned (OpenSpec.upto semaTextSpec)

end Rows
end Go.Proofs.Ytnoejikcdigceaa
