/-
  NARROWER THAN 'FOR EVERY INPUT', by the rows' own cells (each row's printed sentence says how): KernHeld: laid · KernTicks: laid · KernOne: laid · KernClient: laid · KernAgain: laid · KernOwn: laid.
  DERIVED. THE GIVEN ROWS OF THIS SEAT. 6 by the template 'for every input the law returns true; each argument reads behind the call as it read before'; 0 by the template 'total and deterministic' (their statements: YtfnilkpkogipfaaGreatDoorTotals.lean).
  GIVEN WITH THE SEED: the statements are not yours to turn. If you find one false, say at which input.
  Laid BY PROGRAM, IN A SANDBOX (cutbox-rows.mjs): the forced cells as the released guide's own fill.sh prints them over the translation 472f0218eef2fb04… (all of the seat's roots in one cut). By AI agents, Wed Nov 11 2026. No macro, syntax, notation, axiom, sorry.
-/
import Derived.Test.YtfnilkpkogipfaaGreatDoorChecked
import GoSem.Claim
import GoSem.ClaimJoined
import GoSem.ClaimMapViews
import Derived.JoinedTies
import Derived.KernelRfl
namespace Go.Proofs.YtfnilkpkogipfaaGreatDoor
/- THE CELL 'sum', in the pinned program and in every row, IS THE sha256 OF THE DUMP (.gsa) THAT YtfnilkpkogipfaaGreatDoorProg.lean LOADS. Nothing in Lean hashes anything: it is a label: what it is worth is what the hold of that sum in a sandbox is worth. -/
noncomputable def Tryz.pinned : Pinned := { name := "ytfnilkpkogipfaagreatdoor", sum := "472f0218eef2fb04275fb0a620e3742158d6a953ddb83dee6e32195499213c16", checked := Tryz.checked }
namespace Rows
def none {H : Type} : Left H := { results := [], args := [] }

/- WHAT THE LISTED PACKAGE-LEVEL VARIABLES READ AS WHEN THE CALL BEGINS. Each datum BY PROGRAM (the guide's laid-datum.mjs) off the statement by which the dump's own 'gosem.cut.vars' lays the variable. In a bare row this is a premise. The card (YtfnilkpkogipfaaGreatDoorCards.lean) ties it to the program's text. -/
def laid_errors_errorType {H : Type} : DataW H := .iface "internal/reflectlite.rtype" (.agg [.ptr (.lit (.string [101, 114, 114, 111, 114]))])

/-- 'distafflaw13.KernHeld': WHATEVER THE INPUT: true; the input reads as it did. -/
def kernHeldSpec : ChangeSpec := { name := "kernHeld", fn := fun _ => fun
  | [d1, d2, d3] => { results := [.lit (.bool true)], args := [d1, d2, d3] }
  | _ => none }
def kernHeldRow : OpenClaim := { program := "ytfnilkpkogipfaagreatdoor", sum := "472f0218eef2fb04275fb0a620e3742158d6a953ddb83dee6e32195499213c16", func := "distaff/distafflaw13.KernHeld", spec := "kernHeld", inPlace := ["internal/reflectlite.ValueOf", "(internal/reflectlite.Value).Type", "(internal/reflectlite.Value).IsNil", "internal/reflectlite.TypeOf", "(internal/reflectlite.Value).Elem", "(internal/reflectlite.Value).Set"], unfollowed := true, recurses := true, named := ["errors.errorType"], apart := false, laid := [("errors.errorType", laid_errors_errorType)] }
def KernHeldSaid : Prop := kernHeldRow.holds Tryz.pinned (OpenSpec.ofChange kernHeldSpec)

/-- ITS FALSE NEIGHBOUR: 'it returns false'. Refute it at one input. -/
def kernHeldWrong : ChangeSpec := { name := "kernHeld", fn := fun _ => fun
  | [d1, d2, d3] => { results := [.lit (.bool false)], args := [d1, d2, d3] }
  | _ => none }
def KernHeldWrongFalsely : Prop := kernHeldRow.holds Tryz.pinned (OpenSpec.ofChange kernHeldWrong)

/-- 'distafflaw13.KernTicks': WHATEVER THE INPUT: true; the input reads as it did. -/
def kernTicksSpec : ChangeSpec := { name := "kernTicks", fn := fun _ => fun
  | [d1, d2, d3] => { results := [.lit (.bool true)], args := [d1, d2, d3] }
  | _ => none }
def kernTicksRow : OpenClaim := { program := "ytfnilkpkogipfaagreatdoor", sum := "472f0218eef2fb04275fb0a620e3742158d6a953ddb83dee6e32195499213c16", func := "distaff/distafflaw13.KernTicks", spec := "kernTicks", inPlace := ["internal/reflectlite.ValueOf", "(internal/reflectlite.Value).Type", "(internal/reflectlite.Value).IsNil", "internal/reflectlite.TypeOf", "(internal/reflectlite.Value).Elem", "(internal/reflectlite.Value).Set"], unfollowed := true, recurses := true, named := ["errors.errorType"], apart := false, laid := [("errors.errorType", laid_errors_errorType)] }
def KernTicksSaid : Prop := kernTicksRow.holds Tryz.pinned (OpenSpec.ofChange kernTicksSpec)

/-- ITS FALSE NEIGHBOUR: 'it returns false'. Refute it at one input. -/
def kernTicksWrong : ChangeSpec := { name := "kernTicks", fn := fun _ => fun
  | [d1, d2, d3] => { results := [.lit (.bool false)], args := [d1, d2, d3] }
  | _ => none }
def KernTicksWrongFalsely : Prop := kernTicksRow.holds Tryz.pinned (OpenSpec.ofChange kernTicksWrong)

/-- 'distafflaw13.KernOne': WHATEVER THE INPUT: true; the input reads as it did. -/
def kernOneSpec : ChangeSpec := { name := "kernOne", fn := fun _ => fun
  | [d1, d2, d3] => { results := [.lit (.bool true)], args := [d1, d2, d3] }
  | _ => none }
def kernOneRow : OpenClaim := { program := "ytfnilkpkogipfaagreatdoor", sum := "472f0218eef2fb04275fb0a620e3742158d6a953ddb83dee6e32195499213c16", func := "distaff/distafflaw13.KernOne", spec := "kernOne", inPlace := ["internal/reflectlite.ValueOf", "(internal/reflectlite.Value).Type", "(internal/reflectlite.Value).IsNil", "internal/reflectlite.TypeOf", "(internal/reflectlite.Value).Elem", "(internal/reflectlite.Value).Set"], unfollowed := true, recurses := true, named := ["errors.errorType"], apart := false, laid := [("errors.errorType", laid_errors_errorType)] }
def KernOneSaid : Prop := kernOneRow.holds Tryz.pinned (OpenSpec.ofChange kernOneSpec)

/-- ITS FALSE NEIGHBOUR: 'it returns false'. Refute it at one input. -/
def kernOneWrong : ChangeSpec := { name := "kernOne", fn := fun _ => fun
  | [d1, d2, d3] => { results := [.lit (.bool false)], args := [d1, d2, d3] }
  | _ => none }
def KernOneWrongFalsely : Prop := kernOneRow.holds Tryz.pinned (OpenSpec.ofChange kernOneWrong)

/-- 'distafflaw13.KernClient': WHATEVER THE INPUT: true; the input reads as it did. -/
def kernClientSpec : ChangeSpec := { name := "kernClient", fn := fun _ => fun
  | [d1, d2] => { results := [.lit (.bool true)], args := [d1, d2] }
  | _ => none }
def kernClientRow : OpenClaim := { program := "ytfnilkpkogipfaagreatdoor", sum := "472f0218eef2fb04275fb0a620e3742158d6a953ddb83dee6e32195499213c16", func := "distaff/distafflaw13.KernClient", spec := "kernClient", inPlace := ["internal/reflectlite.ValueOf", "(internal/reflectlite.Value).Type", "(internal/reflectlite.Value).IsNil", "internal/reflectlite.TypeOf", "(internal/reflectlite.Value).Elem", "(internal/reflectlite.Value).Set"], unfollowed := true, recurses := true, named := ["errors.errorType"], apart := false, laid := [("errors.errorType", laid_errors_errorType)] }
def KernClientSaid : Prop := kernClientRow.holds Tryz.pinned (OpenSpec.ofChange kernClientSpec)

/-- ITS FALSE NEIGHBOUR: 'it returns false'. Refute it at one input. -/
def kernClientWrong : ChangeSpec := { name := "kernClient", fn := fun _ => fun
  | [d1, d2] => { results := [.lit (.bool false)], args := [d1, d2] }
  | _ => none }
def KernClientWrongFalsely : Prop := kernClientRow.holds Tryz.pinned (OpenSpec.ofChange kernClientWrong)

/-- 'distafflaw13.KernAgain': WHATEVER THE INPUT: true; the input reads as it did. -/
def kernAgainSpec : ChangeSpec := { name := "kernAgain", fn := fun _ => fun
  | [d1, d2, d3, d4] => { results := [.lit (.bool true)], args := [d1, d2, d3, d4] }
  | _ => none }
def kernAgainRow : OpenClaim := { program := "ytfnilkpkogipfaagreatdoor", sum := "472f0218eef2fb04275fb0a620e3742158d6a953ddb83dee6e32195499213c16", func := "distaff/distafflaw13.KernAgain", spec := "kernAgain", inPlace := ["internal/reflectlite.ValueOf", "(internal/reflectlite.Value).Type", "(internal/reflectlite.Value).IsNil", "internal/reflectlite.TypeOf", "(internal/reflectlite.Value).Elem", "(internal/reflectlite.Value).Set"], unfollowed := true, recurses := true, named := ["errors.errorType"], apart := false, laid := [("errors.errorType", laid_errors_errorType)] }
def KernAgainSaid : Prop := kernAgainRow.holds Tryz.pinned (OpenSpec.ofChange kernAgainSpec)

/-- ITS FALSE NEIGHBOUR: 'it returns false'. Refute it at one input. -/
def kernAgainWrong : ChangeSpec := { name := "kernAgain", fn := fun _ => fun
  | [d1, d2, d3, d4] => { results := [.lit (.bool false)], args := [d1, d2, d3, d4] }
  | _ => none }
def KernAgainWrongFalsely : Prop := kernAgainRow.holds Tryz.pinned (OpenSpec.ofChange kernAgainWrong)

/-- 'distafflaw13.KernOwn': WHATEVER THE INPUT: true; the input reads as it did. -/
def kernOwnSpec : ChangeSpec := { name := "kernOwn", fn := fun _ => fun
  | [d1, d2, d3] => { results := [.lit (.bool true)], args := [d1, d2, d3] }
  | _ => none }
def kernOwnRow : OpenClaim := { program := "ytfnilkpkogipfaagreatdoor", sum := "472f0218eef2fb04275fb0a620e3742158d6a953ddb83dee6e32195499213c16", func := "distaff/distafflaw13.KernOwn", spec := "kernOwn", inPlace := ["internal/reflectlite.ValueOf", "(internal/reflectlite.Value).Type", "(internal/reflectlite.Value).IsNil", "internal/reflectlite.TypeOf", "(internal/reflectlite.Value).Elem", "(internal/reflectlite.Value).Set"], unfollowed := true, recurses := true, named := ["errors.errorType"], apart := false, laid := [("errors.errorType", laid_errors_errorType)] }
def KernOwnSaid : Prop := kernOwnRow.holds Tryz.pinned (OpenSpec.ofChange kernOwnSpec)

/-- ITS FALSE NEIGHBOUR: 'it returns false'. Refute it at one input. -/
def kernOwnWrong : ChangeSpec := { name := "kernOwn", fn := fun _ => fun
  | [d1, d2, d3] => { results := [.lit (.bool false)], args := [d1, d2, d3] }
  | _ => none }
def KernOwnWrongFalsely : Prop := kernOwnRow.holds Tryz.pinned (OpenSpec.ofChange kernOwnWrong)

/- THE SECOND FORM. 'bulk': how many values and letters a reading holds, each counted each time it is reached (what is shared counts as often as it is met; a slice's spare places count too). A statement '..UptoSaid' is the law's where the arguments, and the package variables that the reading takes, are together of bulk at most 1048576: NARROWER than '..Said'. Prove '..Said' where nothing that the law and all that it calls make is longer than what came in: it says more and counts as full. Else prove '..UptoSaid'. A law counts once. -/
mutual
def uptoBulk {H : Type} : DataW H → Nat
  | .lit (.string bytes) => bytes.length + 1
  | .lit _ => 1
  | .nil => 1
  | .ptr d => uptoBulk d + 1
  | .slice elems spare => uptoBulkAll elems + uptoBulkAll spare + 1
  | .agg parts => uptoBulkAll parts + 1
  | .iface _ d => uptoBulk d + 1
  | .map entries => uptoBulkEntries entries + 1
  | .held _ => 1
def uptoBulkAll {H : Type} : List (DataW H) → Nat
  | [] => 0
  | d :: r => uptoBulk d + uptoBulkAll r
def uptoBulkEntries {H : Type} : List (Lit × DataW H) → Nat
  | [] => 0
  | x :: r => uptoBulkEntry x + uptoBulkEntries r
def uptoBulkEntry {H : Type} : Lit × DataW H → Nat
  | (.string bytes, d) => bytes.length + uptoBulk d + 1
  | (_, d) => uptoBulk d + 1
 end
def uptoSmall : (H : Type) → List (DataW H) → Bool := fun _ ds => decide (uptoBulkAll ds ≤ 1048576)
def OpenSpec.upto (s : _root_.Go.ChangeSpec) : _root_.Go.OpenSpec := { _root_.Go.OpenSpec.ofChange s with cond := some uptoSmall }

/-- 'distafflaw13.KernHeld', WHERE WHAT IT READS IS OF BULK AT MOST 1048576: true; the input reads as it did. -/
def kernHeldUptoRow : OpenClaim := { program := "ytfnilkpkogipfaagreatdoor", sum := "472f0218eef2fb04275fb0a620e3742158d6a953ddb83dee6e32195499213c16", func := "distaff/distafflaw13.KernHeld", spec := "kernHeld", inPlace := ["internal/reflectlite.ValueOf", "(internal/reflectlite.Value).Type", "(internal/reflectlite.Value).IsNil", "internal/reflectlite.TypeOf", "(internal/reflectlite.Value).Elem", "(internal/reflectlite.Value).Set"], unfollowed := true, recurses := true, named := ["errors.errorType"], apart := false, laid := [("errors.errorType", laid_errors_errorType)], narrowed := true }
def KernHeldUptoSaid : Prop := kernHeldUptoRow.holds Tryz.pinned (OpenSpec.upto kernHeldSpec)

/-- 'distafflaw13.KernTicks', WHERE WHAT IT READS IS OF BULK AT MOST 1048576: true; the input reads as it did. -/
def kernTicksUptoRow : OpenClaim := { program := "ytfnilkpkogipfaagreatdoor", sum := "472f0218eef2fb04275fb0a620e3742158d6a953ddb83dee6e32195499213c16", func := "distaff/distafflaw13.KernTicks", spec := "kernTicks", inPlace := ["internal/reflectlite.ValueOf", "(internal/reflectlite.Value).Type", "(internal/reflectlite.Value).IsNil", "internal/reflectlite.TypeOf", "(internal/reflectlite.Value).Elem", "(internal/reflectlite.Value).Set"], unfollowed := true, recurses := true, named := ["errors.errorType"], apart := false, laid := [("errors.errorType", laid_errors_errorType)], narrowed := true }
def KernTicksUptoSaid : Prop := kernTicksUptoRow.holds Tryz.pinned (OpenSpec.upto kernTicksSpec)

/-- 'distafflaw13.KernOne', WHERE WHAT IT READS IS OF BULK AT MOST 1048576: true; the input reads as it did. -/
def kernOneUptoRow : OpenClaim := { program := "ytfnilkpkogipfaagreatdoor", sum := "472f0218eef2fb04275fb0a620e3742158d6a953ddb83dee6e32195499213c16", func := "distaff/distafflaw13.KernOne", spec := "kernOne", inPlace := ["internal/reflectlite.ValueOf", "(internal/reflectlite.Value).Type", "(internal/reflectlite.Value).IsNil", "internal/reflectlite.TypeOf", "(internal/reflectlite.Value).Elem", "(internal/reflectlite.Value).Set"], unfollowed := true, recurses := true, named := ["errors.errorType"], apart := false, laid := [("errors.errorType", laid_errors_errorType)], narrowed := true }
def KernOneUptoSaid : Prop := kernOneUptoRow.holds Tryz.pinned (OpenSpec.upto kernOneSpec)

/-- 'distafflaw13.KernClient', WHERE WHAT IT READS IS OF BULK AT MOST 1048576: true; the input reads as it did. -/
def kernClientUptoRow : OpenClaim := { program := "ytfnilkpkogipfaagreatdoor", sum := "472f0218eef2fb04275fb0a620e3742158d6a953ddb83dee6e32195499213c16", func := "distaff/distafflaw13.KernClient", spec := "kernClient", inPlace := ["internal/reflectlite.ValueOf", "(internal/reflectlite.Value).Type", "(internal/reflectlite.Value).IsNil", "internal/reflectlite.TypeOf", "(internal/reflectlite.Value).Elem", "(internal/reflectlite.Value).Set"], unfollowed := true, recurses := true, named := ["errors.errorType"], apart := false, laid := [("errors.errorType", laid_errors_errorType)], narrowed := true }
def KernClientUptoSaid : Prop := kernClientUptoRow.holds Tryz.pinned (OpenSpec.upto kernClientSpec)

/-- 'distafflaw13.KernAgain', WHERE WHAT IT READS IS OF BULK AT MOST 1048576: true; the input reads as it did. -/
def kernAgainUptoRow : OpenClaim := { program := "ytfnilkpkogipfaagreatdoor", sum := "472f0218eef2fb04275fb0a620e3742158d6a953ddb83dee6e32195499213c16", func := "distaff/distafflaw13.KernAgain", spec := "kernAgain", inPlace := ["internal/reflectlite.ValueOf", "(internal/reflectlite.Value).Type", "(internal/reflectlite.Value).IsNil", "internal/reflectlite.TypeOf", "(internal/reflectlite.Value).Elem", "(internal/reflectlite.Value).Set"], unfollowed := true, recurses := true, named := ["errors.errorType"], apart := false, laid := [("errors.errorType", laid_errors_errorType)], narrowed := true }
def KernAgainUptoSaid : Prop := kernAgainUptoRow.holds Tryz.pinned (OpenSpec.upto kernAgainSpec)

/-- 'distafflaw13.KernOwn', WHERE WHAT IT READS IS OF BULK AT MOST 1048576: true; the input reads as it did. -/
def kernOwnUptoRow : OpenClaim := { program := "ytfnilkpkogipfaagreatdoor", sum := "472f0218eef2fb04275fb0a620e3742158d6a953ddb83dee6e32195499213c16", func := "distaff/distafflaw13.KernOwn", spec := "kernOwn", inPlace := ["internal/reflectlite.ValueOf", "(internal/reflectlite.Value).Type", "(internal/reflectlite.Value).IsNil", "internal/reflectlite.TypeOf", "(internal/reflectlite.Value).Elem", "(internal/reflectlite.Value).Set"], unfollowed := true, recurses := true, named := ["errors.errorType"], apart := false, laid := [("errors.errorType", laid_errors_errorType)], narrowed := true }
def KernOwnUptoSaid : Prop := kernOwnUptoRow.holds Tryz.pinned (OpenSpec.upto kernOwnSpec)

end Rows
end Go.Proofs.YtfnilkpkogipfaaGreatDoor
