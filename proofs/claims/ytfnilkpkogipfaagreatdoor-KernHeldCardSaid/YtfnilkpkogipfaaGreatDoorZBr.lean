import Derived.Test.YtfnilkpkogipfaaGreatDoorZBp
set_option linter.all false
set_option maxRecDepth 100000
set_option maxHeartbeats 8000000
namespace Go.Proofs.YtfnilkpkogipfaaGreatDoor
open Go.RowKit Go.Proofs.Tryz
theorem xw{P:Program}{b:Oper}{a:Act}{w w':World}{next:Act->World->Prop}{Q:Exit->Act->World->Prop}{v:Value}(h:(execOp a.eval b).run P w=.ok (.value v) w')(k:next (a.put b.dst v) w'):b.wp P a w next Q:=by
 unfold Oper.wp;rw[h];exact k
set_option maxRecDepth 1000000 in
theorem xx(w:World):Calls prog 83 #[] w (fun e w'=>e=.returned (.slice (some (w.heap.size,0)) 45 45)/\Row w' w.heap.size 194 (dA.flatMap pC)/\Ch ag w w'):=by
 go_enter func83,ntmps83
 go_wp2
 refine xw (v:=.slice (some (w.heap.size,0)) 45 45) (w':=w.alloc (.cells (dA.flatMap pC).toArray 194)) (by kernel_rfl) ?_;go_wp2
 go_ret;refine⟨rfl,?_,(Ch.refl _ _).alloc _⟩;have h:=Row.new w (dA.flatMap pC).toArray 194;exact h
end Go.Proofs.YtfnilkpkogipfaaGreatDoor
