import Derived.LaidEql
import Derived.Stop.Asserts
import Derived.RowKitTokens
import Derived.Test.YtmfnplmcfkkdpaaGreatDoorZAa
set_option linter.all false
set_option maxRecDepth 100000
set_option maxHeartbeats 0
namespace Go.Proofs.YtmfnplmcfkkdpaaGreatDoor
open Go.RowKit Go.Proofs.Tryz
section
open Go.Extern Go.Extern.Stop Go.Stop
theorem DW(t:Value)(w:World):
 Calls prog 122 #[.nilIface,t] w fun e w'=>e=.returned (.bool false)/\w'=w:=by
 go_wp2
 go_ret;exact⟨rfl,rfl⟩
end
variable{w:World}{v:Value}
def aS(w:World)(v v':Value):Prop:=∀g,v'.ownBlock=some g->v.ownBlock=some g∨w.heap.size<=g
theorem aS.refl(w:World)(v:Value):aS w v v:=fun _ h=>Or.inl h
theorem aS.of_eq{v':Value}(h:v'.ownBlock=v.ownBlock):aS w v v':=fun _ a=>Or.inl (h▸a)
theorem aS.trans{w1:World}{a b c:Value}(h:aS w a b)(f:w.heap.size<=w1.heap.size)(k:aS w1 b c):aS w a c:=fun g e=>by
 rcases k g e with d|d
 ·exact h g d
 ·exact Or.inr (Nat.le_trans f d)
theorem aS.nil(w:World)(v:Value):aS w v (.slice none 0 0):=fun g a=>by cases a
theorem aS.at{a n c:Nat}(h:v.ownBlock=some a∨w.heap.size<=a):aS w v (.slice (some (a,0)) n c):=fun i b=>by
 have:a=i:=by simpa[Value.ownBlock]using b
 subst this;exact h
