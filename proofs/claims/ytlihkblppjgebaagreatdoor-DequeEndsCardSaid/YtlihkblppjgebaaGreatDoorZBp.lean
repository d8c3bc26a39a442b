import Derived.Test.YtlihkblppjgebaaGreatDoorCards
import Derived.Test.YtlihkblppjgebaaGreatDoorTie
import Derived.HandedShaped
import Derived.LaidMore
import Derived.LaidHandle
import Derived.ProofKit
import Derived.OpenShut
import Derived.ChangeSame
import Derived.Stop.Joined
import Derived.WideKeyArgs
import Derived.Test.YtlihkblppjgebaaGreatDoorZBm
set_option linter.all false
set_option maxRecDepth 100000
set_option maxHeartbeats 8000000
namespace Go.Proofs.YtlihkblppjgebaaGreatDoor
open Go.RowKit Go.Proofs.Tryz
section
open Go.ChangeAt Go.ChangeShapes Go.WideShapes
theorem own:ownKnob prog.godebug=none:=by kernel_rfl
theorem B7{H:Type}{enc:TypeId×Value->H}{a:Assume}{C:Checked}{os:Os}{f:FuncId}{b:Func}{s:ChangeSpec}{conds:List PathCond}{apart fresh handsOn again:Bool}{X:World->Array Value->Prop}
 (l:∀(w w':World) (args:Array Value),w.heap=w'.heap->X w args->X w' args)
 (own:ownKnob C.prog.godebug=none) (started:os.Started) (B:C.prog.inits.idxOf? f=none) (n:C.prog.funcs[f]?=some b)
 (witness:∃(w:World) (tape:Tape) (i:Input),w.os=os/\(w.forCall tape i).Shaped C.prog/\i.vars=[]/\Input.okWide C.prog (w.forCall tape i) .any w.heap.size f i/\
  ((s.pre enc C.prog b conds apart (w.forCall tape i).memory i.args/\X (w.forCall tape i).memory i.args)/\sizedMet enc C.prog b (OpenSpec.ofChange s) apart (w.forCall tape i).memory i.args)/\a.holds C.prog (lone (Frame.enter C.prog f i.args .normal) [] (w.forCall tape i)))
 (h:∀(W:World) (base:Nat) (args:Array Value) (c d:List (DataW H)) (before:List MemPlace),
  (∀(j:Nat) t v,b.params[j]?=some t->args[j]?=some v->Value.okWide C.prog W .any base t v)->
  DataW.Whole enc C.prog b.params.toList s.vars apart W args.toList c d before->
  (DataW.weightsEach C.prog (b.params.toList++s.plain.varTypes C.prog) (c++d)).all (·<=reachBytes)=true->X W args->W.ShapedOpen C.prog->
  Calls C.prog f args W fun e g=>∃v,e=.returned v/\s.post enc C.prog b apart fresh handsOn again W args v g):
 ReturnsInHanded a C os f .any (fun w args=>(s.pre enc C.prog b conds apart w args/\X w args)/\sizedMet enc C.prog b (OpenSpec.ofChange s) apart w args) (s.post enc C.prog b apart fresh handsOn again):=by
 refine returnsInHanded_of_calls own started B witness ?_;intro w tape i _ u _ p r _;obtain⟨_,_,_,k,o,_,_,_,_,x⟩:=p;have e:k=b:=Option.some.inj (o.symm.trans n);subst e;obtain⟨⟨⟨c,d,before,hw,D⟩,z⟩,A⟩:=r;have y:=DataW.Whole.of_heap (w':=w.forCall tape i) (by rfl) hw;refine(h (w.forCall tape i) w.heap.size i.args c d before x y (A.weights hw) (l _ _ _ (by rfl) z) u).mono fun e g ⟨v,m,q⟩=> ?_
 subst m;exact ChangeSpec.post_blind q
theorem po{H:Type}{enc:TypeId×Value->H}{P:Program}{f:Func}{s:ChangeSpec}{apart fresh handsOn again:Bool}{W d:World}{args:Array Value}{v:Value}{e g:List (DataW H)}{before pa pv:List MemPlace}
 (i:DataW.Whole enc P f.params.toList s.vars apart W args.toList e g before)
 (n:∀(b:Nat) (c:Nat->Bool) (u:Bool),DataW.TrodAll enc P d b c u f.resultTypes.toList (v.resultList f.resultTypes.size) (s.fn H (e++g)).results [])
 (k:∀c:Nat->Bool,(∀p∈before,c p.block=true)->DataW.TrodAll enc P d 0 c true f.params.toList args.toList (s.fn H (e++g)).args pa)
 (o:∀c:Nat->Bool,(∀p∈before,c p.block=true)->DataW.TrodVars enc P d c s.vars (s.fn H (e++g)).vars pv)
 (h:before=pa++pv) (hb:Below W.heap.size W d)
 (x:∀(j:Nat) (t:TypeId) (r:Value),f.resultTypes[j]?=some t->(v.resultList f.resultTypes.size)[j]?=some r->Value.okWide P d .any 0 t r):
 s.post enc P f apart fresh handsOn again W args v d:=by
 have m:∀p∈before,p.block<W.heap.size:=fun p a=>i.lt p a
 have hold:∀p∈before,(fun b=>decide (b<W.heap.size)) p.block=true:=fun p a=>by simpa using m p a
 refine⟨e,g,before,[],pa,pv,i,n _ _ _,k _ hold,o _ hold,World.keptBut_mono (fun p a=>⟨a,?_⟩) (hb.frame (·∈before)),fun _=> ?_⟩
 ·rw[h,List.mem_append]at a
  exact Or.inr a
 ·obtain⟨_,_,_,_,_,y,w⟩:=i
  refine⟨x,_,_,([]++pa)++pv,⟨[]++pa,pv,trodAll_append (k _ (fun _ _=>rfl)) (n _ _ _),o _ (fun _ _=>rfl),rfl,?_,?_⟩,?_⟩
  ·intro b off a
   have l:MemPlace.cell b off∈before:=(by rw[h];simpa using a);rw[hb.frozen (m _ l)];exact y b off l
  ·intro q
   have:=w q;rw[h]at this;simpa using this
  ·intro p a _
   rw[h];simpa using a
theorem De.et:prog.globalNamed "errors.errorType" =some 0:=by kernel_rfl
theorem De.rt:(prog.cutTypes.find? (·.1== "internal/reflectlite.rtype")).map (·.2)=some 390:=by kernel_rfl
theorem De.Df:((List.range 446).filter fun t=>prog.rowNamed t [101,114,114,111,114])=[85]:=by kernel_rfl
theorem De.size:prog.types.size=446:=by kernel_rfl
theorem zA:laidOutB prog=true:=by kernel_rfl
theorem gQ{H:Type}{enc:TypeId×Value->H}{W b:World}{T:TypeId}{v:Value}{d:DataW H}{a:List MemPlace}(f:prog.readableRec T=true)(g:T<prog.types.size)
 (h:DataW.Trod enc prog W 0 (fun _=>true) true T v d a) (hb:Below W.heap.size W b) (e:∀x∈a,x.block<W.heap.size) {c:Nat->Bool} (i:∀p∈a,c p.block=true):DataW.Trod enc prog b 0 c true T v d a:=
 WideElems.Trod_stays zA f g h (fun x j=>hb.same (e x j)) i
end
end Go.Proofs.YtlihkblppjgebaaGreatDoor
