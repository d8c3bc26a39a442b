/- LoopQuantum: a thread that never calls is turned out behind Quantum steps: the law returns true, for every seed. No condition. -/
import Derived.Test.YtlihkblppjgebaaGreatDoorZAp
set_option linter.all false
set_option maxRecDepth 100000
set_option maxHeartbeats 0
namespace Go.Proofs.YtlihkblppjgebaaGreatDoor
open Go.RowKit Go.Proofs.Tryz
open Go.ChangeAt Go.ChangeShapes Go.WideShapes
theorem KE(os:Os)(started:os.Started)(l:Type)(enc:TypeId×Value->l):
 ReturnsInHanded {} Tryz.checked os 8 .any (fun w args=>(Rows.loopQuantumSpec.pre enc prog Tryz.f8 [] false w args/\laidMetH prog Nc w)/\sizedMet enc prog Tryz.f8 (OpenSpec.ofChange Rows.loopQuantumSpec) false w args)
  (Rows.loopQuantumSpec.post enc prog Tryz.f8 false true false false):=by
 refine Ga (C:=Tryz.checked) (X:=fun w _=>laidMetH prog Nc w) (fun _ _ _ z h=>h.of_heap z) own started (by kernel_rfl) func8
  (ChangeSpec.witness_shaped (enc:=enc) (C:=Tryz.checked) (os:=os) (X:=fun w _=>laidMetH prog Nc w) false (Lt os) #[.int .u64 0] 8 rfl (World.shaped_of_RefB (by kernel_rfl) (by kernel_rfl)) (by kernel_rfl) (by kernel_rfl) (by kernel_rfl) (MY os _)) ?_
 intro W base args n J before H g N o G;have i:∀(j:Nat) t v,Tryz.f8.params[j]?=some t->args[j]?=some v->Value.okWide prog W .any base t v:=H;have b:=g;obtain⟨p,q,hA0,r,rfl,K,M⟩:=g;have f:DataW.TrodAll enc prog W 0 (fun _=>true) true Tryz.f8.params.toList args.toList n p:=hA0;rw[Tryz.params8]at f i;obtain⟨I,d0,rfl,rfl,d⟩:=trodAll_one f;obtain⟨rfl,rfl⟩:=trodVars_none r;obtain⟨k,rfl⟩:=okWide_int underlying39 (i 0 39 I rfl rfl);have F:aK k:=by
  obtain⟨fuel,y⟩:=d;obtain⟨O,c,-,w2⟩:=DataW.trod_int underlying39 y;simp[Value.cells]at c;subst c;exact o6 w2
 simp only[List.append_nil]at b;have A:∀x∈p,x.block<W.heap.size:=fun x a=>b.lt x a
 obtain⟨m,B⟩:=KF G;obtain⟨T,U,D,L,X⟩:=Mh;refine(KD X k F m W B (JK o)).mono fun e W' ⟨u,s⟩=> ?_
 subst u;have hb:=s.ib;exact⟨_,rfl,yB (pa:=p) (pv:=[]) b (fun _ _ _=>trodAll_mk1 (shut_bool underlying4 _))
  (fun P E=>trodAll_mk1 (l8 (by kernel_rfl) (of_decide_eq_true (by kernel_rfl)) d hb (fun x a=>A x (by simp[a])) (fun x a=>E x (by simp[a])))) (fun _ _=>rfl) (by simp)
  hb (ok_one (by kernel_rfl) rfl (okWide_bool_mk underlying4 _))⟩
theorem Fi:laidOutB Tryz.pinned.checked.prog=true:=by kernel_rfl
theorem Fj:mapsRowed Tryz.pinned.checked.prog=true:=by kernel_rfl
theorem Fk:(Rows.loopQuantumRow.inPlace==Tryz.pinned.checked.prog.inPlace 8)=true:=by kernel_rfl
theorem Fl:(Rows.loopQuantumRow.unfollowed==Tryz.pinned.checked.prog.unfollowed 8)=true:=by kernel_rfl
theorem Fm:(Rows.loopQuantumRow.recurses==Tryz.pinned.checked.prog.recurses 8)=true:=by kernel_rfl
theorem Fo:(Rows.loopQuantumRow.named==Tryz.pinned.checked.prog.varsNamed 8)=true:=by kernel_rfl
theorem Fp:Tryz.pinned.checked.prog.stopsHeard=true:=by kernel_rfl
theorem Fq:Tryz.pinned.checked.prog.mayEnter=true:=by kernel_rfl
theorem Fs:(Rows.loopQuantumRow.lifted==Tryz.pinned.checked.prog.liftsFinal)=true:=by kernel_rfl
theorem K7:joinedFacts Tryz.pinned.checked.prog 8 Tryz.f8 Rows.loopQuantumSpec Rows.loopQuantumRow=true:=by
 unfold joinedFacts;rw[Fi,Fj,Fk,Fl,Fm,Fo,Fp,Fq,Fs]
 kernel_rfl
theorem K8:Rows.LoopQuantumSaid:=
 OpenClaim.holds_of_wide 8 Tryz.f8 rfl rfl rfl rfl rfl rfl rfl ⟨rfl,rfl,rfl,rfl,rfl⟩ rfl rfl rfl rfl rfl (by as_aux_lemma=>kernel_rfl) func8 K7
  (of_decide_eq_true (by kernel_rfl)) (by unfold Func.isWrapper;rw[if_neg (of_decide_eq_false (by kernel_rfl))];exact⟨rfl,rfl⟩)
  (fun os started a enc _=>KE os started a enc)
theorem quantum_proved:Rows.LoopQuantumCardSaid:=
 Claim7.holds_tied_plain_at .later [] [.data,.handle,.pinned] true (true, "60ab844b118abf1c82e7a2b909b6e729ebf9f59389591a3667b4425081f96d82") true
  K8 (fun _ h=>by cases h) (by kernel_rfl) (fun _ h=>by cases h) loopQuantum_row_tie rfl ⟨rfl,rfl⟩ (by kernel_rfl) rfl
  (fun f b d e=>by
   obtain rfl:f=8:=Option.some.inj ((show prog.funcNamed "distaff/distafflaw15.LoopQuantum" =some 8 by kernel_rfl).symm.trans d)|>.symm
   obtain rfl:b=Tryz.f8:=(Option.some.inj (func8.symm.trans e)).symm;exact⟨by kernel_rfl,fun j t a=>by
    rw[Tryz.params8]at a;have c:t=39:=by
     rcases j with _|j
     ·simpa using a.symm
     ·simp at a
    subst c;exact(show prog.wantsStandIn 39=false by kernel_rfl)⟩)
  (by kernel_rfl)
#print axioms quantum_proved
end Go.Proofs.YtlihkblppjgebaaGreatDoor
