/- DequeOnce: each thread is in one deque once, or was taken once: the law returns true, for every number of workers and every script. No condition. -/
import Derived.Test.YtlihkblppjgebaaGreatDoorZBw
import Derived.Test.YtlihkblppjgebaaGreatDoorZBy
set_option linter.all false
set_option maxRecDepth 100000
set_option maxHeartbeats 8000000
namespace Go.Proofs.YtlihkblppjgebaaGreatDoor
open Go.RowKit Go.Proofs.Tryz
section
open Go.ChangeAt Go.ChangeShapes Go.WideShapes
theorem kP(os:Os)(started:os.Started)(H:Type)(enc:TypeId×Value->H):
 ReturnsInHanded {} Tryz.checked os 7 .any (fun w args=>(Rows.dequeOnceSpec.pre enc prog Tryz.f7 [] false w args/\laidMetH prog Rh w)/\sizedMet enc prog Tryz.f7 (OpenSpec.ofChange Rows.dequeOnceSpec) false w args)
  (Rows.dequeOnceSpec.post enc prog Tryz.f7 false true false false):=by
 refine B7 (C:=Tryz.checked) (X:=fun w _=>laidMetH prog Rh w) (fun _ _ _ F h=>h.of_heap F) own started (by kernel_rfl) func7
  (ChangeSpec.witness_shaped (enc:=enc) (C:=Tryz.checked) (os:=os) (X:=fun w _=>laidMetH prog Rh w) false (Lg os) #[.int .i64 0,.slice none 0 0] 8 rfl (World.shaped_of_RefB (by kernel_rfl) (by kernel_rfl)) (by kernel_rfl) (by kernel_rfl) (by kernel_rfl) (PA os _)) ?_
 intro W base args s P before n g S y J;have c:∀(j:Nat) t v,Tryz.f7.params[j]?=some t->args[j]?=some v->Value.okWide prog W .any base t v:=n;have b:=g;obtain⟨p,q,hA0,z,rfl,Q,R⟩:=g;have f:DataW.TrodAll enc prog W 0 (fun _=>true) true Tryz.f7.params.toList args.toList s p:=hA0;rw[Tryz.params7]at f c;obtain⟨M,N,d0,d1,o,r,rfl,rfl,rfl,u,d⟩:=trodAll_two f;obtain⟨rfl,rfl⟩:=trodVars_none z;obtain⟨K,rfl⟩:=okWide_int underlying3 (c 0 3 M rfl rfl);obtain⟨V,Z,Y,rfl⟩:=okWide_slice underlying29 (c 1 29 N rfl rfl);obtain⟨l,G,B⟩:=lO d (by simp[Value.cells]);clear hA0 n;simp only[List.append_nil]at b;have i:∀x∈o++r,x.block<W.heap.size:=fun x a=>b.lt x a
 obtain⟨m,I⟩:=Km J;obtain⟨T,D,L,X⟩:=Na;refine(nV X K l B _ W G m I (It y)).mono fun e O ⟨E,A⟩=> ?_
 subst E;have hb:=A.gU;exact⟨_,rfl,po (pa:=o++r) (pv:=[]) b (fun _ _ _=>trodAll_mk1 (shut_bool underlying4 _))
  (fun U k=>trodAll_mk2 (gQ (by kernel_rfl) (of_decide_eq_true (by kernel_rfl)) u hb (fun x a=>i x (by simp[a])) (fun x a=>k x (by simp[a])))
   (gQ (by kernel_rfl) (of_decide_eq_true (by kernel_rfl)) d hb (fun x a=>i x (by simp[a])) (fun x a=>k x (by simp[a])))) (fun _ _=>rfl) (by simp)
  hb (ok_one (by kernel_rfl) rfl (okWide_bool_mk underlying4 _))⟩
theorem PB:laidOutB Tryz.pinned.checked.prog=true:=by kernel_rfl
theorem PC:mapsRowed Tryz.pinned.checked.prog=true:=by kernel_rfl
theorem PD:(Rows.dequeOnceRow.inPlace==Tryz.pinned.checked.prog.inPlace 7)=true:=by kernel_rfl
theorem PE:(Rows.dequeOnceRow.unfollowed==Tryz.pinned.checked.prog.unfollowed 7)=true:=by kernel_rfl
theorem PF:(Rows.dequeOnceRow.recurses==Tryz.pinned.checked.prog.recurses 7)=true:=by kernel_rfl
theorem PG:(Rows.dequeOnceRow.named==Tryz.pinned.checked.prog.varsNamed 7)=true:=by kernel_rfl
theorem PH:Tryz.pinned.checked.prog.stopsHeard=true:=by kernel_rfl
theorem PI:Tryz.pinned.checked.prog.mayEnter=true:=by kernel_rfl
theorem PJ:(Rows.dequeOnceRow.lifted==Tryz.pinned.checked.prog.liftsFinal)=true:=by kernel_rfl
theorem lE:joinedFacts Tryz.pinned.checked.prog 7 Tryz.f7 Rows.dequeOnceSpec Rows.dequeOnceRow=true:=by
 unfold joinedFacts;rw[PB,PC,PD,PE,PF,PG,PH,PI,PJ]
 kernel_rfl
theorem lI:Rows.DequeOnceSaid:=
 OpenClaim.holds_of_wide 7 Tryz.f7 rfl rfl rfl rfl rfl rfl rfl ⟨rfl,rfl,rfl,rfl,rfl⟩ rfl rfl rfl rfl rfl (by as_aux_lemma=>kernel_rfl) func7 lE
  (of_decide_eq_true (by kernel_rfl)) (by unfold Func.isWrapper;rw[if_neg (of_decide_eq_false (by kernel_rfl))];exact⟨rfl,rfl⟩)
  (fun os started H enc _=>kP os started H enc)
theorem once_proved:Rows.DequeOnceCardSaid:=
 Claim7.holds_tied_plain_at .later [] [.data,.handle,.pinned] true (true, "60ab844b118abf1c82e7a2b909b6e729ebf9f59389591a3667b4425081f96d82") true
  lI (fun _ h=>by cases h) (by kernel_rfl) (fun _ h=>by cases h) dequeOnce_row_tie rfl ⟨rfl,rfl⟩ (by kernel_rfl) rfl
  (fun f b d e=>by
   obtain rfl:f=7:=Option.some.inj ((show prog.funcNamed "distaff/distafflaw14.DequeOnce" =some 7 by kernel_rfl).symm.trans d)|>.symm
   obtain rfl:b=Tryz.f7:=(Option.some.inj (func7.symm.trans e)).symm;exact⟨by kernel_rfl,fun j t a=>by
    rw[Tryz.params7]at a;have c:t=3∨t=29:=by
     rcases j with _|_|j
     ·exact Or.inl (by simpa using a.symm)
     ·exact Or.inr (by simpa using a.symm)
     ·simp at a
    rcases c with rfl|rfl
    ·exact(show prog.wantsStandIn 3=false by kernel_rfl)
    ·exact(show prog.wantsStandIn 29=false by kernel_rfl)⟩)
  (by kernel_rfl)
#print axioms once_proved
end
end Go.Proofs.YtlihkblppjgebaaGreatDoor
