/- DequeEnds: one after the other: the law returns true, for every list of operations. No condition. -/
import Derived.Test.YtlihkblppjgebaaGreatDoorZBw
import Derived.Test.YtlihkblppjgebaaGreatDoorZBx
set_option linter.all false
set_option maxRecDepth 100000
set_option maxHeartbeats 8000000
namespace Go.Proofs.YtlihkblppjgebaaGreatDoor
open Go.RowKit Go.Proofs.Tryz
section
open Go.ChangeAt Go.ChangeShapes Go.WideShapes
theorem lq(os:Os)(started:os.Started)(H:Type)(enc:TypeId×Value->H):
 ReturnsInHanded {} Tryz.checked os 5 .any (fun w args=>(Rows.dequeEndsSpec.pre enc prog Tryz.f5 [] false w args/\laidMetH prog Rh w)/\sizedMet enc prog Tryz.f5 (OpenSpec.ofChange Rows.dequeEndsSpec) false w args)
  (Rows.dequeEndsSpec.post enc prog Tryz.f5 false true false false):=by
 refine B7 (C:=Tryz.checked) (X:=fun w _=>laidMetH prog Rh w) (fun _ _ _ u h=>h.of_heap u) own started (by kernel_rfl) func5
  (ChangeSpec.witness_shaped (enc:=enc) (C:=Tryz.checked) (os:=os) (X:=fun w _=>laidMetH prog Rh w) false (Lg os) #[.slice none 0 0] 8 rfl (World.shaped_of_RefB (by kernel_rfl) (by kernel_rfl)) (by kernel_rfl) (by kernel_rfl) (by kernel_rfl) (PA os _)) ?_
 intro W base args k I before i f M n E;have g:∀(j:Nat) t v,Tryz.f5.params[j]?=some t->args[j]?=some v->Value.okWide prog W .any base t v:=i;have b:=f;obtain⟨p,q,hA0,o,rfl,J,K⟩:=f;have d:DataW.TrodAll enc prog W 0 (fun _=>true) true Tryz.f5.params.toList args.toList k p:=hA0;rw[Tryz.params5]at d g;obtain⟨F,d0,rfl,rfl,c⟩:=trodAll_one d;obtain⟨rfl,rfl⟩:=trodVars_none o;obtain⟨O,Q,P,rfl⟩:=okWide_slice underlying45 (g 0 45 F rfl rfl);obtain⟨l,y⟩:=open_ints c (by simp[Value.cells]);clear hA0 i;simp only[List.append_nil]at b;have z:∀x∈p,x.block<W.heap.size:=fun x a=>b.lt x a
 obtain⟨m,A⟩:=Km E;obtain⟨T,D,L,X⟩:=Na;refine(nT X l _ W y m A (It n)).mono fun e G ⟨s,r⟩=> ?_
 subst s;have hb:=r.gU;exact⟨_,rfl,po (pa:=p) (pv:=[]) b (fun _ _ _=>trodAll_mk1 (shut_bool underlying4 _))
  (fun N B=>trodAll_mk1 (gQ (by kernel_rfl) (of_decide_eq_true (by kernel_rfl)) c hb (fun x a=>z x a) (fun x a=>B x a))) (fun _ _=>rfl) (by simp)
  hb (ok_one (by kernel_rfl) rfl (okWide_bool_mk underlying4 _))⟩
theorem PB:laidOutB Tryz.pinned.checked.prog=true:=by kernel_rfl
theorem PC:mapsRowed Tryz.pinned.checked.prog=true:=by kernel_rfl
theorem PD:(Rows.dequeEndsRow.inPlace==Tryz.pinned.checked.prog.inPlace 5)=true:=by kernel_rfl
theorem PE:(Rows.dequeEndsRow.unfollowed==Tryz.pinned.checked.prog.unfollowed 5)=true:=by kernel_rfl
theorem PF:(Rows.dequeEndsRow.recurses==Tryz.pinned.checked.prog.recurses 5)=true:=by kernel_rfl
theorem PG:(Rows.dequeEndsRow.named==Tryz.pinned.checked.prog.varsNamed 5)=true:=by kernel_rfl
theorem PH:Tryz.pinned.checked.prog.stopsHeard=true:=by kernel_rfl
theorem PI:Tryz.pinned.checked.prog.mayEnter=true:=by kernel_rfl
theorem PJ:(Rows.dequeEndsRow.lifted==Tryz.pinned.checked.prog.liftsFinal)=true:=by kernel_rfl
theorem ma:joinedFacts Tryz.pinned.checked.prog 5 Tryz.f5 Rows.dequeEndsSpec Rows.dequeEndsRow=true:=by
 unfold joinedFacts;rw[PB,PC,PD,PE,PF,PG,PH,PI,PJ]
 kernel_rfl
theorem mg:Rows.DequeEndsSaid:=
 OpenClaim.holds_of_wide 5 Tryz.f5 rfl rfl rfl rfl rfl rfl rfl ⟨rfl,rfl,rfl,rfl,rfl⟩ rfl rfl rfl rfl rfl (by as_aux_lemma=>kernel_rfl) func5 ma
  (of_decide_eq_true (by kernel_rfl)) (by unfold Func.isWrapper;rw[if_neg (of_decide_eq_false (by kernel_rfl))];exact⟨rfl,rfl⟩)
  (fun os started H enc _=>lq os started H enc)
theorem ends_proved:Rows.DequeEndsCardSaid:=
 Claim7.holds_tied_plain_at .later [] [.data,.handle,.pinned] true (true, "60ab844b118abf1c82e7a2b909b6e729ebf9f59389591a3667b4425081f96d82") true
  mg (fun _ h=>by cases h) (by kernel_rfl) (fun _ h=>by cases h) dequeEnds_row_tie rfl ⟨rfl,rfl⟩ (by kernel_rfl) rfl
  (fun f b d e=>by
   obtain rfl:f=5:=Option.some.inj ((show prog.funcNamed "distaff/distafflaw14.DequeEnds" =some 5 by kernel_rfl).symm.trans d)|>.symm
   obtain rfl:b=Tryz.f5:=(Option.some.inj (func5.symm.trans e)).symm;exact⟨by kernel_rfl,fun j t a=>by
    rw[Tryz.params5]at a;have c:t=45:=by
     rcases j with _|j
     ·simpa using a.symm
     ·simp at a
    subst c;exact(show prog.wantsStandIn 45=false by kernel_rfl)⟩)
  (by kernel_rfl)
#print axioms ends_proved
end
end Go.Proofs.YtlihkblppjgebaaGreatDoor
