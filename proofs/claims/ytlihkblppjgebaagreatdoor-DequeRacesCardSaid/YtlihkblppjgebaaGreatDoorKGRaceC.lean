/- DequeRaces: one of the workers has the thread: the law returns true, for every number of thieves and every order. No condition. -/
import Derived.Test.YtlihkblppjgebaaGreatDoorZBt
set_option linter.all false
set_option maxRecDepth 100000
set_option maxHeartbeats 8000000
namespace Go.Proofs.YtlihkblppjgebaaGreatDoor
open Go.RowKit Go.Proofs.Tryz
section
open Go.ChangeAt Go.ChangeShapes Go.WideShapes
theorem Kn(os:Os)(started:os.Started)(H:Type)(enc:TypeId×Value->H):
 ReturnsInHanded {} Tryz.checked os 4 .any (fun w args=>(Rows.dequeRacesSpec.pre enc prog Tryz.f4 [] false w args/\laidMetH prog Rh w)/\sizedMet enc prog Tryz.f4 (OpenSpec.ofChange Rows.dequeRacesSpec) false w args)
  (Rows.dequeRacesSpec.post enc prog Tryz.f4 false true false false):=by
 refine B7 (C:=Tryz.checked) (X:=fun w _=>laidMetH prog Rh w) (fun _ _ _ F h=>h.of_heap F) own started (by kernel_rfl) func4
  (ChangeSpec.witness_shaped (enc:=enc) (C:=Tryz.checked) (os:=os) (X:=fun w _=>laidMetH prog Rh w) false (Lg os) #[.int .i64 0,.slice none 0 0] 8 rfl (World.shaped_of_RefB (by kernel_rfl) (by kernel_rfl)) (by kernel_rfl) (by kernel_rfl) (by kernel_rfl) (PA os _)) ?_
 intro W base args u P before o i S z J;have d:∀(j:Nat) t v,Tryz.f4.params[j]?=some t->args[j]?=some v->Value.okWide prog W .any base t v:=o;have b:=i;obtain⟨p,q,hA0,A,rfl,Q,R⟩:=i;have g:DataW.TrodAll enc prog W 0 (fun _=>true) true Tryz.f4.params.toList args.toList u p:=hA0;rw[Tryz.params4]at g d;obtain⟨M,N,d0,d1,r,s,rfl,rfl,rfl,y,f⟩:=trodAll_two g;obtain⟨rfl,rfl⟩:=trodVars_none A;obtain⟨K,rfl⟩:=okWide_int underlying3 (d 0 3 M rfl rfl);obtain⟨V,Z,Y,rfl⟩:=okWide_slice underlying45 (d 1 45 N rfl rfl);obtain⟨l,G⟩:=open_ints f (by simp[Value.cells]);clear hA0 o;simp only[List.append_nil]at b;have k:∀x∈r++s,x.block<W.heap.size:=fun x a=>b.lt x a
 obtain⟨m,I⟩:=Km J;obtain⟨T,D,L,X⟩:=Na;refine(KG X K l _ W G m I (It z)).mono fun e O ⟨E,B⟩=> ?_
 subst E;have c:=B.gU;exact⟨_,rfl,po (pa:=r++s) (pv:=[]) b (fun _ _ _=>trodAll_mk1 (shut_bool underlying4 _))
  (fun U n=>trodAll_mk2 (gQ (by kernel_rfl) (of_decide_eq_true (by kernel_rfl)) y c (fun x a=>k x (by simp[a])) (fun x a=>n x (by simp[a])))
   (gQ (by kernel_rfl) (of_decide_eq_true (by kernel_rfl)) f c (fun x a=>k x (by simp[a])) (fun x a=>n x (by simp[a])))) (fun _ _=>rfl) (by simp)
  c (ok_one (by kernel_rfl) rfl (okWide_bool_mk underlying4 _))⟩
theorem PB:laidOutB Tryz.pinned.checked.prog=true:=by kernel_rfl
theorem PC:mapsRowed Tryz.pinned.checked.prog=true:=by kernel_rfl
theorem PD:(Rows.dequeRacesRow.inPlace==Tryz.pinned.checked.prog.inPlace 4)=true:=by kernel_rfl
theorem PE:(Rows.dequeRacesRow.unfollowed==Tryz.pinned.checked.prog.unfollowed 4)=true:=by kernel_rfl
theorem PF:(Rows.dequeRacesRow.recurses==Tryz.pinned.checked.prog.recurses 4)=true:=by kernel_rfl
theorem PG:(Rows.dequeRacesRow.named==Tryz.pinned.checked.prog.varsNamed 4)=true:=by kernel_rfl
theorem PH:Tryz.pinned.checked.prog.stopsHeard=true:=by kernel_rfl
theorem PI:Tryz.pinned.checked.prog.mayEnter=true:=by kernel_rfl
theorem PJ:(Rows.dequeRacesRow.lifted==Tryz.pinned.checked.prog.liftsFinal)=true:=by kernel_rfl
theorem KH:joinedFacts Tryz.pinned.checked.prog 4 Tryz.f4 Rows.dequeRacesSpec Rows.dequeRacesRow=true:=by
 unfold joinedFacts;rw[PB,PC,PD,PE,PF,PG,PH,PI,PJ]
 kernel_rfl
theorem KI:Rows.DequeRacesSaid:=
 OpenClaim.holds_of_wide 4 Tryz.f4 rfl rfl rfl rfl rfl rfl rfl ⟨rfl,rfl,rfl,rfl,rfl⟩ rfl rfl rfl rfl rfl (by as_aux_lemma=>kernel_rfl) func4 KH
  (of_decide_eq_true (by kernel_rfl)) (by unfold Func.isWrapper;rw[if_neg (of_decide_eq_false (by kernel_rfl))];exact⟨rfl,rfl⟩)
  (fun os started H enc _=>Kn os started H enc)
theorem races_proved:Rows.DequeRacesCardSaid:=
 Claim7.holds_tied_plain_at .later [] [.data,.handle,.pinned] true (true, "60ab844b118abf1c82e7a2b909b6e729ebf9f59389591a3667b4425081f96d82") true
  KI (fun _ h=>by cases h) (by kernel_rfl) (fun _ h=>by cases h) dequeRaces_row_tie rfl ⟨rfl,rfl⟩ (by kernel_rfl) rfl
  (fun f b d e=>by
   obtain rfl:f=4:=Option.some.inj ((show prog.funcNamed "distaff/distafflaw14.DequeRaces" =some 4 by kernel_rfl).symm.trans d)|>.symm
   obtain rfl:b=Tryz.f4:=(Option.some.inj (func4.symm.trans e)).symm;exact⟨by kernel_rfl,fun j t a=>by
    rw[Tryz.params4]at a;have c:t=3∨t=45:=by
     rcases j with _|_|j
     ·exact Or.inl (by simpa using a.symm)
     ·exact Or.inr (by simpa using a.symm)
     ·simp at a
    rcases c with rfl|rfl
    ·exact(show prog.wantsStandIn 3=false by kernel_rfl)
    ·exact(show prog.wantsStandIn 45=false by kernel_rfl)⟩)
  (by kernel_rfl)
#print axioms races_proved
end
end Go.Proofs.YtlihkblppjgebaaGreatDoor
