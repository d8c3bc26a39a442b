/- DequeGrows: all that was pushed is there, in order: the law returns true, for every number and order. No condition. -/
import Derived.Test.YtlihkblppjgebaaGreatDoorZBu
set_option linter.all false
set_option maxRecDepth 100000
set_option maxHeartbeats 8000000
namespace Go.Proofs.YtlihkblppjgebaaGreatDoor
open Go.RowKit Go.Proofs.Tryz
section
open Go.ChangeAt Go.ChangeShapes Go.WideShapes
theorem gC{H:Type}{enc:TypeId×Value->H}{w:World}{base:Nat}{spare:Nat->Bool}{held:Bool}{v:Value}{d:DataW H}{p:List MemPlace}(h:DataW.Trod enc prog w base spare held 67 v d p)(m:v.cells.toList=[v]):∃l:List Bool,iA w w.heap.size v 1 ho l:=by
 obtain⟨fuel,c⟩:=h;rw[m]at c;obtain⟨l,b,-⟩:=lR (ec:=ho) (k:=1) (Ok:=fun _=>True) underlying67 (by kernel_rfl) (by decide) (fun _=>rfl) (fun n cs x a b g=>by
  obtain⟨o,f,-⟩:=DataW.trod_bool underlying4 g;obtain⟨_,q,i⟩:=World.cells?_some b;subst f;refine⟨o,trivial,fun r u e=> ?_⟩;have j:r<1:=(List.getElem?_eq_some_iff.1 e).1;rw[i r j];exact e) c
 exact⟨l,b⟩
theorem e1(os:Os)(started:os.Started)(H:Type)(enc:TypeId×Value->H):
 ReturnsInHanded {} Tryz.checked os 6 .any (fun w args=>(Rows.dequeGrowsSpec.pre enc prog Tryz.f6 [] false w args/\laidMetH prog Rh w)/\sizedMet enc prog Tryz.f6 (OpenSpec.ofChange Rows.dequeGrowsSpec) false w args)
  (Rows.dequeGrowsSpec.post enc prog Tryz.f6 false true false false):=by
 refine B7 (C:=Tryz.checked) (X:=fun w _=>laidMetH prog Rh w) (fun _ _ _ J h=>h.of_heap J) own started (by kernel_rfl) func6
  (ChangeSpec.witness_shaped (enc:=enc) (C:=Tryz.checked) (os:=os) (X:=fun w _=>laidMetH prog Rh w) false (Lg os) #[.int .i64 0,.int .i64 0,.slice none 0 0] 8 rfl (World.shaped_of_RefB (by kernel_rfl) (by kernel_rfl)) (by kernel_rfl) (by kernel_rfl) (by kernel_rfl) (PA os _)) ?_
 intro W base args z U before o n Z E N;have c:∀(j:Nat) t v,Tryz.f6.params[j]?=some t->args[j]?=some v->Value.okWide prog W .any base t v:=o;have d:=n;obtain⟨p,q,hA0,F,rfl,V,Y⟩:=n;have k:DataW.TrodAll enc prog W 0 (fun _=>true) true Tryz.f6.params.toList args.toList z p:=hA0;rw[Tryz.params6]at k c;obtain⟨P,Q,R,d0,d1,d2,r,s,u,rfl,rfl,rfl,A,B,i⟩:=trodAll_three k;obtain⟨rfl,rfl⟩:=trodVars_none F;obtain⟨y,rfl⟩:=okWide_int underlying3 (c 0 3 P rfl rfl);obtain⟨O,rfl⟩:=okWide_int underlying3 (c 1 3 Q rfl rfl);obtain⟨a1,a3,a2,rfl⟩:=okWide_slice underlying67 (c 2 67 R rfl rfl);obtain⟨l,K⟩:=gC i (by simp[Value.cells]);clear hA0 o;simp only[List.append_nil]at d;have f:∀x∈r++s++u,x.block<W.heap.size:=fun x a=>d.lt x a
 obtain⟨m,M⟩:=Km N;obtain⟨T,D,L,X⟩:=Na;refine(gA X y O l _ W K m M (It E)).mono fun e S ⟨I,G⟩=> ?_
 subst I;have b:=G.gU;exact⟨_,rfl,po (pa:=r++(s++u)) (pv:=[]) d (fun _ _ _=>trodAll_mk1 (shut_bool underlying4 _))
  (fun a0 g=>trodAll_mk3 (gQ (by kernel_rfl) (of_decide_eq_true (by kernel_rfl)) A b (fun x a=>f x (by simp[a])) (fun x a=>g x (by simp[a])))
   (gQ (by kernel_rfl) (of_decide_eq_true (by kernel_rfl)) B b (fun x a=>f x (by simp[a])) (fun x a=>g x (by simp[a])))
   (gQ (by kernel_rfl) (of_decide_eq_true (by kernel_rfl)) i b (fun x a=>f x (by simp[a])) (fun x a=>g x (by simp[a])))) (fun _ _=>rfl) (by simp)
  b (ok_one (by kernel_rfl) rfl (okWide_bool_mk underlying4 _))⟩
theorem PB:laidOutB Tryz.pinned.checked.prog=true:=by kernel_rfl
theorem PC:mapsRowed Tryz.pinned.checked.prog=true:=by kernel_rfl
theorem PD:(Rows.dequeGrowsRow.inPlace==Tryz.pinned.checked.prog.inPlace 6)=true:=by kernel_rfl
theorem PE:(Rows.dequeGrowsRow.unfollowed==Tryz.pinned.checked.prog.unfollowed 6)=true:=by kernel_rfl
theorem PF:(Rows.dequeGrowsRow.recurses==Tryz.pinned.checked.prog.recurses 6)=true:=by kernel_rfl
theorem PG:(Rows.dequeGrowsRow.named==Tryz.pinned.checked.prog.varsNamed 6)=true:=by kernel_rfl
theorem PH:Tryz.pinned.checked.prog.stopsHeard=true:=by kernel_rfl
theorem PI:Tryz.pinned.checked.prog.mayEnter=true:=by kernel_rfl
theorem PJ:(Rows.dequeGrowsRow.lifted==Tryz.pinned.checked.prog.liftsFinal)=true:=by kernel_rfl
theorem fo:joinedFacts Tryz.pinned.checked.prog 6 Tryz.f6 Rows.dequeGrowsSpec Rows.dequeGrowsRow=true:=by
 unfold joinedFacts;rw[PB,PC,PD,PE,PF,PG,PH,PI,PJ]
 kernel_rfl
theorem fE:Rows.DequeGrowsSaid:=
 OpenClaim.holds_of_wide 6 Tryz.f6 rfl rfl rfl rfl rfl rfl rfl ⟨rfl,rfl,rfl,rfl,rfl⟩ rfl rfl rfl rfl rfl (by as_aux_lemma=>kernel_rfl) func6 fo
  (of_decide_eq_true (by kernel_rfl)) (by unfold Func.isWrapper;rw[if_neg (of_decide_eq_false (by kernel_rfl))];exact⟨rfl,rfl⟩)
  (fun os started H enc _=>e1 os started H enc)
theorem grows_proved:Rows.DequeGrowsCardSaid:=
 Claim7.holds_tied_plain_at .later [] [.data,.handle,.pinned] true (true, "60ab844b118abf1c82e7a2b909b6e729ebf9f59389591a3667b4425081f96d82") true
  fE (fun _ h=>by cases h) (by kernel_rfl) (fun _ h=>by cases h) dequeGrows_row_tie rfl ⟨rfl,rfl⟩ (by kernel_rfl) rfl
  (fun f b d e=>by
   obtain rfl:f=6:=Option.some.inj ((show prog.funcNamed "distaff/distafflaw14.DequeGrows" =some 6 by kernel_rfl).symm.trans d)|>.symm
   obtain rfl:b=Tryz.f6:=(Option.some.inj (func6.symm.trans e)).symm;exact⟨by kernel_rfl,fun j t a=>by
    rw[Tryz.params6]at a;have c:t=3∨t=67:=by
     rcases j with _|_|_|j
     ·exact Or.inl (by simpa using a.symm)
     ·exact Or.inl (by simpa using a.symm)
     ·exact Or.inr (by simpa using a.symm)
     ·simp at a
    rcases c with rfl|rfl
    ·exact(show prog.wantsStandIn 3=false by kernel_rfl)
    ·exact(show prog.wantsStandIn 67=false by kernel_rfl)⟩)
  (by kernel_rfl)
#print axioms grows_proved
end
end Go.Proofs.YtlihkblppjgebaaGreatDoor
