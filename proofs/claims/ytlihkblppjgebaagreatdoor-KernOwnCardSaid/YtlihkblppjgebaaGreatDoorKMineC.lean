/- KernOwn: what a machine tells is new memory: the law returns true, for every config, plan and list of picks. No condition. -/
import Derived.Test.YtlihkblppjgebaaGreatDoorZAp
set_option linter.all false
set_option maxRecDepth 100000
set_option maxHeartbeats 0
namespace Go.Proofs.YtlihkblppjgebaaGreatDoor
open Go.RowKit Go.Proofs.Tryz
open Go.ChangeAt Go.ChangeShapes Go.WideShapes
theorem tU(os:Os)(started:os.Started)(H:Type)(enc:TypeId×Value->H):
 ReturnsInHanded {} Tryz.checked os 3 .any (fun w args=>(Rows.kernOwnSpec.pre enc prog Tryz.f3 [] false w args/\laidMetH prog AR w)/\sizedMet enc prog Tryz.f3 (OpenSpec.ofChange Rows.kernOwnSpec) false w args)
  (Rows.kernOwnSpec.post enc prog Tryz.f3 false true false false):=by
 refine Ga (C:=Tryz.checked) (X:=fun w _=>laidMetH prog AR w) (fun _ _ _ D h=>h.of_heap D) own started (by kernel_rfl) func3
  (ChangeSpec.witness_shaped (enc:=enc) (C:=Tryz.checked) (os:=os) (X:=fun w _=>laidMetH prog AR w) false (pX os) #[.agg #[.int .i64 0,.int .i64 0],.agg #[.slice none 0 0,.slice none 0 0,.slice none 0 0,.slice none 0 0,.bool false],.slice none 0 0] 8 rfl (World.shaped_of_RefB (by kernel_rfl) (by kernel_rfl)) (by kernel_rfl) (by kernel_rfl) (by kernel_rfl) (CT os _)) ?_
 intro W base args r I before F n L s K;have b:∀(j:Nat) t v,Tryz.f3.params[j]?=some t->args[j]?=some v->Value.okWide prog W .any base t v:=F;have c:=n;obtain⟨p,q,hA0,z,rfl,J,iX⟩:=n;have m:DataW.TrodAll enc prog W 0 (fun _=>true) true Tryz.f3.params.toList args.toList r p:=hA0;rw[Tryz.params3]at m b;obtain⟨G,v1,v2,d0,d1,d2,o,p1,p2,rfl,rfl,rfl,g,i,k⟩:=trodAll_three m;obtain⟨rfl,rfl⟩:=trodVars_none z;obtain⟨wk,ce,rfl⟩:=y5 (b 0 23 G rfl rfl) g;obtain⟨P,u,y⟩:=y4 (b 1 28 v1 rfl rfl) i;obtain⟨N,vl,vc,rfl⟩:=okWide_slice underlying29 (b 2 29 v2 rfl rfl);obtain⟨l,E,hd⟩:=vs k (by simp[Value.cells]);simp only[List.append_nil]at c;have d:∀x∈o++p1++p2,x.block<W.heap.size:=fun x a=>c.lt x a
 refine(BE P y v1 wk ce l _ W u E hd (oH s)).mono fun e W' ⟨B,A⟩=> ?_
 subst B;have hb:=A.ib;exact⟨_,rfl,yB (pa:=o++(p1++p2)) (pv:=[]) c (fun _ _ _=>trodAll_mk1 (shut_bool underlying4 _))
  (fun M f=>trodAll_mk3 (l8 (by kernel_rfl) (of_decide_eq_true (by kernel_rfl)) g hb (fun x a=>d x (by simp[a])) (fun x a=>f x (by simp[a])))
   (l8 (by kernel_rfl) (of_decide_eq_true (by kernel_rfl)) i hb (fun x a=>d x (by simp[a])) (fun x a=>f x (by simp[a])))
   (l8 (by kernel_rfl) (of_decide_eq_true (by kernel_rfl)) k hb (fun x a=>d x (by simp[a])) (fun x a=>f x (by simp[a])))) (fun _ _=>rfl) (by simp)
  hb (ok_one (by kernel_rfl) rfl (okWide_bool_mk underlying4 _))⟩
theorem Fi:laidOutB Tryz.pinned.checked.prog=true:=by kernel_rfl
theorem Fj:mapsRowed Tryz.pinned.checked.prog=true:=by kernel_rfl
theorem Fk:(Rows.kernOwnRow.inPlace==Tryz.pinned.checked.prog.inPlace 3)=true:=by kernel_rfl
theorem Fl:(Rows.kernOwnRow.unfollowed==Tryz.pinned.checked.prog.unfollowed 3)=true:=by kernel_rfl
theorem Fm:(Rows.kernOwnRow.recurses==Tryz.pinned.checked.prog.recurses 3)=true:=by kernel_rfl
theorem Fo:(Rows.kernOwnRow.named==Tryz.pinned.checked.prog.varsNamed 3)=true:=by kernel_rfl
theorem Fp:Tryz.pinned.checked.prog.stopsHeard=true:=by kernel_rfl
theorem Fq:Tryz.pinned.checked.prog.mayEnter=true:=by kernel_rfl
theorem Fs:(Rows.kernOwnRow.lifted==Tryz.pinned.checked.prog.liftsFinal)=true:=by kernel_rfl
theorem vE:joinedFacts Tryz.pinned.checked.prog 3 Tryz.f3 Rows.kernOwnSpec Rows.kernOwnRow=true:=by
 unfold joinedFacts;rw[Fi,Fj,Fk,Fl,Fm,Fo,Fp,Fq,Fs]
 kernel_rfl
theorem vF:Rows.KernOwnSaid:=
 OpenClaim.holds_of_wide 3 Tryz.f3 rfl rfl rfl rfl rfl rfl rfl ⟨rfl,rfl,rfl,rfl,rfl⟩ rfl rfl rfl rfl rfl (by as_aux_lemma=>kernel_rfl) func3 vE
  (of_decide_eq_true (by kernel_rfl)) (by unfold Func.isWrapper;rw[if_neg (of_decide_eq_false (by kernel_rfl))];exact⟨rfl,rfl⟩)
  (fun os started H enc _=>tU os started H enc)
theorem mine_proved:Rows.KernOwnCardSaid:=
 Claim7.holds_tied_plain_at .later [] [.handle] true (true, "60ab844b118abf1c82e7a2b909b6e729ebf9f59389591a3667b4425081f96d82") true
  vF (fun _ h=>by cases h) (by kernel_rfl) (fun _ h=>by cases h) kernOwn_row_tie rfl ⟨rfl,rfl⟩ (by kernel_rfl) rfl
  (fun f b d e=>by
   obtain rfl:f=3:=Option.some.inj ((show prog.funcNamed "distaff/distafflaw13.KernOwn" =some 3 by kernel_rfl).symm.trans d)|>.symm
   obtain rfl:b=Tryz.f3:=(Option.some.inj (func3.symm.trans e)).symm;exact⟨by kernel_rfl,fun j t a=>by
    rw[Tryz.params3]at a;have c:t=23∨t=28∨t=29:=by
     rcases j with _|_|_|j
     ·exact Or.inl (by simpa using a.symm)
     ·exact Or.inr (Or.inl (by simpa using a.symm))
     ·exact Or.inr (Or.inr (by simpa using a.symm))
     ·simp at a
    rcases c with rfl|rfl|rfl
    ·exact(show prog.wantsStandIn 23=false by kernel_rfl)
    ·exact(show prog.wantsStandIn 28=false by kernel_rfl)
    ·exact(show prog.wantsStandIn 29=false by kernel_rfl)⟩)
  (by kernel_rfl)
#print axioms mine_proved
end Go.Proofs.YtlihkblppjgebaaGreatDoor
