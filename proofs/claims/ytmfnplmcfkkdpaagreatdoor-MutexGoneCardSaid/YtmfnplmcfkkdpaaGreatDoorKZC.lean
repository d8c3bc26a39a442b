/- MutexGone: a mutex that is held can't be destroyed; one that is free can, once; the law returns true, for all arguments. No condition. -/
import Derived.Test.YtmfnplmcfkkdpaaGreatDoorZAu
set_option linter.all false
set_option maxRecDepth 100000
set_option maxHeartbeats 0
namespace Go.Proofs.YtmfnplmcfkkdpaaGreatDoor
open Go.RowKit Go.Proofs.Tryz
open Go.ChangeAt Go.ChangeShapes Go.WideShapes
theorem qa(os:Os)(started:os.Started)(r:Type)(enc:TypeId×Value->r):
 ReturnsInHanded {} Tryz.checked os 3 .any (fun w args=>(Rows.mutexGoneSpec.pre enc prog Tryz.f3 [] false w args/\laidMetH prog Nc w)/\sizedMet enc prog Tryz.f3 (OpenSpec.ofChange Rows.mutexGoneSpec) false w args)
  (Rows.mutexGoneSpec.post enc prog Tryz.f3 false true false false):=by
 refine Ga (C:=Tryz.checked) (X:=fun w _=>laidMetH prog Nc w) (fun _ _ _ K h=>h.of_heap K) own started (by kernel_rfl) func3
  (ChangeSpec.witness_shaped (enc:=enc) (C:=Tryz.checked) (os:=os) (X:=fun w _=>laidMetH prog Nc w) false (Lt os) #[.int .i64 0,.int .u64 0,.int .i64 0] 8 rfl (World.shaped_of_RefB (by kernel_rfl) (by kernel_rfl)) (by kernel_rfl) (by kernel_rfl) (by kernel_rfl) (MY os _)) ?_
 intro W base args s T before P l V z O;have b:∀(j:Nat) t v,Tryz.f3.params[j]?=some t->args[j]?=some v->Value.okWide prog W .any base t v:=P;have c:=l;obtain⟨p,q,hA0,G,rfl,U,gH⟩:=l;have k:DataW.TrodAll enc prog W 0 (fun _=>true) true Tryz.f3.params.toList args.toList s p:=hA0;rw[Tryz.params3]at k b;obtain⟨Q,R,S,d0,d1,d2,n,p1,p2,rfl,rfl,rfl,u,i,y⟩:=trodAll_three k;obtain⟨rfl,rfl⟩:=trodVars_none G;obtain⟨wk,rfl⟩:=okWide_int underlying3 (b 0 3 Q rfl rfl);obtain⟨o,rfl⟩:=okWide_int underlying22 (b 1 22 R rfl rfl);obtain⟨kind,rfl⟩:=okWide_int underlying3 (b 2 3 S rfl rfl);have N:aK o:=by
  obtain⟨fuel,J⟩:=i;obtain⟨Y,g,-,w2⟩:=DataW.trod_int underlying22 J;simp[Value.cells]at g;subst g;exact o6 w2
 simp only[List.append_nil]at c;have d:∀x∈n++(p1++p2),x.block<W.heap.size:=fun x a=>c.lt x (by simpa using a)
 obtain⟨m,M⟩:=KF O;obtain⟨A,B,D,E,F,L,X⟩:=y2;refine(ve X wk o kind N m W M (JK z)).mono fun e W' ⟨I,H⟩=> ?_
 subst I;have hb:=H.ib;exact⟨_,rfl,yB (pa:=n++(p1++p2)) (pv:=[]) c (fun _ _ _=>trodAll_mk1 (shut_bool underlying4 _))
  (fun Z f=>trodAll_mk3 (l8 (by kernel_rfl) (of_decide_eq_true (by kernel_rfl)) u hb (fun x a=>d x (by simp[a])) (fun x a=>f x (by simp[a])))
   (l8 (by kernel_rfl) (of_decide_eq_true (by kernel_rfl)) i hb (fun x a=>d x (by simp[a])) (fun x a=>f x (by simp[a])))
   (l8 (by kernel_rfl) (of_decide_eq_true (by kernel_rfl)) y hb (fun x a=>d x (by simp[a])) (fun x a=>f x (by simp[a])))) (fun _ _=>rfl) (by simp)
  hb (ok_one (by kernel_rfl) rfl (okWide_bool_mk underlying4 _))⟩
theorem Fi:laidOutB Tryz.pinned.checked.prog=true:=by kernel_rfl
theorem Fj:mapsRowed Tryz.pinned.checked.prog=true:=by kernel_rfl
theorem Fk:(Rows.mutexGoneRow.inPlace==Tryz.pinned.checked.prog.inPlace 3)=true:=by kernel_rfl
theorem Fl:(Rows.mutexGoneRow.unfollowed==Tryz.pinned.checked.prog.unfollowed 3)=true:=by kernel_rfl
theorem Fm:(Rows.mutexGoneRow.recurses==Tryz.pinned.checked.prog.recurses 3)=true:=by kernel_rfl
theorem Fo:(Rows.mutexGoneRow.named==Tryz.pinned.checked.prog.varsNamed 3)=true:=by kernel_rfl
theorem Fp:Tryz.pinned.checked.prog.stopsHeard=true:=by kernel_rfl
theorem Fq:Tryz.pinned.checked.prog.mayEnter=true:=by kernel_rfl
theorem Fs:(Rows.mutexGoneRow.lifted==Tryz.pinned.checked.prog.liftsFinal)=true:=by kernel_rfl
theorem rB:joinedFacts Tryz.pinned.checked.prog 3 Tryz.f3 Rows.mutexGoneSpec Rows.mutexGoneRow=true:=by
 unfold joinedFacts;rw[Fi,Fj,Fk,Fl,Fm,Fo,Fp,Fq,Fs]
 kernel_rfl
theorem rC:Rows.MutexGoneSaid:=
 OpenClaim.holds_of_wide 3 Tryz.f3 rfl rfl rfl rfl rfl rfl rfl ⟨rfl,rfl,rfl,rfl,rfl⟩ rfl rfl rfl rfl rfl (by as_aux_lemma=>kernel_rfl) func3 rB
  (of_decide_eq_true (by kernel_rfl)) (by unfold Func.isWrapper;rw[if_neg (of_decide_eq_false (by kernel_rfl))];exact⟨rfl,rfl⟩)
  (fun os started a enc _=>qa os started a enc)
theorem gone_proved:Rows.MutexGoneCardSaid:=
 Claim7.holds_tied_plain_at .later [] [.data,.handle,.pinned] true (true, "0b7fca96998bc245312047bf2ac2c374a44e0a9f1e7a8be94d1535cdc1c089bd") true
  rC (fun _ h=>by cases h) (by kernel_rfl) (fun _ h=>by cases h) mutexGone_row_tie rfl ⟨rfl,rfl⟩ (by kernel_rfl) rfl
  (fun f b d e=>by
   obtain rfl:f=3:=Option.some.inj ((show prog.funcNamed "distaff/distafflaw18.MutexGone" =some 3 by kernel_rfl).symm.trans d)|>.symm
   obtain rfl:b=Tryz.f3:=(Option.some.inj (func3.symm.trans e)).symm;exact⟨by kernel_rfl,fun j t a=>by
    rw[Tryz.params3]at a;have c:t=3∨t=22:=by
     rcases j with _|_|_|j
     ·exact Or.inl (by simpa using a.symm)
     ·exact Or.inr (by simpa using a.symm)
     ·exact Or.inl (by simpa using a.symm)
     ·simp at a
    rcases c with rfl|rfl
    ·exact(show prog.wantsStandIn 3=false by kernel_rfl)
    ·exact(show prog.wantsStandIn 22=false by kernel_rfl)⟩)
  (by kernel_rfl)
#print axioms gone_proved
end Go.Proofs.YtmfnplmcfkkdpaaGreatDoor
