/- KernAgain: two machines by the same script tell the same, whatever a third one does in between: the law returns true, for every config, plan and two lists of picks. No condition. -/
import Derived.Test.YtfnilkpkogipfaaGreatDoorZBc
set_option linter.all false
set_option maxRecDepth 100000
set_option maxHeartbeats 8000000
namespace Go.Proofs.YtfnilkpkogipfaaGreatDoor
open Go.RowKit Go.Proofs.Tryz
section
open Go.ChangeAt Go.ChangeShapes Go.WideShapes
theorem rn(os:Os)(started:os.Started)(H:Type)(enc:TypeId×Value->H):
 ReturnsInHanded {} Tryz.checked os 7 .any (fun w args=>(Rows.kernAgainSpec.pre enc prog Tryz.f7 [] false w args/\laidMetH prog sX w)/\sizedMet enc prog Tryz.f7 (OpenSpec.ofChange Rows.kernAgainSpec) false w args)
  (Rows.kernAgainSpec.post enc prog Tryz.f7 false true false false):=by
 refine Du (C:=Tryz.checked) (X:=fun w _=>laidMetH prog sX w) (fun _ _ _ L h=>h.of_heap L) own started (by kernel_rfl) func7
  (ChangeSpec.witness_shaped (enc:=enc) (C:=Tryz.checked) (os:=os) (X:=fun w _=>laidMetH prog sX w) false (l2 os) #[.agg #[.int .i64 0,.int .i64 0],.agg #[.slice none 0 0,.slice none 0 0,.slice none 0 0,.slice none 0 0,.bool false],.slice none 0 0,.slice none 0 0] 8 rfl (World.shaped_of_RefB (by kernel_rfl) (by kernel_rfl)) (by kernel_rfl) (by kernel_rfl) (by kernel_rfl) (vX os _)) ?_
 intro c base args A U before s r Z B Y;have b:∀(j:Nat) t v,Tryz.f7.params[j]?=some t->args[j]?=some v->Value.okWide prog c .any base t v:=s;have g:=r;obtain⟨p,q,hA0,F,rfl,V,W⟩:=r;have o:DataW.TrodAll enc prog c 0 (fun _=>true) true Tryz.f7.params.toList args.toList A p:=hA0;rw[Tryz.params7]at o b;obtain⟨Q,y,R,S,d0,d1,d2,d3,u,p1,p2,p3,rfl,rfl,rfl,i,k,m,n⟩:=trodAll_four o;obtain⟨rfl,rfl⟩:=trodVars_none F;obtain⟨wk,z,rfl⟩:=yJ (b 0 23 Q rfl rfl) i;obtain⟨P,D,E⟩:=yI (b 1 28 y rfl rfl) k;obtain⟨a3,ad,ab,rfl⟩:=okWide_slice underlying29 (b 2 29 R rfl rfl);obtain⟨l,M,I⟩:=oX m (by simp[Value.cells]);obtain⟨a1,ul,a2,rfl⟩:=okWide_slice underlying29 (b 3 29 S rfl rfl);obtain⟨O,N,J⟩:=oX n (by simp[Value.cells]);clear hA0 s;simp only[List.append_nil]at g;have d:∀x∈u++p1++p2++p3,x.block<c.heap.size:=fun x a=>g.lt x a
 refine(yL P E y wk z l O _ _ c D M I N J (jo B)).mono fun e T ⟨K,G⟩=> ?_
 subst K;have hb:=G.hR;exact⟨_,rfl,pQ (pa:=u++(p1++(p2++p3))) (pv:=[]) g (fun _ _ _=>trodAll_mk1 (shut_bool underlying4 _))
  (fun a0 f=>trodAll_mk4 (g1 (by kernel_rfl) (of_decide_eq_true (by kernel_rfl)) i hb (fun x a=>d x (by simp[a])) (fun x a=>f x (by simp[a])))
   (g1 (by kernel_rfl) (of_decide_eq_true (by kernel_rfl)) k hb (fun x a=>d x (by simp[a])) (fun x a=>f x (by simp[a])))
   (g1 (by kernel_rfl) (of_decide_eq_true (by kernel_rfl)) m hb (fun x a=>d x (by simp[a])) (fun x a=>f x (by simp[a])))
   (g1 (by kernel_rfl) (of_decide_eq_true (by kernel_rfl)) n hb (fun x a=>d x (by simp[a])) (fun x a=>f x (by simp[a])))) (fun _ _=>rfl) (by simp)
  hb (ok_one (by kernel_rfl) rfl (okWide_bool_mk underlying4 _))⟩
theorem tL:Rows.KernAgainSaid:=
 OpenClaim.holds_of_wide 7 Tryz.f7 rfl rfl rfl rfl rfl rfl rfl ⟨rfl,rfl,rfl,rfl,rfl⟩ rfl rfl rfl rfl rfl (by kernel_rfl) func7 (by kernel_rfl)
  (of_decide_eq_true (by kernel_rfl)) (by unfold Func.isWrapper;rw[if_neg (of_decide_eq_false (by kernel_rfl))];exact⟨rfl,rfl⟩)
  (fun os started H enc _=>rn os started H enc)
theorem again_proved:Rows.KernAgainCardSaid:=
 Claim7.holds_tied_plain_at .later [] [.handle] true (true, "c1a2f3bf9f6401d5eaa5e4240cae541e5e199f4de8fb22a7308fb14a8e25352d") true
  tL (fun _ h=>by cases h) (by kernel_rfl) (fun _ h=>by cases h) kernAgain_row_tie rfl ⟨rfl,rfl⟩ (by kernel_rfl) rfl
  (fun f b d e=>by
   obtain rfl:f=7:=Option.some.inj ((show prog.funcNamed "distaff/distafflaw13.KernAgain" =some 7 by kernel_rfl).symm.trans d)|>.symm
   obtain rfl:b=Tryz.f7:=(Option.some.inj (func7.symm.trans e)).symm;exact⟨by kernel_rfl,fun j t a=>by
    rw[Tryz.params7]at a;have c:t=23∨t=28∨t=29:=by
     rcases j with _|_|_|_|j
     ·exact Or.inl (by simpa using a.symm)
     ·exact Or.inr (Or.inl (by simpa using a.symm))
     ·exact Or.inr (Or.inr (by simpa using a.symm))
     ·exact Or.inr (Or.inr (by simpa using a.symm))
     ·simp at a
    rcases c with rfl|rfl|rfl
    ·exact(show prog.wantsStandIn 23=false by kernel_rfl)
    ·exact(show prog.wantsStandIn 28=false by kernel_rfl)
    ·exact(show prog.wantsStandIn 29=false by kernel_rfl)⟩)
  (by kernel_rfl)
#print axioms again_proved
end
end Go.Proofs.YtfnilkpkogipfaaGreatDoor
