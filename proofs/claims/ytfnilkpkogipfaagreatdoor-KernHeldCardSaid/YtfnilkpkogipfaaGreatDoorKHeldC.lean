/- KernHeld: the law returns true, for every config, plan and list of picks. No condition. -/
import Derived.Test.YtfnilkpkogipfaaGreatDoorZBz
set_option linter.all false
set_option maxRecDepth 100000
set_option maxHeartbeats 8000000
namespace Go.Proofs.YtfnilkpkogipfaaGreatDoor
open Go.RowKit Go.Proofs.Tryz
section
open Go.ChangeAt Go.ChangeShapes Go.WideShapes
theorem aae(os:Os)(started:os.Started)(H:Type)(enc:TypeId×Value->H):
 ReturnsInHanded {} Tryz.checked os 3 .any (fun w args=>(Rows.kernHeldSpec.pre enc prog Tryz.f3 [] false w args/\laidMetH prog sj w)/\sizedMet enc prog Tryz.f3 (OpenSpec.ofChange Rows.kernHeldSpec) false w args)
  (Rows.kernHeldSpec.post enc prog Tryz.f3 false true false false):=by
 refine B7 (C:=Tryz.checked) (X:=fun w _=>laidMetH prog sj w) (fun _ _ _ J h=>h.of_heap J) own started (by kernel_rfl) func3
  (ChangeSpec.witness_shaped (enc:=enc) (C:=Tryz.checked) (os:=os) (X:=fun w _=>laidMetH prog sj w) false (lI os) #[.agg #[.int .i64 0,.int .i64 0],.agg #[.slice none 0 0,.slice none 0 0,.slice none 0 0,.slice none 0 0,.bool false],.slice none 0 0] 8 rfl (World.shaped_of_RefB (by kernel_rfl) (by kernel_rfl)) (by kernel_rfl) (by kernel_rfl) (by kernel_rfl) (vd os _)) ?_
 intro b base args z O before r o T A S;have c:∀(j:Nat) t v,Tryz.f3.params[j]?=some t->args[j]?=some v->Value.okWide prog b .any base t v:=r;have d:=o;obtain⟨p,q,hA0,E,rfl,Q,R⟩:=o;have n:DataW.TrodAll enc prog b 0 (fun _=>true) true Tryz.f3.params.toList args.toList z p:=hA0;rw[Tryz.params3]at n c;obtain⟨L,u,M,d0,d1,d2,s,p1,p2,rfl,rfl,rfl,i,k,m⟩:=trodAll_three n;obtain⟨rfl,rfl⟩:=trodVars_none E;obtain⟨wk,y,rfl⟩:=pF (c 0 23 L rfl rfl) i;obtain⟨P,B,D⟩:=pE (c 1 28 u rfl rfl) k;obtain⟨V,Y,W,rfl⟩:=okWide_slice underlying29 (c 2 29 M rfl rfl);obtain⟨l,K,G⟩:=uo m (by simp[Value.cells]);clear hA0 r;simp only[List.append_nil]at d;have f:∀x∈s++p1++p2,x.block<b.heap.size:=fun x a=>d.lt x a
 refine(aag P D u wk y l _ b B K G (je A)).mono fun e N ⟨I,F⟩=> ?_
 subst I;have hb:=F.gU;exact⟨_,rfl,po (pa:=s++(p1++p2)) (pv:=[]) d (fun _ _ _=>trodAll_mk1 (shut_bool underlying4 _))
  (fun U g=>trodAll_mk3 (gQ (by kernel_rfl) (of_decide_eq_true (by kernel_rfl)) i hb (fun x a=>f x (by simp[a])) (fun x a=>g x (by simp[a])))
   (gQ (by kernel_rfl) (of_decide_eq_true (by kernel_rfl)) k hb (fun x a=>f x (by simp[a])) (fun x a=>g x (by simp[a])))
   (gQ (by kernel_rfl) (of_decide_eq_true (by kernel_rfl)) m hb (fun x a=>f x (by simp[a])) (fun x a=>g x (by simp[a])))) (fun _ _=>rfl) (by simp)
  hb (ok_one (by kernel_rfl) rfl (okWide_bool_mk underlying4 _))⟩
theorem aaf:Rows.KernHeldSaid:=
 OpenClaim.holds_of_wide 3 Tryz.f3 rfl rfl rfl rfl rfl rfl rfl ⟨rfl,rfl,rfl,rfl,rfl⟩ rfl rfl rfl rfl rfl (by kernel_rfl) func3 (by kernel_rfl)
  (of_decide_eq_true (by kernel_rfl)) (by unfold Func.isWrapper;rw[if_neg (of_decide_eq_false (by kernel_rfl))];exact⟨rfl,rfl⟩)
  (fun os started H enc _=>aae os started H enc)
theorem held_proved:Rows.KernHeldCardSaid:=
 Claim7.holds_tied_plain_at .later [] [.handle] true (true, "c1a2f3bf9f6401d5eaa5e4240cae541e5e199f4de8fb22a7308fb14a8e25352d") true
  aaf (fun _ h=>by cases h) (by kernel_rfl) (fun _ h=>by cases h) kernHeld_row_tie rfl ⟨rfl,rfl⟩ (by kernel_rfl) rfl
  (fun f b d e=>by
   obtain rfl:f=3:=Option.some.inj ((show prog.funcNamed "distaff/distafflaw13.KernHeld" =some 3 by kernel_rfl).symm.trans d)|>.symm
   obtain rfl:b=Tryz.f3:=(Option.some.inj (func3.symm.trans e)).symm;exact⟨by kernel_rfl,fun j t a=>by
    rw[Tryz.params3]at a;have c:t=23∨t=28∨t=29:=by
     rcases j with _|_|_|j
     ·exact Or.inl (by simpa using a.symm)
     ·exact Or.inr (Or.inl (by simpa using a.symm))
     ·exact Or.inr (Or.inr (by simpa using a.symm))
     ·simp at a
    rcases c with rfl|rfl|rfl
    ·exact(show prog.wantsStandIn 23=false by kernel_rfl)
    ·exact(show prog.wantsStandIn 28=false by kernel_rfl)
    ·exact(show prog.wantsStandIn 29=false by kernel_rfl)⟩)
  (by kernel_rfl)
#print axioms held_proved
end
end Go.Proofs.YtfnilkpkogipfaaGreatDoor
