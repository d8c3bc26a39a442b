/- KernClient: a client's plain code does in a machine what it does alone: the law returns true, for every code and number. No condition. -/
import Derived.Test.YtfnilkpkogipfaaGreatDoorZBd
set_option linter.all false
set_option maxRecDepth 100000
set_option maxHeartbeats 8000000
namespace Go.Proofs.YtfnilkpkogipfaaGreatDoor
open Go.RowKit Go.Proofs.Tryz
section
open Go.ChangeAt Go.ChangeShapes Go.Deep Go.WideShapes
section
variable{H:Type}{enc:TypeId×Value->H}{w:World}{base:Nat}{spare:Nat->Bool}{held:Bool}
theorem yN:∃f0 f1 f2 f3 f4 f5 f6:Field,prog.underlying 121=some (.struct #[f0,f1,f2,f3,f4,f5,f6])/\oneCellFields prog #[f0,f1,f2,f3,f4,f5,f6]=true/\f0.type=3/\f1.type=3/\f2.type=3/\f3.type=3/\f4.type=56/\f5.type=3/\f6.type=3:=
 ⟨_,_,_,_,_,_,_,underlying121,by kernel_rfl,rfl,rfl,rfl,rfl,rfl,rfl,rfl⟩
theorem Bk(n:Nat)(cs:List Value)(x:DataW H×List MemPlace)(a:Addr)(z:w.cells? base a 7=some cs)(C:DataW.trod enc prog w base spare held n 121 cs=some x):
 ∃X:aR,aI X.v/\∀r u,(b3 X)[r]?=some u->w.cell? (a.add r)=some u:=by
 obtain⟨f0,f1,f2,f3,f4,f5,f6,B,c,t0,t1,t2,t3,t4,t5,t6⟩:=yN;obtain⟨W,k,_,_,hlen,D,b⟩:=DataW.trod_struct B C;rw[show prog.cellsOf 121=7 by kernel_rfl]at hlen;obtain⟨_,ad,y⟩:=World.cells?_some z
 match cs,hlen with
 |[Y,Z,a0,a1,a2,a3,ab],_=>
  obtain⟨P,k0⟩:=hone_of c 0 f0 rfl;obtain⟨Q,k1⟩:=hone_of c 1 f1 rfl;obtain⟨R,k2⟩:=hone_of c 2 f2 rfl;obtain⟨S,k3⟩:=hone_of c 3 f3 rfl;obtain⟨T,E⟩:=hone_of c 4 f4 rfl;obtain⟨U,F⟩:=hone_of c 5 f5 rfl;obtain⟨V,G⟩:=hone_of c 6 f6 rfl
  match W,D with
  |[y0,al,am,ap,av,ax,bi],_=>
   have l:=b 0 f0 rfl;have m:=b 1 f1 rfl;have o:=b 2 f2 rfl;have p:=b 3 f3 rfl;have q:=b 4 f4 rfl;have s:=b 5 f5 rfl;have t:=b 6 f6 rfl;rw[P,k0,t0]at l;rw[Q,k1,t1]at m;rw[R,k2,t2]at o;rw[S,k3,t3]at p;rw[T,E,t4]at q;rw[U,F,t5]at s;rw[V,G,t6]at t;obtain⟨I,d,-,-⟩:=DataW.trod_int underlying3 l;obtain⟨J,e,-,-⟩:=DataW.trod_int underlying3 m;obtain⟨K,f,-,-⟩:=DataW.trod_int underlying3 o;obtain⟨L,g,-,-⟩:=DataW.trod_int underlying3 p;obtain⟨M,h,-,w4⟩:=DataW.trod_int underlying56 q;obtain⟨N,i,-,-⟩:=DataW.trod_int underlying3 s;obtain⟨O,j,-,-⟩:=DataW.trod_int underlying3 t;simp at d e f g h i j;subst d e f g h i j;refine⟨⟨I,J,K,L,M,N,O⟩,ma w4,fun r u v=> ?_⟩;have A:r<7:=(List.getElem?_eq_some_iff.1 v).1;rw[y r A];exact v
theorem yO{v:Value}{o:DataW H}{y:List MemPlace}(s:v.cells.toList=[v])(h:DataW.Trod enc prog w base spare held 30 v o y)(t:∀elems spare,o=.slice elems spare->(elems.length+spare.length)*56<=140737488351232):
 ∃l:List aR,gQ w w.heap.size v 7 b3 l/\(∀X∈l,aI X.v)/\l.length*56<=140737488351232/\∀c,v=.slice none l.length c->c=0:=by
 obtain⟨fuel,j⟩:=h;rw[s]at j;obtain⟨l,d,i⟩:=me (ec:=b3) (k:=7) (Ok:=fun X:aR=>aI X.v) underlying30 (by kernel_rfl) (by decide) (fun _=>rfl) (fun n cs x a d i=>Bk n cs x a d i) j;refine⟨l,d,i,?_⟩;obtain⟨a0,A,e,-,-⟩:=d;rcases open_slice underlying30 j with⟨f,B⟩|⟨a,len,cap,m,n,D,z,g,hb,E,F,G,u,C⟩
 ·injection f with f _
  rw[f]at e;injection e with q p r
  refine⟨by rw[<-p];decide,fun c b=> ?_⟩;rw[f]at b;injection b with _ _ b
  exact b.symm
 ·injection g with g _
  rw[g]at e;injection e with q p r
  refine⟨?_,fun c b=> ?_⟩
  ·have:=t _ _ (congrArg Prod.fst u)
   rw[List.length_map,List.length_range]at this;omega
  ·rw[g]at b;injection b with b;cases b
end
theorem vo(os:Os)(started:os.Started)(H:Type)(enc:TypeId×Value->H):
 ReturnsInHanded {} Tryz.checked os 6 .any (fun w args=>(Rows.kernClientSpec.pre enc prog Tryz.f6 [] false w args/\laidMetH prog sX w)/\sizedMet enc prog Tryz.f6 (OpenSpec.ofChange Rows.kernClientSpec) false w args)
  (Rows.kernClientSpec.post enc prog Tryz.f6 false true false false):=by
 refine Du (C:=Tryz.checked) (X:=fun w _=>laidMetH prog sX w) (fun _ _ _ B h=>h.of_heap B) own started (by kernel_rfl) func6
  (ChangeSpec.witness_shaped (enc:=enc) (C:=Tryz.checked) (os:=os) (X:=fun w _=>laidMetH prog sX w) false (l2 os) #[.slice none 0 0,.int .i64 0] 8 rfl (World.shaped_of_RefB (by kernel_rfl) (by kernel_rfl)) (by kernel_rfl) (by kernel_rfl) (by kernel_rfl) (vX os _)) ?_
 intro b base args r M before n i G u P;have d:∀(j:Nat) t v,Tryz.f6.params[j]?=some t->args[j]?=some v->Value.okWide prog b .any base t v:=n;have c:=i;obtain⟨p,q,hA0,y,rfl,N,O⟩:=i;have g:DataW.TrodAll enc prog b 0 (fun _=>true) true Tryz.f6.params.toList args.toList r p:=hA0;rw[Tryz.params6]at g d;obtain⟨J,K,d0,d1,o,p1,rfl,rfl,rfl,f,s⟩:=trodAll_two g;obtain⟨rfl,rfl⟩:=trodVars_none y;have I:(DataW.weightsEach prog [30,3] [d0,d1]).all (·<=reachBytes)=true:=G;obtain⟨R,T,S,rfl⟩:=okWide_slice underlying30 (d 0 30 J rfl rfl);obtain⟨steps,rfl⟩:=okWide_int underlying3 (d 1 3 K rfl rfl);obtain⟨l,D,F,hlen,E⟩:=yO (by simp[Value.cells]) f (fun elems spare e=>by
  subst e;have:=sized_slice I (j:=0) rfl rfl underlying30;rw[show prog.bytesOf 121=56 by kernel_rfl]at this;simpa[reachBytes]using this)
 clear hA0 n;simp only[List.append_nil]at c;have k:∀x∈o++p1,x.block<b.heap.size:=fun x a=>c.lt x a
 refine(tN l F hlen _ steps b D E (jo u)).mono fun e L ⟨A,z⟩=> ?_
 subst A;have hb:=z.hR;exact⟨_,rfl,pQ (pa:=o++p1) (pv:=[]) c (fun _ _ _=>trodAll_mk1 (shut_bool underlying4 _))
  (fun Q m=>trodAll_mk2 (g1 (by kernel_rfl) (of_decide_eq_true (by kernel_rfl)) f hb (fun x a=>k x (by simp[a])) (fun x a=>m x (by simp[a])))
   (g1 (by kernel_rfl) (of_decide_eq_true (by kernel_rfl)) s hb (fun x a=>k x (by simp[a])) (fun x a=>m x (by simp[a])))) (fun _ _=>rfl) (by simp)
  hb (ok_one (by kernel_rfl) rfl (okWide_bool_mk underlying4 _))⟩
theorem yP:Rows.KernClientSaid:=
 OpenClaim.holds_of_wide 6 Tryz.f6 rfl rfl rfl rfl rfl rfl rfl ⟨rfl,rfl,rfl,rfl,rfl⟩ rfl rfl rfl rfl rfl (by kernel_rfl) func6 (by kernel_rfl)
  (of_decide_eq_true (by kernel_rfl)) (by unfold Func.isWrapper;rw[if_neg (of_decide_eq_false (by kernel_rfl))];exact⟨rfl,rfl⟩)
  (fun os started H enc _=>vo os started H enc)
theorem client_proved:Rows.KernClientCardSaid:=
 Claim7.holds_tied_plain_at .later [] [.handle] true (true, "c1a2f3bf9f6401d5eaa5e4240cae541e5e199f4de8fb22a7308fb14a8e25352d") true
  yP (fun _ h=>by cases h) (by kernel_rfl) (fun _ h=>by cases h) kernClient_row_tie rfl ⟨rfl,rfl⟩ (by kernel_rfl) rfl
  (fun f b d e=>by
   obtain rfl:f=6:=Option.some.inj ((show prog.funcNamed "distaff/distafflaw13.KernClient" =some 6 by kernel_rfl).symm.trans d)|>.symm
   obtain rfl:b=Tryz.f6:=(Option.some.inj (func6.symm.trans e)).symm;exact⟨by kernel_rfl,fun j t a=>by
    rw[Tryz.params6]at a;have c:t=30∨t=3:=by
     rcases j with _|_|j
     ·exact Or.inl (by simpa using a.symm)
     ·exact Or.inr (by simpa using a.symm)
     ·simp at a
    rcases c with rfl|rfl
    ·exact(show prog.wantsStandIn 30=false by kernel_rfl)
    ·exact(show prog.wantsStandIn 3=false by kernel_rfl)⟩)
  (by kernel_rfl)
#print axioms client_proved
end
end Go.Proofs.YtfnilkpkogipfaaGreatDoor
