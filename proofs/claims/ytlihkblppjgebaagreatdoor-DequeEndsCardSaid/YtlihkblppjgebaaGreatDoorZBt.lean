import Derived.ProofKit
import Derived.ChangeAt
import Derived.LaidMore
import Derived.HandedShaped
import Derived.Deep.Slices
import Derived.Deep.Fields
import Derived.ChangeSame
import Derived.SizedLaws
import Derived.OpenShut
import Derived.Deep.RegionHeld3
import Derived.Test.YtlihkblppjgebaaGreatDoorZBp
import Derived.Test.YtlihkblppjgebaaGreatDoorZBq
import Derived.Test.YtlihkblppjgebaaGreatDoorZBr
import Derived.Test.YtlihkblppjgebaaGreatDoorZBs
set_option linter.all false
set_option maxRecDepth 100000
set_option maxHeartbeats 8000000
namespace Go.Proofs.YtlihkblppjgebaaGreatDoor
open Go.RowKit Go.Proofs.Tryz
structure iK(x:fe):Prop where
 a:aH x.a
 b:aH x.b
 c:aH x.c
 d:aH x.d
def gD(w:World)(B:Nat)(v:Value)(l:List fe):Prop:=
 ∃a c,v=.slice a l.length c/\l.length<=c/\∀k x,l[k]?=some x->∃g b,a=some ⟨g,b,none⟩/\g<B/\∀j u,(Ds x)[j]?=some u->w.cell? ⟨g,b+k*5+j,none⟩=some u
structure fc where
 cV:Nat
 first:List fe
 others:List (List fe)
 once:List fe
 kV:Bool
def jn(w:World)(B:Nat)(v:Value)(l:List (List fe)):Prop:=
 ∃a c,v=.slice a l.length c/\l.length<=c/\∀k x,l[k]?=some x->∃g b d,a=some ⟨g,b,none⟩/\g<B/\w.cell? ⟨g,b+k,none⟩=some d/\gD w B d x
theorem gD.below{w w':World}{B:Nat}{v:Value}{l:List fe}(h:gD w B v l)(hb:Below B w w'):gD w' B v l:=by
 obtain⟨a,c,f,i,m⟩:=h;refine⟨a,c,f,i,fun k x q=> ?_⟩;obtain⟨g,d,e,b,n⟩:=m k x q;exact⟨g,d,e,b,fun j u o=>(hb.cell (p:=⟨g,d+k*5+j,none⟩) b).trans (n j u o)⟩
theorem jn.below{w w':World}{B:Nat}{v:Value}{l:List (List fe)}(h:jn w B v l)(hb:Below B w w'):jn w' B v l:=by
 obtain⟨a,c,f,i,j⟩:=h;refine⟨a,c,f,i,fun k x o=> ?_⟩;obtain⟨g,d,q,e,b,n,m⟩:=j k x o;exact⟨g,d,q,e,b,(hb.cell (p:=⟨g,d+k,none⟩) b).trans n,m.below hb⟩
structure iy(P:fc):Prop where
 first:∀x∈P.first,iK x
 others:∀l∈P.others,∀x∈l,iK x
 once:∀x∈P.once,iK x
section
open Go.ChangeAt Go.ChangeShapes Go.Deep Go.WideShapes
set_option maxRecDepth 100000
def iA{α:Type}(w:World)(B:Nat)(v:Value)(k:Nat)(enc:α->List Value)(l:List α):Prop:=
 ∃a c,v=.slice a l.length c/\l.length<=c/\∀q x,l[q]?=some x->∃g b,a=some ⟨g,b,none⟩/\g<B/\∀j u,(enc x)[j]?=some u->w.cell? ⟨g,b+q*k+j,none⟩=some u
theorem pZ{n:Int}(h:(Lit.int .u64 n).wf=true):aH n:=by
 unfold Lit.wf at h;simp at h;have a:IntKind.u64.min=0:=by decide
 have b:IntKind.u64.max=18446744073709551615:=by decide
 rw[a,b]at h;exact⟨h.1,by omega⟩
theorem kY{w:World}{a:Addr}{n:Nat}{u:Value}(h:w.cell? (a.add n)=some u):∃g e,a.block=g/\a.off=e/\w.cell? ⟨g,e+n,none⟩=some u/\(n=0->a=⟨g,e,none⟩):=by
 refine⟨a.block,a.off,rfl,rfl,?_,fun c=> ?_⟩
 ·unfold Addr.add at h
  by_cases c:n=0
  ·rw[if_pos c]at h
   subst c;have:a.spot=none:=by
    cases d:a.spot with
    |none=>rfl
    |some s=>
     unfold World.cell? at h;split at h
     ·rw[d]at h;cases h
     ·cases h
   obtain⟨b,e,s⟩:=a;dsimp only at this⊢;subst this;exact h
  ·rw[if_neg c]at h;exact h
 ·subst c
  rw[show a.add 0=a by unfold Addr.add;rw[if_pos rfl]]at h;cases d:a.spot with
  |none=>obtain⟨b,e,s⟩:=a;dsimp only at d⊢;rw[d]
  |some s=>
   unfold World.cell? at h;split at h
   ·rw[d]at h;cases h
   ·cases h
section
variable{H:Type}{enc:TypeId×Value->H}{w:World}{base:Nat}{spare:Nat->Bool}{held:Bool}
theorem lR{α:Type} [Inhabited α]{ec:α->List Value}{k:Nat}{Ok:α->Prop}{T E:TypeId}(J:prog.underlying T=some (.slice E))(O:prog.cellsOf E=k)(P:0<k)(M:∀x,(ec x).length=k)
 (N:∀n cs x a,w.cells? base a k=some cs->DataW.trod enc prog w base spare held n E cs=some x->∃X:α,Ok X/\∀r u,(ec X)[r]?=some u->w.cell? (a.add r)=some u)
 {fuel:Nat} {v:Value} {x:DataW H×List MemPlace} (h:DataW.trod enc prog w base spare held fuel T [v]=some x):∃l:List α,iA w w.heap.size v k ec l/\∀X∈l,Ok X:=by
 rcases open_slice J h with⟨d,Y⟩|⟨a,len,cap,m,n,D,Pl,s,hb,Q,a2,R,F,B⟩
 ·injection d with d _
  subst d;exact⟨[],⟨none,0,rfl,Nat.le_refl _,fun q x F=>by cases F⟩,fun X o=>by cases o⟩
 ·injection s with s _
  subst s;rw[O]at B;have a1:len<=m:=by rw[R];split<;>omega
  obtain⟨f,t⟩:=choose_lt (n:=len) (p:=fun i X=>Ok X/\∀r u,(ec X)[r]?=some u->w.cell? ((a.add (i*k)).add r)=some u) (fun i a0=>by
   obtain⟨W,L,U⟩:=B i (by omega);exact N _ _ _ _ L U)
  have hlen:((List.range len).map f).length=len:=by simp
  refine⟨(List.range len).map f,⟨some a,cap,by rw[hlen],by rw[hlen];exact Q,fun q x c=> ?_⟩,fun X o=> ?_⟩
  ·have C:q<len:=by have:=(List.getElem?_eq_some_iff.1 c).1;rwa [hlen]at this
   rw[List.getElem?_map,List.getElem?_range C]at c;have e:=Option.some.inj c;subst e;have b:∃u,w.cell? ((a.add (0*k)).add 0)=some u:=by
    have S:0<(ec (f 0)).length:=(by rw[M];exact P);exact⟨_,(t 0 (by omega)).2 0 _ (List.getElem?_eq_getElem S)⟩
   obtain⟨u0,b⟩:=b;rw[add_add,Nat.zero_mul,Nat.zero_add]at b;obtain⟨g,V,-,-,Z,G⟩:=kY b;have K:=G rfl;subst K;refine⟨g,V,rfl,World.block_lt_of_cell? w _ b,fun j u hj=> ?_⟩;have A:=(t q C).2 j u hj;rw[add_add]at A;obtain⟨g',a3,y,z,I,_⟩:=kY A;dsimp only at y z;subst y;subst z
   rwa [<-Nat.add_assoc]at I
  ·obtain⟨q,c,rfl⟩:=List.mem_map.1 o
   exact(t q (List.mem_range.1 c)).1
deriving instance Inhabited for fe
structure lT where
 kind:Int
 wk:Int
 draw:Int
 deriving Inhabited
def j7(x:lT):List Value:=[.int .i64 x.kind,.int .i64 x.wk,.int .u64 x.draw]
def pE(n:Int):List Value:=[.int .u64 n]
theorem lO{v:Value}{d:DataW H}{p:List MemPlace}(h:DataW.Trod enc prog w base spare held 29 v d p)(m:v.cells.toList=[v]):∃l:List Int,iA w w.heap.size v 1 pE l/\∀n∈l,aH n:=by
 obtain⟨fuel,b⟩:=h;rw[m]at b;refine lR (ec:=pE) (k:=1) (Ok:=aH) underlying29 (by kernel_rfl) (by decide) (fun _=>rfl) (fun n cs x a f g=> ?_) b;obtain⟨o,e,-,w2⟩:=DataW.trod_int underlying39 g;obtain⟨_,q,i⟩:=World.cells?_some f;subst e;refine⟨o,pZ w2,fun r u c=> ?_⟩;have j:r<1:=(List.getElem?_eq_some_iff.1 c).1;rw[i r j];exact c
end
end
def pG(n:Int)(x:lT):Prop:=aH x.draw/\(x.kind=1/\0<=x.wk/\x.wk<n∨x.kind=2)
structure Ag(n:Int)(most:Nat)(w:World)(e:Ending)(w':World):Prop where
 ret:∃(S:List lT) (v:Value),e=.returned v/\w'.ownsRow w.heap.size 41 3 v S.length (S.flatMap j7)/\S.length<=most/\∀x∈S,pG n x
 ch:Ch ag w w'
theorem ph:(prog.info? 41).map (fun i=>(i.zero,i.size,i.bytes))=some (some (.agg #[.int .i64 0,.int .i64 0,.int .u64 0]),3,24):=by kernel_rfl
theorem lS(n:Int)(en:1<=n)(es:n<=64)(e:Nat)(c4:e<=2000)(l:List Int)(Q:∀x∈l,aH x)(v:Value)(w:World)(h:iA w w.heap.size v 1 (fun x=>[.int .u64 x]) l):
 Calls prog 11 #[.int .i64 n,v,.int .i64 e] w (Ag n e w):=by
 obtain⟨a,c,rfl,c1,V⟩:=h;obtain⟨N,s⟩:=nm l.length;have ab:=Z s;have am:=Z V;have a2:=Z Q;have a3:=Z c4;have R:(e:Int)<=2000:=by omega
 rw[s]at c1⊢;clear s V Q;go_enter func11,ntmps11
 go_wp2_with fail
 go_loopg [7,8] (e+1) (fun gk u i wr=>∃(k:Nat) (S:List lT),k<=e/\gk=e-k+1/\i=.int .i64 k/\Hid (Ch ag w wr/\wr.ownsRow w.heap.size 41 3 u k (S.flatMap j7)/\S.length=k/\∀x∈S,pG n x))
 case atStart=>exact⟨0,[],by omega,by omega,rfl,Ch.refl _ _,⟨by simp,Or.inl ⟨rfl,rfl⟩⟩,rfl,by simp⟩
 case round=>
  obtain⟨k,S,O,rfl,rfl,d⟩:=hrel;obtain⟨cl,cm,rfl⟩:=aA d.out.2.1;have dC:(k:Int)<=2000:=by have:=a3.out;omega
  by_cases e1:k<e
  ·have ec:(k:Int)<(e:Int):=by omega
   by_cases bi:0<N
   ·have cS:(0:Int)<(N:Int):=by omega
    have cL:(N:Int)≠0:=(by omega);have c6:Int.tmod (k:Int) (N:Int)=((k%N:Nat):Int):=(by rw[Int.tmod_eq_emod_of_nonneg (by omega)];rfl);have T:k%N<N:=Nat.mod_lt _ bi;have R:((k%N:Nat):Int)<(N:Int):=(by omega);obtain⟨x,z⟩:∃x,l[k%N]?=some x:=⟨_,List.getElem?_eq_getElem (by rw[ab.out];exact T)⟩;obtain⟨g,ci,rfl,c2,J⟩:=am.out _ _ z;have r:=J 0 _ rfl;have G:wr.cell? ⟨g,ci+k%N,none⟩=some (.int .u64 x):=by
     have:=(d.out.1.cell (aE r) (fun h=>h)).trans r;simpa using this
    obtain⟨ch,P⟩:∃m,k%N=m:=⟨_,rfl⟩;rw[P]at c6 T R G;have dN:(0:Int)<=(ch:Int):=(by omega);have cW:=Z (a2.out x (List.mem_of_getElem? z));clear z J r c2 P;go_wp2_with fail
    go_quiet (fail)
    generalize Y:wr.drewN nq=w1;have q:Hid (Ch ag wr w1):=Z (Ch.dN Y);clear Y G;generalize X:IntKind.u64.wrap (x+IntKind.u64.wrap (IntKind.u64.wrap (wrap64 ((k:Int)/(N:Int)))*2654435761))=o;have c7:aH o:=(by rw[<-X];exact cj _);clear X;obtain⟨et,ex⟩:=c7;go_upto_region 8 with fail
    generalize hb:bits .xor .u64 o (o/131072)=j;have dr:0<=j:=(by rw[<-hb];exact(iN .xor o (o/131072)).1);obtain⟨W,I,bv,bw⟩:∃W,wrap64 ((j/256).tmod n)=W/\0<=W/\W<n:=by
     have ap:(j/256).tmod n=j/256%n:=Int.tmod_eq_emod_of_nonneg (by omega);have ct:=Int.emod_nonneg (j/256) (b:=n) (by omega);have cA:=Int.emod_lt_of_pos (j/256) (b:=n) (by omega);rw[ap];exact⟨_,rfl,by unfold wrap64;omega,by unfold wrap64;omega⟩
    obtain⟨D,H,av,cC⟩:∃D,(j/65536).tmod 64=D/\0<=D/\D<64:=by
     rw[Int.tmod_eq_emod_of_nonneg (by omega)];exact⟨_,rfl,by omega,by omega⟩
    try rw[I]
    try rw[H]
    clear hb;have ad:=Z (ar d.out.2.1 q.out (fun _ _ h=>h));have B:Hid (pG n ⟨1,W,D⟩/\pG n ⟨2,0,0⟩):=Z ⟨⟨⟨av,by show D<_;omega⟩,Or.inl ⟨rfl,bv,bw⟩⟩,⟨⟨by decide,by decide⟩,Or.inr rfl⟩⟩;obtain⟨ce,M,c9,cb,cd⟩:=info_parts ph;have a1:=Z M;clear M I H;go_upto_region 10 with fail
    all_goals
     first
      |(obtain⟨w2,f⟩:=nm (w1.alloc (.cells #[.int .i64 2,.int .i64 0,.int .u64 0] 41));rw[f];obtain⟨E,C,p,A⟩:∃E,Hid (pG n E)/\Hid (Ch ag w1 w2)/\Hid (Row w2 w1.heap.size 41 (j7 E)):=⟨⟨2,0,0⟩,B.out.2,Ch.al f,Row.al f⟩;clear f)
      |(obtain⟨w2,f⟩:=nm (w1.alloc (.cells #[.int .i64 1,.int .i64 W,.int .u64 D] 41));rw[f];obtain⟨E,C,p,A⟩:∃E,Hid (pG n E)/\Hid (Ch ag w1 w2)/\Hid (Row w2 w1.heap.size 41 (j7 E)):=⟨⟨1,W,D⟩,B.out.1,Ch.al f,Row.al f⟩;clear f)
     obtain⟨x0,x1,x2⟩:=A.out.c3;have F:=Z (ar ad.out p.out (fun _ _ h=>h));have c5:=((d.out.1.trans q.out).trans p.out|>.size);go_wp2_with (at_builtin;refine wpList_append_lies _ rfl _ _ _ rfl w.heap.size 41 ce _ 3 24 underlying33 a1.out c9 cb cd rfl (by omega) _ k (S.flatMap j7) rfl (F.out.alloc _) ⟨w2.heap.size,0,none⟩ 1 1 (j7 E) rfl rfl (World.news_of_block (cs:=#[.int .i64 E.kind,.int .i64 E.wk,.int .u64 E.draw]) (t:=41) (fr:=(0,0)) (heap_alloc_new w2 _)) (by simp[Value.oneCell',j7]) (by omega) (by unfold maxLen;omega) (by omega) (by simp;omega) (w2.heap.size+1) (by simp) ?_)
     intro cq cap w4 U L c0 c3;have K:=ax L;have al:=Z U;have a0:=Z (iP ((d.out.1.trans q.out).trans p.out) F.out (Nat.le_refl _) K);clear L K U c0 c3 x0 x1 x2 c5;go_wp2_with fail
     go_roundg (e-(k+1)+1)
     case measure=>omega
     case rel=>
      exact⟨k+1,S++[E],by omega,rfl,rfl,a0.out,by rw[List.flatMap_append];simpa using al.out,by rw[List.length_append,d.out.2.2.1];rfl,fun y c8=>by
       rcases List.mem_append.1 c8 with h|h
       ·exact d.out.2.2.2 y h
       ·rw[List.mem_singleton.1 h];exact C.out⟩
   ·go_wp2_with fail
    go_ret;exact⟨⟨S,_,rfl,d.out.2.2.1▸d.out.2.1,by rw[d.out.2.2.1];exact O,d.out.2.2.2⟩,d.out.1⟩
  ·go_wp2_with fail
   go_ret;exact⟨⟨S,_,rfl,d.out.2.2.1▸d.out.2.1,by rw[d.out.2.2.1];exact O,d.out.2.2.2⟩,d.out.1⟩
section
theorem hY(S:aF)(a:Int):(S.acc 0 a 0 0).2=S:=by
 unfold aF.acc;split
 ·rfl
 ·rfl
def pk(K:KS)(a:Int):Int:=(hd K a).1
def eT(K:KS)(array n a:Int):Nat->Int->List Int
 |0,_=>[]
 |f+1,i=>if i<a/\0<n then pk K (IntKind.u64.wrap (IntKind.u64.wrap (array+1)+i.tmod n))::eT K array n a f (IntKind.u64.wrap (i+1))else []
theorem ht(K:KS)(array n a:Int)(f:Nat)(i:Int)(h:f=0∨¬(i<a/\0<n)):eT K array n a f i=[]:=by
 cases f with
 |zero=>rfl
 |succ f=>
  unfold eT;rw[if_neg (h.resolve_left (by omega))]
def ev(K:KS)(i:Int):Int×Int×List Int:=
 if i<0∨K.wk.length<=i then(0,0,[])else
  let at_:=gY i
  let top:=pk K at_
  let a:=pk K (IntKind.u64.wrap (at_+1))
  let array:=pk K (IntKind.u64.wrap (at_+2))
  (top,a,eT K array (pk K array) a 16 top)
section
variable{w:World}{χ:Nat->a4}{L:cw}{Y:Var}{C:KC}{K:KS}
theorem e6(h:ae w χ L Y C K)(a:Int):aH (pk K a):=by
 unfold pk hd aF.acc;split
 ·exact⟨Int.le_refl 0,by show(0:Int)<_;decide⟩
 ·show aH (K.mem.cells.getD a.toNat 0)
  rw[List.getD_eq_getElem?_getD];cases b:K.mem.cells[a.toNat]? with
  |none=>exact⟨by decide,by decide⟩
  |some x=>exact(h.mem (by simp)).is.u64 _ _ b
theorem eK(a:Int)(l:aH a)(h:ae w χ L Y C K):Calls prog 51 #[.pointer (some ⟨L.mb,0,none⟩),.int .u64 a] w (fun e w'=>e=.returned (.int .u64 (pk K a))/\dB χ L Y C K K w χ Y w'):=by
 have c:=h.cP;have j:=Z (lW L.m L.c L.d K.mem a l w (h.mem (by simp)).is);have H:=Z h;obtain⟨p,g⟩:=nm (K.mem.acc 0 a 0 0);obtain⟨r,S⟩:=p;have E:Hid (pk K a=r.getD 0/\({K with mem:=S}:KS)=K):=Z ⟨by unfold pk hd;rw[g],by have:=hY K.mem a;rw[g]at this;rw[show S=K.mem from this]⟩;rw[g]at j;clear h g;cases r with
 |none=>
  go_enter func51,ntmps51
  go_wp2_with (refine j.out.mono ?_;rintro e w1 ⟨⟨v,rfl,m⟩,b,d⟩;have i:=Z (H.out.o3 b d fun _ k=>gN k);clear b d m)
  go_ret;rw[E.out.1];have f:=i.out;rw[E.out.2]at f;exact⟨rfl,f⟩
 |some r=>
  go_enter func51,ntmps51
  go_wp2_with (refine j.out.mono ?_;rintro e w1 ⟨rfl,b,d⟩;have i:=Z (H.out.o3 b d fun _ k=>gN k);clear b d)
  go_ret;rw[E.out.1];have f:=i.out;rw[E.out.2]at f;exact⟨rfl,f⟩
structure R6(x:Int×Int×List Int)(χ:Nat->a4)(L:cw)(Y:Var)(C:KC)(K:KS)(w:World)(e:Ending)(w':World):Prop where
 ret:∃v,e=.returned (.tuple #[.int .u64 x.1,.int .u64 x.2.1,v])/\w'.ownsRow w.heap.size 39 1 v x.2.2.length (x.2.2.map (Value.int .u64))/\dB χ L Y C K K w χ Y w'
theorem hS{a pre:List Int}{arr n bot top j:Int}{k:Nat}{w':World}{v:Value}
 (c:pre.length=k/\a=pre++eT K arr n bot (16-k) j/\dB χ L Y C K K w χ Y w'/\w'.ownsRow w.heap.size 39 1 v k (pre.map (Value.int .u64)))
 (h:16-k=0∨¬(j<bot/\0<n)):R6 (top,bot,a) χ L Y C K w (.returned (.tuple #[.int .u64 top,.int .u64 bot,v])) w':=by
 obtain⟨d,b,e,f⟩:=c;rw[ht _ _ _ _ _ _ h,List.append_nil]at b;subst d b;exact⟨⟨v,rfl,f,e⟩⟩
theorem gq(i:Int)(h:ae w χ L Y C K):Calls prog 21 #[.pointer (some ⟨L.mb,0,none⟩),.int .i64 i] w (R6 (ev K i) χ L Y C K w):=by
 have H:=Z h;have c:=h.p7;have c7:=(h.wk (by simp)).n;obtain⟨o,r⟩:=nm K.wk.length;rw[r]at c c7;have F:=Z r;clear h r;have c3:i<0∨(o:Int)<=i∨0<=i/\i<o:=by omega
 rcases c3 with u|u|⟨R,c4⟩
 ·have E:Hid (ev K i=(0,0,[])):=Z (by unfold ev;rw[if_pos (Or.inl u)])
  go_enter func21,ntmps21
  go_wp2_with fail
  refine bodyPost_ret (results_tmp3 rfl _ _ _) rfl ?_;rw[E.out];exact⟨⟨.slice none 0 0,rfl,World.ownsRow_nil _ _ _ _,H.out.hg (Ch.refl _ _)⟩⟩
 ·have E:Hid (ev K i=(0,0,[])):=Z (by unfold ev;rw[if_pos (Or.inr (by rw[F.out];exact u))])
  have R:¬i<0:=by omega
  go_enter func21,ntmps21
  go_wp2_with fail
  refine bodyPost_ret (results_tmp3 rfl _ _ _) rfl ?_;rw[E.out];exact⟨⟨.slice none 0 0,rfl,World.ownsRow_nil _ _ _ _,H.out.hg (Ch.refl _ _)⟩⟩
 ·obtain⟨at_,b⟩:=nm (gY i)
  have B:=Z (fun W=>o5 i R (by omega) (.pointer (some ⟨L.mb,0,none⟩)) W);rw[b]at B;have c2:Hid (aH at_):=Z (by rw[<-b];exact cj _);obtain⟨top,m⟩:=nm (pk K at_);obtain⟨bot,hb⟩:=nm (pk K (IntKind.u64.wrap (at_+1)));obtain⟨arr,l⟩:=nm (pk K (IntKind.u64.wrap (at_+2)));obtain⟨n,f⟩:=nm (pk K arr);have E:Hid (ev K i=(top,bot,eT K arr n bot 16 top)):=Z (by
   unfold ev;rw[if_neg (by rw[F.out];omega)];dsimp only;rw[b,m,hb,l,f])
  have P:=Z (And.intro m (And.intro hb (And.intro l f)));have O:=Z (And.intro (m▸e6 H.out _) (And.intro (hb▸e6 H.out _) (And.intro (l▸e6 H.out _) (f▸e6 H.out _))));obtain⟨cd,S,c8,c9,cb⟩:=info_parts jt;have ad:=Z S;have cL:(o:Int)>i:=c4;clear b m hb l f S;go_enter func21,ntmps21
  go_wp2_with fail
  with_reducible refine(B.out _).mono ?_
  rintro e w1 ⟨rfl,rfl⟩;clear c;go_wp2_with fail
  with_reducible refine(eK _ c2.out H.out).mono ?_
  rintro e w1 ⟨rfl,a0⟩;rw[P.out.1];have J:=Z a0;clear a0;go_wp2_with fail
  with_reducible refine(eK _ (cj _) J.out.at_).mono ?_
  rintro e w2 ⟨rfl,a1⟩;rw[P.out.2.1];have M:=Z (J.out.trans (Gr.refl _) a1);clear a1;go_wp2_with fail
  with_reducible refine(eK _ (cj _) M.out.at_).mono ?_
  rintro e cS ⟨rfl,a2⟩;rw[P.out.2.2.1];have N:=Z (M.out.trans (Gr.refl _) a2);clear a2;go_wp2_with fail
  with_reducible refine(eK _ O.out.2.2.1 N.out.at_).mono ?_
  rintro e w4 ⟨rfl,ab⟩;rw[P.out.2.2.2];have bi:=Z (N.out.trans (Gr.refl _) ab);clear ab;obtain⟨I,p⟩:=nm (eT K arr n bot 16 top);have al:=Z p;rw[p]at E;clear p;go_wp2_with fail
  go_loopg [6,10] 17 (fun gk ch ce wr=>∃(k:Nat) (j:Int) (pre:List Int),k<=16/\gk=17-k/\ce=.int .u64 j/\pre.length=k/\aH j/\I=pre++eT K arr n bot (16-k) j/\dB χ L Y C K K w χ Y wr/\wr.ownsRow w.heap.size 39 1 ch k (pre.map (Value.int .u64)))
  case atStart=>exact⟨0,top,[],by omega,rfl,rfl,rfl,O.out.1,al.out.symm,bi.out,World.ownsRow_nil _ _ _ _⟩
  case round=>
   obtain⟨k,j,pre,cA,rfl,rfl,X,hj,T,U,v⟩:=hrel;have a:=Z (And.intro X (And.intro T (And.intro U v)));have cl:=Z hj;obtain⟨a3,bw,rfl⟩:=aA v;have cC:(k:Int)<=16:=(by omega);clear X T U v hj;by_cases c0:j<bot
   ·by_cases c1:0<n
    ·by_cases cq:k<16
     ·have ct:(k:Int)<16:=by omega
      obtain⟨x,y⟩:=nm (pk K (IntKind.u64.wrap (IntKind.u64.wrap (arr+1)+j.tmod n)));have am:Hid (I=(pre++[x])++eT K arr n bot (16-(k+1)) (IntKind.u64.wrap (j+1))):=Z (by
       rw[a.out.2.1,show 16-k=(16-(k+1))+1 by omega,eT,if_pos ⟨c0,c1⟩,y,List.append_assoc];rfl)
      have av:=Z y;clear y;go_wp2_with fail
      with_reducible refine(eK _ (cj _) a.out.2.2.1.at_).mono ?_
      rintro e A ⟨rfl,z⟩;rw[av.out];have d:=Z (a.out.2.2.1.trans (Gr.refl _) z);have D:Hid (∀g,(Value.slice a3 k bw).ownBlock=some g->χ g=.no):=Z (fun g e=>H.out.fresh (a.out.2.2.2.lt g e).1);have G:=Z (ar a.out.2.2.2 z.nx.ch (fun g e q=>q (D.out g e)));have c6:=d.out.nx.ch.size;clear z;go_wp2_with (at_builtin;refine wpList_append_lies _ rfl _ _ _ rfl w.heap.size 39 cd _ 1 8 underlying29 ad.out c8 c9 cb rfl (by omega) _ k (pre.map (Value.int .u64)) rfl (G.out.alloc _) ⟨A.heap.size,0,none⟩ 1 1 [.int .u64 x] rfl rfl (World.news_of_block (cs:=#[.int .u64 x]) (t:=39) (fr:=(0,0)) (heap_alloc_new A _)) (by simp[Value.oneCell']) (by omega) (by unfold maxLen;omega) (by omega) (by simp;omega) (A.heap.size+1) (by simp) ?_)
      intro cm cap ci V Q b c5;have s:=ax Q;have ap:=Z V;have bv:Hid (dB χ L Y C K K w χ Y ci):=Z ⟨d.out.at_.zS (Ch.bQ s) (fun g _ e=>D.out g e),⟨iP d.out.nx.ch G.out (Nat.le_refl _) s,d.out.nx.same⟩,d.out.yk⟩;clear Q s V b c5 c6;go_wp2_with fail
      go_roundg (17-(k+1))
      case measure=>omega
      case rel=>exact⟨k+1,_,pre++[x],by omega,rfl,rfl,by rw[List.length_append,a.out.1];rfl,cj _,am.out,bv.out,by rw[List.map_append];exact ap.out⟩
     ·obtain rfl:k=16:=by omega
      go_wp2_with fail
      refine bodyPost_ret (results_tmp3 rfl _ _ _) rfl ?_;rw[E.out];exact hS a.out (Or.inl rfl)
    ·go_wp2_with fail
     refine bodyPost_ret (results_tmp3 rfl _ _ _) rfl ?_;rw[E.out];exact hS a.out (Or.inr fun h=>by omega)
   ·go_wp2_with fail
    refine bodyPost_ret (results_tmp3 rfl _ _ _) rfl ?_;rw[E.out];exact hS a.out (Or.inr fun h=>by omega)
end
end
section
def NY:KC:=ue dF 90 [] [⟨16,0,0,0,0,0,0⟩] 0 0 0
theorem Pj:∀x∈dF,aH x.v:=by
 have h:(dF.all fun x=>decide (0<=x.v/\x.v<18446744073709551616))=true:=by decide
 intro x a;have:=List.all_eq_true.1 h x a;show 0<=x.v/\x.v<18446744073709551616
 exact of_decide_eq_true this
theorem MN:e2 dF 90 []=true:=by kernel_rfl
theorem K9:ei [⟨16,0,0,0,0,0,0⟩] 0 0 0=true:=by kernel_rfl
theorem MO:oC NY:=vq MN K9 (Nat.zero_le _) Pj (fun x a=>by
 obtain rfl:=List.mem_singleton.1 a;exact⟨by decide,by decide⟩)
theorem Pk:(dF.all fun x=>decide ((1<=x.op/\x.op<=5∨x.op=9∨x.op=10∨x.op=11∨x.op=12∨x.op=13∨x.op=14∨x.op=15∨x.op=16)∨(x.op=17∨x.op=18∨x.op=20∨x.op=31∨x.op=32)∨(x.op=29∨x.op=38∨x.op=39∨x.op=42)∨x.op=30∨x.op=33∨x.op=43∨x.op=48))=true:=by decide
structure DM(N:Nat)(w:World)(χ:Nat->a4)(mb n:Nat)(K:KS)(s:AS):Prop where
 ms:MS w χ mb NY K
 iv:Inv N 0 K
 ar:cR (17+8*n) K.ds s
theorem NZ{ok:Hy}{n j:Nat}{s:AS}{w:AW}{x:aV}(I:∃g m,FB ok n s g m)(hw:s.wk[j]?=some w)(u:dF[w.pc]?=some x)(h:Sf x s w):Mc x s w NY.bn.length:=by
 obtain⟨i,k,l,o,p,r⟩:=h;have t:=of_decide_eq_true (List.all_eq_true.1 Pk x (List.mem_of_getElem? u));unfold Mc;rcases t with q|q|q|q|q|q|q
 ·by_cases c:x.op=9
  ·exact Or.inl (by have:=i c;omega)
  ·by_cases f:x.op=15
   ·have:=k f
    exact Or.inr (Or.inl (by omega))
   ·by_cases e:x.op=16
    ·exact Or.inr (Or.inl (Or.inr (Or.inr (Or.inr (Or.inr ⟨e,l e⟩)))))
    ·rcases q with q|q|q|q|q|q|q|q|q
     ·exact Or.inl (by omega)
     ·omega
     ·exact Or.inl (by omega)
     ·exact Or.inl (by omega)
     ·exact Or.inr (Or.inl (by omega))
     ·exact Or.inr (Or.inl (by omega))
     ·exact Or.inr (Or.inl (by omega))
     ·omega
     ·omega
 ·exact Or.inr (Or.inr (Or.inl ⟨q,o q⟩))
 ·exact Or.inr (Or.inr (Or.inr (Or.inl q)))
 ·exact Or.inr (Or.inr (Or.inr (Or.inr (Or.inl q))))
 ·exact Or.inr (Or.inr (Or.inr (Or.inr (Or.inr (Or.inl ⟨q,p q⟩)))))
 ·exact Or.inr (Or.inr (Or.inr (Or.inr (Or.inr (Or.inr (Or.inl q))))))
 ·obtain⟨a,b⟩:=r q
  exact Or.inr (Or.inr (Or.inr (Or.inr (Or.inr (Or.inr (Or.inr ⟨q,a,by rw[b];show 0<1;decide⟩))))))
section
variable{ok:Hy}{N n j d mb:Nat}{s:AS}{K:KS}{w:World}{χ:Nat->a4}
theorem N0{g:Gh}{m:Nat->Nat}{x:AW}(I:FB ok n s g m)(hw:s.wk[j]?=some x):x.hand<qO:=by
 by_cases h:x.hand=0
 ·rw[h];decide
 ·have a:=(I.li.hd j x hw h).1.2
  have b:s.nb<=64:=I.si.nb;have a:x.hand<64+s.nb:=a;unfold qO;omega
theorem Q3(f:cR (17+8*n) K.ds s)(I:FK ok n s)(hj:j<n)(l:ok.ok j d)(k:d<qO):JN (17+8*n) NY K j d (aaq s j d):=by
 obtain⟨g,m,a,_⟩:=I;obtain⟨x,b⟩:=a.at_ hj;obtain⟨i,c,h,_⟩:=JW a b l;have e:=List.all_eq_true.1 P0 i (List.mem_of_getElem? c);rw[Bool.and_eq_true]at e;rw[HV b c];exact NC f b c e.2 (by decide) e.1 (NZ ⟨g,m,a⟩ b c h) k (by rw[a.nw];exact a.si.n1) (N0 a b)
theorem MP(a:cR (17+8*n) K.ds s)(I:FK ok n s)(hj:j<n):j<K.wk.length/\(K.W j).slot=0:=by
 obtain⟨g,m,b,_⟩:=I;obtain⟨x,e⟩:=b.at_ hj;obtain⟨c,hw⟩:=a.at_ e;exact⟨c,hw.slot⟩
def Sk(N:Nat)(χ:Nat->a4)(mb n:Nat)(s:AS)(w:World)(e:Ending)(w':World):Prop:=
 ∃v aW K',e=.returned v/\DM N w' aW mb n K' s/\Nx χ aW w w'
theorem Q4(D:DM N w χ mb n K s)(I:FK ok n s)(hj:j<n)(l:ok.ok j d)(b:d<qO)(k:N<=300000):
 Calls prog 13 #[.pointer (some ⟨mb,0,none⟩),.agg #[.int .i64 1,.int .i64 j,.int .u64 d]] w (Sk (N+1) χ mb n (aaq s j d) w):=by
 have g:aH (d:Int):=⟨by omega,by unfold qO at b;omega⟩;have a:=Q3 D.ar I hj l b;obtain⟨c,f⟩:=MP D.ar I hj;refine(PV MO D.iv k j c d g f a.ml D.ms).mono ?_;rintro e w' ⟨v,aW,rfl,-,-,h,i⟩;exact⟨v,aW,_,rfl,⟨h,Lj MO D.iv (by omega) c d g f a.ml,a.ar⟩,i⟩
theorem Lz(D:DM N w χ mb n K s)(I:FK ok n s)(hj:j<n):
 Calls prog 55 #[.pointer (some ⟨mb,0,none⟩),.int .i64 j] w (fun e w'=>∃a b c d,e=.returned (.tuple #[.agg #[.int .u64 a,.int .u64 b,.bool c,.int .i64 (Ia s j),.int .i64 d],.bool true])/\Ch ag w w'):=by
 obtain⟨g,m,k,_⟩:=I;obtain⟨x,h⟩:=k.at_ hj;obtain⟨i,f,l⟩:=D.ar.wk j x h;have f:K.wk[j]?=some i:=f;have e:K.W j=i:=by unfold KS.W;rw[List.getD_eq_getElem?_getD,f];rfl
 obtain⟨L,Y,rfl,o,_⟩:=D.ms;refine(sP j (List.getElem?_eq_some_iff.1 f).1 o).mono ?_;rintro E w' ⟨rfl,p⟩;rw[e,l.pc,<-HX h];exact⟨_,_,_,_,rfl,p⟩
theorem N1(D:DM N w χ mb n K s):Calls prog 19 #[.pointer (some ⟨mb,0,none⟩)] w (Ah (s.ring.map fun y:Nat=>(y:Int)) w):=by
 obtain⟨L,Y,rfl,a,_⟩:=D.ms;have:=xI a
 rwa [show K.ring=_ from D.ar.ring]at this
theorem DM.af{w':World}(D:DM N w χ mb n K s)(c:Ch ag w w'):DM N w' χ mb n K s:=⟨D.ms.af c,D.iv,D.ar⟩
theorem DM.zS{w':World}{P:Nat->Prop}(D:DM N w χ mb n K s)(c:Ch P w w')(h:∀i,i<w.heap.size->P i->χ i=.no):DM N w' χ mb n K s:=⟨D.ms.zS c h,D.iv,D.ar⟩
end
end
section
section
variable{T D:ByteArray}{L:List (ByteArray×Int)}
set_option maxRecDepth 1000000 in
theorem Kk(X:I4 T D L)(w:World):Calls prog 53 #[] w (fun e w'=>e=.returned (.string T)/\w'=w):=by
 have a:=Z X.t;clear X;go_enter func53,ntmps53
 go_wp2
 go_ret;refine⟨?_,rfl⟩;rw[a.out]
 kernel_rfl
set_option maxRecDepth 1000000 in
theorem I5(X:I4 T D L)(v:Value)(m:Int)(w:World)(d:w.cell? ⟨1,0,none⟩=some (.int .i64 m)):Calls prog 26 #[v] w (dt (.int .i64 90) w):=by
 have j:=Z (Kk X);have i:Hid (∀Y,Y=D->Calls prog 52 #[.agg #[.string (T++Y),.int .i64 14]] w (Pr dF 90 w)):=Z (fun Y e=>by
  rw[e];exact Jp (T++D) dF L X.p X.s (by decide) X.l0 X.l1 90 X.loop X.born m w d)
 have h:=Z X.d;have k:T.size<=65536:=by have:=X.s;rw[ByteArray.size_append]at this;omega
 clear X d;go_enter func26,ntmps26
 go_wp2_with fail
 with_reducible refine(j.out _).mono ?_
 rintro e w1 ⟨rfl,rfl⟩;go_wp2_with fail
 with_reducible refine(i.out _ (by rw[h.out];kernel_rfl)).mono ?_
 rintro e w2 ⟨l,rfl,f,b⟩;obtain⟨a,c,rfl⟩:=aA f;have g:=Z b;clear f b;go_wp2_with fail
 go_ret;exact dt.mk rfl (g.out.alloc _)
def Px(w:World)(e:Ending)(w':World):Prop:=∃v,e=.returned (.agg #[v,.int .i64 0,.int .i64 0,.int .i64 0])/\w'.ownsRow w.heap.size 184 7 v 1 ([⟨16,0,0,0,0,0,0⟩].flatMap dg)/\Ch ag w w'
theorem Kl(w:World):Calls prog 54 #[] w (Px w):=by
 obtain⟨B,c⟩:=nm w.heap.size;have b:=Z c;go_enter func54,ntmps54
 go_wp2_with fail
 obtain⟨w4,a⟩:=nm ((w.alloc (.cells #[.slice (some ⟨B+1,0,none⟩) 1 1,.int .i64 0,.int .i64 0,.int .i64 0] 77)).alloc (.cells #[.int .i64 16,.int .i64 0,.int .i64 0,.int .i64 0,.int .u64 0,.int .i64 0,.int .i64 0] 184));have d:Hid (Ch ag w w4):=Z (by rw[<-a];exact((Ch.refl _ _).alloc _).alloc _);have e:Hid (Row w4 B 77 [.slice (some ⟨B+1,0,none⟩) 1 1,.int .i64 0,.int .i64 0,.int .i64 0]):=Z (by rw[<-a,<-b.out];exact(Row.new _ _ _).alloc _);have f:Hid (Row w4 (B+1) 184 (dg ⟨16,0,0,0,0,0,0⟩)):=Z (by
  rw[<-a,<-b.out];have:=Row.new (w.alloc (.cells #[.slice (some ⟨w.heap.size+1,0,none⟩) 1 1,.int .i64 0,.int .i64 0,.int .i64 0] 77)) #[.int .i64 16,.int .i64 0,.int .i64 0,.int .i64 0,.int .u64 0,.int .i64 0,.int .i64 0] 184;rw[World.size_alloc]at this;exact this)
 rw[a];clear a c;obtain⟨y0,g,h,i⟩:=e.out.c4;refine bodyPost_ret (v:=.agg #[.slice (some ⟨B+1,0,none⟩) 1 1,.int .i64 0,.int .i64 0,.int .i64 0]) ?_ rfl ?_
 ·simp[results,Tryz.f54,go_sem,y0,g,h,i]
 ·exact⟨_,rfl,mm f.out rfl (by decide) (by have:=b.out;omega),d.out⟩
def Q9(n tt:Nat)(w:World)(e:Ending)(w':World):Prop:=
 ∃mb χ,e=.returned (.pointer (some ⟨mb,0,none⟩))/\MS w' χ mb NY (hC NY n tt)/\(∀i,χ i≠ .no->w.heap.size<=i)/\Ch ag w w'
end
section
variable{T D:ByteArray}{L:List (ByteArray×Int)}
set_option maxRecDepth 1000000 in
theorem LS(X:I4 T D L)(n tt:Nat)(E:1<=n/\n<=64)(G:17+8*n+1<=tt/\tt<=65536)(m:Int)(w:World)(B:w.cell? ⟨1,0,none⟩=some (.int .i64 m))
 (q:w.cell? ⟨0,0,none⟩=some (.iface 390 (.agg #[.pointer (some ⟨4,85,none⟩)]))):
 Calls prog 25 #[.int .i64 n,.int .i64 tt] w (Q9 n tt w):=by
 have U:=Z (Kk X);have M:Hid (∀Y,Y=D->Calls prog 52 #[.agg #[.string (T++Y),.int .i64 14]] w (Pr dF 90 w)):=Z (fun Y e=>by
  rw[e];exact Jp (T++D) dF L X.p X.s (by decide) X.l0 X.l1 90 X.loop X.born m w B)
 have J:=Z X.d;have I:=Z (fun w=>Kl w);have O:Hid (∀(j k:Value) (t u:Nat) (W:World),W.ownsRow t 184 7 j 107 (dF.flatMap dg)->W.ownsRow u 184 7 k 1 ([⟨16,0,0,0,0,0,0⟩].flatMap dg)->Ch ag w W->Calls prog 34 #[.agg #[.int .i64 n,.int .i64 tt],.agg #[j,.int .i64 90,.slice none 0 0],.agg #[k,.int .i64 0,.int .i64 0,.int .i64 0]] W (Dn NY n tt W)):=Z (fun j k t u W V a0 c=>
  Ng n tt E ⟨by omega,G.2⟩ dF 90 [⟨16,0,0,0,0,0,0⟩] 0 0 0 MN K9 (by omega) j k W V a0 ((c.cell (aE q) (fun e=>e)).trans q))
 have a3:T.size<=65536:=by have:=X.s;rw[ByteArray.size_append]at this;omega
 clear X B q E G;go_enter func25,ntmps25
 go_wp2_with fail
 with_reducible refine(U.out _).mono ?_
 rintro e w1 ⟨rfl,rfl⟩;go_wp2_with fail
 with_reducible refine(M.out _ (by rw[J.out];kernel_rfl)).mono ?_
 rintro e w2 ⟨j,rfl,l,x⟩;obtain⟨a,c,rfl⟩:=aA l;have H:=Z x;clear x;rw[show dF.length=107 from rfl]at l;simp only[show dF.length=107 from rfl];have P:=Z l;clear l;go_wp2_with fail
 obtain⟨b,s⟩:=nm w2.heap.size;obtain⟨d,g⟩:=nm (w2.alloc (.cells #[.slice a 107 c,.int .i64 90,.slice none 0 0] 90));have S:Hid (Row d b 90 [.slice a 107 c,.int .i64 90,.slice none 0 0]):=Z (by rw[<-g,<-s];exact Row.new _ _ _);have o:Hid (Ch ag w1 d):=Z (by rw[<-g];exact H.out.alloc _);have Q:Hid (d.ownsRow w1.heap.size 184 7 (.slice a 107 c) 107 (dF.flatMap dg)):=Z (by rw[<-g];exact P.out.alloc _);rw[g,s];clear g s;have p:Hid (∀W,Ch ag d W->W.cell? ⟨b,0,none⟩=some (.slice a 107 c)/\W.cell? ⟨b,1,none⟩=some (.int .i64 90)/\W.cell? ⟨b,2,none⟩=some (.slice none 0 0)):=Z (fun W c=>by
  have r:=S.out.ch c (fun h=>h);exact⟨r.cell rfl,r.cell rfl,r.cell rfl⟩)
 obtain⟨t0,t1,t2⟩:=p.out _ (Ch.refl _ _);go_region_held3 (fun w'=>w'.cell? ⟨b,0,none⟩=some (.slice a 107 c)/\w'.cell? ⟨b,1,none⟩=some (.int .i64 90)/\w'.cell? ⟨b,2,none⟩=some (.slice none 0 0)) (go_keep) (first
  |(go_at_call 54;refine(I.out _).mono ?_;rintro e w4 ⟨k,rfl,F,y⟩;have f:Hid (Ch ag d w4):=Z (Ch.trans PL y);have R:=Z F;obtain⟨t0,t1,t2⟩:=p.out _ f.out;clear F y)
  |(go_at_call 34;refine(O.out _ _ _ _ _ (ar Q.out (f.out.trans PL) (fun _ _ e=>e)) (ar R.out PL (fun _ _ e=>e)) (o.out.trans (f.out.trans PL))).mono ?_;rintro e a2 ⟨mb,χ,rfl,C,A,z⟩;have v:Hid (Ch ag d a2):=Z (f.out.trans (Ch.trans PL z));have N:=Z C;have K:Hid (∀i,χ i≠ .no->w1.heap.size<=i):=Z (fun i a1=>Nat.le_trans (o.out.trans (f.out.trans PL)).size (A i a1));obtain⟨t0,t1,t2⟩:=p.out _ v.out;clear C A z))
 all_goals
  go_wp2_with fail
  go_ret;exact⟨mb,χ,rfl,N.out,K.out,o.out.trans v.out⟩
end
end
end Go.Proofs.YtlihkblppjgebaaGreatDoor
