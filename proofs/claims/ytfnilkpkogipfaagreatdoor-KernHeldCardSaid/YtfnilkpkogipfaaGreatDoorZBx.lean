import Derived.ProofKit
import Derived.ChangeAt
import Derived.LaidMore
import Derived.HandedShaped
import Derived.Deep.Slices
import Derived.Deep.Fields
import Derived.ChangeSame
import Derived.SizedLaws
import Derived.OpenShut
import Derived.Test.YtfnilkpkogipfaaGreatDoorZBw
set_option linter.all false
set_option maxRecDepth 100000
set_option maxHeartbeats 8000000
namespace Go.Proofs.YtfnilkpkogipfaaGreatDoor
open Go.RowKit Go.Proofs.Tryz
def Aa(C:KC)(ok:Bool)(n tt:Nat)(w:World)(e:Ending)(w':World):Prop:=
 (ok=false/\e=.returned (.pointer none)/\Ch ag w w')∨(ok=true/\∃mb χ,e=.returned (.pointer (some ⟨mb,0,none⟩))/\MS w' χ mb C (hC C n tt)/\(∀i,χ i≠ .no->w.heap.size<=i)/\Ch ag w w')
theorem fF.below{w w':World}{B:Nat}{p:Value}{P:fc}(h:fF w B p P)(hb:Below B w w'):fF w' B p P:=by
 obtain⟨a,c,g,i,j,b,d,e,f⟩:=h;exact⟨a,c,g,i,j,b,d.below hb,e.below hb,f.below hb⟩
theorem fF.mono{w:World}{B j:Nat}{p:Value}{P:fc}(h:fF w B p P)(A:B<=j):fF w j p P:=by
 obtain⟨a,c,u,y,z,q,b,d,i⟩:=h;have f:∀{v l},gD w B v l->gD w j v l:=fun {v l} h=>by
  obtain⟨a,c,b,d,i⟩:=h;refine⟨a,c,b,d,fun k x n=> ?_⟩;obtain⟨g,o,e,s,m⟩:=i k x n;exact⟨g,o,e,by omega,m⟩
 refine⟨a,c,u,y,z,q,f b,?_,f i⟩;obtain⟨a,c,b,d,i⟩:=d;refine⟨a,c,b,d,fun k x n=> ?_⟩;obtain⟨g,o,t,e,s,m,r⟩:=i k x n;exact⟨g,o,t,e,by omega,m,f r⟩
theorem sM{l:List aV}{loop:Int}{calls:List br}(cl:sB l loop calls)(ap:∀w,Calls prog 9 #[.int .i64 16] w (od l loop calls w))(P:fc)(am:iy P)(p:Value)(wk d:Int)(w:World)(Q:fF w w.heap.size p P)
 (E:w.cell? (0,0)=some (.iface 335 (.agg #[(1,40)]))):
 Calls prog 15 #[.agg #[wk,d],p] w (Aa (oz l loop calls P) (iz P wk d) (ct wk d).1.toNat (ct wk d).2.toNat w):=by
 have ck:=Z ap;have V:=Z E;have W:=Z Q;have U:=Z (fun w=>ou wk d w);have X:Hid (∀w1,Ch ag w w1->Calls prog 10 #[p,.int .i64 16] w1 (vu (bR P) w1)):=Z (fun w1 c=>z' P am p w1 ((Q.below c.gU).mono c.size));have I:=Z (fun(c6 c7 c8:Value) (B1 B2 B3:Nat) (b:World) J K L E=>z8 cl P wk d c6 c7 c8 (B1:=B1) (B2:=B2) (B3:=B3) b J K L E);obtain⟨n,O⟩:=nm ((ct wk d).1);obtain⟨tt,R⟩:=nm ((ct wk d).2);obtain⟨C,M⟩:=nm (oz l loop calls P);rw[O,R]at U I;rw[M]at I;rw[O,R,M];clear ap E Q am O R M;obtain⟨a0,t,cL,cQ,cq,rfl,J,K,L⟩:=W.out;obtain⟨a1,u,rfl,-,-⟩:=J;obtain⟨a2,v,rfl,-,-⟩:=K;obtain⟨a3,x,rfl,-,-⟩:=L;obtain⟨k,Y⟩:=nm P.cV;obtain⟨m,ab⟩:=nm P.first.length;obtain⟨o,ad⟩:=nm P.others.length;obtain⟨s,al⟩:=nm P.once.length;obtain⟨A,c4⟩:=nm P.kV;rw[Y,ab,ad,al,c4]at X⊢;clear W Y ab ad al c4;obtain⟨a,D⟩:=nm w.heap.size;have cs:=Z D;go_enter func15,ntmps15
 go_wp2_with fail
 obtain⟨w1,z⟩:=nm ((w.alloc (.cells #[wk,d] 23)).alloc (.cells #[.slice a0 k t,.slice a1 m u,.slice a2 o v,.slice a3 s x,.bool A] 28));have f:Hid (Ch ag w w1):=Z (by rw[<-z];exact((Ch.refl _ _).alloc _).alloc _);have cb:Hid (Row w1 a 23 [wk,d]):=Z (by rw[<-z,<-D];exact(Row.new w _ _).alloc _);have ch:Hid (Row w1 (a+1) 28 [.slice a0 k t,.slice a1 m u,.slice a2 o v,.slice a3 s x,.bool A]):=Z (by
  rw[<-z,<-D];have r:=Row.new (w.alloc (.cells #[wk,d] 23)) #[.slice a0 k t,.slice a1 m u,.slice a2 o v,.slice a3 s x,.bool A] 28;rw[World.size_alloc]at r;exact r)
 rw[z];clear z D;have j:Hid (∀b,Ch ag w1 b->b.cell? (a,0)=some (.int .i64 wk)/\b.cell? (a,1)=some (.int .i64 d)/\b.cell? (a+1,0)=some (.slice a0 k t)/\b.cell? (a+1,1)=some (.slice a1 m u)/\b.cell? (a+1,2)=some (.slice a2 o v)/\b.cell? (a+1,3)=some (.slice a3 s x)/\b.cell? (a+1,4)=some (.bool A)):=Z (fun b c=>by
  have r:=cb.ch c (fun h=>h);have q:=ch.ch c (fun h=>h);exact⟨r.cell rfl,r.cell rfl,q.cell rfl,q.cell rfl,q.cell rfl,q.cell rfl,q.cell rfl⟩)
 obtain⟨t0,t1,t2,t3,t4,t5,t6⟩:=j _ (Ch.refl _ _);go_region_held3 (fun w'=>w'.cell? (a,0)=some (.int .i64 wk)/\w'.cell? (a,1)=some (.int .i64 d)/\w'.cell? (a+1,0)=some (.slice a0 k t)/\w'.cell? (a+1,1)=some (.slice a1 m u)/\w'.cell? (a+1,2)=some (.slice a2 o v)/\w'.cell? (a+1,3)=some (.slice a3 s x)/\w'.cell? (a+1,4)=some (.bool A)) (go_keep) (first|(go_at_call 12;refine(U _).mono ?_;rintro e w2 ⟨rfl,av⟩;have S:Hid (Ch ag w1 w2):=Z (Ch.trans chi av);obtain⟨t0,t1,t2,t3,t4,t5,t6⟩:=j _ S;clear av)|(go_at_call 9;refine(ck _).mono ?_;rintro e c9 ⟨cq,rfl,⟨c6,c7,rfl,c0,c1⟩,bi⟩;have cd:=Z c0;have ce:=Z c1;have F:Hid (Ch ag w1 c9):=Z (S.trans (Ch.trans chi bi));obtain⟨t0,t1,t2,t3,t4,t5,t6⟩:=j _ F;clear bi c0 c1)|(go_at_call 10;refine(X _ (f.trans (F.trans chi))).mono ?_;rintro e w4 ⟨c8,rfl,c3,bv⟩;have B:Ch ag c9 w4:=Ch.trans chi bv;have G:Hid (Ch ag w1 w4):=Z (F.trans B);have H:=((f.trans G).cell (aE V) (fun e=>e)).trans V;have cf:=Z (fun b (c:Ch ag w4 b)=>(I _ _ _ _ _ _ b (ar (ar cd B (fun _ _ e=>e)) c (fun _ _ e=>e)) (ar (ar ce B (fun _ _ e=>e)) c (fun _ _ e=>e)) (ar c3 c (fun _ _ e=>e)) ((c.cell (aE H) (fun e=>e)).trans H)).mono fun _ _ h=>h.back (G.trans c));obtain⟨t0,t1,t2,t3,t4,t5,t6⟩:=j _ G;clear bv c3 B H)|(go_at_call 11;refine(cf _ chi).mono ?_;rintro e cS ⟨pv,cA,rfl,N,c5⟩;have T:=Z N;have ci:=Z c5;obtain⟨t0,t1,t2,t3,t4,t5,t6⟩:=j _ N;clear N c5))
 all_goals
  rcases ci with⟨y,rfl,cC,cW,rfl⟩|⟨y,mb,χ,rfl,rfl,c2,bw⟩
  ·have g:=Z y
   clear y;go_wp2_with fail
   go_ret;exact Or.inl ⟨g,rfl,f.trans T⟩
  ·have g:=Z (And.intro y (And.intro c2 bw))
   clear y c2 bw;go_wp2_with fail
   go_ret;exact Or.inr ⟨g.1,mb,χ,rfl,g.2.1,fun i cm=>Nat.le_trans f.size (g.2.2 i cm),f.trans T⟩
section
open Go.ChangeAt Go.ChangeShapes Go.Deep Go.WideShapes
set_option maxRecDepth 100000
def iA{α:Type}(w:World)(B:Nat)(v:Value)(k:Nat)(enc:α->List Value)(l:List α):Prop:=
 ∃a c,v=.slice a l.length c/\l.length<=c/\∀q x,l[q]?=some x->∃g b,a=some ⟨g,b,none⟩/\g<B/\∀j u,(enc x)[j]?=some u->w.cell? ⟨g,b+q*k+j,none⟩=some u
theorem lQ{n:Int}(h:(Lit.int .u64 n).wf=true):aH n:=by
 unfold Lit.wf at h;simp at h;have a:IntKind.u64.min=0:=by decide
 have b:IntKind.u64.max=18446744073709551615:=by decide
 rw[a,b]at h;exact⟨h.1,by omega⟩
theorem kY{w:World}{a:Addr}{n:Nat}{u:Value}(h:w.cell? (a.add n)=some u):∃g e,a.block=g/\a.off=e/\w.cell? ⟨g,e+n,none⟩=some u/\(n=0->a=⟨g,e,none⟩):=by
 refine⟨a.block,a.off,rfl,rfl,?_,fun c=> ?_⟩
 ·unfold Addr.add at h
  by_cases c:n=0
  ·rw[if_pos c]at h
   subst c;have:a.spot=none:=by
    cases d:a.spot with
    |none=>rfl
    |some s=>
     unfold World.cell? at h;split at h
     ·rw[d]at h;cases h
     ·cases h
   obtain⟨b,e,s⟩:=a;dsimp only at this⊢;subst this;exact h
  ·rw[if_neg c]at h;exact h
 ·subst c
  rw[show a.add 0=a by unfold Addr.add;rw[if_pos rfl]]at h;cases d:a.spot with
  |none=>obtain⟨b,e,s⟩:=a;dsimp only at d⊢;rw[d]
  |some s=>
   unfold World.cell? at h;split at h
   ·rw[d]at h;cases h
   ·cases h
section
variable{H:Type}{enc:TypeId×Value->H}{w:World}{base:Nat}{spare:Nat->Bool}{held:Bool}
theorem lR{α:Type} [Inhabited α]{ec:α->List Value}{k:Nat}{Ok:α->Prop}{T E:TypeId}(J:prog.underlying T=some (.slice E))(P:prog.cellsOf E=k)(Q:0<k)(M:∀x,(ec x).length=k)
 (N:∀n cs x a,w.cells? base a k=some cs->DataW.trod enc prog w base spare held n E cs=some x->∃X:α,Ok X/\∀r u,(ec X)[r]?=some u->w.cell? (a.add r)=some u)
 {fuel:Nat} {v:Value} {x:DataW H×List MemPlace} (h:DataW.trod enc prog w base spare held fuel T [v]=some x):∃l:List α,iA w w.heap.size v k ec l/\∀X∈l,Ok X:=by
 rcases open_slice J h with⟨d,a1⟩|⟨a,len,cap,m,n,D,Y,s,hb,R,ad,S,F,B⟩
 ·injection d with d _
  subst d;exact⟨[],⟨none,0,rfl,Nat.le_refl _,fun q x F=>by cases F⟩,fun X o=>by cases o⟩
 ·injection s with s _
  subst s;rw[P]at B;have ab:len<=m:=by rw[S];split<;>omega
  obtain⟨f,t⟩:=choose_lt (n:=len) (p:=fun i X=>Ok X/\∀r u,(ec X)[r]?=some u->w.cell? ((a.add (i*k)).add r)=some u) (fun i a3=>by
   obtain⟨Z,L,V⟩:=B i (by omega);exact N _ _ _ _ L V)
  have hlen:((List.range len).map f).length=len:=by simp
  refine⟨(List.range len).map f,⟨some a,cap,by rw[hlen],by rw[hlen];exact R,fun q x c=> ?_⟩,fun X o=> ?_⟩
  ·have C:q<len:=by have:=(List.getElem?_eq_some_iff.1 c).1;rwa [hlen]at this
   rw[List.getElem?_map,List.getElem?_range C]at c;have e:=Option.some.inj c;subst e;have b:∃u,w.cell? ((a.add (0*k)).add 0)=some u:=by
    have U:0<(ec (f 0)).length:=by rw[M];exact Q
    exact⟨_,(t 0 (by omega)).2 0 _ (List.getElem?_eq_getElem U)⟩
   obtain⟨u0,b⟩:=b;rw[add_add,Nat.zero_mul,Nat.zero_add]at b;obtain⟨g,W,-,-,a2,G⟩:=kY b;have K:=G rfl;subst K;refine⟨g,W,rfl,World.block_lt_of_cell? w _ b,fun j u O=> ?_⟩;have A:=(t q C).2 j u O;rw[add_add]at A;obtain⟨a0,al,y,z,I,_⟩:=kY A;dsimp only at y z;subst y;subst z
   rwa [<-Nat.add_assoc]at I
  ·obtain⟨q,c,rfl⟩:=List.mem_map.1 o
   exact(t q (List.mem_range.1 c)).1
deriving instance Inhabited for fe
theorem xD:∃f0 f1 f2 f3 f4:Field,prog.underlying 119=some (.struct #[f0,f1,f2,f3,f4])/\oneCellFields prog #[f0,f1,f2,f3,f4]=true/\f0.type=3/\f1.type=56/\f2.type=56/\f3.type=56/\f4.type=56:=
 ⟨_,_,_,_,_,underlying119,by kernel_rfl,rfl,rfl,rfl,rfl,rfl⟩
theorem Ab(n:Nat)(cs:List Value)(x:DataW H×List MemPlace)(a:Addr)(s:w.cells? base a 5=some cs)(y:DataW.trod enc prog w base spare held n 119 cs=some x):
 ∃X:fe,iK X/\∀r u,(Ds X)[r]?=some u->w.cell? (a.add r)=some u:=by
 obtain⟨f0,f1,f2,f3,f4,v,c,t0,t1,t2,t3,t4⟩:=xD;obtain⟨N,k,_,_,hlen,z,b⟩:=DataW.trod_struct v y;rw[show prog.cellsOf 119=5 by kernel_rfl]at hlen;obtain⟨_,T,q⟩:=World.cells?_some s
 match cs,hlen with
 |[O,P,Q,R,S],_=>
  obtain⟨G,k0⟩:=hone_of c 0 f0 rfl;obtain⟨I,k1⟩:=hone_of c 1 f1 rfl;obtain⟨J,k2⟩:=hone_of c 2 f2 rfl;obtain⟨K,k3⟩:=hone_of c 3 f3 rfl;obtain⟨L,A⟩:=hone_of c 4 f4 rfl
  match N,z with
  |[y0,U,V,W,Y],_=>
   have i:=b 0 f0 rfl;have j:=b 1 f1 rfl;have l:=b 2 f2 rfl;have m:=b 3 f3 rfl;have o:=b 4 f4 rfl;rw[G,k0,t0]at i;rw[I,k1,t1]at j;rw[J,k2,t2]at l;rw[K,k3,t3]at m;rw[L,A,t4]at o;obtain⟨B,d,-,-⟩:=DataW.trod_int underlying3 i;obtain⟨C,e,-,w1⟩:=DataW.trod_int underlying56 j;obtain⟨D,f,-,w2⟩:=DataW.trod_int underlying56 l;obtain⟨E,g,-,M⟩:=DataW.trod_int underlying56 m;obtain⟨F,h,-,w4⟩:=DataW.trod_int underlying56 o;simp at d e f g h;subst d e f g h;refine⟨⟨B,C,D,E,F⟩,⟨lQ w1,lQ w2,lQ M,lQ w4⟩,fun r u p=> ?_⟩;have t:r<5:=(List.getElem?_eq_some_iff.1 p).1;rw[q r t];exact p
theorem lS{fuel:Nat}{v:Value}{x:DataW H×List MemPlace}(h:DataW.trod enc prog w base spare held fuel 25 [v]=some x):∃l:List fe,gD w w.heap.size v l/\∀X∈l,iK X:=
 lR (ec:=Ds) (k:=5) underlying25 (by kernel_rfl) (by decide) (fun _=>rfl) (fun n cs x a b c=>Ab n cs x a b c) h
theorem sN{fuel:Nat}{v:Value}{x:DataW H×List MemPlace}(h:DataW.trod enc prog w base spare held fuel 26 [v]=some x):∃l:List (List fe),jn w w.heap.size v l/\∀b∈l,∀X∈b,iK X:=by
 rcases open_slice underlying26 h with⟨c,z⟩|⟨a,len,cap,m,n,D,T,r,hb,P,Y,Q,C,O⟩
 ·injection c with c _
  subst c;exact⟨[],⟨none,0,rfl,Nat.le_refl _,fun q x C=>by cases C⟩,fun X o=>by cases o⟩
 ·injection r with r _
  subst r;have W:len<=m:=by rw[Q];split<;>omega
  obtain⟨f,s⟩:=choose_lt (n:=len) (p:=fun i (X:List fe)=>(∀x∈X,iK x)/\∃j,w.cell? (a.add i)=some j/\gD w w.heap.size j X) (fun i V=>by
   obtain⟨F,A,R⟩:=O i (by omega);rw[show prog.cellsOf 25=1 by kernel_rfl,Nat.mul_one]at A;obtain⟨_,N,M⟩:=World.cells?_some A
   match F,N with
   |[E],_=>
    obtain⟨l,c,z⟩:=lS R;have k:=M 0 (by omega);rw[show(a.add i).add 0=a.add i by rw[add_add,Nat.add_zero]]at k;exact⟨l,z,E,k,c⟩)
  have hlen:((List.range len).map f).length=len:=by simp
  refine⟨(List.range len).map f,⟨some a,cap,by rw[hlen],by rw[hlen];exact P,fun q x d=> ?_⟩,fun X o=> ?_⟩
  ·have B:q<len:=by have:=(List.getElem?_eq_some_iff.1 d).1;rwa [hlen]at this
   rw[List.getElem?_map,List.getElem?_range B]at d;have e:=Option.some.inj d;subst e;obtain⟨a0,y,_⟩:=(s 0 (by omega)).2;obtain⟨g,S,-,-,k,G⟩:=kY y;have L:=G rfl;subst L;obtain⟨j,I,J⟩:=(s q B).2;obtain⟨U,Z,t,u,K,_⟩:=kY I;dsimp only at t u;subst t;subst u;exact⟨g,S,j,rfl,World.block_lt_of_cell? w _ y,K,J⟩
  ·obtain⟨q,d,rfl⟩:=List.mem_map.1 o
   exact(s q (List.mem_range.1 d)).1
theorem uk:∃f0 f1 f2 f3 f4:Field,prog.underlying 28=some (.struct #[f0,f1,f2,f3,f4])/\oneCellFields prog #[f0,f1,f2,f3,f4]=true/\f0.type=24/\f1.type=25/\f2.type=26/\f3.type=25/\f4.type=4:=
 ⟨_,_,_,_,_,underlying28,by kernel_rfl,rfl,rfl,rfl,rfl,rfl⟩
theorem pE{v:Value}{F:DataW H}{Z:List MemPlace}{r:Reach}{b:Nat}(M:Value.okWide prog w r b 28 v)(h:DataW.Trod enc prog w base spare held 28 v F Z):∃P:fc,fF w w.heap.size v P/\iy P:=by
 obtain⟨f0,f1,f2,f3,f4,q,e,t0,t1,t2,t3,t4⟩:=uk;obtain⟨cs,rfl,bv⟩:=okWide_struct q M;obtain⟨fuel,d⟩:=h;obtain⟨ab,k,_,_,hlen,N,d⟩:=DataW.trod_struct q d;rw[show prog.cellsOf 28=5 by kernel_rfl]at hlen;have p:(Value.agg cs).cells.toList=cs.toList:=by simp[Value.cells]
 obtain⟨l⟩:=cs
 match l,hlen with
 |[y,A,B,C,E],_=>
  obtain⟨U,k0⟩:=hone_of e 0 f0 rfl;obtain⟨V,k1⟩:=hone_of e 1 f1 rfl;obtain⟨W,k2⟩:=hone_of e 2 f2 rfl;obtain⟨X,k3⟩:=hone_of e 3 f3 rfl;obtain⟨Y,O⟩:=hone_of e 4 f4 rfl
  match ab,N with
  |[y0,c0,c1,c2,c3],_=>
   have f:=d 0 f0 rfl;have g:=d 1 f1 rfl;have i:=d 2 f2 rfl;have j:=d 3 f3 rfl;have o:=d 4 f4 rfl;rw[U,k0,t0]at f;rw[V,k1,t1]at g;rw[W,k2,t2]at i;rw[X,k3,t3]at j;rw[Y,O,t4]at o;obtain⟨Q,a1,t⟩:=lS g;obtain⟨R,a2,u⟩:=sN i;obtain⟨S,a3,x⟩:=lS j;obtain⟨s,I,-⟩:=DataW.trod_bool underlying4 o;have G:∃a n c,y=.slice a n c:=by
    rcases open_slice underlying24 f with⟨L,al⟩|⟨a,len,cap,m,n,D,ad,p,hb,ap,av,bi,bw,am⟩
    ·exact⟨_,_,_,(List.cons.inj L).1⟩
    ·exact⟨_,_,_,(List.cons.inj p).1⟩
   obtain⟨a0,T,z,rfl⟩:=G;have J:=(List.cons.inj I).1;have K:E=.bool s:=J;subst K;exact⟨⟨T,Q,R,S,s⟩,⟨a0,z,A,B,C,rfl,a1,a2,a3⟩,⟨t,u,x⟩⟩
theorem um:∃f0 f1:Field,prog.underlying 23=some (.struct #[f0,f1])/\oneCellFields prog #[f0,f1]=true/\f0.type=3/\f1.type=3:=
 ⟨_,_,underlying23,by kernel_rfl,rfl,rfl⟩
theorem pF{v:Value}{o:DataW H}{A:List MemPlace}{r:Reach}{b:Nat}(u:Value.okWide prog w r b 23 v)(h:DataW.Trod enc prog w base spare held 23 v o A):∃wk n:Int,v=.agg #[wk,n]:=by
 obtain⟨f0,f1,f,e,t0,t1⟩:=um;obtain⟨cs,rfl,C⟩:=okWide_struct f u;obtain⟨fuel,a⟩:=h;obtain⟨B,k,_,_,hlen,x,a⟩:=DataW.trod_struct f a;rw[show prog.cellsOf 23=2 by kernel_rfl]at hlen;obtain⟨l⟩:=cs
 match l,hlen with
 |[j,m],_=>
  obtain⟨y,k0⟩:=hone_of e 0 f0 rfl;obtain⟨z,k1⟩:=hone_of e 1 f1 rfl
  match B,x with
  |[y0,D],_=>
   have c:=a 0 f0 rfl;have d:=a 1 f1 rfl;rw[y,k0,t0]at c;rw[z,k1,t1]at d;obtain⟨g,p,-,-⟩:=DataW.trod_int underlying3 c;obtain⟨i,s,-,-⟩:=DataW.trod_int underlying3 d;have q:j=.int .i64 g:=(List.cons.inj p).1;have t:m=.int .i64 i:=(List.cons.inj s).1;subst q;subst t;exact⟨g,i,rfl⟩
structure lT where
 kind:Int
 wk:Int
 draw:Int
 deriving Inhabited
def j7(x:lT):List Value:=[.int .i64 x.kind,.int .i64 x.wk,.int .u64 x.draw]
theorem xE:∃f0 f1 f2:Field,prog.underlying 58=some (.struct #[f0,f1,f2])/\oneCellFields prog #[f0,f1,f2]=true/\f0.type=3/\f1.type=3/\f2.type=56:=
 ⟨_,_,_,underlying58,by kernel_rfl,rfl,rfl,rfl⟩
theorem Ac(n:Nat)(cs:List Value)(x:DataW H×List MemPlace)(a:Addr)(m:w.cells? base a 3=some cs)(q:DataW.trod enc prog w base spare held n 58 cs=some x):
 ∃X:lT,aH X.draw/\∀r u,(j7 X)[r]?=some u->w.cell? (a.add r)=some u:=by
 obtain⟨f0,f1,f2,p,c,t0,t1,t2⟩:=xE;obtain⟨C,k,_,_,hlen,s,b⟩:=DataW.trod_struct p q;rw[show prog.cellsOf 58=3 by kernel_rfl]at hlen;obtain⟨_,G,l⟩:=World.cells?_some m
 match cs,hlen with
 |[D,E,F],_=>
  obtain⟨z,k0⟩:=hone_of c 0 f0 rfl;obtain⟨A,k1⟩:=hone_of c 1 f1 rfl;obtain⟨B,k2⟩:=hone_of c 2 f2 rfl
  match C,s with
  |[y0,I,J],_=>
   have g:=b 0 f0 rfl;have h:=b 1 f1 rfl;have i:=b 2 f2 rfl;rw[z,k0,t0]at g;rw[A,k1,t1]at h;rw[B,k2,t2]at i;obtain⟨t,d,-,-⟩:=DataW.trod_int underlying3 g;obtain⟨v,e,-,-⟩:=DataW.trod_int underlying3 h;obtain⟨y,f,-,w2⟩:=DataW.trod_int underlying56 i;simp at d e f;subst d e f;refine⟨⟨t,v,y⟩,lQ w2,fun r u j=> ?_⟩;have o:r<3:=(List.getElem?_eq_some_iff.1 j).1;rw[l r o];exact j
theorem xF{v:Value}{c:DataW H}{g:List MemPlace}(h:DataW.Trod enc prog w base spare held 51 v c g)(f:v.cells.toList=[v]):∃l:List lT,iA w w.heap.size v 3 j7 l/\∀X∈l,aH X.draw:=by
 obtain⟨fuel,b⟩:=h;rw[f]at b;exact lR (ec:=j7) (k:=3) (Ok:=fun X=>aH X.draw) underlying51 (by kernel_rfl) (by decide) (fun _=>rfl) (fun n cs x a d e=>Ac n cs x a d e) b
def Ce(n:Int):List Value:=[.int .u64 n]
theorem uo{v:Value}{d:DataW H}{p:List MemPlace}(h:DataW.Trod enc prog w base spare held 29 v d p)(m:v.cells.toList=[v]):∃l:List Int,iA w w.heap.size v 1 Ce l/\∀n∈l,aH n:=by
 obtain⟨fuel,b⟩:=h;rw[m]at b;refine lR (ec:=Ce) (k:=1) (Ok:=aH) underlying29 (by kernel_rfl) (by decide) (fun _=>rfl) (fun n cs x a f g=> ?_) b;obtain⟨o,e,-,w2⟩:=DataW.trod_int underlying56 g;obtain⟨_,q,i⟩:=World.cells?_some f;subst e;refine⟨o,lQ w2,fun r u c=> ?_⟩;have j:r<1:=(List.getElem?_eq_some_iff.1 c).1;rw[i r j];exact c
end
end
end Go.Proofs.YtfnilkpkogipfaaGreatDoor
