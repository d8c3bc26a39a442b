import Derived.Deep.DrawnRows
import Derived.Test.YtfnilkpkogipfaaGreatDoorZAd
set_option linter.unusedVariables false
set_option linter.unusedSimpArgs false
set_option maxRecDepth 100000
set_option maxHeartbeats 8000000
namespace Go.Proofs.YtfnilkpkogipfaaGreatDoor
open Go.RowKit Go.Proofs.Tryz
theorem ah.b1(S:ah)(i:Nat)(t:a8):(S.lay i t).l.length=S.l.length:=by unfold ah.lay;simp
def gK:Nat->ah->Nat->a8->ah×Nat
 |0,S,i,_=>(S,i)
 |f+1,S,i,t=>if i=0 then(S,i)else
  match S.l[(i-1)/2]? with
  |none=>(S,i)
  |some p=>if eG t p then gK f (S.lay i p) ((i-1)/2) t else(S,i)
def ah.up(S:ah)(i:Nat):ah:=
 match S.l[i]? with
 |none=>S
 |some t=>(gK (i+1) S i t).1.lay (gK (i+1) S i t).2 t
theorem aM.at{w:World}{b mb:Nat}{v:Value}{S:ah}(h:aM w b mb v S){i:Nat}{t:a8}(a:S.l[i]?=some t):∃g cap,v=.slice (some ⟨g,0,none⟩) S.l.length cap/\S.l.length<=cap/\
 w.cell? ⟨g,i*3,none⟩=some (.int .u64 t.d)/\w.cell? ⟨g,i*3+1,none⟩=some (.int .u64 t.bS)/\w.cell? ⟨g,i*3+2,none⟩=some (.int .i64 t.h)/\g<w.heap.size:=by
 have k:=(List.getElem?_eq_some_iff.1 a).1;obtain⟨g,cap,l,rfl,c,-,-,-⟩:=h.sl (by omega);obtain⟨e,f,j,-,d,-,-⟩:=h.cell a;exact⟨g,cap,rfl,c,e,f,j,d⟩
theorem sX(b mb:Nat)(v:Value)(S:ah)(i:Nat)(d:i<S.l.length)(t:a8)(w:World)(h:aM w b mb v S)(a:Int)(c:a=i):
 Calls prog 183 #[(b,0),a,.agg #[.int .u64 t.d,.int .u64 t.bS,.int .i64 t.h]] w (k' b mb v (S.lay i t) w):=by
 subst c;exact Az b mb v S i d t w h
theorem eK(a b:a8)(r:Bool)(w:World)(h:eG a b=r):Calls prog 206 #[.agg #[.int .u64 a.d,.int .u64 a.bS,.int .i64 a.h],.agg #[.int .u64 b.d,.int .u64 b.bS,.int .i64 b.h]] w (dt (.bool r) w):=by
 subst h;exact vA a b w
theorem Cp(b mb:Nat)(v:Value)(S:ah)(i:Nat)(X:i<S.l.length)(hb:S.l.length<=1000000)(w:World)(h:aM w b mb v S):
 Calls prog 184 #[(b,0),.int .i64 i] w (k' b mb v (S.up i) w):=by
 obtain⟨t,P⟩:∃t,S.l[i]?=some t:=⟨_,List.getElem?_eq_getElem X⟩;have I:Hid (S.up i=(gK (i+1) S i t).1.lay (gK (i+1) S i t).2 t):=Z (by unfold ah.up;rw[P]);obtain⟨g,cap,rfl,bw,c0,c1,c2,W⟩:=h.at P;have H:=Z h;have u:=h.head.c1;obtain⟨N,L⟩:=mn S.l.length;rw[<-L]at u X hb bw H⊢;have ab:=Z L;have c3:(i:Int)<N:=by omega
 clear h P L;go_enter func184,ntmps184
 go_wp2
 obtain⟨tb,C⟩:=mn w.heap.size;rw[<-C];obtain⟨w1,A⟩:=nm (w.alloc (.cells #[.int .u64 t.d,.int .u64 t.bS,.int .i64 t.h] 318));have a1:Hid (aM w1 b mb (.slice (some (g,0)) N cap) S):=Z (by rw[<-A];exact H.alloc _);have a0:Hid (Ch (cn b mb (.slice (some (g,0)) N cap)) w w1):=Z (by rw[<-A];exact(Ch.refl _ _).alloc _);have ap:Hid (Row w1 tb 318 t.cells):=Z (by rw[<-A,C];exact Row.new w _ _);rw[A];have al:Hid (w.heap.size=tb/\g<w.heap.size/\b<w.heap.size/\mb<w.heap.size):=Z ⟨C.symm,W,H.head.lt,H.out.map.lt⟩;clear A C u c0 c1 c2 W;go_loopw [1] (fun s wr=>∃(k f:Nat) (a:ah),s=.int .i64 k/\k<=i/\k<f/\Hid (gK f a k t=gK (i+1) S i t/\a.l.length=N/\aM wr b mb (.slice (some (g,0)) N cap) a/\Row wr tb 318 t.cells/\Ch (cn b mb (.slice (some (g,0)) N cap)) w wr)) (fun s _=>(intOf s).toNat)
 case atStart=>exact⟨i,i+1,S,rfl,Nat.le_refl _,Nat.lt_succ_self _,rfl,ab.symm,a1,ap,a0⟩
 case round=>
  obtain⟨k,f,a,rfl,c9,c8,m⟩:=hrel;have r:=Z m.2.1;have B:=Z m.2.2.1;have V:=Z m.2.2.2.1;have T:=Z m.2.2.2.2;have u:=B.head.c1;obtain⟨t0,t1,t2⟩:=V.c3;have K:=Z (fun(j:Nat) (c4:j<N) (x:a8) (w:World) (S:ah) (cb:S.l.length=N) h am bv=>sX b mb (.slice (some (g,0)) N cap) S j (by omega) x w h am bv);obtain⟨o,rfl⟩:∃o,f=o+1:=⟨f-1,by omega⟩;have fin:Hid (∀w2,aM w2 b mb (.slice (some (g,0)) N cap) a->gK (o+1) a k t=(a,k)->aM w2 b mb (.slice (some (g,0)) N cap) a/\S.up i=a.lay k t):=Z (fun w2 bi e=>⟨bi,by rw[I,<-m.1,e]⟩);by_cases O:k=0
  ·subst O
   have E:Hid (S.up i=a.lay 0 t):=Z (by rw[I,<-m.1];rfl);go_wp2
   go_quiet (fail)
   go_wp2_with fail
   with_reducible refine(K.out 0 (by omega) t _ a r.out (B.out.drewN _) _ ?_).mono ?_
   ·rfl
   rintro e l ⟨rfl,n,c⟩;have a3:=Z n;have a2:=Z c;clear n c;go_wp2
   go_end0
   rw[E];exact⟨rfl,a3,(T.drewN _).trans a2⟩
  ·have c5:(1:Int)<=k:=by omega
   have c6:(0:Int)<k:=by omega
   have c7:0<k:=by omega
   obtain⟨p,Y⟩:=mn ((k-1)/2);have cd:((k:Int)-1).tdiv 2=(p:Int):=by rw[Int.tdiv_eq_ediv_of_nonneg (by omega)];omega
   have ce:((k:Int)-1)/2=(p:Int):=by omega
   have ci:IntKind.i64.wrap ((k:Int)-1)=(k:Int)-1:=IntWalk.i64_in _ (by omega);have ck:IntKind.i64.wrap (p:Int)=(p:Int):=IntWalk.i64_in _ (by omega);have cf:(p:Int)<N:=by omega
   have ch:p<k:=by omega
   obtain⟨x,Q⟩:∃x,a.l[p]?=some x:=⟨_,List.getElem?_eq_getElem (by rw[r];omega)⟩;obtain⟨x0,x1,x2,-,-,-,-⟩:=B.cell Q;have U:=Z Y;have J:=Z Q;clear Y Q;have R:Hid (∀l,Ch ag wr.drew l->aM l b mb (.slice (some (g,0)) N cap) a/\Row l tb 318 t.cells/\Ch (cn b mb (.slice (some (g,0)) N cap)) w l):=Z (fun l c=>
    ⟨B.drew.ch c (fun h=>h) (fun h=>h) (fun _ _ h=>h),V.drew.ch c (fun h=>h),T.drew.trans c.af⟩)
   cases q:eG t x
   ·have E:Hid (S.up i=a.lay k t):=Z (by
     have e:gK (o+1) a k t=(a,k):=by unfold gK;rw[if_neg O,<-U,J];simp only[q];rfl
     rw[I,<-m.1,e])
    have D:=Z (fun w=>eK t x false w q);clear q;go_wp2
    go_still_tail 13,(by kernel_rfl)
    change wpList _ _ _ _ _ wr.drew;go_wp2_with fail
    refine(D _).mono ?_;rintro e l ⟨rfl,z⟩;have d:=Z (R l z);have av:=d.1.head.cell (i:=0) rfl;have cl:=d.2.1.cell (i:=0) rfl;have cm:=d.2.1.cell (i:=1) rfl;have cq:=d.2.1.cell (i:=2) rfl;clear u t0 t1 t2 x0 x1 x2 z;go_wp2_with fail
    with_reducible refine(K.out k (by omega) t _ a r.out d.out.1 _ ?_).mono ?_
    ·rfl
    rintro e w4 ⟨rfl,n,c⟩;have G:=Z n;have F:=Z c;clear n c;go_wp2
    go_end0
    rw[E];exact⟨rfl,G,d.2.2.trans F⟩
   ·have E:Hid (gK o (a.lay k x) p t=gK (i+1) S i t):=Z (by
     rw[<-m.1]
     conv=>rhs;unfold gK
     rw[if_neg O,<-U,J];simp only[q];rfl)
    have D:=Z (fun w=>eK t x true w q);clear q;go_wp2
    go_still_tail 13,(by kernel_rfl)
    change wpList _ _ _ _ _ wr.drew;go_wp2_with fail
    refine(D _).mono ?_;rintro e l ⟨rfl,z⟩;have d:=Z (R l z);have av:=d.1.head.cell (i:=0) rfl;obtain⟨cs,cA,cC,-,-,-,-⟩:=d.1.cell J;have M:Hid (tb≠b/\tb≠mb/\tb≠g):=Z (by
     have:=al.out;refine⟨by omega,by omega,by omega⟩)
    clear u t0 t1 t2 x0 x1 x2 z;go_wp2_with fail
    with_reducible refine(K.out k (by omega) x _ a r.out d.out.1 _ ?_).mono ?_
    ·rfl
    rintro e w4 ⟨rfl,n,c⟩;have G:=Z n;have F:=Z c;have ad:Hid (Row w4 tb 318 t.cells):=Z (d.2.1.ch c (by
     rintro(y|y|y)
     ·exact M.1 y
     ·exact M.2.1 y
     ·exact M.2.2 (Option.some.inj y).symm))
    clear n c;go_wp2
    go_roundw
    case rel=>exact⟨p,o,a.lay k x,rfl,by omega,by omega,E,by rw[ah.b1];exact r,G,ad,d.2.2.trans F⟩
    case measure=>simp[intOf];omega
def jE(S:ah)(i:Nat)(a:a8):Nat:=
 match S.l[2*i+2]? with
 |none=>2*i+1
 |some c=>if eG c a then 2*i+2 else 2*i+1
def bN:Nat->ah->Nat->a8->ah×Nat
 |0,S,i,_=>(S,i)
 |f+1,S,i,t=>
  match S.l[2*i+1]? with
  |none=>(S,i)
  |some a=>match S.l[jE S i a]? with
   |none=>(S,i)
   |some x=>if eG x t then bN f (S.lay i x) (jE S i a) t else(S,i)
def ah.down(S:ah)(i:Nat):ah:=
 match S.l[i]? with
 |none=>S
 |some t=>(bN (S.l.length+1) S i t).1.lay (bN (S.l.length+1) S i t).2 t
theorem x'(b mb:Nat)(v:Value)(S:ah)(i:Nat)(am:i<S.l.length)(hb:S.l.length<=1000000)(w:World)(h:aM w b mb v S):
 Calls prog 185 #[(b,0),.int .i64 i] w (k' b mb v (S.down i) w):=by
 obtain⟨t,ap⟩:∃t,S.l[i]?=some t:=⟨_,List.getElem?_eq_getElem am⟩;obtain⟨g,cap,rfl,cS,dr,dC,dN,c7⟩:=h.at ap;have H:=Z h;have P:=h.head.c1;obtain⟨N,X⟩:=mn S.l.length;have W:Hid (S.down i=(bN (N+1) S i t).1.lay (bN (N+1) S i t).2 t):=Z (by unfold ah.down;rw[ap,X]);rw[<-X]at P am hb cS H⊢;have cs:=Z X;have ex:(i:Int)<N:=by omega
 clear h ap X;go_enter func185,ntmps185
 go_wp2
 obtain⟨tb,Y⟩:=mn w.heap.size;rw[<-Y];obtain⟨w1,V⟩:=nm (w.alloc (.cells #[.int .u64 t.d,.int .u64 t.bS,.int .i64 t.h] 318));have cq:Hid (aM w1 b mb (.slice (some (g,0)) N cap) S):=Z (by rw[<-V];exact H.alloc _);have cm:Hid (Ch (cn b mb (.slice (some (g,0)) N cap)) w w1):=Z (by rw[<-V];exact(Ch.refl _ _).alloc _);have cC:Hid (Row w1 tb 318 t.cells):=Z (by rw[<-V,Y];exact Row.new w _ _);rw[V];have al:Hid (w.heap.size=tb/\g<w.heap.size/\b<w.heap.size/\mb<w.heap.size):=Z ⟨Y.symm,c7,H.head.lt,H.out.map.lt⟩;clear V Y P dr dC dN c7;go_loopw [1] (fun s wr=>∃(k f:Nat) (d:ah),s=.int .i64 k/\k<N/\N<f+k/\Hid (bN f d k t=bN (N+1) S i t/\d.l.length=N/\aM wr b mb (.slice (some (g,0)) N cap) d/\Row wr tb 318 t.cells/\Ch (cn b mb (.slice (some (g,0)) N cap)) w wr)) (fun s _=>N-(intOf s).toNat)
 case atStart=>exact⟨i,N+1,S,rfl,am,by omega,rfl,cs.symm,cq,cC,cm⟩
 case round=>
  obtain⟨k,f,d,rfl,eL,eC,F⟩:=hrel;have u:=Z F.2.1;have R:=Z F.2.2.1;have bw:=Z F.2.2.2.1;have bi:=Z F.2.2.2.2;have P:=R.head.c1;obtain⟨t0,t1,t2⟩:=bw.c3;have O:=Z (fun(j:Nat) (K:j<N) (x:a8) (w:World) (S:ah) (eS:S.l.length=N) h cA cQ=>sX b mb (.slice (some (g,0)) N cap) S j (by omega) x w h cA cQ);obtain⟨C,rfl⟩:∃C,f=C+1:=⟨f-1,by omega⟩;have a3:Hid (∀p,Ch ag wr p->aM p b mb (.slice (some (g,0)) N cap) d/\Row p tb 318 t.cells/\Ch (cn b mb (.slice (some (g,0)) N cap)) w p):=Z (fun p m=>
   ⟨R.ch m (fun h=>h) (fun h=>h) (fun _ _ h=>h),bw.ch m (fun h=>h),bi.trans m.af⟩)
  have eA:(k:Int)<N:=by omega
  by_cases ec:2*k+1<N
  ·have cL:2*(k:Int)+1<N:=by omega
   obtain⟨a,c6⟩:∃a,d.l[2*k+1]?=some a:=⟨_,List.getElem?_eq_getElem (by rw[u];omega)⟩;have M:=Z c6;clear c6;by_cases en:2*k+2<N
   ·have c5:2*(k:Int)+1+1<N:=by omega
    have c4:2*k+1+1<N:=by omega
    obtain⟨c,m⟩:∃c,d.l[2*k+2]?=some c:=⟨_,List.getElem?_eq_getElem (by rw[u];omega)⟩;obtain⟨a0,a1,a2,-,-,-,-⟩:=R.cell M;obtain⟨c1,c2,c3,-,-,-,-⟩:=R.cell m;have bv:=Z m;clear m;have cW:IntKind.i64.wrap (2*(k:Int)+1+1)=2*(k:Int)+1+1:=IntWalk.i64_in _ (by omega);have eW:(2*(k:Int)+1+1).toNat=2*k+2:=by omega
    have fb:(2*(k:Int)+1).toNat=2*k+1:=by omega
    have fd:(0:Int)<=2*(k:Int)+1+1:=by omega
    have fn:(0:Int)<=2*(k:Int)+1:=by omega
    cases Q:eG c a
    ·have ab:=Z (fun w=>eK c a false w Q)
     have ad:=Z Q;clear Q;go_wp2
     go_still_tail 24,(by kernel_rfl)
     change wpList _ _ _ _ _ wr.drew;go_wp2_with fail
     refine(ab _).mono ?_;rintro e B ⟨rfl,U⟩;have n:=Z (a3 B ((Ch.refl _ _).drew.trans U));clear U a0 a1 a2 c1 c2 c3;go_wp2
     obtain⟨j,K⟩:=mn (2*k+1);have c9:j<N:=by omega
     have c8:(j:Int)<N:=by omega
     have cd:k<j:=by omega
     have L:Hid (jE d k a=j):=Z (by unfold jE;rw[bv];dsimp only;rw[ad,K];rfl);have cb:2*(k:Int)+1=(j:Int):=by omega
     obtain⟨x,J⟩:∃x,d.l[j]?=some x:=⟨_,List.getElem?_eq_getElem (by rw[u];omega)⟩;obtain⟨x0,x1,x2,-,-,-,-⟩:=n.1.cell J;have G:=Z J;clear J K;have d0:=n.1.head.c1;obtain⟨u0,u1,u2⟩:=n.2.1.c3;try clear P t0 t1 t2
     cases r:eG x t
     ·have E:Hid (S.down i=d.lay k t):=Z (by
       have e:bN (C+1) d k t=(d,k):=by
        unfold bN;rw[M];dsimp only;rw[L,G];dsimp only;rw[r];rfl
       rw[W,<-F.1,e])
      have D:=Z (fun w=>eK x t false w r);clear r;go_wp2
      go_still_tail 8,(by kernel_rfl)
      change wpList _ _ _ _ _ B.drew;go_wp2_with fail
      refine(D _).mono ?_;rintro e p ⟨rfl,o⟩;have l:Hid (aM p b mb (.slice (some (g,0)) N cap) d/\Row p tb 318 t.cells/\Ch (cn b mb (.slice (some (g,0)) N cap)) w p):=Z ⟨n.1.drew.ch o (fun h=>h) (fun h=>h) (fun _ _ h=>h),n.2.1.drew.ch o (fun h=>h),n.2.2.drew.trans o.af⟩;have ce:=l.2.1.cell (i:=0) rfl;have cf:=l.2.1.cell (i:=1) rfl;have ch:=l.2.1.cell (i:=2) rfl;clear d0 u0 u1 u2 x0 x1 x2 o;go_wp2_with fail
      with_reducible refine(O.out k (by omega) t _ d u.out l.out.1 _ ?_).mono ?_
      ·rfl
      rintro e w4 ⟨rfl,q,m⟩;have A:=Z q;have z:=Z m;clear q m;go_wp2
      go_end0
      rw[E];exact⟨rfl,A,l.2.2.trans z⟩
     ·have E:Hid (bN C (d.lay k x) j t=bN (N+1) S i t):=Z (by
       rw[<-F.1]
       conv=>rhs;unfold bN
       rw[M];dsimp only;rw[L,G];dsimp only;rw[r];rfl)
      have D:=Z (fun w=>eK x t true w r);clear r;go_wp2
      go_still_tail 8,(by kernel_rfl)
      change wpList _ _ _ _ _ B.drew;go_wp2_with fail
      refine(D _).mono ?_;rintro e p ⟨rfl,o⟩;have l:Hid (aM p b mb (.slice (some (g,0)) N cap) d/\Row p tb 318 t.cells/\Ch (cn b mb (.slice (some (g,0)) N cap)) w p):=Z ⟨n.1.drew.ch o (fun h=>h) (fun h=>h) (fun _ _ h=>h),n.2.1.drew.ch o (fun h=>h),n.2.2.drew.trans o.af⟩;have c0:=l.1.head.cell (i:=0) rfl;obtain⟨ci,ck,cl,-,-,-,-⟩:=l.1.cell G;have I:Hid (tb≠b/\tb≠mb/\tb≠g):=Z (by
       have:=al.out;refine⟨by omega,by omega,by omega⟩)
      clear d0 u0 u1 u2 x0 x1 x2 o;go_wp2_with fail
      with_reducible refine(O.out k (by omega) x _ d u.out l.out.1 _ ?_).mono ?_
      ·rfl
      rintro e w4 ⟨rfl,q,m⟩;have A:=Z q;have z:=Z m;have T:Hid (Row w4 tb 318 t.cells):=Z (l.2.1.ch m (by
       rintro(y|y|y)
       ·exact I.1 y
       ·exact I.2.1 y
       ·exact I.2.2 (Option.some.inj y).symm))
      clear q m;go_wp2
      go_roundw
      case rel=>exact⟨j,C,d.lay k x,by go_num,by omega,by omega,E,by rw[ah.b1];exact u,A,T,l.2.2.trans z⟩
      case measure=>simp[intOf];omega
    ·have ab:=Z (fun w=>eK c a true w Q)
     have ad:=Z Q;clear Q;go_wp2
     go_still_tail 24,(by kernel_rfl)
     change wpList _ _ _ _ _ wr.drew;go_wp2_with fail
     refine(ab _).mono ?_;rintro e B ⟨rfl,U⟩;have n:=Z (a3 B ((Ch.refl _ _).drew.trans U));clear U a0 a1 a2 c1 c2 c3;go_wp2
     obtain⟨j,K⟩:=mn (2*k+2);have c9:j<N:=by omega
     have c8:(j:Int)<N:=by omega
     have cd:k<j:=by omega
     have L:Hid (jE d k a=j):=Z (by unfold jE;rw[bv];dsimp only;rw[ad,K];rfl);have cb:2*(k:Int)+1+1=(j:Int):=by omega
     obtain⟨x,J⟩:∃x,d.l[j]?=some x:=⟨_,List.getElem?_eq_getElem (by rw[u];omega)⟩;obtain⟨x0,x1,x2,-,-,-,-⟩:=n.1.cell J;have G:=Z J;clear J K;have d0:=n.1.head.c1;obtain⟨u0,u1,u2⟩:=n.2.1.c3;try clear P t0 t1 t2
     cases r:eG x t
     ·have E:Hid (S.down i=d.lay k t):=Z (by
       have e:bN (C+1) d k t=(d,k):=by
        unfold bN;rw[M];dsimp only;rw[L,G];dsimp only;rw[r];rfl
       rw[W,<-F.1,e])
      have D:=Z (fun w=>eK x t false w r);clear r;go_wp2
      go_still_tail 8,(by kernel_rfl)
      change wpList _ _ _ _ _ B.drew;go_wp2_with fail
      refine(D _).mono ?_;rintro e p ⟨rfl,o⟩;have l:Hid (aM p b mb (.slice (some (g,0)) N cap) d/\Row p tb 318 t.cells/\Ch (cn b mb (.slice (some (g,0)) N cap)) w p):=Z ⟨n.1.drew.ch o (fun h=>h) (fun h=>h) (fun _ _ h=>h),n.2.1.drew.ch o (fun h=>h),n.2.2.drew.trans o.af⟩;have ce:=l.2.1.cell (i:=0) rfl;have cf:=l.2.1.cell (i:=1) rfl;have ch:=l.2.1.cell (i:=2) rfl;clear d0 u0 u1 u2 x0 x1 x2 o;go_wp2_with fail
      with_reducible refine(O.out k (by omega) t _ d u.out l.out.1 _ ?_).mono ?_
      ·rfl
      rintro e w4 ⟨rfl,q,m⟩;have A:=Z q;have z:=Z m;clear q m;go_wp2
      go_end0
      rw[E];exact⟨rfl,A,l.2.2.trans z⟩
     ·have E:Hid (bN C (d.lay k x) j t=bN (N+1) S i t):=Z (by
       rw[<-F.1]
       conv=>rhs;unfold bN
       rw[M];dsimp only;rw[L,G];dsimp only;rw[r];rfl)
      have D:=Z (fun w=>eK x t true w r);clear r;go_wp2
      go_still_tail 8,(by kernel_rfl)
      change wpList _ _ _ _ _ B.drew;go_wp2_with fail
      refine(D _).mono ?_;rintro e p ⟨rfl,o⟩;have l:Hid (aM p b mb (.slice (some (g,0)) N cap) d/\Row p tb 318 t.cells/\Ch (cn b mb (.slice (some (g,0)) N cap)) w p):=Z ⟨n.1.drew.ch o (fun h=>h) (fun h=>h) (fun _ _ h=>h),n.2.1.drew.ch o (fun h=>h),n.2.2.drew.trans o.af⟩;have c0:=l.1.head.cell (i:=0) rfl;obtain⟨ci,ck,cl,-,-,-,-⟩:=l.1.cell G;have I:Hid (tb≠b/\tb≠mb/\tb≠g):=Z (by
       have:=al.out;refine⟨by omega,by omega,by omega⟩)
      clear d0 u0 u1 u2 x0 x1 x2 o;go_wp2_with fail
      with_reducible refine(O.out k (by omega) x _ d u.out l.out.1 _ ?_).mono ?_
      ·rfl
      rintro e w4 ⟨rfl,q,m⟩;have A:=Z q;have z:=Z m;have T:Hid (Row w4 tb 318 t.cells):=Z (l.2.1.ch m (by
       rintro(y|y|y)
       ·exact I.1 y
       ·exact I.2.1 y
       ·exact I.2.2 (Option.some.inj y).symm))
      clear q m;go_wp2
      go_roundw
      case rel=>exact⟨j,C,d.lay k x,by go_num,by omega,by omega,E,by rw[ah.b1];exact u,A,T,l.2.2.trans z⟩
      case measure=>simp[intOf];omega
   ·have c5:¬2*(k:Int)+1+1<N:=by omega
    have c4:¬2*k+1+1<N:=by omega
    have cW:IntKind.i64.wrap (2*(k:Int)+1+1)=2*(k:Int)+1+1:=IntWalk.i64_in _ (by omega);have es:decide (2*(k:Int)+1+1<(N:Int))=false:=by simpa using c5
    have et:decide (2*k+1+1<N)=false:=by simpa using c4
    go_wp2
    go_quiet (fail)
    obtain⟨B,av⟩:=nm (wr.drewN nq);have n:Hid (aM B b mb (.slice (some (g,0)) N cap) d/\Row B tb 318 t.cells/\Ch (cn b mb (.slice (some (g,0)) N cap)) w B):=Z (by rw[<-av];exact a3 _ ((Ch.refl _ _).drewN _));rw[av];clear av;go_wp2
    obtain⟨j,K⟩:=mn (2*k+1);have c9:j<N:=by omega
    have c8:(j:Int)<N:=by omega
    have cd:k<j:=by omega
    have L:Hid (jE d k a=j):=Z (by unfold jE;rw[List.getElem?_eq_none (by rw[u];omega)];exact K.symm);have cb:2*(k:Int)+1=(j:Int):=by omega
    obtain⟨x,J⟩:∃x,d.l[j]?=some x:=⟨_,List.getElem?_eq_getElem (by rw[u];omega)⟩;obtain⟨x0,x1,x2,-,-,-,-⟩:=n.1.cell J;have G:=Z J;clear J K;have d0:=n.1.head.c1;obtain⟨u0,u1,u2⟩:=n.2.1.c3;try clear P t0 t1 t2
    cases r:eG x t
    ·have E:Hid (S.down i=d.lay k t):=Z (by
      have e:bN (C+1) d k t=(d,k):=by
       unfold bN;rw[M];dsimp only;rw[L,G];dsimp only;rw[r];rfl
      rw[W,<-F.1,e])
     have D:=Z (fun w=>eK x t false w r);clear r;go_wp2
     go_still_tail 8,(by kernel_rfl)
     change wpList _ _ _ _ _ B.drew;go_wp2_with fail
     refine(D _).mono ?_;rintro e p ⟨rfl,o⟩;have l:Hid (aM p b mb (.slice (some (g,0)) N cap) d/\Row p tb 318 t.cells/\Ch (cn b mb (.slice (some (g,0)) N cap)) w p):=Z ⟨n.1.drew.ch o (fun h=>h) (fun h=>h) (fun _ _ h=>h),n.2.1.drew.ch o (fun h=>h),n.2.2.drew.trans o.af⟩;have ce:=l.2.1.cell (i:=0) rfl;have cf:=l.2.1.cell (i:=1) rfl;have ch:=l.2.1.cell (i:=2) rfl;clear d0 u0 u1 u2 x0 x1 x2 o;go_wp2_with fail
     with_reducible refine(O.out k (by omega) t _ d u.out l.out.1 _ ?_).mono ?_
     ·rfl
     rintro e w4 ⟨rfl,q,m⟩;have A:=Z q;have z:=Z m;clear q m;go_wp2
     go_end0
     rw[E];exact⟨rfl,A,l.2.2.trans z⟩
    ·have E:Hid (bN C (d.lay k x) j t=bN (N+1) S i t):=Z (by
      rw[<-F.1]
      conv=>rhs;unfold bN
      rw[M];dsimp only;rw[L,G];dsimp only;rw[r];rfl)
     have D:=Z (fun w=>eK x t true w r);clear r;go_wp2
     go_still_tail 8,(by kernel_rfl)
     change wpList _ _ _ _ _ B.drew;go_wp2_with fail
     refine(D _).mono ?_;rintro e p ⟨rfl,o⟩;have l:Hid (aM p b mb (.slice (some (g,0)) N cap) d/\Row p tb 318 t.cells/\Ch (cn b mb (.slice (some (g,0)) N cap)) w p):=Z ⟨n.1.drew.ch o (fun h=>h) (fun h=>h) (fun _ _ h=>h),n.2.1.drew.ch o (fun h=>h),n.2.2.drew.trans o.af⟩;have c0:=l.1.head.cell (i:=0) rfl;obtain⟨ci,ck,cl,-,-,-,-⟩:=l.1.cell G;have I:Hid (tb≠b/\tb≠mb/\tb≠g):=Z (by
      have:=al.out;refine⟨by omega,by omega,by omega⟩)
     clear d0 u0 u1 u2 x0 x1 x2 o;go_wp2_with fail
     with_reducible refine(O.out k (by omega) x _ d u.out l.out.1 _ ?_).mono ?_
     ·rfl
     rintro e w4 ⟨rfl,q,m⟩;have A:=Z q;have z:=Z m;have T:Hid (Row w4 tb 318 t.cells):=Z (l.2.1.ch m (by
      rintro(y|y|y)
      ·exact I.1 y
      ·exact I.2.1 y
      ·exact I.2.2 (Option.some.inj y).symm))
     clear q m;go_wp2
     go_roundw
     case rel=>exact⟨j,C,d.lay k x,by go_num,by omega,by omega,E,by rw[ah.b1];exact u,A,T,l.2.2.trans z⟩
     case measure=>simp[intOf];omega
  ·have cL:¬2*(k:Int)+1<N:=by omega
   have E:Hid (S.down i=d.lay k t):=Z (by
    have e:bN (C+1) d k t=(d,k):=by unfold bN;rw[List.getElem?_eq_none (by rw[u];omega)]
    rw[W,<-F.1,e])
   go_wp2_with fail
   with_reducible refine(O.out k (by omega) t _ d u.out R.out _ ?_).mono ?_
   ·rfl
   rintro e w4 ⟨rfl,q,m⟩;have A:=Z q;have z:=Z m;clear q m;go_wp2
   go_end0
   rw[E];exact⟨rfl,A,bi.trans z⟩
def aQ(w:World)(v a:Value):Prop:=∀g,a.ownBlock=some g->v.ownBlock=some g∨w.heap.size<=g
theorem aQ.refl(w:World)(v:Value):aQ w v v:=fun _ h=>Or.inl h
theorem aQ.of_eq{w:World}{v a:Value}(h:a.ownBlock=v.ownBlock):aQ w v a:=fun _ b=>Or.inl (h▸b)
theorem aQ.trans{w w1:World}{a b c:Value}(h:aQ w a b)(f:w.heap.size<=w1.heap.size)(k:aQ w1 b c):aQ w a c:=fun g e=>by
 rcases k g e with d|d
 ·exact h g d
 ·exact Or.inr (Nat.le_trans f d)
theorem aQ.nil(w:World)(v:Value):aQ w v (.slice none 0 0):=fun g a=>by cases a
theorem aQ.at{w:World}{v:Value}{a n c:Nat}(h:v.ownBlock=some a∨w.heap.size<=a):aQ w v (.slice (some (a,0)) n c):=fun i b=>by
 have:a=i:=by simpa[Value.ownBlock]using b
 subst this;exact h
section
attribute [local go_sem↓] Go.wp_at_zero Go.wp_at_succ
theorem Ch.bQ{w w':World}{r:Option Nat}(h:w.grownBy w' r):Ch (fun i=>r=some i) w w':=⟨h.os,h.tape,h.output,h.size,fun b hb a=>h.block b hb (fun e=>a e.symm)⟩
theorem ax{w w1:World}{c:Obj}{r:Option Nat}(h:(w.alloc c).grownBy w1 r):w.grownBy w1 r:=
 ⟨h.os,h.tape,h.output,by have:=h.size;simp at this;omega,fun k a b=>(h.block k (by simp;omega) b).trans (Below.heap_alloc _ _ _ a)⟩
theorem cO{w w1:World}{r:Option Nat}(h:w.drew.grownBy w1 r):w.grownBy w1 r:=⟨h.os,h.tape,h.output,h.size,h.block⟩
theorem aY{w:World}{B:Nat}{e:TypeId}{size:Nat}{v:Value}{n:Nat}{j:List Value}(h:w.ownsRow B e size v n j){k:Nat}{c:List Value}{t:TypeId}(a:Row w k t c)(i:t≠e):v.ownBlock≠some k:=by
 rcases h.2 with⟨rfl,_⟩|⟨g,cap,cur,rfl,_,d,_⟩
 ·simp[Value.ownBlock]
 ·intro f
  have:g=k:=by simpa[Value.ownBlock]using f
  subst this;unfold Row at a;rw[d]at a;injection a with a
  injection a with _ b _
  exact i b.symm
theorem ia{α:Type}{w:World}{B:Nat}{e:TypeId}{size:Nat}{v:Value}{n:Nat}{i:List Value}(h:w.ownsRow B e size v n i){k:Nat}{q:IntKind}{enc:α->Value}{l:List (Int×α)}(f:bH w k q enc l):v.ownBlock≠some k:=by
 rcases h.2 with⟨rfl,_⟩|⟨g,cap,cur,rfl,_,b,_⟩
 ·simp[Value.ownBlock]
 ·intro d
  have:g=k:=by simpa[Value.ownBlock]using d
  subst this;obtain⟨j,c,a,_⟩:=f;rw[b]at a;cases a
theorem aA{w:World}{B:Nat}{e:TypeId}{size:Nat}{v:Value}{n:Nat}{b:List Value}(h:w.ownsRow B e size v n b):∃a c,v=.slice a n c:=by
 rcases h.2 with⟨rfl,rfl⟩|⟨g,cap,cur,rfl,_⟩
 ·exact⟨_,_,rfl⟩
 ·exact⟨_,_,rfl⟩
theorem aM.app{w w4:World}{b mb g cap:Nat}{v:Value}{S:ah}{t:a8}(h:aM w b mb v S)
 (d:w4.ownsRow 0 318 3 (.slice (some (g,0)) (S.l.length+1) cap) (S.l.length+1) (S.l.flatMap a8.cells++t.cells)) (m:w.grownBy w4 v.ownBlock):
 aM (w4.setCell (b,0) (.slice (some (g,0)) (S.l.length+1) cap)) b mb (.slice (some (g,0)) (S.l.length+1) cap) {S with l:=S.l++[t]}/\
 Ch (cn b mb v) w (w4.setCell (b,0) (.slice (some (g,0)) (S.l.length+1) cap)):=by
 have c:=Ch.bQ m;have a:=h.head.ch c (aY h.own h.head (by decide));have f:=h.map.ch c (ia h.own h.map);have j:b≠g:=by
  intro e;subst e;exact aY d a (by decide) rfl
 refine⟨⟨a.a' _ _ rfl,?_,f.other (fun e=>f.ne a e) _⟩,(Ch.mono (E:=cn b mb v) c fun i n=>Or.inr (Or.inr n)).gS (p:=⟨b,0,none⟩) (Or.inl rfl) _⟩;have:(S.l++[t]).flatMap a8.cells=S.l.flatMap a8.cells++t.cells:=by simp
 rw[this];show(w4.setCell (b,0) _).ownsRow 0 318 3 _ (S.l++[t]).length _
 rw[List.length_append,List.length_cons,List.length_nil];have:=ar (D:=aK b) d ((Ch.refl _ _).only 0 (.slice (some (g,0)) (S.l.length+1) cap)) (fun k o e=>by
  have:g=k:=by simpa[Value.ownBlock]using o
  subst this;exact j (show _=_ from e.symm))
 exact this
theorem Ch.join{D E:Nat->Prop}{a b c:World}(h:Ch D a b)(k:Ch E b c)(f:∀i,i<a.heap.size->E i->D i):Ch D a c:=
 ⟨k.os.trans h.os,k.tape.trans h.tape,k.output.trans h.output,Nat.le_trans h.size k.size,fun i d e=>(k.same i (Nat.lt_of_lt_of_le d h.size) (fun g=>e (f i d g))).trans (h.same i d e)⟩
def ah.put(S:ah)(a b:Int):Int×ah:=
 let n:=wrap64 (S.last+1)
 (n,ah.up {S with last:=n,l:=S.l++[⟨a,b,n⟩]} S.l.length)
def uz(x:Int×ah)(b mb:Nat)(v:Value)(w:World)(e:Ending)(w':World):Prop:=e=.returned (.int .i64 x.1)/\(∃a,aM w' b mb a x.2/\aQ w v a)/\Ch (cn b mb v) w w'
theorem vB:(prog.info? 318).map (fun i=>(i.zero,i.size,i.bytes))=some (some (.agg #[.int .u64 0,.int .u64 0,.int .i64 0]),3,24):=by kernel_rfl
theorem oT:∀(f:Nat) (S:ah) (i:Nat) (t:a8),(gK f S i t).1.last=S.last
 |0,_,_,_=>rfl
 |f+1,S,i,t=>by
  unfold gK;split
  ·rfl
  ·split
   ·rfl
   ·split
    ·rw[oT];rfl
    ·rfl
theorem ah.AA(S:ah)(i:Nat):(S.up i).last=S.last:=by
 unfold ah.up;split
 ·rfl
 ·exact oT _ _ _ _
theorem BQ(b mb:Nat)(v:Value)(S:ah)(i:Nat)(d:i<S.l.length)(hb:S.l.length<=1000000)(w:World)(h:aM w b mb v S)(a:Int)(c:a=i):
 Calls prog 184 #[(b,0),a] w (k' b mb v (S.up i) w):=by subst c;exact Cp b mb v S i d hb w h
theorem AB(b mb:Nat)(v:Value)(S:ah)(i:Nat)(d:i<S.l.length)(hb:S.l.length<=1000000)(w:World)(h:aM w b mb v S)(a:Int)(c:a=i):
 Calls prog 185 #[(b,0),a] w (k' b mb v (S.down i) w):=by subst c;exact x' b mb v S i d hb w h
theorem qX(b mb:Nat)(v:Value)(S:ah)(c d:Int)(hb:S.l.length<=900000)(w:World)(h:aM w b mb v S):
 Calls prog 208 #[(b,0),.int .u64 c,.int .u64 d] w (uz (S.put c d) b mb v w):=by
 obtain⟨am,L,ab,ad,al⟩:=info_parts vB;have U:=Z L;obtain⟨G,I,P⟩:=aA h.own;have H:=Z h;have Y:=h.head.k 2 rfl;have f2:=h.head.free 2;obtain⟨N,q⟩:=mn S.l.length;rw[<-q]at P hb;have f:=Z q;obtain⟨n,A⟩:=mn (wrap64 (S.last+1));have E:Hid (S.put c d=(n,ah.up {S with last:=n,l:=S.l++[⟨c,d,n⟩]} N)):=Z (by unfold ah.put;rw[<-A,q]);have X:=Z A;clear h q L A;go_enter func208,ntmps208
 go_wp2
 rw[<-X];obtain⟨w1,s⟩:=nm (w.setCell (b,2) (.int .i64 n));have a:Hid (aM w1 b mb v {S with last:=n}):=Z (by
  rw[<-s];exact⟨H.head.a' _ _ rfl,ar (D:=aK b) H.own ((Ch.refl _ _).only 2 _) (fun k a1 e=>aY H.own H.head (by decide) (by rw[a1];exact congrArg some e)),H.out.map.other (fun e=>H.out.map.ne H.head e) _⟩)
 have u:Hid (Ch (cn b mb v) w w1):=Z (by rw[<-s];exact(Ch.refl _ _).gS (p:=⟨b,2,none⟩) (Or.inl rfl) _);rw[s];clear s Y f2;have d0:=a.head.c1;have d2:=a.head.k 2 rfl;have J:=a.head.free 0;have B:=a.own;rw[show({S with last:=n}:ah).l=S.l from rfl,<-f]at B;have O:=a.head.lt;have C:v.ownBlock≠some b:=aY a.own a.head (by decide);subst P;go_region_law (first|(refine step_append_lies _ (by rfl) _ _ _ (by rfl) 0 318 am _ 3 24 underlying266 U ab ad al rfl (by omega) _ N (S.l.flatMap a8.cells) (by rfl) ((B.alloc _).drew) ⟨w1.heap.size,0,none⟩ 1 1 [.int .u64 c,.int .u64 d,n] (by rfl) (by rfl) (World.news_of_block (cs:=#[.int .u64 c,.int .u64 d,n]) (t:=318) (fr:=(0,0)) (heap_alloc_new w1 _)) (by simp[Value.oneCell']) (by omega) (by unfold maxLen;omega) (by omega) (by simp) (w1.heap.size+1) (by simp) ?_;intro g cap w4 M r y a2;have ap:w4.cell? (b,0)=_:=(r.cell_far ⟨b,0,none⟩ (by simp;omega) (Ne.symm C)).trans (by simp[go_sem,World.cell?_alloc_past,O,d0];rfl);have av:w4.frozen? (b,0)=false:=(r.frozen_far ⟨b,0,none⟩ (by simp;omega) (Ne.symm C)).trans (by simp[go_sem,World.frozen?_alloc_past,O,J])))
 all_goals
  have o:=a.app (t:=⟨c,d,n⟩) (by rw[show({S with last:=n}:ah).l=S.l from rfl,<-f];exact M) (ax (cO r));rw[show({S with last:=n}:ah).l=S.l from rfl,<-f]at o;have x:=Z o.1;have F:=Z (u.trans o.2);obtain⟨bv,Q⟩:=nm (w4.setCell (b,0) (.slice (some (g,0)) (N+1) cap));rw[Q]at x F⊢;have V:Hid (∀i,i<w.heap.size->cn b mb (.slice (some (g,0)) (N+1) cap) i->cn b mb (.slice G N I) i):=Z (fun i bi a3=>by
   rcases a3 with j|j|j
   ·exact Or.inl j
   ·exact Or.inr (Or.inl j)
   ·have a0:g=i:=by simpa[Value.ownBlock]using j
    rcases y with m|m
    ·exact Or.inr (Or.inr (by rw[m,a0]))
    ·have:=u.size;omega)
  have W:Hid (aQ w (.slice G N I) (.slice (some (g,0)) (N+1) cap)):=Z (aQ.at (by
   rcases y with m|m
   ·exact Or.inl (by rw[m])
   ·have:=u.size;exact Or.inr (by omega)))
  clear o Q M r y a2 ap av d0 d2 J B C;have d0:=x.head.c1;go_wp2_with fail
  with_reducible refine(BQ b mb (.slice (some (g,0)) (N+1) cap) {S with last:=n,l:=S.l++[⟨c,d,n⟩]} N ?_ ?_ _ x.out _ ?_).mono ?_
  ·show N<(S.l++[_]).length
   rw[List.length_append,<-f];simp
  ·show(S.l++[_]).length<=_
   rw[List.length_append,<-f];simp;omega
  ·omega
  rintro e bw ⟨rfl,z,K⟩;have T:=Z z;have R:=Z (F.join K V);have d2:=z.head.k 2 rfl;rw[ah.AA]at d2;clear z K d0;go_wp2
  go_ret;rw[E];exact⟨rfl,⟨_,T,W⟩,R⟩
end
end Go.Proofs.YtfnilkpkogipfaaGreatDoor
