import Derived.Deep.DrawnRows
import Derived.Deep.LoopGhost
import Derived.Laws.MakeOwn
import Derived.Laws.CopyRow
import Derived.StillTail
import Derived.Test.YtfnilkpkogipfaaGreatDoorZAa
set_option linter.all false
set_option maxRecDepth 100000
set_option maxHeartbeats 8000000
namespace Go.Proofs.YtfnilkpkogipfaaGreatDoor
open Go.RowKit Go.Proofs.Tryz
def jY(S:ah)(i:Nat)(a:ba):Nat:=
 match S.l[2*i+2]? with
 |none=>2*i+1
 |some c=>if eN c a then 2*i+2 else 2*i+1
def bO:Nat->ah->Nat->ba->ah×Nat
 |0,S,i,_=>(S,i)
 |f+1,S,i,t=>
  match S.l[2*i+1]? with
  |none=>(S,i)
  |some a=>match S.l[jY S i a]? with
   |none=>(S,i)
   |some x=>if eN x t then bO f (S.lay i x) (jY S i a) t else(S,i)
def ah.down(S:ah)(i:Nat):ah:=
 match S.l[i]? with
 |none=>S
 |some t=>(bO (S.l.length+1) S i t).1.lay (bO (S.l.length+1) S i t).2 t
theorem y7(b mb:Nat)(v:Value)(S:ah)(i:Nat)(al:i<S.l.length)(hb:S.l.length<=1000000)(w:World)(h:aN w b mb v S):
 Calls prog 185 #[(b,0),.int .i64 i] w (lF b mb v (S.down i) w):=by
 obtain⟨t,am⟩:∃t,S.l[i]?=some t:=⟨_,List.getElem?_eq_getElem al⟩;obtain⟨g,cap,rfl,cA,cL,cQ,cS,c4⟩:=h.at am;have H:=Z h;have O:=h.head.c1;obtain⟨N,W⟩:=mn S.l.length;have V:Hid (S.down i=(bO (N+1) S i t).1.lay (bO (N+1) S i t).2 t):=Z (by unfold ah.down;rw[am,W]);rw[<-W]at O al hb cA H⊢;have cl:=Z W;have ec:(i:Int)<N:=by omega
 clear h am W;go_wp2
 obtain⟨tb,X⟩:=mn w.heap.size;rw[<-X];obtain⟨w1,U⟩:=nm (w.alloc (.cells #[.int .u64 t.d,.int .u64 t.bU,.int .i64 t.h] 318));have ck:Hid (aN w1 b mb (.slice (some (g,0)) N cap) S):=Z (by rw[<-U];exact H.alloc _);have ci:Hid (Ch (cy b mb (.slice (some (g,0)) N cap)) w w1):=Z (by rw[<-U];exact(Ch.refl _ _).alloc _);have cq:Hid (Row w1 tb 318 t.cells):=Z (by rw[<-U,X];exact Row.new w _ _);rw[U];have ad:Hid (w.heap.size=tb/\g<w.heap.size/\b<w.heap.size/\mb<w.heap.size):=Z ⟨X.symm,c4,H.head.lt,H.out.map.lt⟩;clear U X O cL cQ cS c4;go_loopw [1] (fun s wr=>∃(k f:Nat) (d:ah),s=.int .i64 k/\k<N/\N<f+k/\Hid (bO f d k t=bO (N+1) S i t/\d.l.length=N/\aN wr b mb (.slice (some (g,0)) N cap) d/\Row wr tb 318 t.cells/\Ch (cy b mb (.slice (some (g,0)) N cap)) w wr)) (fun s _=>N-(intOf s).toNat)
 case atStart=>exact⟨i,N+1,S,rfl,al,by omega,rfl,cl.symm,ck,cq,ci⟩
 case round=>
  obtain⟨k,f,d,rfl,et,es,D⟩:=hrel;have r:=Z D.2.1;have Q:=Z D.2.2.1;have bi:=Z D.2.2.2.1;have av:=Z D.2.2.2.2;have O:=Q.head.c1;obtain⟨t0,t1,t2⟩:=bi.c3;have M:=Z (fun(j:Nat) (J:j<N) (x:ba) (w:World) (S:ah) (ex:S.l.length=N) h cm cs=>tU b mb (.slice (some (g,0)) N cap) S j (by omega) x w h cm cs);obtain⟨B,rfl⟩:∃B,f=B+1:=⟨f-1,by omega⟩;have Y:Hid (∀w3,Ch ag wr w3->aN w3 b mb (.slice (some (g,0)) N cap) d/\Row w3 tb 318 t.cells/\Ch (cy b mb (.slice (some (g,0)) N cap)) w w3):=Z (fun w3 m=>
   ⟨Q.ch m id id (fun _ _ h=>h),bi.ch m id,av.trans m.af⟩)
  have en:(k:Int)<N:=by omega
  by_cases cW:2*k+1<N
  ·have cr:2*(k:Int)+1<N:=by omega
   obtain⟨a,c3⟩:∃a,d.l[2*k+1]?=some a:=⟨_,List.getElem?_eq_getElem (by rw[r];omega)⟩;have L:=Z c3;clear c3;by_cases dr:2*k+2<N
   ·have c2:2*(k:Int)+1+1<N:=by omega
    have c1:2*k+1+1<N:=(by omega);obtain⟨c,m⟩:∃c,d.l[2*k+2]?=some c:=⟨_,List.getElem?_eq_getElem (by rw[r];omega)⟩;obtain⟨a0,a1,a2,-,-,-,-⟩:=Q.cell L;obtain⟨bw,bx,c0,-,-,-,-⟩:=Q.cell m;have ax:=Z m;clear m;have cC:IntKind.i64.wrap (2*(k:Int)+1+1)=2*(k:Int)+1+1:=IntWalk.i64_in _ (by omega);have eA:(2*(k:Int)+1+1).toNat=2*k+2:=(by omega);have eC:(2*(k:Int)+1).toNat=2*k+1:=(by omega);have eL:(0:Int)<=2*(k:Int)+1+1:=(by omega);have eS:(0:Int)<=2*(k:Int)+1:=(by omega);cases P:eN c a
    ·have a3:=Z (fun w=>eT c a false w P)
     have ab:=Z P;clear P;go_wp2
     go_still_tail 24,(by kernel_rfl)
     change wpList _ _ _ _ _ wr.drew;go_wp2_with fail
     refine(a3 _).mono ?_;rintro e A ⟨rfl,T⟩;have n:=Z (Y A ((Ch.refl _ _).drew.trans T));clear T a0 a1 a2 bw bx c0;go_wp2
     obtain⟨j,J⟩:=mn (2*k+1);have c6:j<N:=(by omega);have c5:(j:Int)<N:=(by omega);have c8:k<j:=(by omega);have K:Hid (jY d k a=j):=Z (by unfold jY;rw[ax];dsimp only;rw[ab,J];rfl);have c7:2*(k:Int)+1=(j:Int):=(by omega);obtain⟨x,I⟩:∃x,d.l[j]?=some x:=⟨_,List.getElem?_eq_getElem (by rw[r];omega)⟩;obtain⟨x0,x1,x2,-,-,-,-⟩:=n.1.cell I;have F:=Z I;clear I J;have d0:=n.1.head.c1;obtain⟨u0,u1,u2⟩:=n.2.1.c3;try clear O t0 t1 t2
     cases q:eN x t
     ·have E:Hid (S.down i=d.lay k t):=Z (by
       have e:bO (B+1) d k t=(d,k):=by
        unfold bO;rw[L];dsimp only;rw[K,F];dsimp only;rw[q];rfl
       rw[V,<-D.1,e])
      have C:=Z (fun w=>eT x t false w q);clear q;go_wp2
      go_still_tail 8,(by kernel_rfl)
      change wpList _ _ _ _ _ A.drew;go_wp2_with fail
      refine(C _).mono ?_;rintro e w3 ⟨rfl,o⟩;have l:Hid (aN w3 b mb (.slice (some (g,0)) N cap) d/\Row w3 tb 318 t.cells/\Ch (cy b mb (.slice (some (g,0)) N cap)) w w3):=Z ⟨n.1.drew.ch o id id (fun _ _ h=>h),n.2.1.drew.ch o id,n.2.2.drew.trans o.af⟩;have c9:=l.2.1.cell (i:=0) rfl;have cb:=l.2.1.cell (i:=1) rfl;have cd:=l.2.1.cell (i:=2) rfl;clear d0 u0 u1 u2 x0 x1 x2 o;go_wp2_with fail
      with_reducible refine(M.out k (by omega) t _ d r.out l.out.1 _ ?_).mono ?_
      ·rfl
      rintro e w4 ⟨rfl,p,m⟩;have z:=Z p;have y:=Z m;clear p m;go_wp2
      go_end0
      rw[E];exact⟨rfl,z,l.2.2.trans y⟩
     ·have E:Hid (bO B (d.lay k x) j t=bO (N+1) S i t):=Z (by
       rw[<-D.1]
       conv=>rhs;unfold bO
       rw[L];dsimp only;rw[K,F];dsimp only;rw[q];rfl)
      have C:=Z (fun w=>eT x t true w q);clear q;go_wp2
      go_still_tail 8,(by kernel_rfl)
      change wpList _ _ _ _ _ A.drew;go_wp2_with fail
      refine(C _).mono ?_;rintro e w3 ⟨rfl,o⟩;have l:Hid (aN w3 b mb (.slice (some (g,0)) N cap) d/\Row w3 tb 318 t.cells/\Ch (cy b mb (.slice (some (g,0)) N cap)) w w3):=Z ⟨n.1.drew.ch o id id (fun _ _ h=>h),n.2.1.drew.ch o id,n.2.2.drew.trans o.af⟩;have bv:=l.1.head.cell (i:=0) rfl;obtain⟨ce,cf,ch,-,-,-,-⟩:=l.1.cell F;have G:Hid (tb≠b/\tb≠mb/\tb≠g):=Z (by
       have:=ad.out;refine⟨by omega,by omega,by omega⟩)
      clear d0 u0 u1 u2 x0 x1 x2 o;go_wp2_with fail
      with_reducible refine(M.out k (by omega) x _ d r.out l.out.1 _ ?_).mono ?_
      ·rfl
      rintro e w4 ⟨rfl,p,m⟩;have z:=Z p;have y:=Z m;have R:Hid (Row w4 tb 318 t.cells):=Z (l.2.1.ch m (by
       rintro(u|u|u)
       ·exact G.1 u
       ·exact G.2.1 u
       ·exact G.2.2 (Option.some.inj u).symm))
      clear p m;go_wp2
      go_roundw
      case rel=>exact⟨j,B,d.lay k x,by go_num,by omega,by omega,E,by rw[ah.b9];exact r,z,R,l.2.2.trans y⟩
      case measure=>simp[intOf];omega
    ·have a3:=Z (fun w=>eT c a true w P)
     have ab:=Z P;clear P;go_wp2
     go_still_tail 24,(by kernel_rfl)
     change wpList _ _ _ _ _ wr.drew;go_wp2_with fail
     refine(a3 _).mono ?_;rintro e A ⟨rfl,T⟩;have n:=Z (Y A ((Ch.refl _ _).drew.trans T));clear T a0 a1 a2 bw bx c0;go_wp2
     obtain⟨j,J⟩:=mn (2*k+2);have c6:j<N:=(by omega);have c5:(j:Int)<N:=(by omega);have c8:k<j:=(by omega);have K:Hid (jY d k a=j):=Z (by unfold jY;rw[ax];dsimp only;rw[ab,J];rfl);have c7:2*(k:Int)+1+1=(j:Int):=(by omega);obtain⟨x,I⟩:∃x,d.l[j]?=some x:=⟨_,List.getElem?_eq_getElem (by rw[r];omega)⟩;obtain⟨x0,x1,x2,-,-,-,-⟩:=n.1.cell I;have F:=Z I;clear I J;have d0:=n.1.head.c1;obtain⟨u0,u1,u2⟩:=n.2.1.c3;try clear O t0 t1 t2
     cases q:eN x t
     ·have E:Hid (S.down i=d.lay k t):=Z (by
       have e:bO (B+1) d k t=(d,k):=by
        unfold bO;rw[L];dsimp only;rw[K,F];dsimp only;rw[q];rfl
       rw[V,<-D.1,e])
      have C:=Z (fun w=>eT x t false w q);clear q;go_wp2
      go_still_tail 8,(by kernel_rfl)
      change wpList _ _ _ _ _ A.drew;go_wp2_with fail
      refine(C _).mono ?_;rintro e w3 ⟨rfl,o⟩;have l:Hid (aN w3 b mb (.slice (some (g,0)) N cap) d/\Row w3 tb 318 t.cells/\Ch (cy b mb (.slice (some (g,0)) N cap)) w w3):=Z ⟨n.1.drew.ch o id id (fun _ _ h=>h),n.2.1.drew.ch o id,n.2.2.drew.trans o.af⟩;have c9:=l.2.1.cell (i:=0) rfl;have cb:=l.2.1.cell (i:=1) rfl;have cd:=l.2.1.cell (i:=2) rfl;clear d0 u0 u1 u2 x0 x1 x2 o;go_wp2_with fail
      with_reducible refine(M.out k (by omega) t _ d r.out l.out.1 _ ?_).mono ?_
      ·rfl
      rintro e w4 ⟨rfl,p,m⟩;have z:=Z p;have y:=Z m;clear p m;go_wp2
      go_end0
      rw[E];exact⟨rfl,z,l.2.2.trans y⟩
     ·have E:Hid (bO B (d.lay k x) j t=bO (N+1) S i t):=Z (by
       rw[<-D.1]
       conv=>rhs;unfold bO
       rw[L];dsimp only;rw[K,F];dsimp only;rw[q];rfl)
      have C:=Z (fun w=>eT x t true w q);clear q;go_wp2
      go_still_tail 8,(by kernel_rfl)
      change wpList _ _ _ _ _ A.drew;go_wp2_with fail
      refine(C _).mono ?_;rintro e w3 ⟨rfl,o⟩;have l:Hid (aN w3 b mb (.slice (some (g,0)) N cap) d/\Row w3 tb 318 t.cells/\Ch (cy b mb (.slice (some (g,0)) N cap)) w w3):=Z ⟨n.1.drew.ch o id id (fun _ _ h=>h),n.2.1.drew.ch o id,n.2.2.drew.trans o.af⟩;have bv:=l.1.head.cell (i:=0) rfl;obtain⟨ce,cf,ch,-,-,-,-⟩:=l.1.cell F;have G:Hid (tb≠b/\tb≠mb/\tb≠g):=Z (by
       have:=ad.out;refine⟨by omega,by omega,by omega⟩)
      clear d0 u0 u1 u2 x0 x1 x2 o;go_wp2_with fail
      with_reducible refine(M.out k (by omega) x _ d r.out l.out.1 _ ?_).mono ?_
      ·rfl
      rintro e w4 ⟨rfl,p,m⟩;have z:=Z p;have y:=Z m;have R:Hid (Row w4 tb 318 t.cells):=Z (l.2.1.ch m (by
       rintro(u|u|u)
       ·exact G.1 u
       ·exact G.2.1 u
       ·exact G.2.2 (Option.some.inj u).symm))
      clear p m;go_wp2
      go_roundw
      case rel=>exact⟨j,B,d.lay k x,by go_num,by omega,by omega,E,by rw[ah.b9];exact r,z,R,l.2.2.trans y⟩
      case measure=>simp[intOf];omega
   ·have c2:¬2*(k:Int)+1+1<N:=by omega
    have c1:¬2*k+1+1<N:=(by omega);have cC:IntKind.i64.wrap (2*(k:Int)+1+1)=2*(k:Int)+1+1:=IntWalk.i64_in _ (by omega);have dC:decide (2*(k:Int)+1+1<(N:Int))=false:=(by simpa using c2);have dN:decide (2*k+1+1<N)=false:=(by simpa using c1);go_wp2
    go_quiet (fail)
    obtain⟨A,ap⟩:=nm (wr.drewN nq);have n:Hid (aN A b mb (.slice (some (g,0)) N cap) d/\Row A tb 318 t.cells/\Ch (cy b mb (.slice (some (g,0)) N cap)) w A):=Z (by rw[<-ap];exact Y _ ((Ch.refl _ _).drewN _));rw[ap];clear ap;go_wp2
    obtain⟨j,J⟩:=mn (2*k+1);have c6:j<N:=(by omega);have c5:(j:Int)<N:=(by omega);have c8:k<j:=(by omega);have K:Hid (jY d k a=j):=Z (by unfold jY;rw[List.getElem?_eq_none (by rw[r];omega)];exact J.symm);have c7:2*(k:Int)+1=(j:Int):=(by omega);obtain⟨x,I⟩:∃x,d.l[j]?=some x:=⟨_,List.getElem?_eq_getElem (by rw[r];omega)⟩;obtain⟨x0,x1,x2,-,-,-,-⟩:=n.1.cell I;have F:=Z I;clear I J;have d0:=n.1.head.c1;obtain⟨u0,u1,u2⟩:=n.2.1.c3;try clear O t0 t1 t2
    cases q:eN x t
    ·have E:Hid (S.down i=d.lay k t):=Z (by
      have e:bO (B+1) d k t=(d,k):=by
       unfold bO;rw[L];dsimp only;rw[K,F];dsimp only;rw[q];rfl
      rw[V,<-D.1,e])
     have C:=Z (fun w=>eT x t false w q);clear q;go_wp2
     go_still_tail 8,(by kernel_rfl)
     change wpList _ _ _ _ _ A.drew;go_wp2_with fail
     refine(C _).mono ?_;rintro e w3 ⟨rfl,o⟩;have l:Hid (aN w3 b mb (.slice (some (g,0)) N cap) d/\Row w3 tb 318 t.cells/\Ch (cy b mb (.slice (some (g,0)) N cap)) w w3):=Z ⟨n.1.drew.ch o id id (fun _ _ h=>h),n.2.1.drew.ch o id,n.2.2.drew.trans o.af⟩;have c9:=l.2.1.cell (i:=0) rfl;have cb:=l.2.1.cell (i:=1) rfl;have cd:=l.2.1.cell (i:=2) rfl;clear d0 u0 u1 u2 x0 x1 x2 o;go_wp2_with fail
     with_reducible refine(M.out k (by omega) t _ d r.out l.out.1 _ ?_).mono ?_
     ·rfl
     rintro e w4 ⟨rfl,p,m⟩;have z:=Z p;have y:=Z m;clear p m;go_wp2
     go_end0
     rw[E];exact⟨rfl,z,l.2.2.trans y⟩
    ·have E:Hid (bO B (d.lay k x) j t=bO (N+1) S i t):=Z (by
      rw[<-D.1]
      conv=>rhs;unfold bO
      rw[L];dsimp only;rw[K,F];dsimp only;rw[q];rfl)
     have C:=Z (fun w=>eT x t true w q);clear q;go_wp2
     go_still_tail 8,(by kernel_rfl)
     change wpList _ _ _ _ _ A.drew;go_wp2_with fail
     refine(C _).mono ?_;rintro e w3 ⟨rfl,o⟩;have l:Hid (aN w3 b mb (.slice (some (g,0)) N cap) d/\Row w3 tb 318 t.cells/\Ch (cy b mb (.slice (some (g,0)) N cap)) w w3):=Z ⟨n.1.drew.ch o id id (fun _ _ h=>h),n.2.1.drew.ch o id,n.2.2.drew.trans o.af⟩;have bv:=l.1.head.cell (i:=0) rfl;obtain⟨ce,cf,ch,-,-,-,-⟩:=l.1.cell F;have G:Hid (tb≠b/\tb≠mb/\tb≠g):=Z (by
      have:=ad.out;refine⟨by omega,by omega,by omega⟩)
     clear d0 u0 u1 u2 x0 x1 x2 o;go_wp2_with fail
     with_reducible refine(M.out k (by omega) x _ d r.out l.out.1 _ ?_).mono ?_
     ·rfl
     rintro e w4 ⟨rfl,p,m⟩;have z:=Z p;have y:=Z m;have R:Hid (Row w4 tb 318 t.cells):=Z (l.2.1.ch m (by
      rintro(u|u|u)
      ·exact G.1 u
      ·exact G.2.1 u
      ·exact G.2.2 (Option.some.inj u).symm))
     clear p m;go_wp2
     go_roundw
     case rel=>exact⟨j,B,d.lay k x,by go_num,by omega,by omega,E,by rw[ah.b9];exact r,z,R,l.2.2.trans y⟩
     case measure=>simp[intOf];omega
  ·have cr:¬2*(k:Int)+1<N:=by omega
   have E:Hid (S.down i=d.lay k t):=Z (by
    have e:bO (B+1) d k t=(d,k):=(by unfold bO;rw[List.getElem?_eq_none (by rw[r];omega)]);rw[V,<-D.1,e])
   go_wp2_with fail
   with_reducible refine(M.out k (by omega) t _ d r.out Q.out _ ?_).mono ?_
   ·rfl
   rintro e w4 ⟨rfl,p,m⟩;have z:=Z p;have y:=Z m;clear p m;go_wp2
   go_end0
   rw[E];exact⟨rfl,z,av.trans y⟩
section
attribute [local go_sem↓] Go.wp_at_zero Go.wp_at_succ
theorem Ch.bM{w w':World}{r:Option Nat}(h:w.grownBy w' r):Ch (fun i=>r=some i) w w':=⟨h.os,h.tape,h.output,h.size,fun b hb a=>h.block b hb (fun e=>a e.symm)⟩
theorem au{w w1:World}{c:Obj}{r:Option Nat}(h:(w.alloc c).grownBy w1 r):w.grownBy w1 r:=
 ⟨h.os,h.tape,h.output,by have:=h.size;simp at this;omega,fun k a b=>(h.block k (by simp;omega) b).trans (Below.heap_alloc _ _ _ a)⟩
theorem cT{w w1:World}{r:Option Nat}(h:w.drew.grownBy w1 r):w.grownBy w1 r:=⟨h.os,h.tape,h.output,h.size,h.block⟩
theorem aU{w:World}{B:Nat}{e:TypeId}{size:Nat}{v:Value}{n:Nat}{j:List Value}(h:w.ownsRow B e size v n j){k:Nat}{c:List Value}{t:TypeId}(a:Row w k t c)(i:t≠e):v.ownBlock≠some k:=by
 rcases h.2 with⟨rfl,_⟩|⟨g,cap,cur,rfl,_,d,_⟩
 ·simp[Value.ownBlock]
 ·intro f
  have:g=k:=by simpa[Value.ownBlock]using f
  subst this;unfold Row at a;rw[d]at a;injection a with a
  injection a with _ b _
  exact i b.symm
theorem iw{α:Type}{w:World}{B:Nat}{e:TypeId}{size:Nat}{v:Value}{n:Nat}{i:List Value}(h:w.ownsRow B e size v n i){k:Nat}{q:IntKind}{enc:α->Value}{l:List (Int×α)}(f:bR w k q enc l):v.ownBlock≠some k:=by
 rcases h.2 with⟨rfl,_⟩|⟨g,cap,cur,rfl,_,b,_⟩
 ·simp[Value.ownBlock]
 ·intro d
  have:g=k:=by simpa[Value.ownBlock]using d
  subst this;obtain⟨j,c,a,_⟩:=f;rw[b]at a;cases a
theorem ao{w:World}{B:Nat}{e:TypeId}{size:Nat}{v:Value}{n:Nat}{b:List Value}(h:w.ownsRow B e size v n b):∃a c,v=.slice a n c:=by
 rcases h.2 with⟨rfl,rfl⟩|⟨g,cap,cur,rfl,_⟩
 ·exact⟨_,_,rfl⟩
 ·exact⟨_,_,rfl⟩
theorem aN.app{w w4:World}{b mb g cap:Nat}{v:Value}{S:ah}{t:ba}(h:aN w b mb v S)
 (d:w4.ownsRow 0 318 3 (.slice (some (g,0)) (S.l.length+1) cap) (S.l.length+1) (S.l.flatMap ba.cells++t.cells)) (m:w.grownBy w4 v.ownBlock):
 aN (w4.setCell (b,0) (.slice (some (g,0)) (S.l.length+1) cap)) b mb (.slice (some (g,0)) (S.l.length+1) cap) {S with l:=S.l++[t]}/\
 Ch (cy b mb v) w (w4.setCell (b,0) (.slice (some (g,0)) (S.l.length+1) cap)):=by
 have c:=Ch.bM m;have a:=h.head.ch c (aU h.own h.head (by decide));have f:=h.map.ch c (iw h.own h.map);have j:b≠g:=by
  intro e;subst e;exact aU d a (by decide) rfl
 refine⟨⟨a.bc _ _ rfl,?_,f.other (fun e=>f.ne a e) _⟩,(Ch.mono (E:=cy b mb v) c fun i n=>Or.inr (Or.inr n)).g5 (p:=⟨b,0,none⟩) (Or.inl rfl) _⟩;have:(S.l++[t]).flatMap ba.cells=S.l.flatMap ba.cells++t.cells:=by simp
 rw[this];show(w4.setCell (b,0) _).ownsRow 0 318 3 _ (S.l++[t]).length _
 rw[List.length_append,List.length_cons,List.length_nil];have:=aj (D:=aL b) d ((Ch.refl _ _).only 0 (.slice (some (g,0)) (S.l.length+1) cap)) (fun k o e=>by
  have:g=k:=by simpa[Value.ownBlock]using o
  subst this;exact j (show _=_ from e.symm))
 exact this
theorem Ch.join{D E:Nat->Prop}{a b c:World}(h:Ch D a b)(k:Ch E b c)(f:∀i,i<a.heap.size->E i->D i):Ch D a c:=
 ⟨k.os.trans h.os,k.tape.trans h.tape,k.output.trans h.output,Nat.le_trans h.size k.size,fun i d e=>(k.same i (Nat.lt_of_lt_of_le d h.size) (fun g=>e (f i d g))).trans (h.same i d e)⟩
def ah.put(S:ah)(a b:Int):Int×ah:=
 let n:=wrap64 (S.last+1)
 (n,ah.up {S with last:=n,l:=S.l++[⟨a,b,n⟩]} S.l.length)
def vs(x:Int×ah)(b mb:Nat)(v:Value)(w:World)(e:Ending)(w':World):Prop:=e=.returned (.int .i64 x.1)/\(∃a,aN w' b mb a x.2/\aT w v a)/\Ch (cy b mb v) w w'
theorem wH:(prog.info? 318).map (fun i=>(i.zero,i.size,i.bytes))=some (some (.agg #[.int .u64 0,.int .u64 0,.int .i64 0]),3,24):=by kernel_rfl
theorem pk:∀(f:Nat) (S:ah) (i:Nat) (t:ba),(gX f S i t).1.last=S.last
 |0,_,_,_=>rfl
 |f+1,S,i,t=>by
  unfold gX;split
  ·rfl
  ·split
   ·rfl
   ·split
    ·rw[pk];rfl
    ·rfl
theorem ah.BB(S:ah)(i:Nat):(S.up i).last=S.last:=by
 unfold ah.up;split
 ·rfl
 ·exact pk _ _ _ _
theorem Dc(b mb:Nat)(v:Value)(S:ah)(i:Nat)(d:i<S.l.length)(hb:S.l.length<=1000000)(w:World)(h:aN w b mb v S)(a:Int)(c:a=i):
 Calls prog 184 #[(b,0),a] w (lF b mb v (S.up i) w):=by subst c;exact DQ b mb v S i d hb w h
theorem BC(b mb:Nat)(v:Value)(S:ah)(i:Nat)(d:i<S.l.length)(hb:S.l.length<=1000000)(w:World)(h:aN w b mb v S)(a:Int)(c:a=i):
 Calls prog 185 #[(b,0),a] w (lF b mb v (S.down i) w):=by subst c;exact y7 b mb v S i d hb w h
theorem rB(b mb:Nat)(v:Value)(S:ah)(c d:Int)(hb:S.l.length<=900000)(w:World)(h:aN w b mb v S):
 Calls prog 208 #[(b,0),.int .u64 c,.int .u64 d] w (vs (S.put c d) b mb v w):=by
 obtain⟨am,L,ab,ad,al⟩:=info_parts wH;have U:=Z L;obtain⟨G,I,P⟩:=ao h.own;have H:=Z h;have Y:=h.head.k 2 rfl;have f2:=h.head.free 2;obtain⟨N,q⟩:=mn S.l.length;rw[<-q]at P hb;have f:=Z q;obtain⟨n,A⟩:=mn (wrap64 (S.last+1));have E:Hid (S.put c d=(n,ah.up {S with last:=n,l:=S.l++[⟨c,d,n⟩]} N)):=Z (by unfold ah.put;rw[<-A,q]);have X:=Z A;clear h q L A;go_wp2
 rw[<-X];obtain⟨w1,s⟩:=nm (w.setCell (b,2) (.int .i64 n));have a:Hid (aN w1 b mb v {S with last:=n}):=Z (by
  rw[<-s];exact⟨H.head.bc _ _ rfl,aj (D:=aL b) H.own ((Ch.refl _ _).only 2 _) (fun k a1 e=>aU H.own H.head (by decide) (by rw[a1];exact congrArg some e)),H.out.map.other (fun e=>H.out.map.ne H.head e) _⟩)
 have u:Hid (Ch (cy b mb v) w w1):=Z (by rw[<-s];exact(Ch.refl _ _).g5 (p:=⟨b,2,none⟩) (Or.inl rfl) _);rw[s];clear s Y f2;have d0:=a.head.c1;have d2:=a.head.k 2 rfl;have J:=a.head.free 0;have B:=a.own;rw[show({S with last:=n}:ah).l=S.l from rfl,<-f]at B;have O:=a.head.lt;have C:v.ownBlock≠some b:=aU a.own a.head (by decide);subst P;go_region_law (first|(refine step_append_lies _ (by rfl) _ _ _ (by rfl) 0 318 am _ 3 24 underlying266 U ab ad al rfl (by omega) _ N (S.l.flatMap ba.cells) (by rfl) ((B.alloc _).drew) ⟨w1.heap.size,0,none⟩ 1 1 [.int .u64 c,.int .u64 d,n] (by rfl) (by rfl) (World.news_of_block (cs:=#[.int .u64 c,.int .u64 d,n]) (t:=318) (fr:=(0,0)) (heap_alloc_new w1 _)) (by simp[Value.oneCell']) (by omega) (by unfold maxLen;omega) (by omega) (by simp) (w1.heap.size+1) (by simp) ?_;intro g cap w4 M r y a2;have ap:w4.cell? (b,0)=_:=(r.cell_far ⟨b,0,none⟩ (by simp;omega) (Ne.symm C)).trans (by simp[go_sem,World.cell?_alloc_past,O,d0];rfl);have av:w4.frozen? (b,0)=false:=(r.frozen_far ⟨b,0,none⟩ (by simp;omega) (Ne.symm C)).trans (by simp[go_sem,World.frozen?_alloc_past,O,J])))
 all_goals
  have o:=a.app (t:=⟨c,d,n⟩) (by rw[show({S with last:=n}:ah).l=S.l from rfl,<-f];exact M) (au (cT r));rw[show({S with last:=n}:ah).l=S.l from rfl,<-f]at o;have x:=Z o.1;have F:=Z (u.trans o.2);obtain⟨bi,Q⟩:=nm (w4.setCell (b,0) (.slice (some (g,0)) (N+1) cap));rw[Q]at x F⊢;have V:Hid (∀i,i<w.heap.size->cy b mb (.slice (some (g,0)) (N+1) cap) i->cy b mb (.slice G N I) i):=Z (fun i ax a3=>by
   rcases a3 with j|j|j
   ·exact Or.inl j
   ·exact Or.inr (Or.inl j)
   ·have a0:g=i:=by simpa[Value.ownBlock]using j
    rcases y with m|m
    ·exact Or.inr (Or.inr (by rw[m,a0]))
    ·have:=u.size;omega)
  have W:Hid (aT w (.slice G N I) (.slice (some (g,0)) (N+1) cap)):=Z (aT.at (by
   rcases y with m|m
   ·exact Or.inl (by rw[m])
   ·have:=u.size;exact Or.inr (by omega)))
  clear o Q M r y a2 ap av d0 d2 J B C;have d0:=x.head.c1;go_wp2_with fail
  with_reducible refine(Dc b mb (.slice (some (g,0)) (N+1) cap) {S with last:=n,l:=S.l++[⟨c,d,n⟩]} N ?_ ?_ _ x.out _ ?_).mono ?_
  ·show N<(S.l++[_]).length
   rw[List.length_append,<-f];simp
  ·show(S.l++[_]).length<=_
   rw[List.length_append,<-f];simp;omega
  ·omega
  rintro e bv ⟨rfl,z,K⟩;have T:=Z z;have R:=Z (F.join K V);have d2:=z.head.k 2 rfl;rw[ah.BB]at d2;clear z K d0;go_wp2
  go_ret;rw[E];exact⟨rfl,⟨_,T,W⟩,R⟩
end
def ah.cut(S:ah)(h:Int):ah:={S with l:=S.l.take (S.l.length-1),at_:=ft S.at_ h}
def ah.drop(S:ah)(h:Int):Int×Bool×ah:=
 match aw S.at_ h with
 |none=>(0,false,S)
 |some i=>match S.l[i.toNat]?,S.l[S.l.length-1]? with
  |some t,some last=>
   if i.toNat<S.l.length-1 then
    let a:=((S.cut h).lay i.toNat last).up i.toNat
    (t.bU,true,a.down ((aw a.at_ last.h).getD 0).toNat)
   else(t.bU,true,S.cut h)
  |_,_=>(0,false,S)
def ah.j9(S:ah)(h:Int):Prop:=∀i,aw S.at_ h=some i->0<=i/\i.toNat<S.l.length/\
 (i.toNat<S.l.length-1->∀last,S.l[S.l.length-1]?=some last->0<=(aw (((S.cut h).lay i.toNat last).up i.toNat).at_ last.h).getD 0/\((aw (((S.cut h).lay i.toNat last).up i.toNat).at_ last.h).getD 0).toNat<S.l.length-1)
theorem rC:∀(f:Nat) (S:ah) (i:Nat) (t:ba),(gX f S i t).1.l.length=S.l.length
 |0,_,_,_=>rfl
 |f+1,S,i,t=>by
  unfold gX;split
  ·rfl
  ·split
   ·rfl
   ·split
    ·rw[rC,ah.b9]
    ·rfl
theorem ah.nu(S:ah)(i:Nat):(S.up i).l.length=S.l.length:=by
 unfold ah.up;split
 ·rfl
 ·rw[ah.b9,rC]
theorem jH{α:Type}{enc:α->List Value}{k:Nat}(a:∀x,(enc x).length=k):∀(l:List α) (n:Nat),(l.flatMap enc).take (n*k)=(l.take n).flatMap enc
 |[],n=>by simp
 |x::l,0=>by simp
 |x::l,n+1=>by
  rw[List.flatMap_cons,List.take_succ_cons,List.flatMap_cons,Nat.succ_mul,List.take_append,a,show n*k+k-k=n*k from by omega,jH a l n,List.take_of_length_le (by rw[a];omega)]
theorem aN.shrink{w:World}{b mb g cap m:Nat}{S:ah}(h:aN w b mb (.slice (some (g,0)) (m+1) cap) S)(c:S.l.length=m+1):
 aN (w.setCell (b,0) (.slice (some (g,0)) m cap)) b mb (.slice (some (g,0)) m cap) {S with l:=S.l.take m}:=by
 have i:b≠g:=fun e=>aU h.own h.head (by decide) (by rw[e];rfl)
 have q:w.ownsRow 0 318 3 (.slice (some (g,0)) m cap) m ((S.l.take m).flatMap ba.cells):=by
  rcases h.own.2 with⟨a,_⟩|⟨u,t,cur,j,f,n,x,p,r,s⟩
  ·cases a
  ·injection j with a v d
   injection a with a
   injection a with a
   subst a d;refine⟨by rw[a4 ba.len,List.length_take];omega,Or.inr ⟨g,cap,cur,rfl,f,n,by omega,p,r,?_⟩⟩;rw[<-jH ba.len,<-s,List.take_take]
   congr 1;rw[c];omega
 refine⟨h.head.bc _ _ rfl,?_,h.map.other (fun e=>h.map.ne h.head e) _⟩;show(w.setCell _ _).ownsRow 0 318 3 _ (S.l.take m).length _
 rw[List.length_take,c,Nat.min_eq_left (by omega)];exact aj (D:=aL b) q ((Ch.refl _ _).only 0 _) (fun k o e=>by
  have:g=k:=by simpa[Value.ownBlock]using o
  subst this;exact i (show _=_ from e.symm))
def qh(x:Int×Bool×ah)(b mb:Nat)(v:Value)(w:World)(e:Ending)(w':World):Prop:=e=.returned (.tuple #[.int .u64 x.1,.bool x.2.1])/\(∃a,aN w' b mb a x.2.2/\(a.ownBlock=v.ownBlock))/\Ch (cy b mb v) w w'
theorem kC(b mb:Nat)(v:Value)(S:ah)(d:Int)(hb:S.l.length<=900000)(J:S.j9 d)(w:World)(h:aN w b mb v S):
 Calls prog 159 #[(b,0),d] w (qh (S.drop d) b mb v w):=by
 have H:=Z h;have M:∀w,(zeroValue 3).run prog w=.ok (.int .i64 0) w:=fun w=>by kernel_rfl
 have A:=gg (P:=prog) (T:=265) (K:=3) (E:=3) underlying265 underlying3 (M w) h.map d;obtain⟨Q,R⟩:=h.head.c2;have f0:=h.head.free 0;cases n:aw S.at_ d with
 |none=>
  rw[n]at A;have E:Hid (S.drop d=(0,false,S)):=Z (by unfold ah.drop;rw[n]);clear h n J M;simp only[Option.map_none,Option.getD_none,Option.isSome_none]at A;go_wp2
  go_ret2;rw[E];exact⟨rfl,⟨v,H,rfl⟩,Ch.refl _ _⟩
 |some c1=>
  rw[n]at A;obtain⟨U,c,I⟩:=J c1 n;obtain⟨i,rfl⟩:=Int.eq_ofNat_of_zero_le U;rw[Int.toNat_natCast]at c I;obtain⟨t,F⟩:∃t,S.l[i]?=some t:=⟨_,List.getElem?_eq_getElem c⟩;obtain⟨m,q⟩:∃m,S.l.length=m+1:=⟨S.l.length-1,by omega⟩;obtain⟨a,x⟩:∃a,S.l[m]?=some a:=⟨_,List.getElem?_eq_getElem (by omega)⟩;have E:Hid (S.drop d=if i<m then(t.bU,true,(((S.cut d).lay i a).up i).down ((aw (((S.cut d).lay i a).up i).at_ a.h).getD 0).toNat)else(t.bU,true,S.cut d)):=Z (by
   unfold ah.drop;rw[n];simp only[Int.toNat_natCast,F,q,Nat.add_sub_cancel,x])
  have a3:Hid (i<m->0<=(aw (((S.cut d).lay i a).up i).at_ a.h).getD 0/\((aw (((S.cut d).lay i a).up i).at_ a.h).getD 0).toNat<m):=Z (fun o=>by
   have:=I (by omega) a (by rw[q,Nat.add_sub_cancel];exact x);rw[q,Nat.add_sub_cancel]at this;exact this)
  obtain⟨g,cap,rfl,bv,c4,c5,c6,ck⟩:=h.at F;obtain⟨c7,c8,c9,-,-,-,-⟩:=h.cell x;rw[q]at Q H bv h⊢;have C:=Z q;have ce:=Z F;have cd:=Z x;have cl:(i:Int)<(m:Int)+1:=by omega
  have ch:((m+1:Nat):Int)=(m:Int)+1:=by omega
  have cA:(m:Int)+1-1=(m:Int):=by omega
  have cf:=h.head.lt;have cs:=h.map.lt;have ci:g≠b:=fun e=>aU h.own h.head (by decide) (by rw[e];rfl)
  have cm:i<=m:=by omega
  have cr:m<=900000:=by omega
  simp only[Option.map_some,Option.getD_some,Option.isSome_some]at A;have W:bR (((w.setCell (b,0) (.slice (some (g,0)) m cap)).alloc (.cells #[.int .u64 t.d,.int .u64 t.bU,.int .i64 t.h] 318)).alloc (.cells #[.int .u64 a.d,.int .u64 a.bU,.int .i64 a.h] 318)) mb .i64 (Value.int .i64) S.at_:=((h.map.other (fun e=>h.map.ne h.head e) _).alloc _).alloc _;obtain⟨w3,bx,V,s⟩:=fw (P:=prog) (T:=265) (K:=3) (E:=3) (ty:=0) (kT:=3) underlying265 underlying3 W d;have bi:=Z (h.shrink C);have l:Hid (Row w3 w.heap.size 318 t.cells/\Row w3 (w.heap.size+1) 318 a.cells/\aN w3 b mb (.slice (some (g,0)) m cap) (S.cut d)/\Ch (cy b mb (.slice (some (g,0)) (m+1) cap)) w w3):=Z (by
   have c0:=(bi.alloc (.cells #[.int .u64 t.d,.int .u64 t.bU,.int .i64 t.h] 318)).alloc (.cells #[.int .u64 a.d,.int .u64 a.bU,.int .i64 a.h] 318);refine⟨?_,?_,?_,?_⟩
   ·refine Row.ch ?_ s (fun e=>by have:w.heap.size=mb:=e;omega)
    have:=Row.new (w.setCell (b,0) (.slice (some (g,0)) m cap)) #[.int .u64 t.d,.int .u64 t.bU,.int .i64 t.h] 318;rw[World.size_setCell]at this;exact this.alloc _
   ·refine Row.ch ?_ s (fun e=>by have:w.heap.size+1=mb:=e;omega)
    have:=Row.new ((w.setCell (b,0) (.slice (some (g,0)) m cap)).alloc (.cells #[.int .u64 t.d,.int .u64 t.bU,.int .i64 t.h] 318)) #[.int .u64 a.d,.int .u64 a.bU,.int .i64 a.h] 318;rw[World.size_alloc,World.size_setCell]at this;exact this
   ·have:=c0.G3 V s
    unfold ah.cut;rw[C,Nat.add_sub_cancel];exact this
   ·exact((((Ch.refl _ _).g5 (p:=⟨b,0,none⟩) (Or.inl rfl) _).alloc _).alloc _).trans (rA s))
  clear h n J M U c I F x q V s W;by_cases B:i<m
  ·have bw:(i:Int)<m:=by omega
   obtain⟨a0,a1⟩:=a3 B;obtain⟨j,D⟩:=Int.eq_ofNat_of_zero_le a0;rw[D,Int.toNat_natCast]at a1;have G:Hid (S.drop d=(t.bU,true,(((S.cut d).lay i a).up i).down j)):=Z (by rw[E,if_pos B,D,Int.toNat_natCast]);have ax:=Z D;clear D a0;go_in
   obtain⟨c2,c3,a2⟩:=l.2.1.c3;have u:Hid ((S.cut d).l.length=m):=Z (by unfold ah.cut;rw[C];simp[C.out]);have L:Hid (¬cy b mb (.slice (some (g,0)) m cap) w.heap.size):=Z (by
    rintro(c|c|c)
    ·omega
    ·omega
    ·have:g=w.heap.size:=by simpa[Value.ownBlock]using c
     omega)
   have Y:Hid (¬cy b mb (.slice (some (g,0)) m cap) (w.heap.size+1)):=Z (by
    rintro(c|c|c)
    ·omega
    ·omega
    ·have:g=w.heap.size+1:=by simpa[Value.ownBlock]using c
     omega)
   go_wp2_with fail
   with_reducible refine(tU b mb (.slice (some (g,0)) m cap) (S.cut d) i (by rw[u.out];exact B) a _ l.out.2.2.1 _ ?_).mono ?_
   ·rfl
   rintro e w4 ⟨rfl,k,f⟩;have am:=Z k;have N:Hid (Row w4 w.heap.size 318 t.cells/\Row w4 (w.heap.size+1) 318 a.cells):=Z ⟨l.1.ch f L.out,l.2.1.ch f Y.out⟩;have ab:Hid (Ch (cy b mb (.slice (some (g,0)) (m+1) cap)) w w4):=Z (l.2.2.2.trans (f.mono fun i o=>by rcases o with c|c|c;exact Or.inl c;exact Or.inr (Or.inl c);exact Or.inr (Or.inr c)));clear k f c2 c3 a2 bx A Q R f0 c4 c5 c6 c7 c8 c9;go_wp2_with fail
   with_reducible refine(Dc b mb (.slice (some (g,0)) m cap) ((S.cut d).lay i a) i (by rw[ah.b9,u.out];exact B) (by rw[ah.b9,u.out];omega) _ am.out _ ?_).mono ?_
   ·rfl
   rintro e r ⟨rfl,k,f⟩;have ap:=Z k;have O:Hid (Row r w.heap.size 318 t.cells/\Row r (w.heap.size+1) 318 a.cells):=Z ⟨N.1.ch f L.out,N.2.ch f Y.out⟩;have ad:Hid (Ch (cy b mb (.slice (some (g,0)) (m+1) cap)) w r):=Z (ab.trans (f.mono fun i o=>by rcases o with c|c|c;exact Or.inl c;exact Or.inr (Or.inl c);exact Or.inr (Or.inr c)));have R:=k.head.k 1 rfl;have a2:=O.2.k 2 rfl;have cq:(Instr.lookup 265 (.map (some mb)) (.int .i64 a.h) false).run prog r.drew=.ok (.int .i64 j) r.drew:=by
    rw[fu (P:=prog) (T:=265) (K:=3) (E:=3) (z:=.int .i64 0) underlying265 underlying3 (by kernel_rfl) k.map.drew a.h];have:=ax.out;cases X:aw (((S.cut d).lay i a).up i).at_ a.h with
    |none=>rw[X]at this;rw[<-this];rfl
    |some y=>rw[X]at this;rw[<-this];rfl
   clear k f;go_wp2
   go_still_tail 8,(by kernel_rfl)
   change wpList _ _ _ _ _ r.drew;go_wp2_with fail
   with_reducible refine(BC b mb (.slice (some (g,0)) m cap) (((S.cut d).lay i a).up i) j (by rw[ah.nu,ah.b9,u.out];exact a1) (by rw[ah.nu,ah.b9,u.out];omega) _ ap.out.drew _ ?_).mono ?_
   ·rfl
   rintro e cb ⟨rfl,k,f⟩;have av:=Z k;have al:Hid (Ch (cy b mb (.slice (some (g,0)) (m+1) cap)) w cb):=Z (ad.drew.trans (f.mono fun i o=>by rcases o with c|c|c;exact Or.inl c;exact Or.inr (Or.inl c);exact Or.inr (Or.inr c)));have t1:=(O.1.drew.ch f L.out).cell (i:=1) rfl;clear k f;go_wp2
   go_ret2;rw[G];exact⟨rfl,⟨_,av,rfl⟩,al⟩
  ·have bw:¬(i:Int)<m:=by omega
   have G:Hid (S.drop d=(t.bU,true,S.cut d)):=Z (by rw[E,if_neg B]);have t1:=l.1.k 1 rfl;go_wp2
   go_ret2;rw[G];exact⟨rfl,⟨_,l.2.2.1,rfl⟩,l.2.2.2⟩
def ah.pop(S:ah)(now:Int):Int×Bool×ah:=
 match S.l with
 |[]=>(0,false,S)
 |t::_=>if now<t.d then(0,false,S)else S.drop t.h
theorem rD(b mb:Nat)(v:Value)(S:ah)(now:Int)(hb:S.l.length<=900000)(f:∀t∈S.l.head?,S.j9 t.h)(w:World)(h:aN w b mb v S):
 Calls prog 136 #[(b,0),.int .u64 now] w (qh (S.pop now) b mb v w):=by
 have H:=Z h;have z:=h.head.c1;cases d:S.l with
 |nil=>
  have E:Hid (S.pop now=(0,false,S)):=Z (by unfold ah.pop;rw[d]);have r:v=.slice none 0 0∨∃a c,v=.slice a 0 c:=by
   obtain⟨a,c,rfl⟩:=ao h.own
   right;exact⟨a,c,by rw[d];rfl⟩
  have C:∃a c,v=.slice a 0 c:=by
   rcases r with rfl|A
   ·exact⟨_,_,rfl⟩
   ·exact A
  obtain⟨a,c,rfl⟩:=C;clear h d f r;go_wp2
  go_ret2;rw[E];exact⟨rfl,⟨_,H,rfl⟩,Ch.refl _ _⟩
 |cons t l=>
  have k:S.l[0]?=some t:=by rw[d];rfl
  obtain⟨g,cap,rfl,B,D,s,n,F⟩:=h.at k;rw[Nat.zero_mul]at D;have J:w.cell? (g,2)=some (.int .i64 t.h):=by simpa using n
  have j:S.l.length=l.length+1:=by rw[d];rfl
  obtain⟨m,i⟩:=mn l.length;rw[j,<-i]at z H B⊢;have x:=Z (fun w h=>kC b mb (.slice (some (g,0)) (m+1) cap) S t.h hb (f t (by rw[d];rfl)) w h);have G:((m:Int)+1==0)=false:=by rw[beq_eq_false_iff_ne];omega
  have I:(0:Int)<(m:Int)+1:=by omega
  by_cases p:now<t.d
  ·have E:Hid (S.pop now=(0,false,S)):=Z (by unfold ah.pop;rw[d];simp only[if_pos p])
   clear h d f k j i s n;go_wp2
   go_ret2;rw[E];exact⟨rfl,⟨_,H,rfl⟩,Ch.refl _ _⟩
  ·have E:Hid (S.pop now=S.drop t.h):=Z (by unfold ah.pop;rw[d];simp only[if_neg p])
   clear h d f k j i s n;go_in
   go_wp2_with fail
   refine(x _ H).mono ?_;rintro e w' ⟨rfl,q,o⟩;have y:=Z q;have u:=Z o;clear q o;go_wp2
   go_ret2;rw[E];exact⟨rfl,y,u⟩
def ah.new:ah:=⟨[],[],0⟩
theorem rE(w:World):Calls prog 91 #[] w (fun e w'=>∃b mb,e=.returned (.pointer (some ⟨b,0,none⟩))/\aN w' b mb (.slice none 0 0) ah.new/\w.heap.size<=b/\w.heap.size<=mb/\Ch ag w w'):=by
 have a:= @run_makeMap prog;go_wp2
 go_ret;refine⟨w.heap.size+1,w.heap.size,rfl,⟨?_,⟨rfl,Or.inl ⟨rfl,rfl⟩⟩,⟨#[],0,?_,rfl⟩⟩,by omega,Nat.le_refl _,((Ch.refl _ _).alloc _).alloc _⟩
 ·have:=Row.new (w.alloc (.map #[] 0)) #[.slice none 0 0,.map (some w.heap.size),.int .i64 0] 268
  rw[World.size_alloc]at this;exact this
 ·rw[Below.heap_alloc _ _ _ (by simp)];exact heap_alloc_new w _
section
section
variable{α:Type}
theorem nv:∀(l:List (Int×α)) (k:Int) (i:Nat),dZ l k i=none↔∀x∈l,x.1≠k
 |[],_,_=>by simp[dZ]
 |x::l,k,i=>by
  unfold dZ;split
  ·rename_i h
   have:k=x.1:=(by simpa using h);simp[this]
  ·rename_i h
   have:¬k=x.1:=(by simpa using h);rw[nv l k (i+1)];simp only[List.mem_cons,forall_eq_or_imp];exact⟨fun a=>⟨fun e=>this e.symm,a⟩,fun a=>a.2⟩
theorem j'(x:Int×α)(l:List (Int×α))(k:Int)(i:Nat):dZ (x::l) k i=if k==x.1 then some (i,x.2)else dZ l k (i+1):=rfl
theorem y8(k:Int):aw ([]:List (Int×α)) k=none:=rfl
theorem cX(x:Int×α)(l:List (Int×α))(k:Int):aw (x::l) k=if k=x.1 then some x.2 else aw l k:=by
 unfold aw;rw[j',gm l k (0+1)];by_cases h:k=x.1
 ·simp[h]
 ·simp only[beq_iff_eq,h,if_false]
  cases dZ l k 0<;>simp
theorem kD(k:Int)(v:α):b8 [] k v=[(k,v)]:=rfl
theorem dW(x:Int×α)(l:List (Int×α))(k:Int)(v:α):b8 (x::l) k v=if k=x.1 then(k,v)::l else x::b8 l k v:=by
 unfold b8;rw[j',gm l k (0+1)];by_cases h:k=x.1
 ·simp[h]
 ·simp only[beq_iff_eq,h,if_false]
  cases dZ l k 0<;>simp
theorem hT(x:Int×α)(l:List (Int×α))(k:Int):ft (x::l) k=if k=x.1 then l else x::ft l k:=by
 unfold ft;rw[j',gm l k (0+1)];by_cases h:k=x.1
 ·simp[h]
 ·simp only[beq_iff_eq,h,if_false]
  cases dZ l k 0<;>simp
theorem aV(l:List (Int×α))(k:Int)(v:α)(j:Int):aw (b8 l k v) j=if j=k then some v else aw l j:=by
 induction l with
 |nil=>rw[kD,cX]
 |cons x l ih=>
  rw[dW];by_cases h:k=x.1
  ·rw[if_pos h,cX,cX]
   by_cases a:j=k
   ·simp[a]
   ·simp only[a,if_false]
    rw[if_neg (by rw[<-h];exact a)]
  ·rw[if_neg h,cX,ih,cX]
   by_cases a:j=x.1
   ·rw[if_pos a,if_pos a,if_neg (by rw[a];exact fun e=>h e.symm)]
   ·rw[if_neg a,if_neg a]
theorem gn(l:List (Int×α))(k j:Int)(h:j≠k):aw (ft l k) j=aw l j:=by
 induction l with
 |nil=>rfl
 |cons x l ih=>
  rw[hT];by_cases a:k=x.1
  ·rw[if_pos a,cX,if_neg (by rw[<-a];exact h)]
  ·rw[if_neg a,cX,cX,ih]
theorem wI(l:List (Int×α))(k:Int):aw l k=none↔∀x∈l,x.1≠k:=by
 unfold aw;rw[Option.map_eq_none_iff,nv]
def gp(l:List (Int×α)):Prop:=(l.map (·.1)).Nodup
theorem wJ(l:List (Int×α))(k:Int)(v:α):(b8 l k v).map (·.1)=if(l.map (·.1)).contains k then l.map (·.1)else l.map (·.1)++[k]:=by
 induction l with
 |nil=>rfl
 |cons x l ih=>
  rw[dW];by_cases h:k=x.1
  ·simp[h]
  ·simp only[h,if_false,List.map_cons,ih,List.contains_cons,beq_iff_eq,Bool.false_or,show(k==x.1)=false from by simpa using h]
   split<;>simp
theorem gp.put{l:List (Int×α)}(h:gp l)(k:Int)(v:α):gp (b8 l k v):=by
 unfold gp;rw[wJ];split
 ·exact h
 ·rename_i f
  rw[List.nodup_append];refine⟨h,by simp,fun a c b hb=> ?_⟩;have d:b=k:=by simpa using hb
  subst d;intro e;subst e;exact f (by simpa using c)
theorem gp.del{l:List (Int×α)}(h:gp l)(k:Int):gp (ft l k)/\aw (ft l k) k=none:=by
 induction l with
 |nil=>exact⟨h,rfl⟩
 |cons x l ih=>
  have b:x.1∉l.map (·.1)/\(l.map (·.1)).Nodup:=List.nodup_cons.1 h;rw[hT];by_cases c:k=x.1
  ·rw[if_pos c]
   refine⟨b.2,(wI l k).2 fun y a e=>b.1 ?_⟩;have:=List.mem_map_of_mem (f:=fun x:Int×α=>x.1) a;rw[e,c]at this;exact this
  ·rw[if_neg c]
   obtain⟨i1,i2⟩:=ih b.2;refine⟨?_,?_⟩
   ·refine List.nodup_cons.2 ⟨fun i=>b.1 ?_,i1⟩
    have:∀(l:List (Int×α)) y,y∈ft l k->y∈l:=by
     intro l
     induction l with
     |nil=>intro y a;exact a
     |cons z l j=>
      intro y a;rw[hT]at a;split at a
      ·exact List.mem_cons_of_mem _ a
      ·rcases List.mem_cons.1 a with rfl|a
       ·exact List.mem_cons_self
       ·exact List.mem_cons_of_mem _ (j y a)
    obtain⟨y,a,g⟩:=List.mem_map.1 i;have d:=List.mem_map_of_mem (f:=fun x:Int×α=>x.1) (this l y a);rw[g]at d;exact d
   ·rw[cX,if_neg c];exact i2
end
structure ah.WF(S:ah):Prop where
 nd:gp S.at_
 at_:∀k j,aw S.at_ k=some j->0<=j/\∃x,S.l[j.toNat]?=some x/\x.h=k
structure ah.lG(S:ah)(i:Nat)(t:ba):Prop where
 nd:gp S.at_
 lt:i<S.l.length
 at_:∀k j,k≠t.h->aw S.at_ k=some j->0<=j/\j.toNat≠i/\∃x,S.l[j.toNat]?=some x/\x.h=k
theorem ah.WF.hole{S:ah}(h:S.WF){i:Nat}{t:ba}(c:S.l[i]?=some t):S.lG i t:=
 ⟨h.nd,(List.getElem?_eq_some_iff.1 c).1,fun k j g f=>by
  obtain⟨d,x,a,b⟩:=h.at_ k j f;refine⟨d,fun e=>g ?_,x,a,b⟩;rw[e,c]at a;rw[<-b,<-Option.some.inj a]⟩
theorem ah.lG.fill{S:ah}{i:Nat}{t:ba}(h:S.lG i t):(S.lay i t).WF:=
 ⟨h.nd.put _ _,fun k j a=>by
  unfold ah.lay at a⊢;dsimp only at a⊢;rw[aV]at a;by_cases b:k=t.h
  ·rw[if_pos b]at a
   have:(i:Int)=j:=Option.some.inj a;subst this;exact⟨by omega,t,by rw[Int.toNat_natCast,List.getElem?_set_self h.lt],b.symm⟩
  ·rw[if_neg b]at a
   obtain⟨c,d,x,g,f⟩:=h.at_ k j b a;exact⟨c,x,by rw[List.getElem?_set_ne (fun e=>d e.symm)];exact g,f⟩⟩
theorem ah.lG.shift{S:ah}{i p:Nat}{t x:ba}(h:S.lG i t)(f:S.l[p]?=some x)(n:p≠i):(S.lay i x).lG p t:=
 ⟨h.nd.put _ _,by rw[ah.b9];exact(List.getElem?_eq_some_iff.1 f).1,fun k j m a=>by
  unfold ah.lay at a⊢;dsimp only at a⊢;rw[aV]at a;by_cases b:k=x.h
  ·rw[if_pos b]at a
   have:(i:Int)=j:=Option.some.inj a;subst this;exact⟨by omega,by rw[Int.toNat_natCast];exact fun e=>n e.symm,x,by rw[Int.toNat_natCast,List.getElem?_set_self h.lt],b.symm⟩
  ·rw[if_neg b]at a
   obtain⟨g,l,y,c,d⟩:=h.at_ k j m a;refine⟨g,fun e=>b ?_,y,by rw[List.getElem?_set_ne (fun e=>l e.symm)];exact c,d⟩;rw[e,f]at c;rw[<-d,<-Option.some.inj c]⟩
theorem pn:∀(f:Nat) (S:ah) (i:Nat) (t:ba),S.lG i t->(gX f S i t).1.lG (gX f S i t).2 t
 |0,S,i,t,h=>h
 |f+1,S,i,t,h=>by
  unfold gX;split
  ·exact h
  ·rename_i b
   split
   ·exact h
   ·rename_i p a
    split
    ·exact pn f _ _ t (h.shift a (by omega))
    ·exact h
theorem mj:∀(f:Nat) (S:ah) (i:Nat) (t:ba),S.lG i t->(bO f S i t).1.lG (bO f S i t).2 t
 |0,S,i,t,h=>h
 |f+1,S,i,t,h=>by
  unfold bO;split
  ·exact h
  ·rename_i a c
   split
   ·exact h
   ·rename_i x b
    split
    ·refine mj f _ _ t (h.shift b ?_)
     unfold jY;split
     ·omega
     ·split<;>omega
    ·exact h
theorem ah.lG.up{S:ah}{i:Nat}{t:ba}(h:S.lG i t)(a:S.l[i]?=some t):(S.up i).WF:=by
 unfold ah.up;rw[a];exact(pn _ S i t h).fill
theorem ah.WF.up{S:ah}(h:S.WF){i:Nat}(a:i<S.l.length):(S.up i).WF:=(h.hole (List.getElem?_eq_getElem a)).up (List.getElem?_eq_getElem a)
theorem ah.WF.down{S:ah}(h:S.WF){i:Nat}(b:i<S.l.length):(S.down i).WF:=by
 have a:=List.getElem?_eq_getElem b;unfold ah.down;rw[a];exact(mj _ S i _ (h.hole a)).fill
theorem ah.WF.put{S:ah}(h:S.WF)(a c:Int):(S.put a c).2.WF:=by
 unfold ah.put;dsimp only;refine ah.lG.up (t:=⟨a,c,RowKit.wrap64 (S.last+1)⟩) ⟨h.nd,by simp,fun k j i f=> ?_⟩ (by simp);obtain⟨d,x,b,e⟩:=h.at_ k j f;have g:=(List.getElem?_eq_some_iff.1 b).1;exact⟨d,by omega,x,by dsimp only;rw[List.getElem?_append_left g];exact b,e⟩
theorem ah.WF.vt{S:ah}(h:S.WF){c:Int}{i:Nat}{f:ba}(o:aw S.at_ c=some (i:Int))(v:i<S.l.length-1)(q:S.l[S.l.length-1]?=some f):((S.cut c).lay i f).WF:=by
 obtain⟨r,s⟩:=h.nd.del c;refine⟨r.put _ _,fun k j a=> ?_⟩;unfold ah.lay ah.cut at a⊢;dsimp only at a⊢;rw[aV]at a;by_cases d:k=f.h
 ·rw[if_pos d]at a
  have:(i:Int)=j:=Option.some.inj a;subst this;exact⟨by omega,f,by rw[Int.toNat_natCast,List.getElem?_set_self (by simp;omega)],d.symm⟩
 ·rw[if_neg d]at a
  have l:k≠c:=by
   intro e;subst e;rw[s]at a;cases a
  rw[gn _ _ _ l]at a;obtain⟨n,x,b,g⟩:=h.at_ k j a;have w:=(List.getElem?_eq_some_iff.1 b).1;have u:j.toNat≠S.l.length-1:=by
   intro e;rw[e,q]at b;exact d (by rw[<-g,<-Option.some.inj b])
  have p:j.toNat≠i:=by
   intro e;obtain⟨-,y,m,t⟩:=h.at_ c i o;rw[Int.toNat_natCast]at m;rw[e,m]at b;exact l (by rw[<-g,<-t,Option.some.inj b])
  exact⟨n,x,by rw[List.getElem?_set_ne (fun e=>p e.symm),List.getElem?_take_of_lt (by omega)];exact b,g⟩
theorem ah.WF.y9{S:ah}(h:S.WF){b:Int}{i:Nat}(m:aw S.at_ b=some (i:Int))(s:¬i<S.l.length-1):(S.cut b).WF:=by
 obtain⟨n,o⟩:=h.nd.del b;refine⟨n,fun k j a=> ?_⟩;unfold ah.cut at a⊢;dsimp only at a⊢;have g:k≠b:=by
  intro e;subst e;rw[o]at a;cases a
 rw[gn _ _ _ g]at a;obtain⟨l,x,c,f⟩:=h.at_ k j a;have t:=(List.getElem?_eq_some_iff.1 c).1;obtain⟨-,y,d,p⟩:=h.at_ b i m;rw[Int.toNat_natCast]at d;have q:=(List.getElem?_eq_some_iff.1 d).1;have r:j.toNat≠i:=by
  intro e;rw[e,d]at c;exact g (by rw[<-f,<-p,Option.some.inj c])
 exact⟨l,x,by rw[List.getElem?_take_of_lt (by omega)];exact c,f⟩
theorem ah.WF.j9{S:ah}(h:S.WF)(a:Int):S.j9 a:=by
 intro i d;obtain⟨c,x,e,p⟩:=h.at_ a i d;obtain⟨n,rfl⟩:=Int.eq_ofNat_of_zero_le c;rw[Int.toNat_natCast]at e⊢;refine⟨c,(List.getElem?_eq_some_iff.1 e).1,fun k b g=> ?_⟩;have l:=(h.vt d k g).up (i:=n) (by rw[ah.b9];unfold ah.cut;simp;omega);cases f:aw (((S.cut a).lay n b).up n).at_ b.h with
 |none=>exact⟨by simp,by simp;omega⟩
 |some j=>
  obtain⟨o,y,m,_⟩:=l.at_ b.h j f;have:=(List.getElem?_eq_some_iff.1 m).1;rw[ah.nu,ah.b9]at this;unfold ah.cut at this;exact⟨by simpa using o,by simp at this⊢;omega⟩
theorem ah.WF.drop{S:ah}(h:S.WF)(b:Int):(S.drop b).2.2.WF:=by
 unfold ah.drop;cases d:aw S.at_ b with
 |none=>exact h
 |some i=>
  obtain⟨k,f,g⟩:=h.j9 b i d;obtain⟨n,rfl⟩:=Int.eq_ofNat_of_zero_le k;simp only[Int.toNat_natCast]at f g⊢;obtain⟨t,j⟩:∃t,S.l[n]?=some t:=⟨_,List.getElem?_eq_getElem f⟩;obtain⟨c,e⟩:∃c,S.l[S.l.length-1]?=some c:=⟨_,List.getElem?_eq_getElem (by omega)⟩;rw[j,e];dsimp only;by_cases a:n<S.l.length-1
  ·rw[if_pos a]
   obtain⟨_,k2⟩:=g a c e;have hlen:(((S.cut b).lay n c).up n).l.length=S.l.length-1:=(by rw[ah.nu,ah.b9];unfold ah.cut;simp);exact((h.vt d a e).up (by rw[ah.b9];unfold ah.cut;simp;omega)).down (by rw[hlen];exact k2)
  ·rw[if_neg a];exact h.y9 d a
theorem ah.WF.pop{S:ah}(h:S.WF)(now:Int):(S.pop now).2.2.WF:=by
 unfold ah.pop;split
 ·exact h
 ·split
  ·exact h
  ·exact h.drop _
theorem ah.DR:ah.new.WF:=⟨by unfold gp ah.new;simp,fun k j a=>by cases a⟩
end
structure aO where
 now:Int
 heap:ah
 fm:List (Int×Int×Int)
def g7(x:Int×Int):Value:=.agg #[.int .i64 x.1,.int .u64 x.2]
structure aZ(w:World)(b hb mb qb:Nat)(v:Value)(S:aO):Prop where
 head:Row w b 207 [.int .u64 S.now,(hb,0),.map (some qb)]
 heap:aN w hb mb v S.heap
 fm:bR w qb .u64 g7 S.fm
 ne:qb≠mb
def e9(b hb mb qb:Nat)(v:Value):Nat->Prop:=fun i=>i=b∨i=qb∨cy hb mb v i
theorem aZ.alloc{w:World}{b hb mb qb:Nat}{v:Value}{S:aO}(h:aZ w b hb mb qb v S)(a:Obj):aZ (w.alloc a) b hb mb qb v S:=⟨h.head.alloc a,h.heap.alloc a,h.fm.alloc a,h.ne⟩
theorem aZ.drew{w:World}{b hb mb qb:Nat}{v:Value}{S:aO}(h:aZ w b hb mb qb v S):aZ w.drew b hb mb qb v S:=⟨h.head,h.heap.drew,h.fm,h.ne⟩
theorem aZ.ch{w w':World}{D:Nat->Prop}{b hb mb qb:Nat}{v:Value}{S:aO}(h:aZ w b hb mb qb v S)(c:Ch D w w')(a:¬D b)(d:¬D hb)(e:¬D mb)(f:¬D qb)(i:∀g,v.ownBlock=some g->¬D g):aZ w' b hb mb qb v S:=
 ⟨h.head.ch c a,h.heap.ch c d e i,h.fm.ch c f,h.ne⟩
theorem aZ.vu{w:World}{b hb mb qb:Nat}{v:Value}{S:aO}(h:aZ w b hb mb qb v S):¬cy hb mb v b/\¬cy hb mb v qb:=by
 refine⟨?_,?_⟩
 ·rintro(a|a|a)
  ·exact h.head.ne h.heap.head (by decide) a
  ·exact h.heap.map.ne h.head a.symm
  ·exact aU h.heap.own h.head (by decide) a
 ·rintro(a|a|a)
  ·exact h.fm.ne h.heap.head a
  ·exact h.ne a
  ·exact iw h.heap.own h.fm a
theorem qi(b hb mb qb:Nat)(v:Value)(S:aO)(w:World)(h:aZ w b hb mb qb v S):Calls prog 63 #[(b,0)] w (eg (.int .u64 S.now) w):=by
 have a:=h.head.c1;clear h;go_wp2
 go_ret;exact eg.mk rfl
theorem qj:∀w,(zeroValue 258).run prog w=.ok (g7 (0,0)) w:=fun w=>by kernel_rfl
def dm(S:aO)(id:Int):Int×Bool:=match aw S.fm id with|some x=>(x.2,true)|none=>(0,false)
theorem kE(b hb mb qb:Nat)(v:Value)(S:aO)(id:Int)(w:World)(h:aZ w b hb mb qb v S):
 Calls prog 78 #[(b,0),.int .u64 id] w (dc (.tuple #[.int .u64 (dm S id).1,.bool (dm S id).2]) w):=by
 have e:=h.head.k 2 rfl;have a:=gg (P:=prog) (T:=205) (K:=56) (E:=258) underlying205 underlying56 (qj w) h.fm id;obtain⟨r,c⟩:=nm (aw S.fm id);rw[c]at a;have d:=Z c;clear h c;cases r with
 |none=>
  have E:Hid (dm S id=(0,false)):=Z (by unfold dm;rw[d]);simp only[Option.map_none,Option.getD_none,Option.isSome_none,g7]at a;go_wp2
  go_ret2;rw[E];exact⟨rfl,(Ch.refl _ _).alloc _⟩
 |some x=>
  have E:Hid (dm S id=(x.2,true)):=Z (by unfold dm;rw[d]);simp only[Option.map_some,Option.getD_some,Option.isSome_some,g7]at a;go_wp2
  go_ret2;rw[E];exact⟨rfl,(Ch.refl _ _).alloc _⟩
def aO.bp(S:aO)(id:Int):Bool×aO:=
 match aw S.fm id with
 |none=>(false,S)
 |some x=>(true,{S with heap:=(S.heap.drop x.1).2.2,fm:=ft S.fm id})
def y'(x:Bool×aO)(b hb mb qb:Nat)(v:Value)(w:World)(e:Ending)(w':World):Prop:=e=.returned (.bool x.1)/\(∃a,aZ w' b hb mb qb a x.2/\aT w v a)/\Ch (e9 b hb mb qb v) w w'
theorem aZ.drop{w w':World}{b hb mb qb:Nat}{v d:Value}{S:aO}{c:ah}(h:aZ w b hb mb qb v S)(e:aN w' hb mb d c)(a:Ch (cy hb mb v) w w'):aZ w' b hb mb qb d {S with heap:=c}/\Ch (e9 b hb mb qb v) w w':=
 ⟨⟨h.head.ch a h.vu.1,e,h.fm.ch a h.vu.2,h.ne⟩,a.mono fun i f=>Or.inr (Or.inr f)⟩
theorem aZ.del{w w':World}{b hb mb qb:Nat}{v:Value}{S:aO}{l:List (Int×Int×Int)}(h:aZ w b hb mb qb v S)(d:bR w' qb .u64 g7 l)(a:Ch (aL qb) w w'):aZ w' b hb mb qb v {S with fm:=l}:=
 ⟨h.head.ch a (fun e=>h.fm.ne h.head (show _=_ from Eq.symm e)),h.heap.ch a (fun e=>h.fm.ne h.heap.head (show _=_ from Eq.symm e)) (fun e=>h.ne (show _=_ from Eq.symm e)) (fun g c e=>iw h.heap.own h.fm (by rw[c];exact congrArg some e)),d,h.ne⟩
theorem mN(b hb mb qb:Nat)(v:Value)(S:aO)(id:Int)(A:S.heap.l.length<=900000)(C:S.heap.WF)(w:World)(h:aZ w b hb mb qb v S):
 Calls prog 200 #[(b,0),.int .u64 id] w (y' (S.bp id) b hb mb qb v w):=by
 have H:=Z h;have g:=h.head.k 1 rfl;have z:=h.head.k 2 rfl;have d:=gg (P:=prog) (T:=205) (K:=56) (E:=258) underlying205 underlying56 (qj w) h.fm id;obtain⟨r,k⟩:=nm (aw S.fm id);rw[k]at d;have m:=Z k;clear h k;cases r with
 |none=>
  have E:Hid (S.bp id=(false,S)):=Z (by unfold aO.bp;rw[m]);simp only[Option.map_none,Option.getD_none,Option.isSome_none,g7]at d;go_wp2
  go_ret;rw[E];exact⟨rfl,⟨v,H.alloc _,aT.refl _ _⟩,(Ch.refl _ _).alloc _⟩
 |some x=>
  have E:Hid (S.bp id=(true,{S with heap:=(S.heap.drop x.1).2.2,fm:=ft S.fm id})):=Z (by unfold aO.bp;rw[m]);simp only[Option.map_some,Option.getD_some,Option.isSome_some,g7]at d;have u:=Z (fun w h=>kC hb mb v S.heap x.1 A (C.j9 x.1) w h);go_wp2
  obtain⟨w1,f⟩:=nm (w.alloc (.cells #[.int .i64 x.1,.int .u64 x.2] 258));have a:Hid (aZ w1 b hb mb qb v S/\Ch (e9 b hb mb qb v) w w1):=Z (by rw[<-f];exact⟨H.alloc _,(Ch.refl _ _).alloc _⟩);have t0:w1.cell? ⟨w.heap.size,0,none⟩=some (.int .i64 x.1):=by rw[<-f];simp
  rw[f];clear f g z d;obtain⟨tb,q⟩:=mn w.heap.size;rw[<-q]at t0⊢;clear q;have g:=a.1.head.k 1 rfl;go_still_tail 6,(by kernel_rfl)
  change wpList _ _ _ _ _ w1.drew;go_wp2_with fail
  refine(u _ a.1.heap.drew).mono ?_;rintro e w2 ⟨rfl,⟨t,p,s⟩,o⟩;have c:=Z (a.1.drew.drop p o);have y:=Z s;clear p o g t0 s;have d2:=c.1.head.k 2 rfl;obtain⟨w3,D,n,j⟩:=fw (P:=prog) (T:=205) (K:=56) (E:=258) (ty:=0) (kT:=56) underlying205 underlying56 c.1.fm id;have l:Hid (aZ w3 b hb mb qb t {S with heap:=(S.heap.drop x.1).2.2,fm:=ft S.fm id}/\Ch (e9 b hb mb qb v) w w3):=Z ⟨c.1.del n j,(a.2.drew.trans c.2).trans (j.mono fun i B=>Or.inr (Or.inl B))⟩;clear n j;go_wp2
  go_ret;rw[E];exact⟨rfl,⟨t,l.1,aT.of_eq y⟩,l.2⟩
section
attribute [local go_sem↓] Go.wp_at_zero Go.wp_at_succ
def aO.arm(S:aO)(id dl:Int):Bool×aO:=
 if id==0 then(false,S)else
 match aw S.fm id with
 |some _=>(false,S)
 |none=>if dl !=18446744073709551615 then(true,{S with heap:=(S.heap.put dl id).2,fm:=b8 S.fm id ((S.heap.put dl id).1,dl)})else(true,S)
def DS(x:Bool×aO)(b hb mb qb:Nat)(v:Value)(w:World)(e:Ending)(w':World):Prop:=(∃u,e=.returned u/\(if x.1 then u=.nilIface else ar u))/\(∃a,aZ w' b hb mb qb a x.2/\aT w v a)/\Ch (e9 b hb mb qb v) w w'
theorem qk(b hb mb qb:Nat)(v:Value)(S:aO)(id dl:Int)(F:S.heap.l.length<=900000)(w:World)(h:aZ w b hb mb qb v S):
 Calls prog 187 #[(b,0),.int .u64 id,.int .u64 dl] w (DS (S.arm id dl) b hb mb qb v w):=by
 have H:=Z h;have k:=h.head.k 1 rfl;have l:=h.head.k 2 rfl;have d:=gg (P:=prog) (T:=205) (K:=56) (E:=258) underlying205 underlying56 (qj w) h.fm id;cases s:id==0
 ·obtain⟨r,n⟩:=nm (aw S.fm id)
  rw[n]at d;have j:=Z n;have g:=Z s;clear h n;cases r with
  |some x=>
   have E:Hid (S.arm id dl=(false,S)):=Z (by unfold aO.arm;rw[g,j];rfl);simp only[Option.map_some,Option.getD_some,Option.isSome_some,g7]at d;go_wp2
   go_ret;rw[E];exact⟨⟨_,rfl,ar.mk _ _⟩,⟨v,(H.alloc _).alloc _,aT.refl _ _⟩,((Ch.refl _ _).alloc _).alloc _⟩
  |none=>
   simp only[Option.map_none,Option.getD_none,Option.isSome_none,g7]at d;cases z:dl !=18446744073709551615
   ·have E:Hid (S.arm id dl=(true,S)):=Z (by unfold aO.arm;rw[g,j,z];rfl)
    go_wp2
    go_ret;rw[E];exact⟨⟨_,rfl,rfl⟩,⟨v,H.alloc _,aT.refl _ _⟩,(Ch.refl _ _).alloc _⟩
   ·obtain⟨y,p⟩:=nm (S.heap.put dl id)
    have E:Hid (S.arm id dl=(true,{S with heap:=y.2,fm:=b8 S.fm id (y.1,dl)})):=Z (by unfold aO.arm;rw[g,j,z,p];rfl);have C:Hid (∀w,aN w hb mb v S.heap->Calls prog 208 #[(hb,0),.int .u64 dl,.int .u64 id] w (vs y hb mb v w)):=Z (fun w h=>p▸rB hb mb v S.heap dl id F w h);clear p;go_wp2
    obtain⟨w1,o⟩:=nm (w.alloc (.cells #[.int .i64 0,.int .u64 0] 258));have a:Hid (aZ w1 b hb mb qb v S/\Ch (e9 b hb mb qb v) w w1):=Z (by rw[<-o];exact⟨H.alloc _,(Ch.refl _ _).alloc _⟩);rw[o];clear o k l d;have k:=a.1.head.k 1 rfl;have l:=a.1.head.k 2 rfl;go_region_held3 (fun w'=>w'.cell? (b,1)=some (.pointer (some (hb,0)))/\w'.cell? (b,2)=some (.map (some qb))) (go_keep) ((go_at_call 208;refine(C _ a.1.heap.drew).mono ?_;rintro e w2 ⟨rfl,⟨q,A,B⟩,u⟩;have c:=Z (a.1.drew.drop A u);have D:Hid (aT w v q):=Z ((aT.refl w v).trans a.2.size B);clear A u k l B;have d1:=c.1.head.k 1 rfl;have d2:=c.1.head.k 2 rfl;obtain⟨w3,I,t,m⟩:=fv (P:=prog) (T:=205) (K:=56) (E:=258) (enc:=g7) underlying205 underlying56 c.1.fm id (y.1,dl);have f:=Z (⟨c.1.del t m,(a.2.drew.trans c.2).trans (m.mono fun i G=>Or.inr (Or.inl G))⟩:aZ w3 b hb mb qb q {S with heap:=y.2,fm:=b8 S.fm id (y.1,dl)}/\Ch (e9 b hb mb qb v) w w3);have d3:=f.1.head.k 1 rfl;have d4:=f.1.head.k 2 rfl;clear t m;simp only[g7]at I))
    all_goals
     go_wp2
     go_ret;rw[E];exact⟨⟨_,rfl,rfl⟩,⟨q,f.1,D⟩,f.2⟩
 ·have E:Hid (S.arm id dl=(false,S)):=Z (by unfold aO.arm;rw[s];rfl)
  clear h d;go_wp2
  go_ret;rw[E];exact⟨⟨_,rfl,ar.mk _ _⟩,⟨v,H.alloc _,aT.refl _ _⟩,(Ch.refl _ _).alloc _⟩
def aO.new:aO:=⟨0,ah.new,[]⟩
theorem qn(w:World):Calls prog 52 #[] w (fun e w'=>∃b hb mb qb,e=.returned (.pointer (some ⟨b,0,none⟩))/\aZ w' b hb mb qb (.slice none 0 0) aO.new/\w.heap.size<=b/\w.heap.size<=hb/\w.heap.size<=mb/\w.heap.size<=qb/\Ch ag w w'):=by
 have k:= @run_makeMap prog;go_in
 go_wp2_with fail
 refine(rE _).mono ?_;rintro e w1 ⟨hb,mb,rfl,c,g,h,a⟩;have f:=Z c;have d:=Z a;have i:=a.size;have j:=c.map.lt;clear c a;go_wp2
 go_ret;refine⟨w1.heap.size+1,hb,mb,w1.heap.size,rfl,⟨?_,(f.alloc _).alloc _,⟨#[],0,?_,rfl⟩,by omega⟩,by omega,g,h,i,(d.alloc _).alloc _⟩
 ·have:=Row.new (w1.alloc (.map #[] 0)) #[.int .u64 0,.pointer (some ⟨hb,0,none⟩),.map (some w1.heap.size)] 207
  rw[World.size_alloc]at this;exact this
 ·rw[Below.heap_alloc _ _ _ (by simp)];exact heap_alloc_new w1 _
end
section
attribute [local go_sem↓] Go.wp_at_zero Go.wp_at_succ
theorem ny:∀(f:Nat) (S:ah) (i:Nat) (t:ba),(bO f S i t).1.l.length=S.l.length
 |0,_,_,_=>rfl
 |f+1,S,i,t=>by
  unfold bO;split
  ·rfl
  ·split
   ·rfl
   ·split
    ·rw[ny,ah.b9]
    ·rfl
theorem ah.za(S:ah)(i:Nat):(S.down i).l.length=S.l.length:=by
 unfold ah.down;split
 ·rfl
 ·rw[ah.b9,ny]
theorem ah.vv(S:ah)(h:Int):(S.cut h).l.length=S.l.length-1:=by unfold ah.cut;simp
theorem ah.BD(S:ah)(h:Int):((S.drop h).2.1=false/\(S.drop h).2.2=S/\(S.drop h).1=0)∨((S.drop h).2.1=true/\0<S.l.length/\(S.drop h).2.2.l.length=S.l.length-1):=by
 unfold ah.drop;split
 ·exact Or.inl ⟨rfl,rfl,rfl⟩
 ·split
  ·rename_i t d a c
   have b:=(List.getElem?_eq_some_iff.1 a).1;split
   ·exact Or.inr ⟨rfl,by omega,by rw[ah.za,ah.nu,ah.b9,ah.vv]⟩
   ·exact Or.inr ⟨rfl,by omega,by rw[ah.vv]⟩
  ·exact Or.inl ⟨rfl,rfl,rfl⟩
theorem ah.DT(S:ah)(now:Int):((S.pop now).2.1=false/\(S.pop now).2.2=S/\(S.pop now).1=0)∨((S.pop now).2.1=true/\0<S.l.length/\(S.pop now).2.2.l.length=S.l.length-1):=by
 unfold ah.pop;split
 ·exact Or.inl ⟨rfl,rfl,rfl⟩
 ·split
  ·exact Or.inl ⟨rfl,rfl,rfl⟩
  ·exact ah.BD _ _
def ei:Nat->aO->List Int->aO×List Int
 |0,S,acc=>(S,acc)
 |f+1,S,acc=>
  if(S.heap.pop S.now).2.1 then ei f {S with heap:=(S.heap.pop S.now).2.2,fm:=ft S.fm (S.heap.pop S.now).1} (acc++[(S.heap.pop S.now).1])else(S,acc)
def aO.tick(S:aO):aO×List Int:=
 ei (S.heap.l.length+1) {S with now:=IntKind.u64.wrap (S.now+1)} []
def BE(x:aO×List Int)(b hb mb qb:Nat)(v:Value)(w:World)(e:Ending)(w':World):Prop:=
 (∃u,e=.returned u/\w'.ownsRow w.heap.size 56 1 u x.2.length (x.2.map (Value.int .u64)))/\(∃a,aZ w' b hb mb qb a x.1/\aT w v a)/\Ch (e9 b hb mb qb v) w w'
theorem wK{w:World}{b hb mb qb:Nat}{v d:Value}(h:aT w v d):∀i,i<w.heap.size->e9 b hb mb qb d i->e9 b hb mb qb v i:=fun i f e=>by
 rcases e with a|a|a|a|a
 ·exact Or.inl a
 ·exact Or.inr (Or.inl a)
 ·exact Or.inr (Or.inr (Or.inl a))
 ·exact Or.inr (Or.inr (Or.inr (Or.inl a)))
 ·rcases h i a with c|c
  ·exact Or.inr (Or.inr (Or.inr (Or.inr c)))
  ·omega
theorem ix:(prog.info? 56).map (fun i=>(i.zero,i.size,i.bytes))=some (some (.int .u64 0),1,8):=by kernel_rfl
theorem aZ.time{w:World}{b hb mb qb:Nat}{v:Value}{S:aO}(h:aZ w b hb mb qb v S)(n:Int):aZ (w.setCell (b,0) (.int .u64 n)) b hb mb qb v {S with now:=n}/\Ch (e9 b hb mb qb v) w (w.setCell (b,0) (.int .u64 n)):=by
 have a:Ch (aL b) w (w.setCell (b,0) (.int .u64 n)):=(Ch.refl _ _).only 0 _;refine⟨⟨h.head.bc _ _ rfl,h.heap.ch a (fun e=>h.head.ne h.heap.head (by decide) (show _=_ from Eq.symm e)) (fun e=>h.heap.map.ne h.head e) (fun g c e=>aU h.heap.own h.head (by decide) (by rw[c];exact congrArg some e)),h.fm.ch a (fun e=>h.fm.ne h.head e),h.ne⟩,a.mono fun i d=>Or.inl d⟩
theorem iy{w:World}{B f:Nat}{e a:TypeId}{s o:Nat}{v d:Value}{n m:Nat}{p q:List Value}(h:w.ownsRow B e s v n p)(i:w.ownsRow f a o d m q)(j:e≠a){k:Nat}(b:v.ownBlock=some k):d.ownBlock≠some k:=by
 rcases h.2 with⟨rfl,_⟩|⟨g,cap,cur,rfl,_,l,_⟩
 ·cases b
 ·have:g=k:=by simpa[Value.ownBlock]using b
  subst this;exact aU (c:=cur.toList) i (by unfold Row;simpa using l) j
theorem aN.DU{w:World}{b mb:Nat}{v:Value}{S:ah}(h:aN w b mb v S){B:Nat}{e:TypeId}{s:Nat}{u:Value}{n:Nat}{i:List Value}(d:w.ownsRow B e s u n i)(f:268≠e)(g:e≠318):∀k,u.ownBlock=some k->¬cy b mb v k:=by
 rintro k c (a|a|a)
 ·exact aU d h.head f (c.trans (congrArg some a))
 ·exact iw d h.map (c.trans (congrArg some a))
 ·exact iy d h.own g c a
theorem aZ.grown{w w':World}{b hb mb qb:Nat}{v:Value}{S:aO}(h:aZ w b hb mb qb v S){B:Nat}{u:Value}{n:Nat}{f:List Value}(a:w.ownsRow B 56 1 u n f)(c:w.grownBy w' u.ownBlock):aZ w' b hb mb qb v S:=
 h.ch (Ch.bM c) (aU a h.head (by decide)) (aU a h.heap.head (by decide)) (iw a h.heap.map) (iw a h.fm) (fun g d e=>iy a h.heap.own (by decide) e d)
theorem gq{w w':World}{B:Nat}{D:Nat->Prop}{a:World}{e:TypeId}{s:Nat}{u:Value}{n:Nat}{h:List Value}(c:Ch D a w)(f:w.ownsRow B e s u n h)(j:a.heap.size<=B)(d:w.grownBy w' u.ownBlock):Ch D a w':=
 c.join (Ch.bM d) (fun i l b=>by
  rcases f.2 with⟨rfl,_⟩|⟨g,cap,cur,rfl,k,_⟩
  ·cases b
  ·have:g=i:=by simpa[Value.ownBlock]using b
   omega)
theorem o2(b hb mb qb:Nat)(v:Value)(S:aO)(ad:S.heap.l.length<=900000)(ax:S.heap.WF)(w:World)(h:aZ w b hb mb qb v S):
 Calls prog 105 #[(b,0)] w (BE S.tick b hb mb qb v w):=by
 obtain⟨ck,am,cf,ch,ci⟩:=info_parts ix;have bx:=Z am;have C:=h.head.c1;have f0:=h.head.free 0;have H:=Z h;have c0:=Z ax;have W:=Z ad;have cA:=h.head.lt;obtain⟨n,L⟩:=mn (IntKind.u64.wrap (S.now+1));have E:Hid (S.tick=ei (S.heap.l.length+1) {S with now:=n} []):=Z (by unfold aO.tick;rw[L]);have c2:=Z L;clear h ax ad L am;go_wp2
 rw[<-c2];obtain⟨w1,Q⟩:=nm (w.setCell (b,0) (.int .u64 n));have V:Hid (aZ w1 b hb mb qb v {S with now:=n}/\Ch (e9 b hb mb qb v) w w1):=Z (by rw[<-Q];exact H.time n);rw[Q];clear Q C f0;go_loopg [3] (S.heap.l.length+1) (fun gk u wr=>∃(a:aO) (acc:List Int) (m:Value),u=u/\a.heap.l.length<gk/\a.heap.l.length+acc.length<=S.heap.l.length/\Hid (ei gk a acc=ei (S.heap.l.length+1) {S with now:=n} []/\a.heap.WF/\aZ wr b hb mb qb m a/\wr.ownsRow w.heap.size 56 1 u acc.length (acc.map (Value.int .u64))/\Ch (e9 b hb mb qb v) w wr/\aT w v m))
 case atStart=>exact⟨{S with now:=n},[],v,rfl,Nat.lt_succ_self _,by simp,rfl,c0,V.1,⟨rfl,Or.inl ⟨rfl,rfl⟩⟩,V.2,aT.refl _ _⟩
 case round=>
  obtain⟨a,acc,m,-,cC,cS,d⟩:=hrel;have l:=Z d.2.2.1;have z:=Z d.2.2.2.1;have p:=Z d.2.2.2.2.1;have a2:=Z d.2.2.2.2.2;have a1:=Z (wK (b:=b) (hb:=hb) (mb:=mb) (qb:=qb) d.2.2.2.2.2);obtain⟨q,rfl⟩:∃c4,gk=c4+1:=⟨gk-1,by omega⟩;obtain⟨y,B⟩:=nm (a.heap.pop a.now);have N:=ah.DT a.heap a.now;have R:=d.2.1.pop a.now;have a0:Hid (ei (q+1) a acc=if y.2.1 then ei q {a with heap:=y.2.2,fm:=ft a.fm y.1} (acc++[y.1])else(a,acc)):=Z (by rw[ei,B]);have X:Hid (∀w,aN w hb mb m a.heap->Calls prog 136 #[(hb,0),.int .u64 a.now] w (qh y hb mb m w)):=Z (fun w h=>B▸rD hb mb m a.heap a.now (by have:=W.out;omega) (fun t _=>d.2.1.j9 t.h) w h);rw[B]at N R;have Y:=Z N;have c1:=Z R;clear B N R;obtain⟨f,cl,o⟩:=y;obtain⟨C,c3⟩:=l.head.c2;obtain⟨cm,cq,rfl⟩:=ao z;have ab:=Z (l.heap.DU z (by decide) (by decide));cases cl
  ·have c8:o=a.heap:=by rcases Y with⟨_,F,_⟩|⟨D,_⟩;exact F;cases D
   have G:Hid (S.tick=(a,acc)):=Z (by rw[E,<-d.1,a0];rfl);subst c8;go_wp2
   go_region_held3 (fun w'=>w'.cell? (b,0)=some (.int .u64 a.now)/\w'.cell? (b,1)=some (.pointer (some (hb,0)))) (go_keep) ((go_at_call 136;refine(X _ l.heap.drew).mono ?_;rintro e w2 ⟨rfl,⟨U,s,x⟩,j⟩;have c:=Z (l.drew.drop s j);have O:=Z x;have A:=Z j;clear s j x;obtain⟨d0,d1⟩:=c.1.head.c2))
   all_goals
    go_wp2
    go_ret;rw[G];refine⟨⟨_,rfl,?_⟩,⟨U,?_,?_⟩,?_⟩
    ·exact aj z.drew A.out ab
    ·exact c.1
    ·exact a2.trans p.size (aT.of_eq O.out)
    ·exact p.drew.join c.2 a1
  ·have cQ:0<a.heap.l.length/\o.l.length=a.heap.l.length-1:=by
    rcases Y with⟨D,_⟩|⟨_,F,c5⟩
    ·cases D
    ·exact⟨F,c5⟩
   have G:Hid (ei q {a with heap:=o,fm:=ft a.fm f} (acc++[f])=ei (S.heap.l.length+1) {S with now:=n} []):=Z (by rw[<-d.1,a0];rfl);have cr:=W.out;go_wp2
   go_region_held3 (fun w'=>w'.cell? (b,0)=some (.int .u64 a.now)/\w'.cell? (b,1)=some (.pointer (some (hb,0)))) (go_keep) ((go_at_call 136;refine(X _ l.heap.drew).mono ?_;rintro e w2 ⟨rfl,⟨U,s,x⟩,j⟩;have c:=Z (l.drew.drop s j);have O:=Z x;have A:=Z j;clear s j x;obtain⟨d0,d1⟩:=c.1.head.c2))
   all_goals
    have d2:=c.1.head.k 2 rfl;obtain⟨w3,ce,a3,r⟩:=fw (P:=prog) (T:=205) (K:=56) (E:=258) (ty:=0) (kT:=56) underlying205 underlying56 c.1.fm f;have bi:=Z (c.1.del a3 r);have bw:=Z (r);have M:=aj z.drew A.out ab;have ap:=aj M r (fun k cb e=>iw M c.1.fm (cb.trans (congrArg some e)));have I:=Z ap;have cW:w.heap.size<=w3.heap.size:=(by have:=p.size;have:=A.out.size;have:=r.size;simp at*;omega);clear a3 r M ap d0 d1 C c3;go_wp2_with (at_builtin;refine wpList_append_lies _ rfl _ _ _ rfl w.heap.size 56 ck _ 1 8 underlying29 bx cf ch ci rfl (by omega) _ acc.length (acc.map (Value.int .u64)) rfl (I.alloc _) ⟨w3.heap.size,0,none⟩ 1 1 [.int .u64 f] rfl rfl (World.news_of_block (cs:=#[.int .u64 f]) (t:=56) (fr:=(0,0)) (heap_alloc_new w3 _)) (by simp[Value.oneCell']) (by omega) (by unfold maxLen;omega) (by omega) (by simp;omega) (w3.heap.size+1) (by simp) ?_)
    intro g cap w4 av al c9 cd;have J:=au al;have bv:=Z (bi.grown I J);have c7:=Z av;have c6:=Z (gq ((p.drew.join c.2 a1).join bw (fun i cL e=>Or.inr (Or.inl e))) I (Nat.le_refl _) J);clear al J av c9 cd d2 ce;go_wp2
    go_roundg q
    case measure=>omega
    case rel=>
     refine⟨{a with heap:=o,fm:=ft a.fm f},acc++[f],U,by trivial,?_,?_,G,c1,bv,?_,c6,?_⟩
     ·show o.l.length<q
      omega
     ·show o.l.length+(acc++[f]).length<=_
      rw[List.length_append,List.length_cons,List.length_nil];omega
     ·rw[List.length_append,List.length_cons,List.length_nil,List.map_append]
      exact c7
     ·exact a2.trans p.size (aT.of_eq O.out)
end
structure iz where
 at_:Nat
 n:Nat
 w:Int
 deriving DecidableEq,Repr,Inhabited
def iz.cells(b:iz):List Value:=[.int .i64 b.at_,.int .i64 b.n,.int .i64 b.w]
theorem iz.len(b:iz):b.cells.length=3:=rfl
structure a6 where
 from_:Nat
 yQ:Nat
 l:List iz
structure aW(w:World)(b m:Nat)(v:Value)(S:a6):Prop where
 head:Row w b 271 [(m,0),.int .i64 S.from_,.int .i64 S.yQ,v]
 own:w.ownsRow 0 274 3 v S.l.length (S.l.flatMap iz.cells)
def dE(b:Nat)(v:Value):Nat->Prop:=fun i=>i=b∨v.ownBlock=some i
theorem aW.alloc{w:World}{b m:Nat}{v:Value}{S:a6}(h:aW w b m v S)(a:Obj):aW (w.alloc a) b m v S:=⟨h.head.alloc a,h.own.alloc a⟩
theorem aW.drew{w:World}{b m:Nat}{v:Value}{S:a6}(h:aW w b m v S):aW w.drew b m v S:=⟨h.head,h.own.drew⟩
theorem aW.drewN{w:World}{b m:Nat}{v:Value}{S:a6}(h:aW w b m v S)(n:Nat):aW (w.drewN n) b m v S:=⟨h.head,⟨h.own.1,h.own.2⟩⟩
theorem aW.ch{w w':World}{D:Nat->Prop}{b m:Nat}{v:Value}{S:a6}(h:aW w b m v S)(c:Ch D w w')(hb:¬D b)(a:∀g,v.ownBlock=some g->¬D g):aW w' b m v S:=⟨h.head.ch c hb,aj h.own c a⟩
theorem aF{w:World}{B:Nat}{e:TypeId}{s:Nat}{v:Value}{n:Nat}{a:List Value}(h:w.ownsRow B e s v n a)(m:0<n):∃g cap c,v=.slice (some ⟨g,0,none⟩) n cap/\B<=g/\n<=cap/\cap<=maxLen/\Row w g e (a++c)/\(a++c).length=cap*s:=by
 rcases h.2 with⟨_,l⟩|⟨g,cap,cur,rfl,d,i,f,j,k,b⟩
 ·omega
 ·refine⟨g,cap,cur.toList.drop (n*s),rfl,d,f,j,?_,?_⟩
  ·unfold Row;rw[<-b,List.take_append_drop];simpa using i
  ·rw[<-b,List.take_append_drop];simpa using k
theorem kF{α:Type}{enc:α->List Value}{w:World}{B:Nat}{e:TypeId}{s g n cap:Nat}{l:List α}(h:w.ownsRow B e s (.slice (some (g,0)) n cap) n (l.flatMap enc))(c:∀x,(enc x).length=s)(E:n=l.length){i:Nat}{x:α}(d:l[i]?=some x):
 (∀j v,j<s->(enc x)[j]?=some v->w.cell? ⟨g,i*s+j,none⟩=some v)/\g<w.heap.size/\(∀j,w.frozen? ⟨g,j,none⟩=false):=by
 have A:=(List.getElem?_eq_some_iff.1 d).1;obtain⟨r,q,F,k,y,z,D,b,C⟩:=aF h (by omega);injection k with a t u
 injection a with a
 injection a with a
 subst a;have f:=a4 c l;refine⟨fun j v m p=>b.cell ?_,b.lt,fun j=>b.free j⟩;have o:i*s+j<l.length*s:=by
  calc i*s+j<i*s+s:=by omega
   _=(i+1)*s:=by rw[Nat.succ_mul]
   _<=l.length*s:=Nat.mul_le_mul_right _ (by omega)
 rw[List.getElem?_append_left (by rw[f];exact o)];exact(bD c d m).trans p
def a6.ej(S:a6)(i:Nat):Nat:=if i=0 then S.from_ else match S.l[i-1]? with|some x=>x.at_+x.n|none=>0
def a6.gh(S:a6)(i:Nat):Nat:=if i=S.l.length then S.yQ else match S.l[i]? with|some x=>x.at_|none=>0
structure a6.Ok(S:a6):Prop where
 from_:S.from_<=70000
 yQ:S.yQ<=70000
 l:∀x∈S.l,x.at_<=70000/\x.n<=70000
 len:S.l.length<=900000
theorem qo(b m:Nat)(v:Value)(S:a6)(a:S.Ok)(i:Nat)(q:i<=S.l.length)(w:World)(h:aW w b m v S):
 Calls prog 127 #[(b,0),.int .i64 i] w (fun e w'=>e=.returned (.int .i64 (S.ej i))/\∃k,w'=w.drewN k):=by
 by_cases n:i=0
 ·subst n
  have E:Hid (S.ej 0=S.from_):=Z (by unfold a6.ej;rw[if_pos rfl]);have r:=h.head.k 1 rfl;clear h;go_wp2
  go_ret;rw[E];exact⟨rfl,0,rfl⟩
 ·obtain⟨p,rfl⟩:∃p,i=p+1:=⟨i-1,by omega⟩
  obtain⟨x,c⟩:∃x,S.l[p]?=some x:=⟨_,List.getElem?_eq_getElem (by omega)⟩;have E:Hid (S.ej (p+1)=x.at_+x.n):=Z (by unfold a6.ej;rw[if_neg (by omega),Nat.add_sub_cancel,c]);have G:=a.l x (List.mem_of_getElem? c);obtain⟨g,cap,H,rfl,y,o,C,-,-⟩:=aF h.own (by omega);obtain⟨d,B,A⟩:=kF h.own iz.len rfl c;have I:w.cell? ⟨g,p*3,none⟩=some (.int .i64 x.at_):=d 0 _ (by omega) rfl;have J:w.cell? ⟨g,p*3+1,none⟩=some (.int .i64 x.n):=d 1 _ (by omega) rfl;have l:=h.head.k 3 rfl;obtain⟨N,f⟩:=mn S.l.length;rw[<-f]at l q o;have j:((p+1:Nat):Int)=(p:Int)+1:=by omega
  have z:((p:Int)+1==0)=false:=by rw[beq_eq_false_iff_ne];omega
  have s:IntKind.i64.wrap ((p:Int)+1-1)=(p:Int):=by rw[show(p:Int)+1-1=p from by omega];exact IntWalk.i64_in _ (by have:=a.len;omega)
  have u:IntKind.i64.wrap (p:Int)=(p:Int):=IntWalk.i64_in _ (by have:=a.len;omega);have t:IntKind.i64.wrap ((x.at_:Int)+x.n)=((x.at_:Int)+x.n):=IntWalk.i64_in _ (by omega);have F:(p:Int)<N:=by omega
  have D:(0:Int)<=p:=by omega
  rw[j];clear h c d f j a;go_wp2
  go_quiet (fail)
  go_wp2
  go_ret;rw[E];exact⟨rfl,_,rfl⟩
theorem nz(b m:Nat)(v:Value)(S:a6)(j:S.Ok)(i:Nat)(n:i<=S.l.length)(w:World)(h:aW w b m v S):
 Calls prog 128 #[(b,0),.int .i64 i] w (eg (.int .i64 (S.gh i)) w):=by
 obtain⟨o,q,d⟩:=ao h.own;have p:=h.head.k 2 rfl;have k:=h.head.k 3 rfl;obtain⟨N,a⟩:=mn S.l.length;by_cases c:i=S.l.length
 ·have E:Hid (S.gh i=S.yQ):=Z (by unfold a6.gh;rw[if_pos c])
  rw[<-a]at c d;subst c;subst d;clear h a;go_wp2
  go_ret;exact eg.mk (by rw[E];rfl)
 ·obtain⟨x,e⟩:∃x,S.l[i]?=some x:=⟨_,List.getElem?_eq_getElem (by omega)⟩
  have E:Hid (S.gh i=x.at_):=Z (by unfold a6.gh;rw[if_neg c,e]);obtain⟨g,cap,A,rfl,r,l,z,-,-⟩:=aF h.own (by omega);obtain⟨f,y,t⟩:=kF h.own iz.len rfl e;have B:w.cell? (g,i*3)=some (.int .i64 x.at_):=f 0 _ (by omega) rfl;rw[<-a]at k n c l;have hlen:=j.len;rw[<-a]at hlen;have s:((i:Int)==(N:Int))=false:=by rw[beq_eq_false_iff_ne];omega
  have u:(i:Int)<N:=by omega
  clear h e f a d j;go_wp2
  go_ret;exact eg.mk (by rw[E];rfl)
section
attribute [local go_sem↓] Go.wp_at_zero Go.wp_at_succ
theorem nA{P:Program}(w:World)(f y ty elem:TypeId)(size g b c k:Nat)(a:Addr)(e x:Nat)(cur:Array Value)(t:TypeId)(cs:List Value)
 (u:P.underlying f=some (.slice elem)) (h:(P.info? elem).map (·.size)=some size)
 (n:w.heap[g]?=some (.cells cur t (0,0))) (q:cs.length=Nat.min e c*size)
 (r:∀j v,cs[j]?=some v->w.cell? (a.add j)=some v) (m:b+cs.length<=cur.size) (l:∀v∈cs,v.oneCell'=true):
 (Builtin.copy_ #[f,y] ty #[.slice (some (g,b)) c k,.slice (some a) e x]).run P w=
  .ok (goInt (Nat.min e c)) (w.setRow g (cur.toList.take b++cs++cur.toList.drop (b+cs.length)).toArray):=by
 have p:=run_loadCells_list (P:=P) w a cs r;have s:=run_storeCells_at P g b t cs 0 cur w n (by simpa using m) l;cases d:P.info? elem with
 |none=>simp[d]at h
 |some i=>
  have o:i.size=size:=by simpa[d]using h
  simp[Builtin.copy_,run_underlying u,Builtin.lenOf,Builtin.firstCells,sizeOf,typeInfo,d,o,<-q,p,s]
theorem po(w:World)(g:Nat)(cs:Array Value):Ch (aL g) w (w.setRow g cs):=
 ⟨rfl,rfl,rfl,by simp[World.setRow],fun k b a=>setRow_other w g k cs (fun e=>a e)⟩
theorem lH{α:Type}{enc:α->List Value}{k:Nat}(a:∀x,(enc x).length=k):∀(l:List α) (n:Nat),(l.flatMap enc).drop (n*k)=(l.drop n).flatMap enc
 |[],n=>by simp
 |x::l,0=>by simp
 |x::l,n+1=>by
  rw[List.flatMap_cons,List.drop_succ_cons,Nat.succ_mul,List.drop_append,a,show n*k+k-k=n*k from by omega,lH a l n,List.drop_of_length_le (by rw[a];omega),List.nil_append]
theorem wL{α:Type}{enc:α->List Value}{P:Program}{w:World}{B g cap s:Nat}{e T ty:TypeId}{l:List α}{z:α}{i dC sC:Nat}(G:P.underlying T=some (.slice e))(F:(P.info? e).map (·.size)=some s)
 (a:∀x,(enc x).length=s) (q:∀x,∀v∈enc x,v.oneCell'=true) (M:i<l.length) (h:w.ownsRow B e s (.slice (some (g,0)) (l.length+1) cap) (l.length+1) ((l++[z]).flatMap enc)):
 ∃w',(Builtin.copy_ #[T,T] ty #[.slice (some (g,(i+1)*s)) (l.length-i) dC,.slice (some (g,i*s)) (l.length+1-i) sC]).run P w=.ok (goInt ((l.length-i:Nat):Int)) w'/\
  w'.ownsRow B e s (.slice (some (g,0)) (l.length+1) cap) (l.length+1) ((l.take (i+1)++l.drop i).flatMap enc)/\Ch (aL g) w w':=by
 obtain⟨L,K,b,A,r,y,E,n,C⟩:=aF h (by omega);injection A with f O J
 injection f with f
 injection f with f
 subst f J;have d:((l++[z]).flatMap enc).length=(l.length+1)*s:=by rw[a4 a];simp
 have c:=a4 a (l.drop i);rw[List.length_drop]at c;have o:Nat.min (l.length+1-i) (l.length-i)=l.length-i:=Nat.min_eq_right (by omega);have p:=nA (P:=P) w T T ty e s g ((i+1)*s) (l.length-i) dC ⟨g,i*s,none⟩ (l.length+1-i) sC ((l++[z]).flatMap enc++b).toArray e ((l.drop i).flatMap enc) G F n (by rw[o];exact c) (fun j v m=>by
  have N:j<(l.length-i)*s:=by rw[<-c];exact(List.getElem?_eq_some_iff.1 m).1
  rw[show(⟨g,i*s,none⟩:Addr).add j=⟨g,i*s+j,none⟩from by unfold Addr.add;split<;>simp_all];refine n.cell ?_;have hb:i*s+j<l.length*s:=by
   have:i*s+(l.length-i)*s=l.length*s:=(by rw[<-Nat.add_mul];congr 1;omega);omega
  rw[List.getElem?_append_left (by rw[d,Nat.succ_mul];omega),List.flatMap_append,List.getElem?_append_left (by rw[a4 a];exact hb)];rw[<-lH a,List.getElem?_drop]at m;exact m) (by
  rw[List.size_toArray,List.length_append,d,c];have:(i+1)*s+(l.length-i)*s=(l.length+1)*s:=by rw[<-Nat.add_mul];congr 1;omega
  omega) (fun v H=>by
  obtain⟨x,_,I⟩:=List.mem_flatMap.1 H;exact q x v I)
 rw[o]at p;refine⟨_,p,?_,po _ _ _⟩;have k:=setRow_heap w g _ (List.take ((i+1)*s) ((l++[z]).flatMap enc++b).toArray.toList++(l.drop i).flatMap enc++List.drop ((i+1)*s+((l.drop i).flatMap enc).length) ((l++[z]).flatMap enc++b).toArray.toList).toArray e (0,0) n;have u:List.take ((i+1)*s) ((l++[z]).flatMap enc++b)=(l.take (i+1)).flatMap enc:=by
  rw[List.take_append,jH a,d,show(i+1)*s-(l.length+1)*s=0 from by have:(i+1)*s<=(l.length+1)*s:=Nat.mul_le_mul_right _ (by omega);omega,List.take_zero,List.append_nil,List.take_append_of_le_length (by omega)]
 have t:List.drop ((i+1)*s+((l.drop i).flatMap enc).length) ((l++[z]).flatMap enc++b)=b:=by
  rw[c,show(i+1)*s+(l.length-i)*s=(l.length+1)*s from by rw[<-Nat.add_mul];congr 1;omega,<-d,List.drop_left'];rfl
 rw[List.toList_toArray]at k;rw[u,t]at k⊢;have D:(l.take (i+1)++l.drop i).length=l.length+1:=by rw[List.length_append,List.length_take,List.length_drop];omega
 have f2:=a4 a (l.take (i+1)++l.drop i);rw[D]at f2;refine⟨f2,Or.inr ⟨g,cap,_,rfl,r,k,y,E,?_,?_⟩⟩
 ·rw[List.size_toArray,<-List.flatMap_append,List.length_append,f2,<-d,<-List.length_append];exact C
 ·rw[List.toList_toArray,<-List.flatMap_append]
  exact List.take_left' f2
theorem nB{P:Program}(w:World)(d n ty elem:TypeId)(b a:Option Addr)(c g f m:Nat)(l:P.underlying d=some (.slice elem))(k:((P.info? elem).map (·.size)).isSome=true)(j:Nat.min f c=0):
 (Builtin.copy_ #[d,n] ty #[.slice b c g,.slice a f m]).run P w=.ok (goInt 0) w:=by
 cases e:P.info? elem with
 |none=>simp[e]at k
 |some i=>
  have h:∀(x:Addr),(loadCells x 0).run P w=.ok #[] w:=fun x=>by simpa using run_loadCells_list (P:=P) w x [] (by simp)
  cases b<;>cases a<;>simp[Builtin.copy_,run_underlying l,Builtin.lenOf,Builtin.firstCells,sizeOf,typeInfo,e,j,storeCells,h]
theorem hU{α:Type}{enc:α->List Value}{w:World}{B g n cap s:Nat}{e:TypeId}{l:List α}(h:w.ownsRow B e s (.slice (some (g,0)) n cap) n (l.flatMap enc))(c:∀x,(enc x).length=s){i:Nat}{x y:α}(k:l[i]?=some x)(j:Nat)(r:j<s){a:Nat}(o:a=i*s+j){v:Value}(D:(enc x).set j v=enc y)(f:n=l.length):
 (w.setCell (g,a) v).ownsRow B e s (.slice (some (g,0)) n cap) n ((l.set i y).flatMap enc):=by
 subst o;have J:=(List.getElem?_eq_some_iff.1 k).1;obtain⟨H,G,E,q,m,p,z,A,t⟩:=aF h (by omega);injection q with b K F
 injection b with b
 injection b with b
 subst b F;have d:=a4 c l;have f2:=a4 c (l.set i y);rw[List.length_set]at f2;have u:i*s+j<l.length*s:=by
  have I:i*s+s<=l.length*s:=by rw[<-Nat.succ_mul];exact Nat.mul_le_mul_right _ (by omega)
  omega
 have C:=A.bc (i*s+j) v (l':=(l.set i y).flatMap enc++E) (by
  rw[List.set_append_left _ _ (by rw[d];exact u),fp c k r D])
 refine⟨by rw[f2,f],Or.inr ⟨g,cap,_,rfl,m,C,p,z,?_,?_⟩⟩
 ·rw[List.size_toArray,List.length_append,f2,<-d,<-List.length_append];exact t
 ·rw[List.toList_toArray,f]
  exact List.take_left' f2
end
section
class E9(a b:World):Prop where
 zh:Ch ag a b
instance(a:World):E9 a a:=⟨Ch.refl _ _⟩
instance(a b:World) [c:E9 a b]:E9 a b.drew:=⟨c.zh.drew⟩
instance(a b:World)(o:Obj) [c:E9 a b]:E9 a (b.alloc o):=⟨c.zh.alloc o⟩
theorem g3{a b:World} [c:E9 a b]:Ch ag a b:=c.zh
section
variable{P:Program}{g4:Region.Mode}{ops:Array Oper}{Q:Exit->Act->World->Prop}{S:World->Prop}{h:Nat->Bool}
def eP(P:Program)(g4:Region.Mode)(ops:Array Oper)(Q:Exit->Act->World->Prop)(S:World->Prop)(h:Nat->Bool):Nat->Array Bool->Act->World->Prop
 |0,listed,a,w=>Region.ready g4 ops listed=[]/\Q .normal a w
 |fuel+1,listed,a,w=>(Region.ready g4 ops listed=[]->Q .normal a w)/\
  ∀i∈Region.ready g4 ops listed,wpOp P ops Q i (fun b w'=>(h i=true->S w')/\eP P g4 ops Q S h fuel (listed.setIfInBounds i true) b w') a w
theorem oT:∀(fuel:Nat) (listed:Array Bool) (a:Act) (w:World),eP P g4 ops Q S h fuel listed a w->wpAny P g4 ops Q fuel listed a w
 |0,_,_,_,h=>h
 |fuel+1,_,_,_,h=>⟨h.1,fun i d=>wpOp_mono (fun b w' c=>oT fuel _ b w' c.2) (h.2 i d)⟩
def EU(g4:Region.Mode)(ops:Array Oper)(h:Nat->Bool)(listed:Array Bool)(i:Nat):Prop:=
 ∀j a,ops[j]?=some a->listed.getD j true=false->h j=true∨∃e∈a.after,Region.binds g4 e=true/\e.on=i
def DB(g4:Region.Mode)(ops:Array Oper)(h:Nat->Bool)(listed:Array Bool)(i:Nat):Bool:=
 (List.range ops.size).all fun j=>listed.getD j true||h j||(match ops[j]? with|some a=>a.after.any (fun e=>Region.binds g4 e&&e.on==i)|none=>true)
theorem yD{i:Nat}{listed:Array Bool}(f:DB g4 ops h listed i=true):EU g4 ops h listed i:=fun j g c e=>by
 have a:=List.all_eq_true.1 f j (List.mem_range.2 (Array.getElem?_eq_some_iff.1 c).1);rw[c,e]at a;simp only[Bool.false_or,Bool.or_eq_true]at a;rcases a with a|a
 ·exact Or.inl a
 ·obtain⟨k,d,b⟩:=Array.any_eq_true.1 a
  simp only[Bool.and_eq_true,beq_iff_eq]at b;exact Or.inr ⟨_,Array.getElem_mem d,b⟩
theorem CN{i j:Nat}{c:Oper}{listed:Array Bool}(n:i∈Region.ready g4 ops listed)(k:j∈Region.ready g4 ops listed)(l:ops[j]?=some c):∀e∈c.after,Region.binds g4 e=true->e.on≠i:=fun e g hb heq=>by
 obtain⟨_,o,m,f⟩:=mem_ready.1 k;obtain rfl:o=c:=Option.some.inj (m.symm.trans l);have a:=f e g hb;have d:=(mem_ready.1 n).1;rw[heq]at a;rcases Nat.lt_or_ge i listed.size with b|b
 ·simp[b]at d a;rw[d]at a;cases a
 ·simp[Array.getElem?_eq_none b]at a
theorem ri{p:World->Prop}{i:Nat}{l:Oper}{v:Value}(s:ops[i]?=some l)(D:∀(j:Nat) (G:Oper) cs b,ops[j]?=some G->G.op≠ .select cs b)
 (L:∀c a w,Q (.panic c) (a.put l.dst v) w->Q (.panic c) a w) (z:∀w,p w->h i=true->S w):
 ∀(fuel:Nat) (listed:Array Bool) (a:Act) (w:World),
  (∀j d,ops[j]?=some d->listed.getD j true=false->(∀e∈d.after,Region.binds g4 e=true->e.on≠i)->∀w',(h j=true->S w')->p w')->
  (∀j d,ops[j]?=some d->j≠i->listed.getD j true=false->(∀e∈d.after,Region.binds g4 e=true->e.on≠i)->l.apart ops d=true)->
  i∈Region.ready g4 ops listed->YieldsIf P ops p l v a->p w->
  eP P g4 ops Q S h fuel (listed.setIfInBounds i true) (a.put l.dst v) w->eP P g4 ops Q S h (fuel+1) listed a w:=by
 intro fuel
 induction fuel with
 |zero=>
  intro listed a w _ _ g r m H;refine⟨fun h=>(by rw[h]at g;cases g),fun j n=> ?_⟩;by_cases f:j=i
  ·subst f;exact r.wpOp s m ⟨z w m,H⟩
  ·have:=ready_mono n f
   rw[H.1]at this;cases this
 |succ fuel ih=>
  intro listed a w y A g r m H;refine⟨fun h=>(by rw[h]at g;cases g),fun j n=> ?_⟩;by_cases f:j=i
  ·subst f;exact r.wpOp s m ⟨z w m,H⟩
  ·have J:=H.2 j (ready_mono n f)
   obtain⟨t,d,o,N⟩:=mem_ready.1 n;have C:=CN g n o;have K:=wpOp_putIf o (A j d o f t C) (fun cs b=>D i l cs b s) (fun cs b=>D j d cs b o) L r J;have F:∀k,(listed.setIfInBounds j true).getD k true=false->listed.getD k true=false:=fun k E=>by
    by_cases B:j=k
    ·subst B;exact t
    ·rw[getD_set_ne true B]at E;exact E
   refine wpOp_mono (fun I w' q=>⟨q.2.1,ih (listed.setIfInBounds j true) I w' (fun k ok u x=>y k ok u (F k x)) (fun k ok u M x=>A k ok u M (F k x)) (ready_mono g (Ne.symm f)) q.1 (y j d o t C w' q.2.1) ?_⟩) K;rw[Array.setIfInBounds_comm _ _ f];exact q.2.2
theorem wm{i:Nat}{a:Oper}{rest:List Oper}(h:ops.toList.drop i=a::rest):ops[i]?=some a:=by
 rw[<-Array.getElem?_toList,<-Nat.add_zero i,<-List.getElem?_drop,h];rfl
def tz(P:Program)(ops:Array Oper)(S:World->Prop)(h:Nat->Bool):List Nat->(Act->Prop)->Act->Prop
 |[],K,a=>K a
 |i::L,K,a=>∃b r v,ops.toList.drop i=b::r/\YieldsIf P ops (if h i=true then S else fun _=>True) b v a/\tz P ops S h L K (a.put b.dst v)
def u'(g4:Region.Mode)(ops:Array Oper)(h:Nat->Bool):List Nat->Array Bool->Bool
 |[],_=>true
 |i::L,l=>Region.free g4 ops l i&&(Region.ready g4 ops l).contains i&&(!h i||DB g4 ops h l i)&&u' g4 ops h L (l.setIfInBounds i true)
theorem F5{i:Nat}{L:List Nat}{K:Act->Prop}{a:Act}{b:Oper}{r:List Oper}{v:Value}(c:ops.toList.drop i=b::r)(d:YieldsIf P ops (if h i=true then S else fun _=>True) b v a)(H:tz P ops S h L K (a.put b.dst v)):tz P ops S h (i::L) K a:=⟨_,_,_,c,d,H⟩
theorem takeN{K:Act->Prop}{a:Act}(H:K a):tz P ops S h [] K a:=H
theorem AW(n:Region.noSelect ops=true)(g:∀c a p v w,Q (.panic c) (Act.put a p v) w->Q (.panic c) a w){w:World}(k:S w)(f:Nat):∀(L:List Nat) (listed:Array Bool) (a:Act),u' g4 ops h L listed=true->
 tz P ops S h L (fun o=>eP P g4 ops Q S h f (L.foldl (fun l i=>l.setIfInBounds i true) listed) o w) a->eP P g4 ops Q S h (f+L.length) listed a w
 |[],_,_,_,H=>H
 |i::L,listed,a,b,H=>by
  obtain⟨C,r,v,t,B,H⟩:=H;simp only[u',Bool.and_eq_true,Bool.or_eq_true]at b;have m:=wm t;refine @ri P g4 ops Q S h (if h i=true then S else fun _=>True) i C v m (Region.noSelect_spec n) (fun c a w=>g c a _ _ w) (fun w z e=>by rwa [if_pos e]at z) (f+L.length) listed a w ?_ (Region.free_spec m b.1.1.1) (by simpa using b.1.1.2) B (by split;exact k;trivial) (AW n g k f L _ _ b.2 H);intro j D s y u w' A;split
  ·rename_i e
   rcases b.1.2 with d|d
   ·rw[e]at d;cases d
   ·exact(yD d j D s y).elim A (fun⟨e,q,hb,x⟩=>absurd x (u e q hb))
  ·trivial
theorem F6{b:List Nat}{fuel:Nat}{listed:Array Bool}{a:Act}{w:World}(c:Region.ready g4 ops listed=b)(f:b≠[])
 (H:∀i∈b,wpOp P ops Q i (fun d w'=>(h i=true->S w')/\eP P g4 ops Q S h fuel (listed.setIfInBounds i true) d w') a w):eP P g4 ops Q S h (fuel+1) listed a w:=
 ⟨fun e=>absurd (c▸e) f,c▸H⟩
def Gi(P:Program)(g4:Region.Mode)(ops:Array Oper)(Q:Exit->Act->World->Prop)(S:World->Prop)(h:Nat->Bool)(fuel:Nat)(listed:Array Bool)(a:Act)(w:World)(i:Nat)(b:Oper):Prop:=
 ∀K:Act->World->Prop,Shut (∀a w,S w->eP P g4 ops Q S h fuel (listed.setIfInBounds i true) a w->K a w)->if Region.wanted b (yielded ops a.tmps)=true then Oper.wp P b a w K Q else K (a.put b.dst undef) w
theorem stepT{i:Nat}{b:Oper}{rest:List Oper}{fuel:Nat}{listed:Array Bool}{a:Act}{w:World}(g:ops.toList.drop i=b::rest)
 (H:Gi P g4 ops Q S h fuel listed a w i b):
 wpOp P ops Q i (fun c w'=>(h i=true->S w')/\eP P g4 ops Q S h fuel (listed.setIfInBounds i true) c w') a w:=
 wpOp_step (wm g) (fun K d=>H K (fun a w e f=>d a w ⟨fun _=>e,f⟩))
theorem va{i:Nat}{b:Oper}{rest:List Oper}{fuel:Nat}{listed:Array Bool}{a:Act}{w:World}(e:Region.ready g4 ops listed=[i])(d:ops.toList.drop i=b::rest)
 (H:Gi P g4 ops Q S h fuel listed a w i b):
 eP P g4 ops Q S h (fuel+1) listed a w:=F6 e (by simp) (fun j c=>by
 obtain rfl:j=i:=by simpa using c
 exact stepT d H)
theorem F7{i k:Nat}{c ok:Oper}{rest l:List Oper}{fuel:Nat}{listed:Array Bool}{a:Act}{w:World}(g:Region.ready g4 ops listed=[i,k])(e:ops.toList.drop i=c::rest)(f:ops.toList.drop k=ok::l)
 (H:Gi P g4 ops Q S h fuel listed a w i c)
 (d:Gi P g4 ops Q S h fuel listed a w k ok):
 eP P g4 ops Q S h (fuel+1) listed a w:=F6 g (by simp) (fun j b=>by
 rcases List.mem_cons.1 b with rfl|b
 ·exact stepT e H
 ·obtain rfl:j=k:=by simpa using b
  exact stepT f d)
theorem F8:∀(l:List Oper) (k:Nat) (listed:Array Bool) (a:Act) (w:World),(∀j,k<=j->h j=false)->(∀j,l[j]?=ops[k+j]?)->
 Region.seqB g4 ops l.length k listed=true->wpList P ops Q l a w->eP P g4 ops Q S h l.length listed a w
 |[],k,listed,a,w,_,_,b,h=>⟨by simpa[Region.seqB]using b,h⟩
 |r::l,k,listed,a,w,e,f,b,H=>by
  have o:ops[k]?=some r:=by simpa using (f 0).symm
  simp only[List.length_cons,Region.seqB,Bool.and_eq_true,decide_eq_true_eq]at b;refine⟨fun c=>(by rw[b.1]at c;cases c),fun i d=> ?_⟩;rw[b.1]at d;have p:i=k:=by simpa using d
  subst p;have q:wpOp P ops Q i (wpList P ops Q l) a w:=by unfold wpOp;simp only[o];exact H
  exact wpOp_mono (fun m w' n=>⟨fun g=>(by rw[e i (Nat.le_refl i)]at g;cases g),F8 l (i+1) _ m w' (fun j s=>e j (by omega)) (fun j=>by have:=f (j+1);simpa[Nat.add_assoc,Nat.add_comm 1 j]using this) b.2 n⟩) q
theorem GX(k:Nat){l:List Oper}{f:Nat}{listed:Array Bool}{a:Act}{w:World}(e:ops.toList.drop k=l)(c:l.length=f)(d:∀j,k<=j->h j=false)(b:Region.seqB g4 ops f k listed=true)(H:wpList P ops Q l a w):eP P g4 ops Q S h f listed a w:=by
 subst c;exact F8 l k listed a w d (fun j=>by rw[<-e,List.getElem?_drop,Array.getElem?_toList]) b H
theorem CO{id:Nat}{a:Act}{w:World}(h:Nat->Bool)(S:World->Prop)(b:P.follows .mixedOrders=true)
 (H:eP P .any ops Q S h ops.size (Array.replicate ops.size false) a w.drew):(Code.region id ops true).wp P Q a w:=
 wp_region_any b (oT _ _ _ _ H)
end
end
end Go.Proofs.YtfnilkpkogipfaaGreatDoor
