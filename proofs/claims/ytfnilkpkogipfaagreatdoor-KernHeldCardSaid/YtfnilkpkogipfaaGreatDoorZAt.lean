import Derived.Test.YtfnilkpkogipfaaGreatDoorZAs
set_option linter.all false
set_option maxRecDepth 100000
set_option maxHeartbeats 8000000
namespace Go.Proofs.YtfnilkpkogipfaaGreatDoor
open Go.RowKit Go.Proofs.Tryz
section
section
variable{w w':World}{χ:Nat->a4}{L:cw}{Y:Var}{C:KC}{K:KS}
theorem nF{l:List aV}{pc:Int}(a:0<=pc)(b:pc<l.length):l[pc.toNat]?=some (fu l pc):=by
 unfold fu;rw[if_pos ⟨a,b⟩,List.getD_eq_getElem?_getD,List.getElem?_eq_getElem (by omega)];rfl
theorem ly{l:List aV}{pc:Int}(h:¬(0<=pc/\pc<l.length)):fu l pc=⟨0,0,0,0,0,0,0⟩:=by unfold fu;rw[if_neg h]
theorem D0(c:bK)(b l:Nat)(m:aj K c)(q:aP L Y c b l)(D:∀k,k<32->aH ((K.F c).r k))(u:(K.F c).back.length<=8)(F:∀x∈C.dx,aH x.v)(G:C.dx.length<=2048)(h:ae w χ L Y C K):
 Calls prog 28 #[(b,l),.slice L.lc C.dx.length L.BT,.iface 73 (.pointer (some (L.m,0)))] w
  (yj (cy C K c).2.1 (fun w'=>∃aW Y',dB χ L Y C K (cy C K c).2.2 w aW Y' w')):=by
 obtain⟨pre,post,v,o,p,s⟩:=h.DZ m q;have a:=h.mem (by simp);have n:=h.code (by simp);have j:b≠L.m/\b≠L.c/\b≠L.d:=by
  refine⟨?_,?_,?_⟩<;>intro e<;>subst e<;>rcases p with e|⟨_,_,e⟩
  ·rw[a.k1]at e;cases e
  ·rw[a.k1]at e;cases e
  ·rw[a.k2]at e;cases e
  ·rw[a.k2]at e;cases e
  ·rw[a.k3]at e;cases e
  ·rw[a.k3]at e;cases e
 have E:=q3 (yl L.m L.c L.d) K.mem (Z trivial) b l (qd c) (kz c) pre post v (K.F c) C.dx L.lc C.dx.length L.BT rfl n.mx (by omega) u D F w o
  (fun r=>by obtain⟨g,f,d,_⟩:=n.ca (by intro e;rw[e]at r;exact absurd r (by simp));exact⟨g,f,d⟩) a.is
  (fun S w w' J f1 M f2 f _ _ _ d=>aO.ch f d (fun e=>j.1 (Eq.symm e)) (fun e=>j.2.1 (Eq.symm e)) (fun e=>j.2.2 (Eq.symm e)))
  (fun e=>by rcases e with e|e;exact j.1 e;exact j.2.1 e)
  (fun i H e=>by rcases e with rfl|rfl;have:=a.is.head.lt;omega;have:=a.is.cells.lt;omega)
  (fun g z e=>by
   have d:=s g z;rcases e with rfl|rfl
   ·rw[a.k1]at d;cases d
   ·rw[a.k2]at d;cases d)
 refine E.mono ?_;rintro e w' ⟨f,⟨I,y,A⟩,B,t⟩;exact⟨f,h.A' m q o p s y A B t⟩
theorem wu(x:aV):aI x=.agg #[x.op,x.a,x.b,x.c,.int .u64 x.v,x.m,x.wh]:=rfl
theorem o9(c:bK)(b dC:Nat)(cf:aj K c)(ch:aP L Y c b dC)(es:∀k,k<32->aH ((K.F c).r k))(dN:(K.F c).back.length<=8)(eA:∀x∈C.dx,aH x.v)(cQ:C.dx.length<=2048)(h:ae w χ L Y C K):
 Calls prog 141 #[(L.mb,0),(b,dC)] w (de (.tuple #[aI (cy C K c).1,.int .i64 (cy C K c).2.1]) χ L Y C K (cy C K c).2.2 w):=by
 have H:=Z h;have G:=Z cf;have J:=Z ch;have O:=Z (fun w (h:ae w χ L Y C K)=>D0 c b dC cf ch es dN eA cQ h);have cL:=h.code (by simp);have i4:=Z cL;obtain⟨pc,ci⟩:=nm ((K.F c).pc);have M:=Z ci;obtain⟨N,am⟩:=nm C.dx.length;have t:=Z am;have i5:N<=2048:=by rw[<-am];exact cQ
 have cl:=h.tq cf ch;rw[ci]at cl;have k0:=h.c0;rw[am]at k0;have l:=h.cP;have dr:(cy C K c).1=fu C.dx pc:=by unfold cy;rw[ci]
 obtain⟨s,ex⟩:=nm (cy C K c);rw[ex]at O dr⊢;obtain⟨x,n,K'⟩:=s;rw[am]at O;have cA:=Z dr;have en:C.dx≠[]->∃g,L.lc=some ⟨g,0,none⟩/\eE w g C.dx:=fun i3=>by obtain⟨g,al,i1,_⟩:=cL.ca i3;exact⟨g,al,i1⟩
 have gr:=Z en;clear h cf ch es dN eA cQ cL ci am ex dr en;by_cases i0:pc<0
 ·have Q:¬0<=pc:=by omega
  have ec:decide (0<=pc)=false:=by simpa using i0
  have cW:x=⟨0,0,0,0,0,0,0⟩:=by have:=cA.out;dsimp only at this;rw[this];exact ly (fun e=>by have P:=e.2;rw[t]at P;omega)
  subst cW;obtain⟨w1,j⟩:=nm ((w.alloc (.cells #[.int .i64 0,.int .i64 0,.int .i64 0,.int .i64 0,.int .u64 0,.int .i64 0,.int .i64 0] 121)).alloc (.cells #[.int .i64 0,.int .i64 0,.int .i64 0,.int .i64 0,.int .u64 0,.int .i64 0,.int .i64 0] 121));have I:Hid (Ch ag w w1):=Z (by rw[<-j];exact((Ch.refl _ _).alloc _).alloc _);have y:=Z (H.hg I);have R:Hid (Row w1 w.heap.size 121 [.int .i64 0,.int .i64 0,.int .i64 0,.int .i64 0,.int .u64 0,.int .i64 0,.int .i64 0]):=Z (by rw[<-j];exact(Row.new w _ _).alloc _);have S:Hid (Row w1 (w.heap.size+1) 121 [.int .i64 0,.int .i64 0,.int .i64 0,.int .i64 0,.int .u64 0,.int .i64 0,.int .i64 0]):=Z (by
   rw[<-j];have:=Row.new (w.alloc (.cells #[.int .i64 0,.int .i64 0,.int .i64 0,.int .i64 0,.int .u64 0,.int .i64 0,.int .i64 0] 121)) #[.int .i64 0,.int .i64 0,.int .i64 0,.int .i64 0,.int .u64 0,.int .i64 0,.int .i64 0] 121
   rwa [World.size_alloc]at this)
  have p1:=y.at_.tq G J;rw[M]at p1;have k1:=y.at_.c0;rw[t]at k1;clear cl k0 l;go_enter func141,ntmps141
  go_upto_region 2 with fail
  try rw[j]
  clear j;go_quiet (fail)
  obtain⟨w2,p⟩:=nm (w1.drewN nq);have r:=Z (Ch.dN (D:=ag) p);rw[p];clear p;have i:=Z (y.af r);have A:=Z (R.ch r (fun h=>h));have f:=Z (S.ch r (fun h=>h));clear p1 k1;have p1:=i.at_.tq G J;rw[M]at p1;have k1:=i.at_.c0;rw[t]at k1;have l:=i.at_.cP;go_wp2_with fail
  go_region_held3 (fun w'=>w'.cell? (L.mb,0)=some (.slice L.lc N L.BT)/\w'.cell? (L.mb,1007)=some (.pointer (some (L.m,0)))) (go_keep) ((go_at_call 28;refine(O _ i.at_.drew).mono ?_;rintro e B ⟨⟨u,rfl,ap⟩,cd,W,o⟩;have z:=Z ((i.af (Ch.refl _ _).drew).trans (Gr.refl _) o);have a:=Z (((Nx.af (Ch.refl _ w2).drew).trans o.nx).row A (H.fresh (Nat.le_refl _)));have d:=Z (((Nx.af (Ch.refl _ w2).drew).trans o.nx).row f (H.fresh (Nat.le_succ _)));clear o ap p1 k1 l;have k1:=z.at_.c0;rw[t]at k1;have l:=z.at_.cP))
  all_goals
   clear k1 l;have x0:=d.1.c1;have a0:=a.1.c1;have f0:=a.1.free 0;have x1:=d.1.k 1 rfl;have a1:=a.1.k 1 rfl;have f1:=a.1.free 1;have x2:=d.1.k 2 rfl;have a2:=a.1.k 2 rfl;have f2:=a.1.free 2;have x3:=d.1.k 3 rfl;have a3:=a.1.k 3 rfl;have f3:=a.1.free 3;have x4:=d.1.k 4 rfl;have X:=a.1.k 4 rfl;have f4:=a.1.free 4;have x5:=d.1.k 5 rfl;have ab:=a.1.k 5 rfl;have f5:=a.1.free 5;have x6:=d.1.k 6 rfl;have ad:=a.1.k 6 rfl;have f6:=a.1.free 6;go_wp2_with fail
   obtain⟨w4,q⟩:=nm ((((((((B.setCell ⟨w.heap.size,0,none⟩ (.int .i64 0)).setCell ⟨w.heap.size,1,none⟩ (.int .i64 0)).setCell ⟨w.heap.size,2,none⟩ (.int .i64 0)).setCell ⟨w.heap.size,3,none⟩ (.int .i64 0)).setCell ⟨w.heap.size,4,none⟩ (.int .u64 0)).setCell ⟨w.heap.size,5,none⟩ (.int .i64 0)).setCell ⟨w.heap.size,6,none⟩ (.int .i64 0)));have U:Hid (Row w4 w.heap.size 121 [.int .i64 0,.int .i64 0,.int .i64 0,.int .i64 0,.int .u64 0,.int .i64 0,.int .i64 0]):=Z (by rw[<-q];exact(((((((a.1.set 0 _).set 1 _).set 2 _).set 3 _).set 4 _).set 5 _).set 6 _));have T:Hid (Ch (aK w.heap.size) B w4):=Z (by rw[<-q];exact((((((((Ch.refl _ _).only _ _).only _ _).only _ _).only _ _).only _ _).only _ _).only _ _));rw[q];clear q x0 x1 x2 x3 x4 x5 x6 a0 a1 a2 a3 X ab ad f0 f1 f2 f3 f4 f5 f6;have V:=z.plain a.2 (Nat.le_refl _) T;obtain⟨y0,c5,c6,c7,c8,c9,cb⟩:=U.c7;refine bodyPost_ret (v:=.tuple #[aI ⟨0,0,0,0,0,0,0⟩,n]) ?_ rfl ?_
   ·simp[results,Tryz.f141,go_sem,y0,c5,c6,c7,c8,c9,cb,aI,aC]
   ·exact⟨rfl,cd,W,V⟩
 ·by_cases al:pc<N
  ·have Q:0<=pc:=by omega
   have ec:decide (0<=pc)=true:=by simpa using Q
   have i2:decide (pc<(N:Int))=true:=by simpa using al
   have av:C.dx[pc.toNat]?=some x:=by have:=cA.out;dsimp only at this;rw[this];exact nF Q (by rw[t];exact al)
   obtain⟨g,cS,et⟩:=gr (by intro e;rw[e]at av;cases av);have gs:=Z et;rw[cS]at k0 O;have ce:=Z cS;obtain⟨m,rfl⟩:=Int.eq_ofNat_of_zero_le Q;rw[Int.toNat_natCast]at av;obtain⟨fr,fz,gc,ge,gf,gk,go⟩:=eJ C.dx m x av;have F:=Z (And.intro fr (And.intro fz (And.intro gc (And.intro ge (And.intro gf (And.intro gk go))))));obtain⟨c2,bv,bw,c0,c3,c1,c4⟩:=x;clear av fr fz gc ge gf gk go et cS;obtain⟨w1,j⟩:=nm ((w.alloc (.cells #[.int .i64 0,.int .i64 0,.int .i64 0,.int .i64 0,.int .u64 0,.int .i64 0,.int .i64 0] 121)).alloc (.cells #[.int .i64 0,.int .i64 0,.int .i64 0,.int .i64 0,.int .u64 0,.int .i64 0,.int .i64 0] 121));have I:Hid (Ch ag w w1):=Z (by rw[<-j];exact((Ch.refl _ _).alloc _).alloc _);have y:=Z (H.hg I);have R:Hid (Row w1 w.heap.size 121 [.int .i64 0,.int .i64 0,.int .i64 0,.int .i64 0,.int .u64 0,.int .i64 0,.int .i64 0]):=Z (by rw[<-j];exact(Row.new w _ _).alloc _);have S:Hid (Row w1 (w.heap.size+1) 121 [.int .i64 0,.int .i64 0,.int .i64 0,.int .i64 0,.int .u64 0,.int .i64 0,.int .i64 0]):=Z (by
    rw[<-j];have:=Row.new (w.alloc (.cells #[.int .i64 0,.int .i64 0,.int .i64 0,.int .i64 0,.int .u64 0,.int .i64 0,.int .i64 0] 121)) #[.int .i64 0,.int .i64 0,.int .i64 0,.int .i64 0,.int .u64 0,.int .i64 0,.int .i64 0] 121
    rwa [World.size_alloc]at this)
   have p1:=y.at_.tq G J;rw[M]at p1;have k1:=y.at_.c0;rw[t,ce]at k1;clear cl k0 l;go_enter func141,ntmps141
   go_upto_region 2 with fail
   try rw[j]
   clear j;go_quiet (fail)
   obtain⟨w2,p⟩:=nm (w1.drewN nq);have r:=Z (Ch.dN (D:=ag) p);rw[p];clear p;have i:=Z (y.af r);have A:=Z (R.ch r (fun h=>h));have f:=Z (S.ch r (fun h=>h));clear p1 k1;have p1:=i.at_.tq G J;rw[M]at p1;have k1:=i.at_.c0;rw[t,ce]at k1;have E:=Z (gs.ch (I.trans r) (fun h=>h));have eC:=E.cell _ _ F.1;have eL:=E.cell _ _ F.2.1;have eS:=E.cell _ _ F.2.2.1;have eW:=E.cell _ _ F.2.2.2.1;have fb:=E.cell _ _ F.2.2.2.2.1;have fd:=E.cell _ _ F.2.2.2.2.2.1;have fn:=E.cell _ _ F.2.2.2.2.2.2;have gt:=f.c1;have hn:=f.free 0;have hb:=f.k 1 rfl;have hu:=f.free 1;have he:=f.k 2 rfl;have P:=f.free 2;have hf:=f.k 3 rfl;have hv:=f.free 3;have hi:=f.k 4 rfl;have hw:=f.free 4;have hl:=f.k 5 rfl;have hB:=f.free 5;have hm:=f.k 6 rfl;have hF:=f.free 6;dsimp only at eC eL eS eW fb fd fn;go_wp2_with fail
   go_still_tail 11,(by kernel_rfl)
   change wpList _ _ _ _ _ w2.drew;go_upto_region 4 with fail
   obtain⟨bi,ck⟩:∃bi,((((((((w2.setCell ⟨w.heap.size+1,0,none⟩ (.int .i64 c2)).setCell ⟨w.heap.size+1,1,none⟩ (.int .i64 bv)).setCell ⟨w.heap.size+1,2,none⟩ (.int .i64 bw)).setCell ⟨w.heap.size+1,3,none⟩ (.int .i64 c0)).setCell ⟨w.heap.size+1,4,none⟩ (.int .u64 c3)).setCell ⟨w.heap.size+1,5,none⟩ (.int .i64 c1)).setCell ⟨w.heap.size+1,6,none⟩ (.int .i64 c4))).drew=bi:=⟨_,rfl⟩;have cs:Hid (Ch (aK (w.heap.size+1)) w2 bi):=Z (by rw[<-ck];exact(((((((((Ch.refl _ _).only _ _).only _ _).only _ _).only _ _).only _ _).only _ _).only _ _)).drew);have cq:Hid (Row bi (w.heap.size+1) 121 [c2,bv,bw,c0,.int .u64 c3,c1,c4]):=Z (by rw[<-ck];exact((((((((f.set 0 _).set 1 _).set 2 _).set 3 _).set 4 _).set 5 _).set 6 _)).drew);rw[ck];have cC:=Z (i.plain (H.fresh (Nat.le_succ _)) (Nat.le_succ _) cs);have cm:=Z (A.ch cs (fun e=>by have P:w.heap.size=w.heap.size+1:=e;omega));clear ck p1 k1 eC eL eS eW fb fd fn gt hb he hf hi hl hm hn hu P hv hw hB hF;clear i A f r cs;obtain⟨w2,p⟩:∃w2,bi=w2:=⟨_,rfl⟩;rw[p]at cC cm cq⊢;have i:=cC;have A:=cm;have f:=cq;clear p cC cm cq;have k1:=i.at_.c0;rw[t,ce]at k1;have l:=i.at_.cP;go_wp2_with fail
   go_region_held3 (fun w'=>w'.cell? (L.mb,0)=some (.slice (some ⟨g,0,none⟩) N L.BT)/\w'.cell? (L.mb,1007)=some (.pointer (some (L.m,0)))) (go_keep) ((go_at_call 28;refine(O _ i.at_.drew).mono ?_;rintro e B ⟨⟨u,rfl,ap⟩,cd,W,o⟩;have z:=Z ((i.af (Ch.refl _ _).drew).trans (Gr.refl _) o);have a:=Z (((Nx.af (Ch.refl _ w2).drew).trans o.nx).row A (H.fresh (Nat.le_refl _)));have d:=Z (((Nx.af (Ch.refl _ w2).drew).trans o.nx).row f (H.fresh (Nat.le_succ _)));clear o ap k1 l;have k1:=z.at_.c0;rw[t,ce]at k1;have l:=z.at_.cP))
   all_goals
    clear k1 l;have x0:=d.1.c1;have a0:=a.1.c1;have f0:=a.1.free 0;have x1:=d.1.k 1 rfl;have a1:=a.1.k 1 rfl;have f1:=a.1.free 1;have x2:=d.1.k 2 rfl;have a2:=a.1.k 2 rfl;have f2:=a.1.free 2;have x3:=d.1.k 3 rfl;have a3:=a.1.k 3 rfl;have f3:=a.1.free 3;have x4:=d.1.k 4 rfl;have X:=a.1.k 4 rfl;have f4:=a.1.free 4;have x5:=d.1.k 5 rfl;have ab:=a.1.k 5 rfl;have f5:=a.1.free 5;have x6:=d.1.k 6 rfl;have ad:=a.1.k 6 rfl;have f6:=a.1.free 6;go_wp2_with fail
    obtain⟨w4,q⟩:=nm ((((((((B.setCell ⟨w.heap.size,0,none⟩ (.int .i64 c2)).setCell ⟨w.heap.size,1,none⟩ (.int .i64 bv)).setCell ⟨w.heap.size,2,none⟩ (.int .i64 bw)).setCell ⟨w.heap.size,3,none⟩ (.int .i64 c0)).setCell ⟨w.heap.size,4,none⟩ (.int .u64 c3)).setCell ⟨w.heap.size,5,none⟩ (.int .i64 c1)).setCell ⟨w.heap.size,6,none⟩ (.int .i64 c4)));have U:Hid (Row w4 w.heap.size 121 [c2,bv,bw,c0,.int .u64 c3,c1,c4]):=Z (by rw[<-q];exact(((((((a.1.set 0 _).set 1 _).set 2 _).set 3 _).set 4 _).set 5 _).set 6 _));have T:Hid (Ch (aK w.heap.size) B w4):=Z (by rw[<-q];exact((((((((Ch.refl _ _).only _ _).only _ _).only _ _).only _ _).only _ _).only _ _).only _ _));rw[q];clear q x0 x1 x2 x3 x4 x5 x6 a0 a1 a2 a3 X ab ad f0 f1 f2 f3 f4 f5 f6;have V:=z.plain a.2 (Nat.le_refl _) T;obtain⟨y0,c5,c6,c7,c8,c9,cb⟩:=U.c7;refine bodyPost_ret (v:=.tuple #[aI ⟨c2,bv,bw,c0,c3,c1,c4⟩,n]) ?_ rfl ?_
    ·simp[results,Tryz.f141,go_sem,y0,c5,c6,c7,c8,c9,cb,aI,aC]
    ·exact⟨rfl,cd,W,V⟩
  ·have Q:0<=pc:=by omega
   have ec:decide (0<=pc)=true:=by simpa using Q
   have i2:decide (pc<(N:Int))=false:=by simpa using al
   have cW:x=⟨0,0,0,0,0,0,0⟩:=by have:=cA.out;dsimp only at this;rw[this];exact ly (fun e=>by have P:=e.2;rw[t]at P;omega)
   subst cW;obtain⟨w1,j⟩:=nm ((w.alloc (.cells #[.int .i64 0,.int .i64 0,.int .i64 0,.int .i64 0,.int .u64 0,.int .i64 0,.int .i64 0] 121)).alloc (.cells #[.int .i64 0,.int .i64 0,.int .i64 0,.int .i64 0,.int .u64 0,.int .i64 0,.int .i64 0] 121));have I:Hid (Ch ag w w1):=Z (by rw[<-j];exact((Ch.refl _ _).alloc _).alloc _);have y:=Z (H.hg I);have R:Hid (Row w1 w.heap.size 121 [.int .i64 0,.int .i64 0,.int .i64 0,.int .i64 0,.int .u64 0,.int .i64 0,.int .i64 0]):=Z (by rw[<-j];exact(Row.new w _ _).alloc _);have S:Hid (Row w1 (w.heap.size+1) 121 [.int .i64 0,.int .i64 0,.int .i64 0,.int .i64 0,.int .u64 0,.int .i64 0,.int .i64 0]):=Z (by
    rw[<-j];have:=Row.new (w.alloc (.cells #[.int .i64 0,.int .i64 0,.int .i64 0,.int .i64 0,.int .u64 0,.int .i64 0,.int .i64 0] 121)) #[.int .i64 0,.int .i64 0,.int .i64 0,.int .i64 0,.int .u64 0,.int .i64 0,.int .i64 0] 121
    rwa [World.size_alloc]at this)
   have p1:=y.at_.tq G J;rw[M]at p1;have k1:=y.at_.c0;rw[t]at k1;clear cl k0 l;go_enter func141,ntmps141
   go_upto_region 2 with fail
   try rw[j]
   clear j;go_quiet (fail)
   obtain⟨w2,p⟩:=nm (w1.drewN nq);have r:=Z (Ch.dN (D:=ag) p);rw[p];clear p;have i:=Z (y.af r);have A:=Z (R.ch r (fun h=>h));have f:=Z (S.ch r (fun h=>h));clear p1 k1;have p1:=i.at_.tq G J;rw[M]at p1;have k1:=i.at_.c0;rw[t]at k1;have l:=i.at_.cP;go_wp2_with fail
   go_region_held3 (fun w'=>w'.cell? (L.mb,0)=some (.slice L.lc N L.BT)/\w'.cell? (L.mb,1007)=some (.pointer (some (L.m,0)))) (go_keep) ((go_at_call 28;refine(O _ i.at_.drew).mono ?_;rintro e B ⟨⟨u,rfl,ap⟩,cd,W,o⟩;have z:=Z ((i.af (Ch.refl _ _).drew).trans (Gr.refl _) o);have a:=Z (((Nx.af (Ch.refl _ w2).drew).trans o.nx).row A (H.fresh (Nat.le_refl _)));have d:=Z (((Nx.af (Ch.refl _ w2).drew).trans o.nx).row f (H.fresh (Nat.le_succ _)));clear o ap p1 k1 l;have k1:=z.at_.c0;rw[t]at k1;have l:=z.at_.cP))
   all_goals
    clear k1 l;have x0:=d.1.c1;have a0:=a.1.c1;have f0:=a.1.free 0;have x1:=d.1.k 1 rfl;have a1:=a.1.k 1 rfl;have f1:=a.1.free 1;have x2:=d.1.k 2 rfl;have a2:=a.1.k 2 rfl;have f2:=a.1.free 2;have x3:=d.1.k 3 rfl;have a3:=a.1.k 3 rfl;have f3:=a.1.free 3;have x4:=d.1.k 4 rfl;have X:=a.1.k 4 rfl;have f4:=a.1.free 4;have x5:=d.1.k 5 rfl;have ab:=a.1.k 5 rfl;have f5:=a.1.free 5;have x6:=d.1.k 6 rfl;have ad:=a.1.k 6 rfl;have f6:=a.1.free 6;go_wp2_with fail
    obtain⟨w4,q⟩:=nm ((((((((B.setCell ⟨w.heap.size,0,none⟩ (.int .i64 0)).setCell ⟨w.heap.size,1,none⟩ (.int .i64 0)).setCell ⟨w.heap.size,2,none⟩ (.int .i64 0)).setCell ⟨w.heap.size,3,none⟩ (.int .i64 0)).setCell ⟨w.heap.size,4,none⟩ (.int .u64 0)).setCell ⟨w.heap.size,5,none⟩ (.int .i64 0)).setCell ⟨w.heap.size,6,none⟩ (.int .i64 0)));have U:Hid (Row w4 w.heap.size 121 [.int .i64 0,.int .i64 0,.int .i64 0,.int .i64 0,.int .u64 0,.int .i64 0,.int .i64 0]):=Z (by rw[<-q];exact(((((((a.1.set 0 _).set 1 _).set 2 _).set 3 _).set 4 _).set 5 _).set 6 _));have T:Hid (Ch (aK w.heap.size) B w4):=Z (by rw[<-q];exact((((((((Ch.refl _ _).only _ _).only _ _).only _ _).only _ _).only _ _).only _ _).only _ _));rw[q];clear q x0 x1 x2 x3 x4 x5 x6 a0 a1 a2 a3 X ab ad f0 f1 f2 f3 f4 f5 f6;have V:=z.plain a.2 (Nat.le_refl _) T;obtain⟨y0,c5,c6,c7,c8,c9,cb⟩:=U.c7;refine bodyPost_ret (v:=.tuple #[aI ⟨0,0,0,0,0,0,0⟩,n]) ?_ rfl ?_
    ·simp[results,Tryz.f141,go_sem,y0,c5,c6,c7,c8,c9,cb,aI,aC]
    ·exact⟨rfl,cd,W,V⟩
end
end
section
section
variable{w:World}{χ:Nat->a4}{L:cw}{Y:Var}{C:KC}{K:KS}
theorem wx(id:Int)(i:Nat)(c:bK)(b y:Nat)(n a d f j g k:Int)(r:n=24∨n=28∨n=51∨n=53∨n=55∨n=56∨n=57∨n=58){p:Int×KS}(s:aB C K i id c ⟨n,a,d,f,j,g,k⟩=p)
 (t:∀w,ae w χ L Y C K->Calls prog 162 #[(L.mb,0),(L.wb,i*38),(Y.bB id,0),(b,y),aI ⟨n,a,d,f,j,g,k⟩] w (dG p χ L Y C K w)) (h:ae w χ L Y C K):
 Calls prog 142 #[(L.mb,0),(L.wb,i*38),(Y.bB id,0),(b,y),aI ⟨n,a,d,f,j,g,k⟩] w (dG (ay C K i (some id) c ⟨n,a,d,f,j,g,k⟩) χ L Y C K w):=by
 have l:=Z t;unfold aI aC at l⊢;dsimp only at l⊢;obtain⟨G,v,F,o,A⟩:=h.pre n a d f j g k;obtain⟨t0,t1,t2,t3,t4,t5,t6⟩:=A.1.c7;obtain⟨tb,u⟩:=nm (Y.bB id);rw[u]at l⊢;clear u;clear h t;have E:Hid (ay C K i (some id) c ⟨n,a,d,f,j,g,k⟩=p):=Z (by rw[<-s];unfold ay;dsimp only;rw[if_pos r]);clear s;rcases r with rfl|rfl|rfl|rfl|rfl|rfl|rfl|rfl
 all_goals
  go_enter func142,ntmps142
  go_wp2_with fail
  try rw[v]
  clear v;refine(l _ o.at_).mono ?_;rintro e w2 ⟨rfl,D,B,q,x,z⟩;have m:=Z (And.intro q (And.intro x z));clear q x z;go_wp2_with fail
  go_ret;rw[E];exact⟨rfl,D,B,m.1,o.nx.trans m.2.1,m.2.2⟩
theorem wy(B:Value)(idO:Option Int)(i:Nat)(c:bK)(b x:Nat)(n a d f j g k:Int)(r:n=31∨n=32){p:Int×KS}(s:bb K i c ⟨n,a,d,f,j,g,k⟩=p)
 (t:∀w,ae w χ L Y C K->Calls prog 163 #[(L.mb,0),(L.wb,i*38),(b,x),aI ⟨n,a,d,f,j,g,k⟩] w (dG p χ L Y C K w)) (h:ae w χ L Y C K):
 Calls prog 142 #[(L.mb,0),(L.wb,i*38),B,(b,x),aI ⟨n,a,d,f,j,g,k⟩] w (dG (ay C K i idO c ⟨n,a,d,f,j,g,k⟩) χ L Y C K w):=by
 have m:=Z t;unfold aI aC at m⊢;dsimp only at m⊢;obtain⟨G,u,F,o,z⟩:=h.pre n a d f j g k;obtain⟨t0,t1,t2,t3,t4,t5,t6⟩:=z.1.c7;clear h t;have E:Hid (ay C K i idO c ⟨n,a,d,f,j,g,k⟩=p):=Z (by rw[<-s];unfold ay;dsimp only;rw[if_neg (by omega),if_pos r]);clear s;rcases r with rfl|rfl
 all_goals
  go_enter func142,ntmps142
  go_wp2_with fail
  try rw[u]
  clear u;refine(m _ o.at_).mono ?_;rintro e w2 ⟨rfl,D,A,q,v,y⟩;have l:=Z (And.intro q (And.intro v y));clear q v y;go_wp2_with fail
  go_ret;rw[E];exact⟨rfl,D,A,l.1,o.nx.trans l.2.1,l.2.2⟩
theorem wz(z:Value)(idO:Option Int)(i:Nat)(c:bK)(b v:Nat)(n a d f j g k:Int)(r:n=30∨n=33∨n=34∨n=35){p:KS}(s:bU K i c ⟨n,a,d,f,j,g,k⟩=p)
 (t:∀w,ae w χ L Y C K->Calls prog 164 #[(L.mb,0),(L.wb,i*38),(b,v),aI ⟨n,a,d,f,j,g,k⟩] w (de (.tuple #[]) χ L Y C K p w)) (h:ae w χ L Y C K):
 Calls prog 142 #[(L.mb,0),(L.wb,i*38),z,(b,v),aI ⟨n,a,d,f,j,g,k⟩] w (dG (ay C K i idO c ⟨n,a,d,f,j,g,k⟩) χ L Y C K w):=by
 have l:=Z t;unfold aI aC at l⊢;dsimp only at l⊢;obtain⟨D,u,B,o,x⟩:=h.pre n a d f j g k;obtain⟨t0,t1,t2,t3,t4,t5,t6⟩:=x.1.c7;clear h t;have E:Hid (ay C K i idO c ⟨n,a,d,f,j,g,k⟩=(0,p)):=Z (by rw[<-s];unfold ay;dsimp only;rw[if_neg (by omega),if_neg (by omega),if_neg (by omega),if_pos r]);clear s;rcases r with rfl|rfl|rfl|rfl
 all_goals
  go_enter func142,ntmps142
  go_wp2_with fail
  try rw[u]
  clear u;refine(l _ o.at_).mono ?_;rintro e w2 ⟨rfl,A,y,q⟩;have m:=Z (o.trans (Gr.refl _) q);clear q;go_wp2_with fail
  go_ret;rw[E];exact⟨rfl,A,y,m.at_,m.nx,fun _=>m.yk⟩
theorem wA(z:Value)(idO:Option Int)(i:Nat)(c:bK)(b v:Nat)(n a d f j g k:Int)(r:n=43∨n=44∨n=45∨n=46){p:KS}(s:bd K c ⟨n,a,d,f,j,g,k⟩=p)
 (t:∀w,ae w χ L Y C K->Calls prog 165 #[(L.mb,0),(b,v),aI ⟨n,a,d,f,j,g,k⟩] w (de (.tuple #[]) χ L Y C K p w)) (h:ae w χ L Y C K):
 Calls prog 142 #[(L.mb,0),(L.wb,i*38),z,(b,v),aI ⟨n,a,d,f,j,g,k⟩] w (dG (ay C K i idO c ⟨n,a,d,f,j,g,k⟩) χ L Y C K w):=by
 have l:=Z t;unfold aI aC at l⊢;dsimp only at l⊢;obtain⟨D,u,B,o,x⟩:=h.pre n a d f j g k;obtain⟨t0,t1,t2,t3,t4,t5,t6⟩:=x.1.c7;clear h t;have E:Hid (ay C K i idO c ⟨n,a,d,f,j,g,k⟩=(0,p)):=Z (by rw[<-s];unfold ay;dsimp only;rw[if_neg (by omega),if_neg (by omega),if_neg (by omega),if_neg (by omega),if_pos r]);clear s;rcases r with rfl|rfl|rfl|rfl
 all_goals
  go_enter func142,ntmps142
  go_wp2_with fail
  try rw[u]
  clear u;refine(l _ o.at_).mono ?_;rintro e w2 ⟨rfl,A,y,q⟩;have m:=Z (o.trans (Gr.refl _) q);clear q;go_wp2_with fail
  go_ret;rw[E];exact⟨rfl,A,y,m.at_,m.nx,fun _=>m.yk⟩
theorem wB(z:Value)(idO:Option Int)(i:Nat)(c:bK)(b v:Nat)(n a d f j g k:Int)(r:n=48∨n=52∨n=54∨n=49∨n=50){p:KS}(s:bu C K i c ⟨n,a,d,f,j,g,k⟩=p)
 (t:∀w,ae w χ L Y C K->Calls prog 166 #[(L.mb,0),(L.wb,i*38),(b,v),aI ⟨n,a,d,f,j,g,k⟩] w (de (.tuple #[]) χ L Y C K p w)) (h:ae w χ L Y C K):
 Calls prog 142 #[(L.mb,0),(L.wb,i*38),z,(b,v),aI ⟨n,a,d,f,j,g,k⟩] w (dG (ay C K i idO c ⟨n,a,d,f,j,g,k⟩) χ L Y C K w):=by
 have l:=Z t;unfold aI aC at l⊢;dsimp only at l⊢;obtain⟨D,u,B,o,x⟩:=h.pre n a d f j g k;obtain⟨t0,t1,t2,t3,t4,t5,t6⟩:=x.1.c7;clear h t;have E:Hid (ay C K i idO c ⟨n,a,d,f,j,g,k⟩=(0,p)):=Z (by rw[<-s];unfold ay;dsimp only;rw[if_neg (by omega),if_neg (by omega),if_neg (by omega),if_neg (by omega),if_neg (by omega),if_pos r]);clear s;rcases r with rfl|rfl|rfl|rfl|rfl
 all_goals
  go_enter func142,ntmps142
  go_wp2_with fail
  try rw[u]
  clear u;refine(l _ o.at_).mono ?_;rintro e w2 ⟨rfl,A,y,q⟩;have m:=Z (o.trans (Gr.refl _) q);clear q;go_wp2_with fail
  go_ret;rw[E];exact⟨rfl,A,y,m.at_,m.nx,fun _=>m.yk⟩
theorem wC(z:Value)(idO:Option Int)(i:Nat)(c:bK)(b v:Nat)(n a d f j g k:Int)(r:n=25∨n=26∨n=27){p:KS}(s:bg K i c ⟨n,a,d,f,j,g,k⟩=p)
 (t:∀w,ae w χ L Y C K->Calls prog 167 #[(L.mb,0),(L.wb,i*38),(b,v),aI ⟨n,a,d,f,j,g,k⟩] w (de (.tuple #[]) χ L Y C K p w)) (h:ae w χ L Y C K):
 Calls prog 142 #[(L.mb,0),(L.wb,i*38),z,(b,v),aI ⟨n,a,d,f,j,g,k⟩] w (dG (ay C K i idO c ⟨n,a,d,f,j,g,k⟩) χ L Y C K w):=by
 have l:=Z t;unfold aI aC at l⊢;dsimp only at l⊢;obtain⟨D,u,B,o,x⟩:=h.pre n a d f j g k;obtain⟨t0,t1,t2,t3,t4,t5,t6⟩:=x.1.c7;clear h t;have E:Hid (ay C K i idO c ⟨n,a,d,f,j,g,k⟩=(0,p)):=Z (by rw[<-s];unfold ay;dsimp only;rw[if_neg (by omega),if_neg (by omega),if_neg (by omega),if_neg (by omega),if_neg (by omega),if_neg (by omega),if_pos r]);clear s;rcases r with rfl|rfl|rfl
 all_goals
  go_enter func142,ntmps142
  go_wp2_with fail
  try rw[u]
  clear u;refine(l _ o.at_).mono ?_;rintro e w2 ⟨rfl,A,y,q⟩;have m:=Z (o.trans (Gr.refl _) q);clear q;go_wp2_with fail
  go_ret;rw[E];exact⟨rfl,A,y,m.at_,m.nx,fun _=>m.yk⟩
theorem wD(i:Nat)(c:bK)(b p:Nat)(n a d e g f j:Int)(l:n=24∨n=28∨n=51∨n=53∨n=55∨n=56∨n=57∨n=58)(h:ae w χ L Y C K):
 Calls prog 142 #[(L.mb,0),(L.wb,i*38),.pointer none,(b,p),aI ⟨n,a,d,e,g,f,j⟩] w (dG (ay C K i none c ⟨n,a,d,e,g,f,j⟩) χ L Y C K w):=by
 unfold aI aC;dsimp only;obtain⟨r,o,q,k,m⟩:=h.pre n a d e g f j;obtain⟨t0,t1,t2,t3,t4,t5,t6⟩:=m.1.c7;have E:Hid (ay C K i none c ⟨n,a,d,e,g,f,j⟩=(0,K)):=Z (by unfold ay;exact if_pos l);clear h t1 t2 t3 t4 t5 t6;rcases l with rfl|rfl|rfl|rfl|rfl|rfl|rfl|rfl
 all_goals
  go_enter func142,ntmps142
  go_wp2_with fail
  try rw[o]
  go_ret;rw[E];exact⟨rfl,χ,Y,k.at_,k.nx,fun _=>k.yk⟩
end
end
section
section
variable{w:World}{χ:Nat->a4}{L:cw}{Y:Var}{C:KC}{K:KS}
theorem wE(c:bK)(b u:Nat)(J:aj K c)(N:aP L Y c b u)(O:∀k,k<32->aH ((K.F c).r k))(a n o q p r:Int)(Q:0<=a/\a<32)(R:K.blocks.Ok)(h:ae w χ L Y C K):
 Calls prog 165 #[(L.mb,0),(b,u),.agg #[.int .i64 44,a,n,o,.int .u64 q,p,r]] w (de (.tuple #[]) χ L Y C K (bd K c ⟨44,a,n,o,q,p,r⟩) w):=by
 have H:=Z h;have A:=Z J;have B:=Z N;obtain⟨x,t,S,D,i⟩:=h.pre 44 a n o q p r;obtain⟨W,X⟩:=Q;obtain⟨s,F⟩:∃y,(K.F c).r a.toNat=y:=⟨_,rfl⟩;have l:=Z F;have G:=Z (O a.toNat (by omega));rw[F]at G;obtain⟨U,V⟩:=G.out;clear F;obtain⟨t0,t1,t2,t3,t4,t5,t6⟩:=i.1.c7;have g:=D.at_.az A B a.toNat (by omega);rw[l]at g;clear h J N O;by_cases M:s<65536
 ·have E:Hid (bd K c ⟨44,a,n,o,q,p,r⟩=iS K s):=Z (by unfold bd;dsimp only;rw[if_neg (by decide),if_pos rfl,l,if_pos M])
  go_enter func165,ntmps165
  go_wp2_with fail
  try rw[t]
  clear t;go_quiet (fail)
  obtain⟨w1,f⟩:=nm (x.drewN nq);have j:Hid (Ch ag x w1):=Z (by rw[<-f];exact(Ch.refl _ _).drewN nq);rw[f];clear f;have d:=Z (D.af j);have m:Hid (aj K c/\aP L Y c b u):=Z ⟨A,B⟩;have z:=Z ((Nx.af j).row i.1 i.2);clear t0 t1 t2 t3 t4 t5 t6 g;obtain⟨t0,t1,t2,t3,t4,t5,t6⟩:=z.1.c7;have g:=d.at_.az m.1 m.2 a.toNat (by omega);rw[show((K:KS).F c).r a.toNat=s from l.out]at g;have k1:=d.at_.oG;go_wp2_with fail
  go_still_tail 8,(by kernel_rfl)
  change wpList _ _ _ _ _ w1.drew;go_wp2_with fail
  refine(yL s (by exact R) d.at_.drew).mono ?_;rintro e w2 ⟨⟨v,rfl,_⟩,a0,T,I⟩;have P:=Z ((d.af (Ch.refl _ _).drew).trans (Gr.refl _) I);clear I;go_wp2_with fail
  go_end0
  rw[E];exact⟨rfl,_,_,P⟩
 ·have E:Hid (bd K c ⟨44,a,n,o,q,p,r⟩=K):=Z (by unfold bd;dsimp only;rw[if_neg (by decide),if_pos rfl,l,if_neg M])
  go_enter func165,ntmps165
  go_wp2_with fail
  try rw[t]
  clear t;go_quiet (fail)
  obtain⟨w1,f⟩:=nm (x.drewN nq);have j:Hid (Ch ag x w1):=Z (by rw[<-f];exact(Ch.refl _ _).drewN nq);rw[f];clear f;have d:=Z (D.af j);have m:Hid (aj K c/\aP L Y c b u):=Z ⟨A,B⟩;have z:=Z ((Nx.af j).row i.1 i.2);clear t0 t1 t2 t3 t4 t5 t6 g;obtain⟨t0,t1,t2,t3,t4,t5,t6⟩:=z.1.c7;have g:=d.at_.az m.1 m.2 a.toNat (by omega);rw[show((K:KS).F c).r a.toNat=s from l.out]at g;go_wp2_with fail
  go_end0
  rw[E];exact⟨rfl,_,_,d⟩
theorem wF(c:bK)(b r:Nat)(F:aj K c)(G:aP L Y c b r)(I:∀k,k<32->aH ((K.F c).r k))(a g i l j m:Int)(P:0<=a/\a<32)(h:ae w χ L Y C K):
 Calls prog 165 #[(L.mb,0),(b,r),.agg #[.int .i64 46,a,g,i,.int .u64 l,j,m]] w (de (.tuple #[]) χ L Y C K (bd K c ⟨46,a,g,i,l,j,m⟩) w):=by
 have H:=Z h;have t:=Z F;have x:=Z G;obtain⟨M,J,Q,A,n⟩:=h.pre 46 a g i l j m;obtain⟨U,V⟩:=P;obtain⟨s,q⟩:∃y,(K.F c).r a.toNat=y:=⟨_,rfl⟩;have o:=Z q;have z:=Z (I a.toNat (by omega));rw[q]at z;obtain⟨S,T⟩:=z.out;clear q;obtain⟨t0,t1,t2,t3,t4,t5,t6⟩:=n.1.c7;have f:=A.at_.az t x a.toNat (by omega);rw[o]at f;clear h F G I;have E:Hid (bd K c ⟨46,a,g,i,l,j,m⟩={K with cV:=(iC K.cV s).2}):=Z (by unfold bd;dsimp only;rw[if_neg (by decide),if_neg (by decide),if_neg (by decide),if_pos rfl,o]);go_enter func165,ntmps165
 go_wp2_with fail
 try rw[J]
 clear J;go_quiet (fail)
 obtain⟨w1,p⟩:=nm (M.drewN nq);have u:Hid (Ch ag M w1):=Z (by rw[<-p];exact(Ch.refl _ _).drewN nq);rw[p];clear p;have d:=Z (A.af u);have B:Hid (aj K c/\aP L Y c b r):=Z ⟨t,x⟩;have N:=Z ((Nx.af u).row n.1 n.2);clear t0 t1 t2 t3 t4 t5 t6 f;obtain⟨t0,t1,t2,t3,t4,t5,t6⟩:=N.1.c7;have f:=d.at_.az B.1 B.2 a.toNat (by omega);rw[show((K:KS).F c).r a.toNat=s from o.out]at f;have k1:=d.at_.iF;go_wp2_with fail
 go_still_tail 7,(by kernel_rfl)
 change wpList _ _ _ _ _ w1.drew;go_wp2_with fail
 refine(DQ s d.at_.drew).mono ?_;rintro e w2 ⟨⟨v,rfl,_⟩,W,R,D⟩;have O:=Z ((d.af (Ch.refl _ _).drew).trans (Gr.refl _) D);clear D;go_wp2_with fail
 go_end0
 rw[E];exact⟨rfl,_,_,O⟩
theorem wG(c:bK)(b q:Nat)(av:aj K c)(bi:aP L Y c b q)(a0:∀k,k<32->aH ((K.F c).r k))(a d J l M N:Int)(bw:0<=a/\a<32)(hb:0<=d/\d<32)(a1:aH l)(h:ae w χ L Y C K):
 Calls prog 165 #[(L.mb,0),(b,q),.agg #[.int .i64 45,a,d,J,.int .u64 l,M,N]] w (de (.tuple #[]) χ L Y C K (bd K c ⟨45,a,d,J,l,M,N⟩) w):=by
 have H:=Z h;have B:=Z av;have D:=Z bi;obtain⟨I,G,c1,P,z⟩:=h.pre 45 a d J l M N;obtain⟨cb,cd⟩:=bw;obtain⟨ab,a2⟩:∃y,(K.F c).r a.toNat=y:=⟨_,rfl⟩;have U:=Z a2;have al:=Z (a0 a.toNat (by omega));rw[a2]at al;obtain⟨c4,c5⟩:=al.out;clear a2;obtain⟨ce,cf⟩:=hb;obtain⟨t,a3⟩:∃y,(K.F c).r d.toNat=y:=⟨_,rfl⟩;have x:=Z a3;have am:=Z (a0 d.toNat (by omega));rw[a3]at am;obtain⟨c6,c7⟩:=am.out;clear a3;obtain⟨t0,t1,t2,t3,t4,t5,t6⟩:=z.1.c7;have n:=P.at_.az B D a.toNat (by omega);rw[U]at n;have j:=P.at_.az B D d.toNat (by omega);rw[x]at j;obtain⟨c8,c9⟩:=a1;clear h av bi a0;by_cases W:l<=6
 ·obtain⟨p,X⟩:=nm (fH K.cV l t)
  have ad:=Z X;have V:=Z (fun w h=>DP (K:=K) (w:=w) (χ:=χ) (L:=L) (Y:=Y) (C:=C) l t h);rw[X]at V;clear X;obtain⟨r,l'⟩:=p;have c2:IntKind.i64.wrap l=l:=IntWalk.i64_in _ (by omega);have c3:wrap64 l=l:=by unfold wrap64;omega
  cases r with
  |none=>
   have E:Hid (bd K c ⟨45,a,d,J,l,M,N⟩={K with cV:=l'}.au c a.toNat 0):=Z (by unfold bd;dsimp only;rw[if_neg (by decide),if_neg (by decide),if_pos rfl,if_pos W,x,ad];first|rfl|rw[rfl]);have O:Hid (Gr K {K with cV:=l'}):=Z (Gr.of_eq rfl);go_enter func165,ntmps165
   go_wp2_with fail
   try rw[G]
   clear G;go_quiet (fail)
   obtain⟨w1,o⟩:=nm (I.drewN nq);have u:Hid (Ch ag I w1):=Z (by rw[<-o];exact(Ch.refl _ _).drewN nq);rw[o];clear o;have g:=Z (P.af u);have f:Hid (aj K c/\aP L Y c b q):=Z ⟨B,D⟩;have s:=Z ((Nx.af u).row z.1 z.2);clear t0 t1 t2 t3 t4 t5 t6 n j;obtain⟨t0,t1,t2,t3,t4,t5,t6⟩:=s.1.c7;have n:=g.at_.az f.1 f.2 a.toNat (by omega);rw[show((K:KS).F c).r a.toNat=ab from U.out]at n;have j:=g.at_.az f.1 f.2 d.toNat (by omega);rw[show((K:KS).F c).r d.toNat=t from x.out]at j;have k1:=g.at_.iF;go_wp2_with fail
   go_region_held3 (fun w'=>w'.cell? (L.mb,1013)=some (.pointer (some (L.ob,0)))/\w'.cell? ⟨w.heap.size,2,none⟩=some (.int .i64 d)/\w'.cell? ⟨w.heap.size,4,none⟩=some (.int .u64 l)/\w'.cell? (b,q+1+d.toNat)=some (.int .u64 t)) (go_keep) ((go_at_call 192;refine(V _ g.at_.drew).mono ?_;rintro e w2 ⟨⟨v,rfl,a1⟩,c0,bv,F⟩;obtain⟨tt,ch,rfl⟩:=a1;have m:=Z ((g.af (Ch.refl _ _).drew).trans (Gr.refl _) F);have A:=Z (((Nx.af (Ch.refl _ w1).drew).trans F.nx).row s.1 s.2);have i:=Z (m.cur B D (Gr.of_eq rfl) rfl);clear F t0 t1 t2 t3 t4 t5 t6 n j k1;have k1:=m.at_.iF;have t1:=A.1.k 1 rfl;have t2:=A.1.k 2 rfl;have t4:=A.1.k 4 rfl;have n:=m.at_.az i.1 i.2 a.toNat (by omega);have j:=m.at_.az i.1 i.2 d.toNat (by omega);rw[show(({K with cV:=l'}:KS).F c).r d.toNat=t from x.out]at j;have ap:=m.at_.g1 i.1 i.2 (q+1+a.toNat);have R:=Z (m.at_.a6 i.1 i.2 a.toNat (by omega) 0)))
   all_goals
    go_wp2_with fail
    go_end0
    rw[E];obtain⟨T,Q,S⟩:=R.out;exact⟨rfl,T,Q,m.trans O S⟩
  |some r=>
   have E:Hid (bd K c ⟨45,a,d,J,l,M,N⟩={K with cV:=l'}.au c a.toNat r):=Z (by unfold bd;dsimp only;rw[if_neg (by decide),if_neg (by decide),if_pos rfl,if_pos W,x,ad];first|rfl|rw[rfl]);have O:Hid (Gr K {K with cV:=l'}):=Z (Gr.of_eq rfl);go_enter func165,ntmps165
   go_wp2_with fail
   try rw[G]
   clear G;go_quiet (fail)
   obtain⟨w1,o⟩:=nm (I.drewN nq);have u:Hid (Ch ag I w1):=Z (by rw[<-o];exact(Ch.refl _ _).drewN nq);rw[o];clear o;have g:=Z (P.af u);have f:Hid (aj K c/\aP L Y c b q):=Z ⟨B,D⟩;have s:=Z ((Nx.af u).row z.1 z.2);clear t0 t1 t2 t3 t4 t5 t6 n j;obtain⟨t0,t1,t2,t3,t4,t5,t6⟩:=s.1.c7;have n:=g.at_.az f.1 f.2 a.toNat (by omega);rw[show((K:KS).F c).r a.toNat=ab from U.out]at n;have j:=g.at_.az f.1 f.2 d.toNat (by omega);rw[show((K:KS).F c).r d.toNat=t from x.out]at j;have k1:=g.at_.iF;go_wp2_with fail
   go_region_held3 (fun w'=>w'.cell? (L.mb,1013)=some (.pointer (some (L.ob,0)))/\w'.cell? ⟨w.heap.size,2,none⟩=some (.int .i64 d)/\w'.cell? ⟨w.heap.size,4,none⟩=some (.int .u64 l)/\w'.cell? (b,q+1+d.toNat)=some (.int .u64 t)) (go_keep) ((go_at_call 192;refine(V _ g.at_.drew).mono ?_;rintro e w2 ⟨rfl,c0,bv,F⟩;have m:=Z ((g.af (Ch.refl _ _).drew).trans (Gr.refl _) F);have A:=Z (((Nx.af (Ch.refl _ w1).drew).trans F.nx).row s.1 s.2);have i:=Z (m.cur B D (Gr.of_eq rfl) rfl);clear F t0 t1 t2 t3 t4 t5 t6 n j k1;have k1:=m.at_.iF;have t1:=A.1.k 1 rfl;have t2:=A.1.k 2 rfl;have t4:=A.1.k 4 rfl;have n:=m.at_.az i.1 i.2 a.toNat (by omega);have j:=m.at_.az i.1 i.2 d.toNat (by omega);rw[show(({K with cV:=l'}:KS).F c).r d.toNat=t from x.out]at j;have ap:=m.at_.g1 i.1 i.2 (q+1+a.toNat);have R:=Z (m.at_.a6 i.1 i.2 a.toNat (by omega) r)))
   all_goals
    go_wp2_with fail
    go_end0
    rw[E];obtain⟨T,Q,S⟩:=R.out;exact⟨rfl,T,Q,m.trans O S⟩
 ·have E:Hid (bd K c ⟨45,a,d,J,l,M,N⟩=K.au c a.toNat 0):=Z (by unfold bd;dsimp only;rw[if_neg (by decide),if_neg (by decide),if_pos rfl,if_neg W])
  have O:Hid (Gr K K):=Z (Gr.refl _);go_enter func165,ntmps165
  go_wp2_with fail
  try rw[G]
  clear G;go_quiet (fail)
  obtain⟨w1,o⟩:=nm (I.drewN nq);have u:Hid (Ch ag I w1):=Z (by rw[<-o];exact(Ch.refl _ _).drewN nq);rw[o];clear o;have g:=Z (P.af u);have f:Hid (aj K c/\aP L Y c b q):=Z ⟨B,D⟩;have s:=Z ((Nx.af u).row z.1 z.2);clear t0 t1 t2 t3 t4 t5 t6 n j;obtain⟨t0,t1,t2,t3,t4,t5,t6⟩:=s.1.c7;have n:=g.at_.az f.1 f.2 a.toNat (by omega);rw[show((K:KS).F c).r a.toNat=ab from U.out]at n;have j:=g.at_.az f.1 f.2 d.toNat (by omega);rw[show((K:KS).F c).r d.toNat=t from x.out]at j;have ap:=g.at_.g1 f.1 f.2 (q+1+a.toNat);have R:=Z (g.at_.a6 f.1 f.2 a.toNat (by omega) 0);go_wp2_with fail
  go_end0
  rw[E];obtain⟨T,Q,S⟩:=R.out;exact⟨rfl,T,Q,g.trans O S⟩
end
end
section
section
variable{w:World}{χ:Nat->a4}{L:cw}{Y:Var}{C:KC}{K:KS}
theorem tu(c:bK)(b o:Nat)(c5:aj K c)(c6:aP L Y c b o)(bi:∀k,k<32->aH ((K.F c).r k))(a i O Q P R:Int)(cd:0<=a/\a<32)(hb:0<=i/\i<32)(ap:K.blocks.Ok)(h:ae w χ L Y C K):
 Calls prog 165 #[(L.mb,0),(b,o),.agg #[.int .i64 43,a,i,O,.int .u64 Q,P,R]] w (de (.tuple #[]) χ L Y C K (bd K c ⟨43,a,i,O,Q,P,R⟩) w):=by
 have H:=Z h;have l:=Z c5;have F:=Z c6;obtain⟨N,M,ck,U,B⟩:=h.pre 43 a i O Q P R;obtain⟨cQ,cS⟩:=cd;obtain⟨c1,bv⟩:∃y,(K.F c).r a.toNat=y:=⟨_,rfl⟩;have ad:=Z bv;have c2:=Z (bi a.toNat (by omega));rw[bv]at c2;obtain⟨cs,cA⟩:=c2.out;clear bv;obtain⟨c0,cW⟩:=hb;obtain⟨al,bw⟩:∃y,(K.F c).r i.toNat=y:=⟨_,rfl⟩;have G:=Z bw;have c3:=Z (bi i.toNat (by omega));rw[bw]at c3;obtain⟨cC,cL⟩:=c3.out;clear bw;obtain⟨t0,t1,t2,t3,t4,t5,t6⟩:=B.1.c7;have f:=U.at_.az l F a.toNat (by omega);rw[ad]at f;have u:=U.at_.az l F i.toNat (by omega);rw[G]at u;clear h c5 c6 bi;by_cases av:al<=4096
 ·obtain⟨m,ce⟩:∃m:Nat,al=(m:Int):=⟨al.toNat,by omega⟩
  subst ce;obtain⟨p,c7⟩:=nm (c' K.blocks K.mem m);have T:=Z c7;clear c7;obtain⟨cb,B1,c4⟩:=p;cases cb with
  |none=>
   have E:Hid (bd K c ⟨43,a,i,O,Q,P,R⟩=({K.au c a.toNat 0 with blocks:=B1,mem:=c4}:KS).au c a.toNat 0):=Z (by unfold bd;dsimp only;rw[if_pos rfl,if_pos c0,G,if_pos av,Int.toNat_natCast,b7,gd,T]);go_enter func165,ntmps165
   go_wp2_with fail
   try rw[M]
   clear M;go_quiet (fail)
   obtain⟨w1,t⟩:=nm (N.drewN nq);have x:Hid (Ch ag N w1):=Z (by rw[<-t];exact(Ch.refl _ _).drewN nq);rw[t];clear t;have j:=Z (U.af x);have d:Hid (aj K c/\aP L Y c b o):=Z ⟨l,F⟩;have S:=Z ((Nx.af x).row B.1 B.2);clear t0 t1 t2 t3 t4 t5 t6 f u;obtain⟨t0,t1,t2,t3,t4,t5,t6⟩:=S.1.c7;have f:=j.at_.az d.1 d.2 a.toNat (by omega);rw[show((K:KS).F c).r a.toNat=c1 from ad.out]at f;have u:=j.at_.az d.1 d.2 i.toNat (by omega);rw[show((K:KS).F c).r i.toNat=(m:Int)from G.out]at u;have a3:=f;have q:=j.at_.g1 d.1 d.2 (o+1+a.toNat);have a1:=Z (fun w (h:ae w χ L Y C K)=>h.a6 d.1 d.2 a.toNat (by omega) 0);go_wp2_with fail
   go_quiet (fail)
   generalize A:w1.drewN _=w2;have r:=Z (Ch.dN (D:=ag) A);clear A;have f:=r.k f;have q:=(r.frozen (p:=⟨b,o+1+a.toNat,none⟩) (aE a3) (fun h=>h)).trans q;have z:=Z (j.af r);obtain⟨ch,c8,I⟩:=a1 _ z.at_;have V:=Z (z.trans (Gr.refl _) I);have am:=I.at_.oG;clear I;go_wp2_with fail
   have J:=ru (K:=K.au c a.toNat 0) m (by omega) (by rw[b7];exact ap) V.at_;rw[b7,gd,T]at J;refine J.mono ?_;clear J;rintro e w4 ⟨⟨v,rfl,cf⟩,ci,c9,X⟩;obtain⟨tt,dr,rfl⟩:=cf;have s:=Z (V.trans (bs l _) X);have n:=Z (s.cur l F ((bs l _).trans (Gr.of_eq rfl)) (bm _ _));clear X f q am;have f:=s.at_.az n.1 n.2 a.toNat (by omega);have q:=s.at_.g1 n.1 n.2 (o+1+a.toNat);have a0:=Z (s.at_.a6 n.1 n.2 a.toNat (by omega) 0);go_wp2_with fail
   go_end0
   rw[E];obtain⟨ab,W,a2⟩:=a0.out;exact⟨rfl,ab,W,s.trans ((bs l _).trans (Gr.of_eq rfl)) a2⟩
  |some g=>
   have E:Hid (bd K c ⟨43,a,i,O,Q,P,R⟩=({K.au c a.toNat 0 with blocks:=B1,mem:=c4}:KS).au c a.toNat (g:Int)):=Z (by unfold bd;dsimp only;rw[if_pos rfl,if_pos c0,G,if_pos av,Int.toNat_natCast,b7,gd,T]);have cl:=mG ap (show(c' K.blocks K.mem m).1=some g by rw[T]);have cq:IntKind.u64.wrap (g:Int)=g:=by unfold IntKind.wrap IntKind.bits IntKind.signed;simp;omega
   have cm:(g:Int)<=140000:=by omega
   go_enter func165,ntmps165
   go_wp2_with fail
   try rw[M]
   clear M;go_quiet (fail)
   obtain⟨w1,t⟩:=nm (N.drewN nq);have x:Hid (Ch ag N w1):=Z (by rw[<-t];exact(Ch.refl _ _).drewN nq);rw[t];clear t;have j:=Z (U.af x);have d:Hid (aj K c/\aP L Y c b o):=Z ⟨l,F⟩;have S:=Z ((Nx.af x).row B.1 B.2);clear t0 t1 t2 t3 t4 t5 t6 f u;obtain⟨t0,t1,t2,t3,t4,t5,t6⟩:=S.1.c7;have f:=j.at_.az d.1 d.2 a.toNat (by omega);rw[show((K:KS).F c).r a.toNat=c1 from ad.out]at f;have u:=j.at_.az d.1 d.2 i.toNat (by omega);rw[show((K:KS).F c).r i.toNat=(m:Int)from G.out]at u;have a3:=f;have q:=j.at_.g1 d.1 d.2 (o+1+a.toNat);have a1:=Z (fun w (h:ae w χ L Y C K)=>h.a6 d.1 d.2 a.toNat (by omega) 0);go_wp2_with fail
   go_quiet (fail)
   generalize A:w1.drewN _=w2;have r:=Z (Ch.dN (D:=ag) A);clear A;have f:=r.k f;have q:=(r.frozen (p:=⟨b,o+1+a.toNat,none⟩) (aE a3) (fun h=>h)).trans q;have z:=Z (j.af r);obtain⟨ch,c8,I⟩:=a1 _ z.at_;have V:=Z (z.trans (Gr.refl _) I);have am:=I.at_.oG;clear I;go_wp2_with fail
   have J:=ru (K:=K.au c a.toNat 0) m (by omega) (by rw[b7];exact ap) V.at_;rw[b7,gd,T]at J;refine J.mono ?_;clear J;rintro e w4 ⟨rfl,ci,c9,X⟩;have s:=Z (V.trans (bs l _) X);have n:=Z (s.cur l F ((bs l _).trans (Gr.of_eq rfl)) (bm _ _));clear X f q am;have f:=s.at_.az n.1 n.2 a.toNat (by omega);have q:=s.at_.g1 n.1 n.2 (o+1+a.toNat);have a0:=Z (s.at_.a6 n.1 n.2 a.toNat (by omega) (g:Int));go_wp2_with fail
   go_end0
   rw[E];obtain⟨ab,W,a2⟩:=a0.out;exact⟨rfl,ab,W,s.trans ((bs l _).trans (Gr.of_eq rfl)) a2⟩
 ·have E:Hid (bd K c ⟨43,a,i,O,Q,P,R⟩=K.au c a.toNat 0):=Z (by unfold bd;dsimp only;rw[if_pos rfl,if_pos c0,G,if_neg av])
  go_enter func165,ntmps165
  go_wp2_with fail
  try rw[M]
  clear M;go_quiet (fail)
  obtain⟨w1,t⟩:=nm (N.drewN nq);have x:Hid (Ch ag N w1):=Z (by rw[<-t];exact(Ch.refl _ _).drewN nq);rw[t];clear t;have j:=Z (U.af x);have d:Hid (aj K c/\aP L Y c b o):=Z ⟨l,F⟩;have S:=Z ((Nx.af x).row B.1 B.2);clear t0 t1 t2 t3 t4 t5 t6 f u;obtain⟨t0,t1,t2,t3,t4,t5,t6⟩:=S.1.c7;have f:=j.at_.az d.1 d.2 a.toNat (by omega);rw[show((K:KS).F c).r a.toNat=c1 from ad.out]at f;have u:=j.at_.az d.1 d.2 i.toNat (by omega);rw[show((K:KS).F c).r i.toNat=al from G.out]at u;have a3:=f;have q:=j.at_.g1 d.1 d.2 (o+1+a.toNat);have a1:=Z (fun w (h:ae w χ L Y C K)=>h.a6 d.1 d.2 a.toNat (by omega) 0);go_wp2_with fail
  go_quiet (fail)
  generalize A:w1.drewN _=w2;have r:=Z (Ch.dN (D:=ag) A);clear A;have f:=r.k f;have q:=(r.frozen (p:=⟨b,o+1+a.toNat,none⟩) (aE a3) (fun h=>h)).trans q;have z:=Z (j.af r);have a0:=Z (a1 _ z.at_);go_wp2_with fail
  go_end0
  rw[E];obtain⟨ab,W,a2⟩:=a0.out;exact⟨rfl,ab,W,z.trans (Gr.refl _) a2⟩
theorem tv(c:bK)(b q:Nat)(al:aj K c)(am:aP L Y c b q)(av:∀k,k<32->aH ((K.F c).r k))(a F s G I:Int)(c0:0<=a/\a<32)(a1:aH s)(X:K.blocks.Ok)(h:ae w χ L Y C K):
 Calls prog 165 #[(L.mb,0),(b,q),.agg #[.int .i64 43,a,.int .i64 (-1),F,.int .u64 s,G,I]] w (de (.tuple #[]) χ L Y C K (bd K c ⟨43,a,(-1),F,s,G,I⟩) w):=by
 have H:=Z h;have l:=Z al;have z:=Z am;obtain⟨D,B,c4,V,t⟩:=h.pre 43 a (-1) F s G I;obtain⟨ce,cf⟩:=c0;obtain⟨a3,a2⟩:∃y,(K.F c).r a.toNat=y:=⟨_,rfl⟩;have U:=Z a2;have ab:=Z (av a.toNat (by omega));rw[a2]at ab;obtain⟨c8,c9⟩:=ab.out;clear a2;obtain⟨t0,t1,t2,t3,t4,t5,t6⟩:=t.1.c7;have i:=V.at_.az l z a.toNat (by omega);rw[U]at i;obtain⟨cb,cd⟩:=a1;clear h al am av;by_cases a0:s<=4096
 ·obtain⟨m,c1⟩:∃m:Nat,s=(m:Int):=⟨s.toNat,by omega⟩
  subst c1;obtain⟨p,ap⟩:=nm (c' K.blocks K.mem m);have M:=Z ap;clear ap;obtain⟨bw,B1,ad⟩:=p;cases bw with
  |none=>
   have E:Hid (bd K c ⟨43,a,(-1),F,(m:Int),G,I⟩=({K.au c a.toNat 0 with blocks:=B1,mem:=ad}:KS).au c a.toNat 0):=Z (by unfold bd;dsimp only;rw[if_pos rfl,if_neg (show¬(0:Int)<=-1 by decide),if_pos a0,Int.toNat_natCast,b7,gd,M]);go_enter func165,ntmps165
   go_wp2_with fail
   try rw[B]
   clear B;go_quiet (fail)
   obtain⟨w1,o⟩:=nm (D.drewN nq);have r:Hid (Ch ag D w1):=Z (by rw[<-o];exact(Ch.refl _ _).drewN nq);rw[o];clear o;have f:=Z (V.af r);have d:Hid (aj K c/\aP L Y c b q):=Z ⟨l,z⟩;have J:=Z ((Nx.af r).row t.1 t.2);clear t0 t1 t2 t3 t4 t5 t6 i;obtain⟨t0,t1,t2,t3,t4,t5,t6⟩:=J.1.c7;have i:=f.at_.az d.1 d.2 a.toNat (by omega);rw[show((K:KS).F c).r a.toNat=a3 from U.out]at i;have A:=f.at_.g1 d.1 d.2 (q+1+a.toNat);have R:=Z (fun w (h:ae w χ L Y C K)=>h.a6 d.1 d.2 a.toNat (by omega) 0);obtain⟨c2,bi,u⟩:=R _ f.at_;have N:=Z (f.trans (Gr.refl _) u);have W:=u.at_.oG;clear u;go_wp2_with fail
   have x:=ru (K:=K.au c a.toNat 0) m (by omega) (by rw[b7];exact X) N.at_;rw[b7,gd,M]at x;refine x.mono ?_;clear x;rintro e w4 ⟨⟨v,rfl,a1⟩,c3,bv,P⟩;obtain⟨tt,ch,rfl⟩:=a1;have n:=Z (N.trans (bs l _) P);have j:=Z (n.cur l z ((bs l _).trans (Gr.of_eq rfl)) (bm _ _));clear P i A W;have i:=n.at_.az j.1 j.2 a.toNat (by omega);have A:=n.at_.g1 j.1 j.2 (q+1+a.toNat);have Q:=Z (n.at_.a6 j.1 j.2 a.toNat (by omega) 0);go_wp2_with fail
   go_end0
   rw[E];obtain⟨T,O,S⟩:=Q.out;exact⟨rfl,T,O,n.trans ((bs l _).trans (Gr.of_eq rfl)) S⟩
  |some g=>
   have E:Hid (bd K c ⟨43,a,(-1),F,(m:Int),G,I⟩=({K.au c a.toNat 0 with blocks:=B1,mem:=ad}:KS).au c a.toNat (g:Int)):=Z (by unfold bd;dsimp only;rw[if_pos rfl,if_neg (show¬(0:Int)<=-1 by decide),if_pos a0,Int.toNat_natCast,b7,gd,M]);have c5:=mG X (show(c' K.blocks K.mem m).1=some g by rw[M]);have c7:IntKind.u64.wrap (g:Int)=g:=by unfold IntKind.wrap IntKind.bits IntKind.signed;simp;omega
   have c6:(g:Int)<=140000:=by omega
   go_enter func165,ntmps165
   go_wp2_with fail
   try rw[B]
   clear B;go_quiet (fail)
   obtain⟨w1,o⟩:=nm (D.drewN nq);have r:Hid (Ch ag D w1):=Z (by rw[<-o];exact(Ch.refl _ _).drewN nq);rw[o];clear o;have f:=Z (V.af r);have d:Hid (aj K c/\aP L Y c b q):=Z ⟨l,z⟩;have J:=Z ((Nx.af r).row t.1 t.2);clear t0 t1 t2 t3 t4 t5 t6 i;obtain⟨t0,t1,t2,t3,t4,t5,t6⟩:=J.1.c7;have i:=f.at_.az d.1 d.2 a.toNat (by omega);rw[show((K:KS).F c).r a.toNat=a3 from U.out]at i;have A:=f.at_.g1 d.1 d.2 (q+1+a.toNat);have R:=Z (fun w (h:ae w χ L Y C K)=>h.a6 d.1 d.2 a.toNat (by omega) 0);obtain⟨c2,bi,u⟩:=R _ f.at_;have N:=Z (f.trans (Gr.refl _) u);have W:=u.at_.oG;clear u;go_wp2_with fail
   have x:=ru (K:=K.au c a.toNat 0) m (by omega) (by rw[b7];exact X) N.at_;rw[b7,gd,M]at x;refine x.mono ?_;clear x;rintro e w4 ⟨rfl,c3,bv,P⟩;have n:=Z (N.trans (bs l _) P);have j:=Z (n.cur l z ((bs l _).trans (Gr.of_eq rfl)) (bm _ _));clear P i A W;have i:=n.at_.az j.1 j.2 a.toNat (by omega);have A:=n.at_.g1 j.1 j.2 (q+1+a.toNat);have Q:=Z (n.at_.a6 j.1 j.2 a.toNat (by omega) (g:Int));go_wp2_with fail
   go_end0
   rw[E];obtain⟨T,O,S⟩:=Q.out;exact⟨rfl,T,O,n.trans ((bs l _).trans (Gr.of_eq rfl)) S⟩
 ·have E:Hid (bd K c ⟨43,a,(-1),F,s,G,I⟩=K.au c a.toNat 0):=Z (by unfold bd;dsimp only;rw[if_pos rfl,if_neg (show¬(0:Int)<=-1 by decide),if_neg a0])
  go_enter func165,ntmps165
  go_wp2_with fail
  try rw[B]
  clear B;go_quiet (fail)
  obtain⟨w1,o⟩:=nm (D.drewN nq);have r:Hid (Ch ag D w1):=Z (by rw[<-o];exact(Ch.refl _ _).drewN nq);rw[o];clear o;have f:=Z (V.af r);have d:Hid (aj K c/\aP L Y c b q):=Z ⟨l,z⟩;have J:=Z ((Nx.af r).row t.1 t.2);clear t0 t1 t2 t3 t4 t5 t6 i;obtain⟨t0,t1,t2,t3,t4,t5,t6⟩:=J.1.c7;have i:=f.at_.az d.1 d.2 a.toNat (by omega);rw[show((K:KS).F c).r a.toNat=a3 from U.out]at i;have A:=f.at_.g1 d.1 d.2 (q+1+a.toNat);have R:=Z (fun w (h:ae w χ L Y C K)=>h.a6 d.1 d.2 a.toNat (by omega) 0);have Q:=Z (R _ f.at_);go_wp2_with fail
  go_end0
  rw[E];obtain⟨T,O,S⟩:=Q.out;exact⟨rfl,T,O,f.trans (Gr.refl _) S⟩
end
end
end Go.Proofs.YtfnilkpkogipfaaGreatDoor
