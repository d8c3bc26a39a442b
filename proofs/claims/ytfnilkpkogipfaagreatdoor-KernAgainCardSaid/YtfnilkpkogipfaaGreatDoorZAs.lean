import Derived.Deep.RegionWith
import Derived.Test.YtfnilkpkogipfaaGreatDoorZAl
import Derived.Test.YtfnilkpkogipfaaGreatDoorZAm
import Derived.Test.YtfnilkpkogipfaaGreatDoorZAn
set_option linter.all false
set_option maxRecDepth 100000
set_option maxHeartbeats 8000000
namespace Go.Proofs.YtfnilkpkogipfaaGreatDoor
open Go.RowKit Go.Proofs.Tryz
section
section
variable{w w':World}{χ:Nat->aX}{L:cz}{Y:Var}{C:KC}{K:KS}
theorem nY{l:List aR}{pc:Int}(a:0<=pc)(b:pc<l.length):l[pc.toNat]?=some (ff l pc):=by
 unfold ff;rw[if_pos ⟨a,b⟩,List.getD_eq_getElem?_getD,List.getElem?_eq_getElem (by omega)];rfl
theorem lR{l:List aR}{pc:Int}(h:¬(0<=pc/\pc<l.length)):ff l pc=⟨0,0,0,0,0,0,0⟩:=by unfold ff;rw[if_neg h]
theorem FD(c:bN)(b m:Nat)(n:ak K c)(r:aS L Y c b m)(G:∀k,k<32->aI ((K.F c).r k))(z:(K.F c).back.length<=8)(I:∀x∈C.dG,aI x.v)(J:C.dG.length<=2048)(h:ae w χ L Y C K):
 Calls prog 28 #[(b,m),.slice L.lc C.dG.length L.Dg,.iface 73 (.pointer (some (L.m,0)))] w
  (wQ (cF C K c).2.1 (fun w'=>∃aY Y',dJ χ L Y C K (cF C K c).2.2 w aY Y' w')):=by
 obtain⟨pre,post,v,p,q,t⟩:=h.FB n r;have a:=h.mem (by simp);have o:=h.code (by simp);have l:b≠L.m/\b≠L.c/\b≠L.d:=by
  refine⟨?_,?_,?_⟩<;>intro e<;>subst e<;>rcases q with e|⟨_,_,e⟩
  ·rw[a.k1]at e;cases e
  ·rw[a.k1]at e;cases e
  ·rw[a.k2]at e;cases e
  ·rw[a.k2]at e;cases e
  ·rw[a.k3]at e;cases e
  ·rw[a.k3]at e;cases e
 have H:=nD (rH L.m L.c L.d) K.mem (Z trivial) b m (qH c) (kV c) pre post v (K.F c) C.dG L.lc C.dG.length L.Dg rfl o.mR (by omega) z G I w p
  (fun s=>by obtain⟨g,f,d,_⟩:=o.b7 (by intro e;rw[e]at s;exact absurd s (by simp));exact⟨g,0,f,fun j u D=>by rw[Nat.zero_add];exact d.cell j u D⟩) a.is
  (fun S w w' O f1 P f2 f _ _ _ d=>aM.ch f d (fun e=>l.1 (Eq.symm e)) (fun e=>l.2.1 (Eq.symm e)) (fun e=>l.2.2 (Eq.symm e)))
  (fun e=>by rcases e with e|e;exact l.1 e;exact l.2.1 e)
  (fun i M e=>by rcases e with rfl|rfl;have:=a.is.head.lt;omega;have:=a.is.cells.lt;omega)
  (fun g B e=>by
   have d:=t g B;rcases e with rfl|rfl
   ·rw[a.k1]at d;cases d
   ·rw[a.k2]at d;cases d)
 refine H.mono ?_;rintro e w' ⟨f,⟨N,A,E⟩,F,y⟩;exact⟨f,h.Cb n r p q t A E F y⟩
theorem xr(x:aR):aK x=.agg #[x.op,x.a,x.b,x.c,.int .u64 x.v,x.m,x.wh]:=rfl
theorem pE(c:bN)(b cQ:Nat)(cb:ak K c)(cd:aS L Y c b cQ)(dC:∀k,k<32->aI ((K.F c).r k))(cS:(K.F c).back.length<=8)(en:∀x∈C.dG,aI x.v)(cs:C.dG.length<=2048)(h:ae w χ L Y C K):
 Calls prog 141 #[(L.mb,0),(b,cQ)] w (dj (.tuple #[aK (cF C K c).1,.int .i64 (cF C K c).2.1]) χ L Y C K (cF C K c).2.2 w):=by
 have H:=Z h;have F:=Z cb;have I:=Z cd;have M:=Z (fun w (h:ae w χ L Y C K)=>FD c b cQ cb cd dC cS en cs h);have cr:=h.code (by simp);have hF:=Z cr;obtain⟨pc,ce⟩:=nm ((K.F c).pc);have J:=Z ce;obtain⟨N,al⟩:=nm C.dG.length;have t:=Z al;have i0:N<=2048:=by rw[<-al];exact cs
 have ch:=h.uh cb cd;rw[ce]at ch;have k0:=h.c0;rw[al]at k0;have l:=h.cP;have cL:(cF C K c).1=ff C.dG pc:=by unfold cF;rw[ce]
 obtain⟨s,ec⟩:=nm (cF C K c);rw[ec]at M cL⊢;obtain⟨x,n,K'⟩:=s;rw[al]at M;have cm:=Z cL;have dr:C.dG≠[]->∃g,L.lc=some ⟨g,0,none⟩/\fo w g C.dG:=fun hB=>by obtain⟨g,ad,hv,_⟩:=cr.b7 hB;exact⟨g,ad,hv⟩
 have ge:=Z dr;clear h cb cd dC cS en cs cr ce al ec cL dr;by_cases hu:pc<0
 ·have P:¬0<=pc:=by omega
  have cW:decide (0<=pc)=false:=by simpa using hu
  have cC:x=⟨0,0,0,0,0,0,0⟩:=by have:=cm.out;dsimp only at this;rw[this];exact lR (fun e=>by have O:=e.2;rw[t]at O;omega)
  subst cC;obtain⟨w1,j⟩:=nm ((w.alloc (.cells #[.int .i64 0,.int .i64 0,.int .i64 0,.int .i64 0,.int .u64 0,.int .i64 0,.int .i64 0] 121)).alloc (.cells #[.int .i64 0,.int .i64 0,.int .i64 0,.int .i64 0,.int .u64 0,.int .i64 0,.int .i64 0] 121));have G:Hid (Ch ag w w1):=Z (by rw[<-j];exact((Ch.refl _ _).alloc _).alloc _);have y:=Z (H.hC G);have Q:Hid (Row w1 w.heap.size 121 [.int .i64 0,.int .i64 0,.int .i64 0,.int .i64 0,.int .u64 0,.int .i64 0,.int .i64 0]):=Z (by rw[<-j];exact(Row.new w _ _).alloc _);have R:Hid (Row w1 (w.heap.size+1) 121 [.int .i64 0,.int .i64 0,.int .i64 0,.int .i64 0,.int .u64 0,.int .i64 0,.int .i64 0]):=Z (by
   rw[<-j];have:=Row.new (w.alloc (.cells #[.int .i64 0,.int .i64 0,.int .i64 0,.int .i64 0,.int .u64 0,.int .i64 0,.int .i64 0] 121)) #[.int .i64 0,.int .i64 0,.int .i64 0,.int .i64 0,.int .u64 0,.int .i64 0,.int .i64 0] 121
   rwa [World.size_alloc]at this)
  have p1:=y.at_.uh F I;rw[J]at p1;have k1:=y.at_.c0;rw[t]at k1;clear ch k0 l;go_in
  go_upto_region 2 with fail
  try rw[j]
  clear j;go_quiet (fail)
  obtain⟨w2,p⟩:=nm (w1.drewN nq);have r:=Z (Ch.dN (D:=ag) p);rw[p];clear p;have i:=Z (y.af r);have A:=Z (Q.ch r id);have f:=Z (R.ch r id);clear p1 k1;have p1:=i.at_.uh F I;rw[J]at p1;have k1:=i.at_.c0;rw[t]at k1;have l:=i.at_.cP;go_wp2
  go_region_held3 (fun w'=>w'.cell? (L.mb,0)=some (.slice L.lc N L.Dg)/\w'.cell? (L.mb,1007)=some (.pointer (some (L.m,0)))) (go_keep) ((go_at_call 28;refine(M _ i.at_.drew).mono ?_;rintro e w3 ⟨⟨u,rfl,am⟩,c8,V,o⟩;have z:=Z ((i.af (Ch.refl _ _).drew).trans (Gr.refl _) o);have a:=Z (((Nx.af (Ch.refl _ w2).drew).trans o.nx).row A (H.fresh (Nat.le_refl _)));have d:=Z (((Nx.af (Ch.refl _ w2).drew).trans o.nx).row f (H.fresh (Nat.le_succ _)));clear o am p1 k1 l;have k1:=z.at_.c0;rw[t]at k1;have l:=z.at_.cP))
  all_goals
   clear k1 l;have x0:=d.1.c1;have a0:=a.1.c1;have f0:=a.1.free 0;have x1:=d.1.k 1 rfl;have a1:=a.1.k 1 rfl;have f1:=a.1.free 1;have x2:=d.1.k 2 rfl;have a2:=a.1.k 2 rfl;have f2:=a.1.free 2;have x3:=d.1.k 3 rfl;have a3:=a.1.k 3 rfl;have f3:=a.1.free 3;have x4:=d.1.k 4 rfl;have W:=a.1.k 4 rfl;have f4:=a.1.free 4;have x5:=d.1.k 5 rfl;have X:=a.1.k 5 rfl;have f5:=a.1.free 5;have x6:=d.1.k 6 rfl;have ab:=a.1.k 6 rfl;have f6:=a.1.free 6;go_wp2
   obtain⟨w4,q⟩:=nm ((((((((w3.setCell ⟨w.heap.size,0,none⟩ (.int .i64 0)).setCell ⟨w.heap.size,1,none⟩ (.int .i64 0)).setCell ⟨w.heap.size,2,none⟩ (.int .i64 0)).setCell ⟨w.heap.size,3,none⟩ (.int .i64 0)).setCell ⟨w.heap.size,4,none⟩ (.int .u64 0)).setCell ⟨w.heap.size,5,none⟩ (.int .i64 0)).setCell ⟨w.heap.size,6,none⟩ (.int .i64 0)));have T:Hid (Row w4 w.heap.size 121 [.int .i64 0,.int .i64 0,.int .i64 0,.int .i64 0,.int .u64 0,.int .i64 0,.int .i64 0]):=Z (by rw[<-q];exact(((((((a.1.set 0 _).set 1 _).set 2 _).set 3 _).set 4 _).set 5 _).set 6 _));have S:Hid (Ch (aL w.heap.size) w3 w4):=Z (by rw[<-q];exact((((((((Ch.refl _ _).only _ _).only _ _).only _ _).only _ _).only _ _).only _ _).only _ _));rw[q];clear q x0 x1 x2 x3 x4 x5 x6 a0 a1 a2 a3 W X ab f0 f1 f2 f3 f4 f5 f6;have U:=z.plain a.2 (Nat.le_refl _) S;obtain⟨y0,c2,c3,c4,c5,c6,c7⟩:=T.c7;refine bodyPost_ret (v:=.tuple #[aK ⟨0,0,0,0,0,0,0⟩,n]) ?_ rfl ?_
   ·simp[results,Tryz.f141,go_sem,y0,c2,c3,c4,c5,c6,c7,aK,aG]
   ·exact⟨rfl,c8,V,U⟩
 ·by_cases ad:pc<N
  ·have P:0<=pc:=by omega
   have cW:decide (0<=pc)=true:=(by simpa using P);have hw:decide (pc<(N:Int))=true:=(by simpa using ad);have ap:C.dG[pc.toNat]?=some x:=(by have:=cm.out;dsimp only at this;rw[this];exact nY P (by rw[t];exact ad));obtain⟨g,cA,dN⟩:=ge (by intro e;rw[e]at ap;cases ap);have gf:=Z dN;rw[cA]at k0 M;have c9:=Z cA;obtain⟨m,rfl⟩:=Int.eq_ofNat_of_zero_le P;rw[Int.toNat_natCast]at ap;obtain⟨eW,fb,fd,fn,fr,fz,gc⟩:=eR C.dG m x ap;have E:=Z (And.intro eW (And.intro fb (And.intro fd (And.intro fn (And.intro fr (And.intro fz gc))))));obtain⟨bx,ax,bi,bv,c0,bw,c1⟩:=x;clear ap eW fb fd fn fr fz gc dN cA;obtain⟨w1,j⟩:=nm ((w.alloc (.cells #[.int .i64 0,.int .i64 0,.int .i64 0,.int .i64 0,.int .u64 0,.int .i64 0,.int .i64 0] 121)).alloc (.cells #[.int .i64 0,.int .i64 0,.int .i64 0,.int .i64 0,.int .u64 0,.int .i64 0,.int .i64 0] 121));have G:Hid (Ch ag w w1):=Z (by rw[<-j];exact((Ch.refl _ _).alloc _).alloc _);have y:=Z (H.hC G);have Q:Hid (Row w1 w.heap.size 121 [.int .i64 0,.int .i64 0,.int .i64 0,.int .i64 0,.int .u64 0,.int .i64 0,.int .i64 0]):=Z (by rw[<-j];exact(Row.new w _ _).alloc _);have R:Hid (Row w1 (w.heap.size+1) 121 [.int .i64 0,.int .i64 0,.int .i64 0,.int .i64 0,.int .u64 0,.int .i64 0,.int .i64 0]):=Z (by
    rw[<-j];have:=Row.new (w.alloc (.cells #[.int .i64 0,.int .i64 0,.int .i64 0,.int .i64 0,.int .u64 0,.int .i64 0,.int .i64 0] 121)) #[.int .i64 0,.int .i64 0,.int .i64 0,.int .i64 0,.int .u64 0,.int .i64 0,.int .i64 0] 121
    rwa [World.size_alloc]at this)
   have p1:=y.at_.uh F I;rw[J]at p1;have k1:=y.at_.c0;rw[t,c9]at k1;clear ch k0 l;go_in
   go_upto_region 2 with fail
   try rw[j]
   clear j;go_quiet (fail)
   obtain⟨w2,p⟩:=nm (w1.drewN nq);have r:=Z (Ch.dN (D:=ag) p);rw[p];clear p;have i:=Z (y.af r);have A:=Z (Q.ch r id);have f:=Z (R.ch r id);clear p1 k1;have p1:=i.at_.uh F I;rw[J]at p1;have k1:=i.at_.c0;rw[t,c9]at k1;have B:=Z (gf.ch (G.trans r) id);have es:=B.cell _ _ E.1;have et:=B.cell _ _ E.2.1;have ex:=B.cell _ _ E.2.2.1;have eA:=B.cell _ _ E.2.2.2.1;have eC:=B.cell _ _ E.2.2.2.2.1;have eL:=B.cell _ _ E.2.2.2.2.2.1;have eS:=B.cell _ _ E.2.2.2.2.2.2;have gk:=f.c1;have he:=f.free 0;have go:=f.k 1 rfl;have hf:=f.free 1;have gr:=f.k 2 rfl;have O:=f.free 2;have gs:=f.k 3 rfl;have hi:=f.free 3;have gt:=f.k 4 rfl;have hl:=f.free 4;have hb:=f.k 5 rfl;have hm:=f.free 5;have hd:=f.k 6 rfl;have hn:=f.free 6;dsimp only at es et ex eA eC eL eS;go_wp2
   go_still_tail 11,(by kernel_rfl)
   change wpList _ _ _ _ _ w2.drew;go_upto_region 4 with fail
   obtain⟨av,cf⟩:∃av,((((((((w2.setCell ⟨w.heap.size+1,0,none⟩ (.int .i64 bx)).setCell ⟨w.heap.size+1,1,none⟩ (.int .i64 ax)).setCell ⟨w.heap.size+1,2,none⟩ (.int .i64 bi)).setCell ⟨w.heap.size+1,3,none⟩ (.int .i64 bv)).setCell ⟨w.heap.size+1,4,none⟩ (.int .u64 c0)).setCell ⟨w.heap.size+1,5,none⟩ (.int .i64 bw)).setCell ⟨w.heap.size+1,6,none⟩ (.int .i64 c1))).drew=av:=⟨_,rfl⟩;have cl:Hid (Ch (aL (w.heap.size+1)) w2 av):=Z (by rw[<-cf];exact(((((((((Ch.refl _ _).only _ _).only _ _).only _ _).only _ _).only _ _).only _ _).only _ _)).drew);have ck:Hid (Row av (w.heap.size+1) 121 [bx,ax,bi,bv,.int .u64 c0,bw,c1]):=Z (by rw[<-cf];exact((((((((f.set 0 _).set 1 _).set 2 _).set 3 _).set 4 _).set 5 _).set 6 _)).drew);rw[cf];have cq:=Z (i.plain (H.fresh (Nat.le_succ _)) (Nat.le_succ _) cl);have ci:=Z (A.ch cl (fun e=>by have O:w.heap.size=w.heap.size+1:=e;omega));clear cf p1 k1 es et ex eA eC eL eS gk go gr gs gt hb hd he hf O hi hl hm hn;clear i A f r cl;obtain⟨w2,p⟩:∃w2,av=w2:=⟨_,rfl⟩;rw[p]at cq ci ck⊢;have i:=cq;have A:=ci;have f:=ck;clear p cq ci ck;have k1:=i.at_.c0;rw[t,c9]at k1;have l:=i.at_.cP;go_wp2
   go_region_held3 (fun w'=>w'.cell? (L.mb,0)=some (.slice (some ⟨g,0,none⟩) N L.Dg)/\w'.cell? (L.mb,1007)=some (.pointer (some (L.m,0)))) (go_keep) ((go_at_call 28;refine(M _ i.at_.drew).mono ?_;rintro e w3 ⟨⟨u,rfl,am⟩,c8,V,o⟩;have z:=Z ((i.af (Ch.refl _ _).drew).trans (Gr.refl _) o);have a:=Z (((Nx.af (Ch.refl _ w2).drew).trans o.nx).row A (H.fresh (Nat.le_refl _)));have d:=Z (((Nx.af (Ch.refl _ w2).drew).trans o.nx).row f (H.fresh (Nat.le_succ _)));clear o am k1 l;have k1:=z.at_.c0;rw[t,c9]at k1;have l:=z.at_.cP))
   all_goals
    clear k1 l;have x0:=d.1.c1;have a0:=a.1.c1;have f0:=a.1.free 0;have x1:=d.1.k 1 rfl;have a1:=a.1.k 1 rfl;have f1:=a.1.free 1;have x2:=d.1.k 2 rfl;have a2:=a.1.k 2 rfl;have f2:=a.1.free 2;have x3:=d.1.k 3 rfl;have a3:=a.1.k 3 rfl;have f3:=a.1.free 3;have x4:=d.1.k 4 rfl;have W:=a.1.k 4 rfl;have f4:=a.1.free 4;have x5:=d.1.k 5 rfl;have X:=a.1.k 5 rfl;have f5:=a.1.free 5;have x6:=d.1.k 6 rfl;have ab:=a.1.k 6 rfl;have f6:=a.1.free 6;go_wp2
    obtain⟨w4,q⟩:=nm ((((((((w3.setCell ⟨w.heap.size,0,none⟩ (.int .i64 bx)).setCell ⟨w.heap.size,1,none⟩ (.int .i64 ax)).setCell ⟨w.heap.size,2,none⟩ (.int .i64 bi)).setCell ⟨w.heap.size,3,none⟩ (.int .i64 bv)).setCell ⟨w.heap.size,4,none⟩ (.int .u64 c0)).setCell ⟨w.heap.size,5,none⟩ (.int .i64 bw)).setCell ⟨w.heap.size,6,none⟩ (.int .i64 c1)));have T:Hid (Row w4 w.heap.size 121 [bx,ax,bi,bv,.int .u64 c0,bw,c1]):=Z (by rw[<-q];exact(((((((a.1.set 0 _).set 1 _).set 2 _).set 3 _).set 4 _).set 5 _).set 6 _));have S:Hid (Ch (aL w.heap.size) w3 w4):=Z (by rw[<-q];exact((((((((Ch.refl _ _).only _ _).only _ _).only _ _).only _ _).only _ _).only _ _).only _ _));rw[q];clear q x0 x1 x2 x3 x4 x5 x6 a0 a1 a2 a3 W X ab f0 f1 f2 f3 f4 f5 f6;have U:=z.plain a.2 (Nat.le_refl _) S;obtain⟨y0,c2,c3,c4,c5,c6,c7⟩:=T.c7;refine bodyPost_ret (v:=.tuple #[aK ⟨bx,ax,bi,bv,c0,bw,c1⟩,n]) ?_ rfl ?_
    ·simp[results,Tryz.f141,go_sem,y0,c2,c3,c4,c5,c6,c7,aK,aG]
    ·exact⟨rfl,c8,V,U⟩
  ·have P:0<=pc:=by omega
   have cW:decide (0<=pc)=true:=(by simpa using P);have hw:decide (pc<(N:Int))=false:=(by simpa using ad);have cC:x=⟨0,0,0,0,0,0,0⟩:=(by have:=cm.out;dsimp only at this;rw[this];exact lR (fun e=>by have O:=e.2;rw[t]at O;omega));subst cC;obtain⟨w1,j⟩:=nm ((w.alloc (.cells #[.int .i64 0,.int .i64 0,.int .i64 0,.int .i64 0,.int .u64 0,.int .i64 0,.int .i64 0] 121)).alloc (.cells #[.int .i64 0,.int .i64 0,.int .i64 0,.int .i64 0,.int .u64 0,.int .i64 0,.int .i64 0] 121));have G:Hid (Ch ag w w1):=Z (by rw[<-j];exact((Ch.refl _ _).alloc _).alloc _);have y:=Z (H.hC G);have Q:Hid (Row w1 w.heap.size 121 [.int .i64 0,.int .i64 0,.int .i64 0,.int .i64 0,.int .u64 0,.int .i64 0,.int .i64 0]):=Z (by rw[<-j];exact(Row.new w _ _).alloc _);have R:Hid (Row w1 (w.heap.size+1) 121 [.int .i64 0,.int .i64 0,.int .i64 0,.int .i64 0,.int .u64 0,.int .i64 0,.int .i64 0]):=Z (by
    rw[<-j];have:=Row.new (w.alloc (.cells #[.int .i64 0,.int .i64 0,.int .i64 0,.int .i64 0,.int .u64 0,.int .i64 0,.int .i64 0] 121)) #[.int .i64 0,.int .i64 0,.int .i64 0,.int .i64 0,.int .u64 0,.int .i64 0,.int .i64 0] 121
    rwa [World.size_alloc]at this)
   have p1:=y.at_.uh F I;rw[J]at p1;have k1:=y.at_.c0;rw[t]at k1;clear ch k0 l;go_in
   go_upto_region 2 with fail
   try rw[j]
   clear j;go_quiet (fail)
   obtain⟨w2,p⟩:=nm (w1.drewN nq);have r:=Z (Ch.dN (D:=ag) p);rw[p];clear p;have i:=Z (y.af r);have A:=Z (Q.ch r id);have f:=Z (R.ch r id);clear p1 k1;have p1:=i.at_.uh F I;rw[J]at p1;have k1:=i.at_.c0;rw[t]at k1;have l:=i.at_.cP;go_wp2
   go_region_held3 (fun w'=>w'.cell? (L.mb,0)=some (.slice L.lc N L.Dg)/\w'.cell? (L.mb,1007)=some (.pointer (some (L.m,0)))) (go_keep) ((go_at_call 28;refine(M _ i.at_.drew).mono ?_;rintro e w3 ⟨⟨u,rfl,am⟩,c8,V,o⟩;have z:=Z ((i.af (Ch.refl _ _).drew).trans (Gr.refl _) o);have a:=Z (((Nx.af (Ch.refl _ w2).drew).trans o.nx).row A (H.fresh (Nat.le_refl _)));have d:=Z (((Nx.af (Ch.refl _ w2).drew).trans o.nx).row f (H.fresh (Nat.le_succ _)));clear o am p1 k1 l;have k1:=z.at_.c0;rw[t]at k1;have l:=z.at_.cP))
   all_goals
    clear k1 l;have x0:=d.1.c1;have a0:=a.1.c1;have f0:=a.1.free 0;have x1:=d.1.k 1 rfl;have a1:=a.1.k 1 rfl;have f1:=a.1.free 1;have x2:=d.1.k 2 rfl;have a2:=a.1.k 2 rfl;have f2:=a.1.free 2;have x3:=d.1.k 3 rfl;have a3:=a.1.k 3 rfl;have f3:=a.1.free 3;have x4:=d.1.k 4 rfl;have W:=a.1.k 4 rfl;have f4:=a.1.free 4;have x5:=d.1.k 5 rfl;have X:=a.1.k 5 rfl;have f5:=a.1.free 5;have x6:=d.1.k 6 rfl;have ab:=a.1.k 6 rfl;have f6:=a.1.free 6;go_wp2
    obtain⟨w4,q⟩:=nm ((((((((w3.setCell ⟨w.heap.size,0,none⟩ (.int .i64 0)).setCell ⟨w.heap.size,1,none⟩ (.int .i64 0)).setCell ⟨w.heap.size,2,none⟩ (.int .i64 0)).setCell ⟨w.heap.size,3,none⟩ (.int .i64 0)).setCell ⟨w.heap.size,4,none⟩ (.int .u64 0)).setCell ⟨w.heap.size,5,none⟩ (.int .i64 0)).setCell ⟨w.heap.size,6,none⟩ (.int .i64 0)));have T:Hid (Row w4 w.heap.size 121 [.int .i64 0,.int .i64 0,.int .i64 0,.int .i64 0,.int .u64 0,.int .i64 0,.int .i64 0]):=Z (by rw[<-q];exact(((((((a.1.set 0 _).set 1 _).set 2 _).set 3 _).set 4 _).set 5 _).set 6 _));have S:Hid (Ch (aL w.heap.size) w3 w4):=Z (by rw[<-q];exact((((((((Ch.refl _ _).only _ _).only _ _).only _ _).only _ _).only _ _).only _ _).only _ _));rw[q];clear q x0 x1 x2 x3 x4 x5 x6 a0 a1 a2 a3 W X ab f0 f1 f2 f3 f4 f5 f6;have U:=z.plain a.2 (Nat.le_refl _) S;obtain⟨y0,c2,c3,c4,c5,c6,c7⟩:=T.c7;refine bodyPost_ret (v:=.tuple #[aK ⟨0,0,0,0,0,0,0⟩,n]) ?_ rfl ?_
    ·simp[results,Tryz.f141,go_sem,y0,c2,c3,c4,c5,c6,c7,aK,aG]
    ·exact⟨rfl,c8,V,U⟩
end
end
section
section
variable{w:World}{χ:Nat->aX}{L:cz}{Y:Var}{C:KC}{K:KS}
theorem xD(i:Nat)(N:i<K.wk.length)(c:bN)(b l:Nat)(M:ak K c)(O:aS L Y c b l)(A:∀k,k<32->aI ((K.F c).r k))(a d o q p r:Int)(V:0<=a/\a<32)(hb:0<=d/\d<32)(h:ae w χ L Y C K):
 Calls prog 166 #[(L.mb,0),(L.wb,i*38),(b,l),.agg #[.int .i64 49,a,d,o,.int .u64 q,p,r]] w (dj (.tuple #[]) χ L Y C K (bA C K i c ⟨49,a,d,o,q,p,r⟩) w):=by
 have H:=Z h;have t:=Z M;have u:=Z O;have a3:=Z N;obtain⟨Q,P,a2,z,s⟩:=h.pre 49 a d o q p r;obtain⟨bi,bv⟩:=V;obtain⟨a0,D⟩:∃y,(K.F c).r a.toNat=y:=⟨_,rfl⟩;have J:=Z D;have I:=Z (A a.toNat (by omega));rw[D]at I;obtain⟨am,ap⟩:=I.out;clear D;obtain⟨bw,bx⟩:=hb;obtain⟨g,F⟩:∃y,(K.F c).r d.toNat=y:=⟨_,rfl⟩;have x:=Z F;have v:=Z (A d.toNat (by omega));rw[F]at v;obtain⟨av,ax⟩:=v.out;clear F;obtain⟨t0,t1,t2,t3,t4,t5,t6⟩:=s.1.c7;have m:=z.at_.aC t u a.toNat (by omega);rw[J]at m;have n:=z.at_.aC t u d.toNat (by omega);rw[x]at n;clear h M O A N;have E:Hid (bA C K i c ⟨49,a,d,o,q,p,r⟩=K.az c a.toNat (d' K.table g)):=Z (by unfold bA;dsimp only;rw[if_neg (by decide),if_neg (by decide),if_neg (by decide),if_pos rfl,x,show IntKind.u64.wrap (d' K.table g)=d' K.table g from by have:=nU K.table g;unfold IntKind.wrap IntKind.bits IntKind.signed;simp;omega]);go_in
 go_wp2
 try rw[P]
 clear P;go_quiet (fail)
 obtain⟨w1,B⟩:=nm (Q.drewN nq);have G:Hid (Ch ag Q w1):=Z (by rw[<-B];exact(Ch.refl _ _).drewN nq);rw[B];clear B;have j:=Z (z.af G);have f:Hid (ak K c/\aS L Y c b l):=Z ⟨t,u⟩;have S:=Z ((Nx.af G).row s.1 s.2);clear t0 t1 t2 t3 t4 t5 t6 m n;obtain⟨t0,t1,t2,t3,t4,t5,t6⟩:=S.1.c7;have m:=j.at_.aC f.1 f.2 a.toNat (by omega);rw[show((K:KS).F c).r a.toNat=a0 from J.out]at m;have n:=j.at_.aC f.1 f.2 d.toNat (by omega);rw[show((K:KS).F c).r d.toNat=g from x.out]at n;have k1:=j.at_.ea;go_wp2_with fail
 refine(uc g v j.at_).mono ?_;rintro e w2 ⟨rfl,rfl⟩;have W:=nU K.table g;obtain⟨ad,al⟩:=W;have ab:=j.at_.hg f.1 f.2 (l+1+a.toNat);have U:=Z (j.at_.drew.a9 f.1 f.2 a.toNat (by omega) (d' K.table g));have R:Hid (Gr K _):=Z (Gr.refl K);go_wp2
 go_still_tail 6,(by kernel_rfl)
 change wpList _ _ _ _ _ w1.drew;go_wp2
 go_end0
 rw[E];obtain⟨a1,T,X⟩:=U.out;exact⟨rfl,a1,T,(j.af (Ch.refl _ _).drew).trans R X⟩
theorem xE(i:Nat)(U:i<K.wk.length)(c:bN)(b p:Nat)(S:ak K c)(V:aS L Y c b p)(G:∀k,k<32->aI ((K.F c).r k))(a d q s r t:Int)(av:0<=a/\a<32)(hb:0<=d/\d<32)(h:ae w χ L Y C K):
 Calls prog 166 #[(L.mb,0),(L.wb,i*38),(b,p),.agg #[.int .i64 50,a,d,q,.int .u64 s,r,t]] w (dj (.tuple #[]) χ L Y C K (bA C K i c ⟨50,a,d,q,s,r,t⟩) w):=by
 have H:=Z h;have x:=Z S;have z:=Z V;have bx:=Z U;obtain⟨a0,W,bw,F,u⟩:=h.pre 50 a d q s r t;obtain⟨c5,c6⟩:=av;obtain⟨a1,M⟩:∃y,(K.F c).r a.toNat=y:=⟨_,rfl⟩;have B:=Z M;have R:=Z (G a.toNat (by omega));rw[M]at R;obtain⟨c1,c2⟩:=R.out;clear M;obtain⟨c7,c8⟩:=hb;obtain⟨O,N⟩:∃y,(K.F c).r d.toNat=y:=⟨_,rfl⟩;have D:=Z N;have A:=Z (G d.toNat (by omega));rw[N]at A;obtain⟨c3,c4⟩:=A.out;clear N;obtain⟨t0,t1,t2,t3,t4,t5,t6⟩:=u.1.c7;have f:=F.at_.aC x z a.toNat (by omega);rw[B]at f;have m:=F.at_.aC x z d.toNat (by omega);rw[D]at m;obtain⟨bi,I⟩:=nm (fy K.table O);have al:=Z I;have n:=Z (fun w h=>kS (K:=K) (w:=w) (χ:=χ) (L:=L) (Y:=Y) (C:=C) O A h);rw[I]at n;clear I;obtain⟨⟨c9,cb,a2,cd,ce,cf,ch⟩,ci⟩:=bi;unfold iZ.val at n;dsimp only at n;clear h S V G U;have E:Hid (bA C K i c ⟨50,a,d,q,s,r,t⟩=K.az c a.toNat a2):=Z (by unfold bA;dsimp only;rw[if_neg (by decide),if_neg (by decide),if_neg (by decide),if_neg (by decide),if_pos rfl,D,al]);go_in
 go_wp2
 try rw[W]
 clear W;go_quiet (fail)
 obtain⟨w1,J⟩:=nm (a0.drewN nq);have P:Hid (Ch ag a0 w1):=Z (by rw[<-J];exact(Ch.refl _ _).drewN nq);rw[J];clear J;have j:=Z (F.af P);have l:Hid (ak K c/\aS L Y c b p):=Z ⟨x,z⟩;have v:=Z ((Nx.af P).row u.1 u.2);clear t0 t1 t2 t3 t4 t5 t6 f m;obtain⟨t0,t1,t2,t3,t4,t5,t6⟩:=v.1.c7;have f:=j.at_.aC l.1 l.2 a.toNat (by omega);rw[show((K:KS).F c).r a.toNat=a1 from B.out]at f;have m:=j.at_.aC l.1 l.2 d.toNat (by omega);rw[show((K:KS).F c).r d.toNat=O from D.out]at m;have k1:=j.at_.ea;go_wp2_with fail
 refine(n _ j.at_).mono ?_;rintro e w2 ⟨rfl,T⟩;have ad:=Z T;clear T;go_upto_region 23 with fail
 generalize X:w2.alloc _=w3;have Q:Hid (Ch ag w1 w3):=Z (by rw[<-X];exact ad.alloc _);clear X;have o:=Z (j.af Q);have ab:=Z ((Nx.af Q).row v.1 v.2);have g:=l;clear t0 t1 t2 t3 t4 t5 t6 f m;obtain⟨t0,t1,t2,t3,t4,t5,t6⟩:=ab.1.c7;have f:=o.at_.aC g.1 g.2 a.toNat (by omega);rw[show((K:KS).F c).r a.toNat=a1 from B.out]at f;have c0:=o.at_.hg g.1 g.2 (p+1+a.toNat);have ap:=Z (o.at_.drew.a9 g.1 g.2 a.toNat (by omega) a2);have a3:Hid (Gr K _):=Z (Gr.refl K);go_wp2
 go_still_tail 6,(by kernel_rfl)
 change wpList _ _ _ _ _ w3.drew;go_wp2
 go_end0
 rw[E];obtain⟨bv,am,ax⟩:=ap.out;exact⟨rfl,bv,am,(o.af (Ch.refl _ _).drew).trans a3 ax⟩
theorem xF(i:Nat)(bw:i<K.wk.length)(c:bN)(b z:Nat)(bv:ak K c)(bx:aS L Y c b z)(a2:∀k,k<32->aI ((K.F c).r k))(a f J N M O:Int)(c3:0<=a/\a<32)(hb:0<=f/\f<32)(c4:K.blocks.Ok)(h:ae w χ L Y C K):
 Calls prog 166 #[(L.mb,0),(L.wb,i*38),(b,z),.agg #[.int .i64 54,a,f,J,.int .u64 N,M,O]] w (dj (.tuple #[]) χ L Y C K (bA C K i c ⟨54,a,f,J,N,M,O⟩) w):=by
 have H:=Z h;have p:=Z bv;have q:=Z bx;have c9:=Z bw;obtain⟨S,R,c8,Q,A⟩:=h.pre 54 a f J N M O;obtain⟨ci,ck⟩:=c3;obtain⟨T,ad⟩:∃y,(K.F c).r a.toNat=y:=⟨_,rfl⟩;have F:=Z ad;have bi:=Z (a2 a.toNat (by omega));rw[ad]at bi;obtain⟨cd,ce⟩:=bi.out;clear ad;obtain⟨cl,cm⟩:=hb;obtain⟨t,al⟩:∃y,(K.F c).r f.toNat=y:=⟨_,rfl⟩;have G:=Z al;have P:=Z (a2 f.toNat (by omega));rw[al]at P;obtain⟨cf,ch⟩:=P.out;clear al;obtain⟨t0,t1,t2,t3,t4,t5,t6⟩:=A.1.c7;have d:=Q.at_.aC p q a.toNat (by omega);rw[F]at d;have n:=Q.at_.aC p q f.toNat (by omega);rw[G]at n;obtain⟨c5,a3⟩:=nm (fA K.table t);have ax:=Z a3;have W:=Z (fun w h=>zA (K:=K) (w:=w) (χ:=χ) (L:=L) (Y:=Y) (C:=C) t P h);rw[a3]at W;clear a3;obtain⟨cq,U,ap,c6,x⟩:=c5;clear h bv bx a2 bw;cases c6
 ·have E:Hid (bA C K i c ⟨54,a,f,J,N,M,O⟩=({K with table:=x}:KS).az c a.toNat U):=Z (by unfold bA;dsimp only;rw[if_neg (by decide),if_neg (by decide),if_pos rfl,G,ax];rfl)
  go_in
  go_wp2
  try rw[R]
  clear R;go_quiet (fail)
  obtain⟨w1,s⟩:=nm (S.drewN nq);have D:Hid (Ch ag S w1):=Z (by rw[<-s];exact(Ch.refl _ _).drewN nq);rw[s];clear s;have g:=Z (Q.af D);have l:Hid (ak K c/\aS L Y c b z):=Z ⟨p,q⟩;have o:=Z ((Nx.af D).row A.1 A.2);clear t0 t1 t2 t3 t4 t5 t6 d n;obtain⟨t0,t1,t2,t3,t4,t5,t6⟩:=o.1.c7;have d:=g.at_.aC l.1 l.2 a.toNat (by omega);rw[show((K:KS).F c).r a.toNat=T from F.out]at d;have n:=g.at_.aC l.1 l.2 f.toNat (by omega);rw[show((K:KS).F c).r f.toNat=t from G.out]at n;have k1:=g.at_.ea;go_wp2_with fail
  refine(W _ g.at_).mono ?_;rintro e w2 ⟨⟨v,rfl,ab⟩,c7,c1,r⟩;clear ab;have j:=Z (g.trans (Gr.refl _) r);have B:=Z (r.nx.row o.1 o.2);have m:=Z (j.cur p q (Gr.of_eq rfl) (rfl));clear r;clear t0 t1 t2 t3 t4 t5 t6 d n;obtain⟨t0,t1,t2,t3,t4,t5,t6⟩:=B.1.c7;have d:=j.at_.aC m.1 m.2 a.toNat (by omega);rw[show(({K with table:=x}:KS).F c).r a.toNat=T from F.out]at d;have c2:=j.at_.hg m.1 m.2 (z+1+a.toNat);have a1:=Z (j.at_.drew.a9 m.1 m.2 a.toNat (by omega) U);have V:Hid (Gr K _):=Z (Gr.of_eq rfl);go_wp2
  go_still_tail 6,(by kernel_rfl)
  change wpList _ _ _ _ _ w2.drew;go_wp2
  go_end0
  rw[E];obtain⟨av,X,am⟩:=a1.out;exact⟨rfl,av,X,(j.af (Ch.refl _ _).drew).trans V am⟩
 ·have E:Hid (bA C K i c ⟨54,a,f,J,N,M,O⟩=(ek {K with table:=x} t ap).az c a.toNat U):=Z (by unfold bA;dsimp only;rw[if_neg (by decide),if_neg (by decide),if_pos rfl,G,ax];rfl)
  go_in
  go_wp2
  try rw[R]
  clear R;go_quiet (fail)
  obtain⟨w1,s⟩:=nm (S.drewN nq);have D:Hid (Ch ag S w1):=Z (by rw[<-s];exact(Ch.refl _ _).drewN nq);rw[s];clear s;have g:=Z (Q.af D);have l:Hid (ak K c/\aS L Y c b z):=Z ⟨p,q⟩;have o:=Z ((Nx.af D).row A.1 A.2);clear t0 t1 t2 t3 t4 t5 t6 d n;obtain⟨t0,t1,t2,t3,t4,t5,t6⟩:=o.1.c7;have d:=g.at_.aC l.1 l.2 a.toNat (by omega);rw[show((K:KS).F c).r a.toNat=T from F.out]at d;have n:=g.at_.aC l.1 l.2 f.toNat (by omega);rw[show((K:KS).F c).r f.toNat=t from G.out]at n;have k1:=g.at_.ea;go_wp2_with fail
  refine(W _ g.at_).mono ?_;rintro e w2 ⟨⟨v,rfl,ab⟩,c7,c1,r⟩;clear ab;have j:=Z (g.trans (Gr.refl _) r);have B:=Z (r.nx.row o.1 o.2);have m:=Z (j.cur p q (Gr.of_eq rfl) (rfl));clear r;clear t0 t1 t2 t3 t4 t5 t6 d n;obtain⟨t0,t1,t2,t3,t4,t5,t6⟩:=B.1.c7;have d:=j.at_.aC m.1 m.2 a.toNat (by omega);rw[show(({K with table:=x}:KS).F c).r a.toNat=T from F.out]at d;go_wp2_with fail
  refine(lP (K:={K with table:=x}) t ap P (by exact c4) j.at_).mono ?_;rintro e w3 ⟨rfl,cr,cb,a0⟩;have I:=Z (j.trans (Gr.of_eq rfl) a0);have c0:=Z (a0.nx.row B.1 B.2);have u:=Z (I.cur p q (Gr.of_eq (g0 _ _ _)) (by rw[kW]));clear a0;clear t0 t1 t2 t3 t4 t5 t6 d;obtain⟨t0,t1,t2,t3,t4,t5,t6⟩:=c0.1.c7;have d:=I.at_.aC u.1 u.2 a.toNat (by omega);have c2:=I.at_.hg u.1 u.2 (z+1+a.toNat);have a1:=Z (I.at_.drew.a9 u.1 u.2 a.toNat (by omega) U);have V:Hid (Gr K _):=Z (Gr.of_eq (g0 {K with table:=x} t ap));go_wp2
  go_still_tail 6,(by kernel_rfl)
  change wpList _ _ _ _ _ w3.drew;go_wp2
  go_end0
  rw[E];obtain⟨av,X,am⟩:=a1.out;exact⟨rfl,av,X,(I.af (Ch.refl _ _).drew).trans V am⟩
theorem xG(i:Nat)(ci:i<K.wk.length)(c:bN)(b P:Nat)(ch:ak K c)(ck:aS L Y c b P)(c3:∀k,k<32->aI ((K.F c).r k))(a g ab al ad am:Int)(cs:0<=a/\a<32)(hb:0<=g/\g<32)(cA:K.blocks.Ok)(h:ae w χ L Y C K):
 Calls prog 166 #[(L.mb,0),(L.wb,i*38),(b,P),.agg #[.int .i64 52,a,g,ab,.int .u64 al,ad,am]] w (dj (.tuple #[]) χ L Y C K (bA C K i c ⟨52,a,g,ab,al,ad,am⟩) w):=by
 have H:=Z h;have G:=Z ch;have I:=Z ck;have dC:=Z ci;obtain⟨ax,av,dr,ap,Q⟩:=h.pre 52 a g ab al ad am;obtain⟨ex,eA⟩:=cs;obtain⟨f,c6⟩:∃y,(K.F c).r a.toNat=y:=⟨_,rfl⟩;have o:=Z c6;have W:=Z (c3 a.toNat (by omega));rw[c6]at W;obtain⟨ec,en⟩:=W.out;clear c6;obtain⟨eC,eL⟩:=hb;obtain⟨cl,c7⟩:∃y,(K.F c).r g.toNat=y:=⟨_,rfl⟩;have bw:=Z c7;have ce:=Z (c3 g.toNat (by omega));rw[c7]at ce;obtain⟨es,et⟩:=ce.out;clear c7;obtain⟨t0,t1,t2,t3,t4,t5,t6⟩:=Q.1.c7;have d:=ap.at_.aC G I a.toNat (by omega);rw[o]at d;have s:=ap.at_.aC G I g.toNat (by omega);rw[bw]at s;obtain⟨cL,c4⟩:=nm (fy K.table f);have cd:=Z c4;have V:=Z (fun w h=>kS (K:=K) (w:=w) (χ:=χ) (L:=L) (Y:=Y) (C:=C) f W h);rw[c4]at V;clear c4;obtain⟨⟨t,u,m,x,z,A,B⟩,eW⟩:=cL;unfold iZ.val at V;dsimp only at V;obtain⟨cC,c2⟩:=nm (e8 K.table f);have cb:=Z c2;have bv:=Z (fun w h=>xg (K:=K) (w:=w) (χ:=χ) (L:=L) (Y:=Y) (C:=C) f W h);rw[c2]at bv;clear c2;obtain⟨ok,O⟩:=cC;clear h ch ck c3 ci;cases ok
 ·have E:Hid (bA C K i c ⟨52,a,g,ab,al,ad,am⟩=({K with table:=O}:KS).az c a.toNat f):=Z (by unfold bA;dsimp only;rw[if_neg (by decide),if_pos rfl,o,cd,cb];rfl)
  go_in
  go_wp2
  try rw[av]
  clear av;go_quiet (fail)
  obtain⟨w1,J⟩:=nm (ax.drewN nq);have S:Hid (Ch ag ax w1):=Z (by rw[<-J];exact(Ch.refl _ _).drewN nq);rw[J];clear J;have j:=Z (ap.af S);have l:Hid (ak K c/\aS L Y c b P):=Z ⟨G,I⟩;have D:=Z ((Nx.af S).row Q.1 Q.2);clear t0 t1 t2 t3 t4 t5 t6 d s;obtain⟨t0,t1,t2,t3,t4,t5,t6⟩:=D.1.c7;have d:=j.at_.aC l.1 l.2 a.toNat (by omega);rw[show((K:KS).F c).r a.toNat=f from o.out]at d;have s:=j.at_.aC l.1 l.2 g.toNat (by omega);rw[show((K:KS).F c).r g.toNat=cl from bw.out]at s;have k1:=j.at_.ea;go_wp2_with fail
  refine(V _ j.at_).mono ?_;rintro e w2 ⟨rfl,a3⟩;have T:=Z a3;clear a3;go_upto_region 11 with fail
  have X:Hid (Row (w2.alloc (.cells #[.int .u64 t,u,.int .u64 m,.int .u64 x,.int .u64 z,.bool A,.bool B] 101)) w2.heap.size 101 [.int .u64 t,u,.int .u64 m,.int .u64 x,.int .u64 z,.bool A,.bool B]):=Z (Row.new w2 _ _);obtain⟨w3,M⟩:=nm (w2.alloc (.cells #[.int .u64 t,u,.int .u64 m,.int .u64 x,.int .u64 z,.bool A,.bool B] 101));rw[M]at X⊢;have U:Hid (Ch ag w1 w3):=Z (by rw[<-M];exact T.alloc _);clear M;have p:=Z (j.af U);have F:=Z ((Nx.af U).row D.1 D.2);have a2:=l;have a0:Hid (Row w3 w2.heap.size 101 [.int .u64 t,u,.int .u64 m,.int .u64 x,.int .u64 z,.bool A,.bool B]/\χ w2.heap.size=.no):=Z ⟨X,j.at_.fresh T.size⟩;clear k1;clear t0 t1 t2 t3 t4 t5 t6 d s;obtain⟨t0,t1,t2,t3,t4,t5,t6⟩:=F.1.c7;have d:=p.at_.aC a2.1 a2.2 a.toNat (by omega);rw[show((K:KS).F c).r a.toNat=f from o.out]at d;have k1:=p.at_.ea;go_wp2_with fail
  refine(bv _ p.at_).mono ?_;rintro e w4 ⟨⟨v,rfl,c5⟩,cW,cq,r⟩;obtain⟨tt,eS,rfl⟩:=c5;have cf:=Z (r.nx.row a0.1 a0.2);have n:=Z (p.trans (Gr.refl _) r);have R:=Z (r.nx.row F.1 F.2);have q:=Z (n.cur G I (Gr.of_eq rfl) (rfl));clear r;clear t0 t1 t2 t3 t4 t5 t6 d k1;obtain⟨t0,t1,t2,t3,t4,t5,t6⟩:=R.1.c7;have d:=n.at_.aC q.1 q.2 a.toNat (by omega);rw[show(({K with table:=O}:KS).F c).r a.toNat=f from o.out]at d;have cr:=n.at_.hg q.1 q.2 (P+1+a.toNat);have c1:=Z (n.at_.drew.a9 q.1 q.2 a.toNat (by omega) f);have bi:Hid (Gr K _):=Z (Gr.of_eq rfl);go_wp2
  go_still_tail 6,(by kernel_rfl)
  change wpList _ _ _ _ _ w4.drew;go_wp2
  go_end0
  rw[E];obtain⟨c9,bx,c8⟩:=c1.out;exact⟨rfl,c9,bx,(n.af (Ch.refl _ _).drew).trans bi c8⟩
 ·have E:Hid (bA C K i c ⟨52,a,g,ab,al,ad,am⟩=(ek {K with table:=O} f m).az c a.toNat f):=Z (by unfold bA;dsimp only;rw[if_neg (by decide),if_pos rfl,o,cd,cb];rfl)
  go_in
  go_wp2
  try rw[av]
  clear av;go_quiet (fail)
  obtain⟨w1,J⟩:=nm (ax.drewN nq);have S:Hid (Ch ag ax w1):=Z (by rw[<-J];exact(Ch.refl _ _).drewN nq);rw[J];clear J;have j:=Z (ap.af S);have l:Hid (ak K c/\aS L Y c b P):=Z ⟨G,I⟩;have D:=Z ((Nx.af S).row Q.1 Q.2);clear t0 t1 t2 t3 t4 t5 t6 d s;obtain⟨t0,t1,t2,t3,t4,t5,t6⟩:=D.1.c7;have d:=j.at_.aC l.1 l.2 a.toNat (by omega);rw[show((K:KS).F c).r a.toNat=f from o.out]at d;have s:=j.at_.aC l.1 l.2 g.toNat (by omega);rw[show((K:KS).F c).r g.toNat=cl from bw.out]at s;have k1:=j.at_.ea;go_wp2_with fail
  refine(V _ j.at_).mono ?_;rintro e w2 ⟨rfl,a3⟩;have T:=Z a3;clear a3;go_upto_region 11 with fail
  have X:Hid (Row (w2.alloc (.cells #[.int .u64 t,u,.int .u64 m,.int .u64 x,.int .u64 z,.bool A,.bool B] 101)) w2.heap.size 101 [.int .u64 t,u,.int .u64 m,.int .u64 x,.int .u64 z,.bool A,.bool B]):=Z (Row.new w2 _ _);obtain⟨w3,M⟩:=nm (w2.alloc (.cells #[.int .u64 t,u,.int .u64 m,.int .u64 x,.int .u64 z,.bool A,.bool B] 101));rw[M]at X⊢;have U:Hid (Ch ag w1 w3):=Z (by rw[<-M];exact T.alloc _);clear M;have p:=Z (j.af U);have F:=Z ((Nx.af U).row D.1 D.2);have a2:=l;have a0:Hid (Row w3 w2.heap.size 101 [.int .u64 t,u,.int .u64 m,.int .u64 x,.int .u64 z,.bool A,.bool B]/\χ w2.heap.size=.no):=Z ⟨X,j.at_.fresh T.size⟩;clear k1;clear t0 t1 t2 t3 t4 t5 t6 d s;obtain⟨t0,t1,t2,t3,t4,t5,t6⟩:=F.1.c7;have d:=p.at_.aC a2.1 a2.2 a.toNat (by omega);rw[show((K:KS).F c).r a.toNat=f from o.out]at d;have k1:=p.at_.ea;go_wp2_with fail
  refine(bv _ p.at_).mono ?_;rintro e w4 ⟨⟨v,rfl,c5⟩,cW,cq,r⟩;obtain rfl:v=.nilIface:=c5;have cf:=Z (r.nx.row a0.1 a0.2);have n:=Z (p.trans (Gr.refl _) r);have R:=Z (r.nx.row F.1 F.2);have q:=Z (n.cur G I (Gr.of_eq rfl) (rfl));clear r;clear t0 t1 t2 t3 t4 t5 t6 d k1;obtain⟨t0,t1,t2,t3,t4,t5,t6⟩:=R.1.c7;have d:=n.at_.aC q.1 q.2 a.toNat (by omega);rw[show(({K with table:=O}:KS).F c).r a.toNat=f from o.out]at d;have cS:=cf.1.k 2 rfl;go_wp2_with fail
  refine(lP (K:={K with table:=O}) f m W (by exact cA) n.at_).mono ?_;rintro e cQ ⟨rfl,fb,dN,c0⟩;have a1:=Z (n.trans (Gr.of_eq rfl) c0);have cm:=Z (c0.nx.row R.1 R.2);have N:=Z (a1.cur G I (Gr.of_eq (g0 _ _ _)) (by rw[kW]));clear c0;clear t0 t1 t2 t3 t4 t5 t6 d cS;obtain⟨t0,t1,t2,t3,t4,t5,t6⟩:=cm.1.c7;have d:=a1.at_.aC N.1 N.2 a.toNat (by omega);have cr:=a1.at_.hg N.1 N.2 (P+1+a.toNat);have c1:=Z (a1.at_.drew.a9 N.1 N.2 a.toNat (by omega) f);have bi:Hid (Gr K _):=Z (Gr.of_eq (g0 {K with table:=O} f m));go_wp2
  go_still_tail 6,(by kernel_rfl)
  change wpList _ _ _ _ _ cQ.drew;go_wp2
  go_end0
  rw[E];obtain⟨c9,bx,c8⟩:=c1.out;exact⟨rfl,c9,bx,(a1.af (Ch.refl _ _).drew).trans bi c8⟩
end
end
section
theorem aJ.same{w:World}{b o:Nat}{t:TypeId}{c e d g:List Value}{h i:Value}{f1 f2:cu}(j:aJ w b o t c e h f1)(k:aJ w b o t d g i f2):c=d/\e=g/\h=i:=by
 have hlen:c.length=d.length:=by rw[j.len,k.len]
 have s:c++(f1.cells h++e)=d++(f2.cells i++g):=by
  have m:=j.row;have a:=k.row;unfold Row at m a;rw[m]at a;injection a with a
  injection a with a _ _
  exact congrArg Array.toList a
 obtain⟨p,v⟩:=List.append_inj s hlen;obtain⟨x,q⟩:=List.append_inj v (by rw[cu.cY,cu.cY]);have n:=congrArg (fun l=>l[33]?) x;have r:∀(f:cu) u,(f.cells u)[33]?=some u:=fun f u=>by
  unfold cu.cells;rw[List.getElem?_cons_succ,List.getElem?_append_right (by rw[bt];omega),bt];rfl
 simp only[r]at n;exact⟨p,q,Option.some.inj n⟩
theorem Ak{α:Type}(l:List (Int×α))(k:Int)(x y:α):b8 (b8 l k x) k y=b8 l k y:=by
 induction l with
 |nil=>rw[kD,kD,dW,if_pos rfl]
 |cons z l ih=>
  rw[dW,dW];by_cases e:k=z.1
  ·rw[if_pos e,if_pos e,dW,if_pos rfl]
  ·rw[if_neg e,if_neg e,dW,if_neg e,ih]
section
variable{w w':World}{χ:Nat->aX}{L:cz}{Y:Var}{C:KC}{K:KS}
theorem ya{id:Int}{k:Nat}{t:Thread}(c:aw K.ai id=some t)(b:k<t.l.length)(f g:cu):(K.cJ (.ai id k) f).cJ (.ai id k) g=K.cJ (.ai id k) g:=by
 have a:(K.cJ (.ai id k) f).T id={K.T id with l:=(K.T id).l.set k {(K.T id).l.getD k default with f:=f}}:=KS.dk (by show aw (b8 _ _ _) _=_;rw[aV,if_pos rfl]);show(K.cJ (.ai id k) f).cn id _=K.cn id _
 rw[a];unfold KS.cJ KS.cn;dsimp only;rw[Ak]
 congr 2
 rw[KS.dk c,List.set_set,List.getD_eq_getElem?_getD,List.getElem?_set_self b];rfl
def Gg(a:KS)(c:bN)(S:aA×List Ev)(K':KS):Prop:=K'={a with mem:=S.1,out:=S.2}∨∃f,K'=({a with mem:=S.1,out:=S.2}:KS).cJ c f
theorem Ek(X:Array Value)(w:World):(Go.method 494 294 (.agg X) "Load").run prog w=.ok (243,.agg X) w:=by kernel_rfl
theorem El(X:Array Value)(w:World):(Go.method 494 294 (.agg X) "Store").run prog w=.ok (244,.agg X) w:=by kernel_rfl
theorem Em(X:Array Value)(w:World):(Go.method 494 294 (.agg X) "Swap").run prog w=.ok (245,.agg X) w:=by kernel_rfl
theorem En(X:Array Value)(w:World):(Go.method 494 294 (.agg X) "Add").run prog w=.ok (241,.agg X) w:=by kernel_rfl
theorem Eo(X:Array Value)(w:World):(Go.method 494 294 (.agg X) "Cas").run prog w=.ok (242,.agg X) w:=by kernel_rfl
theorem Ep(X:Array Value)(w:World):(nilAhead 494 294 (.agg X) "Cas").run prog w=.ok (some false) w:=by kernel_rfl
theorem Er(args:Array Value)(w:World):(callFunc 243 args).run prog w=.ok (.enter 243 args) w:=by kernel_rfl
theorem Es(args:Array Value)(w:World):(callFunc 244 args).run prog w=.ok (.enter 244 args) w:=by kernel_rfl
theorem Et(args:Array Value)(w:World):(callFunc 245 args).run prog w=.ok (.enter 245 args) w:=by kernel_rfl
theorem Eu(args:Array Value)(w:World):(callFunc 241 args).run prog w=.ok (.enter 241 args) w:=by kernel_rfl
theorem Ew(args:Array Value)(w:World):(callFunc 242 args).run prog w=.ok (.enter 242 args) w:=by kernel_rfl
theorem Cr{j:World}{c:bN}{id op kind a b v:Int}(l:Ch ag j w){e:Ending}{w':World}(h:iF (bE C K id op (K.mem,K.out) kind a b v).1 χ L Y C K (o6 C K id op kind a b v) w e w'):
 mP (bE C K id op (K.mem,K.out) kind a b v).1 (fun w'=>(∃K' aY Y',Gg K c (bE C K id op (K.mem,K.out) kind a b v).2 K'/\dJ χ L Y C K K' j aY Y' w')/\Ch (fun i=>χ i=.mem∨χ i=.gL∨χ i=.out) w w') e w':=by
 obtain⟨d,⟨aY,Y',f⟩,k⟩:=h;refine⟨?_,⟨_,aY,Y',Or.inl rfl,f.at_,(Nx.af l).trans f.nx,f.yk⟩,k⟩;cases g:(bE C K id op (K.mem,K.out) kind a b v).1 with
 |none=>rw[g]at d;exact d
 |some x=>rw[g]at d;exact d
def Cs(m:World)(χ:Nat->aX)(L:cz)(Y:Var)(C:KC)(K:KS)(c:bN)(id op:Int)(g:0<=C.wide/\C.wide<=256/\0<=C.narrow/\C.narrow<=256)(j:K.out.length<=900000):qt 294 (.agg #[(L.mb,0),.int .u64 id,op]) (aA×List Ev) where
 At:=fun S w=>S=(K.mem,K.out)/\ae w χ L Y C K/\Ch ag m w
 vA:=fun S w=>∃K' aY Y',Gg K c S K'/\dJ χ L Y C K K' m aY Y' w
 Ok:=fun _=>True
 D:=fun i=>χ i=.mem∨χ i=.gL∨χ i=.out
 acc:=bE C K id op
 FL:=243
 FS:=244
 FW:=245
 FA:=241
 FC:=242
 mL:=Ek _
 mS:=El _
 mW:=Em _
 mA:=En _
 mC:=Eo _
 nC:=Ep _
 eL:=Er
 eS:=Es
 eW:=Et
 eA:=Eu
 eC:=Ew
 keep:=fun _ _ _ h k=>⟨h.1,h.2.1.af k,h.2.2.trans k⟩
 Dd:=fun S w h=>⟨K,χ,Y,Or.inl (by rw[h.1]),h.2.1,Nx.af h.2.2,Yk.refl _ _⟩
 zf:=fun S w w' ⟨K',aY,Y',b,d⟩ k=>⟨K',aY,Y',b,d.af k⟩
 cL:=fun S a w _ e h=>by
  obtain⟨rfl,b,d⟩:=h;exact(uF g j id op a e b).mono fun _ _ h=>Cr d h
 cS:=fun S a v w _ e f h=>by
  obtain⟨rfl,b,d⟩:=h;refine(sQ g j id op a v e f b).mono fun _ _ h=> ?_
  obtain⟨n,⟨aY,Y',l⟩,o⟩:=h;exact⟨n,⟨_,aY,Y',Or.inl rfl,l.at_,(Nx.af d).trans l.nx,l.yk⟩,o⟩
 cW:=fun S a v w _ e f h=>by
  obtain⟨rfl,b,d⟩:=h;exact(om g j id op a v e f b).mono fun _ _ h=>Cr d h
 cA:=fun S a v w _ e f h=>by
  obtain⟨rfl,b,d⟩:=h;exact(xZ g j id op a v e f b).mono fun _ _ h=>Cr d h
 cC:=fun S a q v w _ e p f h=>by
  obtain⟨rfl,b,d⟩:=h;exact(x' g j id op a q v e p f b).mono fun _ _ h=>Cr d h
def vU(C:KC)(K:KS)(id op:Int)(k:Nat):Int×KS:=
 let s:=a' (bE C K id op) C.a8 (K.F (.ai id k)) (K.mem,K.out)
 (s.1,({K with mem:=s.2.2.1,out:=s.2.2.2}:KS).cJ (.ai id k) s.2.1)
theorem Gg.next{c:bN}{a K':KS}{S:aA×List Ev}{id:Int}{k:Nat}{t:Thread}(h:Gg a (.ai id k) S K')(e:aw a.ai id=some t)(d:k<t.l.length):ak K' (.ai id k)/\Gr a K'/\∀g,K'.cJ (.ai id k) g=({a with mem:=S.1,out:=S.2}:KS).cJ (.ai id k) g:=by
 have b:ak ({a with mem:=S.1,out:=S.2}:KS) (.ai id k):=⟨t,e,d⟩;rcases h with rfl|⟨f,rfl⟩
 ·exact⟨b,Gr.of_eq rfl,fun _=>rfl⟩
 ·exact⟨b.gr (bu b f) (bq _ _),(Gr.of_eq (K':=({a with mem:=S.1,out:=S.2}:KS)) rfl).trans (bu b f),fun g=>ya (K:=({a with mem:=S.1,out:=S.2}:KS)) e d f g⟩
theorem dJ.G6{K1:KS}{v:Nat->aX}{e:Var}{w1 w2:World}{id:Int}{k:Nat}{b:Nat}{t:Thread}(m:dJ χ L Y C K K1 w v e w1)(s:aw K.ai id=some t)(p:k<t.l.length)(r:aS L Y (.ai id k) b 0)(h:ak K1 (.ai id k))(g:Gr K K1){pre post:List Value}{j l:Value}{f1 f2:cu}(n:aJ w1 b 0 179 pre post j f1)(o:aJ w2 b 0 179 pre post l f2)(q:aT w1 j l)(c:Ch (aL b) w1 w2):
 ∃d a,dJ χ L Y C K (K1.cJ (.ai id k) f2) w d a w2:=by
 have i:aS L e (.ai id k) b 0:=r.yk ⟨t,s,p⟩ m.yk;obtain⟨y,x,z,f⟩:=m.at_.cur h i;obtain⟨rfl,rfl,rfl⟩:=aJ.same (t:=179) n f;obtain⟨d,a,u⟩:=m.at_.zG h i f o q c;exact⟨d,a,m.trans g u⟩
theorem Ex(id op:Int)(k:Nat){t:Thread}(m:aw K.ai id=some t)(l:k<t.l.length)(b:Nat)(r:aS L Y (.ai id k) b 0)(Q:∀j,j<32->aI ((K.F (.ai id k)).r j))(E:(K.F (.ai id k)).back.length<=8)(T:∀x∈C.a8,aI x.v)(W:C.a8.length<=2048)(F:0<=C.wide/\C.wide<=256/\0<=C.narrow/\C.narrow<=256)(P:K.out.length<=900000)(h:ae w χ L Y C K):
 Calls prog 28 #[(b,0),.slice L.pc C.a8.length L.BX,.iface 294 (.agg #[(L.mb,0),.int .u64 id,op])] w
  (wQ (vU C K id op k).1 (fun w'=>∃aY Y',dJ χ L Y C K (vU C K id op k).2 w aY Y' w')):=by
 have G:ak K (.ai id k):=⟨t,m,l⟩;obtain⟨pre,post,v,I,O,U⟩:=h.FB G r;have y:=h.code (by simp);have R:=nD (Cs w χ L Y C K (.ai id k) id op F P) (K.mem,K.out) (Z trivial) b 0 179 (by decide) pre post v (K.F (.ai id k)) C.a8 L.pc C.a8.length L.BX rfl y.mT (by omega) E Q T w I
  (fun B=>by obtain⟨g,a,d,_⟩:=y.prog (by intro e;rw[e]at B;exact absurd B (by simp));exact⟨g,0,a,fun j u N=>by rw[Nat.zero_add];exact d.cell j u N⟩) ⟨rfl,h,Ch.refl _ _⟩
  (fun S w1 w2 a1 f1 a2 f2 ⟨K',aY,Y',a,d⟩ J M A H=>by
   obtain⟨p,f,q⟩:=a.next (c:=.ai id k) m l;obtain⟨s,o,n⟩:=d.G6 m l r p f J M A H;exact⟨_,s,o,Or.inr ⟨f2,q f2⟩,n⟩)
  (fun e=>by
   rcases O with a|⟨_,_,a⟩<;>rcases e with e|e|e<;>rw[a]at e<;>cases e)
  (fun i X e=>by
   have:=h.small i (by rcases e with e|e|e<;>rw[e]<;>simp);omega)
  (fun g f e=>by
   have a:=U g f;rcases e with e|e|e<;>rw[a]at e<;>cases e)
 refine R.mono ?_;rintro e w' ⟨a,⟨a0,z,A⟩,⟨K',aY,Y',d,D⟩,V⟩;refine⟨a,?_⟩;obtain⟨p,f,q⟩:=d.next (c:=.ai id k) m l;obtain⟨s,o,n⟩:=D.G6 m l r p f z z (aT.refl _ _) (Ch.refl _ _);refine⟨s,o,?_⟩;rw[q]at n;exact n
end
end
def FR(w:World)(B:Nat)(v:Value)(l:List aR)(loop:Int)(calls:List bB):Prop:=
 ∃a b,v=.agg #[a,loop,b]/\w.ownsRow B 121 7 a l.length (l.flatMap b3)/\w.ownsRow B 49 6 b calls.length (calls.flatMap bB.cells)
def oG(l:List aR)(loop:Int)(calls:List bB)(w:World)(e:Ending)(w':World):Prop:=∃v,e=.returned v/\FR w' w.heap.size v l loop calls/\Ch ag w w'
def ga:List aR×List (ByteArray×Int):=(iK ⟨#[108,111,111,112,58,10,105,106,116,32,114,49,10,114,117,110,32,114,49,10,106,109,112,32,108,111,111,112,10,121,105,101,108,100,58,10,121,108,100,10,102,105,110,10]⟩).getD ([],[])
theorem yq:iK ⟨#[108,111,111,112,58,10,105,106,116,32,114,49,10,114,117,110,32,114,49,10,106,109,112,32,108,111,111,112,10,121,105,101,108,100,58,10,121,108,100,10,102,105,110,10]⟩=some ga:=by kernel_rfl
theorem mK{w:World}{g B n:Nat}{e:TypeId}{s:Nat}{a:List Value}(h:Row w g e a)(b:a.length=n*s)(d:n<=1000000000)(c:B<=g):w.ownsRow B e s (.slice (some (g,0)) n n) n a:=
 ⟨b,Or.inr ⟨g,n,a.toArray,rfl,c,h,Nat.le_refl _,by unfold maxLen;omega,by simpa using b,by simp[<-b]⟩⟩
theorem pV(w:World):Calls prog 24 #[] w (oG ga.1 0 [⟨6,3,0,0,0,0⟩] w):=by
 have y:=Z (fun w=>l5 _ _ yq w);go_in
 go_wp2_with fail
 obtain⟨q,c⟩:=nm (w.alloc (.cells #[.slice none 0 0,.int .i64 0,.slice none 0 0] 33));obtain⟨a,d⟩:=nm w.heap.size;have A:Hid (Row q a 33 [.slice none 0 0,.int .i64 0,.slice none 0 0]):=Z (by rw[<-c,<-d];exact Row.new _ _ _);have s:=Z (Ch.al (D:=ag) c);have z:Hid (q.heap.size=a+1):=Z (by rw[<-c,<-d];simp);have C:=Z d;rw[c,d];clear c d;refine(y _).mono ?_;rintro e w1 ⟨O,P,rfl,l,G,m⟩;have o:=Z l;have t:=Z m;obtain⟨ac,h,rfl⟩:=ao l;have b:=Z (A.ch m id);obtain⟨y0,Q,R⟩:=b.c3;have f0:=b.free 0;have f1:=b.free 1;have f2:=b.free 2;have L:a<w1.heap.size:=b.lt;obtain⟨f,k⟩:=nm ga.1.length;rw[k];have x:=Z k;clear l G m k;go_wp2
 obtain⟨w3,j⟩:=nm ((((w1.setCell (a,0) (.slice ac f h)).setCell (a,1) (.int .i64 0)).setCell (a,2) (.slice (some (w1.heap.size,0)) 1 1)).alloc (.cells #[.int .i64 6,.int .i64 3,.int .i64 0,.int .i64 0,.int .i64 0,.int .i64 0] 49));rw[j];have n:Ch (aL a) w1 w3:=by rw[<-j];exact((((Ch.refl _ _).only _ _).only _ _).only _ _).alloc _
 have B:Row w3 a 33 [.slice ac f h,.int .i64 0,.slice (some (w1.heap.size,0)) 1 1]:=by rw[<-j];exact(((b.set 0 _).set 1 _).set 2 _).alloc _
 have u:Row w3 w1.heap.size 49 [.int .i64 6,.int .i64 3,.int .i64 0,.int .i64 0,.int .i64 0,.int .i64 0]:=by
  rw[<-j];have r:=Row.new (((w1.setCell (a,0) (.slice ac f h)).setCell (a,1) (.int .i64 0)).setCell (a,2) (.slice (some (w1.heap.size,0)) 1 1)) #[.int .i64 6,.int .i64 3,.int .i64 0,.int .i64 0,.int .i64 0,.int .i64 0] 49;simpa using r
 obtain⟨H,I,J⟩:=B.c3;refine bodyPost_ret (v:=.agg #[.slice ac f h,.int .i64 0,.slice (some (w1.heap.size,0)) 1 1]) ?_ rfl ?_
 ·simp[results,Tryz.f24,go_sem,H,I,J]
 ·have M:=z.out
  have N:=C.out;refine⟨_,rfl,⟨_,_,rfl,?_,?_⟩,?_⟩
  ·have p:=aj o n (fun g F e=>by have E:g=a:=e;have:=(bS o F).1;omega)
   rw[x]at p⊢;exact dS p (by omega)
  ·exact mK u rfl (by decide) (by have:=b.lt;omega)
  ·exact(s.trans t).fresh n (fun i K e=>by have E:i=a:=e;omega)
structure WS where
 code:List aR
 work:List Int
 aQ:List Int
structure rq(w:World)(B b:Nat)(vc vw vh:Value)(S:WS):Prop where
 row:Row w b 111 [vc,.int .i64 16,.slice none 0 0,vw,vh]
 hB:B<=b
 code:w.ownsRow B 121 7 vc S.code.length (S.code.flatMap b3)
 work:w.ownsRow B 3 1 vw S.work.length (S.work.flatMap jr)
 aQ:w.ownsRow B 3 1 vh S.aQ.length (S.aQ.flatMap jr)
 ne:∀g,vw.ownBlock=some g->vh.ownBlock≠some g
def fM(w:World)(B b:Nat)(d c:Value)(S:WS):Prop:=∃a,rq w B b a d c S
theorem rq.af{w w':World}{B b:Nat}{a f d:Value}{S:WS}(h:rq w B b a f d S)(c:Ch ag w w'):rq w' B b a f d S:=
 ⟨h.row.ch c id,h.hB,aj h.code c (fun _ _ e=>e),aj h.work c (fun _ _ e=>e),aj h.aQ c (fun _ _ e=>e),h.ne⟩
theorem fM.af{w w':World}{B b:Nat}{d a:Value}{S:WS}(h:fM w B b d a S)(c:Ch ag w w'):fM w' B b d a S:=by
 obtain⟨e,h⟩:=h;exact⟨e,h.af c⟩
def bb(w w':World):Prop:=∀(k:Nat) (c:Array Value) (t:TypeId) (f:Nat×Nat),t≠111->t≠121->w.heap[k]?=some (.cells c t f)->w'.heap[k]?=some (.cells c t f)
theorem bb.refl(w:World):bb w w:=fun _ _ _ _ _ _ h=>h
theorem bb.trans{a b c:World}(h:bb a b)(g:bb b c):bb a c:=fun k x t f d e i=>g k x t f d e (h k x t f d e i)
theorem bb.row{w w':World}(h:bb w w'){b:Nat}{t:TypeId}{l:List Value}(d:Row w b t l)(a:t≠111)(c:t≠121):Row w' b t l:=h b _ t _ a c d
theorem bb.own{w w':World}(h:bb w w'){B:Nat}{e:TypeId}{s n:Nat}{v:Value}{b:List Value}(a:w.ownsRow B e s v n b)(c:e≠111)(d:e≠121):w'.ownsRow B e s v n b:=by
 refine⟨a.1,?_⟩;rcases a.2 with f|⟨g,cap,cur,rfl,j,k,i⟩
 ·exact Or.inl f
 ·exact Or.inr ⟨g,cap,cur,rfl,j,h g _ e _ c d k,i⟩
theorem bb.fQ{w w':World}{D:Nat->Prop}(c:Ch D w w')(b:∀k x t f,D k->w.heap[k]?=some (.cells x t f)->t=111∨t=121):bb w w':=by
 intro k x t f e g a;rw[c.same k (Array.getElem?_eq_some_iff.1 a).1 (fun d=>by rcases b k x t f d a with h|h<;>contradiction)];exact a
theorem bb.af{w w':World}(c:Ch ag w w'):bb w w':=bb.fQ c (fun _ _ _ _ a _=>False.elim a)
theorem bb.Hb{w w':World}{b:Nat}{l:List Value}{v:Value}{B:Nat}{s n:Nat}{i:List Value}(c:Ch (ym b v) w w')(hb:Row w b 111 l)(h:w.ownsRow B 121 s v n i):bb w w':=
 bb.fQ c (fun k x t f d a=>by
  rcases d with rfl|d
  ·exact Or.inl (e3 hb a)
  ·obtain⟨_,cs,e⟩:=bS h d
   rw[e]at a;injection a with a;injection a with _ g _
   exact Or.inr g.symm)
def tv(w w':World):Prop:=∀(k:Nat) (c:Array Value) (t:TypeId) (f:Nat×Nat),t≠111->t≠121->t≠3->w.heap[k]?=some (.cells c t f)->w'.heap[k]?=some (.cells c t f)
theorem tv.fQ{w w':World}{D:Nat->Prop}(c:Ch D w w')(b:∀k x t f,D k->w.heap[k]?=some (.cells x t f)->t=111∨t=121∨t=3):tv w w':=by
 intro k x t f e g i a;rw[c.same k (Array.getElem?_eq_some_iff.1 a).1 (fun d=>by rcases b k x t f d a with h|h|h<;>contradiction)];exact a
theorem rq.iI{w w1:World}{B b:Nat}{f k i a:Value}{S:WS}(h:rq w B b f k i S)(C:B<=w.heap.size)(y:aR)
 (A:w1.ownsRow B 121 7 a (S.code.length+1) (S.code.flatMap b3++b3 y)) (l:w.grownBy w1 f.ownBlock):
 fM (w1.setCell (b,0) a) B b k i {S with code:=S.code++[y]}/\Below B w (w1.setCell (b,0) a)/\bb w (w1.setCell (b,0) a):=by
 have c:=kp (p:=b) (j:=0) (u:=a) l;have r:Row w1 b 111 [f,.int .i64 16,.slice none 0 0,k,i]:=by
  unfold Row;rw[l.block b h.row.lt (fun e=>bl h.code h.row (by decide) e.symm)];exact h.row
 have z:(w1.setCell (b,0) a).ownsRow B 121 7 a (S.code++[y]).length ((S.code++[y]).flatMap b3):=by
  have:=dR (j:=0) (u:=a) A r (by decide);rw[List.flatMap_append,List.length_append];simpa using this
 have q:∀{s:Nat} {v:Value} {n:Nat} {t:List Value},w.ownsRow B 3 s v n t->(w1.setCell (b,0) a).ownsRow B 3 s v n t:=fun o=>aj o c (fun g x d=>by
  obtain⟨_,cs,m⟩:=bS o x;rcases d with rfl|d
  ·exact absurd (e3 h.row m) (by decide)
  ·exact bl h.code m (by decide) d)
 exact⟨⟨a,r.bc _ _ rfl,h.hB,z,q h.work,q h.aQ,h.ne⟩,fZ c h.code h.hB C,bb.Hb c h.row h.code⟩
def gO(S:WS)(B b:Nat)(c a:Value)(w:World)(e:Ending)(w':World):Prop:=e=.returned (.tuple #[])/\fM w' B b c a S/\Below B w w'/\bb w w'
def fK(S:WS)(r v:Int):WS:={S with code:=S.code++[⟨1,r,0,0,v,0,0⟩]}
theorem jy(S:WS)(r v:Int)(B b:Nat){o n:Value}(w:World)(h:fM w B b o n S)(u:B<=w.heap.size)(E:S.code.length<=1000000):
 Calls prog 84 #[(b,0),r,.int .u64 v] w (gO (fK S r v) B b o n w):=by
 obtain⟨A,i,x,y,z⟩:=info_parts ij;obtain⟨d,a⟩:=h;have q:=Z a;have p:=Z i;have m:w.cell? (b,0)=some d:=a.row.cell rfl;have f:=a.row.free 0;have k:=a.row.lt;have l:d.ownBlock≠some b:=bl a.code a.row (by decide);have g:=a.code;clear a i;go_in
 go_wp2_with (at_builtin;refine wpList_append_lies _ rfl _ _ _ rfl B 121 A _ 7 56 underlying30 p x y z rfl (by omega) d S.code.length (S.code.flatMap b3) rfl (g.alloc _) ⟨w.heap.size,0,none⟩ 1 1 [.int .i64 1,r,.int .i64 0,.int .i64 0,.int .u64 v,.int .i64 0,.int .i64 0] rfl rfl (World.news_of_block (cs:=#[.int .i64 1,r,.int .i64 0,.int .i64 0,.int .u64 v,.int .i64 0,.int .i64 0]) (t:=121) (fr:=(0,0)) (heap_alloc_new w _)) (by simp[Value.oneCell']) (by omega) (by unfold maxLen;omega) (by omega) (by simp;omega) (w.heap.size+1) (by simp) ?_)
 intro D C w2 j c s F;have G:w2.cell? (b,0)=some d:=(c.cell_far ⟨b,0,none⟩ (by simp;omega) (Ne.symm l)).trans (by simp[go_sem,World.cell?_alloc_past,k,m]);have H:w2.frozen? (b,0)=false:=(c.frozen_far ⟨b,0,none⟩ (by simp;omega) (Ne.symm l)).trans (by simp[go_sem,World.frozen?_alloc_past,k,f]);have e:=Z (q.iI u ⟨1,r,0,0,v,0,0⟩ j (au c));clear j c s g m f;go_wp2
 go_end0
 exact⟨rfl,e.1,e.2.1,e.2.2⟩
def fR:WS->List Int->Nat->WS
 |S,[],_=>S
 |S,a::l,i=>fR (fK S i a) l (i+1)
def cg(S:WS)(num:Int)(a:List Int):WS:={fR S a 0 with code:=(fR S a 0).code++[⟨22,0,0,0,IntKind.u64.wrap num,0,0⟩]}
theorem g2:∀(b:List Int) (S:WS) (i:Nat),(fR S b i).code.length=S.code.length+b.length/\(fR S b i).work=S.work/\(fR S b i).aQ=S.aQ
 |[],S,i=>⟨rfl,rfl,rfl⟩
 |a::l,S,i=>by
  obtain⟨c,d,e⟩:=g2 l (fK S i a) (i+1);refine⟨?_,d,e⟩;show(fR (fK S i a) l (i+1)).code.length=_
  rw[c];simp only[fK,List.length_append,List.length_cons,List.length_nil];omega
theorem eH(S:WS)(num:Int)(a:List Int)(al:a.length<=10)(g cap B b:Nat)(ap:a.length<=cap){u s:Value}(w:World)(M:Row w g 56 (a.map (Value.int .u64)))(h:fM w B b u s S)(c5:B<=w.heap.size)(c4:S.code.length<=900000):
 Calls prog 46 #[(b,0),num,.slice (some (g,0)) a.length cap] w (gO (cg S num a) B b u s w):=by
 obtain⟨c0,H,bv,bw,bx⟩:=info_parts ij;have W:=Z H;have a0:=Z M;have a1:=Z h;obtain⟨l,F⟩:=nm (fR S a 0);have z:=Z F;have a2:=Z (g2 a S 0);obtain⟨N,A⟩:=nm a.length;rw[A]at al ap⊢;have y:=Z A;clear M h H F A;go_in
 go_upto_block 0 with fail
 go_cut [] (fun wc=>fM wc B b u s l/\Below B w wc/\bb w wc)
 case first=>
  go_wp2
  go_loopw [6] (fun i wr=>∃(k:Nat) (d:WS),k<=N/\i=.int .i64 k/\fM wr B b u s d/\Below B w wr/\bb w wr/\fR d (a.drop k) k=l/\d.code.length<=S.code.length+k) (fun i _=>N-(intOf i).toNat)
  case atStart=>exact⟨0,S,by omega,rfl,a1,Below.refl _ _,bb.refl _,z,by omega⟩
  case round=>
   obtain⟨k,d,c3,rfl,m,c,j,n,av⟩:=hrel;have ab:=Z m;have o:=Z c;have p:=Z j;by_cases ax:k<N
   ·have J:k<a.length:=by have:=y.out;omega
    obtain⟨x,C⟩:=nm (a[k]);rw[List.drop_eq_getElem_cons J,C]at n;have a3:Hid (fR (fK d k x) (a.drop (k+1)) (k+1)=l):=Z n;have y0:wr.cell? (g,k)=some (.int .u64 x):=(j.row a0 (by decide) (by decide)).cell (by rw[List.getElem?_map,List.getElem?_eq_getElem J,C];rfl);have U:=Z (jy d k x B b wr m (by have:=c.size;omega) (by omega));clear n C m c j;go_wp2_with fail
    with_reducible refine U.out.mono ?_
    rintro e w2 ⟨rfl,O,G,I⟩;have ad:=Z O;have T:=Z (o.trans G);have X:=Z (p.trans I);clear O G I;go_wp2
    go_roundw
    case rel=>exact⟨k+1,fK d k x,by omega,by go_num,ad,T,X,a3,by simp only[fK,List.length_append,List.length_cons,List.length_nil];omega⟩
    case measure=>simp[intOf];omega
   ·have V:Hid (d=l):=Z (by
     rw[List.drop_of_length_le (by have:=y.out;omega)]at n;exact n)
    clear n m c j;go_wp2
    go_meet
    rw[<-V];exact⟨ab,o,p⟩
 case rest=>
  obtain⟨m,c,j⟩:=hcut;obtain⟨w1,Q⟩:=nm wc;rw[Q]at m c j⊢;have o:=Z c;have p:=Z j;obtain⟨r,f⟩:=m;have Y:=Z f;have R:w1.cell? (b,0)=some r:=f.row.cell rfl;have D:=f.row.free 0;have L:=f.row.lt;have P:r.ownBlock≠some b:=bl f.code f.row (by decide);have E:=f.code;have av:l.code.length<=900010:=by rw[<-z,a2.1];have:=y.out;omega
  have bi:B<=w1.heap.size:=by have:=c.size;omega
  clear f Q c j;go_wp2_with (at_builtin;refine wpList_append_lies _ rfl _ _ _ rfl B 121 c0 _ 7 56 underlying30 W bv bw bx rfl (by omega) r l.code.length (l.code.flatMap b3) rfl (E.alloc _) ⟨w1.heap.size,0,none⟩ 1 1 [.int .i64 22,.int .i64 0,.int .i64 0,.int .i64 0,.int .u64 (IntKind.u64.wrap num),.int .i64 0,.int .i64 0] rfl rfl (World.news_of_block (cs:=#[.int .i64 22,.int .i64 0,.int .i64 0,.int .i64 0,.int .u64 (IntKind.u64.wrap num),.int .i64 0,.int .i64 0]) (t:=121) (fr:=(0,0)) (heap_alloc_new w1 _)) (by simp[Value.oneCell']) (by omega) (by unfold maxLen;omega) (by omega) (by simp;omega) (w1.heap.size+1) (by simp) ?_)
  intro c2 c1 w2 K q am ax;have c6:w2.cell? (b,0)=some r:=(q.cell_far ⟨b,0,none⟩ (by simp;omega) (Ne.symm P)).trans (by simp[go_sem,World.cell?_alloc_past,L,R]);have c7:w2.frozen? (b,0)=false:=(q.frozen_far ⟨b,0,none⟩ (by simp;omega) (Ne.symm P)).trans (by simp[go_sem,World.frozen?_alloc_past,L,D]);have v:=Z (Y.iI bi ⟨22,0,0,0,IntKind.u64.wrap num,0,0⟩ K (au q));clear K q am E R D;go_wp2
  go_end0
  refine⟨rfl,?_,o.trans v.2.1,p.trans v.2.2⟩;unfold cg;rw[z];exact v.1
structure fl where
 uZ:Int
 a:Int
 b:Int
 c:Int
 d:Int
def ET(x:fl):List Value:=[.int .i64 x.uZ,.int .u64 x.a,.int .u64 x.b,.int .u64 x.c,.int .u64 x.d]
def gW(b:Int):Int:=if b%5=0 then 18446744073709551615 else b%60
theorem tw(b:Int)(hb:aI b)(w:World):Calls prog 86 #[.int .u64 b] w (eg (.int .u64 (gW b)) w):=by
 have d:=hb.1;have e:=hb.2;by_cases h:b%5=0
 ·have a:Hid (gW b=18446744073709551615):=Z (by unfold gW;rw[if_pos h])
  have c:(b%5==0)=true:=by rw[beq_iff_eq];exact h
  clear h;go_wp2
  go_ret;exact eg.mk (congrArg (Value.int .u64) a)
 ·have a:Hid (gW b=b%60):=Z (by unfold gW;rw[if_neg h])
  have c:(b%5==0)=false:=by rw[beq_eq_false_iff_ne];exact h
  clear h;go_wp2
  go_ret;exact eg.mk (congrArg (Value.int .u64) a)
def m9:List Int:=[900,901,902,903,904,70,71,72,73]
def AV(w:World)(e:Ending)(w':World):Prop:=∃g cap,e=.returned (.slice (some ⟨g,0,none⟩) 9 cap)/\9<=cap/\(∀k v,m9[k]?=some v->w'.cell? ⟨g,k,none⟩=some (.int .i64 v))/\Ch ag w w'
theorem yC(w:World):Calls prog 85 #[.int .i64 16] w (AV w):=by
 obtain⟨G,j,C,E,F⟩:=info_parts lg;go_in
 go_upto_region 3 with fail
 obtain⟨w1,c⟩:=nm (w.alloc (.cells #[.int .i64 900,.int .i64 901,.int .i64 902,.int .i64 903,.int .i64 904] 3));have g:=Z (Ch.al (D:=ag) c);have d:w1.ownsRow w.heap.size 3 1 (.slice (some (w.heap.size,0)) 5 5) 5 [.int .i64 900,.int .i64 901,.int .i64 902,.int .i64 903,.int .i64 904]:=mK (by rw[<-c];exact Row.new _ _ _) rfl (by decide) (Nat.le_refl _);have o:=Z j;have B:w.heap.size<=w1.heap.size:=g.size;obtain⟨f,b⟩:=nm w.heap.size;have q:=Z b;rw[c,b];rw[b]at d B;clear c b j;go_wp2_with (at_builtin;refine wpList_append_lies _ rfl _ _ _ rfl f 3 G _ 1 8 underlying79 o C E F rfl (by omega) (.slice (some (f,0)) 5 5) 5 [.int .i64 900,.int .i64 901,.int .i64 902,.int .i64 903,.int .i64 904] rfl (d.alloc _) ⟨w1.heap.size,0,none⟩ 4 4 [.int .i64 70,.int .i64 71,.int .i64 72,.int .i64 73] rfl rfl (World.news_of_block (cs:=#[.int .i64 70,.int .i64 71,.int .i64 72,.int .i64 73]) (t:=3) (fr:=(0,0)) (heap_alloc_new w1 _)) (by simp[Value.oneCell']) (by omega) (by unfold maxLen;omega) (by omega) (by simp;omega) (w1.heap.size+1) (by simp) ?_)
 intro u r w2 l h x M;have p:=Z l;have n:=Z h;clear l h x d;go_wp2
 go_ret;obtain⟨J,H,N,z,_,y,_,A,_⟩:=aF p (by decide);injection z with a _ s
 injection a with a
 injection a with a
 subst a;subst s;refine⟨u,r,rfl,y,fun k v m=>A.cell ?_,g.fresh (Ch.bM (au n)) (fun i K e=>by
  have I:f=i:=by simpa[Value.ownBlock]using e
  have:=q.out;omega)⟩
 have L:k<9:=(List.getElem?_eq_some_iff.1 m).1;rw[List.getElem?_append_left (by simp;omega)];have:(m9.map (Value.int .i64))[k]?=some (.int .i64 v):=by rw[List.getElem?_map,m];rfl
 exact this
def CP(S:WS)(B b:Nat)(w:World)(e:Ending)(w':World):Prop:=e=.returned (.tuple #[])/\(∃c a,fM w' B b c a S)/\Below B w w'/\tv w w'
def kt(S:WS)(back a:Int):WS:={S with work:=S.work++[(S.code.length:Int)-back],aQ:=S.aQ++[a]}
theorem oU{w:World}{g:Nat}{c:Array Value}{t:TypeId}(h:w.heap[g]?=some (.cells c t (0,0)))(a:Obj):(w.alloc a).heap[g]?=some (.cells c t (0,0)):=by
 rw[Below.heap_alloc _ _ _ (Array.getElem?_eq_some_iff.1 h).1];exact h
theorem tC(w:World)(b a:Obj):((w.alloc b).alloc a).heap[w.heap.size+1]?=some a:=by
 have h:=heap_alloc_new (w.alloc b) a
 rwa [World.size_alloc]at h
theorem rq.both{w w2 w4:World}{B b a q d r:Nat}{H o n:Value}{S:WS}(h:rq w B b H o n S)(x y:Int)(I:Ch (fun i=>o.ownBlock=some i) w w2)(A:Ch (fun i=>n.ownBlock=some i) w2 w4)
 (K:w2.ownsRow B 3 1 (.slice (some (a,0)) (S.work.length+1) q) (S.work.length+1) (S.work.flatMap jr++jr x)) (a1:o.ownBlock=some a∨w.heap.size<=a)
 (Q:w4.ownsRow B 3 1 (.slice (some (d,0)) (S.aQ.length+1) r) (S.aQ.length+1) (S.aQ.flatMap jr++jr y)) (a2:n.ownBlock=some d∨w2.heap.size<=d) (O:B<=w.heap.size):
 (∃o n,fM ((w4.setCell (b,3) (.slice (some (a,0)) (S.work.length+1) q)).setCell (b,4) (.slice (some (d,0)) (S.aQ.length+1) r)) B b o n {S with work:=S.work++[x],aQ:=S.aQ++[y]})/\
 Below B w ((w4.setCell (b,3) (.slice (some (a,0)) (S.work.length+1) q)).setCell (b,4) (.slice (some (d,0)) (S.aQ.length+1) r))/\
 tv w ((w4.setCell (b,3) (.slice (some (a,0)) (S.work.length+1) q)).setCell (b,4) (.slice (some (d,0)) (S.aQ.length+1) r)):=by
 have T:o.ownBlock≠some b:=bl h.work h.row (by decide);have hb:n.ownBlock≠some b:=bl h.aQ h.row (by decide);have R:Row w2 b 111 [H,.int .i64 16,.slice none 0 0,o,n]:=h.row.ch I T;have z:=R.ch A hb;have J:n.ownBlock≠some a:=fun e=>by
  rcases a1 with s|s
  ·exact h.ne a s e
  ·obtain⟨_,_,g⟩:=bS h.aQ e
   have:=(Array.getElem?_eq_some_iff.1 g).1;omega
 obtain⟨_,U,M⟩:=bS K (k:=a) rfl;have P:=aj K A (fun k c e=>by
  have F:a=k:=by simpa[Value.ownBlock]using c
  subst F;exact J e)
 let D:Nat->Prop:=fun i=>i=b∨o.ownBlock=some i∨n.ownBlock=some i
 have C:Ch D w ((w4.setCell (b,3) (.slice (some (a,0)) (S.work.length+1) q)).setCell (b,4) (.slice (some (d,0)) (S.aQ.length+1) r)):=
  (((I.mono (E:=D) (fun i m=>Or.inr (Or.inl m))).trans (A.mono (E:=D) (fun i m=>Or.inr (Or.inr m)))).g5 (p:=⟨b,3,none⟩) (Or.inl rfl) _).g5 (p:=⟨b,4,none⟩) (Or.inl rfl) _
 refine⟨⟨_,_,H,(z.bc 3 _ rfl).bc 4 _ rfl,h.hB,?_,?_,?_,?_⟩,C.below O (fun i m=> ?_),tv.fQ C (fun k t2 t f c l=> ?_)⟩
 ·exact aj h.code C (fun k c v=>by
   obtain⟨_,_,g⟩:=bS h.code c;rcases v with rfl|v|v
   ·exact absurd (e3 h.row g) (by decide)
   ·exact bl h.work g (by decide) v
   ·exact bl h.aQ g (by decide) v)
 ·have:=dR (j:=4) (u:=.slice (some (d,0)) (S.aQ.length+1) r) (dR (j:=3) (u:=.slice (some (a,0)) (S.work.length+1) q) P z (by decide)) (z.bc 3 _ rfl) (by decide)
  rw[List.flatMap_append,List.length_append];simpa using this
 ·have:=dR (j:=4) (u:=.slice (some (d,0)) (S.aQ.length+1) r) (dR (j:=3) (u:=.slice (some (a,0)) (S.work.length+1) q) Q z (by decide)) (z.bc 3 _ rfl) (by decide)
  rw[List.flatMap_append,List.length_append];simpa using this
 ·intro k c N
  have L:a=k:=by simpa[Value.ownBlock]using c
  have F:d=k:=by simpa[Value.ownBlock]using N
  subst L;subst F;rcases a2 with s|s
  ·exact J s
  ·have:=(Array.getElem?_eq_some_iff.1 M).1
   omega
 ·rcases m with rfl|m|m
  ·exact h.hB
  ·exact(bS h.work m).1
  ·exact(bS h.aQ m).1
 ·rcases c with rfl|c|c
  ·exact Or.inl (e3 h.row l)
  ·obtain⟨_,_,g⟩:=bS h.work c
   rw[g]at l;injection l with l;injection l with _ G _
   exact Or.inr (Or.inr G.symm)
  ·obtain⟨_,_,g⟩:=bS h.aQ c
   rw[g]at l;injection l with l;injection l with _ G _
   exact Or.inr (Or.inr G.symm)
theorem yF{ops:Array Oper}{f:Oper}{a:Act}{K:Act->World->Prop}{Q:Exit->Act->World->Prop}{E:Prop}{s x:Operand}{n g B:Nat}{v:Value}{j:List Value}{y:Int}{w d:World}
 (q:f.guard=none) (A:f.op=.call {callee:=.builtin .append,args:=#[s,x],argTypes:=#[79,79]}) (D:a.eval s=v) (F:a.eval x=.slice (some (g,0)) 1 1)
 (c:Ch ag w d) (C:w.ownsRow B 3 1 v n j) (N:n<=900000) (m:B<=w.heap.size) (p:d.heap[g]?=some (.cells #[.int .i64 y] 3 (0,0)))
 (H:∀b h w',w'.ownsRow B 3 1 (.slice (some ⟨b,0,none⟩) (n+1) h) (n+1) (j++[.int .i64 y])->Ch (fun i=>v.ownBlock=some i) w w'->(v.ownBlock=some b∨w.heap.size<=b)->(∀k,k<d.heap.size->v.ownBlock≠some k->w'.heap[k]?=d.heap[k]?)->K (a.put f.dst (.slice (some ⟨b,0,none⟩) (n+1) h)) w'):
 if Region.wanted f (yielded ops a.tmps)=true then Oper.wp prog f a d K Q else E:=by
 obtain⟨L,r,G,I,J⟩:=info_parts lg;refine step_append_lies _ q s x _ A B 3 L _ 1 8 underlying79 r G I J rfl (by omega) v n j D (aj C c (fun _ _ e=>e)) ⟨g,0,none⟩ 1 1 [.int .i64 y] F rfl (World.news_of_block (cs:=#[.int .i64 y]) (t:=3) (fr:=(0,0)) p) (by simp[Value.oneCell']) (by omega) (by unfold maxLen;omega) (by omega) (Nat.le_trans m c.size) _ rfl (fun b h w' M l o _=>H b h w' M ((c.mono (fun _ e=>e.elim)).trans (Ch.bM l)) (o.imp id (fun e=>by rw[e];exact c.size)) (fun k u z=>l.block k u (fun e=>z e.symm)))
theorem vb(S:WS)(back F:Int)(U:0<=back/\back<=100)(B b:Nat)(w:World){x E:Value}(h:fM w B b x E S)(n:B<=w.heap.size)(W:S.code.length<=900000)(A:S.work.length<=900000)(z:S.aQ.length<=900000):
 Calls prog 47 #[(b,0),back,F] w (CP (kt S back F) B b w):=by
 obtain⟨Y,l⟩:=h;have c:=Z l;obtain⟨ac,M,P⟩:=ao l.code;have D:x.ownBlock≠some b:=bl l.work l.row (by decide);have y:E.ownBlock≠some b:=bl l.aQ l.row (by decide);have X:IntKind.i64.wrap ((S.code.length:Int)-back)=(S.code.length:Int)-back:=IntWalk.i64_in _ (by omega);subst P;have nw:∀{k:Nat},x.ownBlock≠some (w.heap.size+k):=fun {k} e=>by obtain⟨_,_,O⟩:=bS l.work e;have:=(Array.getElem?_eq_some_iff.1 O).1;omega
 clear l;go_in
 refine CO (fun i=>[0,2,3,4,5,6,7,8,9,10,11,12,13,14,18,20,21].contains i) (fun w'=>Row w' b 111 [.slice ac S.code.length M,.int .i64 16,.slice none 0 0,x,E]) (by kernel_rfl) ?_;refine AW (by kernel_rfl) (fun _ _ N _ _ h=>by cases N<;>exact h) c.row.drew 10 [1,15,16,17,19,0,2,3,4,5,6,7,8,9,10,11,12,18] _ _ (by kernel_rfl) ?_
 iterate 18 (refine F5 (v:= ?_) rfl (Or.inl ⟨by rfl,?_⟩) ?_;rotate_left;(focus (intro w' C;(try(have Q:=Row.k C 0 rfl;have R:=Row.k C 3 rfl;have T:=Row.k C 4 rfl));go_simp;try with_reducible rfl));simp only[Act.put,List.setIfInBounds_toArray,List.set_cons_zero,List.set_cons_succ])
 refine takeN ?_;change eP _ _ _ _ _ _ _ _ _ _;refine F7 (i:=13) (k:=20) (by kernel_rfl) rfl rfl (fun K a=> ?_) (fun K a=> ?_)
 rotate_left
 focus
  go_simp
  refine a _ _ (c.row.ch g3 id) ?_;try simp only[Act.put,List.setIfInBounds_toArray,List.set_cons_zero,List.set_cons_succ]
  refine va (i:=13) (by kernel_rfl) rfl (fun K a=> ?_);go_simp
  refine a _ _ (c.row.ch g3 id) ?_;try simp only[Act.put,List.setIfInBounds_toArray,List.set_cons_zero,List.set_cons_succ]
  refine va (i:=14) (by kernel_rfl) rfl (fun K a=> ?_);refine yF rfl rfl rfl rfl g3 c.work A n (tC _ _ _) (fun I G w2 t d r o=> ?_);have f:=c.row.ch d D;refine a _ _ f ?_;try simp only[Act.put,List.setIfInBounds_toArray,List.set_cons_zero,List.set_cons_succ]
  refine va (i:=21) (by kernel_rfl) rfl (fun K a=> ?_);refine yF rfl rfl rfl rfl g3 (aj c.aQ d (fun k p q=>c.ne k q p)) z (Nat.le_trans n d.size) ((o _ (by simp;omega) (nw (k:=0))).trans (oU (heap_alloc_new _ _) _)) (fun J H w4 u m s _=> ?_);have g:=f.ch m y;refine a _ _ g ?_;try simp only[Act.put,List.setIfInBounds_toArray,List.set_cons_zero,List.set_cons_succ]
 rotate_left
 focus
  go_simp
  refine a _ _ (c.row.ch g3 id) ?_;try simp only[Act.put,List.setIfInBounds_toArray,List.set_cons_zero,List.set_cons_succ]
  refine F7 (i:=14) (k:=20) (by kernel_rfl) rfl rfl (fun K a=> ?_) (fun K a=> ?_)
 focus
  refine yF rfl rfl rfl rfl g3 c.work A n (heap_alloc_new _ _) (fun I G w2 t d r o=> ?_);have f:=c.row.ch d D;refine a _ _ f ?_;try simp only[Act.put,List.setIfInBounds_toArray,List.set_cons_zero,List.set_cons_succ]
  refine va (i:=20) (by kernel_rfl) rfl (fun K a=> ?_);go_simp
  refine a _ _ (f.ch g3 id) ?_;try simp only[Act.put,List.setIfInBounds_toArray,List.set_cons_zero,List.set_cons_succ]
  refine va (i:=21) (by kernel_rfl) rfl (fun K a=> ?_);refine yF rfl rfl rfl rfl g3 (aj c.aQ d (fun k p q=>c.ne k q p)) z (Nat.le_trans n d.size) (heap_alloc_new _ _) (fun J H w4 u m s _=> ?_);have g:=f.ch m y;refine a _ _ g ?_;try simp only[Act.put,List.setIfInBounds_toArray,List.set_cons_zero,List.set_cons_succ]
 rotate_left
 focus
  go_simp
  refine a _ _ (c.row.ch g3 id) ?_;try simp only[Act.put,List.setIfInBounds_toArray,List.set_cons_zero,List.set_cons_succ]
  refine va (i:=14) (by kernel_rfl) rfl (fun K a=> ?_);refine yF rfl rfl rfl rfl g3 c.work A n (oU (heap_alloc_new _ _) _) (fun I G w2 t d r o=> ?_);have f:=c.row.ch d D;refine a _ _ f ?_;try simp only[Act.put,List.setIfInBounds_toArray,List.set_cons_zero,List.set_cons_succ]
  refine va (i:=21) (by kernel_rfl) rfl (fun K a=> ?_);refine yF rfl rfl rfl rfl g3 (aj c.aQ d (fun k p q=>c.ne k q p)) z (Nat.le_trans n d.size) ((o _ (by simp<;>omega) nw).trans (tC _ _ _)) (fun J H w4 u m s _=> ?_);have g:=f.ch m y;refine a _ _ g ?_;try simp only[Act.put,List.setIfInBounds_toArray,List.set_cons_zero,List.set_cons_succ]
 all_goals
  refine GX 22 rfl rfl (fun j V=>by simp;omega) (by kernel_rfl) ?_;have L:=Z (c.both ((S.code.length:Int)-back) F d m t r u s n);have t3:=g.k 3 rfl;have t4:=g.k 4 rfl;have u3:=g.free 3;have u4:=g.free 4;clear f g d m t r u s o;go_wp2
  go_end0
  exact⟨rfl,L⟩
end Go.Proofs.YtfnilkpkogipfaaGreatDoor
