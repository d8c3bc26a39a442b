import Derived.Test.YtfnilkpkogipfaaGreatDoorZAr
set_option linter.all false
set_option maxRecDepth 100000
set_option maxHeartbeats 8000000
namespace Go.Proofs.YtfnilkpkogipfaaGreatDoor
open Go.RowKit Go.Proofs.Tryz
section
section
variable{w:World}{χ:Nat->a4}{L:cw}{Y:Var}{C:KC}{K:KS}
def bV(K:KS)(pid v:Int):KS:=if(aw K.ai pid).isSome then K.b9 pid {K.T pid with eM:=v}else K
theorem hj{pid:Int}{t:Thread}(h:aw K.ai pid=some t)(v:Int):bV K pid v=K.b9 pid {t with eM:=v}:=by unfold bV;rw[if_pos (by rw[h];rfl),KS.df h]
theorem hk{pid:Int}(h:aw K.ai pid=none)(v:Int):bV K pid v=K:=by unfold bV;rw[if_neg (by rw[h];simp)]
theorem gL(i:Nat)(c:bK)(d g h m l n:Int){b e pid:Int}{f:Bool}{a:List (List hx)}(hb:(K.F c).r g.toNat=b)(j:(K.F c).r h.toNat=e)(k:ez K.q b e=(pid,f,a)):
 bg K i c ⟨25,d,g,h,m,l,n⟩=if f then(if cx (bV {K with q:=a,clock:=(K.clock.bl pid).2} pid 0) pid=3 then eg (bV {K with q:=a,clock:=(K.clock.bl pid).2} pid 0) i pid else(bV {K with q:=a,clock:=(K.clock.bl pid).2} pid 0)).au c d.toNat pid else({K with q:=a}:KS).au c d.toNat 0:=by
 unfold bg;dsimp only;rw[if_pos rfl,hb,j,k];rfl
theorem tw(q:List (List hx))(a m:Int):(ez q a m).2.1=false->(ez q a m).1=0:=by
 unfold ez;split
 ·exact fun _=>rfl
 ·intro h;cases h
theorem qh{id:Int}{t b:Thread}(d:aw K.ai id=some t)(c:t.l.length<=b.l.length):Gr K (K.b9 id b):=by
 intro j u a;show∃v,aw (b8 K.ai id b) j=some v/\_
 rw[aT];by_cases e:j=id
 ·subst e
  rw[d]at a;injection a with a;subst a
  rw[if_pos rfl];exact⟨_,rfl,c⟩
 ·rw[if_neg e];exact⟨u,a,Nat.le_refl _⟩
theorem rP(i:Nat)(gc:i<K.wk.length)(c:bK)(b X:Nat)(fr:aj K c)(ge:aP L Y c b X)(dN:∀k,k<32->aH ((K.F c).r k))(a g j a1 a0 a2:Int)(gk:0<=a/\a<32)(hb:0<=g/\g<32)(go:0<=j/\j<32)(fz:K.clock.Ok)(ck:aH (ez K.q ((K.F c).r g.toNat) ((K.F c).r j.toNat)).1)(h:ae w χ L Y C K):
 Calls prog 167 #[(L.mb,0),(L.wb,i*38),(b,X),.agg #[.int .i64 25,a,g,j,.int .u64 a1,a0,a2]] w (de (.tuple #[]) χ L Y C K (bg K i c ⟨25,a,g,j,a1,a0,a2⟩) w):=by
 have H:=Z h;have o:=Z fr;have r:=Z ge;have eW:=Z gc;obtain⟨bw,bv,gt,c4,a3⟩:=h.pre 25 a g j a1 a0 a2;obtain⟨hu,hv⟩:=gk;obtain⟨cQ,ex⟩:∃y,(K.F c).r a.toNat=y:=⟨_,rfl⟩;have cd:=Z ex;have fb:=Z (dN a.toNat (by omega));rw[ex]at fb;obtain⟨he,hf⟩:=fb.out;clear ex;obtain⟨hw,hB⟩:=hb;obtain⟨c7,eA⟩:∃y,(K.F c).r g.toNat=y:=⟨_,rfl⟩;have V:=Z eA;have fd:=Z (dN g.toNat (by omega));rw[eA]at fd;obtain⟨hi,hl⟩:=fd.out;clear eA;obtain⟨hF,i0⟩:=go;obtain⟨c8,eC⟩:∃y,(K.F c).r j.toNat=y:=⟨_,rfl⟩;have W:=Z eC;have fn:=Z (dN j.toNat (by omega));rw[eC]at fn;obtain⟨hm,hn⟩:=fn.out;clear eC;obtain⟨t0,t1,t2,t3,t4,t5,t6⟩:=a3.1.c7;have l:=c4.at_.az o r a.toNat (by omega);rw[cd]at l;have v:=c4.at_.az o r g.toNat (by omega);rw[V]at v;have x:=c4.at_.az o r j.toNat (by omega);rw[W]at x;rw[V,W]at ck;obtain⟨p,dC⟩:=nm (ez K.q c7 c8);have ch:=Z dC;have cb:=Z (fun w h=>CE (K:=K) (w:=w) (χ:=χ) (L:=L) (Y:=Y) (C:=C) c7 c8 h);have U:p.2.1=false->p.1=0:=by rw[<-dC];exact tw _ _ _
 rw[dC]at cb ck;clear dC;obtain⟨pid,gr,av⟩:=p;dsimp only at U ck;have c9:=Z ck;have cS:=Z fz;clear ck fz;clear h fr ge dN gc;cases gr
 ·obtain rfl:pid=0:=U rfl
  have E:Hid (bg K i c ⟨25,a,g,j,a1,a0,a2⟩=({K with q:=av}:KS).au c a.toNat 0):=Z (by unfold bg;dsimp only;rw[if_pos rfl,V,W,ch];rfl);go_enter func167,ntmps167
  go_wp2_with fail
  try rw[bv]
  clear bv;go_quiet (fail)
  obtain⟨w1,D⟩:=nm (bw.drewN nq);have P:Hid (Ch ag bw w1):=Z (by rw[<-D];exact(Ch.refl _ _).drewN nq);rw[D];clear D;have d:=Z (c4.af P);have f:Hid (aj K c/\aP L Y c b X):=Z ⟨o,r⟩;have z:=Z ((Nx.af P).row a3.1 a3.2);clear t0 t1 t2 t3 t4 t5 t6 l v x;obtain⟨t0,t1,t2,t3,t4,t5,t6⟩:=z.1.c7;have l:=d.at_.az f.1 f.2 a.toNat (by omega);rw[show((K:KS).F c).r a.toNat=cQ from cd.out]at l;have v:=d.at_.az f.1 f.2 g.toNat (by omega);rw[show((K:KS).F c).r g.toNat=c7 from V.out]at v;have x:=d.at_.az f.1 f.2 j.toNat (by omega);rw[show((K:KS).F c).r j.toNat=c8 from W.out]at x;have k1:=d.at_.xM;go_wp2_with fail
  refine(cb _ d.at_).mono ?_;rintro e w2 ⟨rfl,en,cW,A⟩;have m:=Z (d.trans (Gr.refl _) A);have F:=Z (A.nx.row z.1 z.2);have bi:=Z (m.cur o r (Gr.of_eq rfl) (rfl));clear A;clear v x;clear t0 t1 t2 t3 t4 t5 t6 l k1;obtain⟨t0,t1,t2,t3,t4,t5,t6⟩:=F.1.c7;have l:=m.at_.az bi.1 bi.2 a.toNat (by omega);have dr:=m.at_.g1 bi.1 bi.2 (X+1+a.toNat);have u:=Z (m.at_.drew.a6 bi.1 bi.2 a.toNat (by omega) 0);have c0:Hid (Gr K _):=Z (Gr.of_eq rfl);go_wp2_with fail
  go_still_tail 6,(by kernel_rfl)
  change wpList _ _ _ _ _ w2.drew;go_wp2_with fail
  go_end0
  rw[E];obtain⟨c3,c2,U⟩:=u.out;exact⟨rfl,c3,c2,(m.af (Ch.refl _ _).drew).trans c0 U⟩
 ·clear U
  cases ec:aw K.ai pid with
  |none=>
   have Q:=Z ec;clear ec;obtain⟨s,ap⟩:=mn (({K with q:=av,clock:=(K.clock.bl pid).2}:KS));have ce:=Z ap;have cf:Hid (s=bV ({K with q:=av,clock:=(K.clock.bl pid).2}:KS) pid 0):=Z (by rw[ap];exact(hk (by exact Q) 0).symm);have S:Hid (Gr K s):=Z (by rw[ap];exact Gr.of_eq rfl);have c1:Hid (s.wk.length=K.wk.length):=Z (by rw[ap];try rfl);clear ap;by_cases I:cx s pid=3
   ·have al:=Z I
    clear I;have E:Hid (bg K i c ⟨25,a,g,j,a1,a0,a2⟩=(eg s i pid).au c a.toNat pid):=Z (by rw[gL i c a g j a1 a0 a2 V W ch,if_pos rfl,<-cf,if_pos al.out]);go_enter func167,ntmps167
    go_wp2_with fail
    try rw[bv]
    clear bv;go_quiet (fail)
    obtain⟨w1,D⟩:=nm (bw.drewN nq);have P:Hid (Ch ag bw w1):=Z (by rw[<-D];exact(Ch.refl _ _).drewN nq);rw[D];clear D;have d:=Z (c4.af P);have f:Hid (aj K c/\aP L Y c b X):=Z ⟨o,r⟩;have z:=Z ((Nx.af P).row a3.1 a3.2);clear t0 t1 t2 t3 t4 t5 t6 l v x;obtain⟨t0,t1,t2,t3,t4,t5,t6⟩:=z.1.c7;have l:=d.at_.az f.1 f.2 a.toNat (by omega);rw[show((K:KS).F c).r a.toNat=cQ from cd.out]at l;have v:=d.at_.az f.1 f.2 g.toNat (by omega);rw[show((K:KS).F c).r g.toNat=c7 from V.out]at v;have x:=d.at_.az f.1 f.2 j.toNat (by omega);rw[show((K:KS).F c).r j.toNat=c8 from W.out]at x;have k1:=d.at_.xM;go_wp2_with fail
    refine(cb _ d.at_).mono ?_;rintro e w2 ⟨rfl,en,cW,A⟩;have m:=Z (d.trans (Gr.refl _) A);have F:=Z (A.nx.row z.1 z.2);have bi:=Z (m.cur o r (Gr.of_eq rfl) (rfl));clear A;clear v x;clear t0 t1 t2 t3 t4 t5 t6 l k1;obtain⟨t0,t1,t2,t3,t4,t5,t6⟩:=F.1.c7;have k1:=m.at_.jH;go_wp2_with fail
    refine(kx pid (by exact cS) m.at_).mono ?_;rintro e cC ⟨rfl,eS,ci,N⟩;have n:=Z (m.trans (Gr.of_eq rfl) N);have R:=Z (N.nx.row F.1 F.2);have et:=Z (n.cur o r (Gr.of_eq rfl) (rfl));clear N;clear t0 t1 t2 t3 t4 t5 t6 k1;obtain⟨t0,t1,t2,t3,t4,t5,t6⟩:=R.1.c7;have k1:=n.at_.iG;have B:=n.at_.look pid;rw[show aw (({K with q:=av,clock:=(K.clock.bl pid).2}:KS)).ai pid=_ from Q.out]at B;dsimp only[Option.map,Option.getD]at B;go_wp2_with fail
    clear B;have G:=n;rw[<-ce]at G;have ab:=R;have c5:=Z (G.cur o r S c1);clear t0 t1 t2 t3 t4 t5 t6 k1;refine(cZ (K:=s) pid c9 G.at_).mono ?_;rintro e cL ⟨rfl,O⟩;have J:=Z (G.af O);have ad:=Z ((Nx.af O).row ab.1 ab.2);have M:=c5;clear O;have I:=al.out;obtain⟨t0,t1,t2,t3,t4,t5,t6⟩:=ad.1.c7;rw[I];go_wp2_with fail
    refine(lr (K:=s) i (by rw[c1];exact eW) pid c9 J.at_).mono ?_;rintro e eL ⟨rfl,gs,gf,c6⟩;have am:=Z (J.trans (S) c6);have es:=Z (c6.nx.row ad.1 ad.2);have T:=Z (am.cur o r (S.trans (dO _ _ _)) (by rw[fw,c1]));clear c6;clear t0 t1 t2 t3 t4 t5 t6;obtain⟨t0,t1,t2,t3,t4,t5,t6⟩:=es.1.c7;have l:=am.at_.az T.1 T.2 a.toNat (by omega);have dr:=am.at_.g1 T.1 T.2 (X+1+a.toNat);have u:=Z (am.at_.drew.a6 T.1 T.2 a.toNat (by omega) pid);have c0:Hid (Gr K _):=Z (S.trans (dO s i pid));go_wp2_with fail
    go_still_tail 6,(by kernel_rfl)
    change wpList _ _ _ _ _ eL.drew;go_wp2_with fail
    go_end0
    rw[E];obtain⟨c3,c2,U⟩:=u.out;exact⟨rfl,c3,c2,(am.af (Ch.refl _ _).drew).trans c0 U⟩
   ·have al:=Z I
    clear I;have E:Hid (bg K i c ⟨25,a,g,j,a1,a0,a2⟩=(s).au c a.toNat pid):=Z (by rw[gL i c a g j a1 a0 a2 V W ch,if_pos rfl,<-cf,if_neg al.out]);go_enter func167,ntmps167
    go_wp2_with fail
    try rw[bv]
    clear bv;go_quiet (fail)
    obtain⟨w1,D⟩:=nm (bw.drewN nq);have P:Hid (Ch ag bw w1):=Z (by rw[<-D];exact(Ch.refl _ _).drewN nq);rw[D];clear D;have d:=Z (c4.af P);have f:Hid (aj K c/\aP L Y c b X):=Z ⟨o,r⟩;have z:=Z ((Nx.af P).row a3.1 a3.2);clear t0 t1 t2 t3 t4 t5 t6 l v x;obtain⟨t0,t1,t2,t3,t4,t5,t6⟩:=z.1.c7;have l:=d.at_.az f.1 f.2 a.toNat (by omega);rw[show((K:KS).F c).r a.toNat=cQ from cd.out]at l;have v:=d.at_.az f.1 f.2 g.toNat (by omega);rw[show((K:KS).F c).r g.toNat=c7 from V.out]at v;have x:=d.at_.az f.1 f.2 j.toNat (by omega);rw[show((K:KS).F c).r j.toNat=c8 from W.out]at x;have k1:=d.at_.xM;go_wp2_with fail
    refine(cb _ d.at_).mono ?_;rintro e w2 ⟨rfl,en,cW,A⟩;have m:=Z (d.trans (Gr.refl _) A);have F:=Z (A.nx.row z.1 z.2);have bi:=Z (m.cur o r (Gr.of_eq rfl) (rfl));clear A;clear v x;clear t0 t1 t2 t3 t4 t5 t6 l k1;obtain⟨t0,t1,t2,t3,t4,t5,t6⟩:=F.1.c7;have k1:=m.at_.jH;go_wp2_with fail
    refine(kx pid (by exact cS) m.at_).mono ?_;rintro e cC ⟨rfl,eS,ci,N⟩;have n:=Z (m.trans (Gr.of_eq rfl) N);have R:=Z (N.nx.row F.1 F.2);have et:=Z (n.cur o r (Gr.of_eq rfl) (rfl));clear N;clear t0 t1 t2 t3 t4 t5 t6 k1;obtain⟨t0,t1,t2,t3,t4,t5,t6⟩:=R.1.c7;have k1:=n.at_.iG;have B:=n.at_.look pid;rw[show aw (({K with q:=av,clock:=(K.clock.bl pid).2}:KS)).ai pid=_ from Q.out]at B;dsimp only[Option.map,Option.getD]at B;go_wp2_with fail
    clear B;have G:=n;rw[<-ce]at G;have ab:=R;have c5:=Z (G.cur o r S c1);clear t0 t1 t2 t3 t4 t5 t6 k1;refine(cZ (K:=s) pid c9 G.at_).mono ?_;rintro e cL ⟨rfl,O⟩;have J:=Z (G.af O);have ad:=Z ((Nx.af O).row ab.1 ab.2);have M:=c5;clear O;have I:=al.out;obtain⟨t0,t1,t2,t3,t4,t5,t6⟩:=ad.1.c7;have l:=J.at_.az M.1 M.2 a.toNat (by omega);obtain⟨st,cl⟩:=nm (cx s pid);rw[cl]at I⊢;clear cl;go_wp2_with fail
    have dr:=J.at_.g1 M.1 M.2 (X+1+a.toNat);have u:=Z (J.at_.drew.a6 M.1 M.2 a.toNat (by omega) pid);have c0:Hid (Gr K _):=Z (S);go_still_tail 6,(by kernel_rfl)
    change wpList _ _ _ _ _ cL.drew;go_wp2_with fail
    go_end0
    rw[E];obtain⟨c3,c2,U⟩:=u.out;exact⟨rfl,c3,c2,(J.af (Ch.refl _ _).drew).trans c0 U⟩
  |some t=>
   have Q:=Z ec;clear ec;obtain⟨s,ap⟩:=mn ((({K with q:=av,clock:=(K.clock.bl pid).2}:KS).b9 pid {t with eM:=0}));have ce:=Z ap;have cf:Hid (s=bV ({K with q:=av,clock:=(K.clock.bl pid).2}:KS) pid 0):=Z (by rw[ap];exact(hj (by exact Q) 0).symm);have S:Hid (Gr K s):=Z (by rw[ap];exact Gr.trans (K1:=({K with q:=av,clock:=(K.clock.bl pid).2}:KS)) (Gr.of_eq rfl) (qh (K:=({K with q:=av,clock:=(K.clock.bl pid).2}:KS)) (t:=t) (by exact Q) (Nat.le_refl _)));have c1:Hid (s.wk.length=K.wk.length):=Z (by rw[ap];try rfl);clear ap;by_cases I:cx s pid=3
   ·have al:=Z I
    clear I;have E:Hid (bg K i c ⟨25,a,g,j,a1,a0,a2⟩=(eg s i pid).au c a.toNat pid):=Z (by rw[gL i c a g j a1 a0 a2 V W ch,if_pos rfl,<-cf,if_pos al.out]);go_enter func167,ntmps167
    go_wp2_with fail
    try rw[bv]
    clear bv;go_quiet (fail)
    obtain⟨w1,D⟩:=nm (bw.drewN nq);have P:Hid (Ch ag bw w1):=Z (by rw[<-D];exact(Ch.refl _ _).drewN nq);rw[D];clear D;have d:=Z (c4.af P);have f:Hid (aj K c/\aP L Y c b X):=Z ⟨o,r⟩;have z:=Z ((Nx.af P).row a3.1 a3.2);clear t0 t1 t2 t3 t4 t5 t6 l v x;obtain⟨t0,t1,t2,t3,t4,t5,t6⟩:=z.1.c7;have l:=d.at_.az f.1 f.2 a.toNat (by omega);rw[show((K:KS).F c).r a.toNat=cQ from cd.out]at l;have v:=d.at_.az f.1 f.2 g.toNat (by omega);rw[show((K:KS).F c).r g.toNat=c7 from V.out]at v;have x:=d.at_.az f.1 f.2 j.toNat (by omega);rw[show((K:KS).F c).r j.toNat=c8 from W.out]at x;have k1:=d.at_.xM;go_wp2_with fail
    refine(cb _ d.at_).mono ?_;rintro e w2 ⟨rfl,en,cW,A⟩;have m:=Z (d.trans (Gr.refl _) A);have F:=Z (A.nx.row z.1 z.2);have bi:=Z (m.cur o r (Gr.of_eq rfl) (rfl));clear A;clear v x;clear t0 t1 t2 t3 t4 t5 t6 l k1;obtain⟨t0,t1,t2,t3,t4,t5,t6⟩:=F.1.c7;have k1:=m.at_.jH;go_wp2_with fail
    refine(kx pid (by exact cS) m.at_).mono ?_;rintro e cC ⟨rfl,eS,ci,N⟩;have n:=Z (m.trans (Gr.of_eq rfl) N);have R:=Z (N.nx.row F.1 F.2);have et:=Z (n.cur o r (Gr.of_eq rfl) (rfl));clear N;clear t0 t1 t2 t3 t4 t5 t6 k1;obtain⟨t0,t1,t2,t3,t4,t5,t6⟩:=R.1.c7;have k1:=n.at_.iG;have B:=n.at_.look pid;rw[show aw (({K with q:=av,clock:=(K.clock.bl pid).2}:KS)).ai pid=_ from Q.out]at B;dsimp only[Option.map,Option.getD]at B;unfold bf at B;have cs:=n.at_.DT (id:=pid) (t:=t) (by exact Q);have cA:=n.at_.rz (id:=pid) (t:=t) (by exact Q) 2;have u:=Z (n.at_.g2 (id:=pid) (t:=t) (by exact Q) 0);obtain⟨tb,cm⟩:=nm (ci.bB pid);rw[cm]at B cs cA u;clear cm;go_wp2_with fail
    obtain⟨w4,cq⟩:=nm (cC.setCell (tb,2) (.int .u64 0));rw[cq]at u⊢;clear cq cs cA B;rw[<-ce]at u;have G:=Z (n.trans (Gr.of_eq rfl) u);have ab:=Z (u.nx.row R.1 R.2);clear u;have c5:=Z (G.cur o r S c1);clear t0 t1 t2 t3 t4 t5 t6 k1;refine(cZ (K:=s) pid c9 G.at_).mono ?_;rintro e cL ⟨rfl,O⟩;have J:=Z (G.af O);have ad:=Z ((Nx.af O).row ab.1 ab.2);have M:=c5;clear O;have I:=al.out;obtain⟨t0,t1,t2,t3,t4,t5,t6⟩:=ad.1.c7;rw[I];go_wp2_with fail
    refine(lr (K:=s) i (by rw[c1];exact eW) pid c9 J.at_).mono ?_;rintro e eL ⟨rfl,gs,gf,c6⟩;have am:=Z (J.trans (S) c6);have es:=Z (c6.nx.row ad.1 ad.2);have T:=Z (am.cur o r (S.trans (dO _ _ _)) (by rw[fw,c1]));clear c6;clear t0 t1 t2 t3 t4 t5 t6;obtain⟨t0,t1,t2,t3,t4,t5,t6⟩:=es.1.c7;have l:=am.at_.az T.1 T.2 a.toNat (by omega);have dr:=am.at_.g1 T.1 T.2 (X+1+a.toNat);have u:=Z (am.at_.drew.a6 T.1 T.2 a.toNat (by omega) pid);have c0:Hid (Gr K _):=Z (S.trans (dO s i pid));go_wp2_with fail
    go_still_tail 6,(by kernel_rfl)
    change wpList _ _ _ _ _ eL.drew;go_wp2_with fail
    go_end0
    rw[E];obtain⟨c3,c2,U⟩:=u.out;exact⟨rfl,c3,c2,(am.af (Ch.refl _ _).drew).trans c0 U⟩
   ·have al:=Z I
    clear I;have E:Hid (bg K i c ⟨25,a,g,j,a1,a0,a2⟩=(s).au c a.toNat pid):=Z (by rw[gL i c a g j a1 a0 a2 V W ch,if_pos rfl,<-cf,if_neg al.out]);go_enter func167,ntmps167
    go_wp2_with fail
    try rw[bv]
    clear bv;go_quiet (fail)
    obtain⟨w1,D⟩:=nm (bw.drewN nq);have P:Hid (Ch ag bw w1):=Z (by rw[<-D];exact(Ch.refl _ _).drewN nq);rw[D];clear D;have d:=Z (c4.af P);have f:Hid (aj K c/\aP L Y c b X):=Z ⟨o,r⟩;have z:=Z ((Nx.af P).row a3.1 a3.2);clear t0 t1 t2 t3 t4 t5 t6 l v x;obtain⟨t0,t1,t2,t3,t4,t5,t6⟩:=z.1.c7;have l:=d.at_.az f.1 f.2 a.toNat (by omega);rw[show((K:KS).F c).r a.toNat=cQ from cd.out]at l;have v:=d.at_.az f.1 f.2 g.toNat (by omega);rw[show((K:KS).F c).r g.toNat=c7 from V.out]at v;have x:=d.at_.az f.1 f.2 j.toNat (by omega);rw[show((K:KS).F c).r j.toNat=c8 from W.out]at x;have k1:=d.at_.xM;go_wp2_with fail
    refine(cb _ d.at_).mono ?_;rintro e w2 ⟨rfl,en,cW,A⟩;have m:=Z (d.trans (Gr.refl _) A);have F:=Z (A.nx.row z.1 z.2);have bi:=Z (m.cur o r (Gr.of_eq rfl) (rfl));clear A;clear v x;clear t0 t1 t2 t3 t4 t5 t6 l k1;obtain⟨t0,t1,t2,t3,t4,t5,t6⟩:=F.1.c7;have k1:=m.at_.jH;go_wp2_with fail
    refine(kx pid (by exact cS) m.at_).mono ?_;rintro e cC ⟨rfl,eS,ci,N⟩;have n:=Z (m.trans (Gr.of_eq rfl) N);have R:=Z (N.nx.row F.1 F.2);have et:=Z (n.cur o r (Gr.of_eq rfl) (rfl));clear N;clear t0 t1 t2 t3 t4 t5 t6 k1;obtain⟨t0,t1,t2,t3,t4,t5,t6⟩:=R.1.c7;have k1:=n.at_.iG;have B:=n.at_.look pid;rw[show aw (({K with q:=av,clock:=(K.clock.bl pid).2}:KS)).ai pid=_ from Q.out]at B;dsimp only[Option.map,Option.getD]at B;unfold bf at B;have cs:=n.at_.DT (id:=pid) (t:=t) (by exact Q);have cA:=n.at_.rz (id:=pid) (t:=t) (by exact Q) 2;have u:=Z (n.at_.g2 (id:=pid) (t:=t) (by exact Q) 0);obtain⟨tb,cm⟩:=nm (ci.bB pid);rw[cm]at B cs cA u;clear cm;go_wp2_with fail
    obtain⟨w4,cq⟩:=nm (cC.setCell (tb,2) (.int .u64 0));rw[cq]at u⊢;clear cq cs cA B;rw[<-ce]at u;have G:=Z (n.trans (Gr.of_eq rfl) u);have ab:=Z (u.nx.row R.1 R.2);clear u;have c5:=Z (G.cur o r S c1);clear t0 t1 t2 t3 t4 t5 t6 k1;refine(cZ (K:=s) pid c9 G.at_).mono ?_;rintro e cL ⟨rfl,O⟩;have J:=Z (G.af O);have ad:=Z ((Nx.af O).row ab.1 ab.2);have M:=c5;clear O;have I:=al.out;obtain⟨t0,t1,t2,t3,t4,t5,t6⟩:=ad.1.c7;have l:=J.at_.az M.1 M.2 a.toNat (by omega);obtain⟨st,cl⟩:=nm (cx s pid);rw[cl]at I⊢;clear cl;go_wp2_with fail
    have dr:=J.at_.g1 M.1 M.2 (X+1+a.toNat);have u:=Z (J.at_.drew.a6 M.1 M.2 a.toNat (by omega) pid);have c0:Hid (Gr K _):=Z (S);go_still_tail 6,(by kernel_rfl)
    change wpList _ _ _ _ _ cL.drew;go_wp2_with fail
    go_end0
    rw[E];obtain⟨c3,c2,U⟩:=u.out;exact⟨rfl,c3,c2,(J.af (Ch.refl _ _).drew).trans c0 U⟩
theorem rQ(i:Nat)(c0:i<K.wk.length)(c:bK)(b u:Nat)(bw:aj K c)(c1:aP L Y c b u)(P:∀k,k<32->aH ((K.F c).r k))(a f g N M O:Int)(c4:0<=a/\a<32)(hb:0<=f/\f<32)(c5:0<=g/\g<32)(h:ae w χ L Y C K):
 Calls prog 167 #[(L.mb,0),(L.wb,i*38),(b,u),.agg #[.int .i64 27,a,f,g,.int .u64 N,M,O]] w (de (.tuple #[]) χ L Y C K (bg K i c ⟨27,a,f,g,N,M,O⟩) w):=by
 have H:=Z h;have x:=Z bw;have B:=Z c1;have c7:=Z c0;obtain⟨R,Q,c6,G,v⟩:=h.pre 27 a f g N M O;obtain⟨ch,ci⟩:=c4;obtain⟨c2,a3⟩:∃y,(K.F c).r a.toNat=y:=⟨_,rfl⟩;have X:=Z a3;have av:=Z (P a.toNat (by omega));rw[a3]at av;obtain⟨c8,c9⟩:=av.out;clear a3;obtain⟨ck,cl⟩:=hb;obtain⟨S,ab⟩:∃y,(K.F c).r f.toNat=y:=⟨_,rfl⟩;have D:=Z ab;have bi:=Z (P f.toNat (by omega));rw[ab]at bi;obtain⟨cb,cd⟩:=bi.out;clear ab;obtain⟨cm,cq⟩:=c5;obtain⟨T,ad⟩:∃y,(K.F c).r g.toNat=y:=⟨_,rfl⟩;have F:=Z ad;have bv:=Z (P g.toNat (by omega));rw[ad]at bv;obtain⟨ce,cf⟩:=bv.out;clear ad;obtain⟨t0,t1,t2,t3,t4,t5,t6⟩:=v.1.c7;have m:=G.at_.az x B a.toNat (by omega);rw[X]at m;have o:=G.at_.az x B f.toNat (by omega);rw[D]at o;have p:=G.at_.az x B g.toNat (by omega);rw[F]at p;obtain⟨q,a2⟩:=nm (vR K.q S T);have ap:=Z a2;have W:=Z (fun w h=>DR (K:=K) (w:=w) (χ:=χ) (L:=L) (Y:=Y) (C:=C) S T h);rw[a2]at W;clear a2;clear h bw c1 P c0;cases q
 ·have E:Hid (bg K i c ⟨27,a,f,g,N,M,O⟩=K.au c a.toNat 0):=Z (by unfold bg;dsimp only;rw[if_neg (by decide),if_neg (by decide),if_pos rfl,D,F,ap];rfl)
  go_enter func167,ntmps167
  go_wp2_with fail
  try rw[Q]
  clear Q;go_quiet (fail)
  obtain⟨w1,s⟩:=nm (R.drewN nq);have z:Hid (Ch ag R w1):=Z (by rw[<-s];exact(Ch.refl _ _).drewN nq);rw[s];clear s;have j:=Z (G.af z);have d:Hid (aj K c/\aP L Y c b u):=Z ⟨x,B⟩;have r:=Z ((Nx.af z).row v.1 v.2);clear t0 t1 t2 t3 t4 t5 t6 m o p;obtain⟨t0,t1,t2,t3,t4,t5,t6⟩:=r.1.c7;have m:=j.at_.az d.1 d.2 a.toNat (by omega);rw[show((K:KS).F c).r a.toNat=c2 from X.out]at m;have o:=j.at_.az d.1 d.2 f.toNat (by omega);rw[show((K:KS).F c).r f.toNat=S from D.out]at o;have p:=j.at_.az d.1 d.2 g.toNat (by omega);rw[show((K:KS).F c).r g.toNat=T from F.out]at p;have k1:=j.at_.xM;go_wp2_with fail
  refine(W _ j.at_).mono ?_;rintro e w2 ⟨rfl,I,rfl⟩;obtain⟨J,t⟩:=nm (w1.drewN I);have A:Hid (Ch ag w1 J):=Z (by rw[<-t];exact(Ch.refl _ _).drewN I);rw[t];clear t;have n:=Z (j.af A);have V:=Z ((Nx.af A).row r.1 r.2);have l:=d;clear o p;clear t0 t1 t2 t3 t4 t5 t6 m k1;obtain⟨t0,t1,t2,t3,t4,t5,t6⟩:=V.1.c7;have m:=n.at_.az l.1 l.2 a.toNat (by omega);have c3:=n.at_.g1 l.1 l.2 (u+1+a.toNat);have a1:=Z (n.at_.drew.a6 l.1 l.2 a.toNat (by omega) 0);have U:Hid (Gr K _):=Z (Gr.refl K);go_wp2_with fail
  go_still_tail 6,(by kernel_rfl)
  change wpList _ _ _ _ _ J.drew;go_wp2_with fail
  go_end0
  rw[E];obtain⟨am,a0,al⟩:=a1.out;exact⟨rfl,am,a0,(n.af (Ch.refl _ _).drew).trans U al⟩
 ·have E:Hid (bg K i c ⟨27,a,f,g,N,M,O⟩=K.au c a.toNat 1):=Z (by unfold bg;dsimp only;rw[if_neg (by decide),if_neg (by decide),if_pos rfl,D,F,ap];rfl)
  go_enter func167,ntmps167
  go_wp2_with fail
  try rw[Q]
  clear Q;go_quiet (fail)
  obtain⟨w1,s⟩:=nm (R.drewN nq);have z:Hid (Ch ag R w1):=Z (by rw[<-s];exact(Ch.refl _ _).drewN nq);rw[s];clear s;have j:=Z (G.af z);have d:Hid (aj K c/\aP L Y c b u):=Z ⟨x,B⟩;have r:=Z ((Nx.af z).row v.1 v.2);clear t0 t1 t2 t3 t4 t5 t6 m o p;obtain⟨t0,t1,t2,t3,t4,t5,t6⟩:=r.1.c7;have m:=j.at_.az d.1 d.2 a.toNat (by omega);rw[show((K:KS).F c).r a.toNat=c2 from X.out]at m;have o:=j.at_.az d.1 d.2 f.toNat (by omega);rw[show((K:KS).F c).r f.toNat=S from D.out]at o;have p:=j.at_.az d.1 d.2 g.toNat (by omega);rw[show((K:KS).F c).r g.toNat=T from F.out]at p;have k1:=j.at_.xM;go_wp2_with fail
  refine(W _ j.at_).mono ?_;rintro e w2 ⟨rfl,I,rfl⟩;obtain⟨J,t⟩:=nm (w1.drewN I);have A:Hid (Ch ag w1 J):=Z (by rw[<-t];exact(Ch.refl _ _).drewN I);rw[t];clear t;have n:=Z (j.af A);have V:=Z ((Nx.af A).row r.1 r.2);have l:=d;clear o p;clear t0 t1 t2 t3 t4 t5 t6 m k1;obtain⟨t0,t1,t2,t3,t4,t5,t6⟩:=V.1.c7;have m:=n.at_.az l.1 l.2 a.toNat (by omega);have c3:=n.at_.g1 l.1 l.2 (u+1+a.toNat);have a1:=Z (n.at_.drew.a6 l.1 l.2 a.toNat (by omega) 1);have U:Hid (Gr K _):=Z (Gr.refl K);go_wp2_with fail
  go_still_tail 6,(by kernel_rfl)
  change wpList _ _ _ _ _ J.drew;go_wp2_with fail
  go_end0
  rw[E];obtain⟨am,a0,al⟩:=a1.out;exact⟨rfl,am,a0,(n.af (Ch.refl _ _).drew).trans U al⟩
theorem rR(i:Nat)(a2:i<K.wk.length)(c:bK)(b x:Nat)(a1:aj K c)(a3:aP L Y c b x)(v:∀k,k<32->aH ((K.F c).r k))(a d f A z B:Int)(bv:0<=a/\a<32)(hb:0<=d/\d<32)(bw:0<=f/\f<32)(h:ae w χ L Y C K):
 Calls prog 167 #[(L.mb,0),(L.wb,i*38),(b,x),.agg #[.int .i64 26,a,d,f,.int .u64 A,z,B]] w (de (.tuple #[]) χ L Y C K (bg K i c ⟨26,a,d,f,A,z,B⟩) w):=by
 have H:=Z h;have n:=Z a1;have o:=Z a3;have c5:=Z a2;obtain⟨ad,ab,c4,u,D⟩:=h.pre 26 a d f A z B;obtain⟨ci,ck⟩:=bv;obtain⟨c2,O⟩:∃y,(K.F c).r a.toNat=y:=⟨_,rfl⟩;have a0:=Z O;have V:=Z (v a.toNat (by omega));rw[O]at V;obtain⟨c9,cb⟩:=V.out;clear O;obtain⟨cl,cm⟩:=hb;obtain⟨R,P⟩:∃y,(K.F c).r d.toNat=y:=⟨_,rfl⟩;have G:=Z P;have W:=Z (v d.toNat (by omega));rw[P]at W;obtain⟨cd,ce⟩:=W.out;clear P;obtain⟨cq,cs⟩:=bw;obtain⟨S,Q⟩:∃y,(K.F c).r f.toNat=y:=⟨_,rfl⟩;have I:=Z Q;have X:=Z (v f.toNat (by omega));rw[Q]at X;obtain⟨cf,ch⟩:=X.out;clear Q;obtain⟨t0,t1,t2,t3,t4,t5,t6⟩:=D.1.c7;have m:=u.at_.az n o a.toNat (by omega);rw[a0]at m;have s:=u.at_.az n o d.toNat (by omega);rw[G]at s;have t:=u.at_.az n o f.toNat (by omega);rw[I]at t;obtain⟨p,M⟩:=nm (hK K.q R S);have ap:=Z M;have U:=Z (fun w h=>CF (K:=K) (w:=w) (χ:=χ) (L:=L) (Y:=Y) (C:=C) R S h);rw[M]at U;clear M;obtain⟨pid,c8,c1⟩:=p;clear h a1 a3 v a2;have E:Hid (bg K i c ⟨26,a,d,f,A,z,B⟩=({K with q:=c1}:KS).au c a.toNat pid):=Z (by unfold bg;dsimp only;rw[if_neg (by decide),if_pos rfl,G,I,ap]);go_enter func167,ntmps167
 go_wp2_with fail
 try rw[ab]
 clear ab;go_quiet (fail)
 obtain⟨w1,N⟩:=nm (ad.drewN nq);have T:Hid (Ch ag ad w1):=Z (by rw[<-N];exact(Ch.refl _ _).drewN nq);rw[N];clear N;have g:=Z (u.af T);have j:Hid (aj K c/\aP L Y c b x):=Z ⟨n,o⟩;have F:=Z ((Nx.af T).row D.1 D.2);clear t0 t1 t2 t3 t4 t5 t6 m s t;obtain⟨t0,t1,t2,t3,t4,t5,t6⟩:=F.1.c7;have m:=g.at_.az j.1 j.2 a.toNat (by omega);rw[show((K:KS).F c).r a.toNat=c2 from a0.out]at m;have s:=g.at_.az j.1 j.2 d.toNat (by omega);rw[show((K:KS).F c).r d.toNat=R from G.out]at s;have t:=g.at_.az j.1 j.2 f.toNat (by omega);rw[show((K:KS).F c).r f.toNat=S from I.out]at t;have k1:=g.at_.xM;go_wp2_with fail
 refine(U _ g.at_).mono ?_;rintro e w2 ⟨rfl,cA,c6,J⟩;have r:=Z (g.trans (Gr.refl _) J);have am:=Z (J.nx.row F.1 F.2);have l:=Z (r.cur n o (Gr.of_eq rfl) (rfl));clear J;clear s t;clear t0 t1 t2 t3 t4 t5 t6 m k1;obtain⟨t0,t1,t2,t3,t4,t5,t6⟩:=am.1.c7;have m:=r.at_.az l.1 l.2 a.toNat (by omega);have c7:=r.at_.g1 l.1 l.2 (x+1+a.toNat);have bi:=Z (r.at_.drew.a6 l.1 l.2 a.toNat (by omega) pid);have al:Hid (Gr K _):=Z (Gr.of_eq rfl);go_wp2_with fail
 go_still_tail 6,(by kernel_rfl)
 change wpList _ _ _ _ _ w2.drew;go_wp2_with fail
 go_end0
 rw[E];obtain⟨c3,av,c0⟩:=bi.out;exact⟨rfl,c3,av,(r.af (Ch.refl _ _).drew).trans al c0⟩
end
end
end Go.Proofs.YtfnilkpkogipfaaGreatDoor
