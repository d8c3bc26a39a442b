import Derived.Deep.RegionHeldLaw
import Derived.Laws.Concat
import Derived.Test.YtlihkblppjgebaaGreatDoorZAl
set_option linter.all false
set_option maxRecDepth 100000
set_option maxHeartbeats 0
namespace Go.Proofs.YtlihkblppjgebaaGreatDoor
open Go.RowKit Go.Proofs.Tryz
variable{w:World}{χ:Nat->a'}{L:cU}{Y:Var}{C:KC}{K:KS}
theorem xT(c:cJ)(b o:Nat)(N:aj K c)(O:aR L Y c b o)(P:∀k,k<32->aK ((K.F c).r k))(a n p r q s:Int)(J:0<=a/\a<32)(M:K.blocks.Ok)(h:ae w χ L Y C K):
 Calls prog 167 #[(L.mb,0),(b,o),.agg #[.int .i64 44,a,n,p,.int .u64 r,q,s]] w (dk (.tuple #[]) χ L Y C K (bh K c ⟨44,a,n,p,r,q,s⟩) w):=by
 have Q:=Z h;have x:=Z N;have z:=Z O;obtain⟨w0,F,R,A,f⟩:=h.pre 44 a n p r q s;obtain⟨V,W⟩:=J;obtain⟨t,G⟩:∃y,(K.F c).r a.toNat=y:=⟨_,rfl⟩;have i:=Z G;have B:=Z (P a.toNat (by omega));rw[G]at B;obtain⟨T,U⟩:=B.out;obtain⟨t0,t1,t2,t3,t4,t5,t6⟩:=f.1.c7;have m:=A.at_.aA x z a.toNat (by omega);rw[i]at m;by_cases D:t<65536
 ·have E:Hid (bh K c ⟨44,a,n,p,r,q,s⟩=jm K t):=Z (by unfold bh;dsimp only;rw[if_neg (by decide),if_pos rfl,i,if_pos D])
  go_in
  go_wp2
  try rw[F]
  go_quiet (fail)
  obtain⟨w1,l⟩:=nm (w0.drewN nq);have g:Hid (Ch ag w0 w1):=Z (by rw[<-l];exact ay);rw[l];have d:=Z (A.af g);have j:Hid (aj K c/\aR L Y c b o):=Z ⟨x,z⟩;have u:=Z ((Nx.af g).row f.1 f.2);obtain⟨t0,t1,t2,t3,t4,t5,t6⟩:=u.1.c7;have m:=d.at_.aA j.1 j.2 a.toNat (by omega);rw[show((K:KS).F c).r a.toNat=t from i.out]at m;have k1:=d.at_.pd;go_wp2
  go_still_tail 8,(by kernel_rfl)
  change wpList _ _ _ _ _ w1.drew;go_wp2_with fail
  refine(zZ t (by exact M) d.at_.drew).mono ?_;rintro e w2 ⟨⟨v,rfl,_⟩,X,S,I⟩;have H:=Z ((d.af ay).trans (Gr.refl _) I);go_wp2
  go_end0
  rw[E];exact⟨rfl,_,_,H⟩
 ·have E:Hid (bh K c ⟨44,a,n,p,r,q,s⟩=K):=Z (by unfold bh;dsimp only;rw[if_neg (by decide),if_pos rfl,i,if_neg D])
  go_in
  go_wp2
  try rw[F]
  go_quiet (fail)
  obtain⟨w1,l⟩:=nm (w0.drewN nq);have g:Hid (Ch ag w0 w1):=Z (by rw[<-l];exact ay);rw[l];have d:=Z (A.af g);have j:Hid (aj K c/\aR L Y c b o):=Z ⟨x,z⟩;have u:=Z ((Nx.af g).row f.1 f.2);obtain⟨t0,t1,t2,t3,t4,t5,t6⟩:=u.1.c7;have m:=d.at_.aA j.1 j.2 a.toNat (by omega);rw[show((K:KS).F c).r a.toNat=t from i.out]at m;go_wp2
  go_end0
  rw[E];exact⟨rfl,_,_,d⟩
theorem xU(c:cJ)(b o:Nat)(I:aj K c)(J:aR L Y c b o)(M:∀k,k<32->aK ((K.F c).r k))(a f g j i l:Int)(H:0<=a/\a<32)(h:ae w χ L Y C K):
 Calls prog 167 #[(L.mb,0),(b,o),.agg #[.int .i64 46,a,f,g,.int .u64 j,i,l]] w (dk (.tuple #[]) χ L Y C K (bh K c ⟨46,a,f,g,j,i,l⟩) w):=by
 have O:=Z h;have r:=Z I;have t:=Z J;obtain⟨w0,N,P,x,m⟩:=h.pre 46 a f g j i l;obtain⟨T,U⟩:=H;obtain⟨q,B⟩:∃y,(K.F c).r a.toNat=y:=⟨_,rfl⟩;have n:=Z B;have u:=Z (M a.toNat (by omega));rw[B]at u;obtain⟨R,S⟩:=u.out;obtain⟨t0,t1,t2,t3,t4,t5,t6⟩:=m.1.c7;have p:=x.at_.aA r t a.toNat (by omega);rw[n]at p;have E:Hid (bh K c ⟨46,a,f,g,j,i,l⟩={K with cT:=(iZ K.cT q).2}):=Z (by unfold bh;dsimp only;rw[if_neg (by decide),if_neg (by decide),if_neg (by decide),if_pos rfl,n]);go_in
 go_wp2
 try rw[N]
 go_quiet (fail)
 obtain⟨w1,A⟩:=nm (w0.drewN nq);have s:Hid (Ch ag w0 w1):=Z (by rw[<-A];exact ay);rw[A];have d:=Z (x.af s);have z:Hid (aj K c/\aR L Y c b o):=Z ⟨r,t⟩;have D:=Z ((Nx.af s).row m.1 m.2);obtain⟨t0,t1,t2,t3,t4,t5,t6⟩:=D.1.c7;have p:=d.at_.aA z.1 z.2 a.toNat (by omega);rw[show((K:KS).F c).r a.toNat=q from n.out]at p;have k1:=d.at_.iq;go_wp2
 go_still_tail 7,(by kernel_rfl)
 change wpList _ _ _ _ _ w1.drew;go_wp2_with fail
 refine(FN q d.at_.drew).mono ?_;rintro e w2 ⟨⟨v,rfl,_⟩,V,Q,G⟩;have F:=Z ((d.af ay).trans (Gr.refl _) G);go_wp2
 go_end0
 rw[E];exact⟨rfl,_,_,F⟩
theorem xV(c:cJ)(b o:Nat)(al:aj K c)(am:aR L Y c b o)(a4:∀k,k<32->aK ((K.F c).r k))(a d F j G H:Int)(ad:0<=a/\a<32)(hb:0<=d/\d<32)(U:aK j)(h:ae w χ L Y C K):
 Calls prog 167 #[(L.mb,0),(b,o),.agg #[.int .i64 45,a,d,F,.int .u64 j,G,H]] w (dk (.tuple #[]) χ L Y C K (bh K c ⟨45,a,d,F,j,G,H⟩) w):=by
 have av:=Z h;have B:=Z al;have D:=Z am;obtain⟨w0,V,aP,J,z⟩:=h.pre 45 a d F j G H;obtain⟨c0,c1⟩:=ad;obtain⟨W,a5⟩:∃y,(K.F c).r a.toNat=y:=⟨_,rfl⟩;have R:=Z a5;have a0:=Z (a4 a.toNat (by omega));rw[a5]at a0;obtain⟨bi,bv⟩:=a0.out;obtain⟨c2,c3⟩:=hb;obtain⟨s,a9⟩:∃y,(K.F c).r d.toNat=y:=⟨_,rfl⟩;have u:=Z a9;have a1:=Z (a4 d.toNat (by omega));rw[a9]at a1;obtain⟨bw,bx⟩:=a1.out;obtain⟨t0,t1,t2,t3,t4,t5,t6⟩:=z.1.c7;have q:=J.at_.aA B D a.toNat (by omega);rw[R]at q;have m:=J.at_.aA B D d.toNat (by omega);rw[u]at m;obtain⟨bX,bZ⟩:=U;by_cases T:j<=6
 ·obtain⟨p,a3⟩:=nm (fP K.cT j s)
  have X:=Z a3;have S:=Z (fun w h=>FM (K:=K) (w:=w) (χ:=χ) (L:=L) (Y:=Y) (C:=C) j s h);rw[a3]at S;obtain⟨r,l'⟩:=p;have bb:IntKind.i64.wrap j=j:=IntWalk.i64_in _ (by omega);have bd:wrap64 j=j:=by unfold wrap64;omega
  cases r with
  |none=>
   have E:Hid (bh K c ⟨45,a,d,F,j,G,H⟩={K with cT:=l'}.ax c a.toNat 0):=Z (by unfold bh;dsimp only;rw[if_neg (by decide),if_neg (by decide),if_pos rfl,if_pos T,u,X];first|rfl|rw[rfl]);have I:Hid (Gr K {K with cT:=l'}):=Z (Gr.of_eq rfl);go_in
   go_wp2
   try rw[V]
   go_quiet (fail)
   obtain⟨w1,x⟩:=nm (w0.drewN nq);have t:Hid (Ch ag w0 w1):=Z (by rw[<-x];exact ay);rw[x];have g:=Z (J.af t);have f:Hid (aj K c/\aR L Y c b o):=Z ⟨B,D⟩;have n:=Z ((Nx.af t).row z.1 z.2);obtain⟨t0,t1,t2,t3,t4,t5,t6⟩:=n.1.c7;have q:=g.at_.aA f.1 f.2 a.toNat (by omega);rw[show((K:KS).F c).r a.toNat=W from R.out]at q;have m:=g.at_.aA f.1 f.2 d.toNat (by omega);rw[show((K:KS).F c).r d.toNat=s from u.out]at m;have k1:=g.at_.iq;go_wp2
   go_region_held3 (fun w'=>w'.cell? (L.mb,1013)=some (.pointer (some (L.ob,0)))/\w'.cell? ⟨w.heap.size,2,none⟩=some (.int .i64 d)/\w'.cell? ⟨w.heap.size,4,none⟩=some (.int .u64 j)/\w'.cell? (b,o+1+d.toNat)=some (.int .u64 s)) (go_keep) ((go_at_call 207;refine(S _ g.at_.drew).mono ?_;rintro e w2 ⟨⟨v,rfl,U⟩,ap,ab,N⟩;obtain⟨tt,c4,rfl⟩:=U;have l:=Z ((g.af ay).trans (Gr.refl _) N);have A:=Z (((Nx.af (Ch.refl _ w1).drew).trans N.nx).row n.1 n.2);have i:=Z (l.cur B D (Gr.of_eq rfl) rfl);have k1:=l.at_.iq;have t1:=A.1.k 1 rfl;have t2:=A.1.k 2 rfl;have t4:=A.1.k 4 rfl;have q:=l.at_.aA i.1 i.2 a.toNat (by omega);have m:=l.at_.aA i.1 i.2 d.toNat (by omega);rw[show(({K with cT:=l'}:KS).F c).r d.toNat=s from u.out]at m;have a2:=l.at_.hy i.1 i.2 (o+1+a.toNat);have O:=Z (l.at_.a7 i.1 i.2 a.toNat (by omega) 0)))
   all_goals
    go_wp2
    go_end0
    rw[E];obtain⟨Q,M,P⟩:=O.out;exact⟨rfl,Q,M,l.trans I P⟩
  |some r=>
   have E:Hid (bh K c ⟨45,a,d,F,j,G,H⟩={K with cT:=l'}.ax c a.toNat r):=Z (by unfold bh;dsimp only;rw[if_neg (by decide),if_neg (by decide),if_pos rfl,if_pos T,u,X];first|rfl|rw[rfl]);have I:Hid (Gr K {K with cT:=l'}):=Z (Gr.of_eq rfl);go_in
   go_wp2
   try rw[V]
   go_quiet (fail)
   obtain⟨w1,x⟩:=nm (w0.drewN nq);have t:Hid (Ch ag w0 w1):=Z (by rw[<-x];exact ay);rw[x];have g:=Z (J.af t);have f:Hid (aj K c/\aR L Y c b o):=Z ⟨B,D⟩;have n:=Z ((Nx.af t).row z.1 z.2);obtain⟨t0,t1,t2,t3,t4,t5,t6⟩:=n.1.c7;have q:=g.at_.aA f.1 f.2 a.toNat (by omega);rw[show((K:KS).F c).r a.toNat=W from R.out]at q;have m:=g.at_.aA f.1 f.2 d.toNat (by omega);rw[show((K:KS).F c).r d.toNat=s from u.out]at m;have k1:=g.at_.iq;go_wp2
   go_region_held3 (fun w'=>w'.cell? (L.mb,1013)=some (.pointer (some (L.ob,0)))/\w'.cell? ⟨w.heap.size,2,none⟩=some (.int .i64 d)/\w'.cell? ⟨w.heap.size,4,none⟩=some (.int .u64 j)/\w'.cell? (b,o+1+d.toNat)=some (.int .u64 s)) (go_keep) ((go_at_call 207;refine(S _ g.at_.drew).mono ?_;rintro e w2 ⟨rfl,ap,ab,N⟩;have l:=Z ((g.af ay).trans (Gr.refl _) N);have A:=Z (((Nx.af (Ch.refl _ w1).drew).trans N.nx).row n.1 n.2);have i:=Z (l.cur B D (Gr.of_eq rfl) rfl);have k1:=l.at_.iq;have t1:=A.1.k 1 rfl;have t2:=A.1.k 2 rfl;have t4:=A.1.k 4 rfl;have q:=l.at_.aA i.1 i.2 a.toNat (by omega);have m:=l.at_.aA i.1 i.2 d.toNat (by omega);rw[show(({K with cT:=l'}:KS).F c).r d.toNat=s from u.out]at m;have a2:=l.at_.hy i.1 i.2 (o+1+a.toNat);have O:=Z (l.at_.a7 i.1 i.2 a.toNat (by omega) r)))
   all_goals
    go_wp2
    go_end0
    rw[E];obtain⟨Q,M,P⟩:=O.out;exact⟨rfl,Q,M,l.trans I P⟩
 ·have E:Hid (bh K c ⟨45,a,d,F,j,G,H⟩=K.ax c a.toNat 0):=Z (by unfold bh;dsimp only;rw[if_neg (by decide),if_neg (by decide),if_pos rfl,if_neg T])
  have I:Hid (Gr K K):=Z (Gr.refl _);go_in
  go_wp2
  try rw[V]
  go_quiet (fail)
  obtain⟨w1,x⟩:=nm (w0.drewN nq);have t:Hid (Ch ag w0 w1):=Z (by rw[<-x];exact ay);rw[x];have g:=Z (J.af t);have f:Hid (aj K c/\aR L Y c b o):=Z ⟨B,D⟩;have n:=Z ((Nx.af t).row z.1 z.2);obtain⟨t0,t1,t2,t3,t4,t5,t6⟩:=n.1.c7;have q:=g.at_.aA f.1 f.2 a.toNat (by omega);rw[show((K:KS).F c).r a.toNat=W from R.out]at q;have m:=g.at_.aA f.1 f.2 d.toNat (by omega);rw[show((K:KS).F c).r d.toNat=s from u.out]at m;have a2:=g.at_.hy f.1 f.2 (o+1+a.toNat);have O:=Z (g.at_.a7 f.1 f.2 a.toNat (by omega) 0);go_wp2
  go_end0
  rw[E];obtain⟨Q,M,P⟩:=O.out;exact⟨rfl,Q,M,g.trans I P⟩
theorem ux(c:cJ)(b o:Nat)(bX:aj K c)(c0:aR L Y c b o)(av:∀k,k<32->aK ((K.F c).r k))(a i G I H J:Int)(bx:0<=a/\a<32)(hb:0<=i/\i<32)(a4:K.blocks.Ok)(h:ae w χ L Y C K):
 Calls prog 167 #[(L.mb,0),(b,o),.agg #[.int .i64 43,a,i,G,.int .u64 I,H,J]] w (dk (.tuple #[]) χ L Y C K (bh K c ⟨43,a,i,G,I,H,J⟩) w):=by
 have c5:=Z h;have l:=Z bX;have A:=Z c0;obtain⟨w0,a9,c6,O,z⟩:=h.pre 43 a i G I H J;obtain⟨ch,ci⟩:=bx;obtain⟨ad,aP⟩:∃y,(K.F c).r a.toNat=y:=⟨_,rfl⟩;have a1:=Z aP;have al:=Z (av a.toNat (by omega));rw[aP]at al;obtain⟨ca,cb⟩:=al.out;obtain⟨ab,cl⟩:=hb;obtain⟨a2,bb⟩:∃y,(K.F c).r i.toNat=y:=⟨_,rfl⟩;have B:=Z bb;have am:=Z (av i.toNat (by omega));rw[bb]at am;obtain⟨cd,ce⟩:=am.out;obtain⟨t0,t1,t2,t3,t4,t5,t6⟩:=z.1.c7;have f:=O.at_.aA l A a.toNat (by omega);rw[a1]at f;have F:=O.at_.aA l A i.toNat (by omega);rw[B]at F;by_cases a5:a2<=4096
 ·obtain⟨m,bZ⟩:∃m:Nat,a2=(m:Int):=⟨a2.toNat,by omega⟩
  subst bZ;obtain⟨p,c1⟩:=nm (df K.blocks K.mem m);have N:=Z c1;obtain⟨bw,B1,ap⟩:=p;cases bw with
  |none=>
   have E:Hid (bh K c ⟨43,a,i,G,I,H,J⟩=({K.ax c a.toNat 0 with blocks:=B1,mem:=ap}:KS).ax c a.toNat 0):=Z (by unfold bh;dsimp only;rw[if_pos rfl,if_pos ab,B,if_pos a5,Int.toNat_natCast,cj,gx,N]);go_in
   go_wp2
   try rw[a9]
   go_quiet (fail)
   obtain⟨w1,x⟩:=nm (w0.drewN nq);have t:Hid (Ch ag w0 w1):=Z (by rw[<-x];exact ay);rw[x];have j:=Z (O.af t);have d:Hid (aj K c/\aR L Y c b o):=Z ⟨l,A⟩;have M:=Z ((Nx.af t).row z.1 z.2);obtain⟨t0,t1,t2,t3,t4,t5,t6⟩:=M.1.c7;have f:=j.at_.aA d.1 d.2 a.toNat (by omega);rw[show((K:KS).F c).r a.toNat=ad from a1.out]at f;have F:=j.at_.aA d.1 d.2 i.toNat (by omega);rw[show((K:KS).F c).r i.toNat=(m:Int)from B.out]at F;have X:=f;have s:=j.at_.hy d.1 d.2 (o+1+a.toNat);have T:=Z (fun w (h:ae w χ L Y C K)=>h.a7 d.1 d.2 a.toNat (by omega) 0);go_wp2
   go_quiet (fail)
   generalize V:w1.drewN _=w2;have q:=Z (Ch.dN (D:=ag) V);have f:=q.k f;have s:=(q.frozen (p:=⟨b,o+1+a.toNat,none⟩) (aQ X) id).trans s;have u:=Z (j.af q);obtain⟨c3,bd,R⟩:=T _ u.at_;have P:=Z (u.trans (Gr.refl _) R);have bv:=R.at_.pd;go_wp2_with fail
   have U:=sd (K:=K.ax c a.toNat 0) m (by omega) (by rw[cj];exact a4) P.at_;rw[cj,gx,N]at U;refine U.mono ?_;rintro e w4 ⟨⟨v,rfl,c2⟩,c4,bi,a3⟩;obtain⟨tt,cm,rfl⟩:=c2;have r:=Z (P.trans (bA l _) a3);have n:=Z (r.cur l A ((bA l _).trans (Gr.of_eq rfl)) (br _ _));have f:=r.at_.aA n.1 n.2 a.toNat (by omega);have s:=r.at_.hy n.1 n.2 (o+1+a.toNat);have S:=Z (r.at_.a7 n.1 n.2 a.toNat (by omega) 0);go_wp2
   go_end0
   rw[E];obtain⟨a0,Q,W⟩:=S.out;exact⟨rfl,a0,Q,r.trans ((bA l _).trans (Gr.of_eq rfl)) W⟩
  |some g=>
   have E:Hid (bh K c ⟨43,a,i,G,I,H,J⟩=({K.ax c a.toNat 0 with blocks:=B1,mem:=ap}:KS).ax c a.toNat (g:Int)):=Z (by unfold bh;dsimp only;rw[if_pos rfl,if_pos ab,B,if_pos a5,Int.toNat_natCast,cj,gx,N]);have c7:=ng a4 (show(df K.blocks K.mem m).1=some g by rw[N]);have c9:IntKind.u64.wrap (g:Int)=g:=(by unfold IntKind.wrap IntKind.bits IntKind.signed;simp;omega);have c8:(g:Int)<=140000:=(by omega);go_in
   go_wp2
   try rw[a9]
   go_quiet (fail)
   obtain⟨w1,x⟩:=nm (w0.drewN nq);have t:Hid (Ch ag w0 w1):=Z (by rw[<-x];exact ay);rw[x];have j:=Z (O.af t);have d:Hid (aj K c/\aR L Y c b o):=Z ⟨l,A⟩;have M:=Z ((Nx.af t).row z.1 z.2);obtain⟨t0,t1,t2,t3,t4,t5,t6⟩:=M.1.c7;have f:=j.at_.aA d.1 d.2 a.toNat (by omega);rw[show((K:KS).F c).r a.toNat=ad from a1.out]at f;have F:=j.at_.aA d.1 d.2 i.toNat (by omega);rw[show((K:KS).F c).r i.toNat=(m:Int)from B.out]at F;have X:=f;have s:=j.at_.hy d.1 d.2 (o+1+a.toNat);have T:=Z (fun w (h:ae w χ L Y C K)=>h.a7 d.1 d.2 a.toNat (by omega) 0);go_wp2
   go_quiet (fail)
   generalize V:w1.drewN _=w2;have q:=Z (Ch.dN (D:=ag) V);have f:=q.k f;have s:=(q.frozen (p:=⟨b,o+1+a.toNat,none⟩) (aQ X) id).trans s;have u:=Z (j.af q);obtain⟨c3,bd,R⟩:=T _ u.at_;have P:=Z (u.trans (Gr.refl _) R);have bv:=R.at_.pd;go_wp2_with fail
   have U:=sd (K:=K.ax c a.toNat 0) m (by omega) (by rw[cj];exact a4) P.at_;rw[cj,gx,N]at U;refine U.mono ?_;rintro e w4 ⟨rfl,c4,bi,a3⟩;have r:=Z (P.trans (bA l _) a3);have n:=Z (r.cur l A ((bA l _).trans (Gr.of_eq rfl)) (br _ _));have f:=r.at_.aA n.1 n.2 a.toNat (by omega);have s:=r.at_.hy n.1 n.2 (o+1+a.toNat);have S:=Z (r.at_.a7 n.1 n.2 a.toNat (by omega) (g:Int));go_wp2
   go_end0
   rw[E];obtain⟨a0,Q,W⟩:=S.out;exact⟨rfl,a0,Q,r.trans ((bA l _).trans (Gr.of_eq rfl)) W⟩
 ·have E:Hid (bh K c ⟨43,a,i,G,I,H,J⟩=K.ax c a.toNat 0):=Z (by unfold bh;dsimp only;rw[if_pos rfl,if_pos ab,B,if_neg a5])
  go_in
  go_wp2
  try rw[a9]
  go_quiet (fail)
  obtain⟨w1,x⟩:=nm (w0.drewN nq);have t:Hid (Ch ag w0 w1):=Z (by rw[<-x];exact ay);rw[x];have j:=Z (O.af t);have d:Hid (aj K c/\aR L Y c b o):=Z ⟨l,A⟩;have M:=Z ((Nx.af t).row z.1 z.2);obtain⟨t0,t1,t2,t3,t4,t5,t6⟩:=M.1.c7;have f:=j.at_.aA d.1 d.2 a.toNat (by omega);rw[show((K:KS).F c).r a.toNat=ad from a1.out]at f;have F:=j.at_.aA d.1 d.2 i.toNat (by omega);rw[show((K:KS).F c).r i.toNat=a2 from B.out]at F;have X:=f;have s:=j.at_.hy d.1 d.2 (o+1+a.toNat);have T:=Z (fun w (h:ae w χ L Y C K)=>h.a7 d.1 d.2 a.toNat (by omega) 0);go_wp2
  go_quiet (fail)
  generalize V:w1.drewN _=w2;have q:=Z (Ch.dN (D:=ag) V);have f:=q.k f;have s:=(q.frozen (p:=⟨b,o+1+a.toNat,none⟩) (aQ X) id).trans s;have u:=Z (j.af q);have S:=Z (T _ u.at_);go_wp2
  go_end0
  rw[E];obtain⟨a0,Q,W⟩:=S.out;exact⟨rfl,a0,Q,u.trans (Gr.refl _) W⟩
theorem uy(c:cJ)(b o:Nat)(ad:aj K c)(am:aR L Y c b o)(av:∀k,k<32->aK ((K.F c).r k))(a x s z A:Int)(ab:0<=a/\a<32)(V:aK s)(T:K.blocks.Ok)(h:ae w χ L Y C K):
 Calls prog 167 #[(L.mb,0),(b,o),.agg #[.int .i64 43,a,.int .i64 (-1),x,.int .u64 s,z,A]] w (dk (.tuple #[]) χ L Y C K (bh K c ⟨43,a,(-1),x,s,z,A⟩) w):=by
 have bd:=Z h;have j:=Z ad;have u:=Z am;obtain⟨w0,W,bi,Q,t⟩:=h.pre 43 a (-1) x s z A;obtain⟨c2,c3⟩:=ab;obtain⟨X,a2⟩:∃y,(K.F c).r a.toNat=y:=⟨_,rfl⟩;have P:=Z a2;have a0:=Z (av a.toNat (by omega));rw[a2]at a0;obtain⟨bX,bZ⟩:=a0.out;obtain⟨t0,t1,t2,t3,t4,t5,t6⟩:=t.1.c7;have n:=Q.at_.aA j u a.toNat (by omega);rw[P]at n;obtain⟨c0,c1⟩:=V;by_cases U:s<=4096
 ·obtain⟨m,al⟩:∃m:Nat,s=(m:Int):=⟨s.toNat,by omega⟩
  subst al;obtain⟨p,ap⟩:=nm (df K.blocks K.mem m);have D:=Z ap;obtain⟨a9,B1,a1⟩:=p;cases a9 with
  |none=>
   have E:Hid (bh K c ⟨43,a,(-1),x,(m:Int),z,A⟩=({K.ax c a.toNat 0 with blocks:=B1,mem:=a1}:KS).ax c a.toNat 0):=Z (by unfold bh;dsimp only;rw[if_pos rfl,if_neg (show¬(0:Int)<=-1 by decide),if_pos U,Int.toNat_natCast,cj,gx,D]);go_in
   go_wp2
   try rw[W]
   go_quiet (fail)
   obtain⟨w1,r⟩:=nm (w0.drewN nq);have q:Hid (Ch ag w0 w1):=Z (by rw[<-r];exact ay);rw[r];have f:=Z (Q.af q);have d:Hid (aj K c/\aR L Y c b o):=Z ⟨j,u⟩;have B:=Z ((Nx.af q).row t.1 t.2);obtain⟨t0,t1,t2,t3,t4,t5,t6⟩:=B.1.c7;have n:=f.at_.aA d.1 d.2 a.toNat (by omega);rw[show((K:KS).F c).r a.toNat=X from P.out]at n;have R:=f.at_.hy d.1 d.2 (o+1+a.toNat);have J:=Z (fun w (h:ae w χ L Y C K)=>h.a7 d.1 d.2 a.toNat (by omega) 0);obtain⟨aP,a3,H⟩:=J _ f.at_;have F:=Z (f.trans (Gr.refl _) H);have a5:=H.at_.pd;go_wp2_with fail
   have M:=sd (K:=K.ax c a.toNat 0) m (by omega) (by rw[cj];exact T) F.at_;rw[cj,gx,D]at M;refine M.mono ?_;rintro e w4 ⟨⟨v,rfl,V⟩,bb,a4,S⟩;obtain⟨tt,c4,rfl⟩:=V;have l:=Z (F.trans (bA j _) S);have i:=Z (l.cur j u ((bA j _).trans (Gr.of_eq rfl)) (br _ _));have n:=l.at_.aA i.1 i.2 a.toNat (by omega);have R:=l.at_.hy i.1 i.2 (o+1+a.toNat);have I:=Z (l.at_.a7 i.1 i.2 a.toNat (by omega) 0);go_wp2
   go_end0
   rw[E];obtain⟨O,G,N⟩:=I.out;exact⟨rfl,O,G,l.trans ((bA j _).trans (Gr.of_eq rfl)) N⟩
  |some g=>
   have E:Hid (bh K c ⟨43,a,(-1),x,(m:Int),z,A⟩=({K.ax c a.toNat 0 with blocks:=B1,mem:=a1}:KS).ax c a.toNat (g:Int)):=Z (by unfold bh;dsimp only;rw[if_pos rfl,if_neg (show¬(0:Int)<=-1 by decide),if_pos U,Int.toNat_natCast,cj,gx,D]);have bv:=ng T (show(df K.blocks K.mem m).1=some g by rw[D]);have bx:IntKind.u64.wrap (g:Int)=g:=(by unfold IntKind.wrap IntKind.bits IntKind.signed;simp;omega);have bw:(g:Int)<=140000:=(by omega);go_in
   go_wp2
   try rw[W]
   go_quiet (fail)
   obtain⟨w1,r⟩:=nm (w0.drewN nq);have q:Hid (Ch ag w0 w1):=Z (by rw[<-r];exact ay);rw[r];have f:=Z (Q.af q);have d:Hid (aj K c/\aR L Y c b o):=Z ⟨j,u⟩;have B:=Z ((Nx.af q).row t.1 t.2);obtain⟨t0,t1,t2,t3,t4,t5,t6⟩:=B.1.c7;have n:=f.at_.aA d.1 d.2 a.toNat (by omega);rw[show((K:KS).F c).r a.toNat=X from P.out]at n;have R:=f.at_.hy d.1 d.2 (o+1+a.toNat);have J:=Z (fun w (h:ae w χ L Y C K)=>h.a7 d.1 d.2 a.toNat (by omega) 0);obtain⟨aP,a3,H⟩:=J _ f.at_;have F:=Z (f.trans (Gr.refl _) H);have a5:=H.at_.pd;go_wp2_with fail
   have M:=sd (K:=K.ax c a.toNat 0) m (by omega) (by rw[cj];exact T) F.at_;rw[cj,gx,D]at M;refine M.mono ?_;rintro e w4 ⟨rfl,bb,a4,S⟩;have l:=Z (F.trans (bA j _) S);have i:=Z (l.cur j u ((bA j _).trans (Gr.of_eq rfl)) (br _ _));have n:=l.at_.aA i.1 i.2 a.toNat (by omega);have R:=l.at_.hy i.1 i.2 (o+1+a.toNat);have I:=Z (l.at_.a7 i.1 i.2 a.toNat (by omega) (g:Int));go_wp2
   go_end0
   rw[E];obtain⟨O,G,N⟩:=I.out;exact⟨rfl,O,G,l.trans ((bA j _).trans (Gr.of_eq rfl)) N⟩
 ·have E:Hid (bh K c ⟨43,a,(-1),x,s,z,A⟩=K.ax c a.toNat 0):=Z (by unfold bh;dsimp only;rw[if_pos rfl,if_neg (show¬(0:Int)<=-1 by decide),if_neg U])
  go_in
  go_wp2
  try rw[W]
  go_quiet (fail)
  obtain⟨w1,r⟩:=nm (w0.drewN nq);have q:Hid (Ch ag w0 w1):=Z (by rw[<-r];exact ay);rw[r];have f:=Z (Q.af q);have d:Hid (aj K c/\aR L Y c b o):=Z ⟨j,u⟩;have B:=Z ((Nx.af q).row t.1 t.2);obtain⟨t0,t1,t2,t3,t4,t5,t6⟩:=B.1.c7;have n:=f.at_.aA d.1 d.2 a.toNat (by omega);rw[show((K:KS).F c).r a.toNat=X from P.out]at n;have R:=f.at_.hy d.1 d.2 (o+1+a.toNat);have J:=Z (fun w (h:ae w χ L Y C K)=>h.a7 d.1 d.2 a.toNat (by omega) 0);have I:=Z (J _ f.at_);go_wp2
  go_end0
  rw[E];obtain⟨O,G,N⟩:=I.out;exact⟨rfl,O,G,f.trans (Gr.refl _) N⟩
theorem xW(i:Nat)(R:i<K.wk.length)(c:cJ)(b o:Nat)(Q:aj K c)(S:aR L Y c b o)(F:∀k,k<32->aK ((K.F c).r k))(a d l n m p:Int)(P:0<=a/\a<32)(hb:0<=d/\d<32)(h:ae w χ L Y C K):
 Calls prog 168 #[(L.mb,0),(L.wb,i*38),(b,o),.agg #[.int .i64 49,a,d,l,.int .u64 n,m,p]] w (dk (.tuple #[]) χ L Y C K (bD C K i c ⟨49,a,d,l,n,m,p⟩) w):=by
 have a0:=Z h;have r:=Z Q;have s:=Z S;have a2:=Z R;obtain⟨w0,U,a1,v,q⟩:=h.pre 49 a d l n m p;obtain⟨am,ap⟩:=P;obtain⟨W,H⟩:∃y,(K.F c).r a.toNat=y:=⟨_,rfl⟩;have D:=Z H;have B:=Z (F a.toNat (by omega));rw[H]at B;obtain⟨a9,ab⟩:=B.out;obtain⟨av,aP⟩:=hb;obtain⟨g,I⟩:∃y,(K.F c).r d.toNat=y:=⟨_,rfl⟩;have u:=Z I;have t:=Z (F d.toNat (by omega));rw[I]at t;obtain⟨ad,al⟩:=t.out;obtain⟨t0,t1,t2,t3,t4,t5,t6⟩:=q.1.c7;have x:=v.at_.aA r s a.toNat (by omega);rw[D]at x;have z:=v.at_.aA r s d.toNat (by omega);rw[u]at z;have E:Hid (bD C K i c ⟨49,a,d,l,n,m,p⟩=K.ax c a.toNat (ed K.table g)):=Z (by unfold bD;dsimp only;rw[if_neg (by decide),if_neg (by decide),if_neg (by decide),if_pos rfl,u,show IntKind.u64.wrap (ed K.table g)=ed K.table g from by have:=n7 K.table g;unfold IntKind.wrap IntKind.bits IntKind.signed;simp;omega]);go_in
 go_wp2
 try rw[U]
 go_quiet (fail)
 obtain⟨w1,G⟩:=nm (w0.drewN nq);have A:Hid (Ch ag w0 w1):=Z (by rw[<-G];exact ay);rw[G];have j:=Z (v.af A);have f:Hid (aj K c/\aR L Y c b o):=Z ⟨r,s⟩;have M:=Z ((Nx.af A).row q.1 q.2);obtain⟨t0,t1,t2,t3,t4,t5,t6⟩:=M.1.c7;have x:=j.at_.aA f.1 f.2 a.toNat (by omega);rw[show((K:KS).F c).r a.toNat=W from D.out]at x;have z:=j.at_.aA f.1 f.2 d.toNat (by omega);rw[show((K:KS).F c).r d.toNat=g from u.out]at z;have k1:=j.at_.ee;go_wp2_with fail
 refine(uk g t j.at_).mono ?_;rintro e w2 ⟨rfl,rfl⟩;have T:=n7 K.table g;obtain⟨a4,a5⟩:=T;have a3:=j.at_.hy f.1 f.2 (o+1+a.toNat);have O:=Z (j.at_.drew.a7 f.1 f.2 a.toNat (by omega) (ed K.table g));have J:Hid (Gr K _):=Z (Gr.refl K);go_wp2
 go_still_tail 6,(by kernel_rfl)
 change wpList _ _ _ _ _ w1.drew;go_wp2
 go_end0
 rw[E];obtain⟨X,N,V⟩:=O.out;exact⟨rfl,X,N,(j.af ay).trans J V⟩
theorem xX(i:Nat)(a5:i<K.wk.length)(c:cJ)(b o:Nat)(a3:aj K c)(a9:aR L Y c b o)(M:∀k,k<32->aK ((K.F c).r k))(a d p r q s:Int)(a2:0<=a/\a<32)(hb:0<=d/\d<32)(h:ae w χ L Y C K):
 Calls prog 168 #[(L.mb,0),(L.wb,i*38),(b,o),.agg #[.int .i64 50,a,d,p,.int .u64 r,q,s]] w (dk (.tuple #[]) χ L Y C K (bD C K i c ⟨50,a,d,p,r,q,s⟩) w):=by
 have av:=Z h;have v:=Z a3;have x:=Z a9;have bb:=Z a5;obtain⟨w0,ab,aP,D,t⟩:=h.pre 50 a d p r q s;obtain⟨bX,bZ⟩:=a2;obtain⟨S,P⟩:∃y,(K.F c).r a.toNat=y:=⟨_,rfl⟩;have A:=Z P;have J:=Z (M a.toNat (by omega));rw[P]at J;obtain⟨bi,bv⟩:=J.out;obtain⟨c0,c1⟩:=hb;obtain⟨G,Q⟩:∃y,(K.F c).r d.toNat=y:=⟨_,rfl⟩;have B:=Z Q;have z:=Z (M d.toNat (by omega));rw[Q]at z;obtain⟨bw,bx⟩:=z.out;obtain⟨t0,t1,t2,t3,t4,t5,t6⟩:=t.1.c7;have l:=D.at_.aA v x a.toNat (by omega);rw[A]at l;have F:=D.at_.aA v x d.toNat (by omega);rw[B]at F;obtain⟨am,N⟩:=nm (fx K.table G);have X:=Z N;have m:=Z (fun w h=>kW (K:=K) (w:=w) (χ:=χ) (L:=L) (Y:=Y) (C:=C) G z h);rw[N]at m;obtain⟨⟨c2,c3,T,c4,c5,c6,c7⟩,c8⟩:=am;unfold iD.val at m;dsimp only at m;have E:Hid (bD C K i c ⟨50,a,d,p,r,q,s⟩=K.ax c a.toNat T):=Z (by unfold bD;dsimp only;rw[if_neg (by decide),if_neg (by decide),if_neg (by decide),if_neg (by decide),if_pos rfl,B,X]);go_in
 go_wp2
 try rw[ab]
 go_quiet (fail)
 obtain⟨w1,O⟩:=nm (w0.drewN nq);have H:Hid (Ch ag w0 w1):=Z (by rw[<-O];exact ay);rw[O];have g:=Z (D.af H);have j:Hid (aj K c/\aR L Y c b o):=Z ⟨v,x⟩;have u:=Z ((Nx.af H).row t.1 t.2);obtain⟨t0,t1,t2,t3,t4,t5,t6⟩:=u.1.c7;have l:=g.at_.aA j.1 j.2 a.toNat (by omega);rw[show((K:KS).F c).r a.toNat=S from A.out]at l;have F:=g.at_.aA j.1 j.2 d.toNat (by omega);rw[show((K:KS).F c).r d.toNat=G from B.out]at F;have k1:=g.at_.ee;go_wp2_with fail
 refine(m _ g.at_).mono ?_;rintro e w2 ⟨rfl,a4⟩;have W:=Z a4;go_upto_region 23 with fail
 generalize ad:w2.alloc _=R;have I:Hid (Ch ag w1 R):=Z (by rw[<-ad];exact W.alloc _);have n:=Z (g.af I);have V:=Z ((Nx.af I).row u.1 u.2);have f:=j;obtain⟨t0,t1,t2,t3,t4,t5,t6⟩:=V.1.c7;have l:=n.at_.aA f.1 f.2 a.toNat (by omega);rw[show((K:KS).F c).r a.toNat=S from A.out]at l;have bd:=n.at_.hy f.1 f.2 (o+1+a.toNat);have a1:=Z (n.at_.drew.a7 f.1 f.2 a.toNat (by omega) T);have U:Hid (Gr K _):=Z (Gr.refl K);go_wp2
 go_still_tail 6,(by kernel_rfl)
 change wpList _ _ _ _ _ R.drew;go_wp2
 go_end0
 rw[E];obtain⟨ap,a0,al⟩:=a1.out;exact⟨rfl,ap,a0,(n.af ay).trans U al⟩
theorem xY(i:Nat)(bd:i<K.wk.length)(c:cJ)(b o:Nat)(bb:aj K c)(bi:aR L Y c b o)(a4:∀k,k<32->aK ((K.F c).r k))(a d I M J N:Int)(av:0<=a/\a<32)(hb:0<=d/\d<32)(aP:K.blocks.Ok)(h:ae w χ L Y C K):
 Calls prog 168 #[(L.mb,0),(L.wb,i*38),(b,o),.agg #[.int .i64 54,a,d,I,.int .u64 M,J,N]] w (dk (.tuple #[]) χ L Y C K (bD C K i c ⟨54,a,d,I,M,J,N⟩) w):=by
 have c0:=Z h;have p:=Z bb;have q:=Z bi;have c2:=Z bd;obtain⟨w0,a9,c1,P,u⟩:=h.pre 54 a d I M J N;obtain⟨c8,c9⟩:=av;obtain⟨Q,ab⟩:∃y,(K.F c).r a.toNat=y:=⟨_,rfl⟩;have A:=Z ab;have a2:=Z (a4 a.toNat (by omega));rw[ab]at a2;obtain⟨c4,c5⟩:=a2.out;obtain⟨ca,cb⟩:=hb;obtain⟨r,ad⟩:∃y,(K.F c).r d.toNat=y:=⟨_,rfl⟩;have B:=Z ad;have O:=Z (a4 d.toNat (by omega));rw[ad]at O;obtain⟨c6,c7⟩:=O.out;obtain⟨t0,t1,t2,t3,t4,t5,t6⟩:=u.1.c7;have j:=P.at_.aA p q a.toNat (by omega);rw[A]at j;have H:=P.at_.aA p q d.toNat (by omega);rw[B]at H;obtain⟨bw,a5⟩:=nm (fy K.table r);have a1:=Z a5;have T:=Z (fun w h=>zU (K:=K) (w:=w) (χ:=χ) (L:=L) (Y:=Y) (C:=C) r O h);rw[a5]at T;obtain⟨cd,R,X,bX,t⟩:=bw;cases bX
 ·have E:Hid (bD C K i c ⟨54,a,d,I,M,J,N⟩=({K with table:=t}:KS).ax c a.toNat R):=Z (by unfold bD;dsimp only;rw[if_neg (by decide),if_neg (by decide),if_pos rfl,B,a1];rfl)
  go_in
  go_wp2
  try rw[a9]
  go_quiet (fail)
  obtain⟨w1,G⟩:=nm (w0.drewN nq);have z:Hid (Ch ag w0 w1):=Z (by rw[<-G];exact ay);rw[G];have f:=Z (P.af z);have l:Hid (aj K c/\aR L Y c b o):=Z ⟨p,q⟩;have n:=Z ((Nx.af z).row u.1 u.2);obtain⟨t0,t1,t2,t3,t4,t5,t6⟩:=n.1.c7;have j:=f.at_.aA l.1 l.2 a.toNat (by omega);rw[show((K:KS).F c).r a.toNat=Q from A.out]at j;have H:=f.at_.aA l.1 l.2 d.toNat (by omega);rw[show((K:KS).F c).r d.toNat=r from B.out]at H;have k1:=f.at_.ee;go_wp2_with fail
  refine(T _ f.at_).mono ?_;rintro e w2 ⟨⟨v,rfl,bv⟩,bZ,am,F⟩;have g:=Z (f.trans (Gr.refl _) F);have x:=Z (F.nx.row n.1 n.2);have m:=Z (g.cur p q (Gr.of_eq rfl) (rfl));obtain⟨t0,t1,t2,t3,t4,t5,t6⟩:=x.1.c7;have j:=g.at_.aA m.1 m.2 a.toNat (by omega);rw[show(({K with table:=t}:KS).F c).r a.toNat=Q from A.out]at j;have ap:=g.at_.hy m.1 m.2 (o+1+a.toNat);have V:=Z (g.at_.drew.a7 m.1 m.2 a.toNat (by omega) R);have S:Hid (Gr K _):=Z (Gr.of_eq rfl);go_wp2
  go_still_tail 6,(by kernel_rfl)
  change wpList _ _ _ _ _ w2.drew;go_wp2
  go_end0
  rw[E];obtain⟨a0,U,W⟩:=V.out;exact⟨rfl,a0,U,(g.af ay).trans S W⟩
 ·have E:Hid (bD C K i c ⟨54,a,d,I,M,J,N⟩=(eo {K with table:=t} r X).ax c a.toNat R):=Z (by unfold bD;dsimp only;rw[if_neg (by decide),if_neg (by decide),if_pos rfl,B,a1];rfl)
  go_in
  go_wp2
  try rw[a9]
  go_quiet (fail)
  obtain⟨w1,G⟩:=nm (w0.drewN nq);have z:Hid (Ch ag w0 w1):=Z (by rw[<-G];exact ay);rw[G];have f:=Z (P.af z);have l:Hid (aj K c/\aR L Y c b o):=Z ⟨p,q⟩;have n:=Z ((Nx.af z).row u.1 u.2);obtain⟨t0,t1,t2,t3,t4,t5,t6⟩:=n.1.c7;have j:=f.at_.aA l.1 l.2 a.toNat (by omega);rw[show((K:KS).F c).r a.toNat=Q from A.out]at j;have H:=f.at_.aA l.1 l.2 d.toNat (by omega);rw[show((K:KS).F c).r d.toNat=r from B.out]at H;have k1:=f.at_.ee;go_wp2_with fail
  refine(T _ f.at_).mono ?_;rintro e w2 ⟨⟨v,rfl,bv⟩,bZ,am,F⟩;have g:=Z (f.trans (Gr.refl _) F);have x:=Z (F.nx.row n.1 n.2);have m:=Z (g.cur p q (Gr.of_eq rfl) (rfl));obtain⟨t0,t1,t2,t3,t4,t5,t6⟩:=x.1.c7;have j:=g.at_.aA m.1 m.2 a.toNat (by omega);rw[show(({K with table:=t}:KS).F c).r a.toNat=Q from A.out]at j;go_wp2_with fail
  refine(lV (K:={K with table:=t}) r X O (by exact aP) g.at_).mono ?_;rintro e bx ⟨rfl,ce,c3,a3⟩;have D:=Z (g.trans (Gr.of_eq rfl) a3);have al:=Z (a3.nx.row x.1 x.2);have s:=Z (D.cur p q (Gr.of_eq (hg _ _ _)) (by rw[kZ]));obtain⟨t0,t1,t2,t3,t4,t5,t6⟩:=al.1.c7;have j:=D.at_.aA s.1 s.2 a.toNat (by omega);have ap:=D.at_.hy s.1 s.2 (o+1+a.toNat);have V:=Z (D.at_.drew.a7 s.1 s.2 a.toNat (by omega) R);have S:Hid (Gr K _):=Z (Gr.of_eq (hg {K with table:=t} r X));go_wp2
  go_still_tail 6,(by kernel_rfl)
  change wpList _ _ _ _ _ bx.drew;go_wp2
  go_end0
  rw[E];obtain⟨a0,U,W⟩:=V.out;exact⟨rfl,a0,U,(D.af ay).trans S W⟩
theorem xZ(i:Nat)(ce:i<K.wk.length)(c:cJ)(b o:Nat)(cd:aj K c)(ch:aR L Y c b o)(c1:∀k,k<32->aK ((K.F c).r k))(a g a3 a5 a4 a9:Int)(ca:0<=a/\a<32)(hb:0<=g/\g<32)(cb:K.blocks.Ok)(h:ae w χ L Y C K):
 Calls prog 168 #[(L.mb,0),(L.wb,i*38),(b,o),.agg #[.int .i64 52,a,g,a3,.int .u64 a5,a4,a9]] w (dk (.tuple #[]) χ L Y C K (bD C K i c ⟨52,a,g,a3,a5,a4,a9⟩) w):=by
 have cs:=Z h;have F:=Z cd;have G:=Z ch;have cA:=Z ce;obtain⟨w0,c3,ct,ab,M⟩:=h.pre 52 a g a3 a5 a4 a9;obtain⟨cW,di⟩:=ca;obtain⟨d,c4⟩:∃y,(K.F c).r a.toNat=y:=⟨_,rfl⟩;have p:=Z c4;have S:=Z (c1 a.toNat (by omega));rw[c4]at S;obtain⟨cF,cL⟩:=S.out;obtain⟨dp,dr⟩:=hb;obtain⟨c6,c5⟩:∃y,(K.F c).r g.toNat=y:=⟨_,rfl⟩;have am:=Z c5;have bx:=Z (c1 g.toNat (by omega));rw[c5]at bx;obtain⟨cQ,cS⟩:=bx.out;obtain⟨t0,t1,t2,t3,t4,t5,t6⟩:=M.1.c7;have f:=ab.at_.aA F G a.toNat (by omega);rw[p]at f;have a1:=ab.at_.aA F G g.toNat (by omega);rw[am]at a1;obtain⟨cl,c2⟩:=nm (fx K.table d);have bw:=Z c2;have R:=Z (fun w h=>kW (K:=K) (w:=w) (χ:=χ) (L:=L) (Y:=Y) (C:=C) d S h);rw[c2]at R;obtain⟨⟨s,t,m,u,x,z,A⟩,e4⟩:=cl;unfold iD.val at R;dsimp only at R;obtain⟨ci,c0⟩:=nm (e8 K.table d);have bv:=Z c0;have al:=Z (fun w h=>xA (K:=K) (w:=w) (χ:=χ) (L:=L) (Y:=Y) (C:=C) d S h);rw[c0]at al;obtain⟨ok,J⟩:=ci;cases ok
 ·have E:Hid (bD C K i c ⟨52,a,g,a3,a5,a4,a9⟩=({K with table:=J}:KS).ax c a.toNat d):=Z (by unfold bD;dsimp only;rw[if_neg (by decide),if_pos rfl,p,bw,bv];rfl)
  go_in
  go_wp2
  try rw[c3]
  go_quiet (fail)
  obtain⟨w1,X⟩:=nm (w0.drewN nq);have O:Hid (Ch ag w0 w1):=Z (by rw[<-X];exact ay);rw[X];have j:=Z (ab.af O);have l:Hid (aj K c/\aR L Y c b o):=Z ⟨F,G⟩;have B:=Z ((Nx.af O).row M.1 M.2);obtain⟨t0,t1,t2,t3,t4,t5,t6⟩:=B.1.c7;have f:=j.at_.aA l.1 l.2 a.toNat (by omega);rw[show((K:KS).F c).r a.toNat=d from p.out]at f;have a1:=j.at_.aA l.1 l.2 g.toNat (by omega);rw[show((K:KS).F c).r g.toNat=c6 from am.out]at a1;have k1:=j.at_.ee;go_wp2_with fail
  refine(R _ j.at_).mono ?_;rintro e w2 ⟨rfl,aP⟩;have P:=Z aP;go_upto_region 11 with fail
  have T:Hid (Row (w2.alloc (.cells #[.int .u64 s,t,.int .u64 m,.int .u64 u,.int .u64 x,.bool z,.bool A] 48)) w2.heap.size 48 [.int .u64 s,t,.int .u64 m,.int .u64 u,.int .u64 x,.bool z,.bool A]):=Z (Row.new w2 _ _);obtain⟨a2,a0⟩:=nm (w2.alloc (.cells #[.int .u64 s,t,.int .u64 m,.int .u64 u,.int .u64 x,.bool z,.bool A] 48));rw[a0]at T⊢;have Q:Hid (Ch ag w1 a2):=Z (by rw[<-a0];exact P.alloc _);have q:=Z (j.af Q);have D:=Z ((Nx.af Q).row B.1 B.2);have W:=l;have U:Hid (Row a2 w2.heap.size 48 [.int .u64 s,t,.int .u64 m,.int .u64 u,.int .u64 x,.bool z,.bool A]/\χ w2.heap.size=.no):=Z ⟨T,j.at_.fresh P.size⟩;obtain⟨t0,t1,t2,t3,t4,t5,t6⟩:=D.1.c7;have f:=q.at_.aA W.1 W.2 a.toNat (by omega);rw[show((K:KS).F c).r a.toNat=d from p.out]at f;have k1:=q.at_.ee;go_wp2_with fail
  refine(al _ q.at_).mono ?_;rintro e w4 ⟨⟨v,rfl,bb⟩,cq,c8,H⟩;obtain⟨tt,dC,rfl⟩:=bb;have bX:=Z (H.nx.row U.1 U.2);have n:=Z (q.trans (Gr.refl _) H);have N:=Z (H.nx.row D.1 D.2);have r:=Z (n.cur F G (Gr.of_eq rfl) (rfl));obtain⟨t0,t1,t2,t3,t4,t5,t6⟩:=N.1.c7;have f:=n.at_.aA r.1 r.2 a.toNat (by omega);rw[show(({K with table:=J}:KS).F c).r a.toNat=d from p.out]at f;have c9:=n.at_.hy r.1 r.2 (o+1+a.toNat);have av:=Z (n.at_.drew.a7 r.1 r.2 a.toNat (by omega) d);have ad:Hid (Gr K _):=Z (Gr.of_eq rfl);go_wp2
  go_still_tail 6,(by kernel_rfl)
  change wpList _ _ _ _ _ w4.drew;go_wp2
  go_end0
  rw[E];obtain⟨bi,ap,bd⟩:=av.out;exact⟨rfl,bi,ap,(n.af ay).trans ad bd⟩
 ·have E:Hid (bD C K i c ⟨52,a,g,a3,a5,a4,a9⟩=(eo {K with table:=J} d m).ax c a.toNat d):=Z (by unfold bD;dsimp only;rw[if_neg (by decide),if_pos rfl,p,bw,bv];rfl)
  go_in
  go_wp2
  try rw[c3]
  go_quiet (fail)
  obtain⟨w1,X⟩:=nm (w0.drewN nq);have O:Hid (Ch ag w0 w1):=Z (by rw[<-X];exact ay);rw[X];have j:=Z (ab.af O);have l:Hid (aj K c/\aR L Y c b o):=Z ⟨F,G⟩;have B:=Z ((Nx.af O).row M.1 M.2);obtain⟨t0,t1,t2,t3,t4,t5,t6⟩:=B.1.c7;have f:=j.at_.aA l.1 l.2 a.toNat (by omega);rw[show((K:KS).F c).r a.toNat=d from p.out]at f;have a1:=j.at_.aA l.1 l.2 g.toNat (by omega);rw[show((K:KS).F c).r g.toNat=c6 from am.out]at a1;have k1:=j.at_.ee;go_wp2_with fail
  refine(R _ j.at_).mono ?_;rintro e w2 ⟨rfl,aP⟩;have P:=Z aP;go_upto_region 11 with fail
  have T:Hid (Row (w2.alloc (.cells #[.int .u64 s,t,.int .u64 m,.int .u64 u,.int .u64 x,.bool z,.bool A] 48)) w2.heap.size 48 [.int .u64 s,t,.int .u64 m,.int .u64 u,.int .u64 x,.bool z,.bool A]):=Z (Row.new w2 _ _);obtain⟨a2,a0⟩:=nm (w2.alloc (.cells #[.int .u64 s,t,.int .u64 m,.int .u64 u,.int .u64 x,.bool z,.bool A] 48));rw[a0]at T⊢;have Q:Hid (Ch ag w1 a2):=Z (by rw[<-a0];exact P.alloc _);have q:=Z (j.af Q);have D:=Z ((Nx.af Q).row B.1 B.2);have W:=l;have U:Hid (Row a2 w2.heap.size 48 [.int .u64 s,t,.int .u64 m,.int .u64 u,.int .u64 x,.bool z,.bool A]/\χ w2.heap.size=.no):=Z ⟨T,j.at_.fresh P.size⟩;obtain⟨t0,t1,t2,t3,t4,t5,t6⟩:=D.1.c7;have f:=q.at_.aA W.1 W.2 a.toNat (by omega);rw[show((K:KS).F c).r a.toNat=d from p.out]at f;have k1:=q.at_.ee;go_wp2_with fail
  refine(al _ q.at_).mono ?_;rintro e w4 ⟨⟨v,rfl,bb⟩,cq,c8,H⟩;obtain rfl:v=.nilIface:=bb;have bX:=Z (H.nx.row U.1 U.2);have n:=Z (q.trans (Gr.refl _) H);have N:=Z (H.nx.row D.1 D.2);have r:=Z (n.cur F G (Gr.of_eq rfl) (rfl));obtain⟨t0,t1,t2,t3,t4,t5,t6⟩:=N.1.c7;have f:=n.at_.aA r.1 r.2 a.toNat (by omega);rw[show(({K with table:=J}:KS).F c).r a.toNat=d from p.out]at f;have dN:=bX.1.k 2 rfl;go_wp2_with fail
  refine(lV (K:={K with table:=J}) d m S (by exact cb) n.at_).mono ?_;rintro e cm ⟨rfl,en,cC,bZ⟩;have V:=Z (n.trans (Gr.of_eq rfl) bZ);have c7:=Z (bZ.nx.row N.1 N.2);have I:=Z (V.cur F G (Gr.of_eq (hg _ _ _)) (by rw[kZ]));obtain⟨t0,t1,t2,t3,t4,t5,t6⟩:=c7.1.c7;have f:=V.at_.aA I.1 I.2 a.toNat (by omega);have c9:=V.at_.hy I.1 I.2 (o+1+a.toNat);have av:=Z (V.at_.drew.a7 I.1 I.2 a.toNat (by omega) d);have ad:Hid (Gr K _):=Z (Gr.of_eq (hg {K with table:=J} d m));go_wp2
  go_still_tail 6,(by kernel_rfl)
  change wpList _ _ _ _ _ cm.drew;go_wp2
  go_end0
  rw[E];obtain⟨bi,ap,bd⟩:=av.out;exact⟨rfl,bi,ap,(V.af ay).trans ad bd⟩
variable{pid:Int}{t:Thread}
def b3(K:KS)(pid v:Int):KS:=if(aw K.ai pid).isSome then K.cp pid {K.T pid with eY:=v}else K
theorem hP(h:aw K.ai pid=some t)(v:Int):b3 K pid v=K.cp pid {t with eY:=v}:=by unfold b3;rw[if_pos (by rw[h];rfl),KS.dm h]
theorem hQ(h:aw K.ai pid=none)(v:Int):b3 K pid v=K:=by unfold b3;rw[if_neg (by rw[h];simp)]
theorem hc(i:Nat)(c:cJ)(e g h l k m:Int){b d:Int}{f:Bool}{a:List (List fQ)}(hb:(K.F c).r g.toNat=b)(hd:(K.F c).r h.toNat=d)(j:eJ K.q b d=(pid,f,a)):
 bl K i c ⟨25,e,g,h,l,k,m⟩=if f then(if cz (b3 {K with q:=a,clock:=(K.clock.bp pid).2} pid 0) pid=3 then ep (b3 {K with q:=a,clock:=(K.clock.bp pid).2} pid 0) i pid else(b3 {K with q:=a,clock:=(K.clock.bp pid).2} pid 0)).ax c e.toNat pid else({K with q:=a}:KS).ax c e.toNat 0:=by
 unfold bl;dsimp only;rw[if_pos rfl,hb,hd,j];rfl
theorem uz(q:List (List fQ))(a m:Int):(eJ q a m).2.1=false->(eJ q a m).1=0:=by
 unfold eJ;split
 ·exact fun _=>rfl
 ·intro h;cases h
theorem qQ{id:Int}{b:Thread}(d:aw K.ai id=some t)(c:t.l.length<=b.l.length):Gr K (K.cp id b):=by
 intro j u a;show∃v,aw (cn K.ai id b) j=some v/\_
 rw[aV];by_cases e:j=id
 ·subst e
  rw[d]at a;injection a with a;subst a
  rw[if_pos rfl];exact⟨_,rfl,c⟩
 ·rw[if_neg e];exact⟨u,a,Nat.le_refl _⟩
theorem sA(i:Nat)(ex:i<K.wk.length)(c:cJ)(b o:Nat)(en:aj K c)(ey:aR L Y c b o)(cl:∀k,k<32->aK ((K.F c).r k))(a g j U T V:Int)(e4:0<=a/\a<32)(hb:0<=g/\g<32)(es:0<=j/\j<32)(et:K.clock.Ok)(cb:aK (eJ K.q ((K.F c).r g.toNat) ((K.F c).r j.toNat)).1)(h:ae w χ L Y C K):
 Calls prog 169 #[(L.mb,0),(L.wb,i*38),(b,o),.agg #[.int .i64 25,a,g,j,.int .u64 U,T,V]] w (dk (.tuple #[]) χ L Y C K (bl K i c ⟨25,a,g,j,U,T,V⟩) w):=by
 have eG:=Z h;have n:=Z en;have r:=Z ey;have cL:=Z ex;obtain⟨w0,c4,eI,bb,W⟩:=h.pre 25 a g j U T V;obtain⟨fk,fn⟩:=e4;obtain⟨c7,dp⟩:∃y,(K.F c).r a.toNat=y:=⟨_,rfl⟩;have bX:=Z dp;have cQ:=Z (cl a.toNat (by omega));rw[dp]at cQ;obtain⟨eL,eS⟩:=cQ.out;obtain⟨fr,fz⟩:=hb;obtain⟨bi,dr⟩:∃y,(K.F c).r g.toNat=y:=⟨_,rfl⟩;have R:=Z dr;have cS:=Z (cl g.toNat (by omega));rw[dr]at cS;obtain⟨eW,e'⟩:=cS.out;obtain⟨fK,fL⟩:=es;obtain⟨bv,dC⟩:∃y,(K.F c).r j.toNat=y:=⟨_,rfl⟩;have S:=Z dC;have cW:=Z (cl j.toNat (by omega));rw[dC]at cW;obtain⟨fb,fd⟩:=cW.out;obtain⟨t0,t1,t2,t3,t4,t5,t6⟩:=W.1.c7;have A:=bb.at_.aA n r a.toNat (by omega);rw[bX]at A;have a9:=bb.at_.aA n r g.toNat (by omega);rw[R]at a9;have ab:=bb.at_.aA n r j.toNat (by omega);rw[S]at ab;rw[R,S]at cb;obtain⟨p,ci⟩:=nm (eJ K.q bi bv);have c1:=Z ci;have bx:=Z (fun w h=>Ef (K:=K) (w:=w) (χ:=χ) (L:=L) (Y:=Y) (C:=C) bi bv h);have Q:p.2.1=false->p.1=0:=by rw[<-ci];exact uz _ _ _
 rw[ci]at bx cb;obtain⟨pid,eA,a5⟩:=p;dsimp only at Q cb;have bw:=Z cb;have c8:=Z et;cases eA
 ·obtain rfl:pid=0:=Q rfl
  have E:Hid (bl K i c ⟨25,a,g,j,U,T,V⟩=({K with q:=a5}:KS).ax c a.toNat 0):=Z (by unfold bl;dsimp only;rw[if_pos rfl,R,S,c1];rfl);go_in
  go_wp2
  try rw[c4]
  go_quiet (fail)
  obtain⟨w1,J⟩:=nm (w0.drewN nq);have G:Hid (Ch ag w0 w1):=Z (by rw[<-J];exact ay);rw[J];have d:=Z (bb.af G);have f:Hid (aj K c/\aR L Y c b o):=Z ⟨n,r⟩;have v:=Z ((Nx.af G).row W.1 W.2);obtain⟨t0,t1,t2,t3,t4,t5,t6⟩:=v.1.c7;have A:=d.at_.aA f.1 f.2 a.toNat (by omega);rw[show((K:KS).F c).r a.toNat=c7 from bX.out]at A;have a9:=d.at_.aA f.1 f.2 g.toNat (by omega);rw[show((K:KS).F c).r g.toNat=bi from R.out]at a9;have ab:=d.at_.aA f.1 f.2 j.toNat (by omega);rw[show((K:KS).F c).r j.toNat=bv from S.out]at ab;have k1:=d.at_.v8;go_wp2_with fail
  refine(bx _ d.at_).mono ?_;rintro e w2 ⟨rfl,cd,c9,I⟩;have l:=Z (d.trans (Gr.refl _) I);have x:=Z (I.nx.row v.1 v.2);have ad:=Z (l.cur n r (Gr.of_eq rfl) (rfl));obtain⟨t0,t1,t2,t3,t4,t5,t6⟩:=x.1.c7;have A:=l.at_.aA ad.1 ad.2 a.toNat (by omega);have ca:=l.at_.hy ad.1 ad.2 (o+1+a.toNat);have u:=Z (l.at_.drew.a7 ad.1 ad.2 a.toNat (by omega) 0);have al:Hid (Gr K _):=Z (Gr.of_eq rfl);go_wp2
  go_still_tail 6,(by kernel_rfl)
  change wpList _ _ _ _ _ w2.drew;go_wp2
  go_end0
  rw[E];obtain⟨aP,ap,Q⟩:=u.out;exact⟨rfl,aP,ap,(l.af ay).trans al Q⟩
 ·clear Q
  cases di:aw K.ai pid with
  |none=>
   have H:=Z di;obtain⟨s,av⟩:=mn (({K with q:=a5,clock:=(K.clock.bp pid).2}:KS));have bZ:=Z av;have c0:Hid (s=b3 ({K with q:=a5,clock:=(K.clock.bp pid).2}:KS) pid 0):=Z (by rw[av];exact(hQ (by exact H) 0).symm);have N:Hid (Gr K s):=Z (by rw[av];exact Gr.of_eq rfl);have am:Hid (s.wk.length=K.wk.length):=Z (by rw[av];try rfl);by_cases P:cz s pid=3
   ·have a1:=Z P
    have E:Hid (bl K i c ⟨25,a,g,j,U,T,V⟩=(ep s i pid).ax c a.toNat pid):=Z (by rw[hc i c a g j U T V R S c1,if_pos rfl,<-c0,if_pos a1.out]);go_in
    go_wp2
    try rw[c4]
    go_quiet (fail)
    obtain⟨w1,J⟩:=nm (w0.drewN nq);have G:Hid (Ch ag w0 w1):=Z (by rw[<-J];exact ay);rw[J];have d:=Z (bb.af G);have f:Hid (aj K c/\aR L Y c b o):=Z ⟨n,r⟩;have v:=Z ((Nx.af G).row W.1 W.2);obtain⟨t0,t1,t2,t3,t4,t5,t6⟩:=v.1.c7;have A:=d.at_.aA f.1 f.2 a.toNat (by omega);rw[show((K:KS).F c).r a.toNat=c7 from bX.out]at A;have a9:=d.at_.aA f.1 f.2 g.toNat (by omega);rw[show((K:KS).F c).r g.toNat=bi from R.out]at a9;have ab:=d.at_.aA f.1 f.2 j.toNat (by omega);rw[show((K:KS).F c).r j.toNat=bv from S.out]at ab;have k1:=d.at_.v8;go_wp2_with fail
    refine(bx _ d.at_).mono ?_;rintro e w2 ⟨rfl,cd,c9,I⟩;have l:=Z (d.trans (Gr.refl _) I);have x:=Z (I.nx.row v.1 v.2);have ad:=Z (l.cur n r (Gr.of_eq rfl) (rfl));obtain⟨t0,t1,t2,t3,t4,t5,t6⟩:=x.1.c7;have k1:=l.at_.j2;go_wp2_with fail
    refine(kX pid (by exact c8) l.at_).mono ?_;rintro e c5 ⟨rfl,cF,c2,a3⟩;have m:=Z (l.trans (Gr.of_eq rfl) a3);have M:=Z (a3.nx.row x.1 x.2);have ch:=Z (m.cur n r (Gr.of_eq rfl) (rfl));obtain⟨t0,t1,t2,t3,t4,t5,t6⟩:=M.1.c7;have k1:=m.at_.hN;have F:=m.at_.look pid;rw[show aw (({K with q:=a5,clock:=(K.clock.bp pid).2}:KS)).ai pid=_ from H.out]at F;dsimp only[Option.map,Option.getD]at F;go_wp2_with fail
    have z:=m;rw[<-bZ]at z;have X:=M;have bd:=Z (z.cur n r N am);refine(dd (K:=s) pid bw z.at_).mono ?_;rintro e c6 ⟨rfl,a4⟩;have B:=Z (z.af a4);have a0:=Z ((Nx.af a4).row X.1 X.2);have D:=bd;have P:=a1.out;obtain⟨t0,t1,t2,t3,t4,t5,t6⟩:=a0.1.c7;rw[P];go_wp2_with fail
    refine(lU (K:=s) i (by rw[am];exact cL) pid bw B.at_).mono ?_;rintro e cC ⟨rfl,eC,dN,c3⟩;have a2:=Z (B.trans (N) c3);have ce:=Z (c3.nx.row a0.1 a0.2);have O:=Z (a2.cur n r (N.trans (dV _ _ _)) (by rw[fE,am]));obtain⟨t0,t1,t2,t3,t4,t5,t6⟩:=ce.1.c7;have A:=a2.at_.aA O.1 O.2 a.toNat (by omega);have ca:=a2.at_.hy O.1 O.2 (o+1+a.toNat);have u:=Z (a2.at_.drew.a7 O.1 O.2 a.toNat (by omega) pid);have al:Hid (Gr K _):=Z (N.trans (dV s i pid));go_wp2
    go_still_tail 6,(by kernel_rfl)
    change wpList _ _ _ _ _ cC.drew;go_wp2
    go_end0
    rw[E];obtain⟨aP,ap,Q⟩:=u.out;exact⟨rfl,aP,ap,(a2.af ay).trans al Q⟩
   ·have a1:=Z P
    have E:Hid (bl K i c ⟨25,a,g,j,U,T,V⟩=(s).ax c a.toNat pid):=Z (by rw[hc i c a g j U T V R S c1,if_pos rfl,<-c0,if_neg a1.out]);go_in
    go_wp2
    try rw[c4]
    go_quiet (fail)
    obtain⟨w1,J⟩:=nm (w0.drewN nq);have G:Hid (Ch ag w0 w1):=Z (by rw[<-J];exact ay);rw[J];have d:=Z (bb.af G);have f:Hid (aj K c/\aR L Y c b o):=Z ⟨n,r⟩;have v:=Z ((Nx.af G).row W.1 W.2);obtain⟨t0,t1,t2,t3,t4,t5,t6⟩:=v.1.c7;have A:=d.at_.aA f.1 f.2 a.toNat (by omega);rw[show((K:KS).F c).r a.toNat=c7 from bX.out]at A;have a9:=d.at_.aA f.1 f.2 g.toNat (by omega);rw[show((K:KS).F c).r g.toNat=bi from R.out]at a9;have ab:=d.at_.aA f.1 f.2 j.toNat (by omega);rw[show((K:KS).F c).r j.toNat=bv from S.out]at ab;have k1:=d.at_.v8;go_wp2_with fail
    refine(bx _ d.at_).mono ?_;rintro e w2 ⟨rfl,cd,c9,I⟩;have l:=Z (d.trans (Gr.refl _) I);have x:=Z (I.nx.row v.1 v.2);have ad:=Z (l.cur n r (Gr.of_eq rfl) (rfl));obtain⟨t0,t1,t2,t3,t4,t5,t6⟩:=x.1.c7;have k1:=l.at_.j2;go_wp2_with fail
    refine(kX pid (by exact c8) l.at_).mono ?_;rintro e c5 ⟨rfl,cF,c2,a3⟩;have m:=Z (l.trans (Gr.of_eq rfl) a3);have M:=Z (a3.nx.row x.1 x.2);have ch:=Z (m.cur n r (Gr.of_eq rfl) (rfl));obtain⟨t0,t1,t2,t3,t4,t5,t6⟩:=M.1.c7;have k1:=m.at_.hN;have F:=m.at_.look pid;rw[show aw (({K with q:=a5,clock:=(K.clock.bp pid).2}:KS)).ai pid=_ from H.out]at F;dsimp only[Option.map,Option.getD]at F;go_wp2_with fail
    have z:=m;rw[<-bZ]at z;have X:=M;have bd:=Z (z.cur n r N am);refine(dd (K:=s) pid bw z.at_).mono ?_;rintro e c6 ⟨rfl,a4⟩;have B:=Z (z.af a4);have a0:=Z ((Nx.af a4).row X.1 X.2);have D:=bd;have P:=a1.out;obtain⟨t0,t1,t2,t3,t4,t5,t6⟩:=a0.1.c7;have A:=B.at_.aA D.1 D.2 a.toNat (by omega);obtain⟨st,cm⟩:=nm (cz s pid);rw[cm]at P⊢;go_wp2
    have ca:=B.at_.hy D.1 D.2 (o+1+a.toNat);have u:=Z (B.at_.drew.a7 D.1 D.2 a.toNat (by omega) pid);have al:Hid (Gr K _):=Z (N);go_still_tail 6,(by kernel_rfl)
    change wpList _ _ _ _ _ c6.drew;go_wp2
    go_end0
    rw[E];obtain⟨aP,ap,Q⟩:=u.out;exact⟨rfl,aP,ap,(B.af ay).trans al Q⟩
  |some t=>
   have H:=Z di;obtain⟨s,av⟩:=mn ((({K with q:=a5,clock:=(K.clock.bp pid).2}:KS).cp pid {t with eY:=0}));have bZ:=Z av;have c0:Hid (s=b3 ({K with q:=a5,clock:=(K.clock.bp pid).2}:KS) pid 0):=Z (by rw[av];exact(hP (by exact H) 0).symm);have N:Hid (Gr K s):=Z (by rw[av];exact Gr.trans (K1:=({K with q:=a5,clock:=(K.clock.bp pid).2}:KS)) (Gr.of_eq rfl) (qQ (K:=({K with q:=a5,clock:=(K.clock.bp pid).2}:KS)) (t:=t) (by exact H) (Nat.le_refl _)));have am:Hid (s.wk.length=K.wk.length):=Z (by rw[av];try rfl);by_cases P:cz s pid=3
   ·have a1:=Z P
    have E:Hid (bl K i c ⟨25,a,g,j,U,T,V⟩=(ep s i pid).ax c a.toNat pid):=Z (by rw[hc i c a g j U T V R S c1,if_pos rfl,<-c0,if_pos a1.out]);go_in
    go_wp2
    try rw[c4]
    go_quiet (fail)
    obtain⟨w1,J⟩:=nm (w0.drewN nq);have G:Hid (Ch ag w0 w1):=Z (by rw[<-J];exact ay);rw[J];have d:=Z (bb.af G);have f:Hid (aj K c/\aR L Y c b o):=Z ⟨n,r⟩;have v:=Z ((Nx.af G).row W.1 W.2);obtain⟨t0,t1,t2,t3,t4,t5,t6⟩:=v.1.c7;have A:=d.at_.aA f.1 f.2 a.toNat (by omega);rw[show((K:KS).F c).r a.toNat=c7 from bX.out]at A;have a9:=d.at_.aA f.1 f.2 g.toNat (by omega);rw[show((K:KS).F c).r g.toNat=bi from R.out]at a9;have ab:=d.at_.aA f.1 f.2 j.toNat (by omega);rw[show((K:KS).F c).r j.toNat=bv from S.out]at ab;have k1:=d.at_.v8;go_wp2_with fail
    refine(bx _ d.at_).mono ?_;rintro e w2 ⟨rfl,cd,c9,I⟩;have l:=Z (d.trans (Gr.refl _) I);have x:=Z (I.nx.row v.1 v.2);have ad:=Z (l.cur n r (Gr.of_eq rfl) (rfl));obtain⟨t0,t1,t2,t3,t4,t5,t6⟩:=x.1.c7;have k1:=l.at_.j2;go_wp2_with fail
    refine(kX pid (by exact c8) l.at_).mono ?_;rintro e c5 ⟨rfl,cF,c2,a3⟩;have m:=Z (l.trans (Gr.of_eq rfl) a3);have M:=Z (a3.nx.row x.1 x.2);have ch:=Z (m.cur n r (Gr.of_eq rfl) (rfl));obtain⟨t0,t1,t2,t3,t4,t5,t6⟩:=M.1.c7;have k1:=m.at_.hN;have F:=m.at_.look pid;rw[show aw (({K with q:=a5,clock:=(K.clock.bp pid).2}:KS)).ai pid=_ from H.out]at F;dsimp only[Option.map,Option.getD]at F;unfold bk at F;have ct:=m.at_.FR (id:=pid) (t:=t) (by exact H);have cA:=m.at_.sf (id:=pid) (t:=t) (by exact H) 2;have u:=Z (m.at_.hz (id:=pid) (t:=t) (by exact H) 0);obtain⟨tb,cq⟩:=nm (c2.bI pid);rw[cq]at F ct cA u;go_wp2_with fail
    obtain⟨w4,cs⟩:=nm (c5.setCell (tb,2) (.int .u64 0));rw[cs]at u⊢;rw[<-bZ]at u;have z:=Z (m.trans (Gr.of_eq rfl) u);have X:=Z (u.nx.row M.1 M.2);have bd:=Z (z.cur n r N am);refine(dd (K:=s) pid bw z.at_).mono ?_;rintro e c6 ⟨rfl,a4⟩;have B:=Z (z.af a4);have a0:=Z ((Nx.af a4).row X.1 X.2);have D:=bd;have P:=a1.out;obtain⟨t0,t1,t2,t3,t4,t5,t6⟩:=a0.1.c7;rw[P];go_wp2_with fail
    refine(lU (K:=s) i (by rw[am];exact cL) pid bw B.at_).mono ?_;rintro e cC ⟨rfl,eC,dN,c3⟩;have a2:=Z (B.trans (N) c3);have ce:=Z (c3.nx.row a0.1 a0.2);have O:=Z (a2.cur n r (N.trans (dV _ _ _)) (by rw[fE,am]));obtain⟨t0,t1,t2,t3,t4,t5,t6⟩:=ce.1.c7;have A:=a2.at_.aA O.1 O.2 a.toNat (by omega);have ca:=a2.at_.hy O.1 O.2 (o+1+a.toNat);have u:=Z (a2.at_.drew.a7 O.1 O.2 a.toNat (by omega) pid);have al:Hid (Gr K _):=Z (N.trans (dV s i pid));go_wp2
    go_still_tail 6,(by kernel_rfl)
    change wpList _ _ _ _ _ cC.drew;go_wp2
    go_end0
    rw[E];obtain⟨aP,ap,Q⟩:=u.out;exact⟨rfl,aP,ap,(a2.af ay).trans al Q⟩
   ·have a1:=Z P
    have E:Hid (bl K i c ⟨25,a,g,j,U,T,V⟩=(s).ax c a.toNat pid):=Z (by rw[hc i c a g j U T V R S c1,if_pos rfl,<-c0,if_neg a1.out]);go_in
    go_wp2
    try rw[c4]
    go_quiet (fail)
    obtain⟨w1,J⟩:=nm (w0.drewN nq);have G:Hid (Ch ag w0 w1):=Z (by rw[<-J];exact ay);rw[J];have d:=Z (bb.af G);have f:Hid (aj K c/\aR L Y c b o):=Z ⟨n,r⟩;have v:=Z ((Nx.af G).row W.1 W.2);obtain⟨t0,t1,t2,t3,t4,t5,t6⟩:=v.1.c7;have A:=d.at_.aA f.1 f.2 a.toNat (by omega);rw[show((K:KS).F c).r a.toNat=c7 from bX.out]at A;have a9:=d.at_.aA f.1 f.2 g.toNat (by omega);rw[show((K:KS).F c).r g.toNat=bi from R.out]at a9;have ab:=d.at_.aA f.1 f.2 j.toNat (by omega);rw[show((K:KS).F c).r j.toNat=bv from S.out]at ab;have k1:=d.at_.v8;go_wp2_with fail
    refine(bx _ d.at_).mono ?_;rintro e w2 ⟨rfl,cd,c9,I⟩;have l:=Z (d.trans (Gr.refl _) I);have x:=Z (I.nx.row v.1 v.2);have ad:=Z (l.cur n r (Gr.of_eq rfl) (rfl));obtain⟨t0,t1,t2,t3,t4,t5,t6⟩:=x.1.c7;have k1:=l.at_.j2;go_wp2_with fail
    refine(kX pid (by exact c8) l.at_).mono ?_;rintro e c5 ⟨rfl,cF,c2,a3⟩;have m:=Z (l.trans (Gr.of_eq rfl) a3);have M:=Z (a3.nx.row x.1 x.2);have ch:=Z (m.cur n r (Gr.of_eq rfl) (rfl));obtain⟨t0,t1,t2,t3,t4,t5,t6⟩:=M.1.c7;have k1:=m.at_.hN;have F:=m.at_.look pid;rw[show aw (({K with q:=a5,clock:=(K.clock.bp pid).2}:KS)).ai pid=_ from H.out]at F;dsimp only[Option.map,Option.getD]at F;unfold bk at F;have ct:=m.at_.FR (id:=pid) (t:=t) (by exact H);have cA:=m.at_.sf (id:=pid) (t:=t) (by exact H) 2;have u:=Z (m.at_.hz (id:=pid) (t:=t) (by exact H) 0);obtain⟨tb,cq⟩:=nm (c2.bI pid);rw[cq]at F ct cA u;go_wp2_with fail
    obtain⟨w4,cs⟩:=nm (c5.setCell (tb,2) (.int .u64 0));rw[cs]at u⊢;rw[<-bZ]at u;have z:=Z (m.trans (Gr.of_eq rfl) u);have X:=Z (u.nx.row M.1 M.2);have bd:=Z (z.cur n r N am);refine(dd (K:=s) pid bw z.at_).mono ?_;rintro e c6 ⟨rfl,a4⟩;have B:=Z (z.af a4);have a0:=Z ((Nx.af a4).row X.1 X.2);have D:=bd;have P:=a1.out;obtain⟨t0,t1,t2,t3,t4,t5,t6⟩:=a0.1.c7;have A:=B.at_.aA D.1 D.2 a.toNat (by omega);obtain⟨st,cm⟩:=nm (cz s pid);rw[cm]at P⊢;go_wp2
    have ca:=B.at_.hy D.1 D.2 (o+1+a.toNat);have u:=Z (B.at_.drew.a7 D.1 D.2 a.toNat (by omega) pid);have al:Hid (Gr K _):=Z (N);go_still_tail 6,(by kernel_rfl)
    change wpList _ _ _ _ _ c6.drew;go_wp2
    go_end0
    rw[E];obtain⟨aP,ap,Q⟩:=u.out;exact⟨rfl,aP,ap,(B.af ay).trans al Q⟩
theorem sB(i:Nat)(bi:i<K.wk.length)(c:cJ)(b o:Nat)(bb:aj K c)(bv:aR L Y c b o)(W:∀k,k<32->aK ((K.F c).r k))(a f g M J N:Int)(aP:0<=a/\a<32)(hb:0<=f/\f<32)(bd:0<=g/\g<32)(h:ae w χ L Y C K):
 Calls prog 169 #[(L.mb,0),(L.wb,i*38),(b,o),.agg #[.int .i64 27,a,f,g,.int .u64 M,J,N]] w (dk (.tuple #[]) χ L Y C K (bl K i c ⟨27,a,f,g,M,J,N⟩) w):=by
 have bw:=Z h;have s:=Z bb;have x:=Z bv;have bX:=Z bi;obtain⟨w0,ab,bx,B,r⟩:=h.pre 27 a f g M J N;obtain⟨c5,c6⟩:=aP;obtain⟨ap,ad⟩:∃y,(K.F c).r a.toNat=y:=⟨_,rfl⟩;have T:=Z ad;have a3:=Z (W a.toNat (by omega));rw[ad]at a3;obtain⟨bZ,c0⟩:=a3.out;obtain⟨c7,c8⟩:=hb;obtain⟨O,al⟩:∃y,(K.F c).r f.toNat=y:=⟨_,rfl⟩;have z:=Z al;have a4:=Z (W f.toNat (by omega));rw[al]at a4;obtain⟨c1,c2⟩:=a4.out;obtain⟨c9,ca⟩:=bd;obtain⟨P,am⟩:∃y,(K.F c).r g.toNat=y:=⟨_,rfl⟩;have A:=Z am;have a5:=Z (W g.toNat (by omega));rw[am]at a5;obtain⟨c3,c4⟩:=a5.out;obtain⟨t0,t1,t2,t3,t4,t5,t6⟩:=r.1.c7;have p:=B.at_.aA s x a.toNat (by omega);rw[T]at p;have G:=B.at_.aA s x f.toNat (by omega);rw[z]at G;have H:=B.at_.aA s x g.toNat (by omega);rw[A]at H;obtain⟨q,a9⟩:=nm (xm K.q O P);have a2:=Z a9;have S:=Z (fun w h=>FP (K:=K) (w:=w) (χ:=χ) (L:=L) (Y:=Y) (C:=C) O P h);rw[a9]at S;cases q
 ·have E:Hid (bl K i c ⟨27,a,f,g,M,J,N⟩=K.ax c a.toNat 0):=Z (by unfold bl;dsimp only;rw[if_neg (by decide),if_neg (by decide),if_pos rfl,z,A,a2];rfl)
  go_in
  go_wp2
  try rw[ab]
  go_quiet (fail)
  obtain⟨w1,D⟩:=nm (w0.drewN nq);have u:Hid (Ch ag w0 w1):=Z (by rw[<-D];exact ay);rw[D];have j:=Z (B.af u);have d:Hid (aj K c/\aR L Y c b o):=Z ⟨s,x⟩;have n:=Z ((Nx.af u).row r.1 r.2);obtain⟨t0,t1,t2,t3,t4,t5,t6⟩:=n.1.c7;have p:=j.at_.aA d.1 d.2 a.toNat (by omega);rw[show((K:KS).F c).r a.toNat=ap from T.out]at p;have G:=j.at_.aA d.1 d.2 f.toNat (by omega);rw[show((K:KS).F c).r f.toNat=O from z.out]at G;have H:=j.at_.aA d.1 d.2 g.toNat (by omega);rw[show((K:KS).F c).r g.toNat=P from A.out]at H;have k1:=j.at_.v8;go_wp2_with fail
  refine(S _ j.at_).mono ?_;rintro e w2 ⟨rfl,a0,rfl⟩;obtain⟨I,F⟩:=nm (w1.drewN a0);have v:Hid (Ch ag w1 I):=Z (by rw[<-F];exact ay);rw[F];have m:=Z (j.af v);have R:=Z ((Nx.af v).row n.1 n.2);have l:=d;obtain⟨t0,t1,t2,t3,t4,t5,t6⟩:=R.1.c7;have p:=m.at_.aA l.1 l.2 a.toNat (by omega);have av:=m.at_.hy l.1 l.2 (o+1+a.toNat);have V:=Z (m.at_.drew.a7 l.1 l.2 a.toNat (by omega) 0);have Q:Hid (Gr K _):=Z (Gr.refl K);go_wp2
  go_still_tail 6,(by kernel_rfl)
  change wpList _ _ _ _ _ I.drew;go_wp2
  go_end0
  rw[E];obtain⟨a1,U,X⟩:=V.out;exact⟨rfl,a1,U,(m.af ay).trans Q X⟩
 ·have E:Hid (bl K i c ⟨27,a,f,g,M,J,N⟩=K.ax c a.toNat 1):=Z (by unfold bl;dsimp only;rw[if_neg (by decide),if_neg (by decide),if_pos rfl,z,A,a2];rfl)
  go_in
  go_wp2
  try rw[ab]
  go_quiet (fail)
  obtain⟨w1,D⟩:=nm (w0.drewN nq);have u:Hid (Ch ag w0 w1):=Z (by rw[<-D];exact ay);rw[D];have j:=Z (B.af u);have d:Hid (aj K c/\aR L Y c b o):=Z ⟨s,x⟩;have n:=Z ((Nx.af u).row r.1 r.2);obtain⟨t0,t1,t2,t3,t4,t5,t6⟩:=n.1.c7;have p:=j.at_.aA d.1 d.2 a.toNat (by omega);rw[show((K:KS).F c).r a.toNat=ap from T.out]at p;have G:=j.at_.aA d.1 d.2 f.toNat (by omega);rw[show((K:KS).F c).r f.toNat=O from z.out]at G;have H:=j.at_.aA d.1 d.2 g.toNat (by omega);rw[show((K:KS).F c).r g.toNat=P from A.out]at H;have k1:=j.at_.v8;go_wp2_with fail
  refine(S _ j.at_).mono ?_;rintro e w2 ⟨rfl,a0,rfl⟩;obtain⟨I,F⟩:=nm (w1.drewN a0);have v:Hid (Ch ag w1 I):=Z (by rw[<-F];exact ay);rw[F];have m:=Z (j.af v);have R:=Z ((Nx.af v).row n.1 n.2);have l:=d;obtain⟨t0,t1,t2,t3,t4,t5,t6⟩:=R.1.c7;have p:=m.at_.aA l.1 l.2 a.toNat (by omega);have av:=m.at_.hy l.1 l.2 (o+1+a.toNat);have V:=Z (m.at_.drew.a7 l.1 l.2 a.toNat (by omega) 1);have Q:Hid (Gr K _):=Z (Gr.refl K);go_wp2
  go_still_tail 6,(by kernel_rfl)
  change wpList _ _ _ _ _ I.drew;go_wp2
  go_end0
  rw[E];obtain⟨a1,U,X⟩:=V.out;exact⟨rfl,a1,U,(m.af ay).trans Q X⟩
theorem sD(i:Nat)(al:i<K.wk.length)(c:cJ)(b o:Nat)(ab:aj K c)(am:aR L Y c b o)(G:∀k,k<32->aK ((K.F c).r k))(a d f x v z:Int)(a9:0<=a/\a<32)(hb:0<=d/\d<32)(ad:0<=f/\f<32)(h:ae w χ L Y C K):
 Calls prog 169 #[(L.mb,0),(L.wb,i*38),(b,o),.agg #[.int .i64 26,a,d,f,.int .u64 x,v,z]] w (dk (.tuple #[]) χ L Y C K (bl K i c ⟨26,a,d,f,x,v,z⟩) w):=by
 have bi:=Z h;have m:=Z ab;have n:=Z am;have bw:=Z al;obtain⟨w0,ap,bv,s,A⟩:=h.pre 26 a d f x v z;obtain⟨c6,c7⟩:=a9;obtain⟨bb,W⟩:∃y,(K.F c).r a.toNat=y:=⟨_,rfl⟩;have S:=Z W;have P:=Z (G a.toNat (by omega));rw[W]at P;obtain⟨c0,c1⟩:=P.out;obtain⟨c8,c9⟩:=hb;obtain⟨J,X⟩:∃y,(K.F c).r d.toNat=y:=⟨_,rfl⟩;have D:=Z X;have Q:=Z (G d.toNat (by omega));rw[X]at Q;obtain⟨c2,c3⟩:=Q.out;obtain⟨ca,cb⟩:=ad;obtain⟨M,a0⟩:∃y,(K.F c).r f.toNat=y:=⟨_,rfl⟩;have F:=Z a0;have R:=Z (G f.toNat (by omega));rw[a0]at R;obtain⟨c4,c5⟩:=R.out;obtain⟨t0,t1,t2,t3,t4,t5,t6⟩:=A.1.c7;have u:=s.at_.aA m n a.toNat (by omega);rw[S]at u;have H:=s.at_.aA m n d.toNat (by omega);rw[D]at H;have I:=s.at_.aA m n f.toNat (by omega);rw[F]at I;obtain⟨p,U⟩:=nm (ij K.q J M);have a3:=Z U;have O:=Z (fun w h=>Eg (K:=K) (w:=w) (χ:=χ) (L:=L) (Y:=Y) (C:=C) J M h);rw[U]at O;obtain⟨pid,bZ,aP⟩:=p;have E:Hid (bl K i c ⟨26,a,d,f,x,v,z⟩=({K with q:=aP}:KS).ax c a.toNat pid):=Z (by unfold bl;dsimp only;rw[if_neg (by decide),if_pos rfl,D,F,a3]);go_in
 go_wp2
 try rw[ap]
 go_quiet (fail)
 obtain⟨w1,V⟩:=nm (w0.drewN nq);have N:Hid (Ch ag w0 w1):=Z (by rw[<-V];exact ay);rw[V];have g:=Z (s.af N);have j:Hid (aj K c/\aR L Y c b o):=Z ⟨m,n⟩;have B:=Z ((Nx.af N).row A.1 A.2);obtain⟨t0,t1,t2,t3,t4,t5,t6⟩:=B.1.c7;have u:=g.at_.aA j.1 j.2 a.toNat (by omega);rw[show((K:KS).F c).r a.toNat=bb from S.out]at u;have H:=g.at_.aA j.1 j.2 d.toNat (by omega);rw[show((K:KS).F c).r d.toNat=J from D.out]at H;have I:=g.at_.aA j.1 j.2 f.toNat (by omega);rw[show((K:KS).F c).r f.toNat=M from F.out]at I;have k1:=g.at_.v8;go_wp2_with fail
 refine(O _ g.at_).mono ?_;rintro e w2 ⟨rfl,cd,bx,T⟩;have r:=Z (g.trans (Gr.refl _) T);have a2:=Z (T.nx.row B.1 B.2);have l:=Z (r.cur m n (Gr.of_eq rfl) (rfl));obtain⟨t0,t1,t2,t3,t4,t5,t6⟩:=a2.1.c7;have u:=r.at_.aA l.1 l.2 a.toNat (by omega);have bX:=r.at_.hy l.1 l.2 (o+1+a.toNat);have a5:=Z (r.at_.drew.a7 l.1 l.2 a.toNat (by omega) pid);have a1:Hid (Gr K _):=Z (Gr.of_eq rfl);go_wp2
 go_still_tail 6,(by kernel_rfl)
 change wpList _ _ _ _ _ w2.drew;go_wp2
 go_end0
 rw[E];obtain⟨bd,a4,av⟩:=a5.out;exact⟨rfl,bd,a4,(r.af ay).trans a1 av⟩
variable{x:Int}
theorem ya(a:0<=x)(b:x<=100):wrap64 x=x:=by unfold wrap64;omega
def nh(v:Int)(w:World)(e:Ending)(w':World):Prop:=e=.returned (.int .u64 v)/\Ch ag w w'
theorem Ah{n:Nat}(d:1<=n)(e:n<=64)(c:0<=x):∃m,x%(n:Int)=m/\0<=m/\m<=100/\wrap64 (x%(n:Int))=m/\x.tmod (n:Int)=m:=by
 have a:=Int.emod_nonneg x (b:=(n:Int)) (by omega);have b:=Int.emod_lt_of_pos x (b:=(n:Int)) (by omega);exact⟨_,rfl,a,by omega,ya a (by omega),Int.tmod_eq_emod_of_nonneg c⟩
theorem Ai(i:Nat)(O:i<K.wk.length)(id:Int)(c:cJ)(b o:Nat)(M:aj K c)(R:aR L Y c b o)(T:∀k,k<32->aK ((K.F c).r k))(n j d l r q s:Int)(t:n=23∨n=41∨n=37∨n=40∨n=42∨n=29∨n=38∨n=39∨n=47)(hb:0<=d/\d<32)(V:0<=K.w/\K.w<K.wk.length)(ad:C.bs.length<=2048)(h:ae w χ L Y C K):
 Calls prog 170 #[(L.mb,0),(L.wb,i*38),.int .u64 id,(b,o),aL ⟨n,j,d,l,r,q,s⟩] w (nh (ik C K i id c ⟨n,j,d,l,r,q,s⟩) w):=by
 unfold aL aD;dsimp only;obtain⟨w0,W,E,G,D⟩:=h.sh n j d l r q s;have a:Hid (ae w0 χ L Y C K):=Z G.at_;obtain⟨t0,t1,t2,t3,t4,t5,t6⟩:=D.c7;obtain⟨c3,c4⟩:=hb;have a5:=a.aA M R d.toNat (by omega);obtain⟨f,u⟩:∃y,(K.F c).r d.toNat=y:=⟨_,rfl⟩;have a9:=Z u;have B:=T d.toNat (by omega);rw[u]at a5 B;obtain⟨U,bX⟩:=B;obtain⟨X,bZ⟩:=V;have bw:=(a.wk (by simp)).n;have a1:IntKind.u64.wrap (K.wk.length:Int)=K.wk.length:=by unfold IntKind.wrap IntKind.bits IntKind.signed;simp;omega
 have a0:IntKind.u64.wrap K.w=K.w:=by unfold IntKind.wrap IntKind.bits IntKind.signed;simp;omega
 have k1:=a.j2;have k2:=a.qH;have k3:=a.Dv;have c0:=a.fD O;have c1:=a.GC;have a2:=a.c3;obtain⟨a3,bd,av,aP,Q,bb⟩:=Ah (x:=K.w) (n:=K.wk.length) (by omega) (by omega) X;obtain⟨a4,bi,al,am,N,ap⟩:=Ah (x:=f) (n:=K.wk.length) (by omega) (by omega) U;have F:=Z (fun(m:Int) (h:0<=m/\m<=100) p w=>lS m h.1 h.2 p w);obtain⟨I,J⟩:=lD f 8 (by omega);obtain⟨g,A⟩:=nm (bg f ((8:Nat):Int));have v:=Z (nv f 8 (by omega) (by omega));rw[A]at v I J;have ab:g<8:=by omega
 have z:Hid (∀n,n=23∨n=41∨n=37∨n=40∨n=42∨n=29∨n=38∨n=39∨n=47->ik C K i id c ⟨n,j,d,l,r,q,s⟩=if n=23 then 1+2*g else if n=41 then K.clock.now else if n=37 then id else if n=40 then(K.wk.length:Int)else if n=42 then K.draw else if n=29 then(K.W i).hand else if n=38 then gv a3 else if n=39 then gv a4 else if f<C.bs.length then 1 else 0):=Z (by
  have H:IntKind.u64.wrap (1+2*bg f 8)=1+2*g:=by rw[show bg f 8=g from A];unfold IntKind.wrap IntKind.bits IntKind.signed;simp;omega
  intro n t;rcases t with rfl|rfl|rfl|rfl|rfl|rfl|rfl|rfl|rfl<;>simp[ik,u,a1,a0,H,Q,N])
 have bx:(K.wk.length:Int)<=64:=by omega
 have bv:(1:Int)<=K.wk.length:=by omega
 have P:(C.bs.length:Int)<=2048:=by omega
 obtain⟨c2,S⟩:∃n,C.bs.length=n:=⟨_,rfl⟩;rw[S]at a2 P z;rcases t with rfl|rfl|rfl|rfl|rfl|rfl|rfl|rfl|rfl
 all_goals
  go_in
  go_wp2
  try rw[W]
  go_quiet (fail)
  go_wp2_with (first|(go_at_call 141;refine(v _).mono ?_;rintro e w' ⟨rfl,rfl⟩)|(go_at_call 84;refine(FO (a.drewN _)).mono ?_;rintro e w' ⟨rfl,rfl⟩)|(go_at_call 50;refine(F _ (by exact⟨by assumption,by assumption⟩) _ _).mono ?_;rintro e w' ⟨rfl,rfl⟩)|fail)
  all_goals
   go_ret;rw[z.out]
   ·refine⟨?_,E.drewN _⟩
    first|rfl|(simp;done)|(simp;omega)
   ·decide
theorem yb(i:Nat)(c:cJ)(b o:Nat)(v:aj K c)(x:aR L Y c b o)(n a d f j g k:Int)(B:0<=a/\a<32)(F:n=23∨n=41∨n=37∨n=40∨n=42∨n=29∨n=38∨n=39∨n=47)
 (H:∀w,ae w χ L Y C K->Calls prog 170 #[(L.mb,0),(L.wb,i*38),.int .u64 0,(b,o),aL ⟨n,a,d,f,j,g,k⟩] w (nh (ik C K i 0 c ⟨n,a,d,f,j,g,k⟩) w)) (h:ae w χ L Y C K):
 Calls prog 133 #[(L.mb,0),(L.wb,i*38),.pointer none,(b,o),aL ⟨n,a,d,f,j,g,k⟩] w (dO (az C K i none c ⟨n,a,d,f,j,g,k⟩) χ L Y C K w):=by
 have l:=Z H;have q:=Z v;have r:=Z x;unfold aL aD at l⊢;dsimp only at l⊢;obtain⟨w0,J,P,u,p⟩:=h.pre n a d f j g k;obtain⟨t0,t1,t2,t3,t4,t5,t6⟩:=p.1.c7;have E:Hid (az C K i none c ⟨n,a,d,f,j,g,k⟩=(0,K.ax c a.toNat (ik C K i 0 c ⟨n,a,d,f,j,g,k⟩))):=Z (by
  unfold az;dsimp only;rw[if_neg (by omega),if_neg (by omega),if_neg (by omega),if_neg (by omega),if_neg (by omega),if_neg (by omega),if_neg (by omega),if_neg (by omega)];rfl)
 obtain⟨N,I⟩:=nm (ik C K i 0 c ⟨n,a,d,f,j,g,k⟩);rw[I]at E l;obtain⟨U,V⟩:=B;have G:b≠w.heap.size:=Nat.ne_of_lt (aQ (h.aA v x a.toNat (by omega)));have S:=G.symm;rcases F with rfl|rfl|rfl|rfl|rfl|rfl|rfl|rfl|rfl
 all_goals
  go_in
  go_wp2
  try rw[J]
  go_region_held3 (p.1.c7) (go_keep) ((go_at_call 170;refine(l _ u.at_.drew).mono ?_;rintro e w1 ⟨rfl,D⟩;have t:Hid (Ch ag w0 w1):=Z (Ch.trans ay D);have m:=Z (u.af t);have y:=Z (p.1.ch t id);(try clear Q);obtain⟨t0,t1,t2,t3,t4,t5,t6⟩:=y.c7;have T:=m.at_.aA q r a.toNat (by omega);have R:=m.at_.hy q r (o+1+a.toNat);have A:=Z (m.at_.a7 q r a.toNat (by omega) N)))
 all_goals
  go_wp2
  go_ret;rw[E];obtain⟨O,z,M⟩:=A.out;have s:=m.trans (Gr.refl _) M;exact⟨rfl,O,z,s.at_,s.nx,fun _=>s.yk⟩
theorem yc(id:Int)(t:Thread)(M:aw K.ai id=some t)(hid:t.id=id)(i:Nat)(c:cJ)(b o:Nat)(y:aj K c)(z:aR L Y c b o)(n a d f j g k:Int)(F:0<=a/\a<32)(H:n=23∨n=41∨n=37∨n=40∨n=42∨n=29∨n=38∨n=39∨n=47)
 (J:∀w,ae w χ L Y C K->Calls prog 170 #[(L.mb,0),(L.wb,i*38),.int .u64 id,(b,o),aL ⟨n,a,d,f,j,g,k⟩] w (nh (ik C K i id c ⟨n,a,d,f,j,g,k⟩) w)) (h:ae w χ L Y C K):
 Calls prog 133 #[(L.mb,0),(L.wb,i*38),(Y.bI id,0),(b,o),aL ⟨n,a,d,f,j,g,k⟩] w (dO (az C K i (some id) c ⟨n,a,d,f,j,g,k⟩) χ L Y C K w):=by
 have l:=Z J;have q:=Z y;have r:=Z z;unfold aL aD at l⊢;dsimp only at l⊢;obtain⟨w0,P,T,s,p⟩:=h.pre n a d f j g k;obtain⟨t0,t1,t2,t3,t4,t5,t6⟩:=p.1.c7;have E:Hid (az C K i (some id) c ⟨n,a,d,f,j,g,k⟩=(0,K.ax c a.toNat (ik C K i id c ⟨n,a,d,f,j,g,k⟩))):=Z (by
  unfold az;dsimp only;rw[if_neg (by omega),if_neg (by omega),if_neg (by omega),if_neg (by omega),if_neg (by omega),if_neg (by omega),if_neg (by omega),if_neg (by omega)];rfl)
 obtain⟨R,O⟩:=nm (ik C K i id c ⟨n,a,d,f,j,g,k⟩);rw[O]at E l;obtain⟨X,a0⟩:=F;have I:b≠w.heap.size:=Nat.ne_of_lt (aQ (h.aA y z a.toNat (by omega)));have V:=I.symm;have v:=s.at_.gw M;rw[hid]at v;obtain⟨tb,N⟩:=nm (Y.bI id);rw[N]at v⊢;rcases H with rfl|rfl|rfl|rfl|rfl|rfl|rfl|rfl|rfl
 all_goals
  go_in
  go_wp2
  try rw[P]
  go_region_held3 (p.1.c7) (go_keep) ((go_at_call 170;refine(l _ s.at_.drew).mono ?_;rintro e w1 ⟨rfl,G⟩;have x:Hid (Ch ag w0 w1):=Z (Ch.trans ay G);have m:=Z (s.af x);have A:=Z (p.1.ch x (fun h=>h));(try clear v);obtain⟨t0,t1,t2,t3,t4,t5,t6⟩:=A.c7;have W:=m.at_.aA q r a.toNat (by omega);have U:=m.at_.hy q r (o+1+a.toNat);have D:=Z (m.at_.a7 q r a.toNat (by omega) R)))
 all_goals
  go_wp2
  go_ret;rw[E];obtain⟨S,B,Q⟩:=D.out;have u:=m.trans (Gr.refl _) Q;exact⟨rfl,S,B,u.at_,u.nx,fun _=>u.yk⟩
variable{w':World}
def Eo(l:List Int)(χ:Nat->a')(L:cU)(Y:Var)(C:KC)(K K':KS)(w:World)(e:Ending)(w':World):Prop:=
 ∃u aY Y',e=.returned u/\w'.ownsRow w.heap.size 39 1 u l.length (l.map (Value.int .u64))/\(∀g,u.ownBlock=some g->w.heap.size<=g/\aY g=.no)/\dD χ L Y C K K' w aY Y' w'
theorem Ep(d:K.clock.Ok)(h:ae w χ L Y C K):Calls prog 82 #[(L.cb,0)] w (Eo K.clock.tick.2 χ L Y C K {K with clock:=K.clock.tick.1} w):=
 (o' L.cb L.ch L.cm L.cq Y.hv K.clock d.len d.wf w (h.b2 (by simp)).is).mono fun _ _ ⟨⟨u,e,a⟩,⟨v,c,f⟩,i⟩=>
  ⟨u,_,_,e,a,fun g b=>⟨zY a g b,by
   have j:χ g=.no:=h.fresh (zY a g b);unfold cN;rw[if_neg (kH a c.heap.own (by decide) b)];exact j⟩,h.zS c f i⟩
def jr(K:KS)(l:List Int):KS:=l.foldl cy K
theorem kk(K:KS)(id:Int):cy K id=(if cz (b3 {K with q:=(dw K.q id).2} id 110) id=3 then cr (b3 {K with q:=(dw K.q id).2} id 110) id else b3 {K with q:=(dw K.q id).2} id 110):=rfl
theorem jU(K:KS)(id v:Int):Gr K (b3 K id v):=by
 cases h:aw K.ai id with
 |none=>rw[hQ h];exact Gr.refl _
 |some t=>rw[hP h];exact qQ h (Nat.le_refl _)
theorem uC(K:KS)(id:Int):Gr K (cy K id):=by
 rw[kk];have h:=(Gr.of_eq (K:=K) (K':={K with q:=(dw K.q id).2}) rfl).trans (jU _ id 110);split
 ·exact h.trans (Gr.of_eq rfl)
 ·exact h
theorem yd(K:KS)(l:List Int):Gr K (jr K l):=by
 induction l generalizing K with
 |nil=>exact Gr.refl _
 |cons x l ih=>exact(uC K x).trans (ih _)
theorem sG(K:KS)(l:List Int)(x:Int):jr K (l++[x])=cy (jr K l) x:=by unfold jr;rw[List.foldl_append];rfl
theorem ye(ch:K.clock.Ok)(c0:∀x∈K.clock.tick.2,aK x)(hlen:K.clock.tick.2.length<=900000)(hb:K.out.length<=900000)(h:ae w χ L Y C K):Calls prog 42 #[(L.mb,0)] w (dk (.tuple #[]) χ L Y C K (hs K) w):=by
 have eA:=Z h;have cd:=Z (Ep ch h);obtain⟨p,bX⟩:=nm K.clock.tick;rw[bX]at cd c0 hlen;have eI:=Z bX;obtain⟨dN,l⟩:=p;dsimp only at c0 hlen;have cW:=Z c0;have eC:=Z hb;obtain⟨N,c4⟩:=nm l.length;have ap:=Z c4;rw[c4]at hlen;obtain⟨K1,X⟩:=mn (({K with clock:=dN}:KS));have ct:=Z X;obtain⟨R,bi⟩:=mn (tell K1 ⟨6,0,0,0,0,0,0,0,0,K1.clock.now,0⟩);have cA:=Z bi;have c9:Hid (Gr K K1):=Z (by rw[X];exact Gr.of_eq rfl);have cs:Hid (Gr K R):=Z (by rw[bi];exact c9.trans (Gr.of_eq rfl));have cL:Hid (K1.out.length<=900000):=Z (by rw[X];exact hb);have E:Hid (hs K=jr R l):=Z (by unfold hs;dsimp only;rw[bX,bi,X];rfl);have k0:=h.j2;clear h ch bX c0 hb c4 X bi;go_in
 go_wp2_with fail
 refine cd.mono ?_;rintro e w1 ⟨u,dZ,Y1,rfl,c6,ci,bd⟩;try dsimp only at bd c6
 rw[<-ct]at bd;have aP:=Z bd;have av:=Z c6;have cb:=Z ci;rw[ap]at av;clear bd c6 ci k0;obtain⟨T,U,rfl⟩:=au av;have k1:=aP.at_.j2;have cF:=Z (FO aP.at_);go_wp2_with fail
 refine cF.mono ?_;rintro e w2 ⟨rfl,rfl⟩;go_wp2_with fail
 refine(dI (K:=K1) 6 0 0 0 0 0 0 0 0 K1.clock.now 0 cL aP.at_).mono ?_;rintro e w2 ⟨rfl,cq,dp,V⟩;rw[<-cA]at V;have di:=Z (aP.trans c9 V);have cQ:Hid (w2.ownsRow w.heap.size 39 1 (.slice T N U) N (l.map (Value.int .u64))):=Z (ak av V.nx.ch (fun g a e=>e (cb g a).2));have cC:Hid (∀g,(Value.slice T N U).ownBlock=some g->cq g=.no):=Z (fun g a=>(V.nx.same g (cE av a)).trans (cb g a).2);clear V k1;go_wp2
 go_loopg [21] (N+1) (fun gk i wr=>∃k:Nat,k<=N/\gk=N-k+1/\i=.int .i64 k/\Hid (∃aY Y',dD χ L Y C K (jr R (l.take k)) w aY Y' wr/\wr.ownsRow w.heap.size 39 1 (.slice T N U) N (l.map (Value.int .u64))/\∀g,(Value.slice T N U).ownBlock=some g->aY g=.no))
 case atStart=>exact⟨0,by omega,by omega,rfl,cq,dp,di,cQ,cC⟩
 case round=>
  obtain⟨k,eS,rfl,rfl,cS⟩:=hrel;obtain⟨ey,dr,W,bx,c5⟩:=cS.out;by_cases P:k<N
  ·obtain⟨ce,dC,eW,cm,e4,es,en,cl,_⟩:=aE bx (by omega)
   obtain⟨rfl,rfl⟩:T=some ⟨ce,0,none⟩/\U=dC:=by simpa using cm
   obtain⟨x,a4⟩:∃x,l[k]?=some x:=⟨_,List.getElem?_eq_getElem (by rw[ap];exact P)⟩;have eL:=Z a4;have O:Hid (aK x):=Z (cW x (List.mem_of_getElem? a4));have bb:wr.cell? (ce,k)=some (.int .u64 x):=cl.cell (by rw[List.getElem?_append_left (by rw[List.length_map,ap];exact P),List.getElem?_map,a4];rfl);obtain⟨c2,a0⟩:=nm (jr R (l.take k));rw[a0]at W;have eG:=Z a0;have Q:Hid (Gr K c2):=Z (by rw[<-a0];exact cs.trans (yd _ _));have y:=Z W;have B:=Z bx;have A:=Z c5;obtain⟨S,bv⟩:=mn (({c2 with q:=(dw c2.q x).2}:KS));have al:=Z bv;have c1:Hid (Gr K S):=Z (by rw[bv];exact Q.trans (Gr.of_eq rfl));obtain⟨n,bw⟩:=mn (b3 S x 110);have am:=Z bw;have ca:Hid (Gr K n):=Z (by rw[bw];exact c1.trans (jU _ _ _));have ad:Hid (jr R (l.take (k+1))=if cz n x=3 then cr n x else n):=Z (by rw[List.take_add_one,a4,show(some x).toList=[x]from rfl,sG,a0,kk,<-bv,<-bw]);clear W bx c5 a4 cl cm e4 es en a0 bv bw;have k3:=y.at_.v8;cases bZ:aw S.ai x with
   |none=>
    have j:=Z bZ;clear bZ;by_cases f:cz n x=3
    ·have s:=Z f
     clear f;go_wp2_with fail
     refine(nY x y.at_).mono ?_;rintro e w4 ⟨rfl,ab,I,c⟩;rw[<-al]at c;have b:=Z (y.trans Q c);have D:=Z c.nx;clear c k3 bb;have M:=b.at_.hN;have d:=b.at_.look x;rw[j]at d;dsimp only[Option.map,Option.getD]at d;go_wp2_with fail
     clear d M;have o:=b;rw[<-hQ (K:=S) j 110,<-am]at o;have F:=D;refine(dd (K:=n) x O o.at_).mono ?_;rintro e c7 ⟨rfl,m⟩;have z:=Z (o.af m);have G:=Z (F.trans (Nx.af m));clear m;have f:=s.out;rw[f];go_wp2_with fail
     refine(fh (K:=n) x O z.at_).mono ?_;rintro e ex ⟨rfl,c8,c3,J⟩;have H:=Z (z.trans ca J);have v:=Z (G.trans J.nx);clear J f;go_wp2
     go_roundg (N-(k+1)+1)
     case measure=>omega
     case rel=>
      refine⟨k+1,P,rfl,by congr 1,c8,c3,?_,ak B v.ch (fun g a e=>e (A g a)),fun g a=>(v.same g (cE B a)).trans (A g a)⟩;rw[ad,if_pos s.out];exact H
    ·have s:=Z f
     clear f;go_wp2_with fail
     refine(nY x y.at_).mono ?_;rintro e w4 ⟨rfl,ab,I,c⟩;rw[<-al]at c;have b:=Z (y.trans Q c);have D:=Z c.nx;clear c k3 bb;have M:=b.at_.hN;have d:=b.at_.look x;rw[j]at d;dsimp only[Option.map,Option.getD]at d;go_wp2_with fail
     clear d M;have o:=b;rw[<-hQ (K:=S) j 110,<-am]at o;have F:=D;refine(dd (K:=n) x O o.at_).mono ?_;rintro e c7 ⟨rfl,m⟩;have z:=Z (o.af m);have G:=Z (F.trans (Nx.af m));clear m;have f:=s.out;obtain⟨st,a1⟩:=nm (cz n x);rw[a1]at f⊢;clear a1;go_wp2
     have H:=z;have v:=G;go_roundg (N-(k+1)+1)
     case measure=>omega
     case rel=>
      refine⟨k+1,P,rfl,by congr 1,ab,I,?_,ak B v.ch (fun g a e=>e (A g a)),fun g a=>(v.same g (cE B a)).trans (A g a)⟩;rw[ad,if_neg s.out];exact H
   |some t=>
    have j:=Z bZ;clear bZ;by_cases f:cz n x=3
    ·have s:=Z f
     clear f;go_wp2_with fail
     refine(nY x y.at_).mono ?_;rintro e w4 ⟨rfl,ab,I,c⟩;rw[<-al]at c;have b:=Z (y.trans Q c);have D:=Z c.nx;clear c k3 bb;have M:=b.at_.hN;have d:=b.at_.look x;rw[j]at d;dsimp only[Option.map,Option.getD]at d;unfold bk at d;have a5:=b.at_.FR (id:=x) (t:=t) j;have a9:=b.at_.sf (id:=x) (t:=t) j 2;have r:=Z (b.at_.hz (id:=x) (t:=t) j 110);obtain⟨tb,a2⟩:=nm (I.bI x);rw[a2]at d a5 a9 r;clear a2;go_wp2_with fail
     obtain⟨et,a3⟩:=nm (w4.setCell (tb,2) (.int .u64 110));rw[a3]at r⊢;clear a3 a5 a9 d M;rw[<-hP j,<-am]at r;have o:=Z (b.trans c1 r);have F:=Z (D.trans r.nx);clear r;refine(dd (K:=n) x O o.at_).mono ?_;rintro e c7 ⟨rfl,m⟩;have z:=Z (o.af m);have G:=Z (F.trans (Nx.af m));clear m;have f:=s.out;rw[f];go_wp2_with fail
     refine(fh (K:=n) x O z.at_).mono ?_;rintro e ex ⟨rfl,c8,c3,J⟩;have H:=Z (z.trans ca J);have v:=Z (G.trans J.nx);clear J f;go_wp2
     go_roundg (N-(k+1)+1)
     case measure=>omega
     case rel=>
      refine⟨k+1,P,rfl,by congr 1,c8,c3,?_,ak B v.ch (fun g a e=>e (A g a)),fun g a=>(v.same g (cE B a)).trans (A g a)⟩;rw[ad,if_pos s.out];exact H
    ·have s:=Z f
     clear f;go_wp2_with fail
     refine(nY x y.at_).mono ?_;rintro e w4 ⟨rfl,ab,I,c⟩;rw[<-al]at c;have b:=Z (y.trans Q c);have D:=Z c.nx;clear c k3 bb;have M:=b.at_.hN;have d:=b.at_.look x;rw[j]at d;dsimp only[Option.map,Option.getD]at d;unfold bk at d;have a5:=b.at_.FR (id:=x) (t:=t) j;have a9:=b.at_.sf (id:=x) (t:=t) j 2;have r:=Z (b.at_.hz (id:=x) (t:=t) j 110);obtain⟨tb,a2⟩:=nm (I.bI x);rw[a2]at d a5 a9 r;clear a2;go_wp2_with fail
     obtain⟨et,a3⟩:=nm (w4.setCell (tb,2) (.int .u64 110));rw[a3]at r⊢;clear a3 a5 a9 d M;rw[<-hP j,<-am]at r;have o:=Z (b.trans c1 r);have F:=Z (D.trans r.nx);clear r;refine(dd (K:=n) x O o.at_).mono ?_;rintro e c7 ⟨rfl,m⟩;have z:=Z (o.af m);have G:=Z (F.trans (Nx.af m));clear m;have f:=s.out;obtain⟨st,a1⟩:=nm (cz n x);rw[a1]at f⊢;clear a1;go_wp2
     have H:=z;have v:=G;go_roundg (N-(k+1)+1)
     case measure=>omega
     case rel=>
      refine⟨k+1,P,rfl,by congr 1,ab,I,?_,ak B v.ch (fun g a e=>e (A g a)),fun g a=>(v.same g (cE B a)).trans (A g a)⟩;rw[ad,if_neg s.out];exact H
  ·obtain rfl:k=N:=by omega
   have y:=Z W;clear W bx c5;go_wp2
   go_end0
   rw[E];have:l.take k=l:=List.take_of_length_le (by rw[ap];exact Nat.le_refl _);rw[<-this];exact⟨rfl,ey,dr,y⟩
def pe(C:KC)(K:KS)(id op kind a b v:Int):KS:={K with mem:=(bR C K id op (K.mem,K.out) kind a b v).2.1,out:=(bR C K id op (K.mem,K.out) kind a b v).2.2}
def iQ(x:Option Int)(χ:Nat->a')(L:cU)(Y:Var)(C:KC)(K K':KS)(w:World)(e:Ending)(w':World):Prop:=
 (match x with
  |some v=>e=.returned (.tuple #[.int .u64 v,.nilIface])
  |none=>∃n v,e=.returned (.tuple #[.int .u64 n,v])/\ar v)/\(∃aY Y',dD χ L Y C K K' w aY Y' w')/\Ch (fun i=>χ i=.mem∨χ i=.gL∨χ i=.out) w w'
theorem AK(h:Ch (fun i=>χ i=.mem) w w'):Ch (fun i=>χ i=.mem∨χ i=.gL∨χ i=.out) w w':=h.mono fun _ h=>Or.inl h
theorem F'(h:Ch (fun i=>χ i=.gL∨χ i=.out) w w'):Ch (fun i=>χ i=.mem∨χ i=.gL∨χ i=.out) w w':=h.mono fun _ h=>Or.inr h
theorem AL{P:a'->Prop}{χ dZ:Nat->a'}{w w1 w2:World}(h:Ch (fun i=>P (χ i)) w w1)(c:∀i,i<w.heap.size->dZ i=χ i)(k:Ch (fun i=>P (dZ i)) w1 w2):Ch (fun i=>P (χ i)) w w2:=
 h.join k fun i a b=>by rw[<-c i a];exact b
theorem lg{p1 p2 p3:Value}(k:Int)(F:Value)(A:Nat)(z:Int->Array Value)(hF:(F=.func (.func 81) #[.pointer (some ⟨L.m,0,none⟩)] #[]/\A=81/\z=fun c=>#[.pointer (some ⟨L.m,0,none⟩),.int .u64 c])∨(F=.func (.func 296) #[] #[p1,p2]/\A=296/\z=fun c=>#[.int .u64 c,p1,p2])∨(F=.func (.func 294) #[] #[p1,p2]/\A=294/\z=fun c=>#[.int .u64 c,p1,p2])∨(F=.func (.func 295) #[] #[p1,p2,p3]/\A=295/\z=fun c=>#[.int .u64 c,p1,p2,p3]))(c9:0<=C.wide/\C.wide<=256/\0<=C.narrow/\C.narrow<=256)(bb:K.out.length<=900000)(id op a f v:Int)(c8:aK a)
 (V:∀c w1,aK c->Ch ag w w1->Calls prog A (z c) w1 (mJ (K.mem.acc k c f v).1 χ L Y C K {K with mem:=(K.mem.acc k c f v).2} w1)) (h:ae w χ L Y C K):
 Calls prog 293 #[.agg #[.pointer (some ⟨L.mb,0,none⟩),.int .u64 id,op],.int .u64 a,F] w (iQ (bR C K id op (K.mem,K.out) k a f v).1 χ L Y C K (pe C K id op k a f v) w):=by
 obtain⟨w0,B⟩:=nm (w.alloc (.cells #[.pointer (some ⟨L.mb,0,none⟩),.int .u64 id,op] 287));have n:=Z (Ch.al (D:=ag) B);have g:=Z (h.gU n);have R:=Z (Row.al B);obtain⟨X,cm,cq⟩:=R.c3;have am:0<=C.cells/\C.cells<=512:=by unfold KC.cells;omega
 have es:=(h.wk (by simp)).n;have a9:0<=gT K/\gT K<=600:=by unfold gT;omega
 have I:=Z (fun w (h:ae w χ L Y C K)=>n4 h c9);have T:=Z (fun w (h:ae w χ L Y C K)=>lT h);obtain⟨y,al⟩:=nm C.cells;obtain⟨j,ab⟩:=nm (gT K);rw[al]at I am;rw[ab]at T a9;obtain⟨dN,e4⟩:=am;obtain⟨dr,dC⟩:=a9;have cC:IntKind.u64.wrap y=y:=by unfold IntKind.wrap IntKind.bits IntKind.signed;simp;omega
 have cA:IntKind.u64.wrap j=j:=by unfold IntKind.wrap IntKind.bits IntKind.signed;simp;omega
 obtain⟨di,dp⟩:=c8;have cQ:=Z bb;rcases hF with⟨rfl,rfl,rfl⟩|⟨rfl,rfl,rfl⟩|⟨rfl,rfl,rfl⟩|⟨rfl,rfl,rfl⟩
 all_goals
  dsimp only at V;have cL:=Z V;have s:=Z (And.intro al ab);have t:=Z (And.intro cC cA);have bX:Hid (χ w.heap.size=.no):=Z (Classical.not_not.1 fun e=>absurd (h.small _ e) (by omega));by_cases av:y<=a
  ·have E:Hid (bR C K id op (K.mem,K.out) k a f v=(none,K.mem,K.out)):=Z (by unfold bR;rw[s.1,t.1,if_pos av])
   have o:Hid (pe C K id op k a f v=K):=Z (by unfold pe;rw[E]);go_in
   go_wp2_with fail
   try rw[B]
   with_reducible refine(I.out _ g.out.at_).mono ?_
   rintro e w1 ⟨rfl,O,rfl⟩;go_wp2_with fail
   with_reducible refine(fg _ _ _ _).mono ?_
   rintro e w2 ⟨rfl,l⟩;have b:=Z (Ch.al (D:=ag) l);go_wp2
   go_ret2;rw[E,o];exact⟨⟨_,_,rfl,ar.mk _ _⟩,⟨_,_,(g.af ay).af b⟩,((n.trans ay).trans b).af⟩
  ·have en:a<y:=by omega
   have bw:IntKind.u64.wrap (j+a)=j+a:=(by unfold IntKind.wrap IntKind.bits IntKind.signed;simp;omega);have W:aK (j+a):=⟨by omega,by omega⟩;have bZ:=Z (fun(w:World) (χ:Nat->a') (Y:Var) (K:KS) (h:ae w χ L Y C K)=>n5 (j+a) W h);have cS:=Z W;have ap:¬y<=a:=av;obtain⟨q,bi⟩:=nm (K.mem.acc k (j+a) f v);obtain⟨cl,x⟩:=q;have a3:=Z bi;have ad:=(fun w1 (cd:Ch ag w w1)=>V (j+a) w1 W cd);rw[bi]at ad;have a1:=Z ad;cases cl with
   |none=>
    have E:Hid (bR C K id op (K.mem,K.out) k a f v=(none,x,K.out)):=Z (by unfold bR;rw[s.1,t.1,if_neg ap,s.2,t.2,bw];dsimp only;rw[a3]);have o:Hid (pe C K id op k a f v={K with mem:=x}):=Z (by unfold pe;rw[E]);go_in
    go_wp2_with fail
    try rw[B]
    with_reducible refine(I.out _ g.out.at_).mono ?_
    rintro e w1 ⟨rfl,O,rfl⟩;obtain⟨w2,l⟩:=nm (w0.drewN O);have b:=Z (Ch.dN (D:=ag) l);rw[l];have U:=Z (g.af b);have r:=Z (R.ch b (fun h=>h));have X:=r.c1;go_wp2_with fail
    with_reducible refine(T.out _ U.out.at_).mono ?_
    rintro e cs ⟨rfl,rfl⟩;go_wp2_with fail
    with_reducible refine(a1.out _ (n.out.trans b.out)).mono ?_
    rintro e w4 ⟨⟨⟨u,rfl,cb⟩,Q,c3,M⟩,m⟩;obtain⟨tt,eA,rfl⟩:=cb;have d:=Z (And.intro M m);go_wp2
    go_ret2;rw[E,o];exact⟨⟨_,_,rfl,ar.mk _ _⟩,⟨_,_,d.1.at_,(g.nx.trans (Nx.af b)).trans d.1.nx,d.1.yk⟩,(n.trans b).af.trans (AK d.2)⟩
   |some held=>
    obtain⟨ci,ca⟩:=nm (x.acc 0 (j+a) 0 0);obtain⟨k1,J⟩:=ci;have a2:=Z ca;obtain⟨N,aP⟩:=nm (k1.getD 0);have E:Hid (bR C K id op (K.mem,K.out) k a f v=(some held,J,K.out++[⟨3,K.at_,K.w,id,op,held,N,0,0,a,0⟩])):=Z (by unfold bR;rw[s.1,t.1,if_neg ap,s.2,t.2,bw];dsimp only;rw[a3];dsimp only;rw[a2];dsimp only;rw[aP]);have o:Hid (pe C K id op k a f v=tell {K with mem:=J} ⟨3,0,0,id,op,held,N,0,0,a,0⟩):=Z (by unfold pe;rw[E];rfl);have c1:Hid (gu ({K with mem:=x}:KS) (j+a)=(N,{K with mem:=J})):=Z (by unfold gu;dsimp only;rw[a2,<-aP]);have c2:=Z (fun(w:World) (χ:Nat->a') (Y:Var) (h:ae w χ L Y C ({K with mem:=J}:KS))=>n6 3 0 0 id op held N 0 0 a 0 (by exact bb) h);have bd:=(fun(w:World) (χ:Nat->a') (Y:Var) (h:ae w χ L Y C ({K with mem:=x}:KS))=>bZ w χ Y _ h);rw[c1]at bd;have c0:=Z bd;go_in
    go_wp2_with fail
    try rw[B]
    with_reducible refine(I.out _ g.out.at_).mono ?_
    rintro e w1 ⟨rfl,O,rfl⟩;obtain⟨w2,l⟩:=nm (w0.drewN O);have b:=Z (Ch.dN (D:=ag) l);rw[l];have U:=Z (g.af b);have r:Hid (Row w2 w.heap.size 287 [.pointer (some ⟨L.mb,0,none⟩),.int .u64 id,op]/\χ w.heap.size=.no):=Z ⟨R.ch b (fun h=>h),bX⟩;have X:=r.1.c1;go_wp2_with fail
    with_reducible refine(T.out _ U.out.at_).mono ?_
    rintro e cs ⟨rfl,rfl⟩;go_wp2_with fail
    with_reducible refine(a1.out _ (n.out.trans b.out)).mono ?_
    rintro e w4 ⟨⟨rfl,Q,c3,M⟩,m⟩;have d:=Z (And.intro M m);have H:=Z (M.nx.row r.1 r.2);obtain⟨X,cm,cq⟩:=H.1.c3;go_wp2
    go_region_held3 (H.1.c3) (go_keep) (first|(go_at_call 51;refine(c0 _ _ _ d.1.at_.drew).mono ?_;rintro e bv ⟨⟨rfl,a0,cW,a4⟩,m⟩;have p:=Z (And.intro a4 m);have S:=Z (((Nx.af (Ch.refl _ w4).drew).trans a4.nx).row H.1 H.2);obtain⟨et,ex,ey⟩:=S.1.c3)|(go_at_call 83;refine(c2 _ _ _ p.1.at_).mono ?_;rintro e ct ⟨⟨rfl,cF,c4,a5⟩,m⟩;have G:=Z (And.intro a5 m);have bx:=Z (a5.nx.row S.1 S.2);obtain⟨y0,eC,eG⟩:=bx.1.c3))
    all_goals
     go_wp2
     go_ret2;rw[E,o];refine⟨rfl,⟨cF,c4,G.1.at_,?_,?_⟩,?_⟩
     ·exact(((g.nx.trans (Nx.af b)).trans d.1.nx).trans ((Nx.af (Ch.refl _ w4).drew).trans p.1.nx)).trans G.1.nx
     ·exact(d.1.yk.trans (Gr.of_eq rfl) p.1.yk).trans (Gr.of_eq rfl) G.1.yk
     ·have c5:Ch (fun i=>χ i=.mem∨χ i=.gL∨χ i=.out) w w4:=(n.trans b).af.trans (AK d.2)
      have c6:Ch (fun i=>Q i=.mem∨Q i=.gL∨Q i=.out) w4 bv:=(AK ((Ch.refl _ w4).drew.trans p.2));have c7:Ch (fun i=>a0 i=.mem∨a0 i=.gL∨a0 i=.out) bv ct:=F' G.2;have ce:=((g.nx.trans (Nx.af b)).trans d.1.nx).same;have ch:=(((g.nx.trans (Nx.af b)).trans d.1.nx).trans ((Nx.af (Ch.refl _ w4).drew).trans p.1.nx)).same;exact AL (P:=fun c=>c=.mem∨c=.gL∨c=.out) (AL (P:=fun c=>c=.mem∨c=.gL∨c=.out) c5 ce c6) ch c7
theorem CL(id op a D v:Int)(s:aK a)(z:aK v)(f vb:Nat)(m:Row w f 287 [(L.mb,0),.int .u64 id,op])(n:Row w vb 39 [.int .u64 v])(t:χ f=.no/\χ vb=.no)(h:ae w χ L Y C K):
 Calls prog 296 #[.int .u64 a,(f,0),(vb,0)] w (mJ (K.mem.acc 2 a 0 v).1 χ L Y C K {K with mem:=(K.mem.acc 2 a 0 v).2} w):=by
 have E:=m.c1;have F:=n.c1;have B:=h.cO;have g:=Z (Ed a v s z h.drew);have d:=Z (And.intro m (And.intro t n));obtain⟨q,x⟩:=nm (K.mem.acc 2 a 0 v);rw[x]at g⊢;obtain⟨o,A⟩:=q;cases o with
 |none=>
  go_wp2
  go_region_held3 (fun w'=>w'.cell? (f,0)=some (.pointer (some (L.mb,0)))/\w'.cell? (L.mb,1007)=some (.pointer (some (L.m,0)))/\w'.cell? (vb,0)=some (.int .u64 v)) (go_keep) ((go_at_call 277;refine g.mono ?_;rintro e w4 ⟨⟨⟨u,rfl,y⟩,l,j,c⟩,k⟩;obtain⟨tt,G,rfl⟩:=y;have b:=Z (And.intro c k);have p:=(c.nx.row (w:=w.drew) (d.1.drew) d.2.1.1).1.cell (i:=0) rfl;have r:=c.at_.cO;have d0:=(c.nx.row (w:=w.drew) (d.2.2.drew) d.2.1.2).1.cell (i:=0) rfl))
  all_goals
   go_wp2
   go_ret2;exact⟨⟨⟨_,rfl,ar.mk _ _⟩,l,j,b.1.at_,(Nx.af (Ch.refl _ w).drew).trans b.1.nx,b.1.yk⟩,(Ch.refl _ w).drew.trans b.2⟩
 |some o=>
  go_wp2
  go_region_held3 (fun w'=>w'.cell? (f,0)=some (.pointer (some (L.mb,0)))/\w'.cell? (L.mb,1007)=some (.pointer (some (L.m,0)))/\w'.cell? (vb,0)=some (.int .u64 v)) (go_keep) ((go_at_call 277;refine g.mono ?_;rintro e w4 ⟨⟨rfl,l,j,c⟩,k⟩;have b:=Z (And.intro c k);have p:=(c.nx.row (w:=w.drew) (d.1.drew) d.2.1.1).1.cell (i:=0) rfl;have r:=c.at_.cO;have d0:=(c.nx.row (w:=w.drew) (d.2.2.drew) d.2.1.2).1.cell (i:=0) rfl))
  all_goals
   go_wp2
   go_ret2;exact⟨⟨rfl,l,j,b.1.at_,(Nx.af (Ch.refl _ w).drew).trans b.1.nx,b.1.yk⟩,(Ch.refl _ w).drew.trans b.2⟩
theorem Ew(id op a D v:Int)(s:aK a)(z:aK v)(f vb:Nat)(m:Row w f 287 [(L.mb,0),.int .u64 id,op])(n:Row w vb 39 [.int .u64 v])(t:χ f=.no/\χ vb=.no)(h:ae w χ L Y C K):
 Calls prog 294 #[.int .u64 a,(f,0),(vb,0)] w (mJ (K.mem.acc 3 a 0 v).1 χ L Y C K {K with mem:=(K.mem.acc 3 a 0 v).2} w):=by
 have E:=m.c1;have F:=n.c1;have B:=h.cO;have g:=Z (Dw a v s z h.drew);have d:=Z (And.intro m (And.intro t n));obtain⟨q,x⟩:=nm (K.mem.acc 3 a 0 v);rw[x]at g⊢;obtain⟨o,A⟩:=q;cases o with
 |none=>
  go_wp2
  go_region_held3 (fun w'=>w'.cell? (f,0)=some (.pointer (some (L.mb,0)))/\w'.cell? (L.mb,1007)=some (.pointer (some (L.m,0)))/\w'.cell? (vb,0)=some (.int .u64 v)) (go_keep) ((go_at_call 131;refine g.mono ?_;rintro e w4 ⟨⟨⟨u,rfl,y⟩,l,j,c⟩,k⟩;obtain⟨tt,G,rfl⟩:=y;have b:=Z (And.intro c k);have p:=(c.nx.row (w:=w.drew) (d.1.drew) d.2.1.1).1.cell (i:=0) rfl;have r:=c.at_.cO;have d0:=(c.nx.row (w:=w.drew) (d.2.2.drew) d.2.1.2).1.cell (i:=0) rfl))
  all_goals
   go_wp2
   go_ret2;exact⟨⟨⟨_,rfl,ar.mk _ _⟩,l,j,b.1.at_,(Nx.af (Ch.refl _ w).drew).trans b.1.nx,b.1.yk⟩,(Ch.refl _ w).drew.trans b.2⟩
 |some o=>
  go_wp2
  go_region_held3 (fun w'=>w'.cell? (f,0)=some (.pointer (some (L.mb,0)))/\w'.cell? (L.mb,1007)=some (.pointer (some (L.m,0)))/\w'.cell? (vb,0)=some (.int .u64 v)) (go_keep) ((go_at_call 131;refine g.mono ?_;rintro e w4 ⟨⟨rfl,l,j,c⟩,k⟩;have b:=Z (And.intro c k);have p:=(c.nx.row (w:=w.drew) (d.1.drew) d.2.1.1).1.cell (i:=0) rfl;have r:=c.at_.cO;have d0:=(c.nx.row (w:=w.drew) (d.2.2.drew) d.2.1.2).1.cell (i:=0) rfl))
  all_goals
   go_wp2
   go_ret2;exact⟨⟨rfl,l,j,b.1.at_,(Nx.af (Ch.refl _ w).drew).trans b.1.nx,b.1.yk⟩,(Ch.refl _ w).drew.trans b.2⟩
theorem Ex(id op a f v:Int)(y:aK a)(D:aK v)(j g vb:Nat)(p:Row w j 287 [(L.mb,0),.int .u64 id,op])(o:Row w g 39 [.int .u64 f])(r:Row w vb 39 [.int .u64 v])(z:χ j=.no/\χ g=.no/\χ vb=.no)(h:ae w χ L Y C K):
 Calls prog 295 #[.int .u64 a,(j,0),(g,0),(vb,0)] w (mJ (K.mem.acc 4 a f v).1 χ L Y C K {K with mem:=(K.mem.acc 4 a f v).2} w):=by
 have G:=p.c1;have H:=o.c1;have I:=r.c1;have F:=h.cO;have k:=Z (Dx a f v y D h.drew);have b:=Z (And.intro p (And.intro z (And.intro o r)));obtain⟨q,A⟩:=nm (K.mem.acc 4 a f v);rw[A]at k⊢;obtain⟨s,E⟩:=q;cases s with
 |none=>
  go_wp2
  go_region_held3 (fun w'=>w'.cell? (j,0)=some (.pointer (some (L.mb,0)))/\w'.cell? (L.mb,1007)=some (.pointer (some (L.m,0)))/\w'.cell? (g,0)=some (.int .u64 f)/\w'.cell? (vb,0)=some (.int .u64 v)) (go_keep) ((go_at_call 204;refine k.mono ?_;rintro e w4 ⟨⟨⟨u,rfl,B⟩,n,l,c⟩,m⟩;obtain⟨tt,J,rfl⟩:=B;have d:=Z (And.intro c m);have t:=(c.nx.row (w:=w.drew) (b.1.drew) b.2.1.1).1.cell (i:=0) rfl;have x:=c.at_.cO;have d0:=(c.nx.row (w:=w.drew) (b.2.2.1.drew) b.2.1.2.1).1.cell (i:=0) rfl;have d1:=(c.nx.row (w:=w.drew) (b.2.2.2.drew) b.2.1.2.2).1.cell (i:=0) rfl))
  all_goals
   go_wp2
   go_ret2;exact⟨⟨⟨_,rfl,ar.mk _ _⟩,n,l,d.1.at_,(Nx.af (Ch.refl _ w).drew).trans d.1.nx,d.1.yk⟩,(Ch.refl _ w).drew.trans d.2⟩
 |some s=>
  go_wp2
  go_region_held3 (fun w'=>w'.cell? (j,0)=some (.pointer (some (L.mb,0)))/\w'.cell? (L.mb,1007)=some (.pointer (some (L.m,0)))/\w'.cell? (g,0)=some (.int .u64 f)/\w'.cell? (vb,0)=some (.int .u64 v)) (go_keep) ((go_at_call 204;refine k.mono ?_;rintro e w4 ⟨⟨rfl,n,l,c⟩,m⟩;have d:=Z (And.intro c m);have t:=(c.nx.row (w:=w.drew) (b.1.drew) b.2.1.1).1.cell (i:=0) rfl;have x:=c.at_.cO;have d0:=(c.nx.row (w:=w.drew) (b.2.2.1.drew) b.2.1.2.1).1.cell (i:=0) rfl;have d1:=(c.nx.row (w:=w.drew) (b.2.2.2.drew) b.2.1.2.2).1.cell (i:=0) rfl))
  all_goals
   go_wp2
   go_ret2;exact⟨⟨rfl,n,l,d.1.at_,(Nx.af (Ch.refl _ w).drew).trans d.1.nx,d.1.yk⟩,(Ch.refl _ w).drew.trans d.2⟩
theorem iQ.of{x:Option Int}{K':KS}{e:Ending}{w0 w':World}(h:iQ x χ L Y C K K' w0 e w')(c:Ch ag w w0):iQ x χ L Y C K K' w e w':=by
 obtain⟨b,⟨aY,Y',a⟩,d⟩:=h;exact⟨b,⟨aY,Y',a.at_,(Nx.af c).trans a.nx,a.yk⟩,c.af.trans d⟩
theorem uO(E:0<=C.wide/\C.wide<=256/\0<=C.narrow/\C.narrow<=256)(F:K.out.length<=900000)(id op a:Int)(B:aK a)(h:ae w χ L Y C K):
 Calls prog 290 #[.agg #[(L.mb,0),.int .u64 id,op],.int .u64 a] w (iQ (bR C K id op (K.mem,K.out) 0 a 0 0).1 χ L Y C K (pe C K id op 0 a 0 0) w):=by
 obtain⟨w0,d⟩:=nm ((w.alloc (.cells #[(L.mb,0),.int .u64 id,op] 287)));have k:=Z (Ch.al (D:=ag) d);have l:=Z (h.gU k);have i:=Z (Row.al d);obtain⟨M,N,O⟩:=i.c3;have I:=l.at_.cO;have p:Hid (χ w.heap.size=.no):=Z (Classical.not_not.1 fun e=>absurd (h.small _ e) (by omega));have g:=Z (lg (p1:=.nilIface) (p2:=.nilIface) (p3:=.nilIface) 0 _ _ _ (Or.inl ⟨rfl,rfl,rfl⟩) E F id op a 0 0 B (fun c w1 m G=>um c m (l.at_.drew.af G)) l.at_.drew);obtain⟨q,s⟩:=nm (bR C K id op (K.mem,K.out) 0 a 0 0);obtain⟨K',r⟩:∃K',pe C K id op 0 a 0 0=K':=⟨_,rfl⟩;rw[s,r]at g;rw[s,r];obtain⟨t,J⟩:=q;dsimp only at g;cases t with
 |none=>
  go_in
  go_wp2
  try rw[d]
  try clear d
  go_region_held3 (fun w'=>w'.cell? (w.heap.size,0)=some (.pointer (some (L.mb,0)))/\w'.cell? (w.heap.size,1)=some (.int .u64 id)/\w'.cell? (w.heap.size,2)=some (.int .i64 op)/\w'.cell? (L.mb,1007)=some (.pointer (some (L.m,0)))) (go_keep) ((go_at_call 293;refine g.mono ?_;rintro e w4 ⟨⟨n,u,rfl,m⟩,⟨H,v,b⟩,o⟩;obtain⟨tt,P,rfl⟩:=m;have f:=Z (And.intro b o);have j:=Z (b.nx.row (w:=w0.drew) i.drew p);obtain⟨x,y,z⟩:=j.1.c3;have A:=b.at_.cO))
  all_goals
   go_wp2
   go_ret2;exact iQ.of ⟨⟨_,_,rfl,ar.mk _ _⟩,⟨_,_,f.1⟩,f.2⟩ (k.trans ay)
 |some t=>
  go_in
  go_wp2
  try rw[d]
  try clear d
  go_region_held3 (fun w'=>w'.cell? (w.heap.size,0)=some (.pointer (some (L.mb,0)))/\w'.cell? (w.heap.size,1)=some (.int .u64 id)/\w'.cell? (w.heap.size,2)=some (.int .i64 op)/\w'.cell? (L.mb,1007)=some (.pointer (some (L.m,0)))) (go_keep) ((go_at_call 293;refine g.mono ?_;rintro e w4 ⟨rfl,⟨H,v,b⟩,o⟩;have f:=Z (And.intro b o);have j:=Z (b.nx.row (w:=w0.drew) i.drew p);obtain⟨x,y,z⟩:=j.1.c3;have A:=b.at_.cO))
  all_goals
   go_wp2
   go_ret2;exact iQ.of ⟨rfl,⟨_,_,f.1⟩,f.2⟩ (k.trans ay)
theorem oD(z:0<=C.wide/\C.wide<=256/\0<=C.narrow/\C.narrow<=256)(A:K.out.length<=900000)(id op a v:Int)(y:aK a)(B:aK v)(h:ae w χ L Y C K):
 Calls prog 292 #[.agg #[.pointer (some ⟨L.mb,0,none⟩),.int .u64 id,op],.int .u64 a,.int .u64 v] w (iQ (bR C K id op (K.mem,K.out) 2 a 0 v).1 χ L Y C K (pe C K id op 2 a 0 v) w):=by
 obtain⟨w0,d⟩:=nm (((w.alloc (.cells #[.pointer (some ⟨L.mb,0,none⟩),.int .u64 id,op] 287)).alloc (.cells #[.int .u64 v] 39)));have g:Hid (Ch ag w w0):=Z (by rw[<-d];exact ay);have r:=Z (h.gU g);have o:Hid (Row w0 w.heap.size 287 [.pointer (some ⟨L.mb,0,none⟩),.int .u64 id,op]):=Z (by rw[<-d];exact(Row.new w _ _).alloc _);have x:Hid (Row w0 (w.heap.size+1) 39 [.int .u64 v]):=Z (by
  rw[<-d];have:=Row.new (w.alloc (.cells #[.pointer (some ⟨L.mb,0,none⟩),.int .u64 id,op] 287)) #[.int .u64 v] 39;simpa[World.size_alloc,Nat.add_assoc]using this)
 have p:Hid (∀i,w.heap.size<=i->χ i=.no):=Z (fun i E=>Classical.not_not.1 fun e=>absurd (h.small _ e) (by omega));obtain⟨G,H,I⟩:=o.c3;have f:=Z (lg (p1:=.pointer (some ⟨w.heap.size,0,none⟩)) (p2:=.pointer (some ⟨w.heap.size+1,0,none⟩)) (p3:=.nilIface) 2 _ _ _ (Or.inr (Or.inl ⟨rfl,rfl,rfl⟩)) z A id op a 0 v y (fun c w1 k l=>CL id op c 0 v k B _ _ (o.ch l (fun h=>h)) (x.ch l (fun h=>h)) ⟨p _ (by omega),p _ (by omega)⟩ (r.at_.af l)) r.at_);obtain⟨q,t⟩:=nm (bR C K id op (K.mem,K.out) 2 a 0 v);obtain⟨K',s⟩:∃K',pe C K id op 2 a 0 v=K':=⟨_,rfl⟩;rw[t,s]at f;rw[t,s];obtain⟨D,F⟩:=q;dsimp only at f;cases D
 all_goals
  go_in
  go_wp2_with fail
  try rw[d]
  try clear d
  with_reducible refine f.out.mono ?_
 ·rintro e w4 ⟨⟨n,u,rfl,k⟩,j,m⟩
  obtain⟨tt,J,rfl⟩:=k;have b:=Z (And.intro j m);go_wp2
  go_ret2;exact iQ.of ⟨⟨_,_,rfl,ar.mk _ _⟩,b.1,b.2⟩ g
 ·rintro e w4 ⟨rfl,j,m⟩
  have b:=Z (And.intro j m);go_wp2
  go_ret2;exact iQ.of ⟨rfl,b.1,b.2⟩ g
theorem ys(z:0<=C.wide/\C.wide<=256/\0<=C.narrow/\C.narrow<=256)(A:K.out.length<=900000)(id op a v:Int)(y:aK a)(B:aK v)(h:ae w χ L Y C K):
 Calls prog 288 #[.agg #[.pointer (some ⟨L.mb,0,none⟩),.int .u64 id,op],.int .u64 a,.int .u64 v] w (iQ (bR C K id op (K.mem,K.out) 3 a 0 v).1 χ L Y C K (pe C K id op 3 a 0 v) w):=by
 obtain⟨w0,d⟩:=nm (((w.alloc (.cells #[.pointer (some ⟨L.mb,0,none⟩),.int .u64 id,op] 287)).alloc (.cells #[.int .u64 v] 39)));have g:Hid (Ch ag w w0):=Z (by rw[<-d];exact ay);have r:=Z (h.gU g);have o:Hid (Row w0 w.heap.size 287 [.pointer (some ⟨L.mb,0,none⟩),.int .u64 id,op]):=Z (by rw[<-d];exact(Row.new w _ _).alloc _);have x:Hid (Row w0 (w.heap.size+1) 39 [.int .u64 v]):=Z (by
  rw[<-d];have:=Row.new (w.alloc (.cells #[.pointer (some ⟨L.mb,0,none⟩),.int .u64 id,op] 287)) #[.int .u64 v] 39;simpa[World.size_alloc,Nat.add_assoc]using this)
 have p:Hid (∀i,w.heap.size<=i->χ i=.no):=Z (fun i E=>Classical.not_not.1 fun e=>absurd (h.small _ e) (by omega));obtain⟨G,H,I⟩:=o.c3;have f:=Z (lg (p1:=.pointer (some ⟨w.heap.size,0,none⟩)) (p2:=.pointer (some ⟨w.heap.size+1,0,none⟩)) (p3:=.nilIface) 3 _ _ _ (Or.inr (Or.inr (Or.inl ⟨rfl,rfl,rfl⟩))) z A id op a 0 v y (fun c w1 k l=>Ew id op c 0 v k B _ _ (o.ch l (fun h=>h)) (x.ch l (fun h=>h)) ⟨p _ (by omega),p _ (by omega)⟩ (r.at_.af l)) r.at_);obtain⟨q,t⟩:=nm (bR C K id op (K.mem,K.out) 3 a 0 v);obtain⟨K',s⟩:∃K',pe C K id op 3 a 0 v=K':=⟨_,rfl⟩;rw[t,s]at f;rw[t,s];obtain⟨D,F⟩:=q;dsimp only at f;cases D
 all_goals
  go_in
  go_wp2_with fail
  try rw[d]
  try clear d
  with_reducible refine f.out.mono ?_
 ·rintro e w4 ⟨⟨n,u,rfl,k⟩,j,m⟩
  obtain⟨tt,J,rfl⟩:=k;have b:=Z (And.intro j m);go_wp2
  go_ret2;exact iQ.of ⟨⟨_,_,rfl,ar.mk _ _⟩,b.1,b.2⟩ g
 ·rintro e w4 ⟨rfl,j,m⟩
  have b:=Z (And.intro j m);go_wp2
  go_ret2;exact iQ.of ⟨rfl,b.1,b.2⟩ g
theorem yt(B:0<=C.wide/\C.wide<=256/\0<=C.narrow/\C.narrow<=256)(D:K.out.length<=900000)(id op a b v:Int)(A:aK a)(hold:aK b)(E:aK v)(h:ae w χ L Y C K):
 Calls prog 289 #[.agg #[.pointer (some ⟨L.mb,0,none⟩),.int .u64 id,op],.int .u64 a,.int .u64 b,.int .u64 v] w (iQ (bR C K id op (K.mem,K.out) 4 a b v).1 χ L Y C K (pe C K id op 4 a b v) w):=by
 obtain⟨w0,d⟩:=nm ((((w.alloc (.cells #[.pointer (some ⟨L.mb,0,none⟩),.int .u64 id,op] 287)).alloc (.cells #[.int .u64 b] 39)).alloc (.cells #[.int .u64 v] 39)));have k:Hid (Ch ag w w0):=Z (by rw[<-d];exact ay);have s:=Z (h.gU k);have r:Hid (Row w0 w.heap.size 287 [.pointer (some ⟨L.mb,0,none⟩),.int .u64 id,op]):=Z (by rw[<-d];exact((Row.new w _ _).alloc _).alloc _);have y:Hid (Row w0 (w.heap.size+1) 39 [.int .u64 b]):=Z (by
  rw[<-d];have:=(Row.new (w.alloc (.cells #[.pointer (some ⟨L.mb,0,none⟩),.int .u64 id,op] 287)) #[.int .u64 b] 39).alloc (.cells #[.int .u64 v] 39);simpa[World.size_alloc,Nat.add_assoc]using this)
 have z:Hid (Row w0 (w.heap.size+2) 39 [.int .u64 v]):=Z (by
  rw[<-d];have:=Row.new ((w.alloc (.cells #[.pointer (some ⟨L.mb,0,none⟩),.int .u64 id,op] 287)).alloc (.cells #[.int .u64 b] 39)) #[.int .u64 v] 39;simpa[World.size_alloc,Nat.add_assoc]using this)
 have l:Hid (∀i,w.heap.size<=i->χ i=.no):=Z (fun i G=>Classical.not_not.1 fun e=>absurd (h.small _ e) (by omega));obtain⟨I,J,M⟩:=r.c3;have j:=Z (lg (p1:=.pointer (some ⟨w.heap.size,0,none⟩)) (p2:=.pointer (some ⟨w.heap.size+1,0,none⟩)) (p3:=.pointer (some ⟨w.heap.size+2,0,none⟩)) 4 _ _ _ (Or.inr (Or.inr (Or.inr ⟨rfl,rfl,rfl⟩))) B D id op a b v A (fun c w1 o g=>Ex id op c b v o E _ _ _ (r.ch g (fun h=>h)) (y.ch g (fun h=>h)) (z.ch g (fun h=>h)) ⟨l _ (by omega),l _ (by omega),l _ (by omega)⟩ (s.at_.af g)) s.at_);obtain⟨q,x⟩:=nm (bR C K id op (K.mem,K.out) 4 a b v);obtain⟨K',t⟩:∃K',pe C K id op 4 a b v=K':=⟨_,rfl⟩;rw[x,t]at j;rw[x,t];obtain⟨F,H⟩:=q;dsimp only at j;cases F
 all_goals
  go_in
  go_wp2_with fail
  try rw[d]
  try clear d
  with_reducible refine j.out.mono ?_
 ·rintro e w4 ⟨⟨n,u,rfl,o⟩,m,p⟩
  obtain⟨tt,N,rfl⟩:=o;have f:=Z (And.intro m p);go_wp2
  go_ret2;exact iQ.of ⟨⟨_,_,rfl,ar.mk _ _⟩,f.1,f.2⟩ k
 ·rintro e w4 ⟨rfl,m,p⟩
  have f:=Z (And.intro m p);go_wp2
  go_ret2;exact iQ.of ⟨rfl,f.1,f.2⟩ k
def G8(ok:Bool)(χ:Nat->a')(L:cU)(Y:Var)(C:KC)(K K':KS)(w:World)(e:Ending)(w':World):Prop:=
 (∃v,e=.returned v/\(if ok then v=.nilIface else ar v))/\(∃aY Y',dD χ L Y C K K' w aY Y' w')/\Ch (fun i=>χ i=.mem∨χ i=.gL∨χ i=.out) w w'
theorem sW(id op a v:Int)(S:aI×List Ev):bR C K id op S 1 a 0 v=bR C K id op S 2 a 0 v:=by
 have:∀(M:aI) (c:Int),M.acc 1 c 0 v=M.acc 2 c 0 v:=fun M c=>by unfold aI.acc;simp
 unfold bR;dsimp only;simp only[this]
theorem sX(t:0<=C.wide/\C.wide<=256/\0<=C.narrow/\C.narrow<=256)(y:K.out.length<=900000)(id op a v:Int)(s:aK a)(B:aK v)(h:ae w χ L Y C K):
 Calls prog 291 #[.agg #[(L.mb,0),.int .u64 id,op],.int .u64 a,.int .u64 v] w (G8 (bR C K id op (K.mem,K.out) 1 a 0 v).1.isSome χ L Y C K (pe C K id op 1 a 0 v) w):=by
 obtain⟨w0,c⟩:=nm (w.alloc (.cells #[(L.mb,0),.int .u64 id,op] 287));have f:=Z (Ch.al (D:=ag) c);have p:=Z (h.gU f);have o:=Z (Row.al c);obtain⟨H,I,J⟩:=o.c3;have d:=Z (oD t y id op a v s B p.at_);have z:pe C K id op 1 a 0 v=pe C K id op 2 a 0 v:=by unfold pe;rw[sW]
 rw[sW,z];obtain⟨q,m⟩:=nm (bR C K id op (K.mem,K.out) 2 a 0 v);obtain⟨K',l⟩:∃K',pe C K id op 2 a 0 v=K':=⟨_,rfl⟩;rw[m,l]at d;rw[m,l];obtain⟨E,G⟩:=q;dsimp only at d;cases E
 all_goals
  go_in
  go_wp2_with fail
  try rw[c]
  try clear c
  with_reducible refine d.out.mono ?_
 ·rintro e w4 ⟨⟨n,u,rfl,A⟩,j,k⟩
  obtain⟨tt,F,rfl⟩:=A;have b:=Z (And.intro j k);go_wp2
  go_ret;obtain⟨r,⟨aY,Y',g⟩,i⟩:=iQ.of (x:=none) (w:=w) ⟨⟨n,_,rfl,ar.mk tt F⟩,b.1,b.2⟩ f;exact⟨⟨_,rfl,ar.mk _ _⟩,⟨aY,Y',g⟩,i⟩
 ·rintro e w4 ⟨rfl,j,k⟩
  have b:=Z (And.intro j k);go_wp2
  go_ret;obtain⟨r,⟨aY,Y',g⟩,i⟩:=iQ.of (x:=some 0) (w:=w) ⟨rfl,b.1,b.2⟩ f;exact⟨⟨_,rfl,rfl⟩,⟨aY,Y',g⟩,i⟩
variable{w1:World}{B b bx j k n p s:Nat}{e t:TypeId}{l xs:List Value}{u v vc vl vn vw:Value}{X:be}
structure gD where
 code:List be
 labels:List (ByteArray×Int)
 lines:List Int
 bu:List (Int×Int×ByteArray)
 line:Int
def ph(b:ByteArray×Int):List Value:=[.string b.1,.int .i64 b.2]
def oK(x:Int×Int×ByteArray):List Value:=[.int .i64 x.1,.int .i64 x.2.1,.string x.2.2]
def dn(X:be):List Value:=(aD X).toList
def jz(n:Int):List Value:=[n]
structure oL(w:World)(B p bx:Nat)(vc vl vn vw:Value)(S:gD):Prop where
 row:Row w p 189 [vc,vl,vn,vw,.int .i64 S.line]
 hB:B<=p
 code:w.ownsRow B 184 7 vc S.code.length (S.code.flatMap dn)
 ne:vc.ownBlock≠some bx
 labels:w.ownsRow B 198 2 vl S.labels.length (S.labels.flatMap ph)
 lines:w.ownsRow B 3 1 vn S.lines.length (S.lines.flatMap jz)
 bu:w.ownsRow B 196 3 vw S.bu.length (S.bu.flatMap oK)
def dK(w:World)(B p bx:Nat)(S:gD):Prop:=∃vc vl vn vw,oL w B p bx vc vl vn vw S
def hH(w w':World):Prop:=∀(k:Nat) (c:Array Value) (t:TypeId) (f:Nat×Nat),t≠189->t≠184->t≠196->w.heap[k]?=some (.cells c t f)->w'.heap[k]?=some (.cells c t f)
theorem hH.refl(w:World):hH w w:=fun _ _ _ _ _ _ _ h=>h
theorem hH.trans{a b c:World}(h:hH a b)(g:hH b c):hH a c:=fun k x t f d i m o=>g k x t f d i m (h k x t f d i m o)
theorem hH.row(h:hH w w')(f:Row w b t l)(a:t≠189)(c:t≠184)(d:t≠196):Row w' b t l:=h b _ t _ a c d f
theorem hH.fj{D:Nat->Prop}(c:Ch D w w')(hd:∀k x t f,D k->w.heap[k]?=some (.cells x t f)->t=189∨t=184∨t=196):hH w w':=by
 intro k x t f g i m a;rw[c.same k (Array.getElem?_eq_some_iff.1 a).1 (fun d=>by rcases hd k x t f d a with h|h|h<;>contradiction)];exact a
theorem bm{size:Nat}(h:w.ownsRow B e size v n xs){c:Array Value}{f:Nat×Nat}(a:w.heap[k]?=some (.cells c t f))(o:t≠e):v.ownBlock≠some k:=by
 rcases h.2 with⟨rfl,_⟩|⟨g,cap,cur,rfl,_,i,_⟩
 ·simp[Value.ownBlock]
 ·intro m
  have:g=k:=by simpa[Value.ownBlock]using m
  subst this;rw[i]at a;injection a with a
  injection a with _ d _
  exact o d.symm
theorem bW{size:Nat}(h:w.ownsRow B e size v n xs)(a:v.ownBlock=some k):B<=k/\∃c,w.heap[k]?=some (.cells c e (0,0)):=by
 rcases h.2 with⟨rfl,_⟩|⟨g,cap,cur,rfl,d,f,_⟩
 ·cases a
 ·have:g=k:=by simpa[Value.ownBlock]using a
  subst this;exact⟨d,_,f⟩
theorem eM(h:Row w b t l){c:Array Value}{d:TypeId}{f:Nat×Nat}(a:w.heap[b]?=some (.cells c d f)):d=t:=by
 unfold Row at h;rw[h]at a;injection a with a;injection a with _ g _;exact g.symm
theorem oL.ins{S:gD}(h:oL w B p bx vc vl vn vw S)(f:aq w bx X)(c:Ch (aH bx) w w'):oL w' B p bx vc vl vn vw S where
 row:=h.row.ch c (fun e=>by have a:p=bx:=e;subst a;exact absurd (eM h.row f) (by decide))
 hB:=h.hB
 code:=ak h.code c (fun g d e=>by have a:g=bx:=e;subst a;exact h.ne d)
 ne:=h.ne
 labels:=ak h.labels c (fun g d e=>by have a:g=bx:=e;subst a;exact bm h.labels f (by decide) d)
 lines:=ak h.lines c (fun g d e=>by have a:g=bx:=e;subst a;exact bm h.lines f (by decide) d)
 bu:=ak h.bu c (fun g d e=>by have a:g=bx:=e;subst a;exact bm h.bu f (by decide) d)
theorem oL.af{S:gD}(h:oL w B p bx vc vl vn vw S)(c:Ch ag w w'):oL w' B p bx vc vl vn vw S where
 row:=h.row.ch c id
 hB:=h.hB
 code:=ak h.code c (fun g a e=>e)
 ne:=h.ne
 labels:=ak h.labels c (fun g a e=>e)
 lines:=ak h.lines c (fun g a e=>e)
 bu:=ak h.bu c (fun g a e=>e)
theorem dK.af{S:gD}(h:dK w B p bx S)(c:Ch ag w w'):dK w' B p bx S:=by
 obtain⟨vc,vl,vn,vw,h⟩:=h;exact⟨vc,vl,vn,vw,h.af c⟩
theorem dK.ins{S:gD}(h:dK w B p bx S)(a:aq w bx X)(c:Ch (aH bx) w w'):dK w' B p bx S:=by
 obtain⟨vc,vl,vn,vw,h⟩:=h;exact⟨vc,vl,vn,vw,h.ins a c⟩
def wH(p:Nat)(v:Value):Nat->Prop:=fun i=>i=p∨v.ownBlock=some i
theorem kq(a:w.grownBy w1 v.ownBlock):Ch (wH p v) w (w1.setCell (p,j) u):=
 Ch.hj (D:=wH p v) (p:=⟨p,j,none⟩) ⟨a.os,a.tape,a.output,a.size,fun b hb hd=>a.block b hb (fun e=>hd (Or.inr e.symm))⟩ (Or.inl rfl) u
theorem f'(c:Ch (wH p v) w w')(h:w.ownsRow B e s v n xs)(a:B<=p)(d:B<=w.heap.size):Below B w w':=
 c.below d (fun b hb=>by rcases hb with rfl|hb;exact a;exact(bW h hb).1)
theorem dT(h:w1.ownsRow B e s v n xs)(f:Row w1 p t l)(i:t≠e):(w1.setCell (p,j) u).ownsRow B e s v n xs:=
 ak (D:=aH p) h ay (fun g d a=>by have c:g=p:=a;subst c;exact bm h f i d)
theorem oL.want{v':Value}{S:gD}(h:oL w B p bx vc vl vn vw S)(A:aq w bx X)(G:B<=w.heap.size)(y:Int×Int×ByteArray)
 (F:w1.ownsRow B 196 3 v' (S.bu.length+1) (S.bu.flatMap oK++oK y)) (a:w.grownBy w1 vw.ownBlock):
 dK (w1.setCell (p,3) v') B p bx {S with bu:=S.bu++[y]}/\aq (w1.setCell (p,3) v') bx X/\Below B w (w1.setCell (p,3) v')/\hH w (w1.setCell (p,3) v'):=by
 have c:=kq (p:=p) (j:=3) (u:=v') a;have H:Ch (wH p vw) w w1:=⟨a.os,a.tape,a.output,a.size,fun b hb hd=>a.block b hb (fun e=>hd (Or.inr e.symm))⟩;have C:∀{k:Nat} {cs:Array Value} {t:TypeId} {f:Nat×Nat},w.heap[k]?=some (.cells cs t f)->t≠189->t≠196->¬wH p vw k:=fun d o i q=>by
  rcases q with rfl|q
  ·exact o (eM h.row d)
  ·exact bm h.bu d i q
 have r:∀{e:TypeId} {s:Nat} {v:Value} {n:Nat} {xs:List Value},w.ownsRow B e s v n xs->e≠189->e≠196->∀g,v.ownBlock=some g->¬wH p vw g:=fun E o i g a=>by
  obtain⟨_,cs,d⟩:=bW E a;exact C d o i
 have z:Row w1 p 189 [vc,vl,vn,vw,.int .i64 S.line]:=by
  unfold Row;rw[a.block p h.row.lt (fun e=>bm h.bu h.row (by decide) e.symm)];exact h.row
 refine⟨⟨vc,vl,vn,v',⟨z.bc _ _ rfl,h.hB,ak h.code c (r h.code (by decide) (by decide)),h.ne,ak h.labels c (r h.labels (by decide) (by decide)),ak h.lines c (r h.lines (by decide) (by decide)),?_⟩⟩,A.ch c (C A (by decide) (by decide)),f' c h.bu h.hB G,?_⟩
 ·have:=dT (j:=3) (u:=v') F z (by decide)
  rw[List.flatMap_append,List.length_append];simpa using this
 ·refine hH.fj c (fun k x t f d m=> ?_)
  rcases d with rfl|d
  ·exact Or.inl (eM h.row m)
  ·obtain⟨_,cs,i⟩:=bW h.bu d
   rw[i]at m;injection m with m;injection m with _ D _
   exact Or.inr (Or.inr D.symm)
theorem AV:(prog.info? 196).map (fun i=>(i.zero,i.size,i.bytes))=some (some (.agg #[.int .i64 0,.int .i64 0,.string ByteArray.empty]),3,32):=by kernel_rfl
def kr(kind n:Int)(X:be):be:=if kind=0 then {X with a:=n}else if kind=1∨kind=3 then {X with b:=n}else if kind=2∨kind=4 then {X with c:=n}else X
def pj(kind v:Int)(X:be):be:=if kind=3 then {X with v:=v,b:=-1}else if kind=4 then {X with v:=v,c:=-1}else {X with v:=v}
def tj(kind:Int)(s:ByteArray)(S:gD)(X:be):Option (gD×be):=
 if kind=5 then(uW s X).map fun a=>(S,a)
 else if(kind=6∨kind=8)/\fZ s=true then some ({S with bu:=S.bu++[(S.line,(S.code.length:Int),s)]},kr kind (dW s).1 X)
 else if kind=6 then none
 else if kind=0∨kind=1∨kind=2 then(if(dW s).2 then some (S,kr kind (dW s).1 X)else none)
 else if(dW s).2=true/\(kind=3∨kind=4)then some (S,kr kind (dW s).1 X)
 else(yD s).map fun v=>(S,pj kind v (kr kind (dW s).1 X))
def dA(S:gD)(X:be)(B p bx:Nat)(w:World)(e:Ending)(w':World):Prop:=e=.returned (.pointer none)/\dK w' B p bx S/\aq w' bx X/\Below B w w'/\hH w w'
theorem dA.of{S:gD}{X d:be}{B p bx:Nat}{w w':World}(j:dK w B p bx S)(a:aq w bx d)(g:B<=bx)(l:aq w' bx X)(c:Ch (aH bx) w w'):dA S X B p bx w (.returned (.pointer none)) w':=
 ⟨rfl,j.ins a c,l,c.below (Nat.le_of_lt (Nat.lt_of_le_of_lt g a.lt)) (fun b hb=>by have e:b=bx:=hb;omega),hH.fj c (fun k x t f i h=>by have e:k=bx:=i;subst e;exact Or.inr (Or.inl (eM a h)))⟩
theorem ks(s:ByteArray)(a:s.size<=maxLen)(b:Bool)(h:fZ s=b)(w:World):Calls prog 120 #[.string s] w (QB b w):=by rw[<-h];exact yC s a w
theorem uX(kind:Int)(i:kind=6∨kind=8)(s:ByteArray)(am:s.size<=65536)(K:fZ s=true)(B p bx:Nat)(S:gD)(X:be)(w:World)
 (r:aq w bx X) (N:dK w B p bx S) (a9:B<=bx) (hlen:S.bu.length<=1048576):
 Calls prog 124 #[(p,0),kind,.string s,(bx,0)] w
  (dA {S with bu:=S.bu++[(S.line,(S.code.length:Int),s)]} X B p bx w):=by
 obtain⟨U,J,Q,R,T⟩:=info_parts AV;have o:s.size<=maxLen:=by unfold maxLen;omega
 rcases M:dW s with⟨n,b⟩
 have z:=Z (jW s o n b M);have y:=Z (ks s o true K);obtain⟨vc,vl,vn,vw,a⟩:=N;have C:=Z a;have E:=Z r;have al:=a.row.lt;have h:vw.ownBlock≠some p:=bm a.bu a.row (by decide);obtain⟨l,m,I⟩:=au a.code;have v:=Z I;have x:=Z J;have H:B<=w.heap.size:=by have:=r.lt;omega
 have k:Hid (∀(w1:World),Ch ag w w1->oL w1 B p bx vc vl vn vw S/\aq w1 bx X):=Z (fun w1 c=>⟨C.af c,E.ch c id⟩);rcases i with rfl|rfl
 all_goals
  go_in
  go_wp2_with (first|(go_at_call 153;(with_reducible refine(z.out _).mono ?_);rintro e w' ⟨rfl,V,rfl⟩)|(go_at_call 120;(with_reducible refine(y.out _).mono ?_);rintro e w' ⟨rfl,W,rfl⟩))
  obtain⟨w1,q⟩:=nm (w.drewN (V+W));have d:=Z (Ch.dN (D:=ag) q);rw[q];have a:=(k _ d).1;have A:=Z a;have F:=Z (k _ d).2;have O:=d.size;have Y:w1.cell? (p,0)=some (.slice l S.code.length m):=by rw[<-v];exact a.row.cell rfl
  have a0:w1.cell? (p,3)=some vw:=a.row.cell rfl;have a1:w1.cell? (p,4)=some (.int .i64 S.line):=a.row.cell rfl;have G:=a.row.free 3;have g:p<w1.heap.size:=by omega
  have P:=a.bu;have j:=Z O;go_region_law (first|(refine step_append_lies _ (by rfl) _ _ _ (by rfl) B 196 U _ 3 32 underlying187 x Q R T rfl (by omega) vw S.bu.length (S.bu.flatMap oK) (by rfl) ((P.alloc _).drew) ⟨w1.heap.size,0,none⟩ 1 1 [.int .i64 S.line,.int .i64 S.code.length,.string s] (by rfl) (by rfl) (World.news_of_block (cs:=#[.int .i64 S.line,.int .i64 S.code.length,.string s]) (t:=196) (fr:=(0,0)) (heap_alloc_new w1 _)) (by simp[Value.oneCell']) (by omega) (by unfold maxLen;omega) (by omega) (by simp;have:=j.out;omega) (w1.heap.size+1) (by simp) ?_;intro a5 cap w2 L f ab ad;have u:w2.cell? (p,3)=some vw:=(f.cell_far ⟨p,3,none⟩ (by simp;omega) (Ne.symm h)).trans (by simp[go_sem,World.cell?_alloc_past,g,a0]);have av:w2.frozen? (p,3)=false:=(f.frozen_far ⟨p,3,none⟩ (by simp;omega) (Ne.symm h)).trans (by simp[go_sem,World.frozen?_alloc_past,g,G]);have ap:w2.cell? (p,0)=some (.slice l S.code.length m):=(f.cell_far ⟨p,0,none⟩ (by simp;omega) (Ne.symm h)).trans (by simp[go_sem,World.cell?_alloc_past,g,Y]);have aP:w2.cell? (p,4)=some (.int .i64 S.line):=(f.cell_far ⟨p,4,none⟩ (by simp;omega) (Ne.symm h)).trans (by simp[go_sem,World.cell?_alloc_past,g,a1])))
  all_goals
   go_wp2
   go_ret;obtain⟨a2,a3,a4,u⟩:=A.want F (by have:=j.out;omega) (S.line,(S.code.length:Int),s) L (ao (cY f));exact⟨rfl,a2,a3,(d.below H (fun _ hb=>False.elim hb)).trans a4,(hH.fj d (fun _ _ _ _ i _=>False.elim i)).trans u⟩
theorem yG(kind:Int)(T:0<=kind/\kind<=8)(s:ByteArray)(C:s.size<=65536)(B p bx:Nat)(S z:gD)(X t:be)(w:World)(h:tj kind s S X=some (z,t))
 (d:aq w bx X) (x:dK w B p bx S) (f:B<=bx) (hlen:S.bu.length<=1048576) (r:p≠bx):
 Calls prog 124 #[(p,0),kind,.string s,(bx,0)] w (dA z t B p bx w):=by
 have k:s.size<=maxLen:=by unfold maxLen;omega
 by_cases q:(kind=6∨kind=8)/\fZ s=true
 ·unfold tj at h
  rw[if_neg (by omega),if_pos q]at h;have e:kr kind (dW s).1 X=X:=by unfold kr;rw[if_neg (by omega),if_neg (by omega),if_neg (by omega)]
  rw[e]at h;obtain⟨rfl,rfl⟩:=Prod.mk.inj (Option.some.inj h);exact uX kind q.1 s C q.2 B p bx S X w d x f hlen
 ·have j:=Z x
  have a:=Z d;have f1:=d.free 1;have f2:=d.free 2;have f3:=d.free 3;have f4:=d.free 4;have O:w.cell? (bx,1)=some (.int .i64 X.a):=d.cell rfl;have P:w.cell? (bx,2)=some (.int .i64 X.b):=d.cell rfl;have Q:w.cell? (bx,3)=some (.int .i64 X.c):=d.cell rfl;have R:w.cell? (bx,4)=some (.int .u64 X.v):=d.cell rfl;obtain⟨vc,vl,vn,vw,G⟩:=x;have g:w.cell? (p,4)=some (.int .i64 S.line):=G.row.cell rfl;rcases A:dW s with⟨n,b⟩
  have i:=Z (jW s k n b A);have L:kind=6∨kind=8->fZ s=false:=fun u=>by
   cases J:fZ s with
   |false=>rfl
   |true=>exact absurd ⟨u,J⟩ q
  have y:=Z (fun u w=>ks s k false (L u) w);have K:kind=0∨kind=1∨kind=2∨kind=3∨kind=4∨kind=5∨kind=6∨kind=7∨kind=8:=by omega
  unfold tj at h;rw[A]at h;rcases K with rfl|rfl|rfl|rfl|rfl|rfl|rfl|rfl|rfl
  all_goals(first|rw[if_neg (by decide),if_neg q]at h|skip)
  all_goals clear q
  ·cases b<;>simp[kr,pj]at h
   obtain⟨rfl,rfl⟩:=h;go_in
   go_wp2_with (go_at_call 153;(with_reducible refine(i.out _).mono ?_);rintro e w' ⟨rfl,l,rfl⟩)
   go_ret;refine dA.of j.out a.out f ?_ ay
   (repeat(first|with_reducible refine aq.drewN ?_ _|with_reducible refine aq.drew ?_))
   refine aq.Gc (X:=X) ?_ n
   (repeat(first|with_reducible refine aq.drewN ?_ _|with_reducible refine aq.drew ?_))
   exact a
  ·cases b<;>simp[kr,pj]at h
   obtain⟨rfl,rfl⟩:=h;go_in
   go_wp2_with (go_at_call 153;(with_reducible refine(i.out _).mono ?_);rintro e w' ⟨rfl,l,rfl⟩)
   go_ret;refine dA.of j.out a.out f ?_ ay
   (repeat(first|with_reducible refine aq.drewN ?_ _|with_reducible refine aq.drew ?_))
   refine aq.oJ (X:=X) ?_ n
   (repeat(first|with_reducible refine aq.drewN ?_ _|with_reducible refine aq.drew ?_))
   exact a
  ·cases b<;>simp[kr,pj]at h
   obtain⟨rfl,rfl⟩:=h;go_in
   go_wp2_with (go_at_call 153;(with_reducible refine(i.out _).mono ?_);rintro e w' ⟨rfl,l,rfl⟩)
   go_ret;refine dA.of j.out a.out f ?_ ay
   (repeat(first|with_reducible refine aq.drewN ?_ _|with_reducible refine aq.drew ?_))
   refine aq.wE (X:=X) ?_ n
   (repeat(first|with_reducible refine aq.drewN ?_ _|with_reducible refine aq.drew ?_))
   exact a
  ·cases b
   ·simp[kr,pj]at h
    obtain⟨v,o,rfl,rfl⟩:=h;have m:=Z (c' s k v o p S.line);go_in
    go_wp2_with (first|(go_at_call 153;(with_reducible refine(i.out _).mono ?_);rintro e w' ⟨rfl,l,rfl⟩)|(go_at_call 157;(with_reducible refine(m.out _ ?_).mono ?_);(first|exact g|simp[go_sem,r,g]);rintro e w' ⟨rfl,k,rfl⟩))
    go_ret;refine dA.of j.out a.out f ?_ ay
    (repeat(first|with_reducible refine aq.drewN ?_ _|with_reducible refine aq.drew ?_))
    refine aq.oJ (X:={X with b:=n,v:=v}) ?_ (-1)
    (repeat(first|with_reducible refine aq.drewN ?_ _|with_reducible refine aq.drew ?_))
    refine aq.mU (X:={X with b:=n}) ?_ v
    (repeat(first|with_reducible refine aq.drewN ?_ _|with_reducible refine aq.drew ?_))
    refine aq.oJ (X:=X) ?_ n
    (repeat(first|with_reducible refine aq.drewN ?_ _|with_reducible refine aq.drew ?_))
    exact a
   ·simp[kr,pj]at h
    obtain⟨rfl,rfl⟩:=h;go_in
    go_wp2_with (go_at_call 153;(with_reducible refine(i.out _).mono ?_);rintro e w' ⟨rfl,l,rfl⟩)
    go_ret;refine dA.of j.out a.out f ?_ ay
    (repeat(first|with_reducible refine aq.drewN ?_ _|with_reducible refine aq.drew ?_))
    refine aq.oJ (X:=X) ?_ n
    (repeat(first|with_reducible refine aq.drewN ?_ _|with_reducible refine aq.drew ?_))
    exact a
  ·cases b
   ·simp[kr,pj]at h
    obtain⟨v,o,rfl,rfl⟩:=h;have m:=Z (c' s k v o p S.line);go_in
    go_wp2_with (first|(go_at_call 153;(with_reducible refine(i.out _).mono ?_);rintro e w' ⟨rfl,l,rfl⟩)|(go_at_call 157;(with_reducible refine(m.out _ ?_).mono ?_);(first|exact g|simp[go_sem,r,g]);rintro e w' ⟨rfl,k,rfl⟩))
    go_ret;refine dA.of j.out a.out f ?_ ay
    (repeat(first|with_reducible refine aq.drewN ?_ _|with_reducible refine aq.drew ?_))
    refine aq.wE (X:={X with c:=n,v:=v}) ?_ (-1)
    (repeat(first|with_reducible refine aq.drewN ?_ _|with_reducible refine aq.drew ?_))
    refine aq.mU (X:={X with c:=n}) ?_ v
    (repeat(first|with_reducible refine aq.drewN ?_ _|with_reducible refine aq.drew ?_))
    refine aq.wE (X:=X) ?_ n
    (repeat(first|with_reducible refine aq.drewN ?_ _|with_reducible refine aq.drew ?_))
    exact a
   ·simp[kr,pj]at h
    obtain⟨rfl,rfl⟩:=h;go_in
    go_wp2_with (go_at_call 153;(with_reducible refine(i.out _).mono ?_);rintro e w' ⟨rfl,l,rfl⟩)
    go_ret;refine dA.of j.out a.out f ?_ ay
    (repeat(first|with_reducible refine aq.drewN ?_ _|with_reducible refine aq.drew ?_))
    refine aq.wE (X:=X) ?_ n
    (repeat(first|with_reducible refine aq.drewN ?_ _|with_reducible refine aq.drew ?_))
    exact a
  ·simp at h
   obtain⟨H,rfl⟩:=h;have D:=Z (fun w g d=>yE s C X t H p bx S.line w g d);go_in
   go_wp2_with (first|(go_at_call 153;(with_reducible refine(i.out _).mono ?_);rintro e w' ⟨rfl,l,rfl⟩)|(go_at_call 156;(with_reducible refine(D.out _ ?_ ?_).mono ?_);exact g;exact a.out.drewN _;rintro e w' ⟨rfl,M,I⟩;have F:=Z M;have E:=Z I))
   go_ret;exact dA.of j a f F (Ch.trans ay E)
  ·simp at h
  ·simp[kr,pj]at h
   obtain⟨v,o,rfl,rfl⟩:=h;have m:=Z (c' s k v o p S.line);cases b
   all_goals
    go_in
    go_wp2_with (first|(go_at_call 153;(with_reducible refine(i.out _).mono ?_);rintro e w' ⟨rfl,l,rfl⟩)|(go_at_call 120;(with_reducible refine(y.out (by decide) _).mono ?_);rintro e w' ⟨rfl,N,rfl⟩)|(go_at_call 157;(with_reducible refine(m.out _ ?_).mono ?_);(first|exact g|simp[go_sem,r,g]);rintro e w' ⟨rfl,k,rfl⟩))
    go_ret;refine dA.of j.out a.out f ?_ ay
    (repeat(first|with_reducible refine aq.drewN ?_ _|with_reducible refine aq.drew ?_))
    refine aq.mU (X:=X) ?_ v
    (repeat(first|with_reducible refine aq.drewN ?_ _|with_reducible refine aq.drew ?_))
    exact a
  ·simp[kr,pj]at h
   obtain⟨v,o,rfl,rfl⟩:=h;have m:=Z (c' s k v o p S.line);cases b
   all_goals
    go_in
    go_wp2_with (first|(go_at_call 153;(with_reducible refine(i.out _).mono ?_);rintro e w' ⟨rfl,l,rfl⟩)|(go_at_call 120;(with_reducible refine(y.out (by decide) _).mono ?_);rintro e w' ⟨rfl,N,rfl⟩)|(go_at_call 157;(with_reducible refine(m.out _ ?_).mono ?_);(first|exact g|simp[go_sem,r,g]);rintro e w' ⟨rfl,k,rfl⟩))
    go_ret;refine dA.of j.out a.out f ?_ ay
    (repeat(first|with_reducible refine aq.drewN ?_ _|with_reducible refine aq.drew ?_))
    refine aq.mU (X:=X) ?_ v
    (repeat(first|with_reducible refine aq.drewN ?_ _|with_reducible refine aq.drew ?_))
    exact a
variable{w2:World}{l:Value}
theorem CW:(prog.info? 9).map (fun i=>(i.zero,i.size,i.bytes))=some (some (.string ByteArray.empty),1,16):=by kernel_rfl
def tk(l:List UInt8):ByteArray:=⟨l.toArray⟩
theorem tn(l:List UInt8):(tk l).size=l.length:=by simp[tk,ByteArray.size]
theorem jA(l:List UInt8):(tk l).data.toList=l:=by simp[tk]
def pn(w:List UInt8):List ByteArray:=if w=[]then []else [tk w]
def lj:List UInt8->List UInt8->List ByteArray
 |[],w=>pn w
 |c::cs,w=>if(c.toNat:Int)≠32/\(c.toNat:Int)≠59 then lj cs (w++[c])else if(c.toNat:Int)=59 then pn w else pn w++lj cs []
def e7(s:ByteArray):List ByteArray:=lj s.data.toList []
def iw(a:List ByteArray)(w:World)(e:Ending)(w':World):Prop:=
 ∃v,e=.returned v/\w'.ownsRow w.heap.size 9 1 v a.length (a.map Value.string)/\Below w.heap.size w w'
theorem iw.mk{a:List ByteArray}{w':World}{v:Value}(acc:List ByteArray)(h:a=acc)(b:w'.ownsRow w.heap.size 9 1 v acc.length (acc.map Value.string))(hb:Below w.heap.size w w'):iw a w (.returned v) w':=by
 subst h;exact⟨v,rfl,b,hb⟩
theorem l9{wr:World}{o:Obj}{n:Nat}{xs:List Value}(h:Below B w wr)(d:wr.ownsRow B 9 1 l n xs)(b:(wr.alloc o).grownBy w2 l.ownBlock)(a:B<=wr.heap.size:=by omega):Below B w w2:=
 (h.alloc a o).grown b (by simp;omega) (fun k c=>(d.lt k c).1)
theorem q'{acc:List ByteArray}{x:ByteArray}(h:w2.ownsRow B 9 1 l (acc.length+1) (acc.map Value.string++[.string x])):w2.ownsRow B 9 1 l (acc++[x]).length ((acc++[x]).map Value.string):=by
 simpa using h
def AW(s:ByteArray)(w:World)(l wv i:Value)(wr:World):Prop:=
 ∃(k:Nat) (a:List UInt8) (acc:List ByteArray),k<=s.size+1/\i=.int .i64 k/\wv=.string (tk a)/\a.length<=k/\acc.length<=k/\wr.ownsRow w.heap.size 9 1 l acc.length (acc.map Value.string)/\Below w.heap.size w wr/\((k<=s.size/\acc++lj (s.data.toList.drop k) a=e7 s)∨(s.size<k/\acc=e7 s))
theorem oM(s:ByteArray)(a0:s.size<=65536)(w:World):Calls prog 78 #[.string s] w (iw (e7 s) w):=by
 obtain⟨N,I,K,L,M⟩:=info_parts CW;go_wp2
 go_loopw [3,4,5] (fun l wv i wr=>AW s w l wv i wr) (fun _ _ i _=>s.size+1-(intOf i).toNat)
 case atStart=>exact⟨0,[],[],by omega,rfl,rfl,by simp,by simp,World.ownsRow_nil _ _ _ _,Below.refl _ _,Or.inl ⟨by omega,rfl⟩⟩
 case round=>
  obtain⟨k,c,acc,Y,rfl,rfl,a2,X,p,r,A⟩:=hrel;have a1:=r.size;rcases A with⟨T,A⟩|⟨T,A⟩
  ·have y:=Z A
   have V:(tk c).size=c.length:=tn c;have W:=Z V;have J:(tk c).size<=65536:=(by omega);by_cases U:k<s.size
   ·have q:Hid (s.data.toList.drop k=s[k]::s.data.toList.drop (k+1)):=drop_cons s k U
    have Q:Hid (tk c++s.extract k (k+1)=tk (c++[s[k]])):=by
     show _=_
     have e:(s.extract k (k+1)).data.toList=[s[k]]:=by
      rw[ByteArray.data_extract,Array.toList_extract,List.extract_eq_take_drop,show k+1-k=1 from by omega,q];rfl
     apply ByteArray.ext;apply Array.ext';rw[ByteArray.data_append,Array.toList_append,e,jA,jA]
    by_cases H:(s[k].toNat:Int)=32
    ·obtain⟨t,d⟩:=nm (tk c)
     rw[d]at J⊢;have O:=Z d;have P:((s[k].toNat:Int) !=32)=false:=(by simpa using H);have S:((s[k].toNat:Int)==59)=false:=(by rw[H];rfl);by_cases g:c=[]
     ·have n:t.toList=[]:=by rw[<-d,g,ByteArray.toList_eq];rfl
      have C:(!t.toList.isEmpty)=false:=(by rw[n];rfl);have m:Hid (acc++lj (s.data.toList.drop (k+1)) []=e7 s):=by
       show _=_
       rw[<-y,q];rw[lj,if_neg (by omega),if_neg (by omega),g];rfl
      go_wp2
      go_roundw
      case rel=>exact⟨k+1,[],acc,by omega,by go_num,rfl,by simp,by omega,p,r,Or.inl ⟨by omega,m⟩⟩
      case measure=>simp[intOf];omega
     ·have n:¬t.toList=[]:=by
       intro o;have v:(tk c).toList=[]:=(by rw[d];exact o);rw[ByteArray.toList_eq]at v;exact g (by rw[<-jA c];exact v)
      have C:(!t.toList.isEmpty)=true:=by
       cases o:t.toList with
       |nil=>exact absurd o n
       |cons a b=>rfl
      have m:Hid ((acc++[t])++lj (s.data.toList.drop (k+1)) []=e7 s):=by
       show _=_
       rw[<-y,q];rw[lj,if_neg (by omega),if_neg (by omega),pn,if_neg g,d,List.append_assoc]
      go_wp2_with (at_builtin;refine wpList_append_own _ rfl _ _ 190 rfl w.heap.size 9 N (.string ByteArray.empty) 1 16 underlying190 I K L M rfl (by decide) _ _ _ rfl (p.alloc _) ⟨wr.heap.size,0,none⟩ 1 1 [.string t] rfl rfl ?_ ?_ ?_ ?_ ?_ ?_)
      ·intro j u f
       match j,f with
       |0,f=>simp at f;subst f;simp[Addr.add]
      ·first|rfl|(intro u x;simp at x;subst x;rfl)
      ·unfold maxLen;omega
      ·omega
      ·simp;omega
      intro v' w2 F E _;have D:=l9 r p E;have G:=q' F;go_wp2
      go_roundw
      case rel=>exact⟨k+1,[],acc++[t],by omega,by go_num,rfl,by simp,by simp;try omega,G,D,Or.inl ⟨by omega,m⟩⟩
      case measure=>simp[intOf];omega
    ·by_cases z:(s[k].toNat:Int)=59
     ·obtain⟨t,d⟩:=nm (tk c)
      rw[d]at J⊢;have O:=Z d;have P:((s[k].toNat:Int) !=32)=true:=(by rw[z];rfl);have R:((s[k].toNat:Int) !=59)=false:=(by rw[z];rfl);have S:((s[k].toNat:Int)==59)=true:=(by rw[z];rfl);by_cases g:c=[]
      ·have n:t.toList=[]:=by rw[<-d,g,ByteArray.toList_eq];rfl
       have C:(!t.toList.isEmpty)=false:=(by rw[n];rfl);have m:Hid (acc++[]=e7 s):=by
        show _=_
        rw[<-y,q];rw[lj,if_neg (by omega),if_pos z,g];rfl
       go_wp2
       go_ret;exact iw.mk _ (by have h:=m.out;rw[List.append_nil]at h;exact h.symm) p r
      ·have n:¬t.toList=[]:=by
        intro o;have v:(tk c).toList=[]:=(by rw[d];exact o);rw[ByteArray.toList_eq]at v;exact g (by rw[<-jA c];exact v)
       have C:(!t.toList.isEmpty)=true:=by
        cases o:t.toList with
        |nil=>exact absurd o n
        |cons a b=>rfl
       have m:Hid ((acc++[t])++[]=e7 s):=by
        show _=_
        rw[<-y,q];rw[lj,if_neg (by omega),if_pos z,pn,if_neg g,d,List.append_nil]
       go_wp2_with (at_builtin;refine wpList_append_own _ rfl _ _ 190 rfl w.heap.size 9 N (.string ByteArray.empty) 1 16 underlying190 I K L M rfl (by decide) _ _ _ rfl (p.alloc _) ⟨wr.heap.size,0,none⟩ 1 1 [.string t] rfl rfl ?_ ?_ ?_ ?_ ?_ ?_)
       ·intro j u f
        match j,f with
        |0,f=>simp at f;subst f;simp[Addr.add]
       ·first|rfl|(intro u x;simp at x;subst x;rfl)
       ·unfold maxLen;omega
       ·omega
       ·simp;omega
       intro v' w2 F E _;have D:=l9 r p E;have G:=q' F;go_wp2
       go_ret;exact iw.mk _ (by have h:=m.out;rw[List.append_nil]at h;exact h.symm) G D
     ·have P:((s[k].toNat:Int) !=32)=true:=by simpa using H
      have R:((s[k].toNat:Int) !=59)=true:=(by simpa using z);have m:Hid (acc++lj (s.data.toList.drop (k+1)) (c++[s[k]])=e7 s):=by
       show _=_
       rw[<-y,q,lj,if_pos ⟨H,z⟩]
      go_wp2
      go_roundw
      case rel=>exact⟨k+1,c++[s[k]],acc,by omega,by go_num,congrArg Value.string Q,by simp;omega,by omega,p,r,Or.inl ⟨by omega,m⟩⟩
      case measure=>simp[intOf];omega
   ·have q:Hid (s.data.toList.drop k=[]):=iv s k (by omega)
    obtain⟨t,d⟩:=nm (tk c);rw[d]at J⊢;have O:=Z d;by_cases g:c=[]
    ·have n:t.toList=[]:=by rw[<-d,g,ByteArray.toList_eq];rfl
     have C:(!t.toList.isEmpty)=false:=(by rw[n];rfl);have m:Hid (acc++[]=e7 s):=by
      show _=_
      rw[<-y,q];rw[lj,g];rfl
     go_wp2
     go_roundw
     case rel=>exact⟨k+1,[],acc,by omega,by go_num,rfl,by simp,by omega,p,r,Or.inr ⟨by omega,by have h:=m.out;rw[List.append_nil]at h;exact h⟩⟩
     case measure=>simp[intOf];omega
    ·have n:¬t.toList=[]:=by
      intro o;have v:(tk c).toList=[]:=(by rw[d];exact o);rw[ByteArray.toList_eq]at v;exact g (by rw[<-jA c];exact v)
     have C:(!t.toList.isEmpty)=true:=by
      cases o:t.toList with
      |nil=>exact absurd o n
      |cons a b=>rfl
     have m:Hid ((acc++[t])++[]=e7 s):=by
      show _=_
      rw[<-y,q];rw[lj,pn,if_neg g,d,List.append_nil]
     go_wp2_with (at_builtin;refine wpList_append_own _ rfl _ _ 190 rfl w.heap.size 9 N (.string ByteArray.empty) 1 16 underlying190 I K L M rfl (by decide) _ _ _ rfl (p.alloc _) ⟨wr.heap.size,0,none⟩ 1 1 [.string t] rfl rfl ?_ ?_ ?_ ?_ ?_ ?_)
     ·intro j u f
      match j,f with
      |0,f=>simp at f;subst f;simp[Addr.add]
     ·first|rfl|(intro u x;simp at x;subst x;rfl)
     ·unfold maxLen;omega
     ·omega
     ·simp;omega
     intro v' w2 F E _;have D:=l9 r p E;have G:=q' F;go_wp2
     go_roundw
     case rel=>exact⟨k+1,[],acc++[t],by omega,by go_num,rfl,by simp,by simp;omega,G,D,Or.inr ⟨by omega,by have h:=m.out;rw[List.append_nil]at h;exact h⟩⟩
     case measure=>simp[intOf];omega
  ·go_wp2
   go_ret;exact iw.mk _ A.symm p r
variable{w0:World}{acc:List Int}
theorem np{b i:Nat}{c:Array Value}{t:TypeId}(h:w.heap[b]?=some (.cells c t (0,0))):w.cell? (b,i)=c[i]?:=cell_of_row w b i _ _ _ h
theorem lk:(prog.info? 3).map (fun i=>(i.zero,i.size,i.bytes))=some (some (.int .i64 0),1,8):=by kernel_rfl
abbrev GH:=Bool×Bool×Bool×Bool×Bool×Bool×Bool×Bool
def AX(op:Int):GH:=
 if op=1 then(true,false,false,true,false,false,false,true)
 else if op=2∨op=23∨op=49∨op=50∨op=47∨op=39∨op=54 then(true,true,false,false,false,false,false,true)
 else if op=3∨op=4∨op=5∨op=6∨op=7∨op=8∨op=9∨op=10∨op=11 then(true,true,true,true,false,true,false,true)
 else if op=12∨op=15 then(false,false,false,true,false,false,true,true)
 else if op=13∨op=14 then(true,false,false,true,false,false,true,true)
 else if op=16∨op=33∨op=55∨op=56∨op=58 then(false,false,false,false,false,false,false,true)
 else if op=17∨op=18∨op=19∨op=20∨op=31 then(true,true,false,true,true,false,false,true)
 else if op=21∨op=32 then(true,true,true,true,true,false,false,true)
 else if op=22 then(false,false,false,true,false,false,false,true)
 else if op=43 then(true,true,false,true,true,false,false,true)
 else if op=45 then(true,true,false,true,false,false,false,true)
 else if op=24∨op=25∨op=26∨op=27∨op=48 then(true,true,true,false,false,false,false,true)
 else if op=28∨op=29∨op=30∨op=34∨op=35∨op=36∨op=37∨op=38∨op=40∨op=41∨op=42∨op=44∨op=46∨op=51∨op=52∨op=53∨op=57 then(true,false,false,false,false,false,false,true)
 else(false,false,false,false,false,false,false,false)
def HA(p:GH):Value:=.agg #[.bool p.1,.bool p.2.1,.bool p.2.2.1,.bool p.2.2.2.1,.bool p.2.2.2.2.1,.bool p.2.2.2.2.2.1,.bool p.2.2.2.2.2.2.1,.bool p.2.2.2.2.2.2.2]
def wI(p:GH)(w:World)(e:Ending)(w':World):Prop:=e=.returned (HA p)/\Below w.heap.size w w'
theorem wI.mk{p:GH}{a b c d x y z i:Bool}(h:p=(a,b,c,d,x,y,z,i))(hb:Below w.heap.size w w'):wI p w (.returned (.agg #[.bool a,.bool b,.bool c,.bool d,.bool x,.bool y,.bool z,.bool i])) w':=by subst h;exact⟨rfl,hb⟩
set_option maxHeartbeats 16000000 in
theorem EW(op:Int)(w:World):Calls prog 154 #[op] w (wI (AX op) w):=by
 go_wp2
 all_goals
  simp only[beq_iff_eq,beq_eq_false_iff_ne,ne_eq]at*;simp[bodyPost,results,Tryz.results154,go_sem];refine wI.mk ?_ ?_
  ·unfold AX
   repeat first
    |rfl
    |rw[if_pos (by omega)]
    |rw[if_neg (by omega)]
  ·repeat first
    |exact Below.refl _ _
    |refine Below.alloc ?_ (by simp) _
    |refine Below.setCell ?_ (by simp) _
def oN(op:Int):Bool:=decide (op=17∨op=18∨op=19∨op=20∨op=31∨op=21∨op=32)
theorem uY(op:Int)(w:World):Calls prog 155 #[op] w (kz (oN op) w):=by
 go_wp2
 all_goals
  go_ret;simp only[beq_iff_eq,beq_eq_false_iff_ne,ne_eq]at*;refine kz.mk ?_;unfold oN
  first
   |exact decide_eq_true (by omega)
   |exact decide_eq_false (by omega)
def b':List ByteArray:=[⟨#[115,101,116]⟩,⟨#[109,111,118]⟩,⟨#[97,100,100]⟩,⟨#[115,117,98]⟩,⟨#[97,110,100]⟩,⟨#[111,114]⟩,⟨#[120,111,114]⟩,⟨#[115,104,108]⟩,⟨#[115,104,114]⟩,⟨#[101,113]⟩,⟨#[108,116]⟩,⟨#[106,109,112]⟩,⟨#[106,122]⟩,⟨#[106,110,122]⟩,⟨#[106,115,114]⟩,⟨#[114,101,116]⟩,⟨#[108,100]⟩,⟨#[115,116]⟩,⟨#[115,119,112]⟩,⟨#[102,97,100]⟩,⟨#[99,97,115]⟩,⟨#[99,97,108,108]⟩,⟨#[104,115,104]⟩,⟨#[113,112,116]⟩,⟨#[113,116,107]⟩,⟨#[113,109,118]⟩,⟨#[113,104,115]⟩,⟨#[115,108,112]⟩,⟨#[104,110,100]⟩,⟨#[112,105,107]⟩,⟨#[108,97,121]⟩,⟨#[116,97,107]⟩,⟨#[105,110,106]⟩,⟨#[105,106,116]⟩,⟨#[114,117,110]⟩,⟨#[112,114,107]⟩,⟨#[115,108,102]⟩,⟨#[119,114,107]⟩,⟨#[119,107,100]⟩,⟨#[119,107,110]⟩,⟨#[110,111,119]⟩,⟨#[100,114,119]⟩,⟨#[103,101,116]⟩,⟨#[102,114,101]⟩,⟨#[111,98,106]⟩,⟨#[100,101,108]⟩,⟨#[99,107,112]⟩,⟨#[116,110,119]⟩,⟨#[116,115,116]⟩,⟨#[116,104,109]⟩,⟨#[116,106,110]⟩,⟨#[116,100,116]⟩,⟨#[116,101,120]⟩,⟨#[116,114,112]⟩,⟨#[101,110,100]⟩,⟨#[121,108,100]⟩,⟨#[99,98,107]⟩,⟨#[102,105,110]⟩]
theorem uZ(w:World):Calls prog 122 #[] w fun e w'=>e=.returned (.slice (some (w.heap.size,0)) 58 58)/\Row w' w.heap.size 9 (b'.map Value.string)/\Ch ag w w':=by
 go_wp2
 go_ret;exact⟨rfl,Row.new w (b'.map Value.string).toArray _,ay⟩
def gE(op:Int):List Int:=
 if op=1 then [0,8]else if op=12∨op=15 then [6]else if op=13∨op=14 then [0,6]else if op=22 then [7]else if op=43 then [0,3]else if op=45 then [0,1,7]
 else(if(AX op).1 then [0]else [])++(if oN op then [5]else if(AX op).2.1 then [1]else [])++(if(AX op).2.2.2.2.2.1 then [4]else if(AX op).2.2.1 then [2]else [])
def CX(l:List Int)(w:World)(e:Ending)(w':World):Prop:=∃v,e=.returned v/\w'.ownsRow w.heap.size 3 1 v l.length (l.map (Value.int .i64))/\Below w.heap.size w w'
theorem CX.lit{l:List Int}(a:n=l.length)(b:l.length<=10):CX l w (.returned (.slice (some (w.heap.size,0)) n n)) (w.alloc (.cells (l.map (Value.int .i64)).toArray 3)):=by
 subst a;refine⟨_,rfl,⟨by simp,Or.inr ⟨w.heap.size,l.length,_,rfl,Nat.le_refl _,hU,Nat.le_refl _,?_,by simp,?_⟩⟩,(Below.refl _ _).alloc (Nat.le_refl _) _⟩
 ·unfold maxLen;omega
 ·rw[List.take_of_length_le (by simp)]
theorem dU{d:Nat}{e:TypeId}{size:Nat}{xs:List Value}(h:w.ownsRow B e size v n xs)(f:d<=B):w.ownsRow d e size v n xs:=
 ⟨h.1,h.2.elim Or.inl fun⟨g,cap,cur,a,b,c⟩=>Or.inr ⟨g,cap,cur,a,Nat.le_trans f b,c⟩⟩
def ra(l:List Int):List Value:=l.map (Value.int .i64)
structure ix(B:Nat)(w0 w:World)(v:Value)(acc:List Int):Prop where
 own:w.ownsRow B 3 1 v acc.length (ra acc)
 below:Below B w0 w
theorem ix.keep(h:ix B w0 w v acc)(hb:Below w.heap.size w w')(a:B<=w.heap.size):ix B w0 w' v acc:=
 ⟨h.own.kept (row:=none) ⟨hb.os,hb.tape,hb.output,hb.size,fun k b _=>hb.block k b⟩ (by cases v.ownBlock<;>simp),h.below.trans (hb.mono a)⟩
theorem ln{ops:Array Oper}{rest:List Oper}{o:Oper}{a:Act}{Q:Exit->Act->World->Prop}(p:o.guard=none)(f x:Operand)
 (s:o.op=.call {callee:=.builtin .append,args:=#[f,x],argTypes:=#[45,45]}) (y:a.eval f=v) (hb:ix B w0 w v acc) (c:Int) (g:Nat) (C:a.eval x=.slice (some (g,0)) 1 1) (m:w.cell? (g,0)=some (.int .i64 c)) (hlen:acc.length+1<=1000000) (i:B<=w.heap.size)
 (h:∀v' w',ix B w0 w' v' (acc++[c])->w.heap.size<=w'.heap.size->wpList prog ops Q rest (a.put o.dst v') w'):wpList prog ops Q (o::rest) a w:=by
 obtain⟨E,q,D,z,l⟩:=info_parts lk;refine wpList_append_own w p f x 45 s B 3 E (.int .i64 0) 1 8 underlying45 q D z l rfl (by decide) v acc.length (ra acc) y hb.own ⟨g,0,none⟩ 1 1 (ra [c]) C rfl ?_ ?_ (by unfold maxLen;omega) (by omega) i ?_
 ·intro j u d
  match j,d with
  |0,d=>
   have:Value.int .i64 c=u:=(by simpa[ra]using d);subst this;simpa[Addr.add]using m
 ·intro u A
  have:u=Value.int .i64 c:=by simpa[ra]using A
  subst this;rfl
 intro v' w' t b _;refine h v' w' ⟨?_,?_⟩ b.size
 ·have e:ra (acc++[c])=ra acc++ra [c]:=by unfold ra;simp
  rw[e,List.length_append];exact t
 ·exact⟨b.os.trans hb.below.os,b.tape.trans hb.below.tape,b.output.trans hb.below.output,Nat.le_trans hb.below.size b.size,fun k r=>(b.block k (by have:=hb.below.size;omega) (fun e=>by have:=(hb.own.lt k e.symm).1;omega)).trans (hb.below.block k r)⟩
theorem u'(op:Int)(w:World):Calls prog 123 #[op] w (CX (gE op) w):=by
 by_cases R:op=1∨op=12∨op=15∨op=13∨op=14∨op=22∨op=43∨op=45
 ·rcases R with rfl|rfl|rfl|rfl|rfl|rfl|rfl|rfl
  all_goals
   go_wp2
   go_ret;exact CX.lit (by decide) (by decide)
 ·have g:op≠1/\op≠12/\op≠15/\op≠13/\op≠14/\op≠22/\op≠43/\op≠45:=by omega
  have N:Hid (gE op=(if(AX op).1 then [0]else [])++(if oN op then [5]else if(AX op).2.1 then [1]else [])++(if(AX op).2.2.2.2.2.1 then [4]else if(AX op).2.2.1 then [2]else [])):=by
   show _=_
   unfold gE;rw[if_neg (by omega),if_neg (by omega),if_neg (by omega),if_neg (by omega),if_neg (by omega),if_neg (by omega)]
  have a1:(op==1)=false:=by rw[beq_eq_false_iff_ne];exact g.1
  have a2:(op==12)=false:=by rw[beq_eq_false_iff_ne];exact g.2.1
  have a3:(op==15)=false:=by rw[beq_eq_false_iff_ne];exact g.2.2.1
  have a4:(op==13)=false:=by rw[beq_eq_false_iff_ne];exact g.2.2.2.1
  have a5:(op==14)=false:=by rw[beq_eq_false_iff_ne];exact g.2.2.2.2.1
  have a9:(op==22)=false:=by rw[beq_eq_false_iff_ne];exact g.2.2.2.2.2.1
  have ab:(op==43)=false:=by rw[beq_eq_false_iff_ne];exact g.2.2.2.2.2.2.1
  have ad:(op==45)=false:=by rw[beq_eq_false_iff_ne];exact g.2.2.2.2.2.2.2
  have E:=Z (fun w=>EW op w);have M:=Z (fun w=>uY op w);obtain⟨r,K⟩:=nm (gE op);obtain⟨G,I⟩:=nm (AX op);obtain⟨H,J⟩:∃G,oN op=G:=⟨_,rfl⟩;rw[K,I,J]at N;rw[K];rw[I]at E;rw[J]at M;clear I K J g R;obtain⟨m,i,o,V,S,l,U,T⟩:=G;go_in
  go_wp2_with fail
  refine(E _).mono ?_;rintro e w1 ⟨rfl,hb⟩;have y:=Z hb;unfold HA;clear a1 a2 a3 a4 a5 a9 ab ad hb;go_upto_region 18 with fail
  obtain⟨C,t⟩:=mn w1.heap.size;obtain⟨W,x⟩:=mn (w1.alloc (.cells #[.bool m,.bool i,.bool o,.bool V,.bool S,.bool l,.bool U,.bool T] 321));rw[<-x,<-t];have A:Hid (Below w.heap.size w W):=by show Below _ w W;rw[x];exact y.alloc y.size _
  have u:W.heap[C]?=some (.cells #[.bool m,.bool i,.bool o,.bool V,.bool S,.bool l,.bool U,.bool T] 321 (0,0)):=by
   rw[x,t];exact hU
  have am:W.heap.size=C+1:=by rw[x,t];simp
  have bi:w.heap.size<=C:=by rw[t];exact y.size
  have al:W.cell? (C,0)=some (.bool m):=np u;have X:Hid (W.cell? (C,1)=some (.bool i)):=np u;have Y:Hid (W.cell? (C,2)=some (.bool o)):=np u;have a0:Hid (W.cell? (C,5)=some (.bool l)):=np u;have D:C+1<=W.heap.size:=by omega
  clear u x t y E am;have P:Hid (ix (C+1) W W (.slice none 0 0) []):=⟨World.ownsRow_nil _ _ _ _,Below.refl _ _⟩;obtain⟨f,k⟩:∃f:List Int,f=if m then [0]else []:=⟨_,rfl⟩
  have O:=Z k;go_upto_if 29 with fail
  go_cut [4] (fun s L=>Hid (ix (C+1) W L s f))
  case first=>
   cases m
   ·have b:Hid (f=[]):=k
    clear k;have a:Hid (ix (C+1) W W (.slice none 0 0) f):=(by show ix _ _ _ _ _;rw[b];exact P);clear b;go_wp2
    go_meet
    first|exact a|exact⟨a,rfl⟩
   ·have b:Hid (f=[]++[0]):=k
    have h:C+1<=W.heap.size:=D;have ap:([]:List Int).length<=10:=(by decide);clear k;go_wp2_with (at_builtin;refine ln rfl _ _ rfl rfl (P.keep ((Below.refl _ _).alloc (Nat.le_refl _) _) h) 0 W.heap.size rfl ?_ (by omega) (by simp;omega) ?_)
    intro v' w' c z;have a:Hid (ix (C+1) W w' v' f):=(by show ix _ _ _ _ _;rw[b];exact c);clear c b;go_wp2
    go_meet
    first|exact a|exact⟨a,rfl⟩
  case rest=>
   clear k al;have p:=Z hcut;have ap:f.length<=1:=(by rw[O];cases m<;>simp);clear hcut;obtain⟨d,Q⟩:∃d:List Int,d=f++(if H then [5]else if i then [1]else []):=⟨_,rfl⟩;have q:=Z Q;clear Q;go_wp2_with fail
   refine(M _).mono ?_;rintro e w' ⟨rfl,rfl⟩;go_upto_if 34 with fail
   go_cut [4] (fun s L=>Hid (ix (C+1) W L s d))
   case first=>
    have av:wc.cell? (C,1)=some (.bool i):=(fa p.below (by omega)).trans X;have h:C+1<=wc.heap.size:=(by have:=p.below.size;have:=D;omega);cases H
    ·cases i
     ·have b:Hid (d=f):=by show _=_;rw[q];simp
      have a:=p.out;rw[<-b]at a;clear b;go_wp2
      go_meet
      first|exact a|exact⟨a,rfl⟩
     ·have b:Hid (d=f++[1]):=q.out
      go_wp2_with (at_builtin;refine ln rfl _ _ rfl rfl (p.keep ((Below.refl _ _).alloc (Nat.le_refl _) _) h) 1 wc.heap.size rfl ?_ (by omega) (by simp;omega) ?_)
      intro v' w' c z;have a:Hid (ix (C+1) W w' v' d):=(by show ix _ _ _ _ _;rw[b];exact c);clear c b;go_wp2
      go_meet
      first|exact a|exact⟨a,rfl⟩
    ·have b:Hid (d=f++[5]):=q.out
     go_wp2_with (at_builtin;refine ln rfl _ _ rfl rfl (p.keep ((Below.refl _ _).alloc (Nat.le_refl _) _) h) 5 wc.heap.size rfl ?_ (by omega) (by simp;omega) ?_)
     intro v' w' c z;have a:Hid (ix (C+1) W w' v' d):=(by show ix _ _ _ _ _;rw[b];exact c);clear c b;go_wp2
     go_meet
     first|exact a|exact⟨a,rfl⟩
   case rest=>
    have j:=Z hcut;have bd:d.length<=2:=(by rw[q];simp;cases H<;>cases i<;>simp<;>omega);clear hcut;have F:Hid (r=d++(if l then [4]else if o then [2]else [])):=by
     show _=_
     rw[N,q,O]
    have bb:wc.cell? (C,5)=some (.bool l):=(fa j.below (by omega)).trans a0;have aP:wc.cell? (C,2)=some (.bool o):=(fa j.below (by omega)).trans Y;have h:C+1<=wc.heap.size:=(by have:=j.below.size;have:=D;omega);cases l
    ·cases o
     ·have b:Hid (r=d):=by show _=_;rw[F];simp
      have a:=j.out;rw[<-b]at a;clear b;go_wp2
      go_ret;exact⟨_,rfl,dU a.own (by omega),A.trans (a.below.mono (by omega))⟩
     ·have b:Hid (r=d++[2]):=F.out
      go_wp2_with (at_builtin;refine ln rfl _ _ rfl rfl (j.keep ((Below.refl _ _).alloc (Nat.le_refl _) _) h) 2 wc.heap.size rfl ?_ (by omega) (by simp;omega) ?_)
      intro v' w' c z;have a:Hid (ix (C+1) W w' v' r):=(by show ix _ _ _ _ _;rw[b];exact c);clear c b;go_wp2
      go_ret;exact⟨_,rfl,dU a.own (by omega),A.trans (a.below.mono (by omega))⟩
    ·have b:Hid (r=d++[4]):=F.out
     go_wp2_with (at_builtin;refine ln rfl _ _ rfl rfl (j.keep ((Below.refl _ _).alloc (Nat.le_refl _) _) h) 4 wc.heap.size rfl ?_ (by omega) (by simp;omega) ?_)
     intro v' w' c z;have a:Hid (ix (C+1) W w' v' r):=(by show ix _ _ _ _ _;rw[b];exact c);clear c b;go_wp2
     go_ret;exact⟨_,rfl,dU a.own (by omega),A.trans (a.below.mono (by omega))⟩
def cV:List (ByteArray×Int)->ByteArray->Option Int
 |[],_=>none
 |b::l,n=>if(b.1.data.toList==n.data.toList)=true then some b.2 else cV l n
def rf:Option Int->Int×Bool
 |none=>(0,false)
 |some v=>(v,true)
theorem iy(b:ByteArray×Int):(ph b).length=2:=rfl
theorem yH(l:List (ByteArray×Int))(n:ByteArray)(v:Value)(B:Nat)(w:World)(h:w.ownsRow B 198 2 v l.length (l.flatMap ph))(F:l.length<=1000000):
 Calls prog 80 #[v,.string n] w (za .i64 (rf (cV l n)) w):=by
 have A:=Z h;obtain⟨a,c,rfl⟩:=au h;have x:Hid (∀(k:Nat) (b:k<l.length),∃g,a=some ⟨g,0,none⟩/\l.length<=c/\w.cell? ⟨g,k*2,none⟩=some (.string l[k].1)/\w.cell? ⟨g,k*2+1,none⟩=some (.int .i64 l[k].2)):=Z (fun k b=>by
  obtain⟨g,cap,K,E,I,p,J,s,_⟩:=aE A (by omega);obtain⟨rfl,rfl⟩:a=some ⟨g,0,none⟩/\c=cap:=by injection E with C _ D;exact⟨C,D⟩
  have u:l[k]?=some l[k]:=List.getElem?_eq_getElem b;refine⟨g,rfl,p,?_,?_⟩
  ·refine s.cell ?_
   rw[List.getElem?_append_left (by rw[aU iy];omega)];exact(bJ iy u (j:=0) (by omega)).trans rfl
  ·refine s.cell ?_
   rw[List.getElem?_append_left (by rw[aU iy];omega)];exact(bJ iy u (j:=1) (by omega)).trans rfl)
 obtain⟨N,q⟩:=mn l.length;have o:=Z q;rw[<-q]at F⊢;have z:Hid (∀k,k<N->∃(b:k<l.length),True):=Z (fun k b=>⟨by rw[<-o];exact b,trivial⟩);go_wp2
 go_loopw [6] (fun i wr=>∃(k m:Nat),k<=N/\i=.int .i64 k/\wr=w.drewN m/\Hid (cV (l.drop k) n=cV l n)) (fun i _=>N-(intOf i).toNat)
 case atStart=>exact⟨0,0,by omega,rfl,rfl,rfl⟩
 case round=>
  obtain⟨k,m,b,rfl,rfl,f⟩:=hrel;by_cases G:k<N
  ·obtain⟨r,_⟩:=z k G
   obtain⟨g,rfl,p,x0,x1⟩:=x k r;have e:Hid (l.drop k=l[k]::l.drop (k+1)):=Z (List.drop_eq_getElem_cons r);obtain⟨y,H⟩:=nm (l[k]);rw[H]at x0 x1 e;have y0:(w.drewN m).cell? ⟨g,k*2,none⟩=some (.string y.1):=x0;have L:(w.drewN m).cell? ⟨g,k*2+1,none⟩=some (.int .i64 y.2):=x1;rw[<-o]at p;cases t:(y.1.toList==n.toList)with
   |true=>
    have d:Hid (cV l n=some y.2):=Z (by
     rw[<-f,e,cV,if_pos (by rw[<-ByteArray.toList_eq,<-ByteArray.toList_eq];exact t)])
    go_wp2
    go_ret2;exact⟨by rw[d];rfl,m,rfl⟩
   |false=>
    have d:Hid (cV (l.drop (k+1)) n=cV l n):=Z (by
     rw[<-f,e,cV,if_neg (by rw[<-ByteArray.toList_eq,<-ByteArray.toList_eq,t];decide)])
    go_wp2
    go_roundw
    case rel=>exact⟨k+1,m,by omega,by go_num,rfl,d⟩
    case measure=>simp[intOf];omega
  ·have d:Hid (cV l n=none):=Z (by
    rw[<-f,List.drop_of_length_le (by have:=o.out;omega)];rfl)
   go_wp2
   go_ret2;exact⟨by rw[d];rfl,m,rfl⟩
variable{g:Nat}{v':Value}
theorem CY:(prog.info? 198).map (fun i=>(i.zero,i.size,i.bytes))=some (some (.agg #[.string ByteArray.empty,.int .i64 0]),2,24):=by kernel_rfl
theorem oL.EX{S:gD}(h:oL w B p bx vc vl vn vw S)(A:B<=w.heap.size)(y:ByteArray×Int)
 (z:w1.ownsRow B 198 2 v' (S.labels.length+1) (S.labels.flatMap ph++ph y)) (d:w.grownBy w1 vl.ownBlock):
 dK (w1.setCell (p,1) v') B p p {S with labels:=S.labels++[y]}/\Below B w (w1.setCell (p,1) v'):=by
 have c:=kq (p:=p) (j:=1) (u:=v') d;have C:∀{k:Nat} {cs:Array Value} {t:TypeId} {f:Nat×Nat},w.heap[k]?=some (.cells cs t f)->t≠189->t≠198->¬wH p vl k:=fun i a b m=>by
  rcases m with rfl|m
  ·exact a (eM h.row i)
  ·exact bm h.labels i b m
 have D:∀{e:TypeId} {s:Nat} {v:Value} {n:Nat} {xs:List Value},w.ownsRow B e s v n xs->e≠189->e≠198->∀g,v.ownBlock=some g->¬wH p vl g:=fun l a b g d=>by
  obtain⟨_,cs,i⟩:=bW l d;exact C i a b
 have o:Row w1 p 189 [vc,vl,vn,vw,.int .i64 S.line]:=by
  unfold Row;rw[d.block p h.row.lt (fun e=>bm h.labels h.row (by decide) e.symm)];exact h.row
 have x:(w1.setCell (p,1) v').ownsRow B 198 2 v' (S.labels++[y]).length ((S.labels++[y]).flatMap ph):=by
  have:=dT (j:=1) (u:=v') z o (by decide);rw[List.flatMap_append,List.length_append];simpa using this
 have r:Row (w1.setCell (p,1) v') p 189 [vc,v',vn,vw,.int .i64 S.line]:=o.bc _ _ rfl;have q:∀{e:TypeId} {s:Nat} {v:Value} {n:Nat} {xs:List Value},w.ownsRow B e s v n xs->e≠189->e≠198->(w1.setCell (p,1) v').ownsRow B e s v n xs:=fun l a b=>ak l c (D l a b)
 exact⟨⟨vc,v',vn,vw,r,h.hB,q h.code (by decide) (by decide),bm (q h.code (by decide) (by decide)) r (by decide),x,q h.lines (by decide) (by decide),q h.bu (by decide) (by decide)⟩,f' c h.labels h.hB A⟩
theorem oL.CZ{S:gD}(h:oL w B p bx vc vl vn vw S)(A:B<=w.heap.size)(y:Int)
 (z:w1.ownsRow B 3 1 v' (S.lines.length+1) (S.lines.flatMap jz++jz y)) (d:w.grownBy w1 vn.ownBlock):
 dK (w1.setCell (p,2) v') B p p {S with lines:=S.lines++[y]}/\Below B w (w1.setCell (p,2) v'):=by
 have c:=kq (p:=p) (j:=2) (u:=v') d;have C:∀{k:Nat} {cs:Array Value} {t:TypeId} {f:Nat×Nat},w.heap[k]?=some (.cells cs t f)->t≠189->t≠3->¬wH p vn k:=fun i a b m=>by
  rcases m with rfl|m
  ·exact a (eM h.row i)
  ·exact bm h.lines i b m
 have D:∀{e:TypeId} {s:Nat} {v:Value} {n:Nat} {xs:List Value},w.ownsRow B e s v n xs->e≠189->e≠3->∀g,v.ownBlock=some g->¬wH p vn g:=fun l a b g d=>by
  obtain⟨_,cs,i⟩:=bW l d;exact C i a b
 have o:Row w1 p 189 [vc,vl,vn,vw,.int .i64 S.line]:=by
  unfold Row;rw[d.block p h.row.lt (fun e=>bm h.lines h.row (by decide) e.symm)];exact h.row
 have x:(w1.setCell (p,2) v').ownsRow B 3 1 v' (S.lines++[y]).length ((S.lines++[y]).flatMap jz):=by
  have:=dT (j:=2) (u:=v') z o (by decide);rw[List.flatMap_append,List.length_append];simpa using this
 have r:Row (w1.setCell (p,2) v') p 189 [vc,vl,v',vw,.int .i64 S.line]:=o.bc _ _ rfl;have q:∀{e:TypeId} {s:Nat} {v:Value} {n:Nat} {xs:List Value},w.ownsRow B e s v n xs->e≠189->e≠3->(w1.setCell (p,2) v').ownsRow B e s v n xs:=fun l a b=>ak l c (D l a b)
 exact⟨⟨vc,vl,v',vw,r,h.hB,q h.code (by decide) (by decide),bm (q h.code (by decide) (by decide)) r (by decide),q h.labels (by decide) (by decide),x,q h.bu (by decide) (by decide)⟩,f' c h.lines h.hB A⟩
theorem oL.iT{S:gD}(h:oL w B p bx vc vl vn vw S)(A:B<=w.heap.size)(y:be)
 (z:w1.ownsRow B 184 7 v' (S.code.length+1) (S.code.flatMap dn++dn y)) (d:w.grownBy w1 vc.ownBlock):
 dK (w1.setCell (p,0) v') B p p {S with code:=S.code++[y]}/\Below B w (w1.setCell (p,0) v'):=by
 have c:=kq (p:=p) (j:=0) (u:=v') d;have C:∀{k:Nat} {cs:Array Value} {t:TypeId} {f:Nat×Nat},w.heap[k]?=some (.cells cs t f)->t≠189->t≠184->¬wH p vc k:=fun i a b m=>by
  rcases m with rfl|m
  ·exact a (eM h.row i)
  ·exact bm h.code i b m
 have D:∀{e:TypeId} {s:Nat} {v:Value} {n:Nat} {xs:List Value},w.ownsRow B e s v n xs->e≠189->e≠184->∀g,v.ownBlock=some g->¬wH p vc g:=fun l a b g d=>by
  obtain⟨_,cs,i⟩:=bW l d;exact C i a b
 have r:Row w1 p 189 [vc,vl,vn,vw,.int .i64 S.line]:=by
  unfold Row;rw[d.block p h.row.lt (fun e=>bm h.code h.row (by decide) e.symm)];exact h.row
 have o:(w1.setCell (p,0) v').ownsRow B 184 7 v' (S.code++[y]).length ((S.code++[y]).flatMap dn):=by
  have:=dT (j:=0) (u:=v') z r (by decide);rw[List.flatMap_append,List.length_append];simpa using this
 have x:Row (w1.setCell (p,0) v') p 189 [v',vl,vn,vw,.int .i64 S.line]:=r.bc _ _ rfl;have q:∀{e:TypeId} {s:Nat} {v:Value} {n:Nat} {xs:List Value},w.ownsRow B e s v n xs->e≠189->e≠184->(w1.setCell (p,0) v').ownsRow B e s v n xs:=fun l a b=>ak l c (D l a b)
 exact⟨⟨v',vl,vn,vw,x,h.hB,o,bm o x (by decide),q h.labels (by decide) (by decide),q h.lines (by decide) (by decide),q h.bu (by decide) (by decide)⟩,f' c h.code h.hB A⟩
def oO(S:gD)(B p:Nat)(w:World)(e:Ending)(w':World):Prop:=e=.returned (.pointer none)/\dK w' B p p S/\Below B w w'
def eg(w:World)(g:Nat)(l:List ByteArray):Prop:=∃a,Row w g 9 (l.map Value.string++a)
theorem eg.cell{l:List ByteArray}(h:eg w g l){k:Nat}{x:ByteArray}(a:l[k]?=some x):w.cell? (g,k)=some (.string x):=by
 obtain⟨b,h⟩:=h;refine h.cell ?_;rw[List.getElem?_append_left (by rw[List.length_map];exact(List.getElem?_eq_some_iff.1 a).1),List.getElem?_map,a];rfl
theorem eg.af{w':World}{l:List ByteArray}(h:eg w g l)(c:Ch ag w w'):eg w' g l:=by
 obtain⟨a,h⟩:=h;exact⟨a,h.ch c id⟩
theorem hC(l:List (ByteArray×Int))(n:ByteArray)(r:Int×Bool)(b:rf (cV l n)=r)(v:Value)(B:Nat)(w:World)(h:w.ownsRow B 198 2 v l.length (l.flatMap ph))(a:l.length<=1000000):
 Calls prog 80 #[v,.string n] w (za .i64 r w):=by rw[<-b];exact yH l n v B w h a
theorem va(w0 n:ByteArray)(a3:w0.extract 0 (w0.size-1)=n)(cb:1<=w0.size)(cd:w0.size<=65536)(U:b9 w0 (w0.size-1)=58)(g cap B p:Nat)(S:gD)(w:World)(am:eg w g [w0])(ce:1<=cap)(al:dK w B p p S)(O:B<=w.heap.size)
 (a4:fZ n=true) (W:cV S.labels n=none) (y:S.labels.length<=1000000) (bZ:S.lines.length<=1000000):
 Calls prog 79 #[(p,0),.slice (some (g,0)) 1 cap] w (oO {S with labels:=S.labels++[(n,(S.code.length:Int))],lines:=S.lines++[S.line]} B p w):=by
 have p1:w0.size-1<w0.size:=by omega
 have ca:((w0[w0.size-1].toNat:Int)==58)=true:=by rw[cc,beq_iff_eq];exact U
 have t0:w.cell? (g,0)=some (.string w0):=am.cell rfl;have a5:n.size<=maxLen:=by rw[<-a3];unfold maxLen;simp;omega
 have G:=Z (ks n a5 true a4);have C:=Z (fun v w h=>hC S.labels n (0,false) (by rw[W];rfl) v B w h y);obtain⟨vc,vl,vn,vw,a⟩:=al;have q:=Z a;have z:w.cell? (p,1)=some vl:=a.row.cell rfl;have a0:=Z y;have a1:=Z bZ;go_in
 go_wp2_with (first|(go_at_call 80;(with_reducible refine(C.out _ _ ?_).mono ?_);exact q.out.labels;rintro e w' ⟨rfl,c0,rfl⟩)|(go_at_call 120;(with_reducible refine(G.out _).mono ?_);rintro e w' ⟨rfl,c1,rfl⟩))
 obtain⟨w1,x⟩:=nm (w.drewN (c0+c1));have i:=Z (Ch.dN (D:=ag) x);rw[x];have a:=q.af i;have H:=Z a;obtain⟨s,u,V⟩:=au a.code;have A:=Z V;have c2:w1.cell? (p,0)=some (.slice s S.code.length u):=by rw[<-A];exact a.row.cell rfl
 have z:w1.cell? (p,1)=some vl:=a.row.cell rfl;have J:=a.row.free 1;have k:=a.row.lt;have m:vl.ownBlock≠some p:=bm a.labels a.row (by decide);have P:=a.labels;have M:B<=w1.heap.size:=by have:=i.size;omega
 obtain⟨bw,X,bd,bi,bv⟩:=info_parts CY;have E:=Z X;have ch:=a0.out;go_cut [] (fun wc=>dK wc B p p {S with labels:=S.labels++[(n,(S.code.length:Int))]}/\Below B w1 wc)
 case first=>
  go_region_law (first|(refine step_append_lies _ (by rfl) _ _ _ (by rfl) B 198 bw _ 2 24 underlying93 E bd bi bv rfl (by omega) vl S.labels.length (S.labels.flatMap ph) (by rfl) ((P.alloc _).drew) ⟨w1.heap.size,0,none⟩ 1 1 [.string n,.int .i64 S.code.length] (by rfl) (by rfl) (World.news_of_block (cs:=#[.string n,.int .i64 S.code.length]) (t:=198) (fr:=(0,0)) (heap_alloc_new w1 _)) (by simp[Value.oneCell']) (by omega) (by unfold maxLen;omega) (by omega) (by simp;omega) (w1.heap.size+1) (by simp) ?_;intro L I w2 a9 c R a2;have c8:w2.cell? (p,1)=some vl:=(c.cell_far ⟨p,1,none⟩ (by simp;omega) (Ne.symm m)).trans (by simp[go_sem,World.cell?_alloc_past,k,z]);have c9:w2.frozen? (p,1)=false:=(c.frozen_far ⟨p,1,none⟩ (by simp;omega) (Ne.symm m)).trans (by simp[go_sem,World.frozen?_alloc_past,k,J]);have c5:w2.cell? (p,0)=some (.slice s S.code.length u):=(c.cell_far ⟨p,0,none⟩ (by simp;omega) (Ne.symm m)).trans (by simp[go_sem,World.cell?_alloc_past,k,c2])))
  all_goals
   go_wp2
   go_meet
   exact H.EX M (n,(S.code.length:Int)) a9 (ao (cY c))
 case rest=>
  obtain⟨ad,T⟩:=hcut;have j:=Z T;obtain⟨cl,cm,f,cq,b⟩:=ad;have r:=Z b;obtain⟨d,ap⟩:=nm wc;rw[ap]at r j b⊢;have c3:d.cell? (p,2)=some f:=b.row.cell rfl;have c4:d.cell? (p,4)=some (.int .i64 S.line):=b.row.cell rfl;have K:=b.row.free 2;have l:=b.row.lt;have o:f.ownBlock≠some p:=bm b.lines b.row (by decide);have Q:d.ownsRow B 3 1 f S.lines.length (S.lines.flatMap jz):=b.lines;have N:B<=d.heap.size:=by have:=j.size;omega
  obtain⟨bX,Y,av,aP,bb⟩:=info_parts lk;have F:=Z Y;have ci:=a1.out;go_wp2
  go_region_law (first|(refine step_append_lies _ (by rfl) _ _ _ (by rfl) B 3 bX _ 1 8 underlying45 F av aP bb rfl (by omega) f S.lines.length (S.lines.flatMap jz) (by rfl) ((Q.alloc _).drew) ⟨d.heap.size,0,none⟩ 1 1 [.int .i64 S.line] (by rfl) (by rfl) (World.news_of_block (cs:=#[.int .i64 S.line]) (t:=3) (fr:=(0,0)) (heap_alloc_new d _)) (by simp[Value.oneCell']) (by omega) (by unfold maxLen;omega) (by omega) (by simp;omega) (d.heap.size+1) (by simp) ?_;intro L I w4 ab c R a2;have c8:w4.cell? (p,2)=some f:=(c.cell_far ⟨p,2,none⟩ (by simp;omega) (Ne.symm o)).trans (by simp[go_sem,World.cell?_alloc_past,l,c3]);have c9:w4.frozen? (p,2)=false:=(c.frozen_far ⟨p,2,none⟩ (by simp;omega) (Ne.symm o)).trans (by simp[go_sem,World.frozen?_alloc_past,l,K]);have c5:w4.cell? (p,4)=some (.int .i64 S.line):=(c.cell_far ⟨p,4,none⟩ (by simp;omega) (Ne.symm o)).trans (by simp[go_sem,World.cell?_alloc_past,l,c4])))
  all_goals
   go_wp2
   go_ret;obtain⟨c6,c7⟩:=r.CZ N S.line ab (ao (cY c));exact⟨rfl,c6,((i.below O (fun _ hb=>False.elim hb)).trans j).trans c7⟩
variable{k:Int}
def jd(w:ByteArray):List ByteArray->Int->Int->Int
 |[],_,x=>x
 |n::l,i,x=>jd w l (i+1) (if(n.data.toList==w.data.toList)=true then 1+i else x)
def C0(op:Int):be:=⟨op,0,0,0,0,0,0⟩
def iU:List Int->List ByteArray->gD->be->Option (gD×be)
 |[],_,S,X=>some (S,X)
 |_::_,[],_,_=>none
 |k::o,s::l,S,X=>match tj k s S X with|none=>none|some (a,b)=>iU o l a b
def rh(o:List Int)(l:List ByteArray):Bool:=decide (l.length=o.length+2)&&(b9 (l.getD (l.length-1) ByteArray.empty) 0==33)
def wJ(o:List Int)(l:List ByteArray):Option (gD×be)->Option gD
 |none=>none
 |some (S,X)=>if rh o l=true then(q9 (l.getD (l.length-1) ByteArray.empty) X).map fun a=>{S with code:=S.code++[a]}else some {S with code:=S.code++[X]}
def pY(S:gD)(l:List ByteArray)(op:Int):Option gD:=
 if op=0 then none
 else if l.length=(gE op).length+1∨rh (gE op) l=true then wJ (gE op) l (iU (gE op) (l.drop 1) S (C0 op))else none
def tp(S:gD)(n:ByteArray):Option gD:=
 if fZ n=true/\cV S.labels n=none then some {S with labels:=S.labels++[(n,(S.code.length:Int))],lines:=S.lines++[S.line]}else none
def ma(S:gD):List ByteArray->Option gD
 |[]=>none
 |w::l=>if b9 w (w.size-1)=58/\l.length=0 then tp S (w.extract 0 (w.size-1))else pY S (w::l) (jd w b' 0 0)
theorem lp:b'.length=58:=by decide+kernel
theorem oL.vb{vc vl vn vw:Value}{S:gD}(h:oL w B p p vc vl vn vw S)(c:Ch ag w w')(d:w.heap.size<=bx):oL w' B p bx vc vl vn vw S:=
 ⟨h.row.ch c id,h.hB,ak h.code c (fun g a e=>e),fun e=>by obtain⟨_,_,b⟩:=bW h.code e;have:=(Array.getElem?_eq_some_iff.1 b).1;omega,ak h.labels c (fun g a e=>e),ak h.lines c (fun g a e=>e),ak h.bu c (fun g a e=>e)⟩
theorem dK.vb{S:gD}(h:dK w B p p S)(c:Ch ag w w')(a:w.heap.size<=bx):dK w' B p bx S:=by
 obtain⟨vc,vl,vn,vw,h⟩:=h;exact⟨vc,vl,vn,vw,h.vb c a⟩
theorem eg.keep{g:Nat}{l:List ByteArray}(h:eg w g l)(k:hH w w'):eg w' g l:=by
 obtain⟨a,h⟩:=h;exact⟨a,k.row h (by decide) (by decide) (by decide)⟩
theorem aq.EY{b:Nat}(h:aq w b X)(n:Int):aq (w.setCell (b,0) (.int .i64 n)) b {X with op:=n}:=Row.bc h _ _ rfl
theorem AY(d:aq w bx X)(c:Ch (aH bx) w w'):hH w w':=
 hH.fj c (fun k x t f b a=>by have e:k=bx:=b;subst e;exact Or.inr (Or.inl (eM d a)))
theorem AZ(op:Int):∀k∈gE op,0<=k/\k<=8:=by
 intro k a;unfold gE at a;have e:∀{b:Bool} {x:Int},k∈(if b=true then [x]else [])->k=x:=fun {b x} h=>by
  cases b<;>simp at h;exact h
 split at a
 ·simp at a;omega
 ·split at a
  ·simp at a;omega
  ·split at a
   ·simp at a;omega
   ·split at a
    ·simp at a;omega
    ·split at a
     ·simp at a;omega
     ·split at a
      ·simp at a;omega
      ·rcases List.mem_append.1 a with h|h
       ·rcases List.mem_append.1 h with h|h
        ·have:=e h;omega
        ·split at h
         ·simp at h;omega
         ·have:=e h;omega
       ·split at h
        ·simp at h;omega
        ·have:=e h;omega
theorem pZ(op:Int):(gE op).length<=3:=by
 unfold gE
 repeat' split
 all_goals simp
theorem mV{o:List Int}{l:List ByteArray}{S:gD}{r:gD×be}(h:iU (k::o) l S X=some r):∃s l' a b,l=s::l'/\tj k s S X=some (a,b)/\iU o l' a b=some r:=by
 cases l with
 |nil=>cases h
 |cons s l'=>
  unfold iU at h;cases c:tj k s S X with
  |none=>rw[c]at h;cases h
  |some p=>
   obtain⟨a,b⟩:=p;rw[c]at h;exact⟨s,l',a,b,rfl,c,h⟩
theorem p0{s:ByteArray}{S a:gD}{b:be}(h:tj k s S X=some (a,b)):a.code=S.code/\a.labels=S.labels/\a.lines=S.lines/\a.line=S.line/\a.bu.length<=S.bu.length+1:=by
 unfold tj at h
 repeat' split at h
 all_goals first
  |(cases h;done)
  |(obtain⟨rfl,rfl⟩:=Prod.mk.inj (Option.some.inj h);simp)
  |(rw[Option.map_eq_some_iff]at h;obtain⟨_,_,h⟩:=h;obtain⟨rfl,rfl⟩:=Prod.mk.inj h;simp)
theorem jB:∀(o:List Int) {l:List ByteArray} {S a:gD} {X b:be},iU o l S X=some (a,b)->a.code=S.code/\a.labels=S.labels/\a.lines=S.lines/\a.line=S.line/\a.bu.length<=S.bu.length+o.length
 |[],l,S,a,X,b,h=>by
  obtain⟨rfl,rfl⟩:=Prod.mk.inj (Option.some.inj h);simp
 |k::o,l,S,a,X,b,h=>by
  obtain⟨s,l',j,m,rfl,g,i⟩:=mV h;obtain⟨a1,a2,a3,a4,n⟩:=p0 g;obtain⟨c,d,e,f,q⟩:=jB o i;exact⟨c.trans a1,d.trans a2,e.trans a3,f.trans a4,by simp only[List.length_cons];omega⟩
theorem mX{S f:gD}{l:List ByteArray}{op:Int}(h:pY S l op=some f):op≠0/\∃b a d e,iU (gE op) (l.drop 1) S (C0 op)=some (b,a)/\f={b with code:=b.code++[d]}/\
 ((e=true/\l.length=(gE op).length+2/\b9 (l.getD (l.length-1) ByteArray.empty) 0=33/\q9 (l.getD (l.length-1) ByteArray.empty) a=some d)∨(e=false/\l.length=(gE op).length+1/\d=a)):=by
 unfold pY at h;split at h
 ·cases h
 ·rename_i i
  refine⟨i,?_⟩;split at h
  ·rename_i j
   unfold wJ at h;cases g:iU (gE op) (l.drop 1) S (C0 op)with
   |none=>rw[g]at h;cases h
   |some q=>
    obtain⟨b,a⟩:=q;rw[g]at h;dsimp only at h;split at h
    ·rename_i c
     rw[Option.map_eq_some_iff]at h;obtain⟨d,m,rfl⟩:=h;unfold rh at c;rw[Bool.and_eq_true,decide_eq_true_eq,beq_iff_eq]at c;exact⟨b,a,d,true,rfl,rfl,Or.inl ⟨rfl,c.1,c.2,m⟩⟩
    ·rename_i c
     exact⟨b,a,a,false,rfl,(Option.some.inj h).symm,Or.inr ⟨rfl,j.resolve_right c,rfl⟩⟩
  ·cases h
theorem iz:(prog.info? 184).map (fun i=>(i.zero,i.size,i.bytes))=some (some (.agg #[.int .i64 0,.int .i64 0,.int .i64 0,.int .i64 0,.int .u64 0,.int .i64 0,.int .i64 0]),7,56):=by kernel_rfl
theorem A0(l:List ByteArray)(w0:ByteArray)(a5:l[0]?=some w0)(ex:∀x∈l,1<=x.size/\x.size<=65536)(i7:l.length<=100000)(en:¬(b9 w0 (w0.size-1)=58/\l.length=1))(g cap B p:Nat)(S fk:gD)(w:World)(ey:eg w g l)(i4:l.length<=cap)(G:dK w B p p S)(i1:B<=w.heap.size)
 (h:pY S l (jd w0 b' 0 0)=some fk) (fT:S.code.length<=1000000) (Y:S.bu.length<=1000000):
 Calls prog 79 #[(p,0),.slice (some (g,0)) l.length cap] w (oO fk B p w):=by
 have t0:w.cell? (g,0)=some (.string w0):=ey.cell a5;have et:=ex w0 (List.mem_of_getElem? a5);have d:1<=w0.size:=et.1;have u:w0.size<=65536:=et.2;have p1:w0.size-1<w0.size:=by omega
 have i2:1<=l.length:=by have:=(List.getElem?_eq_some_iff.1 a5).1;omega
 obtain⟨v,cQ⟩:=nm (jd w0 b' 0 0);rw[cQ]at h;have e':=Z cQ;have gF:=Z h;have hn:=Z ey;have fb:=Z ex;have ap:=Z G;have eL:=Z (And.intro fT Y);have jL:=Z a5;obtain⟨F,cL⟩:=mn l.length;have N:=Z cL;rw[<-cL]at i7 en i4 i2⊢;clear cQ h ey ex G fT Y a5 et cL;have hb:((w0[w0.size-1].toNat:Int)==58)=false∨(((w0[w0.size-1].toNat:Int)==58)=true/\((F:Int)==1)=false):=by
  cases n:((w0[w0.size-1].toNat:Int)==58)with
  |false=>exact Or.inl rfl
  |true=>
   refine Or.inr ⟨rfl,?_⟩;rw[cc,beq_iff_eq]at n;rw[beq_eq_false_iff_ne];intro e;exact en ⟨n,by omega⟩
 clear en;go_in
 go_upto_region 2 with fail
 go_cut [29] (fun b wc=>b=.bool false/\w=wc)
 case first=>
  rcases hb with hF|⟨hF,jR⟩
  all_goals
   go_wp2
   go_meet
   exact⟨rfl,rfl⟩
 case rest=>
  obtain⟨rfl,rfl⟩:=hcut;clear hb t0 p1 d u;obtain⟨bx,fO⟩:=nm w.heap.size;have E:=Z fO;go_upto_block 0 with(first|(go_at_call 122;(with_reducible refine(uZ _).mono ?_);rintro e w2 ⟨rfl,g4,Y⟩;have eW:=Z g4;have c5:=Z Y;clear g4 Y))
  have av:Hid (aq w2 bx (C0 0)):=Z (by
   have r:=Row.new w (aD (C0 0)) 184;rw[E]at r;exact Row.ch r c5 id)
  have gP:Hid (Row w2 (bx+1) 9 (b'.map Value.string)):=Z (by
   have r:=eW.out;rw[World.size_alloc,E]at r;exact r)
  have ad:Hid (Ch ag w w2):=Z (((Ch.refl _ _).alloc _).trans c5);have T:bx<w2.heap.size:=av.lt;clear eW c5 fO;go_cut [] (fun wc=>aq wc bx (C0 v)/\Ch (aH bx) w2 wc)
  case first=>
   go_wp2
   go_loopw [10] (fun i wr=>∃(k:Nat) (op:Int),k<=58/\i=.int .i64 k/\aq wr bx (C0 op)/\Ch (aH bx) w2 wr/\jd w0 (b'.drop k) k op=v) (fun i _=>58-(intOf i).toNat)
   case atStart=>exact⟨0,0,by omega,rfl,av,Ch.refl _ _,e'⟩
   case round=>
    obtain⟨k,op,i5,rfl,n,bv,cW⟩:=hrel;have c8:=Z cW;have ct:=Z n;have c6:=Z bv;by_cases e4:k<58
    ·have U:k<b'.length:=by rw[lp];exact e4
     have c7:Hid (b'.drop k=b'[k]::b'.drop (k+1)):=Z (List.drop_eq_getElem_cons U);have y0:wr.cell? ⟨bx+1,k,none⟩=some (.string b'[k]):=(gP.ch bv (fun e=>by have hS:bx+1=bx:=e;omega)).cell (by rw[List.getElem?_map,List.getElem?_eq_getElem U];rfl);obtain⟨y,go⟩:=nm (b'[k]);rw[go]at y0 c7;have f0:=n.free 0;have fK:wr.cell? (bx,0)=some (.int .i64 op):=n.cell rfl;clear go cW n bv;cases W:(y.toList==w0.toList)with
     |true=>
      have M:Hid (jd w0 (b'.drop (k+1)) ((k+1:Nat):Int) (1+(k:Int))=v):=Z (by
       have h:=c8.out;rw[c7,jd,if_pos (by rw[<-ByteArray.toList_eq,<-ByteArray.toList_eq];exact W)]at h;exact h)
      go_wp2
      go_roundw
      case rel=>exact⟨k+1,1+(k:Int),by omega,by go_num,ct.EY _,c6.only _ _,M⟩
      case measure=>simp[intOf];omega
     |false=>
      have M:Hid (jd w0 (b'.drop (k+1)) ((k+1:Nat):Int) op=v):=Z (by
       have h:=c8.out;rw[c7,jd,if_neg (by rw[<-ByteArray.toList_eq,<-ByteArray.toList_eq,W];decide)]at h;exact h)
      go_wp2
      go_roundw
      case rel=>exact⟨k+1,op,by omega,by go_num,ct,c6,M⟩
      case measure=>simp[intOf];omega
    ·have M:Hid (op=v):=Z (by
      have h:=c8.out;rw[List.drop_of_length_le (by rw[lp];omega)]at h;exact h)
     clear cW n bv;go_wp2
     go_meet
     exact⟨by rw[<-M];exact ct,c6⟩
  case rest=>
   obtain⟨c0,a0⟩:=hcut;obtain⟨c1,eA⟩:=nm wc;rw[eA]at c0 a0⊢;clear eA T;have hw:=Z c0;have hf:Hid (dK c1 B p bx S):=Z ((ap.vb ad (by have:=E.out;omega)).ins av a0);have hu:Hid (eg c1 g l):=Z ((hn.af ad).keep (AY av a0));have eI:Hid (Below B w c1):=Z ((ad.below i1 (fun _ hb=>False.elim hb)).trans (a0.below (by have:=ad.size;omega) (fun b hb=>by have e:b=bx:=hb;have:=E.out;omega)));have fK:c1.cell? (bx,0)=some (.int .i64 v):=c0.cell rfl;clear c0 a0;obtain⟨g6,C,cC,a,hB,H,fL,bw⟩:=mX gF;have ci:=Z H;have hm:=Z fL;have ih:((v:Int)==0)=false:=(by rw[beq_eq_false_iff_ne];exact g6);obtain⟨J,P⟩:=nm (gE v);have gY:Hid (∀k∈J,0<=k/\k<=8):=Z (by rw[<-P];exact AZ v);have i3:J.length<=3:=(by rw[<-P];exact pZ v);have cd:=Z (fun w=>u' v w);rw[P]at bw cd;rw[P]at ci;obtain⟨O,bi⟩:=mn J.length;have cb:=Z bi;rw[<-bi,<-N]at bw;rw[<-bi]at i3;have am:=Z bw;clear bi bw H fL g6 P e';go_upto_region 20 with(go_at_call 123;(with_reducible refine(cd.out _).mono ?_);rintro e w4 ⟨kx,rfl,bX,fM⟩;obtain⟨hE,co,rfl⟩:=au bX;rw[<-cb.out]at bX⊢;have gW:=Z bX;have al:=Z fM;clear bX fM)
   have hh:Hid (dK w4 B p bx S):=Z (hf.af (Ch.bT al));have fd:Hid (aq w4 bx (C0 v)):=Z (hw.ch (Ch.bT al) id);have cm:Hid (eg w4 g l):=Z (hu.af (Ch.bT al));have gs:Hid (Below B w w4):=Z (eI.trans (al.mono (by have:=eI.size;omega)));clear fK ih cd;obtain⟨L,ab⟩:=nm (l.getD (F-1) ByteArray.empty);have dN:w4.cell? (g,F-1)=some (.string L):=cm.cell (by rw[<-ab,N,List.getD_eq_getElem?_getD,List.getElem?_eq_getElem (by have:=N.out;omega)];rfl);have je:1<=L.size/\L.size<=65536:=fb L (by rw[<-ab,N,List.getD_eq_getElem?_getD,List.getElem?_eq_getElem (by have:=N.out;omega)];exact List.getElem_mem _);rw[ab]at am;obtain⟨gf,iX⟩:=je;have iC:0<L.size:=gf;have hv:=Z ab;clear ab;go_cut [12] (fun m wc=>m=.bool hB/\w4=wc)
   case first=>
    rcases am with⟨d,u,z,_⟩|⟨d,u,_⟩
    ·have cF:((F:Int)==(O:Int)+2)=true:=by rw[beq_iff_eq];omega
     have hS:((L[0].toNat:Int)==33)=true:=(by rw[cc,beq_iff_eq];exact z);have ca:=Z d;clear d u z;go_wp2
     go_meet
     exact⟨by rw[ca],rfl⟩
    ·have cF:((F:Int)==(O:Int)+2)=false:=by rw[beq_eq_false_iff_ne];omega
     have ca:=Z d;clear d u;go_wp2
     go_meet
     exact⟨by rw[ca],rfl⟩
   case rest=>
    obtain⟨rfl,K⟩:=hcut;rw[<-K];clear K;go_upto_region 21 with fail
    go_cut [131] (fun m wc=>m=.bool false/\w4=wc)
    case first=>
     rcases am with⟨d,u,z,_⟩|⟨d,u,_⟩
     ·have cF:((F:Int) !=(O:Int)+1)=true:=by rw[bne_iff_ne];omega
      subst d;clear u z;go_wp2
      go_meet
      exact⟨rfl,rfl⟩
     ·have cF:((F:Int) !=(O:Int)+1)=false:=by rw[bne_eq_false_iff_eq];omega
      clear d u;go_wp2
      go_meet
      exact⟨rfl,rfl⟩
    case rest=>
     obtain⟨rfl,K⟩:=hcut;rw[<-K];clear K;go_upto_block 2 with fail
     clear dN iC;have kb:S.bu.length<=1000000:=eL.2;go_cut [] (fun wc=>dK wc B p bx C/\aq wc bx cC/\Below B w4 wc/\hH w4 wc)
     case first=>
      go_wp2
      go_loopw [13] (fun i wr=>∃(k:Nat) (X:gD) (bb:be),k<=O/\i=.int .i64 k/\dK wr B p bx X/\aq wr bx bb/\Below B w4 wr/\hH w4 wr/\iU (J.drop k) (l.drop (k+1)) X bb=some (C,cC)/\X.bu.length<=S.bu.length+k) (fun i _=>O-(intOf i).toNat)
      case atStart=>exact⟨0,S,C0 v,by omega,rfl,hh,fd,Below.refl _ _,hH.refl _,ci,by omega⟩
      case round=>
       obtain⟨k,X,bb,i5,rfl,G,n,T,V,H,kf⟩:=hrel;by_cases e4:k<O
       ·have U:k<J.length:=by have:=cb.out;omega
        rw[List.drop_eq_getElem_cons U]at H;obtain⟨s,l',fn,fz,dC,bZ,gc⟩:=mV H;have g3:k+1<l.length:=by
         have:0<(l.drop (k+1)).length:=(by rw[dC];simp);rw[List.length_drop]at this;omega
        rw[List.drop_eq_getElem_cons g3]at dC;obtain⟨W,rfl⟩:=List.cons.inj dC;obtain⟨a1,a2,a3,a4,jM⟩:=p0 bZ;have gd:=fb s (by rw[<-W];exact List.getElem_mem _);have dp:=gY J[k] (List.getElem_mem _);obtain⟨kd,dr⟩:=nm (J[k]);rw[dr]at bZ dp;have y0:wr.cell? ⟨g,k+1,none⟩=some (.string s):=(cm.keep V).cell (by rw[List.getElem?_eq_getElem g3,W]);obtain⟨gr,jH,ku,g5,i8,k4,i9,g7,_⟩:=aE gW (by omega);obtain⟨rfl,rfl⟩:hE=some ⟨gr,0,none⟩/\co=jH:=by injection g5 with d _ z;exact⟨d,z⟩
        have kG:wr.cell? ⟨gr,k,none⟩=some (.int .i64 kd):=(V.row g7 (by decide) (by decide) (by decide)).cell (by
         rw[List.getElem?_append_left (by rw[List.length_map];exact U),List.getElem?_map,List.getElem?_eq_getElem U,dr];rfl)
        have gt:=Z (fun w n G=>yG kd dp s gd.2 B p bx X fn bb fz w bZ n G (by have:=E.out;omega) (by omega) (fun e=>by
         have d:=fd.lt;obtain⟨_,_,_,_,j⟩:=ap.out;have:=j.row.lt;have:=E.out;omega))
        have k3:(k:Int)+1<F:=(by have:=N.out;omega);have cl:=Z G;have cA:=Z n;have c4:=Z T;have c9:=Z V;have hi:=Z gc;have kh:IntKind.i64.wrap ((k:Int)+1)=(k:Int)+1:=IntWalk.i64_in _ (by omega);have kt:((k:Int)+1).toNat=k+1:=(by omega);have eA:(0:Int)<=(k:Int)+1:=(by omega);clear H bZ gd dp g7 g5 i8 i9 G n T V gc W dr a1 a2 a3 a4;go_wp2
        go_still_tail 10,(by kernel_rfl)
        change wpList _ _ _ _ _ wr.drew;go_wp2_with (go_at_call 124;(with_reducible refine(gt.out _ ?_ ?_).mono ?_);exact cA.out;exact cl.out.af ay;rintro e q ⟨rfl,a9,o,A,g2⟩;have ce:=Z a9;have aP:=Z o;have c2:Hid (Below B wr q):=Z ⟨A.os,A.tape,A.output,A.size,A.block⟩;have gH:Hid (hH wr q):=Z (fun k c t f d u z bd=>g2 k c t f d u z bd);clear a9 o A g2)
        go_roundw
        case rel=>exact⟨k+1,fn,fz,by omega,by go_num,ce,aP,c4.trans c2,c9.trans gH,hi,by omega⟩
        case measure=>simp[intOf];omega
       ·have hd:J.drop k=[]:=List.drop_of_length_le (by have:=cb.out;omega)
        rw[hd]at H;obtain⟨rfl,rfl⟩:=Prod.mk.inj (Option.some.inj H);have cl:=Z G;have cA:=Z n;have c4:=Z T;have c9:=Z V;clear H G n T V hd;go_wp2
        go_meet
        exact⟨cl,cA,c4,c9⟩
     case rest=>
      obtain⟨es,eC,cS,di⟩:=hcut;obtain⟨eG,K⟩:=nm wc;rw[K]at es eC cS di⊢;have ch:=Z es;have cq:=Z eC;have c3:Hid (Below B w eG):=Z (gs.trans cS);have dN:eG.cell? (g,F-1)=some (.string L):=(cm.keep di).cell (by rw[<-hv,List.getD_eq_getElem?_getD,List.getElem?_eq_getElem (by have:=N.out;omega)];rfl);clear K es eC cS di;go_upto_if 154 with fail
      go_cut [] (fun wc=>dK wc B p bx C/\aq wc bx a/\Below B w wc)
      case first=>
       rcases am with⟨d,u,z,bd⟩|⟨d,u,z⟩
       ·have gO:=Z (fun w io ip n=>yF L iX gf cC a bd p bx C.line w io ip n)
        have g9:p≠bx:=fun e=>by
         obtain⟨_,_,_,_,j⟩:=ap.out;have:=j.row.lt;have:=E.out;omega
        have i6:eG.cell? (p,4)=some (.int .i64 C.line):=by
         obtain⟨_,_,_,_,j⟩:=ch.out;exact j.row.cell rfl
        have he:=Z g9;subst d;clear u z bd g9;go_wp2_with (go_at_call 125;(with_reducible refine(gO.out _ ?_ he.out ?_).mono ?_);exact i6;exact cq.out;rintro e q ⟨rfl,o,g0⟩;have aP:=Z o;have eS:=Z g0;clear o g0)
        go_meet
        exact⟨ch.ins cq eS,aP,c3.trans (eS.below (by have:=c3.size;omega) (fun b hb=>by have e:b=bx:=hb;have:=E.out;omega))⟩
       ·have M:=Z z
        subst d;clear u z;go_wp2
        go_meet
        exact⟨ch,by rw[M];exact cq,c3⟩
      case rest=>
       obtain⟨a9,o,A⟩:=hcut;obtain⟨q,ge⟩:=nm wc;rw[ge]at a9 o A⊢;obtain⟨vc,vl,vn,vw,j⟩:=a9;have ce:=Z j;have aP:=Z o;have c2:=Z A;have x0:q.cell? (bx,0)=some (.int .i64 a.op):=o.cell rfl;have x1:q.cell? (bx,1)=some (.int .i64 a.a):=o.cell rfl;have x2:q.cell? (bx,2)=some (.int .i64 a.b):=o.cell rfl;have x3:q.cell? (bx,3)=some (.int .i64 a.c):=o.cell rfl;have x4:q.cell? (bx,4)=some (.int .u64 a.v):=o.cell rfl;have x5:q.cell? (bx,5)=some (.int .i64 a.m):=o.cell rfl;have x6:q.cell? (bx,6)=some (.int .i64 a.wh):=o.cell rfl;have jI:q.cell? (p,0)=some vc:=j.row.cell rfl;have hT:=j.row.free 0;have g8:=j.row.lt;have R:=o.lt;have gk:vc.ownBlock≠some p:=bm j.code j.row (by decide);have Q:vc.ownBlock≠some bx:=j.ne;have P:q.ownsRow B 184 7 vc C.code.length (C.code.flatMap dn):=j.code;have k2:C.code.length<=1000000:=(by rw[(jB _ ci).1];exact eL.1);have i0:B<=q.heap.size:=(by have:=A.size;omega);obtain⟨jG,g1,jf,jp,jE⟩:=info_parts iz;have gG:=Z g1;clear ge j o A g1 dN;go_wp2
       have it:p≠bx:=fun e=>by
        obtain⟨_,_,_,_,j⟩:=ap.out;have:=j.row.lt;have:=E.out;omega
       have k5:bx≠p:=Ne.symm it;go_region_law (first|(refine step_append_lies _ (by rfl) _ _ _ (by rfl) B 184 jG _ 7 56 underlying75 gG jf jp jE rfl (by omega) vc C.code.length (C.code.flatMap dn) (by rfl) ((P.alloc _).drew) ⟨q.heap.size,0,none⟩ 1 1 [a.op,a.a,a.b,a.c,.int .u64 a.v,a.m,a.wh] (by rfl) (by rfl) (World.news_of_block (cs:=#[a.op,a.a,a.b,a.c,.int .u64 a.v,a.m,a.wh]) (t:=184) (fr:=(0,0)) (heap_alloc_new q _)) (by simp[Value.oneCell']) (by omega) (by unfold maxLen;omega) (by omega) (by simp;omega) (q.heap.size+1) (by simp) ?_;intro k0 jS I ii D k1 e4;have kv:I.cell? (p,0)=some vc:=(D.cell_far ⟨p,0,none⟩ (by simp;omega) (Ne.symm gk)).trans (by simp[go_sem,World.cell?_alloc_past,g8,jI]);have kw:I.frozen? (p,0)=false:=(D.frozen_far ⟨p,0,none⟩ (by simp;omega) (Ne.symm gk)).trans (by simp[go_sem,World.frozen?_alloc_past,g8,hT]);have kN:I.cell? (bx,0)=some (.int .i64 a.op):=(D.cell_far ⟨bx,0,none⟩ (by simp;omega) (Ne.symm Q)).trans (by simp[go_sem,World.cell?_alloc_past,R,x0]);have kO:I.cell? (bx,1)=some (.int .i64 a.a):=(D.cell_far ⟨bx,1,none⟩ (by simp;omega) (Ne.symm Q)).trans (by simp[go_sem,World.cell?_alloc_past,R,x1]);have kT:I.cell? (bx,2)=some (.int .i64 a.b):=(D.cell_far ⟨bx,2,none⟩ (by simp;omega) (Ne.symm Q)).trans (by simp[go_sem,World.cell?_alloc_past,R,x2]);have l0:I.cell? (bx,3)=some (.int .i64 a.c):=(D.cell_far ⟨bx,3,none⟩ (by simp;omega) (Ne.symm Q)).trans (by simp[go_sem,World.cell?_alloc_past,R,x3]);have l1:I.cell? (bx,4)=some (.int .u64 a.v):=(D.cell_far ⟨bx,4,none⟩ (by simp;omega) (Ne.symm Q)).trans (by simp[go_sem,World.cell?_alloc_past,R,x4]);have lb:I.cell? (bx,5)=some (.int .i64 a.m):=(D.cell_far ⟨bx,5,none⟩ (by simp;omega) (Ne.symm Q)).trans (by simp[go_sem,World.cell?_alloc_past,R,x5]);have lc:I.cell? (bx,6)=some (.int .i64 a.wh):=(D.cell_far ⟨bx,6,none⟩ (by simp;omega) (Ne.symm Q)).trans (by simp[go_sem,World.cell?_alloc_past,R,x6])))
       all_goals
        go_wp2
        go_ret;obtain⟨jJ,jK⟩:=ce.iT i0 a ii (ao (cY D));exact⟨rfl,by rw[hm];exact jJ,c2.trans jK⟩
def oP(S:gD):gD:={S with line:=S.line+1}
def jC(S:gD)(b:List ByteArray):Option gD:=match b with
 |[]=>some (oP S)
 |w::l=>match ma S (w::l)with|none=>none|some a=>some (oP a)
def gN:List UInt8->List UInt8->gD->Option gD
 |[],cur,S=>if cur=[]then some S else jC S (lj cur [])
 |c::cs,cur,S=>if(c.toNat:Int)=10 then(match jC S (lj cur [])with|none=>none|some a=>gN cs [] a)else gN cs (cur++[c]) S
def oQ:List (Int×Int×ByteArray)->List (ByteArray×Int)->List be->Option (List be)
 |[],_,C=>some C
 |x::l,L,C=>match cV L x.2.2 with
  |none=>none
  |some at_=>match C[x.2.1.toNat]? with
   |none=>none
   |some X=>if 0<=x.2.1 then oQ l L (C.set x.2.1.toNat {X with v:=IntKind.u64.wrap at_})else none
def DJ(C:List be)(L:List (ByteArray×Int)):Option (List be×List (ByteArray×Int)):=
 if C.length<=2048/\L.all (fun b=>b.2 !=(C.length:Int))=true then some (C,L)else none
def iV(s:ByteArray):Option (List be×List (ByteArray×Int)):=
 if s.size<=65536 then(match gN s.data.toList [] ⟨[],[],[],[],0⟩with
  |none=>none
  |some S=>match oQ S.bu S.labels S.code with|none=>none|some C=>DJ C S.labels)else none
theorem tq:∀(l w:List UInt8),∀x∈lj l w,1<=x.size/\x.size<=w.length+l.length:=by
 have b:∀(w:List UInt8),∀x∈pn w,1<=x.size/\x.size<=w.length:=by
  intro w x a;unfold pn at a;split at a
  ·cases a
  ·rename_i d
   have:x=tk w:=(by simpa using a);subst this;rw[tn];have:=List.length_pos_iff.2 d;omega
 intro l
 induction l with
 |nil=>intro w x a;have:=b w x a;simp only[List.length_nil];omega
 |cons c l ih=>
  intro w x a;unfold lj at a;simp only[List.length_cons];split at a
  ·have:=ih _ x a;simp only[List.length_append,List.length_cons,List.length_nil]at this;omega
  ·split at a
   ·have:=b w x a;omega
   ·rcases List.mem_append.1 a with h|h
    ·have:=b w x h;omega
    ·have:=ih _ x h;simp only[List.length_nil]at this;omega
theorem wK:∀(l w:List UInt8),(lj l w).length<=1+l.length:=by
 have a:∀(w:List UInt8),(pn w).length<=1:=by intro w;unfold pn;split<;>simp
 intro l
 induction l with
 |nil=>intro w;have:=a w;simp only[List.length_nil];exact this
 |cons c l ih=>
  intro w;unfold lj;simp only[List.length_cons];split
  ·have:=ih (w++[c]);omega
  ·split
   ·have:=a w;omega
   ·rw[List.length_append];have:=a w;have:=ih [];omega
theorem jD{S a:gD}{l:List ByteArray}(h:ma S l=some a):a.code.length<=S.code.length+1/\a.labels.length<=S.labels.length+1/\a.lines.length<=S.lines.length+1/\a.bu.length<=S.bu.length+3/\a.line=S.line:=by
 cases l with
 |nil=>cases h
 |cons w l=>
  change(if b9 w (w.size-1)=58/\l.length=0 then tp S (w.extract 0 (w.size-1))else pY S (w::l) (jd w b' 0 0))=some a at h;split at h
  ·unfold tp at h
   split at h
   ·obtain rfl:=Option.some.inj h;simp
   ·cases h
  ·obtain⟨_,d,e,f,c,b,rfl,_⟩:=mX h
   obtain⟨a1,a2,a3,a4,g⟩:=jB _ b;have:=pZ (jd w b' 0 0);simp only[List.length_append,List.length_cons,List.length_nil];rw[a1,a2,a3,a4];refine⟨by omega,by omega,by omega,by omega,rfl⟩
theorem p4(l:List ByteArray)(u:0<l.length)(k:∀x∈l,1<=x.size/\x.size<=65536)(v:l.length<=100000)(g cap B p:Nat)(S a:gD)(w:World)(m:eg w g l)(d:l.length<=cap)(i:dK w B p p S)(c:B<=w.heap.size)
 (h:ma S l=some a) (n:S.code.length<=1000000) (o:S.bu.length<=1000000) (q:S.labels.length<=1000000) (r:S.lines.length<=1000000):
 Calls prog 79 #[(p,0),.slice (some (g,0)) l.length cap] w (oO a B p w):=by
 cases l with
 |nil=>exact absurd u (by simp)
 |cons w0 l=>
  change(if b9 w0 (w0.size-1)=58/\l.length=0 then tp S (w0.extract 0 (w0.size-1))else pY S (w0::l) (jd w0 b' 0 0))=some a at h;split at h
  ·rename_i b
   obtain⟨s,t⟩:=b;have e:l=[]:=List.length_eq_zero_iff.1 t;subst e;unfold tp at h;split at h
   ·rename_i f
    obtain rfl:=Option.some.inj h;have j:=k w0 (by simp);exact va w0 _ rfl j.1 j.2 s g cap B p S w m (by simpa using d) i c f.1 f.2 q r
   ·cases h
  ·rename_i b
   exact A0 (w0::l) w0 rfl k v (fun e=>b ⟨e.1,by have:=e.2;simp only[List.length_cons]at this;omega⟩) g cap B p S a w m d i c h n o
theorem dK.more{S:gD}(h:dK w B p p S):dK (w.setCell (p,4) (.int .i64 (S.line+1))) B p p (oP S):=by
 obtain⟨vc,vl,vn,vw,h⟩:=h;have a:=h.row;exact⟨vc,vl,vn,vw,a.bc _ _ rfl,h.hB,dT h.code a (by decide),h.ne,dT h.labels a (by decide),dT h.lines a (by decide),dT h.bu a (by decide)⟩
theorem ew(X:be):(dn X).length=7:=rfl
theorem oL.mU{g n cap:Nat}{vl vn vw:Value}{S:gD}{C:List be}(h:oL w B p p (.slice (some (g,0)) n cap) vl vn vw {S with code:=C}){i:Nat}{X:be}(m:C[i]?=some X)(d:n=C.length)(v:Int):
 dK (w.setCell (g,i*7+4) (.int .u64 v)) B p p {S with code:=C.set i {X with v:=v}}/\Below B w (w.setCell (g,i*7+4) (.int .u64 v)):=by
 have r:(Value.slice (some (g,0)) n cap).ownBlock=some g:=rfl;obtain⟨x,cs,j⟩:=bW h.code r;have c:Ch (aH g) w (w.setCell (g,i*7+4) (.int .u64 v)):=ay;have q:∀{e:TypeId} {s:Nat} {v':Value} {n:Nat} {xs:List Value},w.ownsRow B e s v' n xs->184≠e->(w.setCell (g,i*7+4) (.int .u64 v)).ownsRow B e s v' n xs:=fun l o=>ak l c (fun k t e=>by have a:k=g:=e;subst a;exact bm l j o t)
 refine⟨⟨.slice (some (g,0)) n cap,vl,vn,vw,?_⟩,c.below (by have:=h.row.lt;have:=h.hB;omega) (fun b hb=>by have e:b=g:=hb;omega)⟩;have f:=h.code;rw[show({S with code:=C}:gD).code=C from rfl,<-d]at f;have u:=ig (enc:=dn) f ew m 4 (by omega) rfl (v:=.int .u64 v) (y:={X with v:=v}) rfl d;refine⟨h.row.ch c (fun e=>by have a:p=g:=e;subst a;exact absurd (eM h.row j) (by decide)),h.hB,?_,h.ne,q h.labels (by decide),q h.lines (by decide),q h.bu (by decide)⟩;rw[show({S with code:=C.set i {X with v:=v}}:gD).code=C.set i {X with v:=v}from rfl,List.length_set,<-d];exact u
variable{k:Nat}
def C1(r:List be×List (ByteArray×Int))(w:World)(e:Ending)(w':World):Prop:=
 ∃vc vl,e=.returned (.tuple #[vc,vl,.pointer none])/\w'.ownsRow w.heap.size 184 7 vc r.1.length (r.1.flatMap dn)/\w'.ownsRow w.heap.size 198 2 vl r.2.length (r.2.flatMap ph)/\Ch ag w w'
structure ts(k:Nat)(S:gD):Prop where
 c:S.code.length<=k
 l:S.labels.length<=k
 n:S.lines.length<=k
 w:S.bu.length<=3*k
 a0:0<=S.line
 a1:S.line<=k
theorem ts.more{S d:gD}{e:List ByteArray}(h:ts k S)(a:jC S e=some d):ts (k+1) d:=by
 have:=h.c;have:=h.l;have:=h.n;have:=h.w;have:=h.a0;have:=h.a1;cases e with
 |nil=>
  obtain rfl:=Option.some.inj a;exact⟨by show S.code.length<=_;omega,by show S.labels.length<=_;omega,by show S.lines.length<=_;omega,by show S.bu.length<=_;omega,by show 0<=S.line+1;omega,by show S.line+1<=_;omega⟩
 |cons w l=>
  unfold jC at a;dsimp only at a;cases c:ma S (w::l)with
  |none=>rw[c]at a;cases a
  |some b=>
   rw[c]at a;obtain rfl:=Option.some.inj a;obtain⟨a1,a2,a3,a4,f⟩:=jD c;exact⟨by show b.code.length<=_;omega,by show b.labels.length<=_;omega,by show b.lines.length<=_;omega,by show b.bu.length<=_;omega,by show 0<=b.line+1;omega,by show b.line+1<=_;omega⟩
theorem ts.mono{a:Nat}{S:gD}(h:ts k S)(b:k<=a):ts a S:=by
 have:=h.c;have:=h.l;have:=h.n;have:=h.w;have:=h.a0;have:=h.a1;exact⟨by omega,by omega,by omega,by omega,by omega,by omega⟩
def ga(s:ByteArray)(f k:Nat):List UInt8:=(s.data.toList.drop f).take (k-f)
theorem oR(s:ByteArray)(k:Nat):ga s k k=[]:=by unfold ga;rw[Nat.sub_self];rfl
theorem yI(s:ByteArray)(f k:Nat)(b:f<=k)(a:k<s.size):ga s f (k+1)=ga s f k++[s[k]]:=by
 unfold ga;rw[show k+1-f=(k-f)+1 from by omega,List.take_add_one,List.getElem?_drop,show f+(k-f)=k from by omega,List.getElem?_eq_getElem (by simpa using a)];rfl
theorem tu(s:ByteArray)(f k:Nat)(a:f<=k)(b:k<=s.size):e7 (s.extract f k)=lj (ga s f k) []:=by
 unfold e7 ga;rw[ByteArray.data_extract,Array.toList_extract,List.extract_eq_take_drop]
theorem lq(s:ByteArray)(f k:Nat):(ga s f k).length<=k-f:=by unfold ga;rw[List.length_take];omega
theorem C2(s:ByteArray)(f k:Nat)(a:f<k)(b:k<=s.size):ga s f k≠[]:=by
 intro h;have:(ga s f k).length=k-f:=by unfold ga;rw[List.length_take,List.length_drop];simp;omega
 rw[h]at this;simp at this;omega
theorem below_drewN{w':World}(h:Below B w w')(n:Nat):Below B w (w'.drewN n):=⟨h.os,h.tape,h.output,h.size,h.block⟩
theorem tv{v:Value}{a:List ByteArray}(h:w.ownsRow B 9 1 v a.length (a.map Value.string))(b:0<a.length):∃g cap,v=.slice (some ⟨g,0,none⟩) a.length cap/\a.length<=cap/\eg w g a:=by
 obtain⟨g,cap,f,d,i,c,j,e,_⟩:=aE h b;exact⟨g,cap,d,c,f,e⟩
theorem me(s:ByteArray)(r:List be×List (ByteArray×Int))(h:iV s=some r)(w:World):Calls prog 37 #[.string s] w (C1 r w):=by
 unfold iV at h;split at h
 ·rename_i jf
  cases z:gN s.data.toList [] ⟨[],[],[],[],0⟩with
  |none=>rw[z]at h;cases h
  |some a=>
   rw[z]at h;dsimp only at h;cases a9:oQ a.bu a.labels a.code with
   |none=>rw[a9]at h;cases h
   |some ad=>
    rw[a9]at h;dsimp only at h;have gs:=Z z;have gt:=Z a9;have gF:=Z h;clear h z a9;have jp:(s.size:Int)<=65536:=(by omega);obtain⟨B,en⟩:=nm w.heap.size;have R:=Z en;go_in
    go_upto_block 0 with fail
    obtain⟨w0,cC⟩:=nm (w.alloc (.cells #[.slice none 0 0,.slice none 0 0,.slice none 0 0,.slice none 0 0,.int .i64 0] 189));have he:Hid (dK w0 B B B ⟨[],[],[],[],0⟩):=Z (by
     have r:=Row.new w #[.slice none 0 0,.slice none 0 0,.slice none 0 0,.slice none 0 0,.int .i64 0] 189;rw[cC,en]at r;exact⟨_,_,_,_,r,Nat.le_refl _,World.ownsRow_nil _ _ _ _,(fun e=>by cases e),World.ownsRow_nil _ _ _ _,World.ownsRow_nil _ _ _ _,World.ownsRow_nil _ _ _ _⟩)
    have gH:Hid (Below B w w0):=Z (by rw[<-cC];exact(Below.refl _ _).alloc (by omega) _);rw[cC];clear cC en;go_cut [] (fun wc=>dK wc B B B a/\Below B w wc/\ts 65537 a)
    case first=>
     go_wp2
     go_loopw [6,7] (fun fr i wr=>∃(f k:Nat) (S:gD),fr=.int .i64 f/\i=.int .i64 k/\dK wr B B B S/\Below B w wr/\((k<=s.size/\f<=k/\ts k S/\gN (s.data.toList.drop k) (ga s f k) S=some a)∨(k=s.size+1/\ts k S/\S=a))) (fun _ i _=>s.size+1-(intOf i).toNat)
     case atStart=>exact⟨0,0,_,rfl,rfl,he,gH,Or.inl ⟨by omega,by omega,⟨by simp,by simp,by simp,by simp,by simp,by simp⟩,by rw[oR];exact gs⟩⟩
     case round=>
      obtain⟨f,k,S,rfl,rfl,c,p,hrel⟩:=hrel;rcases hrel with⟨bi,a1,q,d⟩|⟨rfl,q,rfl⟩
      ·have Q:=Z q
       have bw:=Z c;have P:=Z p;by_cases ca:k<s.size
       ·have cl:Hid (s.data.toList.drop k=s[k]::s.data.toList.drop (k+1)):=drop_cons s k ca
        by_cases ab:(s[k].toNat:Int)=10
        ·rw[cl,gN,if_pos ab]at d
         have hw:((s[k].toNat:Int) !=10)=false:=(by rw[ab];rfl);have hS:((k:Int)==s.size)=false:=(by rw[beq_eq_false_iff_ne];omega);cases F:jC S (lj (ga s f k) [])with
         |none=>rw[F]at d;cases d
         |some l=>
          rw[F]at d;dsimp only at d;have I:Hid ((k+1<=s.size/\(k+1)<=(k+1)/\ts (k+1) l/\gN (s.data.toList.drop (k+1)) (ga s (k+1) (k+1)) l=some a)∨(k+1=s.size+1/\ts (k+1) l/\l=a)):=Z (Or.inl ⟨by omega,Nat.le_refl _,q.more F,by rw[oR];exact d⟩);have al:=Z (tu s f k a1 bi);obtain⟨t,cb⟩:=nm (s.extract f k);have eS:t.size<=65536:=(by rw[<-cb];simp;omega);have V:=Z (fun w=>oM t eS w);rw[cb]at al;rw[al]at V;have c2:Hid (∀x∈lj (ga s f k) [],1<=x.size/\x.size<=65536):=Z (fun x a4=>by
           have z:=tq _ _ x a4;have a9:=lq s f k;simp only[List.length_nil]at z;omega)
          have bX:Hid ((lj (ga s f k) []).length<=65537):=Z (by
           have z:=wK (ga s f k) [];have a9:=lq s f k;omega)
          have A:Hid (k<=65536):=Z (by omega);obtain⟨O,cd⟩:=nm (lj (ga s f k) []);rw[cd]at V c2 bX F;have bx:=Z F;have i0:t.size<=maxLen:=(by unfold maxLen;omega);clear cd d q c p F ab;cases O with
          |nil=>
           have am:Hid (l=oP S):=Z (Option.some.inj bx).symm;go_upto_region 15 with(go_at_call 78;(with_reducible refine(V.out _).mono ?_);rintro e w2 ⟨fn,rfl,L,K⟩;obtain⟨a2,dC,rfl⟩:=au L;have H:=Z K;clear L K;simp only[List.length_nil])
           have u:Hid (dK w2 B B B S):=Z (bw.out.af (Ch.bT H));have T:Hid (Below B w w2):=Z (P.out.trans (H.mono (by have:=P.out.size;have:=R.out;omega)));have fk:w2.cell? (B,4)=some (.int .i64 S.line):=by
            obtain⟨_,_,_,_,b⟩:=u.out;exact b.row.cell rfl
           have e4:w2.frozen? (B,4)=false:=by
            obtain⟨_,_,_,_,b⟩:=u.out;exact b.row.free 4
           have fL:=Q.out.a0;have fM:=Q.out.a1;have i8:=A.out;go_wp2
           go_roundw
           case rel=>exact⟨k+1,k+1,l,by go_num,by go_num,by rw[am];exact u.more,T.setCell (by simp) _,I⟩
           case measure=>simp[intOf];omega
          |cons x O=>
           have y:=bx.out;unfold jC at y;dsimp only at y;cases M:ma S (x::O)with
           |none=>rw[M]at y;cases y
           |some J=>
            rw[M]at y;have am:Hid (l=oP J):=Z (Option.some.inj y).symm;have N:=Q.out;have bZ:=Z (jD M).2.2.2.2;have c1:=Z (fun g cap w eW ey c es=>p4 (x::O) (by simp) c2 (by have:=bX.out;omega) g cap B B S J w eW ey c es M (by have:=N.c;have:=A.out;omega) (by have:=N.w;have:=A.out;omega) (by have:=N.l;have:=A.out;omega) (by have:=N.n;have:=A.out;omega));obtain⟨D,E⟩:=mn ((x::O).length);have U:=Z E;have hu:0<D:=(by rw[E];simp);have hv:(0:Int)<D:=(by omega);rw[<-E]at c1;clear M y N E;go_wp2_with fail
            with_reducible refine(V.out _).mono ?_
            rintro e w2 ⟨fn,rfl,L,K⟩;obtain⟨hn,dC,rfl,c8,G⟩:=tv L (by simp);have cW:=Z c8;have c3:=Z G;have H:=Z K;rw[<-U];have u:Hid (dK w2 B B B S):=Z (bw.out.af (Ch.bT H));have T:Hid (Below B w w2):=Z (P.out.trans (H.mono (by have:=P.out.size;have:=R.out;omega)));clear L K c8 G;go_wp2_with fail
            with_reducible refine(c1.out _ _ _ c3.out (by have:=cW.out;rw[U.out];exact this) u.out (by have:=T.out.size;have:=R.out;omega)).mono ?_
            rintro e ch ⟨rfl,a3,c7⟩;have dp:=Z a3;have cS:=Z (T.trans c7);have fk:ch.cell? (B,4)=some (.int .i64 J.line):=by
             obtain⟨_,_,_,_,b⟩:=a3;exact b.row.cell rfl
            have e4:ch.frozen? (B,4)=false:=by
             obtain⟨_,_,_,_,b⟩:=a3;exact b.row.free 4
            have fL:0<=J.line:=(by rw[bZ];exact Q.out.a0);have fM:J.line<=65536:=(by rw[bZ];have:=Q.out.a1;have:=A.out;omega);clear a3 c7;go_wp2
            go_roundw
            case rel=>exact⟨k+1,k+1,l,by go_num,by go_num,by rw[am];exact dp.more,cS.setCell (by simp) _,by first|exact I|exact I.imp id (fun h=>⟨h.1,h.2.1,rfl⟩)⟩
            case measure=>simp[intOf];omega
        ·have I:Hid ((k+1<=s.size/\f<=k+1/\ts (k+1) S/\gN (s.data.toList.drop (k+1)) (ga s f (k+1)) S=some a)∨(k+1=s.size+1/\ts (k+1) S/\S=a)):=Z (Or.inl ⟨by omega,by omega,q.mono (by omega),by
          rw[cl,gN,if_neg ab]at d;rw[yI s f k a1 ca];exact d⟩)
         have hw:((s[k].toNat:Int) !=10)=true:=(by simpa using ab);clear ab q c p d;go_wp2
         go_roundw
         case rel=>exact⟨f,k+1,S,rfl,by go_num,bw.out,P.out,I⟩
         case measure=>simp[intOf];omega
       ·have gc:k=s.size:=by omega
        have cl:Hid (s.data.toList.drop k=[]):=iv s k (by omega);rw[cl,gN]at d;have hS:((k:Int)==s.size)=true:=(by rw[beq_iff_eq];omega);by_cases eC:f=k
        ·have I:Hid ((k+1<=s.size/\f<=k+1/\ts (k+1) S/\gN (s.data.toList.drop (k+1)) (ga s f (k+1)) S=some a)∨(k+1=s.size+1/\ts (k+1) S/\S=a)):=Z (Or.inr ⟨by omega,q.mono (by omega),by
          rw[eC,oR,if_pos rfl]at d;exact Option.some.inj d⟩)
         have hF:((f:Int)==(k:Int))=true:=(by rw[beq_iff_eq];omega);clear gc q c p d eC;go_wp2
         go_roundw
         case rel=>exact⟨f,k+1,S,rfl,by go_num,bw.out,P.out,I⟩
         case measure=>simp[intOf];omega
        ·rw[if_neg (C2 s f k (by omega) bi)]at d
         cases F:jC S (lj (ga s f k) [])with
         |none=>rw[F]at d;cases d
         |some l=>
          rw[F]at d;obtain rfl:=Option.some.inj d;have I:Hid ((k+1<=s.size/\(k+1)<=(k+1)/\ts (k+1) l/\gN (s.data.toList.drop (k+1)) (ga s (k+1) (k+1)) l=some l)∨(k+1=s.size+1/\ts (k+1) l/\l=l)):=Z (Or.inr ⟨by omega,q.more F,rfl⟩);have hF:((f:Int)==(k:Int))=false:=(by rw[beq_eq_false_iff_ne];omega);clear gc;have al:=Z (tu s f k a1 bi);obtain⟨t,cb⟩:=nm (s.extract f k);have eS:t.size<=65536:=(by rw[<-cb];simp;omega);have V:=Z (fun w=>oM t eS w);rw[cb]at al;rw[al]at V;have c2:Hid (∀x∈lj (ga s f k) [],1<=x.size/\x.size<=65536):=Z (fun x a4=>by
           have z:=tq _ _ x a4;have a9:=lq s f k;simp only[List.length_nil]at z;omega)
          have bX:Hid ((lj (ga s f k) []).length<=65537):=Z (by
           have z:=wK (ga s f k) [];have a9:=lq s f k;omega)
          have A:Hid (k<=65536):=Z (by omega);obtain⟨O,cd⟩:=nm (lj (ga s f k) []);rw[cd]at V c2 bX F;have bx:=Z F;have i0:t.size<=maxLen:=(by unfold maxLen;omega);clear cd d q c p F eC;cases O with
          |nil=>
           have am:Hid (l=oP S):=Z (Option.some.inj bx).symm;go_upto_region 15 with(go_at_call 78;(with_reducible refine(V.out _).mono ?_);rintro e w2 ⟨fn,rfl,L,K⟩;obtain⟨a2,dC,rfl⟩:=au L;have H:=Z K;clear L K;simp only[List.length_nil])
           have u:Hid (dK w2 B B B S):=Z (bw.out.af (Ch.bT H));have T:Hid (Below B w w2):=Z (P.out.trans (H.mono (by have:=P.out.size;have:=R.out;omega)));have fk:w2.cell? (B,4)=some (.int .i64 S.line):=by
            obtain⟨_,_,_,_,b⟩:=u.out;exact b.row.cell rfl
           have e4:w2.frozen? (B,4)=false:=by
            obtain⟨_,_,_,_,b⟩:=u.out;exact b.row.free 4
           have fL:=Q.out.a0;have fM:=Q.out.a1;have i8:=A.out;go_wp2
           go_roundw
           case rel=>exact⟨k+1,k+1,l,by go_num,by go_num,by rw[am];exact u.more,T.setCell (by simp) _,I⟩
           case measure=>simp[intOf];omega
          |cons x O=>
           have y:=bx.out;unfold jC at y;dsimp only at y;cases M:ma S (x::O)with
           |none=>rw[M]at y;cases y
           |some J=>
            rw[M]at y;have am:Hid (l=oP J):=Z (Option.some.inj y).symm;have N:=Q.out;have bZ:=Z (jD M).2.2.2.2;have c1:=Z (fun g cap w eW ey c es=>p4 (x::O) (by simp) c2 (by have:=bX.out;omega) g cap B B S J w eW ey c es M (by have:=N.c;have:=A.out;omega) (by have:=N.w;have:=A.out;omega) (by have:=N.l;have:=A.out;omega) (by have:=N.n;have:=A.out;omega));obtain⟨D,E⟩:=mn ((x::O).length);have U:=Z E;have hu:0<D:=(by rw[E];simp);have hv:(0:Int)<D:=(by omega);rw[<-E]at c1;clear M y N E;go_wp2_with fail
            with_reducible refine(V.out _).mono ?_
            rintro e w2 ⟨fn,rfl,L,K⟩;obtain⟨hn,dC,rfl,c8,G⟩:=tv L (by simp);have cW:=Z c8;have c3:=Z G;have H:=Z K;rw[<-U];have u:Hid (dK w2 B B B S):=Z (bw.out.af (Ch.bT H));have T:Hid (Below B w w2):=Z (P.out.trans (H.mono (by have:=P.out.size;have:=R.out;omega)));clear L K c8 G;go_wp2_with fail
            with_reducible refine(c1.out _ _ _ c3.out (by have:=cW.out;rw[U.out];exact this) u.out (by have:=T.out.size;have:=R.out;omega)).mono ?_
            rintro e ch ⟨rfl,a3,c7⟩;have dp:=Z a3;have cS:=Z (T.trans c7);have fk:ch.cell? (B,4)=some (.int .i64 J.line):=by
             obtain⟨_,_,_,_,b⟩:=a3;exact b.row.cell rfl
            have e4:ch.frozen? (B,4)=false:=by
             obtain⟨_,_,_,_,b⟩:=a3;exact b.row.free 4
            have fL:0<=J.line:=(by rw[bZ];exact Q.out.a0);have fM:J.line<=65536:=(by rw[bZ];have:=Q.out.a1;have:=A.out;omega);clear a3 c7;go_wp2
            go_roundw
            case rel=>exact⟨k+1,k+1,l,by go_num,by go_num,by rw[am];exact dp.more,cS.setCell (by simp) _,by first|exact I|exact I.imp id (fun h=>⟨h.1,h.2.1,rfl⟩)⟩
            case measure=>simp[intOf];omega
      ·have dr:=Z c
       have ci:=Z p;have cq:=Z q;clear c p q;go_wp2
       go_meet
       exact⟨dr,ci,cq.mono (by omega)⟩
    case rest=>
     obtain⟨c,p,q⟩:=hcut;have ci:=Z p;have cq:=Z q;have i2:a.bu.length<=200000:=(by have:=q.w;omega);have g1:=Z c;obtain⟨w1,gd⟩:=nm wc;rw[gd]at g1 ci⊢;clear c p q gd;obtain⟨D,E⟩:=mn a.bu.length;have U:=Z E;rw[<-E]at i2;clear E;go_upto_block 2 with fail
     go_cut [] (fun wc=>dK wc B B B {a with code:=ad}/\Below B w wc/\ad.length=a.code.length)
     case first=>
      go_wp2
      go_loopw [10] (fun i wr=>∃(k:Nat) (C:List be),k<=D/\i=.int .i64 k/\dK wr B B B {a with code:=C}/\Below B w wr/\oQ (a.bu.drop k) a.labels C=some ad/\C.length=a.code.length) (fun i _=>D-(intOf i).toNat)
      case atStart=>exact⟨0,a.code,by omega,rfl,g1,ci,gt,rfl⟩
      case round=>
       obtain⟨k,C,bi,rfl,c,p,o,ct⟩:=hrel;have dr:=Z c;have fO:=Z p;have fT:=Z ct;obtain⟨vc,vl,vn,vw,b⟩:=c;have cm:=Z b;have go:wr.cell? (B,3)=some vw:=b.row.cell rfl;have eL:wr.ownsRow B 196 3 vw D (a.bu.flatMap oK):=(by rw[U];exact b.bu);have hb:=Z eL;obtain⟨hi,dN,rfl⟩:=au eL;clear eL b p ct;by_cases ca:k<D
       ·have bv:k<a.bu.length:=by have:=U.out;omega
        rw[List.drop_eq_getElem_cons bv]at o;obtain⟨x,a4⟩:=nm (a.bu[k]);have fd:a.bu[k]?=some x:=(by rw[List.getElem?_eq_getElem bv,a4]);rw[a4,oQ]at o;cases a1:cV a.labels x.2.2 with
        |none=>rw[a1]at o;cases o
        |some at_=>
         rw[a1]at o;dsimp only at o;obtain⟨x0,i6,fz⟩:=x;dsimp only at o a1;cases bd:C[i6.toNat]? with
         |none=>rw[bd]at o;cases o
         |some X=>
          rw[bd]at o;dsimp only at o;split at o
          ·rename_i g7
           obtain⟨av,rfl⟩:=Int.eq_ofNat_of_zero_le g7;rw[Int.toNat_natCast]at bd o;have it:av<C.length:=(List.getElem?_eq_some_iff.1 bd).1;have g3:=Z bd;have hf:=Z o;obtain⟨bb,hm,i3,gk,_,jE,_,fb,_⟩:=aE hb (by omega);obtain⟨rfl,rfl⟩:hi=some ⟨bb,0,none⟩/\dN=hm:=by injection gk with z _ Y;exact⟨z,Y⟩
           have ge:wr.cell? ⟨bb,k*3+1,none⟩=some (.int .i64 av):=fb.cell (by
            rw[List.getElem?_append_left (by rw[aU (k:=3) (fun _=>rfl)];omega)];exact(bJ (k:=3) (enc:=oK) (fun _=>rfl) fd (j:=1) (by omega)).trans rfl)
           have i1:wr.cell? ⟨bb,k*3+2,none⟩=some (.string fz):=fb.cell (by
            rw[List.getElem?_append_left (by rw[aU (k:=3) (fun _=>rfl)];omega)];exact(bJ (k:=3) (enc:=oK) (fun _=>rfl) fd (j:=2) (by omega)).trans rfl)
           have a5:wr.cell? (B,0)=some vc:=cm.row.cell rfl;have cF:wr.cell? (B,1)=some vl:=cm.row.cell rfl;have gP:Hid (∀n,Calls prog 80 #[vl,.string fz] (wr.drewN n) (fun e w'=>e=.returned (.tuple #[at_,.bool true])/\∃m,w'=(wr.drewN n).drewN m)):=
            Z (fun n=>hC a.labels fz (at_,true) (by rw[a1];rfl) vl B (wr.drewN n) cm.labels (by have:=cq.l;omega))
           have iX:(k:Int)<D:=(by omega);clear o a1 gk fb fd a4 g7 bv bd;go_wp2
           go_quiet ((go_at_call 80;exact Calls.quiet_of (gP _)))
           obtain⟨w2,G⟩:=nm (wr.drewN nq);have c3:Hid (Below B w w2):=Z (by rw[<-G];exact below_drewN fO nq);have u:Hid (oL w2 B B B vc vl vn (.slice (some (bb,0)) D dN) {a with code:=C}):=Z (by rw[<-G];exact cm.af ay);have fK:w2.cell? ⟨bb,k*3+1,none⟩=some (.int .i64 av):=(by rw[<-G];exact ge);have y0:w2.cell? (B,0)=some vc:=(by rw[<-G];exact a5);have jH:w2.cell? (B,3)=some (.slice (some (bb,0)) D dN):=(by rw[<-G];exact go);rw[G];obtain⟨g6,g4,jG,c9,_,g8,_,eA,_⟩:=aE u.code (by show 0<C.length;omega);have c6:Hid (vc=.slice (some (g6,0)) C.length g4):=Z c9;obtain⟨aP,ex⟩:=mn C.length;have c0:=Z ex;have iC:(av:Int)<aP:=(by omega);have jI:w2.cell? (g6,av*7+4)=some (.int .u64 X.v):=eA.cell (by
            rw[List.getElem?_append_left (by show _<(C.flatMap dn).length;rw[aU ew];omega)];exact(bJ ew g3 (j:=4) (by omega)).trans rfl)
           have f4:=eA.free (av*7+4);have ip:aP<=g4:=(by rw[ex];exact g8);rw[c6,<-c0]at y0 u;clear G ge i1 a5 cF go c9 g8 eA ex;go_wp2
           go_still_tail 14,(by kernel_rfl)
           change wpList _ _ _ _ _ w2.drew;go_wp2
           go_roundw
           obtain⟨gr,i4⟩:=oL.mU u g3 c0 (IntKind.u64.wrap at_)
           case rel=>
            refine⟨k+1,C.set av {X with v:=IntKind.u64.wrap at_},by omega,by go_num,?_,?_,hf,by rw[List.length_set];exact fT⟩
            ·first|exact gr|exact gr.af ay
            ·have a0:=c3.trans i4
             exact⟨a0.os,a0.tape,a0.output,a0.size,a0.block⟩
           case measure=>simp[intOf];omega
          ·cases o
       ·have hd:a.bu.drop k=[]:=List.drop_of_length_le (by have:=U.out;omega)
        rw[hd]at o;have al:Hid (C=ad):=Z (Option.some.inj o);clear o hd;go_wp2
        go_meet
        rw[<-al];exact⟨dr,fO,fT⟩
     case rest=>
      obtain⟨c,p,ct⟩:=hcut;obtain⟨w4,gf⟩:=nm wc;rw[gf]at c p⊢;have Y:=gF.out;unfold DJ at Y;split at Y
      ·rename_i hd
       obtain⟨hB,g9⟩:=hd;obtain rfl:=Option.some.inj Y;have ih:=Z c;have gO:=Z p;obtain⟨vc,vl,vn,vw,b⟩:=c;have i9:=Z b;have eG:w4.ownsRow B 184 7 vc ad.length (ad.flatMap dn):=b.code;have eI:=b.labels;have a5:w4.cell? (B,0)=some vc:=b.row.cell rfl;have cF:w4.cell? (B,1)=some vl:=b.row.cell rfl;have gY:=Z eG;have g0:=Z eI;obtain⟨ac,g5,rfl⟩:=au eG;obtain⟨c4,c5,rfl⟩:=au eI;obtain⟨aP,c6⟩:=mn ad.length;obtain⟨W,et⟩:=mn a.labels.length;have c0:=Z c6;have di:=Z et;have ii:W<=65537:=(by have:=cq.l;omega);rw[<-c6]at a5 hB;have ce:w4.cell? (B,1)=some (.slice c4 W c5):=(by rw[et];exact cF);have gG:Hid (∀k,k<W->∃(cs:Nat) (at_:Int),c4=some ⟨cs,0,none⟩/\W<=c5/\(at_==(aP:Int))=false/\w4.cell? ⟨cs,k*2+1,none⟩=some (.int .i64 at_)):=Z (fun k bi=>by
        have bv:k<a.labels.length:=(by have:=di.out;omega);obtain⟨g,cap,i3,hE,_,ab,_,hT,_⟩:=aE g0 (by show 0<a.labels.length;omega);have a4:a.labels[k]?=some a.labels[k]:=List.getElem?_eq_getElem bv;obtain⟨rfl,rfl⟩:c4=some ⟨g,0,none⟩/\c5=cap:=by injection hE with z _ Y;exact⟨z,Y⟩
        refine⟨g,a.labels[k].2,rfl,by have:=di.out;rw[this];exact ab,?_,?_⟩
        ·have:=List.all_eq_true.1 g9 _ (List.getElem_mem bv)
         rw[<-c0]at this;rw[bne_iff_ne]at this;rw[beq_eq_false_iff_ne];exact this
        ·refine hT.cell ?_
         rw[List.getElem?_append_left (by show _<(a.labels.flatMap ph).length;rw[aU iy];omega)];exact(bJ iy a4 (j:=1) (by omega)).trans rfl)
       clear gf b eG eI c6 et cF p ct Y g9;go_upto_block 4 with fail
       go_cut [] (fun wc=>∃m,wc=w4.drewN m)
       case first=>
        go_wp2
        go_loopw [13] (fun i wr=>∃(k m:Nat),k<=W/\i=.int .i64 k/\wr=w4.drewN m) (fun i _=>W-(intOf i).toNat)
        case atStart=>exact⟨0,0,by omega,rfl,rfl⟩
        case round=>
         obtain⟨k,m,bi,rfl,rfl⟩:=hrel;obtain⟨cL,ap⟩:=nm (w4.drewN m);have g2:=Z ap;have y0:cL.cell? (B,0)=some (.slice ac aP g5):=(by rw[<-ap];exact a5);have fK:cL.cell? (B,1)=some (.slice c4 W c5):=(by rw[<-ap];exact ce);rw[ap];by_cases ca:k<W
         ·obtain⟨cs,at_,rfl,je,io,c9⟩:=gG k ca
          have i7:cL.cell? ⟨cs,k*2+1,none⟩=some (.int .i64 at_):=(by rw[<-ap];exact c9);clear ap c9 a5 ce;go_wp2
          go_quiet (fail)
          obtain⟨i5,e'⟩:=nm (cL.drewN nq);have hh:Hid (i5=w4.drewN (m+nq)):=Z (by rw[<-e',<-g2,World.drewN_drewN]);rw[e'];clear e' y0 fK i7;go_wp2
          go_roundw
          case rel=>exact⟨k+1,m+nq,by omega,by go_num,hh⟩
          case measure=>simp[intOf];omega
         ·clear ap a5 ce
          go_wp2
          go_meet
          exact⟨m,g2.symm⟩
       case rest=>
        obtain⟨m,cA⟩:=hcut;have gW:=Z cA;have y0:wc.cell? (B,0)=some (.slice ac aP g5):=(by rw[cA];exact a5);have fK:wc.cell? (B,1)=some (.slice c4 W c5):=(by rw[cA];exact ce);clear cA a5 ce;go_wp2
        go_quiet (fail)
        go_wp2
        go_ret3;have cQ:Ch ag w4 (wc.drewN nq):=(by rw[gW];exact ay);refine⟨_,_,rfl,?_,?_,?_⟩
        ·have a0:=ak gY cQ (fun _ _ e=>e)
         rw[c0,R];exact a0
        ·have a0:=ak g0 cQ (fun _ _ e=>e)
         rw[di,R];exact a0
        ·exact(Ch.bT (by rw[R];exact gO)).trans cQ
      ·cases Y
 ·cases h
