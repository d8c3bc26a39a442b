import Derived.Deep.RegionHeldLaw
import Derived.Laws.Concat
import Derived.RangeFuncBox
import Derived.Test.YtmfnplmcfkkdpaaGreatDoorZAm
set_option linter.all false
set_option maxRecDepth 100000
set_option maxHeartbeats 0
namespace Go.Proofs.YtmfnplmcfkkdpaaGreatDoor
open Go.RowKit Go.Proofs.Tryz
variable{w:World}{χ:Nat->a'}{L:cU}{Y:Var}{C:KC}{K:KS}
theorem xT(c:cJ)(b o:Nat)(N:aj K c)(O:aR L Y c b o)(P:∀k,k<32->aK ((K.F c).r k))(a n p r q s:Int)(J:0<=a/\a<32)(M:K.blocks.Ok)(h:ae w χ L Y C K):
 Calls prog 140 #[(L.mb,0),(b,o),.agg #[.int .i64 44,a,n,p,.int .u64 r,q,s]] w (dk (.tuple #[]) χ L Y C K (bh K c ⟨44,a,n,p,r,q,s⟩) w):=by
 have Q:=Z h;have x:=Z N;have z:=Z O;obtain⟨w0,F,R,A,f⟩:=h.pre 44 a n p r q s;obtain⟨V,W⟩:=J;obtain⟨t,G⟩:∃y,(K.F c).r a.toNat=y:=⟨_,rfl⟩;have i:=Z G;have B:=Z (P a.toNat (by omega));rw[G]at B;obtain⟨T,U⟩:=B.out;obtain⟨t0,t1,t2,t3,t4,t5,t6⟩:=f.1.c7;have m:=A.at_.aA x z a.toNat (by omega);rw[i]at m;by_cases D:t<65536
 ·have E:Hid (bh K c ⟨44,a,n,p,r,q,s⟩=jm K t):=Z (by unfold bh;dsimp only;rw[if_neg (by decide),if_pos rfl,i,if_pos D])
  go_in
  go_wp2
  try rw[F]
  go_quiet (fail)
  obtain⟨w1,l⟩:=nm (w0.drewN nq);have g:Hid (Ch ag w0 w1):=Z (by rw[<-l];exact ay);rw[l];have d:=Z (A.af g);have j:Hid (aj K c/\aR L Y c b o):=Z ⟨x,z⟩;have u:=Z ((Nx.af g).row f.1 f.2);obtain⟨t0,t1,t2,t3,t4,t5,t6⟩:=u.1.c7;have m:=d.at_.aA j.1 j.2 a.toNat (by omega);rw[show((K:KS).F c).r a.toNat=t from i.out]at m;have k1:=d.at_.pd;go_wp2
  go_still_tail 8,(by kernel_rfl)
  change wpList _ _ _ _ _ w1.drew;go_wp2_with fail
  refine(zZ t (by exact M) d.at_.drew).mono ?_;rintro e w2 ⟨⟨v,rfl,_⟩,X,S,I⟩;have H:=Z ((d.af ay).trans (Gr.refl _) I);go_wp2
  go_end0
  rw[E];exact⟨rfl,_,_,H⟩
 ·have E:Hid (bh K c ⟨44,a,n,p,r,q,s⟩=K):=Z (by unfold bh;dsimp only;rw[if_neg (by decide),if_pos rfl,i,if_neg D])
  go_in
  go_wp2
  try rw[F]
  go_quiet (fail)
  obtain⟨w1,l⟩:=nm (w0.drewN nq);have g:Hid (Ch ag w0 w1):=Z (by rw[<-l];exact ay);rw[l];have d:=Z (A.af g);have j:Hid (aj K c/\aR L Y c b o):=Z ⟨x,z⟩;have u:=Z ((Nx.af g).row f.1 f.2);obtain⟨t0,t1,t2,t3,t4,t5,t6⟩:=u.1.c7;have m:=d.at_.aA j.1 j.2 a.toNat (by omega);rw[show((K:KS).F c).r a.toNat=t from i.out]at m;go_wp2
  go_end0
  rw[E];exact⟨rfl,_,_,d⟩
theorem xU(c:cJ)(b o:Nat)(I:aj K c)(J:aR L Y c b o)(M:∀k,k<32->aK ((K.F c).r k))(a f g j i l:Int)(H:0<=a/\a<32)(h:ae w χ L Y C K):
 Calls prog 140 #[(L.mb,0),(b,o),.agg #[.int .i64 46,a,f,g,.int .u64 j,i,l]] w (dk (.tuple #[]) χ L Y C K (bh K c ⟨46,a,f,g,j,i,l⟩) w):=by
 have O:=Z h;have r:=Z I;have t:=Z J;obtain⟨w0,N,P,x,m⟩:=h.pre 46 a f g j i l;obtain⟨T,U⟩:=H;obtain⟨q,B⟩:∃y,(K.F c).r a.toNat=y:=⟨_,rfl⟩;have n:=Z B;have u:=Z (M a.toNat (by omega));rw[B]at u;obtain⟨R,S⟩:=u.out;obtain⟨t0,t1,t2,t3,t4,t5,t6⟩:=m.1.c7;have p:=x.at_.aA r t a.toNat (by omega);rw[n]at p;have E:Hid (bh K c ⟨46,a,f,g,j,i,l⟩={K with cT:=(iZ K.cT q).2}):=Z (by unfold bh;dsimp only;rw[if_neg (by decide),if_neg (by decide),if_neg (by decide),if_pos rfl,n]);go_in
 go_wp2
 try rw[N]
 go_quiet (fail)
 obtain⟨w1,A⟩:=nm (w0.drewN nq);have s:Hid (Ch ag w0 w1):=Z (by rw[<-A];exact ay);rw[A];have d:=Z (x.af s);have z:Hid (aj K c/\aR L Y c b o):=Z ⟨r,t⟩;have D:=Z ((Nx.af s).row m.1 m.2);obtain⟨t0,t1,t2,t3,t4,t5,t6⟩:=D.1.c7;have p:=d.at_.aA z.1 z.2 a.toNat (by omega);rw[show((K:KS).F c).r a.toNat=q from n.out]at p;have k1:=d.at_.iq;go_wp2
 go_still_tail 7,(by kernel_rfl)
 change wpList _ _ _ _ _ w1.drew;go_wp2_with fail
 refine(FN q d.at_.drew).mono ?_;rintro e w2 ⟨⟨v,rfl,_⟩,V,Q,G⟩;have F:=Z ((d.af ay).trans (Gr.refl _) G);go_wp2
 go_end0
 rw[E];exact⟨rfl,_,_,F⟩
theorem xV(c:cJ)(b o:Nat)(al:aj K c)(am:aR L Y c b o)(a4:∀k,k<32->aK ((K.F c).r k))(a d F j G H:Int)(ad:0<=a/\a<32)(hb:0<=d/\d<32)(U:aK j)(h:ae w χ L Y C K):
 Calls prog 140 #[(L.mb,0),(b,o),.agg #[.int .i64 45,a,d,F,.int .u64 j,G,H]] w (dk (.tuple #[]) χ L Y C K (bh K c ⟨45,a,d,F,j,G,H⟩) w):=by
 have av:=Z h;have B:=Z al;have D:=Z am;obtain⟨w0,V,bi,J,z⟩:=h.pre 45 a d F j G H;obtain⟨c5,c6⟩:=ad;obtain⟨W,a5⟩:∃y,(K.F c).r a.toNat=y:=⟨_,rfl⟩;have R:=Z a5;have a0:=Z (a4 a.toNat (by omega));rw[a5]at a0;obtain⟨bx,c0⟩:=a0.out;obtain⟨c7,c8⟩:=hb;obtain⟨s,a9⟩:∃y,(K.F c).r d.toNat=y:=⟨_,rfl⟩;have u:=Z a9;have a1:=Z (a4 d.toNat (by omega));rw[a9]at a1;obtain⟨c1,c2⟩:=a1.out;obtain⟨t0,t1,t2,t3,t4,t5,t6⟩:=z.1.c7;have q:=J.at_.aA B D a.toNat (by omega);rw[R]at q;have m:=J.at_.aA B D d.toNat (by omega);rw[u]at m;obtain⟨c3,c4⟩:=U;by_cases T:j<=6
 ·obtain⟨p,a3⟩:=nm (fP K.cT j s)
  have X:=Z a3;have S:=Z (fun w h=>FM (K:=K) (w:=w) (χ:=χ) (L:=L) (Y:=Y) (C:=C) j s h);rw[a3]at S;obtain⟨r,l'⟩:=p;have bv:IntKind.i64.wrap j=j:=IntWalk.i64_in _ (by omega);have bw:wrap64 j=j:=by unfold wrap64;omega
  cases r with
  |none=>
   have E:Hid (bh K c ⟨45,a,d,F,j,G,H⟩={K with cT:=l'}.ax c a.toNat 0):=Z (by unfold bh;dsimp only;rw[if_neg (by decide),if_neg (by decide),if_pos rfl,if_pos T,u,X];first|rfl|rw[rfl]);have I:Hid (Gr K {K with cT:=l'}):=Z (Gr.of_eq rfl);go_in
   go_wp2
   try rw[V]
   go_quiet (fail)
   obtain⟨w1,x⟩:=nm (w0.drewN nq);have t:Hid (Ch ag w0 w1):=Z (by rw[<-x];exact ay);rw[x];have g:=Z (J.af t);have f:Hid (aj K c/\aR L Y c b o):=Z ⟨B,D⟩;have n:=Z ((Nx.af t).row z.1 z.2);obtain⟨t0,t1,t2,t3,t4,t5,t6⟩:=n.1.c7;have q:=g.at_.aA f.1 f.2 a.toNat (by omega);rw[show((K:KS).F c).r a.toNat=W from R.out]at q;have m:=g.at_.aA f.1 f.2 d.toNat (by omega);rw[show((K:KS).F c).r d.toNat=s from u.out]at m;have k1:=g.at_.iq;go_wp2
   go_region_held3 (fun w'=>w'.cell? (L.mb,1013)=some (.pointer (some (L.ob,0)))/\w'.cell? ⟨w.heap.size,2,none⟩=some (.int .i64 d)/\w'.cell? ⟨w.heap.size,4,none⟩=some (.int .u64 j)/\w'.cell? (b,o+1+d.toNat)=some (.int .u64 s)) (go_keep) ((go_at_call 183;refine(S _ g.at_.drew).mono ?_;rintro e w2 ⟨⟨v,rfl,U⟩,ap,ab,N⟩;obtain⟨tt,c9,rfl⟩:=U;have l:=Z ((g.af ay).trans (Gr.refl _) N);have A:=Z (((Nx.af (Ch.refl _ w1).drew).trans N.nx).row n.1 n.2);have i:=Z (l.cur B D (Gr.of_eq rfl) rfl);have k1:=l.at_.iq;have t1:=A.1.k 1 rfl;have t2:=A.1.k 2 rfl;have t4:=A.1.k 4 rfl;have q:=l.at_.aA i.1 i.2 a.toNat (by omega);have m:=l.at_.aA i.1 i.2 d.toNat (by omega);rw[show(({K with cT:=l'}:KS).F c).r d.toNat=s from u.out]at m;have a2:=l.at_.hy i.1 i.2 (o+1+a.toNat);have O:=Z (l.at_.a7 i.1 i.2 a.toNat (by omega) 0)))
   all_goals
    go_wp2
    go_end0
    rw[E];obtain⟨Q,M,P⟩:=O.out;exact⟨rfl,Q,M,l.trans I P⟩
  |some r=>
   have E:Hid (bh K c ⟨45,a,d,F,j,G,H⟩={K with cT:=l'}.ax c a.toNat r):=Z (by unfold bh;dsimp only;rw[if_neg (by decide),if_neg (by decide),if_pos rfl,if_pos T,u,X];first|rfl|rw[rfl]);have I:Hid (Gr K {K with cT:=l'}):=Z (Gr.of_eq rfl);go_in
   go_wp2
   try rw[V]
   go_quiet (fail)
   obtain⟨w1,x⟩:=nm (w0.drewN nq);have t:Hid (Ch ag w0 w1):=Z (by rw[<-x];exact ay);rw[x];have g:=Z (J.af t);have f:Hid (aj K c/\aR L Y c b o):=Z ⟨B,D⟩;have n:=Z ((Nx.af t).row z.1 z.2);obtain⟨t0,t1,t2,t3,t4,t5,t6⟩:=n.1.c7;have q:=g.at_.aA f.1 f.2 a.toNat (by omega);rw[show((K:KS).F c).r a.toNat=W from R.out]at q;have m:=g.at_.aA f.1 f.2 d.toNat (by omega);rw[show((K:KS).F c).r d.toNat=s from u.out]at m;have k1:=g.at_.iq;go_wp2
   go_region_held3 (fun w'=>w'.cell? (L.mb,1013)=some (.pointer (some (L.ob,0)))/\w'.cell? ⟨w.heap.size,2,none⟩=some (.int .i64 d)/\w'.cell? ⟨w.heap.size,4,none⟩=some (.int .u64 j)/\w'.cell? (b,o+1+d.toNat)=some (.int .u64 s)) (go_keep) ((go_at_call 183;refine(S _ g.at_.drew).mono ?_;rintro e w2 ⟨rfl,ap,ab,N⟩;have l:=Z ((g.af ay).trans (Gr.refl _) N);have A:=Z (((Nx.af (Ch.refl _ w1).drew).trans N.nx).row n.1 n.2);have i:=Z (l.cur B D (Gr.of_eq rfl) rfl);have k1:=l.at_.iq;have t1:=A.1.k 1 rfl;have t2:=A.1.k 2 rfl;have t4:=A.1.k 4 rfl;have q:=l.at_.aA i.1 i.2 a.toNat (by omega);have m:=l.at_.aA i.1 i.2 d.toNat (by omega);rw[show(({K with cT:=l'}:KS).F c).r d.toNat=s from u.out]at m;have a2:=l.at_.hy i.1 i.2 (o+1+a.toNat);have O:=Z (l.at_.a7 i.1 i.2 a.toNat (by omega) r)))
   all_goals
    go_wp2
    go_end0
    rw[E];obtain⟨Q,M,P⟩:=O.out;exact⟨rfl,Q,M,l.trans I P⟩
 ·have E:Hid (bh K c ⟨45,a,d,F,j,G,H⟩=K.ax c a.toNat 0):=Z (by unfold bh;dsimp only;rw[if_neg (by decide),if_neg (by decide),if_pos rfl,if_neg T])
  have I:Hid (Gr K K):=Z (Gr.refl _);go_in
  go_wp2
  try rw[V]
  go_quiet (fail)
  obtain⟨w1,x⟩:=nm (w0.drewN nq);have t:Hid (Ch ag w0 w1):=Z (by rw[<-x];exact ay);rw[x];have g:=Z (J.af t);have f:Hid (aj K c/\aR L Y c b o):=Z ⟨B,D⟩;have n:=Z ((Nx.af t).row z.1 z.2);obtain⟨t0,t1,t2,t3,t4,t5,t6⟩:=n.1.c7;have q:=g.at_.aA f.1 f.2 a.toNat (by omega);rw[show((K:KS).F c).r a.toNat=W from R.out]at q;have m:=g.at_.aA f.1 f.2 d.toNat (by omega);rw[show((K:KS).F c).r d.toNat=s from u.out]at m;have a2:=g.at_.hy f.1 f.2 (o+1+a.toNat);have O:=Z (g.at_.a7 f.1 f.2 a.toNat (by omega) 0);go_wp2
  go_end0
  rw[E];obtain⟨Q,M,P⟩:=O.out;exact⟨rfl,Q,M,g.trans I P⟩
theorem xW(i:Nat)(R:i<K.wk.length)(c:cJ)(b o:Nat)(Q:aj K c)(S:aR L Y c b o)(F:∀k,k<32->aK ((K.F c).r k))(a d l n m p:Int)(P:0<=a/\a<32)(hb:0<=d/\d<32)(h:ae w χ L Y C K):
 Calls prog 141 #[(L.mb,0),(L.wb,i*38),(b,o),.agg #[.int .i64 49,a,d,l,.int .u64 n,m,p]] w (dk (.tuple #[]) χ L Y C K (bD C K i c ⟨49,a,d,l,n,m,p⟩) w):=by
 have a0:=Z h;have r:=Z Q;have s:=Z S;have a2:=Z R;obtain⟨w0,U,a1,v,q⟩:=h.pre 49 a d l n m p;obtain⟨am,ap⟩:=P;obtain⟨W,H⟩:∃y,(K.F c).r a.toNat=y:=⟨_,rfl⟩;have D:=Z H;have B:=Z (F a.toNat (by omega));rw[H]at B;obtain⟨a9,ab⟩:=B.out;obtain⟨av,bi⟩:=hb;obtain⟨g,I⟩:∃y,(K.F c).r d.toNat=y:=⟨_,rfl⟩;have u:=Z I;have t:=Z (F d.toNat (by omega));rw[I]at t;obtain⟨ad,al⟩:=t.out;obtain⟨t0,t1,t2,t3,t4,t5,t6⟩:=q.1.c7;have x:=v.at_.aA r s a.toNat (by omega);rw[D]at x;have z:=v.at_.aA r s d.toNat (by omega);rw[u]at z;have E:Hid (bD C K i c ⟨49,a,d,l,n,m,p⟩=K.ax c a.toNat (ed K.table g)):=Z (by unfold bD;dsimp only;rw[if_neg (by decide),if_neg (by decide),if_neg (by decide),if_pos rfl,u,show IntKind.u64.wrap (ed K.table g)=ed K.table g from by have:=n7 K.table g;unfold IntKind.wrap IntKind.bits IntKind.signed;simp;omega]);go_in
 go_wp2
 try rw[U]
 go_quiet (fail)
 obtain⟨w1,G⟩:=nm (w0.drewN nq);have A:Hid (Ch ag w0 w1):=Z (by rw[<-G];exact ay);rw[G];have j:=Z (v.af A);have f:Hid (aj K c/\aR L Y c b o):=Z ⟨r,s⟩;have M:=Z ((Nx.af A).row q.1 q.2);obtain⟨t0,t1,t2,t3,t4,t5,t6⟩:=M.1.c7;have x:=j.at_.aA f.1 f.2 a.toNat (by omega);rw[show((K:KS).F c).r a.toNat=W from D.out]at x;have z:=j.at_.aA f.1 f.2 d.toNat (by omega);rw[show((K:KS).F c).r d.toNat=g from u.out]at z;have k1:=j.at_.ee;go_wp2_with fail
 refine(uk g t j.at_).mono ?_;rintro e w2 ⟨rfl,rfl⟩;have T:=n7 K.table g;obtain⟨a4,a5⟩:=T;have a3:=j.at_.hy f.1 f.2 (o+1+a.toNat);have O:=Z (j.at_.drew.a7 f.1 f.2 a.toNat (by omega) (ed K.table g));have J:Hid (Gr K _):=Z (Gr.refl K);go_wp2
 go_still_tail 6,(by kernel_rfl)
 change wpList _ _ _ _ _ w1.drew;go_wp2
 go_end0
 rw[E];obtain⟨X,N,V⟩:=O.out;exact⟨rfl,X,N,(j.af ay).trans J V⟩
theorem xX(i:Nat)(a5:i<K.wk.length)(c:cJ)(b o:Nat)(a3:aj K c)(a9:aR L Y c b o)(M:∀k,k<32->aK ((K.F c).r k))(a d p r q s:Int)(a2:0<=a/\a<32)(hb:0<=d/\d<32)(h:ae w χ L Y C K):
 Calls prog 141 #[(L.mb,0),(L.wb,i*38),(b,o),.agg #[.int .i64 50,a,d,p,.int .u64 r,q,s]] w (dk (.tuple #[]) χ L Y C K (bD C K i c ⟨50,a,d,p,r,q,s⟩) w):=by
 have av:=Z h;have v:=Z a3;have x:=Z a9;have bv:=Z a5;obtain⟨w0,ab,bi,D,t⟩:=h.pre 50 a d p r q s;obtain⟨c3,c4⟩:=a2;obtain⟨S,P⟩:∃y,(K.F c).r a.toNat=y:=⟨_,rfl⟩;have A:=Z P;have J:=Z (M a.toNat (by omega));rw[P]at J;obtain⟨bx,c0⟩:=J.out;obtain⟨c5,c6⟩:=hb;obtain⟨G,Q⟩:∃y,(K.F c).r d.toNat=y:=⟨_,rfl⟩;have B:=Z Q;have z:=Z (M d.toNat (by omega));rw[Q]at z;obtain⟨c1,c2⟩:=z.out;obtain⟨t0,t1,t2,t3,t4,t5,t6⟩:=t.1.c7;have l:=D.at_.aA v x a.toNat (by omega);rw[A]at l;have F:=D.at_.aA v x d.toNat (by omega);rw[B]at F;obtain⟨am,N⟩:=nm (fx K.table G);have X:=Z N;have m:=Z (fun w h=>kW (K:=K) (w:=w) (χ:=χ) (L:=L) (Y:=Y) (C:=C) G z h);rw[N]at m;obtain⟨⟨c7,c8,T,c9,cb,cd,ce⟩,ch⟩:=am;unfold iD.val at m;dsimp only at m;have E:Hid (bD C K i c ⟨50,a,d,p,r,q,s⟩=K.ax c a.toNat T):=Z (by unfold bD;dsimp only;rw[if_neg (by decide),if_neg (by decide),if_neg (by decide),if_neg (by decide),if_pos rfl,B,X]);go_in
 go_wp2
 try rw[ab]
 go_quiet (fail)
 obtain⟨w1,O⟩:=nm (w0.drewN nq);have H:Hid (Ch ag w0 w1):=Z (by rw[<-O];exact ay);rw[O];have g:=Z (D.af H);have j:Hid (aj K c/\aR L Y c b o):=Z ⟨v,x⟩;have u:=Z ((Nx.af H).row t.1 t.2);obtain⟨t0,t1,t2,t3,t4,t5,t6⟩:=u.1.c7;have l:=g.at_.aA j.1 j.2 a.toNat (by omega);rw[show((K:KS).F c).r a.toNat=S from A.out]at l;have F:=g.at_.aA j.1 j.2 d.toNat (by omega);rw[show((K:KS).F c).r d.toNat=G from B.out]at F;have k1:=g.at_.ee;go_wp2_with fail
 refine(m _ g.at_).mono ?_;rintro e w2 ⟨rfl,a4⟩;have W:=Z a4;go_upto_region 23 with fail
 generalize ad:w2.alloc _=R;have I:Hid (Ch ag w1 R):=Z (by rw[<-ad];exact W.alloc _);have n:=Z (g.af I);have V:=Z ((Nx.af I).row u.1 u.2);have f:=j;obtain⟨t0,t1,t2,t3,t4,t5,t6⟩:=V.1.c7;have l:=n.at_.aA f.1 f.2 a.toNat (by omega);rw[show((K:KS).F c).r a.toNat=S from A.out]at l;have bw:=n.at_.hy f.1 f.2 (o+1+a.toNat);have a1:=Z (n.at_.drew.a7 f.1 f.2 a.toNat (by omega) T);have U:Hid (Gr K _):=Z (Gr.refl K);go_wp2
 go_still_tail 6,(by kernel_rfl)
 change wpList _ _ _ _ _ R.drew;go_wp2
 go_end0
 rw[E];obtain⟨ap,a0,al⟩:=a1.out;exact⟨rfl,ap,a0,(n.af ay).trans U al⟩
theorem xY(i:Nat)(bw:i<K.wk.length)(c:cJ)(b o:Nat)(bv:aj K c)(bx:aR L Y c b o)(a4:∀k,k<32->aK ((K.F c).r k))(a d I M J N:Int)(av:0<=a/\a<32)(hb:0<=d/\d<32)(bi:K.blocks.Ok)(h:ae w χ L Y C K):
 Calls prog 141 #[(L.mb,0),(L.wb,i*38),(b,o),.agg #[.int .i64 54,a,d,I,.int .u64 M,J,N]] w (dk (.tuple #[]) χ L Y C K (bD C K i c ⟨54,a,d,I,M,J,N⟩) w):=by
 have c5:=Z h;have p:=Z bv;have q:=Z bx;have c7:=Z bw;obtain⟨w0,a9,c6,P,u⟩:=h.pre 54 a d I M J N;obtain⟨ch,ci⟩:=av;obtain⟨Q,ab⟩:∃y,(K.F c).r a.toNat=y:=⟨_,rfl⟩;have A:=Z ab;have a2:=Z (a4 a.toNat (by omega));rw[ab]at a2;obtain⟨c9,cb⟩:=a2.out;obtain⟨cl,cm⟩:=hb;obtain⟨r,ad⟩:∃y,(K.F c).r d.toNat=y:=⟨_,rfl⟩;have B:=Z ad;have O:=Z (a4 d.toNat (by omega));rw[ad]at O;obtain⟨cd,ce⟩:=O.out;obtain⟨t0,t1,t2,t3,t4,t5,t6⟩:=u.1.c7;have j:=P.at_.aA p q a.toNat (by omega);rw[A]at j;have H:=P.at_.aA p q d.toNat (by omega);rw[B]at H;obtain⟨c1,a5⟩:=nm (fy K.table r);have a1:=Z a5;have T:=Z (fun w h=>zU (K:=K) (w:=w) (χ:=χ) (L:=L) (Y:=Y) (C:=C) r O h);rw[a5]at T;obtain⟨cq,R,X,c3,t⟩:=c1;cases c3
 ·have E:Hid (bD C K i c ⟨54,a,d,I,M,J,N⟩=({K with table:=t}:KS).ax c a.toNat R):=Z (by unfold bD;dsimp only;rw[if_neg (by decide),if_neg (by decide),if_pos rfl,B,a1];rfl)
  go_in
  go_wp2
  try rw[a9]
  go_quiet (fail)
  obtain⟨w1,G⟩:=nm (w0.drewN nq);have z:Hid (Ch ag w0 w1):=Z (by rw[<-G];exact ay);rw[G];have f:=Z (P.af z);have l:Hid (aj K c/\aR L Y c b o):=Z ⟨p,q⟩;have n:=Z ((Nx.af z).row u.1 u.2);obtain⟨t0,t1,t2,t3,t4,t5,t6⟩:=n.1.c7;have j:=f.at_.aA l.1 l.2 a.toNat (by omega);rw[show((K:KS).F c).r a.toNat=Q from A.out]at j;have H:=f.at_.aA l.1 l.2 d.toNat (by omega);rw[show((K:KS).F c).r d.toNat=r from B.out]at H;have k1:=f.at_.ee;go_wp2_with fail
  refine(T _ f.at_).mono ?_;rintro e w2 ⟨⟨v,rfl,c0⟩,c4,am,F⟩;have g:=Z (f.trans (Gr.refl _) F);have x:=Z (F.nx.row n.1 n.2);have m:=Z (g.cur p q (Gr.of_eq rfl) (rfl));obtain⟨t0,t1,t2,t3,t4,t5,t6⟩:=x.1.c7;have j:=g.at_.aA m.1 m.2 a.toNat (by omega);rw[show(({K with table:=t}:KS).F c).r a.toNat=Q from A.out]at j;have ap:=g.at_.hy m.1 m.2 (o+1+a.toNat);have V:=Z (g.at_.drew.a7 m.1 m.2 a.toNat (by omega) R);have S:Hid (Gr K _):=Z (Gr.of_eq rfl);go_wp2
  go_still_tail 6,(by kernel_rfl)
  change wpList _ _ _ _ _ w2.drew;go_wp2
  go_end0
  rw[E];obtain⟨a0,U,W⟩:=V.out;exact⟨rfl,a0,U,(g.af ay).trans S W⟩
 ·have E:Hid (bD C K i c ⟨54,a,d,I,M,J,N⟩=(eo {K with table:=t} r X).ax c a.toNat R):=Z (by unfold bD;dsimp only;rw[if_neg (by decide),if_neg (by decide),if_pos rfl,B,a1];rfl)
  go_in
  go_wp2
  try rw[a9]
  go_quiet (fail)
  obtain⟨w1,G⟩:=nm (w0.drewN nq);have z:Hid (Ch ag w0 w1):=Z (by rw[<-G];exact ay);rw[G];have f:=Z (P.af z);have l:Hid (aj K c/\aR L Y c b o):=Z ⟨p,q⟩;have n:=Z ((Nx.af z).row u.1 u.2);obtain⟨t0,t1,t2,t3,t4,t5,t6⟩:=n.1.c7;have j:=f.at_.aA l.1 l.2 a.toNat (by omega);rw[show((K:KS).F c).r a.toNat=Q from A.out]at j;have H:=f.at_.aA l.1 l.2 d.toNat (by omega);rw[show((K:KS).F c).r d.toNat=r from B.out]at H;have k1:=f.at_.ee;go_wp2_with fail
  refine(T _ f.at_).mono ?_;rintro e w2 ⟨⟨v,rfl,c0⟩,c4,am,F⟩;have g:=Z (f.trans (Gr.refl _) F);have x:=Z (F.nx.row n.1 n.2);have m:=Z (g.cur p q (Gr.of_eq rfl) (rfl));obtain⟨t0,t1,t2,t3,t4,t5,t6⟩:=x.1.c7;have j:=g.at_.aA m.1 m.2 a.toNat (by omega);rw[show(({K with table:=t}:KS).F c).r a.toNat=Q from A.out]at j;go_wp2_with fail
  refine(lV (K:={K with table:=t}) r X O (by exact bi) g.at_).mono ?_;rintro e c2 ⟨rfl,cs,c8,a3⟩;have D:=Z (g.trans (Gr.of_eq rfl) a3);have al:=Z (a3.nx.row x.1 x.2);have s:=Z (D.cur p q (Gr.of_eq (hg _ _ _)) (by rw[kZ]));obtain⟨t0,t1,t2,t3,t4,t5,t6⟩:=al.1.c7;have j:=D.at_.aA s.1 s.2 a.toNat (by omega);have ap:=D.at_.hy s.1 s.2 (o+1+a.toNat);have V:=Z (D.at_.drew.a7 s.1 s.2 a.toNat (by omega) R);have S:Hid (Gr K _):=Z (Gr.of_eq (hg {K with table:=t} r X));go_wp2
  go_still_tail 6,(by kernel_rfl)
  change wpList _ _ _ _ _ c2.drew;go_wp2
  go_end0
  rw[E];obtain⟨a0,U,W⟩:=V.out;exact⟨rfl,a0,U,(D.af ay).trans S W⟩
theorem xZ(i:Nat)(cs:i<K.wk.length)(c:cJ)(b o:Nat)(cq:aj K c)(cA:aR L Y c b o)(c6:∀k,k<32->aK ((K.F c).r k))(a g a3 a5 a4 a9:Int)(cl:0<=a/\a<32)(hb:0<=g/\g<32)(cm:K.blocks.Ok)(h:ae w χ L Y C K):
 Calls prog 141 #[(L.mb,0),(L.wb,i*38),(b,o),.agg #[.int .i64 52,a,g,a3,.int .u64 a5,a4,a9]] w (dk (.tuple #[]) χ L Y C K (bD C K i c ⟨52,a,g,a3,a5,a4,a9⟩) w):=by
 have cW:=Z h;have F:=Z cq;have G:=Z cA;have dC:=Z cs;obtain⟨w0,c8,dr,ab,M⟩:=h.pre 52 a g a3 a5 a4 a9;obtain⟨ex,eA⟩:=cl;obtain⟨d,c9⟩:∃y,(K.F c).r a.toNat=y:=⟨_,rfl⟩;have p:=Z c9;have S:=Z (c6 a.toNat (by omega));rw[c9]at S;obtain⟨ej,en⟩:=S.out;obtain⟨eC,eL⟩:=hb;obtain⟨cd,cb⟩:∃y,(K.F c).r g.toNat=y:=⟨_,rfl⟩;have am:=Z cb;have c2:=Z (c6 g.toNat (by omega));rw[cb]at c2;obtain⟨es,et⟩:=c2.out;obtain⟨t0,t1,t2,t3,t4,t5,t6⟩:=M.1.c7;have f:=ab.at_.aA F G a.toNat (by omega);rw[p]at f;have a1:=ab.at_.aA F G g.toNat (by omega);rw[am]at a1;obtain⟨cL,c7⟩:=nm (fx K.table d);have c1:=Z c7;have R:=Z (fun w h=>kW (K:=K) (w:=w) (χ:=χ) (L:=L) (Y:=Y) (C:=C) d S h);rw[c7]at R;obtain⟨⟨s,t,m,u,x,z,A⟩,eW⟩:=cL;unfold iD.val at R;dsimp only at R;obtain⟨cC,c5⟩:=nm (e8 K.table d);have c0:=Z c5;have al:=Z (fun w h=>xA (K:=K) (w:=w) (χ:=χ) (L:=L) (Y:=Y) (C:=C) d S h);rw[c5]at al;obtain⟨ok,J⟩:=cC;cases ok
 ·have E:Hid (bD C K i c ⟨52,a,g,a3,a5,a4,a9⟩=({K with table:=J}:KS).ax c a.toNat d):=Z (by unfold bD;dsimp only;rw[if_neg (by decide),if_pos rfl,p,c1,c0];rfl)
  go_in
  go_wp2
  try rw[c8]
  go_quiet (fail)
  obtain⟨w1,X⟩:=nm (w0.drewN nq);have O:Hid (Ch ag w0 w1):=Z (by rw[<-X];exact ay);rw[X];have j:=Z (ab.af O);have l:Hid (aj K c/\aR L Y c b o):=Z ⟨F,G⟩;have B:=Z ((Nx.af O).row M.1 M.2);obtain⟨t0,t1,t2,t3,t4,t5,t6⟩:=B.1.c7;have f:=j.at_.aA l.1 l.2 a.toNat (by omega);rw[show((K:KS).F c).r a.toNat=d from p.out]at f;have a1:=j.at_.aA l.1 l.2 g.toNat (by omega);rw[show((K:KS).F c).r g.toNat=cd from am.out]at a1;have k1:=j.at_.ee;go_wp2_with fail
  refine(R _ j.at_).mono ?_;rintro e w2 ⟨rfl,bi⟩;have P:=Z bi;go_upto_region 11 with fail
  have T:Hid (Row (w2.alloc (.cells #[.int .u64 s,t,.int .u64 m,.int .u64 u,.int .u64 x,.bool z,.bool A] 99)) w2.heap.size 99 [.int .u64 s,t,.int .u64 m,.int .u64 u,.int .u64 x,.bool z,.bool A]):=Z (Row.new w2 _ _);obtain⟨a2,a0⟩:=nm (w2.alloc (.cells #[.int .u64 s,t,.int .u64 m,.int .u64 u,.int .u64 x,.bool z,.bool A] 99));rw[a0]at T⊢;have Q:Hid (Ch ag w1 a2):=Z (by rw[<-a0];exact P.alloc _);have q:=Z (j.af Q);have D:=Z ((Nx.af Q).row B.1 B.2);have W:=l;have U:Hid (Row a2 w2.heap.size 99 [.int .u64 s,t,.int .u64 m,.int .u64 u,.int .u64 x,.bool z,.bool A]/\χ w2.heap.size=.no):=Z ⟨T,j.at_.fresh P.size⟩;obtain⟨t0,t1,t2,t3,t4,t5,t6⟩:=D.1.c7;have f:=q.at_.aA W.1 W.2 a.toNat (by omega);rw[show((K:KS).F c).r a.toNat=d from p.out]at f;have k1:=q.at_.ee;go_wp2_with fail
  refine(al _ q.at_).mono ?_;rintro e w4 ⟨⟨v,rfl,bv⟩,cS,ch,H⟩;obtain⟨tt,eS,rfl⟩:=bv;have c3:=Z (H.nx.row U.1 U.2);have n:=Z (q.trans (Gr.refl _) H);have N:=Z (H.nx.row D.1 D.2);have r:=Z (n.cur F G (Gr.of_eq rfl) (rfl));obtain⟨t0,t1,t2,t3,t4,t5,t6⟩:=N.1.c7;have f:=n.at_.aA r.1 r.2 a.toNat (by omega);rw[show(({K with table:=J}:KS).F c).r a.toNat=d from p.out]at f;have ci:=n.at_.hy r.1 r.2 (o+1+a.toNat);have av:=Z (n.at_.drew.a7 r.1 r.2 a.toNat (by omega) d);have ad:Hid (Gr K _):=Z (Gr.of_eq rfl);go_wp2
  go_still_tail 6,(by kernel_rfl)
  change wpList _ _ _ _ _ w4.drew;go_wp2
  go_end0
  rw[E];obtain⟨bx,ap,bw⟩:=av.out;exact⟨rfl,bx,ap,(n.af ay).trans ad bw⟩
 ·have E:Hid (bD C K i c ⟨52,a,g,a3,a5,a4,a9⟩=(eo {K with table:=J} d m).ax c a.toNat d):=Z (by unfold bD;dsimp only;rw[if_neg (by decide),if_pos rfl,p,c1,c0];rfl)
  go_in
  go_wp2
  try rw[c8]
  go_quiet (fail)
  obtain⟨w1,X⟩:=nm (w0.drewN nq);have O:Hid (Ch ag w0 w1):=Z (by rw[<-X];exact ay);rw[X];have j:=Z (ab.af O);have l:Hid (aj K c/\aR L Y c b o):=Z ⟨F,G⟩;have B:=Z ((Nx.af O).row M.1 M.2);obtain⟨t0,t1,t2,t3,t4,t5,t6⟩:=B.1.c7;have f:=j.at_.aA l.1 l.2 a.toNat (by omega);rw[show((K:KS).F c).r a.toNat=d from p.out]at f;have a1:=j.at_.aA l.1 l.2 g.toNat (by omega);rw[show((K:KS).F c).r g.toNat=cd from am.out]at a1;have k1:=j.at_.ee;go_wp2_with fail
  refine(R _ j.at_).mono ?_;rintro e w2 ⟨rfl,bi⟩;have P:=Z bi;go_upto_region 11 with fail
  have T:Hid (Row (w2.alloc (.cells #[.int .u64 s,t,.int .u64 m,.int .u64 u,.int .u64 x,.bool z,.bool A] 99)) w2.heap.size 99 [.int .u64 s,t,.int .u64 m,.int .u64 u,.int .u64 x,.bool z,.bool A]):=Z (Row.new w2 _ _);obtain⟨a2,a0⟩:=nm (w2.alloc (.cells #[.int .u64 s,t,.int .u64 m,.int .u64 u,.int .u64 x,.bool z,.bool A] 99));rw[a0]at T⊢;have Q:Hid (Ch ag w1 a2):=Z (by rw[<-a0];exact P.alloc _);have q:=Z (j.af Q);have D:=Z ((Nx.af Q).row B.1 B.2);have W:=l;have U:Hid (Row a2 w2.heap.size 99 [.int .u64 s,t,.int .u64 m,.int .u64 u,.int .u64 x,.bool z,.bool A]/\χ w2.heap.size=.no):=Z ⟨T,j.at_.fresh P.size⟩;obtain⟨t0,t1,t2,t3,t4,t5,t6⟩:=D.1.c7;have f:=q.at_.aA W.1 W.2 a.toNat (by omega);rw[show((K:KS).F c).r a.toNat=d from p.out]at f;have k1:=q.at_.ee;go_wp2_with fail
  refine(al _ q.at_).mono ?_;rintro e w4 ⟨⟨v,rfl,bv⟩,cS,ch,H⟩;obtain rfl:v=.nilIface:=bv;have c3:=Z (H.nx.row U.1 U.2);have n:=Z (q.trans (Gr.refl _) H);have N:=Z (H.nx.row D.1 D.2);have r:=Z (n.cur F G (Gr.of_eq rfl) (rfl));obtain⟨t0,t1,t2,t3,t4,t5,t6⟩:=N.1.c7;have f:=n.at_.aA r.1 r.2 a.toNat (by omega);rw[show(({K with table:=J}:KS).F c).r a.toNat=d from p.out]at f;have eV:=c3.1.k 2 rfl;go_wp2_with fail
  refine(lV (K:={K with table:=J}) d m S (by exact cm) n.at_).mono ?_;rintro e cQ ⟨rfl,fb,dN,c4⟩;have V:=Z (n.trans (Gr.of_eq rfl) c4);have ce:=Z (c4.nx.row N.1 N.2);have I:=Z (V.cur F G (Gr.of_eq (hg _ _ _)) (by rw[kZ]));obtain⟨t0,t1,t2,t3,t4,t5,t6⟩:=ce.1.c7;have f:=V.at_.aA I.1 I.2 a.toNat (by omega);have ci:=V.at_.hy I.1 I.2 (o+1+a.toNat);have av:=Z (V.at_.drew.a7 I.1 I.2 a.toNat (by omega) d);have ad:Hid (Gr K _):=Z (Gr.of_eq (hg {K with table:=J} d m));go_wp2
  go_still_tail 6,(by kernel_rfl)
  change wpList _ _ _ _ _ cQ.drew;go_wp2
  go_end0
  rw[E];obtain⟨bx,ap,bw⟩:=av.out;exact⟨rfl,bx,ap,(V.af ay).trans ad bw⟩
theorem x'(i:Nat)(ce:i<K.wk.length)(c:cJ)(b o:Nat)(cb:aj K c)(ci:aR L Y c b o)(a5:∀k,k<32->aK ((K.F c).r k))(a g j R Q S:Int)(c7:0<=a/\a<32)(hb:0<=g/\g<32)(cd:0<=j/\j<32)(dr:C.bs.length<=2048)(c8:K.blocks.Ok)(c9:(df K.blocks K.mem 1).2.1.Ok)(bx:∀ch id,(dh K.table ch).1=some id->aw K.ai id=none)(cl:aK (bQ K (wrap64 ((K.F c).r g.toNat)) ((K.F c).r j.toNat)).1)(h:ae w χ L Y C K):
 Calls prog 141 #[(L.mb,0),(L.wb,i*38),(b,o),.agg #[.int .i64 48,a,g,j,.int .u64 R,Q,S]] w (dk (.tuple #[]) χ L Y C K (bD C K i c ⟨48,a,g,j,R,Q,S⟩) w):=by
 have cL:=Z h;have t:=Z cb;have u:=Z ci;have c5:=Z ce;obtain⟨w0,ab,cQ,N,D⟩:=h.pre 48 a g j R Q S;obtain⟨eC,eL⟩:=c7;obtain⟨ad,c1⟩:∃y,(K.F c).r a.toNat=y:=⟨_,rfl⟩;have a3:=Z c1;have ap:=Z (a5 a.toNat (by omega));rw[c1]at ap;obtain⟨ej,en⟩:=ap.out;obtain⟨eS,eV⟩:=hb;obtain⟨l,c2⟩:∃y,(K.F c).r g.toNat=y:=⟨_,rfl⟩;have z:=Z c2;have av:=Z (a5 g.toNat (by omega));rw[c2]at av;obtain⟨es,et⟩:=av.out;obtain⟨eW,fb⟩:=cd;obtain⟨J,c3⟩:∃y,(K.F c).r j.toNat=y:=⟨_,rfl⟩;have F:=Z c3;have bi:=Z (a5 j.toNat (by omega));rw[c3]at bi;obtain⟨ex,eA⟩:=bi.out;obtain⟨t0,t1,t2,t3,t4,t5,t6⟩:=D.1.c7;have r:=N.at_.aA t u a.toNat (by omega);rw[a3]at r;have H:=N.at_.aA t u g.toNat (by omega);rw[z]at H;have I:=N.at_.aA t u j.toNat (by omega);rw[F]at I;obtain⟨n,a4⟩:=nm C.bs.length;have M:=Z a4;have dN:(n:Int)<=2048:=by omega
 by_cases G:l<(n:Int)
 ·have cm:wrap64 l=l:=by unfold wrap64;omega
  have dC:IntKind.i64.wrap l=l:=IntWalk.i64_in _ (by omega);have V:=Z (fun w h=>xH (K:=K) (w:=w) (χ:=χ) (L:=L) (Y:=Y) (C:=C) (wrap64 l) J c8 c9 bx h);have m:=Z (And.intro (k6 (K:=K) (wrap64 l) J bx) (n9 (K:=K) (wrap64 l) J));have a9:=cl;rw[z,F]at a9;obtain⟨p,c0⟩:=nm (bQ K (wrap64 l) J);have al:=Z c0;rw[c0]at V m a9;rw[cm]at V;obtain⟨P,K'⟩:=p;have am:=Z a9;have G:=(show l<(C.bs.length:Int)by rw[a4];exact G);rw[a4]at G;have cS:=Z G;obtain⟨cq,cs⟩:=am.out;dsimp only at cq cs V m;by_cases B:P=0
  ·subst B
   have E:Hid (bD C K i c ⟨48,a,g,j,R,Q,S⟩=K'.ax c a.toNat 0):=Z (by unfold bD;dsimp only;rw[if_pos rfl,z,F,M,if_pos G,al];rfl);go_in
   go_wp2
   try rw[ab]
   go_quiet (fail)
   obtain⟨w1,A⟩:=nm (w0.drewN nq);have x:Hid (Ch ag w0 w1):=Z (by rw[<-A];exact ay);rw[A];have f:=Z (N.af x);have d:Hid (aj K c/\aR L Y c b o):=Z ⟨t,u⟩;have s:=Z ((Nx.af x).row D.1 D.2);obtain⟨t0,t1,t2,t3,t4,t5,t6⟩:=s.1.c7;have r:=f.at_.aA d.1 d.2 a.toNat (by omega);rw[show((K:KS).F c).r a.toNat=ad from a3.out]at r;have H:=f.at_.aA d.1 d.2 g.toNat (by omega);rw[show((K:KS).F c).r g.toNat=l from z.out]at H;have I:=f.at_.aA d.1 d.2 j.toNat (by omega);rw[show((K:KS).F c).r j.toNat=J from F.out]at I;have k1:=f.at_.c3;rw[M]at k1;go_wp2_with fail
   go_wp2
   go_still_tail 10,(by kernel_rfl)
   change wpList _ _ _ _ _ w1.drew;go_wp2_with fail
   refine(V _ f.at_.drew).mono ?_;rintro e w2 ⟨rfl,cC,c6,a0⟩;have q:=Z ((f.af ay).trans (Gr.refl _) a0);have U:=Z (((Nx.af (Ch.refl _ w1).drew).trans a0.nx).row s.1 s.2);have v:=Z (q.cur t u (m.1) (by rw[m.2]));obtain⟨t0,t1,t2,t3,t4,t5,t6⟩:=U.1.c7;have r:=q.at_.aA v.1 v.2 a.toNat (by omega);have bv:=q.at_.hy v.1 v.2 (o+1+a.toNat);have a1:=Z (q.at_.drew.a7 v.1 v.2 a.toNat (by omega) 0);have T:Hid (Gr K _):=Z (m.1);go_wp2
   go_still_tail 6,(by kernel_rfl)
   change wpList _ _ _ _ _ w2.drew;go_wp2
   go_end0
   rw[E];obtain⟨a2,X,B⟩:=a1.out;exact⟨rfl,a2,X,(q.af ay).trans T B⟩
  ·have E:Hid (bD C K i c ⟨48,a,g,j,R,Q,S⟩=(ep K' i P).ax c a.toNat P):=Z (by unfold bD;dsimp only;rw[if_pos rfl,z,F,M,if_pos G,al];rw[if_pos B])
   go_in
   go_wp2
   try rw[ab]
   go_quiet (fail)
   obtain⟨w1,A⟩:=nm (w0.drewN nq);have x:Hid (Ch ag w0 w1):=Z (by rw[<-A];exact ay);rw[A];have f:=Z (N.af x);have d:Hid (aj K c/\aR L Y c b o):=Z ⟨t,u⟩;have s:=Z ((Nx.af x).row D.1 D.2);obtain⟨t0,t1,t2,t3,t4,t5,t6⟩:=s.1.c7;have r:=f.at_.aA d.1 d.2 a.toNat (by omega);rw[show((K:KS).F c).r a.toNat=ad from a3.out]at r;have H:=f.at_.aA d.1 d.2 g.toNat (by omega);rw[show((K:KS).F c).r g.toNat=l from z.out]at H;have I:=f.at_.aA d.1 d.2 j.toNat (by omega);rw[show((K:KS).F c).r j.toNat=J from F.out]at I;have k1:=f.at_.c3;rw[M]at k1;go_wp2_with fail
   go_wp2
   go_still_tail 10,(by kernel_rfl)
   change wpList _ _ _ _ _ w1.drew;go_wp2_with fail
   refine(V _ f.at_.drew).mono ?_;rintro e w2 ⟨rfl,cC,c6,a0⟩;have q:=Z ((f.af ay).trans (Gr.refl _) a0);have U:=Z (((Nx.af (Ch.refl _ w1).drew).trans a0.nx).row s.1 s.2);have v:=Z (q.cur t u (m.1) (by rw[m.2]));obtain⟨t0,t1,t2,t3,t4,t5,t6⟩:=U.1.c7;have r:=q.at_.aA v.1 v.2 a.toNat (by omega);go_wp2_with fail
   refine(lU (K:=K') i (by rw[m.2];exact c5) P am q.at_).mono ?_;rintro e cA ⟨rfl,fd,cW,bw⟩;have W:=Z (q.trans (m.1) bw);have c4:=Z (bw.nx.row U.1 U.2);have O:=Z (W.cur t u (m.1.trans (dV _ _ _)) (by rw[fE,m.2]));obtain⟨t0,t1,t2,t3,t4,t5,t6⟩:=c4.1.c7;have r:=W.at_.aA O.1 O.2 a.toNat (by omega);have bv:=W.at_.hy O.1 O.2 (o+1+a.toNat);have a1:=Z (W.at_.drew.a7 O.1 O.2 a.toNat (by omega) P);have T:Hid (Gr K _):=Z (m.1.trans (dV K' i P));go_wp2
   go_still_tail 6,(by kernel_rfl)
   change wpList _ _ _ _ _ cA.drew;go_wp2
   go_end0
   rw[E];obtain⟨a2,X,B⟩:=a1.out;exact⟨rfl,a2,X,(W.af ay).trans T B⟩
 ·have E:Hid (bD C K i c ⟨48,a,g,j,R,Q,S⟩=K.ax c a.toNat 0):=Z (by unfold bD;dsimp only;rw[if_pos rfl,z,M,if_neg G])
  go_in
  go_wp2
  try rw[ab]
  go_quiet (fail)
  obtain⟨w1,A⟩:=nm (w0.drewN nq);have x:Hid (Ch ag w0 w1):=Z (by rw[<-A];exact ay);rw[A];have f:=Z (N.af x);have d:Hid (aj K c/\aR L Y c b o):=Z ⟨t,u⟩;have s:=Z ((Nx.af x).row D.1 D.2);obtain⟨t0,t1,t2,t3,t4,t5,t6⟩:=s.1.c7;have r:=f.at_.aA d.1 d.2 a.toNat (by omega);rw[show((K:KS).F c).r a.toNat=ad from a3.out]at r;have H:=f.at_.aA d.1 d.2 g.toNat (by omega);rw[show((K:KS).F c).r g.toNat=l from z.out]at H;have I:=f.at_.aA d.1 d.2 j.toNat (by omega);rw[show((K:KS).F c).r j.toNat=J from F.out]at I;have k1:=f.at_.c3;rw[M]at k1;go_wp2_with fail
  have bv:=f.at_.hy d.1 d.2 (o+1+a.toNat);have a1:=Z (f.at_.drew.a7 d.1 d.2 a.toNat (by omega) 0);have T:Hid (Gr K _):=Z (Gr.refl K);go_wp2
  go_still_tail 6,(by kernel_rfl)
  change wpList _ _ _ _ _ w1.drew;go_wp2
  go_end0
  rw[E];obtain⟨a2,X,B⟩:=a1.out;exact⟨rfl,a2,X,(f.af ay).trans T B⟩
variable{pid:Int}{t:Thread}
def b3(K:KS)(pid v:Int):KS:=if(aw K.ai pid).isSome then K.cp pid {K.T pid with eY:=v}else K
theorem hP(h:aw K.ai pid=some t)(v:Int):b3 K pid v=K.cp pid {t with eY:=v}:=by unfold b3;rw[if_pos (by rw[h];rfl),KS.dm h]
theorem hQ(h:aw K.ai pid=none)(v:Int):b3 K pid v=K:=by unfold b3;rw[if_neg (by rw[h];simp)]
theorem hc(i:Nat)(c:cJ)(e g h m l n:Int){b d:Int}{f:Bool}{a:List (List fQ)}(hb:(K.F c).r g.toNat=b)(j:(K.F c).r h.toNat=d)(k:eJ K.q b d=(pid,f,a)):
 bl K i c ⟨25,e,g,h,m,l,n⟩=if f then(if cz (b3 {K with q:=a,clock:=(K.clock.bp pid).2} pid 0) pid=3 then ep (b3 {K with q:=a,clock:=(K.clock.bp pid).2} pid 0) i pid else(b3 {K with q:=a,clock:=(K.clock.bp pid).2} pid 0)).ax c e.toNat pid else({K with q:=a}:KS).ax c e.toNat 0:=by
 unfold bl;dsimp only;rw[if_pos rfl,hb,j,k];rfl
theorem uz(q:List (List fQ))(a m:Int):(eJ q a m).2.1=false->(eJ q a m).1=0:=by
 unfold eJ;split
 ·exact fun _=>rfl
 ·intro h;cases h
theorem qQ{id:Int}{b:Thread}(d:aw K.ai id=some t)(c:t.l.length<=b.l.length):Gr K (K.cp id b):=by
 intro j u a;show∃v,aw (cn K.ai id b) j=some v/\_
 rw[aV];by_cases e:j=id
 ·subst e
  rw[d]at a;injection a with a;subst a
  rw[if_pos rfl];exact⟨_,rfl,c⟩
 ·rw[if_neg e];exact⟨u,a,Nat.le_refl _⟩
theorem sA(i:Nat)(dN:i<K.wk.length)(c:cJ)(b o:Nat)(cW:aj K c)(ej:aR L Y c b o)(bi:∀k,k<32->aK ((K.F c).r k))(a d f A z B:Int)(cS:0<=a/\a<32)(hb:0<=d/\d<32)(dr:0<=f/\f<32)(dC:K.clock.Ok)(a4:aK (eJ K.q ((K.F c).r d.toNat) ((K.F c).r f.toNat)).1)(h:ae w χ L Y C K):
 Calls prog 142 #[(L.mb,0),(L.wb,i*38),(b,o),.agg #[.int .i64 25,a,d,f,.int .u64 A,z,B]] w (dk (.tuple #[]) χ L Y C K (bl K i c ⟨25,a,d,f,A,z,B⟩) w):=by
 have fd:=Z h;have l:=Z cW;have m:=Z ej;have cL:=Z dN;obtain⟨w0,et,fn,a3,a5⟩:=h.pre 25 a d f A z B;obtain⟨g7,g8⟩:=cS;obtain⟨fb,cm⟩:∃y,(K.F c).r a.toNat=y:=⟨_,rfl⟩;have c7:=Z cm;have c4:=Z (bi a.toNat (by omega));rw[cm]at c4;obtain⟨g1,g2⟩:=c4.out;obtain⟨g9,gc⟩:=hb;obtain⟨bx,cq⟩:∃y,(K.F c).r d.toNat=y:=⟨_,rfl⟩;have F:=Z cq;have c5:=Z (bi d.toNat (by omega));rw[cq]at c5;obtain⟨g3,g4⟩:=c5.out;obtain⟨ge,gf⟩:=dr;obtain⟨c0,cs⟩:∃y,(K.F c).r f.toNat=y:=⟨_,rfl⟩;have G:=Z cs;have c6:=Z (bi f.toNat (by omega));rw[cs]at c6;obtain⟨g5,g6⟩:=c6.out;obtain⟨t0,t1,t2,t3,t4,t5,t6⟩:=a5.1.c7;have S:=a3.at_.aA l m a.toNat (by omega);rw[c7]at S;have bv:=a3.at_.aA l m d.toNat (by omega);rw[F]at bv;have bw:=a3.at_.aA l m f.toNat (by omega);rw[G]at bw;rw[F,G]at a4;obtain⟨p,av⟩:=nm (eJ K.q bx c0);have ap:=Z av;have c3:=Z (fun w h=>Ef (K:=K) (w:=w) (χ:=χ) (L:=L) (Y:=Y) (C:=C) bx c0 h);have s:p.2.1=false->p.1=0:=by rw[<-av];exact uz _ _ _
 rw[av]at c3 a4;obtain⟨pid,eL,u⟩:=p;dsimp only at s a4;have c2:=Z a4;have cC:=Z dC;go_in
 go_wp2
 try rw[et]
 go_quiet (fail)
 obtain⟨w1,cl⟩:=nm (w0.drewN nq);have c1:Hid (Ch ag w0 w1):=Z (by rw[<-cl];exact ay);rw[cl];have H:=Z (a3.af c1);have M:Hid (aj K c/\aR L Y c b o):=Z ⟨l,m⟩;have a9:=Z ((Nx.af c1).row a5.1 a5.2);obtain⟨t0,t1,t2,t3,t4,t5,t6⟩:=a9.1.c7;have S:=H.at_.aA M.1 M.2 a.toNat (by omega);rw[show((K:KS).F c).r a.toNat=fb from c7.out]at S;have bv:=H.at_.aA M.1 M.2 d.toNat (by omega);rw[show((K:KS).F c).r d.toNat=bx from F.out]at bv;have bw:=H.at_.aA M.1 M.2 f.toNat (by omega);rw[show((K:KS).F c).r f.toNat=c0 from G.out]at bw;have k1:=H.at_.v8;go_wp2_with fail
 refine(c3 _ H.at_).mono ?_;rintro e w2 ⟨rfl,gk,fz,cb⟩;have v:=Z (H.trans (Gr.refl _) cb);have ab:=Z (cb.nx.row a9.1 a9.2);have N:=Z (v.cur l m (Gr.of_eq rfl) (rfl));obtain⟨t0,t1,t2,t3,t4,t5,t6⟩:=ab.1.c7;cases eL
 ·obtain rfl:pid=0:=s rfl
  have E:Hid (bl K i c ⟨25,a,d,f,A,z,B⟩=({K with q:=u}:KS).ax c a.toNat 0):=Z (by unfold bl;dsimp only;rw[if_pos rfl,F,G,ap];rfl);have S:=v.at_.aA N.1 N.2 a.toNat (by omega);have c9:=v.at_.hy N.1 N.2 (o+1+a.toNat);have j:=Z (v.at_.drew.a7 N.1 N.2 a.toNat (by omega) 0);have T:Hid (Gr K _):=Z (Gr.of_eq rfl);go_wp2
  go_still_tail 6,(by kernel_rfl)
  change wpList _ _ _ _ _ w2.drew;go_wp2
  go_end0
  rw[E];obtain⟨a0,X,s⟩:=j.out;exact⟨rfl,a0,X,(v.af ay).trans T s⟩
 ·clear s
  have k1:=v.at_.j2;go_wp2_with fail
  refine(kX pid (by exact cC) v.at_).mono ?_;rintro e eS ⟨rfl,go,cQ,cd⟩;have x:=Z (v.trans (Gr.of_eq rfl) cd);have a1:=Z (cd.nx.row ab.1 ab.2);have fr:=Z (x.cur l m (Gr.of_eq rfl) (rfl));obtain⟨t0,t1,t2,t3,t4,t5,t6⟩:=a1.1.c7;have k1:=x.at_.hN;have Q:=x.at_.look pid;cases ci:aw K.ai pid
  case' none=>
   have n:=Z ci;obtain⟨g,r⟩:=mn (({K with q:=u,clock:=(K.clock.bp pid).2}:KS));have al:=Z r;have am:Hid (g=b3 ({K with q:=u,clock:=(K.clock.bp pid).2}:KS) pid 0):=Z (by rw[r];exact(hQ (by exact n) 0).symm);have D:Hid (Gr K g):=Z (by rw[r];exact Gr.of_eq rfl);have V:Hid (g.wk.length=K.wk.length):=Z (by rw[r];try rfl);rw[show aw (({K with q:=u,clock:=(K.clock.bp pid).2}:KS)).ai pid=_ from n.out]at Q;dsimp only[Option.map,Option.getD]at Q;go_wp2_with fail
   have I:=x;rw[<-al]at I;have ad:=a1;have c8:=Z (I.cur l m D V)
  case' some t=>
   have n:=Z ci;obtain⟨g,r⟩:=mn ((({K with q:=u,clock:=(K.clock.bp pid).2}:KS).cp pid {t with eY:=0}));have al:=Z r;have am:Hid (g=b3 ({K with q:=u,clock:=(K.clock.bp pid).2}:KS) pid 0):=Z (by rw[r];exact(hP (by exact n) 0).symm);have D:Hid (Gr K g):=Z (by rw[r];exact Gr.trans (K1:=({K with q:=u,clock:=(K.clock.bp pid).2}:KS)) (Gr.of_eq rfl) (qQ (K:=({K with q:=u,clock:=(K.clock.bp pid).2}:KS)) (t:=t) (by exact n) (Nat.le_refl _)));have V:Hid (g.wk.length=K.wk.length):=Z (by rw[r];try rfl);rw[show aw (({K with q:=u,clock:=(K.clock.bp pid).2}:KS)).ai pid=_ from n.out]at Q;dsimp only[Option.map,Option.getD]at Q;unfold bk at Q;have eA:=x.at_.FR (id:=pid) (t:=t) (by exact n);have eC:=x.at_.sf (id:=pid) (t:=t) (by exact n) 2;have j:=Z (x.at_.hz (id:=pid) (t:=t) (by exact n) 0);obtain⟨tb,es⟩:=nm (cQ.bI pid);rw[es]at Q eA eC j;go_wp2_with fail
   obtain⟨w4,ex⟩:=nm (eS.setCell (tb,2) (.int .u64 0));rw[ex]at j⊢;rw[<-al]at j;have I:=Z (x.trans (Gr.of_eq rfl) j);have ad:=Z (j.nx.row a1.1 a1.2);have c8:=Z (I.cur l m D V)
  all_goals
   refine(dd (K:=g) pid c2 I.at_).mono ?_;rintro e eV ⟨rfl,ch⟩;have J:=Z (I.af ch);have a2:=Z ((Nx.af ch).row ad.1 ad.2);have O:=c8;by_cases R:cz g pid=3
   ·have U:=Z R
    have E:Hid (bl K i c ⟨25,a,d,f,A,z,B⟩=(ep g i pid).ax c a.toNat pid):=Z (by rw[hc i c a d f A z B F G ap,if_pos rfl,<-am,if_pos U.out]);have R:=U.out;obtain⟨t0,t1,t2,t3,t4,t5,t6⟩:=a2.1.c7;rw[R];go_wp2_with fail
    refine(lU (K:=g) i (by rw[V];exact cL) pid c2 J.at_).mono ?_;rintro e eW ⟨rfl,gr,g0,ce⟩;have W:=Z (J.trans (D) ce);have cA:=Z (ce.nx.row a2.1 a2.2);have P:=Z (W.cur l m (D.trans (dV _ _ _)) (by rw[fE,V]));obtain⟨t0,t1,t2,t3,t4,t5,t6⟩:=cA.1.c7;have S:=W.at_.aA P.1 P.2 a.toNat (by omega);have c9:=W.at_.hy P.1 P.2 (o+1+a.toNat);have j:=Z (W.at_.drew.a7 P.1 P.2 a.toNat (by omega) pid);have T:Hid (Gr K _):=Z (D.trans (dV g i pid));go_wp2
    go_still_tail 6,(by kernel_rfl)
    change wpList _ _ _ _ _ eW.drew;go_wp2
    go_end0
    rw[E];obtain⟨a0,X,s⟩:=j.out;exact⟨rfl,a0,X,(W.af ay).trans T s⟩
   ·have U:=Z R
    have E:Hid (bl K i c ⟨25,a,d,f,A,z,B⟩=(g).ax c a.toNat pid):=Z (by rw[hc i c a d f A z B F G ap,if_pos rfl,<-am,if_neg U.out]);have R:=U.out;obtain⟨t0,t1,t2,t3,t4,t5,t6⟩:=a2.1.c7;have S:=J.at_.aA O.1 O.2 a.toNat (by omega);obtain⟨st,en⟩:=nm (cz g pid);rw[en]at R⊢;go_wp2
    have c9:=J.at_.hy O.1 O.2 (o+1+a.toNat);have j:=Z (J.at_.drew.a7 O.1 O.2 a.toNat (by omega) pid);have T:Hid (Gr K _):=Z (D);go_still_tail 6,(by kernel_rfl)
    change wpList _ _ _ _ _ eV.drew;go_wp2
    go_end0
    rw[E];obtain⟨a0,X,s⟩:=j.out;exact⟨rfl,a0,X,(J.af ay).trans T s⟩
theorem sB(i:Nat)(bx:i<K.wk.length)(c:cJ)(b o:Nat)(bv:aj K c)(c0:aR L Y c b o)(W:∀k,k<32->aK ((K.F c).r k))(a f g M J N:Int)(bi:0<=a/\a<32)(hb:0<=f/\f<32)(bw:0<=g/\g<32)(h:ae w χ L Y C K):
 Calls prog 142 #[(L.mb,0),(L.wb,i*38),(b,o),.agg #[.int .i64 27,a,f,g,.int .u64 M,J,N]] w (dk (.tuple #[]) χ L Y C K (bl K i c ⟨27,a,f,g,M,J,N⟩) w):=by
 have c1:=Z h;have s:=Z bv;have x:=Z c0;have c3:=Z bx;obtain⟨w0,ab,c2,B,r⟩:=h.pre 27 a f g M J N;obtain⟨cb,cd⟩:=bi;obtain⟨ap,ad⟩:∃y,(K.F c).r a.toNat=y:=⟨_,rfl⟩;have T:=Z ad;have a3:=Z (W a.toNat (by omega));rw[ad]at a3;obtain⟨c4,c5⟩:=a3.out;obtain⟨ce,ch⟩:=hb;obtain⟨O,al⟩:∃y,(K.F c).r f.toNat=y:=⟨_,rfl⟩;have z:=Z al;have a4:=Z (W f.toNat (by omega));rw[al]at a4;obtain⟨c6,c7⟩:=a4.out;obtain⟨ci,cl⟩:=bw;obtain⟨P,am⟩:∃y,(K.F c).r g.toNat=y:=⟨_,rfl⟩;have A:=Z am;have a5:=Z (W g.toNat (by omega));rw[am]at a5;obtain⟨c8,c9⟩:=a5.out;obtain⟨t0,t1,t2,t3,t4,t5,t6⟩:=r.1.c7;have p:=B.at_.aA s x a.toNat (by omega);rw[T]at p;have G:=B.at_.aA s x f.toNat (by omega);rw[z]at G;have H:=B.at_.aA s x g.toNat (by omega);rw[A]at H;obtain⟨q,a9⟩:=nm (xm K.q O P);have a2:=Z a9;have S:=Z (fun w h=>FP (K:=K) (w:=w) (χ:=χ) (L:=L) (Y:=Y) (C:=C) O P h);rw[a9]at S;cases q
 ·have E:Hid (bl K i c ⟨27,a,f,g,M,J,N⟩=K.ax c a.toNat 0):=Z (by unfold bl;dsimp only;rw[if_neg (by decide),if_neg (by decide),if_pos rfl,z,A,a2];rfl)
  go_in
  go_wp2
  try rw[ab]
  go_quiet (fail)
  obtain⟨w1,D⟩:=nm (w0.drewN nq);have u:Hid (Ch ag w0 w1):=Z (by rw[<-D];exact ay);rw[D];have j:=Z (B.af u);have d:Hid (aj K c/\aR L Y c b o):=Z ⟨s,x⟩;have n:=Z ((Nx.af u).row r.1 r.2);obtain⟨t0,t1,t2,t3,t4,t5,t6⟩:=n.1.c7;have p:=j.at_.aA d.1 d.2 a.toNat (by omega);rw[show((K:KS).F c).r a.toNat=ap from T.out]at p;have G:=j.at_.aA d.1 d.2 f.toNat (by omega);rw[show((K:KS).F c).r f.toNat=O from z.out]at G;have H:=j.at_.aA d.1 d.2 g.toNat (by omega);rw[show((K:KS).F c).r g.toNat=P from A.out]at H;have k1:=j.at_.v8;go_wp2_with fail
  refine(S _ j.at_).mono ?_;rintro e w2 ⟨rfl,a0,rfl⟩;obtain⟨I,F⟩:=nm (w1.drewN a0);have v:Hid (Ch ag w1 I):=Z (by rw[<-F];exact ay);rw[F];have m:=Z (j.af v);have R:=Z ((Nx.af v).row n.1 n.2);have l:=d;obtain⟨t0,t1,t2,t3,t4,t5,t6⟩:=R.1.c7;have p:=m.at_.aA l.1 l.2 a.toNat (by omega);have av:=m.at_.hy l.1 l.2 (o+1+a.toNat);have V:=Z (m.at_.drew.a7 l.1 l.2 a.toNat (by omega) 0);have Q:Hid (Gr K _):=Z (Gr.refl K);go_wp2
  go_still_tail 6,(by kernel_rfl)
  change wpList _ _ _ _ _ I.drew;go_wp2
  go_end0
  rw[E];obtain⟨a1,U,X⟩:=V.out;exact⟨rfl,a1,U,(m.af ay).trans Q X⟩
 ·have E:Hid (bl K i c ⟨27,a,f,g,M,J,N⟩=K.ax c a.toNat 1):=Z (by unfold bl;dsimp only;rw[if_neg (by decide),if_neg (by decide),if_pos rfl,z,A,a2];rfl)
  go_in
  go_wp2
  try rw[ab]
  go_quiet (fail)
  obtain⟨w1,D⟩:=nm (w0.drewN nq);have u:Hid (Ch ag w0 w1):=Z (by rw[<-D];exact ay);rw[D];have j:=Z (B.af u);have d:Hid (aj K c/\aR L Y c b o):=Z ⟨s,x⟩;have n:=Z ((Nx.af u).row r.1 r.2);obtain⟨t0,t1,t2,t3,t4,t5,t6⟩:=n.1.c7;have p:=j.at_.aA d.1 d.2 a.toNat (by omega);rw[show((K:KS).F c).r a.toNat=ap from T.out]at p;have G:=j.at_.aA d.1 d.2 f.toNat (by omega);rw[show((K:KS).F c).r f.toNat=O from z.out]at G;have H:=j.at_.aA d.1 d.2 g.toNat (by omega);rw[show((K:KS).F c).r g.toNat=P from A.out]at H;have k1:=j.at_.v8;go_wp2_with fail
  refine(S _ j.at_).mono ?_;rintro e w2 ⟨rfl,a0,rfl⟩;obtain⟨I,F⟩:=nm (w1.drewN a0);have v:Hid (Ch ag w1 I):=Z (by rw[<-F];exact ay);rw[F];have m:=Z (j.af v);have R:=Z ((Nx.af v).row n.1 n.2);have l:=d;obtain⟨t0,t1,t2,t3,t4,t5,t6⟩:=R.1.c7;have p:=m.at_.aA l.1 l.2 a.toNat (by omega);have av:=m.at_.hy l.1 l.2 (o+1+a.toNat);have V:=Z (m.at_.drew.a7 l.1 l.2 a.toNat (by omega) 1);have Q:Hid (Gr K _):=Z (Gr.refl K);go_wp2
  go_still_tail 6,(by kernel_rfl)
  change wpList _ _ _ _ _ I.drew;go_wp2
  go_end0
  rw[E];obtain⟨a1,U,X⟩:=V.out;exact⟨rfl,a1,U,(m.af ay).trans Q X⟩
theorem sD(i:Nat)(al:i<K.wk.length)(c:cJ)(b o:Nat)(ab:aj K c)(am:aR L Y c b o)(G:∀k,k<32->aK ((K.F c).r k))(a d f x v z:Int)(a9:0<=a/\a<32)(hb:0<=d/\d<32)(ad:0<=f/\f<32)(h:ae w χ L Y C K):
 Calls prog 142 #[(L.mb,0),(L.wb,i*38),(b,o),.agg #[.int .i64 26,a,d,f,.int .u64 x,v,z]] w (dk (.tuple #[]) χ L Y C K (bl K i c ⟨26,a,d,f,x,v,z⟩) w):=by
 have bx:=Z h;have m:=Z ab;have n:=Z am;have c1:=Z al;obtain⟨w0,ap,c0,s,A⟩:=h.pre 26 a d f x v z;obtain⟨cd,ce⟩:=a9;obtain⟨bv,W⟩:∃y,(K.F c).r a.toNat=y:=⟨_,rfl⟩;have S:=Z W;have P:=Z (G a.toNat (by omega));rw[W]at P;obtain⟨c5,c6⟩:=P.out;obtain⟨ch,ci⟩:=hb;obtain⟨J,X⟩:∃y,(K.F c).r d.toNat=y:=⟨_,rfl⟩;have D:=Z X;have Q:=Z (G d.toNat (by omega));rw[X]at Q;obtain⟨c7,c8⟩:=Q.out;obtain⟨cl,cm⟩:=ad;obtain⟨M,a0⟩:∃y,(K.F c).r f.toNat=y:=⟨_,rfl⟩;have F:=Z a0;have R:=Z (G f.toNat (by omega));rw[a0]at R;obtain⟨c9,cb⟩:=R.out;obtain⟨t0,t1,t2,t3,t4,t5,t6⟩:=A.1.c7;have u:=s.at_.aA m n a.toNat (by omega);rw[S]at u;have H:=s.at_.aA m n d.toNat (by omega);rw[D]at H;have I:=s.at_.aA m n f.toNat (by omega);rw[F]at I;obtain⟨p,U⟩:=nm (ij K.q J M);have a3:=Z U;have O:=Z (fun w h=>Eg (K:=K) (w:=w) (χ:=χ) (L:=L) (Y:=Y) (C:=C) J M h);rw[U]at O;obtain⟨pid,c4,bi⟩:=p;have E:Hid (bl K i c ⟨26,a,d,f,x,v,z⟩=({K with q:=bi}:KS).ax c a.toNat pid):=Z (by unfold bl;dsimp only;rw[if_neg (by decide),if_pos rfl,D,F,a3]);go_in
 go_wp2
 try rw[ap]
 go_quiet (fail)
 obtain⟨w1,V⟩:=nm (w0.drewN nq);have N:Hid (Ch ag w0 w1):=Z (by rw[<-V];exact ay);rw[V];have g:=Z (s.af N);have j:Hid (aj K c/\aR L Y c b o):=Z ⟨m,n⟩;have B:=Z ((Nx.af N).row A.1 A.2);obtain⟨t0,t1,t2,t3,t4,t5,t6⟩:=B.1.c7;have u:=g.at_.aA j.1 j.2 a.toNat (by omega);rw[show((K:KS).F c).r a.toNat=bv from S.out]at u;have H:=g.at_.aA j.1 j.2 d.toNat (by omega);rw[show((K:KS).F c).r d.toNat=J from D.out]at H;have I:=g.at_.aA j.1 j.2 f.toNat (by omega);rw[show((K:KS).F c).r f.toNat=M from F.out]at I;have k1:=g.at_.v8;go_wp2_with fail
 refine(O _ g.at_).mono ?_;rintro e w2 ⟨rfl,cq,c2,T⟩;have r:=Z (g.trans (Gr.refl _) T);have a2:=Z (T.nx.row B.1 B.2);have l:=Z (r.cur m n (Gr.of_eq rfl) (rfl));obtain⟨t0,t1,t2,t3,t4,t5,t6⟩:=a2.1.c7;have u:=r.at_.aA l.1 l.2 a.toNat (by omega);have c3:=r.at_.hy l.1 l.2 (o+1+a.toNat);have a5:=Z (r.at_.drew.a7 l.1 l.2 a.toNat (by omega) pid);have a1:Hid (Gr K _):=Z (Gr.of_eq rfl);go_wp2
 go_still_tail 6,(by kernel_rfl)
 change wpList _ _ _ _ _ w2.drew;go_wp2
 go_end0
 rw[E];obtain⟨bw,a4,av⟩:=a5.out;exact⟨rfl,bw,a4,(r.af ay).trans a1 av⟩
theorem yb(i:Nat)(c:cJ)(b o:Nat)(v:aj K c)(x:aR L Y c b o)(n a d f j g k:Int)(B:0<=a/\a<32)(F:n=23∨n=41∨n=37∨n=40∨n=42∨n=29∨n=38∨n=39∨n=47)
 (H:∀w,ae w χ L Y C K->Calls prog 143 #[(L.mb,0),(L.wb,i*38),.int .u64 0,(b,o),aL ⟨n,a,d,f,j,g,k⟩] w (nh (ik C K i 0 c ⟨n,a,d,f,j,g,k⟩) w)) (h:ae w χ L Y C K):
 Calls prog 101 #[(L.mb,0),(L.wb,i*38),.pointer none,(b,o),aL ⟨n,a,d,f,j,g,k⟩] w (dO (az C K i none c ⟨n,a,d,f,j,g,k⟩) χ L Y C K w):=by
 have l:=Z H;have q:=Z v;have r:=Z x;unfold aL aD at l⊢;dsimp only at l⊢;obtain⟨w0,J,P,u,p⟩:=h.pre n a d f j g k;obtain⟨t0,t1,t2,t3,t4,t5,t6⟩:=p.1.c7;have E:Hid (az C K i none c ⟨n,a,d,f,j,g,k⟩=(0,K.ax c a.toNat (ik C K i 0 c ⟨n,a,d,f,j,g,k⟩))):=Z (by
  unfold az;dsimp only;rw[if_neg (by omega),if_neg (by omega),if_neg (by omega),if_neg (by omega),if_neg (by omega),if_neg (by omega),if_neg (by omega),if_neg (by omega)];rfl)
 obtain⟨N,I⟩:=nm (ik C K i 0 c ⟨n,a,d,f,j,g,k⟩);rw[I]at E l;obtain⟨U,V⟩:=B;have G:b≠w.heap.size:=Nat.ne_of_lt (aQ (h.aA v x a.toNat (by omega)));have S:=G.symm;rcases F with rfl|rfl|rfl|rfl|rfl|rfl|rfl|rfl|rfl
 all_goals
  go_in
  go_wp2
  try rw[J]
  go_region_held3 (p.1.c7) (go_keep) ((go_at_call 143;refine(l _ u.at_.drew).mono ?_;rintro e w1 ⟨rfl,D⟩;have t:Hid (Ch ag w0 w1):=Z (Ch.trans ay D);have m:=Z (u.af t);have y:=Z (p.1.ch t id);(try clear Q);obtain⟨t0,t1,t2,t3,t4,t5,t6⟩:=y.c7;have T:=m.at_.aA q r a.toNat (by omega);have R:=m.at_.hy q r (o+1+a.toNat);have A:=Z (m.at_.a7 q r a.toNat (by omega) N)))
 all_goals
  go_wp2
  go_ret;rw[E];obtain⟨O,z,M⟩:=A.out;have s:=m.trans (Gr.refl _) M;exact⟨rfl,O,z,s.at_,s.nx,fun _=>s.yk⟩
theorem yc(id:Int)(t:Thread)(M:aw K.ai id=some t)(hid:t.id=id)(i:Nat)(c:cJ)(b o:Nat)(y:aj K c)(z:aR L Y c b o)(n a d f j g k:Int)(F:0<=a/\a<32)(H:n=23∨n=41∨n=37∨n=40∨n=42∨n=29∨n=38∨n=39∨n=47)
 (J:∀w,ae w χ L Y C K->Calls prog 143 #[(L.mb,0),(L.wb,i*38),.int .u64 id,(b,o),aL ⟨n,a,d,f,j,g,k⟩] w (nh (ik C K i id c ⟨n,a,d,f,j,g,k⟩) w)) (h:ae w χ L Y C K):
 Calls prog 101 #[(L.mb,0),(L.wb,i*38),(Y.bI id,0),(b,o),aL ⟨n,a,d,f,j,g,k⟩] w (dO (az C K i (some id) c ⟨n,a,d,f,j,g,k⟩) χ L Y C K w):=by
 have l:=Z J;have q:=Z y;have r:=Z z;unfold aL aD at l⊢;dsimp only at l⊢;obtain⟨w0,P,T,s,p⟩:=h.pre n a d f j g k;obtain⟨t0,t1,t2,t3,t4,t5,t6⟩:=p.1.c7;have E:Hid (az C K i (some id) c ⟨n,a,d,f,j,g,k⟩=(0,K.ax c a.toNat (ik C K i id c ⟨n,a,d,f,j,g,k⟩))):=Z (by
  unfold az;dsimp only;rw[if_neg (by omega),if_neg (by omega),if_neg (by omega),if_neg (by omega),if_neg (by omega),if_neg (by omega),if_neg (by omega),if_neg (by omega)];rfl)
 obtain⟨R,O⟩:=nm (ik C K i id c ⟨n,a,d,f,j,g,k⟩);rw[O]at E l;obtain⟨X,a0⟩:=F;have I:b≠w.heap.size:=Nat.ne_of_lt (aQ (h.aA y z a.toNat (by omega)));have V:=I.symm;have v:=s.at_.gw M;rw[hid]at v;obtain⟨tb,N⟩:=nm (Y.bI id);rw[N]at v⊢;rcases H with rfl|rfl|rfl|rfl|rfl|rfl|rfl|rfl|rfl
 all_goals
  go_in
  go_wp2
  try rw[P]
  go_region_held3 (p.1.c7) (go_keep) ((go_at_call 143;refine(l _ s.at_.drew).mono ?_;rintro e w1 ⟨rfl,G⟩;have x:Hid (Ch ag w0 w1):=Z (Ch.trans ay G);have m:=Z (s.af x);have A:=Z (p.1.ch x (fun h=>h));(try clear v);obtain⟨t0,t1,t2,t3,t4,t5,t6⟩:=A.c7;have W:=m.at_.aA q r a.toNat (by omega);have U:=m.at_.hy q r (o+1+a.toNat);have D:=Z (m.at_.a7 q r a.toNat (by omega) R)))
 all_goals
  go_wp2
  go_ret;rw[E];obtain⟨S,B,Q⟩:=D.out;have u:=m.trans (Gr.refl _) Q;exact⟨rfl,S,B,u.at_,u.nx,fun _=>u.yk⟩
variable{w':World}
def Eo(l:List Int)(χ:Nat->a')(L:cU)(Y:Var)(C:KC)(K K':KS)(w:World)(e:Ending)(w':World):Prop:=
 ∃u aY Y',e=.returned u/\w'.ownsRow w.heap.size 22 1 u l.length (l.map (Value.int .u64))/\(∀g,u.ownBlock=some g->w.heap.size<=g/\aY g=.no)/\dD χ L Y C K K' w aY Y' w'
theorem Ep(j:K.clock.Ok)(h:ae w χ L Y C K):Calls prog 54 #[(L.cb,0)] w (Eo K.clock.tick.2 χ L Y C K {K with clock:=K.clock.tick.1} w):=
 (o' L.cb L.ch L.cm L.cq Y.hv K.clock j.l w (h.b2 (by simp)).is).mono fun _ _ ⟨⟨u,d,a⟩,⟨v,c,e⟩,f⟩=>
  ⟨u,_,_,d,a,fun g b=>⟨zY a g b,by
   have i:χ g=.no:=h.fresh (zY a g b);unfold cN;rw[if_neg (kH a c.heap.own (by decide) b)];exact i⟩,h.zS c e f⟩
theorem jU(K:KS)(id v:Int):Gr K (b3 K id v):=by
 cases h:aw K.ai id with
 |none=>rw[hQ h];exact Gr.refl _
 |some t=>rw[hP h];exact qQ h (Nat.le_refl _)
theorem ye(p:K.clock.Ok)(hb:K.out.length<=900000)(h:ae w χ L Y C K):Calls prog 30 #[(L.mb,0)] w (dk (.tuple #[]) χ L Y C K (hs K) w):=by
 have m:=Z (Ep p h);obtain⟨K1,a⟩:=mn (({K with clock:=K.clock.tick.1}:KS));obtain⟨K2,d⟩:=mn (tell K1 ⟨6,0,0,0,0,0,0,0,0,K1.clock.now,0⟩);have s:=Z d;have r:Hid (Gr K K1):=Z (by rw[a];exact Gr.of_eq rfl);have y:Hid (K1.out.length<=900000):=Z (by rw[a];exact hb);have E:Hid (hs K=K2):=Z (by rw[d,a];rfl);obtain⟨l,g⟩:=nm K.clock.tick.2;rw[g,<-a]at m;obtain⟨N,f⟩:=nm l.length;have v:Hid (N=0):=Z (by rw[<-f,<-g];rfl);have t:=Z f;have k0:=h.j2;clear h p hb f a d g;go_in
 go_wp2_with fail
 refine m.mono ?_;rintro e w1 ⟨u,dZ,Y1,rfl,q,G,n⟩;have b:=Z n;have j:=Z q;rw[t]at j;clear n q G k0;obtain⟨J,M,rfl⟩:=au j;have k1:=b.at_.j2;have x:=Z (FO b.at_);go_wp2_with fail
 refine x.mono ?_;rintro e w2 ⟨rfl,rfl⟩;go_wp2_with fail
 refine(dI (K:=K1) 6 0 0 0 0 0 0 0 0 K1.clock.now 0 y b.at_).mono ?_;rintro e w2 ⟨rfl,H,D,c⟩;rw[<-s]at c;have A:=Z (b.trans r c);clear c k1;go_wp2
 go_loopg [21] (N+1) (fun gk i wr=>∃k:Nat,k<=N/\gk=N-k+1/\i=.int .i64 k/\Hid (∃aY Y',dD χ L Y C K K2 w aY Y' wr))
 case atStart=>exact⟨0,by omega,by omega,rfl,H,D,A⟩
 case round=>
  obtain⟨k,O,rfl,rfl,z⟩:=hrel;obtain⟨I,F,o⟩:=z.out;obtain rfl:k=N:=by have:=v.out;omega
  have B:=Z o;clear o;go_wp2
  go_end0
  rw[E];exact⟨rfl,I,F,B⟩
def pe(C:KC)(K:KS)(id op kind a b v:Int):KS:={K with mem:=(bR C K id op (K.mem,K.out) kind a b v).2.1,out:=(bR C K id op (K.mem,K.out) kind a b v).2.2}
def iQ(x:Option Int)(χ:Nat->a')(L:cU)(Y:Var)(C:KC)(K K':KS)(w:World)(e:Ending)(w':World):Prop:=
 (match x with
  |some v=>e=.returned (.tuple #[.int .u64 v,.nilIface])
  |none=>∃n v,e=.returned (.tuple #[.int .u64 n,v])/\ar v)/\(∃aY Y',dD χ L Y C K K' w aY Y' w')/\Ch (fun i=>χ i=.mem∨χ i=.gL∨χ i=.out) w w'
theorem AK(h:Ch (fun i=>χ i=.mem) w w'):Ch (fun i=>χ i=.mem∨χ i=.gL∨χ i=.out) w w':=h.mono fun _ h=>Or.inl h
theorem F'(h:Ch (fun i=>χ i=.gL∨χ i=.out) w w'):Ch (fun i=>χ i=.mem∨χ i=.gL∨χ i=.out) w w':=h.mono fun _ h=>Or.inr h
theorem AL{P:a'->Prop}{χ dZ:Nat->a'}{w w1 w2:World}(h:Ch (fun i=>P (χ i)) w w1)(c:∀i,i<w.heap.size->dZ i=χ i)(k:Ch (fun i=>P (dZ i)) w1 w2):Ch (fun i=>P (χ i)) w w2:=
 h.join k fun i a b=>by rw[<-c i a];exact b
theorem lg{p1 p2 p3:Value}(k:Int)(F:Value)(A:Nat)(z:Int->Array Value)(hF:(F=.func (.func 34) #[.pointer (some ⟨L.m,0,none⟩)] #[]/\A=34/\z=fun c=>#[.pointer (some ⟨L.m,0,none⟩),.int .u64 c])∨(F=.func (.func 265) #[] #[p1,p2]/\A=265/\z=fun c=>#[.int .u64 c,p1,p2])∨(F=.func (.func 263) #[] #[p1,p2]/\A=263/\z=fun c=>#[.int .u64 c,p1,p2])∨(F=.func (.func 264) #[] #[p1,p2,p3]/\A=264/\z=fun c=>#[.int .u64 c,p1,p2,p3]))(ci:0<=C.wide/\C.wide<=256/\0<=C.narrow/\C.narrow<=256)(bv:K.out.length<=900000)(id op a f v:Int)(ch:aK a)
 (V:∀c w1,aK c->Ch ag w w1->Calls prog A (z c) w1 (mJ (K.mem.acc k c f v).1 χ L Y C K {K with mem:=(K.mem.acc k c f v).2} w1)) (h:ae w χ L Y C K):
 Calls prog 262 #[.agg #[.pointer (some ⟨L.mb,0,none⟩),.int .u64 id,op],.int .u64 a,F] w (iQ (bR C K id op (K.mem,K.out) k a f v).1 χ L Y C K (pe C K id op k a f v) w):=by
 obtain⟨w0,B⟩:=nm (w.alloc (.cells #[.pointer (some ⟨L.mb,0,none⟩),.int .u64 id,op] 240));have n:=Z (Ch.al (D:=ag) B);have g:=Z (h.gU n);have R:=Z (Row.al B);obtain⟨X,cQ,cS⟩:=R.c3;have am:0<=C.cells/\C.cells<=512:=by unfold KC.cells;omega
 have fd:=(h.wk (by simp)).n;have a9:0<=gT K/\gT K<=600:=by unfold gT;omega
 have I:=Z (fun w (h:ae w χ L Y C K)=>n4 h ci);have T:=Z (fun w (h:ae w χ L Y C K)=>lT h);obtain⟨y,al⟩:=nm C.cells;obtain⟨j,ab⟩:=nm (gT K);rw[al]at I am;rw[ab]at T a9;obtain⟨eV,eW⟩:=am;obtain⟨eL,eS⟩:=a9;have dN:IntKind.u64.wrap y=y:=by unfold IntKind.wrap IntKind.bits IntKind.signed;simp;omega
 have dC:IntKind.u64.wrap j=j:=by unfold IntKind.wrap IntKind.bits IntKind.signed;simp;omega
 obtain⟨eA,eC⟩:=ch;have es:=Z bv;rcases hF with⟨rfl,rfl,rfl⟩|⟨rfl,rfl,rfl⟩|⟨rfl,rfl,rfl⟩|⟨rfl,rfl,rfl⟩
 all_goals
  dsimp only at V;have en:=Z V;have s:=Z (And.intro al ab);have t:=Z (And.intro dN dC);have c3:Hid (χ w.heap.size=.no):=Z (Classical.not_not.1 fun e=>absurd (h.small _ e) (by omega));by_cases av:y<=a
  ·have E:Hid (bR C K id op (K.mem,K.out) k a f v=(none,K.mem,K.out)):=Z (by unfold bR;rw[s.1,t.1,if_pos av])
   have o:Hid (pe C K id op k a f v=K):=Z (by unfold pe;rw[E]);go_in
   go_wp2_with fail
   try rw[B]
   with_reducible refine(I.out _ g.out.at_).mono ?_
   rintro e w1 ⟨rfl,O,rfl⟩;go_wp2_with fail
   with_reducible refine(fg _ _ _ _).mono ?_
   rintro e w2 ⟨rfl,l⟩;have b:=Z (Ch.al (D:=ag) l);go_wp2
   go_ret2;rw[E,o];exact⟨⟨_,_,rfl,ar.mk _ _⟩,⟨_,_,(g.af ay).af b⟩,((n.trans ay).trans b).af⟩
  ·have fb:a<y:=by omega
   have c1:IntKind.u64.wrap (j+a)=j+a:=(by unfold IntKind.wrap IntKind.bits IntKind.signed;simp;omega);have W:aK (j+a):=⟨by omega,by omega⟩;have c4:=Z (fun(w:World) (χ:Nat->a') (Y:Var) (K:KS) (h:ae w χ L Y C K)=>n5 (j+a) W h);have et:=Z W;have ap:¬y<=a:=av;obtain⟨q,bx⟩:=nm (K.mem.acc k (j+a) f v);obtain⟨cL,x⟩:=q;have a3:=Z bx;have ad:=(fun w1 (cq:Ch ag w w1)=>V (j+a) w1 W cq);rw[bx]at ad;have a1:=Z ad;cases cL with
   |none=>
    have E:Hid (bR C K id op (K.mem,K.out) k a f v=(none,x,K.out)):=Z (by unfold bR;rw[s.1,t.1,if_neg ap,s.2,t.2,c1];dsimp only;rw[a3]);have o:Hid (pe C K id op k a f v={K with mem:=x}):=Z (by unfold pe;rw[E]);go_in
    go_wp2_with fail
    try rw[B]
    with_reducible refine(I.out _ g.out.at_).mono ?_
    rintro e w1 ⟨rfl,O,rfl⟩;obtain⟨w2,l⟩:=nm (w0.drewN O);have b:=Z (Ch.dN (D:=ag) l);rw[l];have U:=Z (g.af b);have r:=Z (R.ch b (fun h=>h));have X:=r.c1;go_wp2_with fail
    with_reducible refine(T.out _ U.out.at_).mono ?_
    rintro e cW ⟨rfl,rfl⟩;go_wp2_with fail
    with_reducible refine(a1.out _ (n.out.trans b.out)).mono ?_
    rintro e w4 ⟨⟨⟨u,rfl,cm⟩,Q,c8,M⟩,m⟩;obtain⟨tt,g0,rfl⟩:=cm;have d:=Z (And.intro M m);go_wp2
    go_ret2;rw[E,o];exact⟨⟨_,_,rfl,ar.mk _ _⟩,⟨_,_,d.1.at_,(g.nx.trans (Nx.af b)).trans d.1.nx,d.1.yk⟩,(n.trans b).af.trans (AK d.2)⟩
   |some held=>
    obtain⟨cC,cl⟩:=nm (x.acc 0 (j+a) 0 0);obtain⟨k1,J⟩:=cC;have a2:=Z cl;obtain⟨N,bi⟩:=nm (k1.getD 0);have E:Hid (bR C K id op (K.mem,K.out) k a f v=(some held,J,K.out++[⟨3,K.at_,K.w,id,op,held,N,0,0,a,0⟩])):=Z (by unfold bR;rw[s.1,t.1,if_neg ap,s.2,t.2,c1];dsimp only;rw[a3];dsimp only;rw[a2];dsimp only;rw[bi]);have o:Hid (pe C K id op k a f v=tell {K with mem:=J} ⟨3,0,0,id,op,held,N,0,0,a,0⟩):=Z (by unfold pe;rw[E];rfl);have c6:Hid (gu ({K with mem:=x}:KS) (j+a)=(N,{K with mem:=J})):=Z (by unfold gu;dsimp only;rw[a2,<-bi]);have c7:=Z (fun(w:World) (χ:Nat->a') (Y:Var) (h:ae w χ L Y C ({K with mem:=J}:KS))=>n6 3 0 0 id op held N 0 0 a 0 (by exact bv) h);have bw:=(fun(w:World) (χ:Nat->a') (Y:Var) (h:ae w χ L Y C ({K with mem:=x}:KS))=>c4 w χ Y _ h);rw[c6]at bw;have c5:=Z bw;go_in
    go_wp2_with fail
    try rw[B]
    with_reducible refine(I.out _ g.out.at_).mono ?_
    rintro e w1 ⟨rfl,O,rfl⟩;obtain⟨w2,l⟩:=nm (w0.drewN O);have b:=Z (Ch.dN (D:=ag) l);rw[l];have U:=Z (g.af b);have r:Hid (Row w2 w.heap.size 240 [.pointer (some ⟨L.mb,0,none⟩),.int .u64 id,op]/\χ w.heap.size=.no):=Z ⟨R.ch b (fun h=>h),c3⟩;have X:=r.1.c1;go_wp2_with fail
    with_reducible refine(T.out _ U.out.at_).mono ?_
    rintro e cW ⟨rfl,rfl⟩;go_wp2_with fail
    with_reducible refine(a1.out _ (n.out.trans b.out)).mono ?_
    rintro e w4 ⟨⟨rfl,Q,c8,M⟩,m⟩;have d:=Z (And.intro M m);have H:=Z (M.nx.row r.1 r.2);obtain⟨X,cQ,cS⟩:=H.1.c3;go_wp2
    go_region_held3 (H.1.c3) (go_keep) (first|(go_at_call 138;refine(c5 _ _ _ d.1.at_.drew).mono ?_;rintro e c0 ⟨⟨rfl,a0,ex,a4⟩,m⟩;have p:=Z (And.intro a4 m);have S:=Z (((Nx.af (Ch.refl _ w4).drew).trans a4.nx).row H.1 H.2);obtain⟨fn,fr,fz⟩:=S.1.c3)|(go_at_call 55;refine(c7 _ _ _ p.1.at_).mono ?_;rintro e dr ⟨⟨rfl,ej,c9,a5⟩,m⟩;have G:=Z (And.intro a5 m);have c2:=Z (a5.nx.row S.1 S.2);obtain⟨y0,g1,g2⟩:=c2.1.c3))
    all_goals
     go_wp2
     go_ret2;rw[E,o];refine⟨rfl,⟨ej,c9,G.1.at_,?_,?_⟩,?_⟩
     ·exact(((g.nx.trans (Nx.af b)).trans d.1.nx).trans ((Nx.af (Ch.refl _ w4).drew).trans p.1.nx)).trans G.1.nx
     ·exact(d.1.yk.trans (Gr.of_eq rfl) p.1.yk).trans (Gr.of_eq rfl) G.1.yk
     ·have cb:Ch (fun i=>χ i=.mem∨χ i=.gL∨χ i=.out) w w4:=(n.trans b).af.trans (AK d.2)
      have cd:Ch (fun i=>Q i=.mem∨Q i=.gL∨Q i=.out) w4 c0:=(AK ((Ch.refl _ w4).drew.trans p.2));have ce:Ch (fun i=>a0 i=.mem∨a0 i=.gL∨a0 i=.out) c0 dr:=F' G.2;have cs:=((g.nx.trans (Nx.af b)).trans d.1.nx).same;have cA:=(((g.nx.trans (Nx.af b)).trans d.1.nx).trans ((Nx.af (Ch.refl _ w4).drew).trans p.1.nx)).same;exact AL (P:=fun c=>c=.mem∨c=.gL∨c=.out) (AL (P:=fun c=>c=.mem∨c=.gL∨c=.out) cb cs cd) cA ce
theorem CL(id op a D v:Int)(s:aK a)(z:aK v)(f vb:Nat)(m:Row w f 240 [(L.mb,0),.int .u64 id,op])(n:Row w vb 22 [.int .u64 v])(t:χ f=.no/\χ vb=.no)(h:ae w χ L Y C K):
 Calls prog 265 #[.int .u64 a,(f,0),(vb,0)] w (mJ (K.mem.acc 2 a 0 v).1 χ L Y C K {K with mem:=(K.mem.acc 2 a 0 v).2} w):=by
 have E:=m.c1;have F:=n.c1;have B:=h.cO;have g:=Z (Ed a v s z h.drew);have d:=Z (And.intro m (And.intro t n));obtain⟨q,x⟩:=nm (K.mem.acc 2 a 0 v);rw[x]at g⊢;obtain⟨o,A⟩:=q;cases o with
 |none=>
  go_wp2
  go_region_held3 (fun w'=>w'.cell? (f,0)=some (.pointer (some (L.mb,0)))/\w'.cell? (L.mb,1007)=some (.pointer (some (L.m,0)))/\w'.cell? (vb,0)=some (.int .u64 v)) (go_keep) ((go_at_call 246;refine g.mono ?_;rintro e w4 ⟨⟨⟨u,rfl,y⟩,l,j,c⟩,k⟩;obtain⟨tt,G,rfl⟩:=y;have b:=Z (And.intro c k);have p:=(c.nx.row (w:=w.drew) (d.1.drew) d.2.1.1).1.cell (i:=0) rfl;have r:=c.at_.cO;have d0:=(c.nx.row (w:=w.drew) (d.2.2.drew) d.2.1.2).1.cell (i:=0) rfl))
  all_goals
   go_wp2
   go_ret2;exact⟨⟨⟨_,rfl,ar.mk _ _⟩,l,j,b.1.at_,(Nx.af (Ch.refl _ w).drew).trans b.1.nx,b.1.yk⟩,(Ch.refl _ w).drew.trans b.2⟩
 |some o=>
  go_wp2
  go_region_held3 (fun w'=>w'.cell? (f,0)=some (.pointer (some (L.mb,0)))/\w'.cell? (L.mb,1007)=some (.pointer (some (L.m,0)))/\w'.cell? (vb,0)=some (.int .u64 v)) (go_keep) ((go_at_call 246;refine g.mono ?_;rintro e w4 ⟨⟨rfl,l,j,c⟩,k⟩;have b:=Z (And.intro c k);have p:=(c.nx.row (w:=w.drew) (d.1.drew) d.2.1.1).1.cell (i:=0) rfl;have r:=c.at_.cO;have d0:=(c.nx.row (w:=w.drew) (d.2.2.drew) d.2.1.2).1.cell (i:=0) rfl))
  all_goals
   go_wp2
   go_ret2;exact⟨⟨rfl,l,j,b.1.at_,(Nx.af (Ch.refl _ w).drew).trans b.1.nx,b.1.yk⟩,(Ch.refl _ w).drew.trans b.2⟩
theorem Ew(id op a D v:Int)(s:aK a)(z:aK v)(f vb:Nat)(m:Row w f 240 [(L.mb,0),.int .u64 id,op])(n:Row w vb 22 [.int .u64 v])(t:χ f=.no/\χ vb=.no)(h:ae w χ L Y C K):
 Calls prog 263 #[.int .u64 a,(f,0),(vb,0)] w (mJ (K.mem.acc 3 a 0 v).1 χ L Y C K {K with mem:=(K.mem.acc 3 a 0 v).2} w):=by
 have E:=m.c1;have F:=n.c1;have B:=h.cO;have g:=Z (Dw a v s z h.drew);have d:=Z (And.intro m (And.intro t n));obtain⟨q,x⟩:=nm (K.mem.acc 3 a 0 v);rw[x]at g⊢;obtain⟨o,A⟩:=q;cases o with
 |none=>
  go_wp2
  go_region_held3 (fun w'=>w'.cell? (f,0)=some (.pointer (some (L.mb,0)))/\w'.cell? (L.mb,1007)=some (.pointer (some (L.m,0)))/\w'.cell? (vb,0)=some (.int .u64 v)) (go_keep) ((go_at_call 99;refine g.mono ?_;rintro e w4 ⟨⟨⟨u,rfl,y⟩,l,j,c⟩,k⟩;obtain⟨tt,G,rfl⟩:=y;have b:=Z (And.intro c k);have p:=(c.nx.row (w:=w.drew) (d.1.drew) d.2.1.1).1.cell (i:=0) rfl;have r:=c.at_.cO;have d0:=(c.nx.row (w:=w.drew) (d.2.2.drew) d.2.1.2).1.cell (i:=0) rfl))
  all_goals
   go_wp2
   go_ret2;exact⟨⟨⟨_,rfl,ar.mk _ _⟩,l,j,b.1.at_,(Nx.af (Ch.refl _ w).drew).trans b.1.nx,b.1.yk⟩,(Ch.refl _ w).drew.trans b.2⟩
 |some o=>
  go_wp2
  go_region_held3 (fun w'=>w'.cell? (f,0)=some (.pointer (some (L.mb,0)))/\w'.cell? (L.mb,1007)=some (.pointer (some (L.m,0)))/\w'.cell? (vb,0)=some (.int .u64 v)) (go_keep) ((go_at_call 99;refine g.mono ?_;rintro e w4 ⟨⟨rfl,l,j,c⟩,k⟩;have b:=Z (And.intro c k);have p:=(c.nx.row (w:=w.drew) (d.1.drew) d.2.1.1).1.cell (i:=0) rfl;have r:=c.at_.cO;have d0:=(c.nx.row (w:=w.drew) (d.2.2.drew) d.2.1.2).1.cell (i:=0) rfl))
  all_goals
   go_wp2
   go_ret2;exact⟨⟨rfl,l,j,b.1.at_,(Nx.af (Ch.refl _ w).drew).trans b.1.nx,b.1.yk⟩,(Ch.refl _ w).drew.trans b.2⟩
theorem Ex(id op a f v:Int)(y:aK a)(D:aK v)(j g vb:Nat)(p:Row w j 240 [(L.mb,0),.int .u64 id,op])(o:Row w g 22 [.int .u64 f])(r:Row w vb 22 [.int .u64 v])(z:χ j=.no/\χ g=.no/\χ vb=.no)(h:ae w χ L Y C K):
 Calls prog 264 #[.int .u64 a,(j,0),(g,0),(vb,0)] w (mJ (K.mem.acc 4 a f v).1 χ L Y C K {K with mem:=(K.mem.acc 4 a f v).2} w):=by
 have G:=p.c1;have H:=o.c1;have I:=r.c1;have F:=h.cO;have k:=Z (Dx a f v y D h.drew);have b:=Z (And.intro p (And.intro z (And.intro o r)));obtain⟨q,A⟩:=nm (K.mem.acc 4 a f v);rw[A]at k⊢;obtain⟨s,E⟩:=q;cases s with
 |none=>
  go_wp2
  go_region_held3 (fun w'=>w'.cell? (j,0)=some (.pointer (some (L.mb,0)))/\w'.cell? (L.mb,1007)=some (.pointer (some (L.m,0)))/\w'.cell? (g,0)=some (.int .u64 f)/\w'.cell? (vb,0)=some (.int .u64 v)) (go_keep) ((go_at_call 180;refine k.mono ?_;rintro e w4 ⟨⟨⟨u,rfl,B⟩,n,l,c⟩,m⟩;obtain⟨tt,J,rfl⟩:=B;have d:=Z (And.intro c m);have t:=(c.nx.row (w:=w.drew) (b.1.drew) b.2.1.1).1.cell (i:=0) rfl;have x:=c.at_.cO;have d0:=(c.nx.row (w:=w.drew) (b.2.2.1.drew) b.2.1.2.1).1.cell (i:=0) rfl;have d1:=(c.nx.row (w:=w.drew) (b.2.2.2.drew) b.2.1.2.2).1.cell (i:=0) rfl))
  all_goals
   go_wp2
   go_ret2;exact⟨⟨⟨_,rfl,ar.mk _ _⟩,n,l,d.1.at_,(Nx.af (Ch.refl _ w).drew).trans d.1.nx,d.1.yk⟩,(Ch.refl _ w).drew.trans d.2⟩
 |some s=>
  go_wp2
  go_region_held3 (fun w'=>w'.cell? (j,0)=some (.pointer (some (L.mb,0)))/\w'.cell? (L.mb,1007)=some (.pointer (some (L.m,0)))/\w'.cell? (g,0)=some (.int .u64 f)/\w'.cell? (vb,0)=some (.int .u64 v)) (go_keep) ((go_at_call 180;refine k.mono ?_;rintro e w4 ⟨⟨rfl,n,l,c⟩,m⟩;have d:=Z (And.intro c m);have t:=(c.nx.row (w:=w.drew) (b.1.drew) b.2.1.1).1.cell (i:=0) rfl;have x:=c.at_.cO;have d0:=(c.nx.row (w:=w.drew) (b.2.2.1.drew) b.2.1.2.1).1.cell (i:=0) rfl;have d1:=(c.nx.row (w:=w.drew) (b.2.2.2.drew) b.2.1.2.2).1.cell (i:=0) rfl))
  all_goals
   go_wp2
   go_ret2;exact⟨⟨rfl,n,l,d.1.at_,(Nx.af (Ch.refl _ w).drew).trans d.1.nx,d.1.yk⟩,(Ch.refl _ w).drew.trans d.2⟩
theorem iQ.of{x:Option Int}{K':KS}{e:Ending}{w0 w':World}(h:iQ x χ L Y C K K' w0 e w')(c:Ch ag w w0):iQ x χ L Y C K K' w e w':=by
 obtain⟨b,⟨aY,Y',a⟩,d⟩:=h;exact⟨b,⟨aY,Y',a.at_,(Nx.af c).trans a.nx,a.yk⟩,c.af.trans d⟩
theorem uO(E:0<=C.wide/\C.wide<=256/\0<=C.narrow/\C.narrow<=256)(F:K.out.length<=900000)(id op a:Int)(B:aK a)(h:ae w χ L Y C K):
 Calls prog 259 #[.agg #[(L.mb,0),.int .u64 id,op],.int .u64 a] w (iQ (bR C K id op (K.mem,K.out) 0 a 0 0).1 χ L Y C K (pe C K id op 0 a 0 0) w):=by
 obtain⟨w0,d⟩:=nm ((w.alloc (.cells #[(L.mb,0),.int .u64 id,op] 240)));have k:=Z (Ch.al (D:=ag) d);have l:=Z (h.gU k);have i:=Z (Row.al d);obtain⟨M,N,O⟩:=i.c3;have I:=l.at_.cO;have p:Hid (χ w.heap.size=.no):=Z (Classical.not_not.1 fun e=>absurd (h.small _ e) (by omega));have g:=Z (lg (p1:=.nilIface) (p2:=.nilIface) (p3:=.nilIface) 0 _ _ _ (Or.inl ⟨rfl,rfl,rfl⟩) E F id op a 0 0 B (fun c w1 m G=>um c m (l.at_.drew.af G)) l.at_.drew);obtain⟨q,s⟩:=nm (bR C K id op (K.mem,K.out) 0 a 0 0);obtain⟨K',r⟩:∃K',pe C K id op 0 a 0 0=K':=⟨_,rfl⟩;rw[s,r]at g;rw[s,r];obtain⟨t,J⟩:=q;dsimp only at g;cases t with
 |none=>
  go_in
  go_wp2
  try rw[d]
  try clear d
  go_region_held3 (fun w'=>w'.cell? (w.heap.size,0)=some (.pointer (some (L.mb,0)))/\w'.cell? (w.heap.size,1)=some (.int .u64 id)/\w'.cell? (w.heap.size,2)=some (.int .i64 op)/\w'.cell? (L.mb,1007)=some (.pointer (some (L.m,0)))) (go_keep) ((go_at_call 262;refine g.mono ?_;rintro e w4 ⟨⟨n,u,rfl,m⟩,⟨H,v,b⟩,o⟩;obtain⟨tt,P,rfl⟩:=m;have f:=Z (And.intro b o);have j:=Z (b.nx.row (w:=w0.drew) i.drew p);obtain⟨x,y,z⟩:=j.1.c3;have A:=b.at_.cO))
  all_goals
   go_wp2
   go_ret2;exact iQ.of ⟨⟨_,_,rfl,ar.mk _ _⟩,⟨_,_,f.1⟩,f.2⟩ (k.trans ay)
 |some t=>
  go_in
  go_wp2
  try rw[d]
  try clear d
  go_region_held3 (fun w'=>w'.cell? (w.heap.size,0)=some (.pointer (some (L.mb,0)))/\w'.cell? (w.heap.size,1)=some (.int .u64 id)/\w'.cell? (w.heap.size,2)=some (.int .i64 op)/\w'.cell? (L.mb,1007)=some (.pointer (some (L.m,0)))) (go_keep) ((go_at_call 262;refine g.mono ?_;rintro e w4 ⟨rfl,⟨H,v,b⟩,o⟩;have f:=Z (And.intro b o);have j:=Z (b.nx.row (w:=w0.drew) i.drew p);obtain⟨x,y,z⟩:=j.1.c3;have A:=b.at_.cO))
  all_goals
   go_wp2
   go_ret2;exact iQ.of ⟨rfl,⟨_,_,f.1⟩,f.2⟩ (k.trans ay)
theorem oD(z:0<=C.wide/\C.wide<=256/\0<=C.narrow/\C.narrow<=256)(A:K.out.length<=900000)(id op a v:Int)(y:aK a)(B:aK v)(h:ae w χ L Y C K):
 Calls prog 261 #[.agg #[.pointer (some ⟨L.mb,0,none⟩),.int .u64 id,op],.int .u64 a,.int .u64 v] w (iQ (bR C K id op (K.mem,K.out) 2 a 0 v).1 χ L Y C K (pe C K id op 2 a 0 v) w):=by
 obtain⟨w0,d⟩:=nm (((w.alloc (.cells #[.pointer (some ⟨L.mb,0,none⟩),.int .u64 id,op] 240)).alloc (.cells #[.int .u64 v] 22)));have g:Hid (Ch ag w w0):=Z (by rw[<-d];exact ay);have r:=Z (h.gU g);have o:Hid (Row w0 w.heap.size 240 [.pointer (some ⟨L.mb,0,none⟩),.int .u64 id,op]):=Z (by rw[<-d];exact(Row.new w _ _).alloc _);have x:Hid (Row w0 (w.heap.size+1) 22 [.int .u64 v]):=Z (by
  rw[<-d];have:=Row.new (w.alloc (.cells #[.pointer (some ⟨L.mb,0,none⟩),.int .u64 id,op] 240)) #[.int .u64 v] 22;simpa[World.size_alloc,Nat.add_assoc]using this)
 have p:Hid (∀i,w.heap.size<=i->χ i=.no):=Z (fun i E=>Classical.not_not.1 fun e=>absurd (h.small _ e) (by omega));obtain⟨G,H,I⟩:=o.c3;have f:=Z (lg (p1:=.pointer (some ⟨w.heap.size,0,none⟩)) (p2:=.pointer (some ⟨w.heap.size+1,0,none⟩)) (p3:=.nilIface) 2 _ _ _ (Or.inr (Or.inl ⟨rfl,rfl,rfl⟩)) z A id op a 0 v y (fun c w1 k l=>CL id op c 0 v k B _ _ (o.ch l (fun h=>h)) (x.ch l (fun h=>h)) ⟨p _ (by omega),p _ (by omega)⟩ (r.at_.af l)) r.at_);obtain⟨q,t⟩:=nm (bR C K id op (K.mem,K.out) 2 a 0 v);obtain⟨K',s⟩:∃K',pe C K id op 2 a 0 v=K':=⟨_,rfl⟩;rw[t,s]at f;rw[t,s];obtain⟨D,F⟩:=q;dsimp only at f;cases D
 all_goals
  go_in
  go_wp2_with fail
  try rw[d]
  try clear d
  with_reducible refine f.out.mono ?_
 ·rintro e w4 ⟨⟨n,u,rfl,k⟩,j,m⟩
  obtain⟨tt,J,rfl⟩:=k;have b:=Z (And.intro j m);go_wp2
  go_ret2;exact iQ.of ⟨⟨_,_,rfl,ar.mk _ _⟩,b.1,b.2⟩ g
 ·rintro e w4 ⟨rfl,j,m⟩
  have b:=Z (And.intro j m);go_wp2
  go_ret2;exact iQ.of ⟨rfl,b.1,b.2⟩ g
theorem ys(z:0<=C.wide/\C.wide<=256/\0<=C.narrow/\C.narrow<=256)(A:K.out.length<=900000)(id op a v:Int)(y:aK a)(B:aK v)(h:ae w χ L Y C K):
 Calls prog 257 #[.agg #[.pointer (some ⟨L.mb,0,none⟩),.int .u64 id,op],.int .u64 a,.int .u64 v] w (iQ (bR C K id op (K.mem,K.out) 3 a 0 v).1 χ L Y C K (pe C K id op 3 a 0 v) w):=by
 obtain⟨w0,d⟩:=nm (((w.alloc (.cells #[.pointer (some ⟨L.mb,0,none⟩),.int .u64 id,op] 240)).alloc (.cells #[.int .u64 v] 22)));have g:Hid (Ch ag w w0):=Z (by rw[<-d];exact ay);have r:=Z (h.gU g);have o:Hid (Row w0 w.heap.size 240 [.pointer (some ⟨L.mb,0,none⟩),.int .u64 id,op]):=Z (by rw[<-d];exact(Row.new w _ _).alloc _);have x:Hid (Row w0 (w.heap.size+1) 22 [.int .u64 v]):=Z (by
  rw[<-d];have:=Row.new (w.alloc (.cells #[.pointer (some ⟨L.mb,0,none⟩),.int .u64 id,op] 240)) #[.int .u64 v] 22;simpa[World.size_alloc,Nat.add_assoc]using this)
 have p:Hid (∀i,w.heap.size<=i->χ i=.no):=Z (fun i E=>Classical.not_not.1 fun e=>absurd (h.small _ e) (by omega));obtain⟨G,H,I⟩:=o.c3;have f:=Z (lg (p1:=.pointer (some ⟨w.heap.size,0,none⟩)) (p2:=.pointer (some ⟨w.heap.size+1,0,none⟩)) (p3:=.nilIface) 3 _ _ _ (Or.inr (Or.inr (Or.inl ⟨rfl,rfl,rfl⟩))) z A id op a 0 v y (fun c w1 k l=>Ew id op c 0 v k B _ _ (o.ch l (fun h=>h)) (x.ch l (fun h=>h)) ⟨p _ (by omega),p _ (by omega)⟩ (r.at_.af l)) r.at_);obtain⟨q,t⟩:=nm (bR C K id op (K.mem,K.out) 3 a 0 v);obtain⟨K',s⟩:∃K',pe C K id op 3 a 0 v=K':=⟨_,rfl⟩;rw[t,s]at f;rw[t,s];obtain⟨D,F⟩:=q;dsimp only at f;cases D
 all_goals
  go_in
  go_wp2_with fail
  try rw[d]
  try clear d
  with_reducible refine f.out.mono ?_
 ·rintro e w4 ⟨⟨n,u,rfl,k⟩,j,m⟩
  obtain⟨tt,J,rfl⟩:=k;have b:=Z (And.intro j m);go_wp2
  go_ret2;exact iQ.of ⟨⟨_,_,rfl,ar.mk _ _⟩,b.1,b.2⟩ g
 ·rintro e w4 ⟨rfl,j,m⟩
  have b:=Z (And.intro j m);go_wp2
  go_ret2;exact iQ.of ⟨rfl,b.1,b.2⟩ g
theorem yt(B:0<=C.wide/\C.wide<=256/\0<=C.narrow/\C.narrow<=256)(D:K.out.length<=900000)(id op a b v:Int)(A:aK a)(hold:aK b)(E:aK v)(h:ae w χ L Y C K):
 Calls prog 258 #[.agg #[.pointer (some ⟨L.mb,0,none⟩),.int .u64 id,op],.int .u64 a,.int .u64 b,.int .u64 v] w (iQ (bR C K id op (K.mem,K.out) 4 a b v).1 χ L Y C K (pe C K id op 4 a b v) w):=by
 obtain⟨w0,d⟩:=nm ((((w.alloc (.cells #[.pointer (some ⟨L.mb,0,none⟩),.int .u64 id,op] 240)).alloc (.cells #[.int .u64 b] 22)).alloc (.cells #[.int .u64 v] 22)));have k:Hid (Ch ag w w0):=Z (by rw[<-d];exact ay);have s:=Z (h.gU k);have r:Hid (Row w0 w.heap.size 240 [.pointer (some ⟨L.mb,0,none⟩),.int .u64 id,op]):=Z (by rw[<-d];exact((Row.new w _ _).alloc _).alloc _);have y:Hid (Row w0 (w.heap.size+1) 22 [.int .u64 b]):=Z (by
  rw[<-d];have:=(Row.new (w.alloc (.cells #[.pointer (some ⟨L.mb,0,none⟩),.int .u64 id,op] 240)) #[.int .u64 b] 22).alloc (.cells #[.int .u64 v] 22);simpa[World.size_alloc,Nat.add_assoc]using this)
 have z:Hid (Row w0 (w.heap.size+2) 22 [.int .u64 v]):=Z (by
  rw[<-d];have:=Row.new ((w.alloc (.cells #[.pointer (some ⟨L.mb,0,none⟩),.int .u64 id,op] 240)).alloc (.cells #[.int .u64 b] 22)) #[.int .u64 v] 22;simpa[World.size_alloc,Nat.add_assoc]using this)
 have l:Hid (∀i,w.heap.size<=i->χ i=.no):=Z (fun i G=>Classical.not_not.1 fun e=>absurd (h.small _ e) (by omega));obtain⟨I,J,M⟩:=r.c3;have j:=Z (lg (p1:=.pointer (some ⟨w.heap.size,0,none⟩)) (p2:=.pointer (some ⟨w.heap.size+1,0,none⟩)) (p3:=.pointer (some ⟨w.heap.size+2,0,none⟩)) 4 _ _ _ (Or.inr (Or.inr (Or.inr ⟨rfl,rfl,rfl⟩))) B D id op a b v A (fun c w1 o g=>Ex id op c b v o E _ _ _ (r.ch g (fun h=>h)) (y.ch g (fun h=>h)) (z.ch g (fun h=>h)) ⟨l _ (by omega),l _ (by omega),l _ (by omega)⟩ (s.at_.af g)) s.at_);obtain⟨q,x⟩:=nm (bR C K id op (K.mem,K.out) 4 a b v);obtain⟨K',t⟩:∃K',pe C K id op 4 a b v=K':=⟨_,rfl⟩;rw[x,t]at j;rw[x,t];obtain⟨F,H⟩:=q;dsimp only at j;cases F
 all_goals
  go_in
  go_wp2_with fail
  try rw[d]
  try clear d
  with_reducible refine j.out.mono ?_
 ·rintro e w4 ⟨⟨n,u,rfl,o⟩,m,p⟩
  obtain⟨tt,N,rfl⟩:=o;have f:=Z (And.intro m p);go_wp2
  go_ret2;exact iQ.of ⟨⟨_,_,rfl,ar.mk _ _⟩,f.1,f.2⟩ k
 ·rintro e w4 ⟨rfl,m,p⟩
  have f:=Z (And.intro m p);go_wp2
  go_ret2;exact iQ.of ⟨rfl,f.1,f.2⟩ k
def G8(ok:Bool)(χ:Nat->a')(L:cU)(Y:Var)(C:KC)(K K':KS)(w:World)(e:Ending)(w':World):Prop:=
 (∃v,e=.returned v/\(if ok then v=.nilIface else ar v))/\(∃aY Y',dD χ L Y C K K' w aY Y' w')/\Ch (fun i=>χ i=.mem∨χ i=.gL∨χ i=.out) w w'
theorem sW(id op a v:Int)(S:aI×List Ev):bR C K id op S 1 a 0 v=bR C K id op S 2 a 0 v:=by
 have:∀(M:aI) (c:Int),M.acc 1 c 0 v=M.acc 2 c 0 v:=fun M c=>by unfold aI.acc;simp
 unfold bR;dsimp only;simp only[this]
theorem sX(t:0<=C.wide/\C.wide<=256/\0<=C.narrow/\C.narrow<=256)(y:K.out.length<=900000)(id op a v:Int)(s:aK a)(B:aK v)(h:ae w χ L Y C K):
 Calls prog 260 #[.agg #[(L.mb,0),.int .u64 id,op],.int .u64 a,.int .u64 v] w (G8 (bR C K id op (K.mem,K.out) 1 a 0 v).1.isSome χ L Y C K (pe C K id op 1 a 0 v) w):=by
 obtain⟨w0,c⟩:=nm (w.alloc (.cells #[(L.mb,0),.int .u64 id,op] 240));have f:=Z (Ch.al (D:=ag) c);have p:=Z (h.gU f);have o:=Z (Row.al c);obtain⟨H,I,J⟩:=o.c3;have d:=Z (oD t y id op a v s B p.at_);have z:pe C K id op 1 a 0 v=pe C K id op 2 a 0 v:=by unfold pe;rw[sW]
 rw[sW,z];obtain⟨q,m⟩:=nm (bR C K id op (K.mem,K.out) 2 a 0 v);obtain⟨K',l⟩:∃K',pe C K id op 2 a 0 v=K':=⟨_,rfl⟩;rw[m,l]at d;rw[m,l];obtain⟨E,G⟩:=q;dsimp only at d;cases E
 all_goals
  go_in
  go_wp2_with fail
  try rw[c]
  try clear c
  with_reducible refine d.out.mono ?_
 ·rintro e w4 ⟨⟨n,u,rfl,A⟩,j,k⟩
  obtain⟨tt,F,rfl⟩:=A;have b:=Z (And.intro j k);go_wp2
  go_ret;obtain⟨r,⟨aY,Y',g⟩,i⟩:=iQ.of (x:=none) (w:=w) ⟨⟨n,_,rfl,ar.mk tt F⟩,b.1,b.2⟩ f;exact⟨⟨_,rfl,ar.mk _ _⟩,⟨aY,Y',g⟩,i⟩
 ·rintro e w4 ⟨rfl,j,k⟩
  have b:=Z (And.intro j k);go_wp2
  go_ret;obtain⟨r,⟨aY,Y',g⟩,i⟩:=iQ.of (x:=some 0) (w:=w) ⟨rfl,b.1,b.2⟩ f;exact⟨⟨_,rfl,rfl⟩,⟨aY,Y',g⟩,i⟩
variable{w1:World}{B b bx j k n p s:Nat}{e t:TypeId}{l xs:List Value}{u v vc vl vn vw:Value}{X:be}
structure gD where
 code:List be
 labels:List (ByteArray×Int)
 lines:List Int
 bu:List (Int×Int×ByteArray)
 line:Int
def ph(b:ByteArray×Int):List Value:=[.string b.1,.int .i64 b.2]
def oK(x:Int×Int×ByteArray):List Value:=[.int .i64 x.1,.int .i64 x.2.1,.string x.2.2]
def dn(X:be):List Value:=(aD X).toList
def jz(n:Int):List Value:=[n]
structure oL(w:World)(B p bx:Nat)(vc vl vn vw:Value)(S:gD):Prop where
 row:Row w p 144 [vc,vl,vn,vw,.int .i64 S.line]
 hB:B<=p
 code:w.ownsRow B 152 7 vc S.code.length (S.code.flatMap dn)
 ne:vc.ownBlock≠some bx
 labels:w.ownsRow B 154 2 vl S.labels.length (S.labels.flatMap ph)
 lines:w.ownsRow B 3 1 vn S.lines.length (S.lines.flatMap jz)
 bu:w.ownsRow B 150 3 vw S.bu.length (S.bu.flatMap oK)
def dK(w:World)(B p bx:Nat)(S:gD):Prop:=∃vc vl vn vw,oL w B p bx vc vl vn vw S
def hH(w w':World):Prop:=∀(k:Nat) (c:Array Value) (t:TypeId) (f:Nat×Nat),t≠144->t≠152->t≠150->w.heap[k]?=some (.cells c t f)->w'.heap[k]?=some (.cells c t f)
theorem hH.refl(w:World):hH w w:=fun _ _ _ _ _ _ _ h=>h
theorem hH.trans{a b c:World}(h:hH a b)(g:hH b c):hH a c:=fun k x t f d i m o=>g k x t f d i m (h k x t f d i m o)
theorem hH.row(h:hH w w')(f:Row w b t l)(a:t≠144)(c:t≠152)(d:t≠150):Row w' b t l:=h b _ t _ a c d f
theorem hH.fj{D:Nat->Prop}(c:Ch D w w')(d:∀k x t f,D k->w.heap[k]?=some (.cells x t f)->t=144∨t=152∨t=150):hH w w':=by
 intro k x t f i m o a;rw[c.same k (Array.getElem?_eq_some_iff.1 a).1 (fun g=>by rcases d k x t f g a with h|h|h<;>contradiction)];exact a
theorem bm{size:Nat}(h:w.ownsRow B e size v n xs){c:Array Value}{f:Nat×Nat}(a:w.heap[k]?=some (.cells c t f))(o:t≠e):v.ownBlock≠some k:=by
 rcases h.2 with⟨rfl,_⟩|⟨g,cap,cur,rfl,_,i,_⟩
 ·simp[Value.ownBlock]
 ·intro m
  have:g=k:=by simpa[Value.ownBlock]using m
  subst this;rw[i]at a;injection a with a
  injection a with _ d _
  exact o d.symm
theorem bW{size:Nat}(h:w.ownsRow B e size v n xs)(a:v.ownBlock=some k):B<=k/\∃c,w.heap[k]?=some (.cells c e (0,0)):=by
 rcases h.2 with⟨rfl,_⟩|⟨g,cap,cur,rfl,d,f,_⟩
 ·cases a
 ·have:g=k:=by simpa[Value.ownBlock]using a
  subst this;exact⟨d,_,f⟩
theorem eM(h:Row w b t l){c:Array Value}{d:TypeId}{f:Nat×Nat}(a:w.heap[b]?=some (.cells c d f)):d=t:=by
 unfold Row at h;rw[h]at a;injection a with a;injection a with _ g _;exact g.symm
theorem oL.ins{S:gD}(h:oL w B p bx vc vl vn vw S)(f:aq w bx X)(c:Ch (aH bx) w w'):oL w' B p bx vc vl vn vw S where
 row:=h.row.ch c (fun e=>by have a:p=bx:=e;subst a;exact absurd (eM h.row f) (by decide))
 hB:=h.hB
 code:=ak h.code c (fun g d e=>by have a:g=bx:=e;subst a;exact h.ne d)
 ne:=h.ne
 labels:=ak h.labels c (fun g d e=>by have a:g=bx:=e;subst a;exact bm h.labels f (by decide) d)
 lines:=ak h.lines c (fun g d e=>by have a:g=bx:=e;subst a;exact bm h.lines f (by decide) d)
 bu:=ak h.bu c (fun g d e=>by have a:g=bx:=e;subst a;exact bm h.bu f (by decide) d)
theorem oL.af{S:gD}(h:oL w B p bx vc vl vn vw S)(c:Ch ag w w'):oL w' B p bx vc vl vn vw S where
 row:=h.row.ch c id
 hB:=h.hB
 code:=ak h.code c (fun g a e=>e)
 ne:=h.ne
 labels:=ak h.labels c (fun g a e=>e)
 lines:=ak h.lines c (fun g a e=>e)
 bu:=ak h.bu c (fun g a e=>e)
theorem dK.af{S:gD}(h:dK w B p bx S)(c:Ch ag w w'):dK w' B p bx S:=by
 obtain⟨vc,vl,vn,vw,h⟩:=h;exact⟨vc,vl,vn,vw,h.af c⟩
theorem dK.ins{S:gD}(h:dK w B p bx S)(a:aq w bx X)(c:Ch (aH bx) w w'):dK w' B p bx S:=by
 obtain⟨vc,vl,vn,vw,h⟩:=h;exact⟨vc,vl,vn,vw,h.ins a c⟩
def wH(p:Nat)(v:Value):Nat->Prop:=fun i=>i=p∨v.ownBlock=some i
theorem kq(a:w.grownBy w1 v.ownBlock):Ch (wH p v) w (w1.setCell (p,j) u):=
 Ch.hj (D:=wH p v) (p:=⟨p,j,none⟩) ⟨a.os,a.tape,a.output,a.size,fun b hb c=>a.block b hb (fun e=>c (Or.inr e.symm))⟩ (Or.inl rfl) u
theorem f'(c:Ch (wH p v) w w')(h:w.ownsRow B e s v n xs)(a:B<=p)(d:B<=w.heap.size):Below B w w':=
 c.below d (fun b hb=>by rcases hb with rfl|hb;exact a;exact(bW h hb).1)
theorem dT(h:w1.ownsRow B e s v n xs)(f:Row w1 p t l)(i:t≠e):(w1.setCell (p,j) u).ownsRow B e s v n xs:=
 ak (D:=aH p) h ay (fun g d a=>by have c:g=p:=a;subst c;exact bm h f i d)
theorem oL.want{v':Value}{S:gD}(h:oL w B p bx vc vl vn vw S)(A:aq w bx X)(H:B<=w.heap.size)(y:Int×Int×ByteArray)
 (G:w1.ownsRow B 150 3 v' (S.bu.length+1) (S.bu.flatMap oK++oK y)) (a:w.grownBy w1 vw.ownBlock):
 dK (w1.setCell (p,3) v') B p bx {S with bu:=S.bu++[y]}/\aq (w1.setCell (p,3) v') bx X/\Below B w (w1.setCell (p,3) v')/\hH w (w1.setCell (p,3) v'):=by
 have c:=kq (p:=p) (j:=3) (u:=v') a;have I:Ch (wH p vw) w w1:=⟨a.os,a.tape,a.output,a.size,fun b hb E=>a.block b hb (fun e=>E (Or.inr e.symm))⟩;have C:∀{k:Nat} {cs:Array Value} {t:TypeId} {f:Nat×Nat},w.heap[k]?=some (.cells cs t f)->t≠144->t≠150->¬wH p vw k:=fun d o i q=>by
  rcases q with rfl|q
  ·exact o (eM h.row d)
  ·exact bm h.bu d i q
 have r:∀{e:TypeId} {s:Nat} {v:Value} {n:Nat} {xs:List Value},w.ownsRow B e s v n xs->e≠144->e≠150->∀g,v.ownBlock=some g->¬wH p vw g:=fun F o i g a=>by
  obtain⟨_,cs,d⟩:=bW F a;exact C d o i
 have z:Row w1 p 144 [vc,vl,vn,vw,.int .i64 S.line]:=by
  unfold Row;rw[a.block p h.row.lt (fun e=>bm h.bu h.row (by decide) e.symm)];exact h.row
 refine⟨⟨vc,vl,vn,v',⟨z.bc _ _ rfl,h.hB,ak h.code c (r h.code (by decide) (by decide)),h.ne,ak h.labels c (r h.labels (by decide) (by decide)),ak h.lines c (r h.lines (by decide) (by decide)),?_⟩⟩,A.ch c (C A (by decide) (by decide)),f' c h.bu h.hB H,?_⟩
 ·have:=dT (j:=3) (u:=v') G z (by decide)
  rw[List.flatMap_append,List.length_append];simpa using this
 ·refine hH.fj c (fun k x t f d m=> ?_)
  rcases d with rfl|d
  ·exact Or.inl (eM h.row m)
  ·obtain⟨_,cs,i⟩:=bW h.bu d
   rw[i]at m;injection m with m;injection m with _ D _
   exact Or.inr (Or.inr D.symm)
theorem AV:(prog.info? 150).map (fun i=>(i.zero,i.size,i.bytes))=some (some (.agg #[.int .i64 0,.int .i64 0,.string ByteArray.empty]),3,32):=by kernel_rfl
def kr(kind n:Int)(X:be):be:=if kind=0 then {X with a:=n}else if kind=1∨kind=3 then {X with b:=n}else if kind=2∨kind=4 then {X with c:=n}else X
def pj(kind v:Int)(X:be):be:=if kind=3 then {X with v:=v,b:=-1}else if kind=4 then {X with v:=v,c:=-1}else {X with v:=v}
def tj(kind:Int)(s:ByteArray)(S:gD)(X:be):Option (gD×be):=
 if kind=5 then(uW s X).map fun a=>(S,a)
 else if(kind=6∨kind=8)/\fZ s=true then some ({S with bu:=S.bu++[(S.line,(S.code.length:Int),s)]},kr kind (dW s).1 X)
 else if kind=6 then none
 else if kind=0∨kind=1∨kind=2 then(if(dW s).2 then some (S,kr kind (dW s).1 X)else none)
 else if(dW s).2=true/\(kind=3∨kind=4)then some (S,kr kind (dW s).1 X)
 else(yD s).map fun v=>(S,pj kind v (kr kind (dW s).1 X))
def dA(S:gD)(X:be)(B p bx:Nat)(w:World)(e:Ending)(w':World):Prop:=e=.returned (.pointer none)/\dK w' B p bx S/\aq w' bx X/\Below B w w'/\hH w w'
theorem dA.of{S:gD}{X d:be}{B p bx:Nat}{w w':World}(j:dK w B p bx S)(a:aq w bx d)(g:B<=bx)(l:aq w' bx X)(c:Ch (aH bx) w w'):dA S X B p bx w (.returned (.pointer none)) w':=
 ⟨rfl,j.ins a c,l,c.below (Nat.le_of_lt (Nat.lt_of_le_of_lt g a.lt)) (fun b hb=>by have e:b=bx:=hb;omega),hH.fj c (fun k x t f i h=>by have e:k=bx:=i;subst e;exact Or.inr (Or.inl (eM a h)))⟩
theorem ks(s:ByteArray)(a:s.size<=maxLen)(b:Bool)(h:fZ s=b)(w:World):Calls prog 89 #[.string s] w (QB b w):=by rw[<-h];exact yC s a w
theorem uX(kind:Int)(i:kind=6∨kind=8)(s:ByteArray)(am:s.size<=65536)(K:fZ s=true)(B p bx:Nat)(S:gD)(X:be)(w:World)
 (r:aq w bx X) (N:dK w B p bx S) (a9:B<=bx) (hlen:S.bu.length<=1048576):
 Calls prog 93 #[(p,0),kind,.string s,(bx,0)] w
  (dA {S with bu:=S.bu++[(S.line,(S.code.length:Int),s)]} X B p bx w):=by
 obtain⟨U,J,Q,R,T⟩:=info_parts AV;have o:s.size<=maxLen:=by unfold maxLen;omega
 rcases M:dW s with⟨n,b⟩
 have z:=Z (jW s o n b M);have y:=Z (ks s o true K);obtain⟨vc,vl,vn,vw,a⟩:=N;have C:=Z a;have E:=Z r;have al:=a.row.lt;have h:vw.ownBlock≠some p:=bm a.bu a.row (by decide);obtain⟨l,m,I⟩:=au a.code;have v:=Z I;have x:=Z J;have H:B<=w.heap.size:=by have:=r.lt;omega
 have k:Hid (∀(w1:World),Ch ag w w1->oL w1 B p bx vc vl vn vw S/\aq w1 bx X):=Z (fun w1 c=>⟨C.af c,E.ch c id⟩);rcases i with rfl|rfl
 all_goals
  go_in
  go_wp2_with (first|(go_at_call 128;(with_reducible refine(z.out _).mono ?_);rintro e w' ⟨rfl,V,rfl⟩)|(go_at_call 89;(with_reducible refine(y.out _).mono ?_);rintro e w' ⟨rfl,W,rfl⟩))
  obtain⟨w1,q⟩:=nm (w.drewN (V+W));have d:=Z (Ch.dN (D:=ag) q);rw[q];have a:=(k _ d).1;have A:=Z a;have F:=Z (k _ d).2;have O:=d.size;have Y:w1.cell? (p,0)=some (.slice l S.code.length m):=by rw[<-v];exact a.row.cell rfl
  have a0:w1.cell? (p,3)=some vw:=a.row.cell rfl;have a1:w1.cell? (p,4)=some (.int .i64 S.line):=a.row.cell rfl;have G:=a.row.free 3;have g:p<w1.heap.size:=by omega
  have P:=a.bu;have j:=Z O;go_region_law (first|(refine step_append_lies _ (by rfl) _ _ _ (by rfl) B 150 U _ 3 32 underlying142 x Q R T rfl (by omega) vw S.bu.length (S.bu.flatMap oK) (by rfl) ((P.alloc _).drew) ⟨w1.heap.size,0,none⟩ 1 1 [.int .i64 S.line,.int .i64 S.code.length,.string s] (by rfl) (by rfl) (World.news_of_block (cs:=#[.int .i64 S.line,.int .i64 S.code.length,.string s]) (t:=150) (fr:=(0,0)) (heap_alloc_new w1 _)) (by simp[Value.oneCell']) (by omega) (by unfold maxLen;omega) (by omega) (by simp;have:=j.out;omega) (w1.heap.size+1) (by simp) ?_;intro a5 cap w2 L f ab ad;have u:w2.cell? (p,3)=some vw:=(f.cell_far ⟨p,3,none⟩ (by simp;omega) (Ne.symm h)).trans (by simp[go_sem,World.cell?_alloc_past,g,a0]);have av:w2.frozen? (p,3)=false:=(f.frozen_far ⟨p,3,none⟩ (by simp;omega) (Ne.symm h)).trans (by simp[go_sem,World.frozen?_alloc_past,g,G]);have ap:w2.cell? (p,0)=some (.slice l S.code.length m):=(f.cell_far ⟨p,0,none⟩ (by simp;omega) (Ne.symm h)).trans (by simp[go_sem,World.cell?_alloc_past,g,Y]);have bi:w2.cell? (p,4)=some (.int .i64 S.line):=(f.cell_far ⟨p,4,none⟩ (by simp;omega) (Ne.symm h)).trans (by simp[go_sem,World.cell?_alloc_past,g,a1])))
  all_goals
   go_wp2
   go_ret;obtain⟨a2,a3,a4,u⟩:=A.want F (by have:=j.out;omega) (S.line,(S.code.length:Int),s) L (ao (cY f));exact⟨rfl,a2,a3,(d.below H (fun _ hb=>False.elim hb)).trans a4,(hH.fj d (fun _ _ _ _ i _=>False.elim i)).trans u⟩
theorem yG(kind:Int)(R:0<=kind/\kind<=8)(s:ByteArray)(A:s.size<=65536)(B p bx:Nat)(S S':gD)(X t:be)(w:World)(h:tj kind s S X=some (S',t))
 (d:aq w bx X) (x:dK w B p bx S) (f:B<=bx) (hlen:S.bu.length<=1048576) (r:p≠bx):
 Calls prog 93 #[(p,0),kind,.string s,(bx,0)] w (dA S' t B p bx w):=by
 have k:s.size<=maxLen:=by unfold maxLen;omega
 by_cases q:(kind=6∨kind=8)/\fZ s=true
 ·unfold tj at h
  rw[if_neg (by omega),if_pos q]at h;have e:kr kind (dW s).1 X=X:=by unfold kr;rw[if_neg (by omega),if_neg (by omega),if_neg (by omega)]
  rw[e]at h;obtain⟨rfl,rfl⟩:=Prod.mk.inj (Option.some.inj h);exact uX kind q.1 s A q.2 B p bx S X w d x f hlen
 ·have j:=Z x
  have a:=Z d;have f1:=d.free 1;have f2:=d.free 2;have f3:=d.free 3;have f4:=d.free 4;have N:w.cell? (bx,1)=some (.int .i64 X.a):=d.cell rfl;have O:w.cell? (bx,2)=some (.int .i64 X.b):=d.cell rfl;have P:w.cell? (bx,3)=some (.int .i64 X.c):=d.cell rfl;have Q:w.cell? (bx,4)=some (.int .u64 X.v):=d.cell rfl;obtain⟨vc,vl,vn,vw,F⟩:=x;have g:w.cell? (p,4)=some (.int .i64 S.line):=F.row.cell rfl;rcases z:dW s with⟨n,b⟩
  have i:=Z (jW s k n b z);have K:kind=6∨kind=8->fZ s=false:=fun u=>by
   cases I:fZ s with
   |false=>rfl
   |true=>exact absurd ⟨u,I⟩ q
  have y:=Z (fun u w=>ks s k false (K u) w);have J:kind=0∨kind=1∨kind=2∨kind=3∨kind=4∨kind=5∨kind=6∨kind=7∨kind=8:=by omega
  unfold tj at h;rw[z]at h;rcases J with rfl|rfl|rfl|rfl|rfl|rfl|rfl|rfl|rfl
  all_goals(first|rw[if_neg (by decide),if_neg q]at h|skip)
  all_goals clear q
  ·cases b<;>simp[kr,pj]at h
   obtain⟨rfl,rfl⟩:=h;go_in
   go_wp2_with (go_at_call 128;(with_reducible refine(i.out _).mono ?_);rintro e w' ⟨rfl,l,rfl⟩)
   go_ret;refine dA.of j.out a.out f ?_ ay
   (repeat(first|with_reducible refine aq.drewN ?_ _|with_reducible refine aq.drew ?_))
   refine aq.Gc (X:=X) ?_ n
   (repeat(first|with_reducible refine aq.drewN ?_ _|with_reducible refine aq.drew ?_))
   exact a
  ·cases b<;>simp[kr,pj]at h
   obtain⟨rfl,rfl⟩:=h;go_in
   go_wp2_with (go_at_call 128;(with_reducible refine(i.out _).mono ?_);rintro e w' ⟨rfl,l,rfl⟩)
   go_ret;refine dA.of j.out a.out f ?_ ay
   (repeat(first|with_reducible refine aq.drewN ?_ _|with_reducible refine aq.drew ?_))
   refine aq.oJ (X:=X) ?_ n
   (repeat(first|with_reducible refine aq.drewN ?_ _|with_reducible refine aq.drew ?_))
   exact a
  ·cases b<;>simp[kr,pj]at h
   obtain⟨rfl,rfl⟩:=h;go_in
   go_wp2_with (go_at_call 128;(with_reducible refine(i.out _).mono ?_);rintro e w' ⟨rfl,l,rfl⟩)
   go_ret;refine dA.of j.out a.out f ?_ ay
   (repeat(first|with_reducible refine aq.drewN ?_ _|with_reducible refine aq.drew ?_))
   refine aq.wE (X:=X) ?_ n
   (repeat(first|with_reducible refine aq.drewN ?_ _|with_reducible refine aq.drew ?_))
   exact a
  ·cases b
   ·simp[kr,pj]at h
    obtain⟨v,o,rfl,rfl⟩:=h;have m:=Z (c' s k v o p S.line);go_in
    go_wp2_with (first|(go_at_call 128;(with_reducible refine(i.out _).mono ?_);rintro e w' ⟨rfl,l,rfl⟩)|(go_at_call 132;(with_reducible refine(m.out _ ?_).mono ?_);(first|exact g|simp[go_sem,r,g]);rintro e w' ⟨rfl,k,rfl⟩))
    go_ret;refine dA.of j.out a.out f ?_ ay
    (repeat(first|with_reducible refine aq.drewN ?_ _|with_reducible refine aq.drew ?_))
    refine aq.oJ (X:={X with b:=n,v:=v}) ?_ (-1)
    (repeat(first|with_reducible refine aq.drewN ?_ _|with_reducible refine aq.drew ?_))
    refine aq.mU (X:={X with b:=n}) ?_ v
    (repeat(first|with_reducible refine aq.drewN ?_ _|with_reducible refine aq.drew ?_))
    refine aq.oJ (X:=X) ?_ n
    (repeat(first|with_reducible refine aq.drewN ?_ _|with_reducible refine aq.drew ?_))
    exact a
   ·simp[kr,pj]at h
    obtain⟨rfl,rfl⟩:=h;go_in
    go_wp2_with (go_at_call 128;(with_reducible refine(i.out _).mono ?_);rintro e w' ⟨rfl,l,rfl⟩)
    go_ret;refine dA.of j.out a.out f ?_ ay
    (repeat(first|with_reducible refine aq.drewN ?_ _|with_reducible refine aq.drew ?_))
    refine aq.oJ (X:=X) ?_ n
    (repeat(first|with_reducible refine aq.drewN ?_ _|with_reducible refine aq.drew ?_))
    exact a
  ·cases b
   ·simp[kr,pj]at h
    obtain⟨v,o,rfl,rfl⟩:=h;have m:=Z (c' s k v o p S.line);go_in
    go_wp2_with (first|(go_at_call 128;(with_reducible refine(i.out _).mono ?_);rintro e w' ⟨rfl,l,rfl⟩)|(go_at_call 132;(with_reducible refine(m.out _ ?_).mono ?_);(first|exact g|simp[go_sem,r,g]);rintro e w' ⟨rfl,k,rfl⟩))
    go_ret;refine dA.of j.out a.out f ?_ ay
    (repeat(first|with_reducible refine aq.drewN ?_ _|with_reducible refine aq.drew ?_))
    refine aq.wE (X:={X with c:=n,v:=v}) ?_ (-1)
    (repeat(first|with_reducible refine aq.drewN ?_ _|with_reducible refine aq.drew ?_))
    refine aq.mU (X:={X with c:=n}) ?_ v
    (repeat(first|with_reducible refine aq.drewN ?_ _|with_reducible refine aq.drew ?_))
    refine aq.wE (X:=X) ?_ n
    (repeat(first|with_reducible refine aq.drewN ?_ _|with_reducible refine aq.drew ?_))
    exact a
   ·simp[kr,pj]at h
    obtain⟨rfl,rfl⟩:=h;go_in
    go_wp2_with (go_at_call 128;(with_reducible refine(i.out _).mono ?_);rintro e w' ⟨rfl,l,rfl⟩)
    go_ret;refine dA.of j.out a.out f ?_ ay
    (repeat(first|with_reducible refine aq.drewN ?_ _|with_reducible refine aq.drew ?_))
    refine aq.wE (X:=X) ?_ n
    (repeat(first|with_reducible refine aq.drewN ?_ _|with_reducible refine aq.drew ?_))
    exact a
  ·simp at h
   obtain⟨G,rfl⟩:=h;have C:=Z (fun w g d=>yE s A X t G p bx S.line w g d);go_in
   go_wp2_with (first|(go_at_call 128;(with_reducible refine(i.out _).mono ?_);rintro e w' ⟨rfl,l,rfl⟩)|(go_at_call 131;(with_reducible refine(C.out _ ?_ ?_).mono ?_);exact g;exact a.out.drewN _;rintro e w' ⟨rfl,L,H⟩;have E:=Z L;have D:=Z H))
   go_ret;exact dA.of j a f E (Ch.trans ay D)
  ·simp at h
  ·simp[kr,pj]at h
   obtain⟨v,o,rfl,rfl⟩:=h;have m:=Z (c' s k v o p S.line);cases b
   all_goals
    go_in
    go_wp2_with (first|(go_at_call 128;(with_reducible refine(i.out _).mono ?_);rintro e w' ⟨rfl,l,rfl⟩)|(go_at_call 89;(with_reducible refine(y.out (by decide) _).mono ?_);rintro e w' ⟨rfl,M,rfl⟩)|(go_at_call 132;(with_reducible refine(m.out _ ?_).mono ?_);(first|exact g|simp[go_sem,r,g]);rintro e w' ⟨rfl,k,rfl⟩))
    go_ret;refine dA.of j.out a.out f ?_ ay
    (repeat(first|with_reducible refine aq.drewN ?_ _|with_reducible refine aq.drew ?_))
    refine aq.mU (X:=X) ?_ v
    (repeat(first|with_reducible refine aq.drewN ?_ _|with_reducible refine aq.drew ?_))
    exact a
  ·simp[kr,pj]at h
   obtain⟨v,o,rfl,rfl⟩:=h;have m:=Z (c' s k v o p S.line);cases b
   all_goals
    go_in
    go_wp2_with (first|(go_at_call 128;(with_reducible refine(i.out _).mono ?_);rintro e w' ⟨rfl,l,rfl⟩)|(go_at_call 89;(with_reducible refine(y.out (by decide) _).mono ?_);rintro e w' ⟨rfl,M,rfl⟩)|(go_at_call 132;(with_reducible refine(m.out _ ?_).mono ?_);(first|exact g|simp[go_sem,r,g]);rintro e w' ⟨rfl,k,rfl⟩))
    go_ret;refine dA.of j.out a.out f ?_ ay
    (repeat(first|with_reducible refine aq.drewN ?_ _|with_reducible refine aq.drew ?_))
    refine aq.mU (X:=X) ?_ v
    (repeat(first|with_reducible refine aq.drewN ?_ _|with_reducible refine aq.drew ?_))
    exact a
variable{w2:World}{l:Value}
theorem CW:(prog.info? 9).map (fun i=>(i.zero,i.size,i.bytes))=some (some (.string ByteArray.empty),1,16):=by kernel_rfl
def tk(l:List UInt8):ByteArray:=⟨l.toArray⟩
theorem tn(l:List UInt8):(tk l).size=l.length:=by simp[tk,ByteArray.size]
theorem jA(l:List UInt8):(tk l).data.toList=l:=by simp[tk]
def pn(w:List UInt8):List ByteArray:=if w=[]then []else [tk w]
def lj:List UInt8->List UInt8->List ByteArray
 |[],w=>pn w
 |c::cs,w=>if(c.toNat:Int)≠32/\(c.toNat:Int)≠59 then lj cs (w++[c])else if(c.toNat:Int)=59 then pn w else pn w++lj cs []
def e7(s:ByteArray):List ByteArray:=lj s.data.toList []
def iw(a:List ByteArray)(w:World)(e:Ending)(w':World):Prop:=
 ∃v,e=.returned v/\w'.ownsRow w.heap.size 9 1 v a.length (a.map Value.string)/\Below w.heap.size w w'
theorem iw.mk{a:List ByteArray}{w':World}{v:Value}(acc:List ByteArray)(h:a=acc)(b:w'.ownsRow w.heap.size 9 1 v acc.length (acc.map Value.string))(hb:Below w.heap.size w w'):iw a w (.returned v) w':=by
 subst h;exact⟨v,rfl,b,hb⟩
theorem l9{wr:World}{o:Obj}{n:Nat}{xs:List Value}(h:Below B w wr)(d:wr.ownsRow B 9 1 l n xs)(b:(wr.alloc o).grownBy w2 l.ownBlock)(a:B<=wr.heap.size:=by omega):Below B w w2:=
 (h.alloc a o).grown b (by simp;omega) (fun k c=>(d.lt k c).1)
theorem q'{acc:List ByteArray}{x:ByteArray}(h:w2.ownsRow B 9 1 l (acc.length+1) (acc.map Value.string++[.string x])):w2.ownsRow B 9 1 l (acc++[x]).length ((acc++[x]).map Value.string):=by
 simpa using h
def AW(s:ByteArray)(w:World)(l wv i:Value)(wr:World):Prop:=
 ∃(k:Nat) (a:List UInt8) (acc:List ByteArray),k<=s.size+1/\i=.int .i64 k/\wv=.string (tk a)/\a.length<=k/\acc.length<=k/\wr.ownsRow w.heap.size 9 1 l acc.length (acc.map Value.string)/\Below w.heap.size w wr/\((k<=s.size/\acc++lj (s.data.toList.drop k) a=e7 s)∨(s.size<k/\acc=e7 s))
theorem oM(s:ByteArray)(a0:s.size<=65536)(w:World):Calls prog 51 #[.string s] w (iw (e7 s) w):=by
 obtain⟨N,I,K,L,M⟩:=info_parts CW;go_wp2
 go_loopw [3,4,5] (fun l wv i wr=>AW s w l wv i wr) (fun _ _ i _=>s.size+1-(intOf i).toNat)
 case atStart=>exact⟨0,[],[],by omega,rfl,rfl,by simp,by simp,World.ownsRow_nil _ _ _ _,Below.refl _ _,Or.inl ⟨by omega,rfl⟩⟩
 case round=>
  obtain⟨k,c,acc,Y,rfl,rfl,a2,X,p,r,A⟩:=hrel;have a1:=r.size;rcases A with⟨T,A⟩|⟨T,A⟩
  ·have y:=Z A
   have V:(tk c).size=c.length:=tn c;have W:=Z V;have J:(tk c).size<=65536:=(by omega);by_cases U:k<s.size
   ·have q:Hid (s.data.toList.drop k=s[k]::s.data.toList.drop (k+1)):=drop_cons s k U
    have Q:Hid (tk c++s.extract k (k+1)=tk (c++[s[k]])):=by
     show _=_
     have e:(s.extract k (k+1)).data.toList=[s[k]]:=by
      rw[ByteArray.data_extract,Array.toList_extract,List.extract_eq_take_drop,show k+1-k=1 from by omega,q];rfl
     apply ByteArray.ext;apply Array.ext';rw[ByteArray.data_append,Array.toList_append,e,jA,jA]
    by_cases H:(s[k].toNat:Int)=32
    ·obtain⟨t,d⟩:=nm (tk c)
     rw[d]at J⊢;have O:=Z d;have P:((s[k].toNat:Int) !=32)=false:=(by simpa using H);have S:((s[k].toNat:Int)==59)=false:=(by rw[H];rfl);by_cases g:c=[]
     ·have n:t.toList=[]:=by rw[<-d,g,ByteArray.toList_eq];rfl
      have C:(!t.toList.isEmpty)=false:=(by rw[n];rfl);have m:Hid (acc++lj (s.data.toList.drop (k+1)) []=e7 s):=by
       show _=_
       rw[<-y,q];rw[lj,if_neg (by omega),if_neg (by omega),g];rfl
      go_wp2
      go_roundw
      case rel=>exact⟨k+1,[],acc,by omega,by go_num,rfl,by simp,by omega,p,r,Or.inl ⟨by omega,m⟩⟩
      case measure=>simp[intOf];omega
     ·have n:¬t.toList=[]:=by
       intro o;have v:(tk c).toList=[]:=(by rw[d];exact o);rw[ByteArray.toList_eq]at v;exact g (by rw[<-jA c];exact v)
      have C:(!t.toList.isEmpty)=true:=by
       cases o:t.toList with
       |nil=>exact absurd o n
       |cons a b=>rfl
      have m:Hid ((acc++[t])++lj (s.data.toList.drop (k+1)) []=e7 s):=by
       show _=_
       rw[<-y,q];rw[lj,if_neg (by omega),if_neg (by omega),pn,if_neg g,d,List.append_assoc]
      go_wp2_with (at_builtin;refine wpList_append_own _ rfl _ _ 145 rfl w.heap.size 9 N (.string ByteArray.empty) 1 16 underlying145 I K L M rfl (by decide) _ _ _ rfl (p.alloc _) ⟨wr.heap.size,0,none⟩ 1 1 [.string t] rfl rfl ?_ ?_ ?_ ?_ ?_ ?_)
      ·intro j u f
       match j,f with
       |0,f=>simp at f;subst f;simp[Addr.add]
      ·first|rfl|(intro u x;simp at x;subst x;rfl)
      ·unfold maxLen;omega
      ·omega
      ·simp;omega
      intro v' w2 F E _;have D:=l9 r p E;have G:=q' F;go_wp2
      go_roundw
      case rel=>exact⟨k+1,[],acc++[t],by omega,by go_num,rfl,by simp,by simp;try omega,G,D,Or.inl ⟨by omega,m⟩⟩
      case measure=>simp[intOf];omega
    ·by_cases z:(s[k].toNat:Int)=59
     ·obtain⟨t,d⟩:=nm (tk c)
      rw[d]at J⊢;have O:=Z d;have P:((s[k].toNat:Int) !=32)=true:=(by rw[z];rfl);have R:((s[k].toNat:Int) !=59)=false:=(by rw[z];rfl);have S:((s[k].toNat:Int)==59)=true:=(by rw[z];rfl);by_cases g:c=[]
      ·have n:t.toList=[]:=by rw[<-d,g,ByteArray.toList_eq];rfl
       have C:(!t.toList.isEmpty)=false:=(by rw[n];rfl);have m:Hid (acc++[]=e7 s):=by
        show _=_
        rw[<-y,q];rw[lj,if_neg (by omega),if_pos z,g];rfl
       go_wp2
       go_ret;exact iw.mk _ (by have h:=m.out;rw[List.append_nil]at h;exact h.symm) p r
      ·have n:¬t.toList=[]:=by
        intro o;have v:(tk c).toList=[]:=(by rw[d];exact o);rw[ByteArray.toList_eq]at v;exact g (by rw[<-jA c];exact v)
       have C:(!t.toList.isEmpty)=true:=by
        cases o:t.toList with
        |nil=>exact absurd o n
        |cons a b=>rfl
       have m:Hid ((acc++[t])++[]=e7 s):=by
        show _=_
        rw[<-y,q];rw[lj,if_neg (by omega),if_pos z,pn,if_neg g,d,List.append_nil]
       go_wp2_with (at_builtin;refine wpList_append_own _ rfl _ _ 145 rfl w.heap.size 9 N (.string ByteArray.empty) 1 16 underlying145 I K L M rfl (by decide) _ _ _ rfl (p.alloc _) ⟨wr.heap.size,0,none⟩ 1 1 [.string t] rfl rfl ?_ ?_ ?_ ?_ ?_ ?_)
       ·intro j u f
        match j,f with
        |0,f=>simp at f;subst f;simp[Addr.add]
       ·first|rfl|(intro u x;simp at x;subst x;rfl)
       ·unfold maxLen;omega
       ·omega
       ·simp;omega
       intro v' w2 F E _;have D:=l9 r p E;have G:=q' F;go_wp2
       go_ret;exact iw.mk _ (by have h:=m.out;rw[List.append_nil]at h;exact h.symm) G D
     ·have P:((s[k].toNat:Int) !=32)=true:=by simpa using H
      have R:((s[k].toNat:Int) !=59)=true:=(by simpa using z);have m:Hid (acc++lj (s.data.toList.drop (k+1)) (c++[s[k]])=e7 s):=by
       show _=_
       rw[<-y,q,lj,if_pos ⟨H,z⟩]
      go_wp2
      go_roundw
      case rel=>exact⟨k+1,c++[s[k]],acc,by omega,by go_num,congrArg Value.string Q,by simp;omega,by omega,p,r,Or.inl ⟨by omega,m⟩⟩
      case measure=>simp[intOf];omega
   ·have q:Hid (s.data.toList.drop k=[]):=iv s k (by omega)
    obtain⟨t,d⟩:=nm (tk c);rw[d]at J⊢;have O:=Z d;by_cases g:c=[]
    ·have n:t.toList=[]:=by rw[<-d,g,ByteArray.toList_eq];rfl
     have C:(!t.toList.isEmpty)=false:=(by rw[n];rfl);have m:Hid (acc++[]=e7 s):=by
      show _=_
      rw[<-y,q];rw[lj,g];rfl
     go_wp2
     go_roundw
     case rel=>exact⟨k+1,[],acc,by omega,by go_num,rfl,by simp,by omega,p,r,Or.inr ⟨by omega,by have h:=m.out;rw[List.append_nil]at h;exact h⟩⟩
     case measure=>simp[intOf];omega
    ·have n:¬t.toList=[]:=by
      intro o;have v:(tk c).toList=[]:=(by rw[d];exact o);rw[ByteArray.toList_eq]at v;exact g (by rw[<-jA c];exact v)
     have C:(!t.toList.isEmpty)=true:=by
      cases o:t.toList with
      |nil=>exact absurd o n
      |cons a b=>rfl
     have m:Hid ((acc++[t])++[]=e7 s):=by
      show _=_
      rw[<-y,q];rw[lj,pn,if_neg g,d,List.append_nil]
     go_wp2_with (at_builtin;refine wpList_append_own _ rfl _ _ 145 rfl w.heap.size 9 N (.string ByteArray.empty) 1 16 underlying145 I K L M rfl (by decide) _ _ _ rfl (p.alloc _) ⟨wr.heap.size,0,none⟩ 1 1 [.string t] rfl rfl ?_ ?_ ?_ ?_ ?_ ?_)
     ·intro j u f
      match j,f with
      |0,f=>simp at f;subst f;simp[Addr.add]
     ·first|rfl|(intro u x;simp at x;subst x;rfl)
     ·unfold maxLen;omega
     ·omega
     ·simp;omega
     intro v' w2 F E _;have D:=l9 r p E;have G:=q' F;go_wp2
     go_roundw
     case rel=>exact⟨k+1,[],acc++[t],by omega,by go_num,rfl,by simp,by simp;omega,G,D,Or.inr ⟨by omega,by have h:=m.out;rw[List.append_nil]at h;exact h⟩⟩
     case measure=>simp[intOf];omega
  ·go_wp2
   go_ret;exact iw.mk _ A.symm p r
variable{w0:World}{acc:List Int}
theorem np{b i:Nat}{c:Array Value}{t:TypeId}(h:w.heap[b]?=some (.cells c t (0,0))):w.cell? (b,i)=c[i]?:=cell_of_row w b i _ _ _ h
theorem lk:(prog.info? 3).map (fun i=>(i.zero,i.size,i.bytes))=some (some (.int .i64 0),1,8):=by kernel_rfl
abbrev GH:=Bool×Bool×Bool×Bool×Bool×Bool×Bool×Bool
def AX(op:Int):GH:=
 if op=1 then(true,false,false,true,false,false,false,true)
 else if op=2∨op=23∨op=49∨op=50∨op=47∨op=39∨op=54 then(true,true,false,false,false,false,false,true)
 else if op=3∨op=4∨op=5∨op=6∨op=7∨op=8∨op=9∨op=10∨op=11 then(true,true,true,true,false,true,false,true)
 else if op=12∨op=15 then(false,false,false,true,false,false,true,true)
 else if op=13∨op=14 then(true,false,false,true,false,false,true,true)
 else if op=16∨op=33∨op=55∨op=56∨op=58 then(false,false,false,false,false,false,false,true)
 else if op=17∨op=18∨op=19∨op=20∨op=31 then(true,true,false,true,true,false,false,true)
 else if op=21∨op=32 then(true,true,true,true,true,false,false,true)
 else if op=22 then(false,false,false,true,false,false,false,true)
 else if op=43 then(true,true,false,true,true,false,false,true)
 else if op=45 then(true,true,false,true,false,false,false,true)
 else if op=24∨op=25∨op=26∨op=27∨op=48 then(true,true,true,false,false,false,false,true)
 else if op=28∨op=29∨op=30∨op=34∨op=35∨op=36∨op=37∨op=38∨op=40∨op=41∨op=42∨op=44∨op=46∨op=51∨op=52∨op=53∨op=57 then(true,false,false,false,false,false,false,true)
 else(false,false,false,false,false,false,false,false)
def HA(p:GH):Value:=.agg #[.bool p.1,.bool p.2.1,.bool p.2.2.1,.bool p.2.2.2.1,.bool p.2.2.2.2.1,.bool p.2.2.2.2.2.1,.bool p.2.2.2.2.2.2.1,.bool p.2.2.2.2.2.2.2]
def wI(p:GH)(w:World)(e:Ending)(w':World):Prop:=e=.returned (HA p)/\Below w.heap.size w w'
theorem wI.mk{p:GH}{a b c d x y z i:Bool}(h:p=(a,b,c,d,x,y,z,i))(hb:Below w.heap.size w w'):wI p w (.returned (.agg #[.bool a,.bool b,.bool c,.bool d,.bool x,.bool y,.bool z,.bool i])) w':=by subst h;exact⟨rfl,hb⟩
set_option maxHeartbeats 16000000 in
theorem EW(op:Int)(w:World):Calls prog 129 #[op] w (wI (AX op) w):=by
 go_wp2
 all_goals
  simp only[beq_iff_eq,beq_eq_false_iff_ne,ne_eq]at*;simp[bodyPost,results,Tryz.results129,go_sem];refine wI.mk ?_ ?_
  ·unfold AX
   repeat first
    |rfl
    |rw[if_pos (by omega)]
    |rw[if_neg (by omega)]
  ·repeat first
    |exact Below.refl _ _
    |refine Below.alloc ?_ (by simp) _
    |refine Below.setCell ?_ (by simp) _
def oN(op:Int):Bool:=decide (op=17∨op=18∨op=19∨op=20∨op=31∨op=21∨op=32)
theorem uY(op:Int)(w:World):Calls prog 130 #[op] w (kz (oN op) w):=by
 go_wp2
 all_goals
  go_ret;simp only[beq_iff_eq,beq_eq_false_iff_ne,ne_eq]at*;refine kz.mk ?_;unfold oN
  first
   |exact decide_eq_true (by omega)
   |exact decide_eq_false (by omega)
def b':List ByteArray:=[⟨#[115,101,116]⟩,⟨#[109,111,118]⟩,⟨#[97,100,100]⟩,⟨#[115,117,98]⟩,⟨#[97,110,100]⟩,⟨#[111,114]⟩,⟨#[120,111,114]⟩,⟨#[115,104,108]⟩,⟨#[115,104,114]⟩,⟨#[101,113]⟩,⟨#[108,116]⟩,⟨#[106,109,112]⟩,⟨#[106,122]⟩,⟨#[106,110,122]⟩,⟨#[106,115,114]⟩,⟨#[114,101,116]⟩,⟨#[108,100]⟩,⟨#[115,116]⟩,⟨#[115,119,112]⟩,⟨#[102,97,100]⟩,⟨#[99,97,115]⟩,⟨#[99,97,108,108]⟩,⟨#[104,115,104]⟩,⟨#[113,112,116]⟩,⟨#[113,116,107]⟩,⟨#[113,109,118]⟩,⟨#[113,104,115]⟩,⟨#[115,108,112]⟩,⟨#[104,110,100]⟩,⟨#[112,105,107]⟩,⟨#[108,97,121]⟩,⟨#[116,97,107]⟩,⟨#[105,110,106]⟩,⟨#[105,106,116]⟩,⟨#[114,117,110]⟩,⟨#[112,114,107]⟩,⟨#[115,108,102]⟩,⟨#[119,114,107]⟩,⟨#[119,107,100]⟩,⟨#[119,107,110]⟩,⟨#[110,111,119]⟩,⟨#[100,114,119]⟩,⟨#[103,101,116]⟩,⟨#[102,114,101]⟩,⟨#[111,98,106]⟩,⟨#[100,101,108]⟩,⟨#[99,107,112]⟩,⟨#[116,110,119]⟩,⟨#[116,115,116]⟩,⟨#[116,104,109]⟩,⟨#[116,106,110]⟩,⟨#[116,100,116]⟩,⟨#[116,101,120]⟩,⟨#[116,114,112]⟩,⟨#[101,110,100]⟩,⟨#[121,108,100]⟩,⟨#[99,98,107]⟩,⟨#[102,105,110]⟩]
theorem uZ(w:World):Calls prog 91 #[] w fun e w'=>e=.returned (.slice (some (w.heap.size,0)) 58 58)/\Row w' w.heap.size 9 (b'.map Value.string)/\Ch ag w w':=by
 go_wp2
 go_ret;exact⟨rfl,Row.new w (b'.map Value.string).toArray _,ay⟩
def gE(op:Int):List Int:=
 if op=1 then [0,8]else if op=12∨op=15 then [6]else if op=13∨op=14 then [0,6]else if op=22 then [7]else if op=43 then [0,3]else if op=45 then [0,1,7]
 else(if(AX op).1 then [0]else [])++(if oN op then [5]else if(AX op).2.1 then [1]else [])++(if(AX op).2.2.2.2.2.1 then [4]else if(AX op).2.2.1 then [2]else [])
def CX(l:List Int)(w:World)(e:Ending)(w':World):Prop:=∃v,e=.returned v/\w'.ownsRow w.heap.size 3 1 v l.length (l.map (Value.int .i64))/\Below w.heap.size w w'
theorem CX.lit{l:List Int}(a:n=l.length)(b:l.length<=10):CX l w (.returned (.slice (some (w.heap.size,0)) n n)) (w.alloc (.cells (l.map (Value.int .i64)).toArray 3)):=by
 subst a;refine⟨_,rfl,⟨by simp,Or.inr ⟨w.heap.size,l.length,_,rfl,Nat.le_refl _,hU,Nat.le_refl _,?_,by simp,?_⟩⟩,(Below.refl _ _).alloc (Nat.le_refl _) _⟩
 ·unfold maxLen;omega
 ·rw[List.take_of_length_le (by simp)]
theorem dU{d:Nat}{e:TypeId}{size:Nat}{xs:List Value}(h:w.ownsRow B e size v n xs)(f:d<=B):w.ownsRow d e size v n xs:=
 ⟨h.1,h.2.elim Or.inl fun⟨g,cap,cur,a,b,c⟩=>Or.inr ⟨g,cap,cur,a,Nat.le_trans f b,c⟩⟩
def ra(l:List Int):List Value:=l.map (Value.int .i64)
structure ix(B:Nat)(w0 w:World)(v:Value)(acc:List Int):Prop where
 own:w.ownsRow B 3 1 v acc.length (ra acc)
 below:Below B w0 w
theorem ix.keep(h:ix B w0 w v acc)(hb:Below w.heap.size w w')(a:B<=w.heap.size):ix B w0 w' v acc:=
 ⟨h.own.kept (row:=none) ⟨hb.os,hb.tape,hb.output,hb.size,fun k b _=>hb.block k b⟩ (by cases v.ownBlock<;>simp),h.below.trans (hb.mono a)⟩
theorem ln{ops:Array Oper}{rest:List Oper}{o:Oper}{a:Act}{Q:Exit->Act->World->Prop}(p:o.guard=none)(f x:Operand)
 (s:o.op=.call {callee:=.builtin .append,args:=#[f,x],argTypes:=#[87,87]}) (y:a.eval f=v) (hb:ix B w0 w v acc) (c:Int) (g:Nat) (C:a.eval x=.slice (some (g,0)) 1 1) (m:w.cell? (g,0)=some (.int .i64 c)) (hlen:acc.length+1<=1000000) (i:B<=w.heap.size)
 (h:∀v' w',ix B w0 w' v' (acc++[c])->w.heap.size<=w'.heap.size->wpList prog ops Q rest (a.put o.dst v') w'):wpList prog ops Q (o::rest) a w:=by
 obtain⟨E,q,D,z,l⟩:=info_parts lk;refine wpList_append_own w p f x 87 s B 3 E (.int .i64 0) 1 8 underlying87 q D z l rfl (by decide) v acc.length (ra acc) y hb.own ⟨g,0,none⟩ 1 1 (ra [c]) C rfl ?_ ?_ (by unfold maxLen;omega) (by omega) i ?_
 ·intro j u d
  match j,d with
  |0,d=>
   have:Value.int .i64 c=u:=(by simpa[ra]using d);subst this;simpa[Addr.add]using m
 ·intro u A
  have:u=Value.int .i64 c:=by simpa[ra]using A
  subst this;rfl
 intro v' w' t b _;refine h v' w' ⟨?_,?_⟩ b.size
 ·have e:ra (acc++[c])=ra acc++ra [c]:=by unfold ra;simp
  rw[e,List.length_append];exact t
 ·exact⟨b.os.trans hb.below.os,b.tape.trans hb.below.tape,b.output.trans hb.below.output,Nat.le_trans hb.below.size b.size,fun k r=>(b.block k (by have:=hb.below.size;omega) (fun e=>by have:=(hb.own.lt k e.symm).1;omega)).trans (hb.below.block k r)⟩
theorem u'(op:Int)(w:World):Calls prog 92 #[op] w (CX (gE op) w):=by
 by_cases R:op=1∨op=12∨op=15∨op=13∨op=14∨op=22∨op=43∨op=45
 ·rcases R with rfl|rfl|rfl|rfl|rfl|rfl|rfl|rfl
  all_goals
   go_wp2
   go_ret;exact CX.lit (by decide) (by decide)
 ·have g:op≠1/\op≠12/\op≠15/\op≠13/\op≠14/\op≠22/\op≠43/\op≠45:=by omega
  have N:Hid (gE op=(if(AX op).1 then [0]else [])++(if oN op then [5]else if(AX op).2.1 then [1]else [])++(if(AX op).2.2.2.2.2.1 then [4]else if(AX op).2.2.1 then [2]else [])):=by
   show _=_
   unfold gE;rw[if_neg (by omega),if_neg (by omega),if_neg (by omega),if_neg (by omega),if_neg (by omega),if_neg (by omega)]
  have a1:(op==1)=false:=by rw[beq_eq_false_iff_ne];exact g.1
  have a2:(op==12)=false:=by rw[beq_eq_false_iff_ne];exact g.2.1
  have a3:(op==15)=false:=by rw[beq_eq_false_iff_ne];exact g.2.2.1
  have a4:(op==13)=false:=by rw[beq_eq_false_iff_ne];exact g.2.2.2.1
  have a5:(op==14)=false:=by rw[beq_eq_false_iff_ne];exact g.2.2.2.2.1
  have a9:(op==22)=false:=by rw[beq_eq_false_iff_ne];exact g.2.2.2.2.2.1
  have ab:(op==43)=false:=by rw[beq_eq_false_iff_ne];exact g.2.2.2.2.2.2.1
  have ad:(op==45)=false:=by rw[beq_eq_false_iff_ne];exact g.2.2.2.2.2.2.2
  have E:=Z (fun w=>EW op w);have M:=Z (fun w=>uY op w);obtain⟨r,K⟩:=nm (gE op);obtain⟨G,I⟩:=nm (AX op);obtain⟨H,J⟩:∃G,oN op=G:=⟨_,rfl⟩;rw[K,I,J]at N;rw[K];rw[I]at E;rw[J]at M;clear I K J g R;obtain⟨m,i,o,V,S,l,U,T⟩:=G;go_in
  go_wp2_with fail
  refine(E _).mono ?_;rintro e w1 ⟨rfl,hb⟩;have y:=Z hb;unfold HA;clear a1 a2 a3 a4 a5 a9 ab ad hb;go_upto_region 18 with fail
  obtain⟨C,t⟩:=mn w1.heap.size;obtain⟨W,x⟩:=mn (w1.alloc (.cells #[.bool m,.bool i,.bool o,.bool V,.bool S,.bool l,.bool U,.bool T] 279));rw[<-x,<-t];have A:Hid (Below w.heap.size w W):=by show Below _ w W;rw[x];exact y.alloc y.size _
  have u:W.heap[C]?=some (.cells #[.bool m,.bool i,.bool o,.bool V,.bool S,.bool l,.bool U,.bool T] 279 (0,0)):=by
   rw[x,t];exact hU
  have am:W.heap.size=C+1:=by rw[x,t];simp
  have bx:w.heap.size<=C:=by rw[t];exact y.size
  have al:W.cell? (C,0)=some (.bool m):=np u;have X:Hid (W.cell? (C,1)=some (.bool i)):=np u;have Y:Hid (W.cell? (C,2)=some (.bool o)):=np u;have a0:Hid (W.cell? (C,5)=some (.bool l)):=np u;have D:C+1<=W.heap.size:=by omega
  clear u x t y E am;have P:Hid (ix (C+1) W W (.slice none 0 0) []):=⟨World.ownsRow_nil _ _ _ _,Below.refl _ _⟩;obtain⟨f,k⟩:∃f:List Int,f=if m then [0]else []:=⟨_,rfl⟩
  have O:=Z k;go_upto_if 29 with fail
  go_cut [4] (fun s L=>Hid (ix (C+1) W L s f))
  case first=>
   cases m
   ·have b:Hid (f=[]):=k
    clear k;have a:Hid (ix (C+1) W W (.slice none 0 0) f):=(by show ix _ _ _ _ _;rw[b];exact P);clear b;go_wp2
    go_meet
    first|exact a|exact⟨a,rfl⟩
   ·have b:Hid (f=[]++[0]):=k
    have h:C+1<=W.heap.size:=D;have ap:([]:List Int).length<=10:=(by decide);clear k;go_wp2_with (at_builtin;refine ln rfl _ _ rfl rfl (P.keep ((Below.refl _ _).alloc (Nat.le_refl _) _) h) 0 W.heap.size rfl ?_ (by omega) (by simp;omega) ?_)
    intro v' w' c z;have a:Hid (ix (C+1) W w' v' f):=(by show ix _ _ _ _ _;rw[b];exact c);clear c b;go_wp2
    go_meet
    first|exact a|exact⟨a,rfl⟩
  case rest=>
   clear k al;have p:=Z hcut;have ap:f.length<=1:=(by rw[O];cases m<;>simp);clear hcut;obtain⟨d,Q⟩:∃d:List Int,d=f++(if H then [5]else if i then [1]else []):=⟨_,rfl⟩;have q:=Z Q;clear Q;go_wp2_with fail
   refine(M _).mono ?_;rintro e w' ⟨rfl,rfl⟩;go_upto_if 34 with fail
   go_cut [4] (fun s L=>Hid (ix (C+1) W L s d))
   case first=>
    have av:wc.cell? (C,1)=some (.bool i):=(fa p.below (by omega)).trans X;have h:C+1<=wc.heap.size:=(by have:=p.below.size;have:=D;omega);cases H
    ·cases i
     ·have b:Hid (d=f):=by show _=_;rw[q];simp
      have a:=p.out;rw[<-b]at a;clear b;go_wp2
      go_meet
      first|exact a|exact⟨a,rfl⟩
     ·have b:Hid (d=f++[1]):=q.out
      go_wp2_with (at_builtin;refine ln rfl _ _ rfl rfl (p.keep ((Below.refl _ _).alloc (Nat.le_refl _) _) h) 1 wc.heap.size rfl ?_ (by omega) (by simp;omega) ?_)
      intro v' w' c z;have a:Hid (ix (C+1) W w' v' d):=(by show ix _ _ _ _ _;rw[b];exact c);clear c b;go_wp2
      go_meet
      first|exact a|exact⟨a,rfl⟩
    ·have b:Hid (d=f++[5]):=q.out
     go_wp2_with (at_builtin;refine ln rfl _ _ rfl rfl (p.keep ((Below.refl _ _).alloc (Nat.le_refl _) _) h) 5 wc.heap.size rfl ?_ (by omega) (by simp;omega) ?_)
     intro v' w' c z;have a:Hid (ix (C+1) W w' v' d):=(by show ix _ _ _ _ _;rw[b];exact c);clear c b;go_wp2
     go_meet
     first|exact a|exact⟨a,rfl⟩
   case rest=>
    have j:=Z hcut;have bw:d.length<=2:=(by rw[q];simp;cases H<;>cases i<;>simp<;>omega);clear hcut;have F:Hid (r=d++(if l then [4]else if o then [2]else [])):=by
     show _=_
     rw[N,q,O]
    have bv:wc.cell? (C,5)=some (.bool l):=(fa j.below (by omega)).trans a0;have bi:wc.cell? (C,2)=some (.bool o):=(fa j.below (by omega)).trans Y;have h:C+1<=wc.heap.size:=(by have:=j.below.size;have:=D;omega);cases l
    ·cases o
     ·have b:Hid (r=d):=by show _=_;rw[F];simp
      have a:=j.out;rw[<-b]at a;clear b;go_wp2
      go_ret;exact⟨_,rfl,dU a.own (by omega),A.trans (a.below.mono (by omega))⟩
     ·have b:Hid (r=d++[2]):=F.out
      go_wp2_with (at_builtin;refine ln rfl _ _ rfl rfl (j.keep ((Below.refl _ _).alloc (Nat.le_refl _) _) h) 2 wc.heap.size rfl ?_ (by omega) (by simp;omega) ?_)
      intro v' w' c z;have a:Hid (ix (C+1) W w' v' r):=(by show ix _ _ _ _ _;rw[b];exact c);clear c b;go_wp2
      go_ret;exact⟨_,rfl,dU a.own (by omega),A.trans (a.below.mono (by omega))⟩
    ·have b:Hid (r=d++[4]):=F.out
     go_wp2_with (at_builtin;refine ln rfl _ _ rfl rfl (j.keep ((Below.refl _ _).alloc (Nat.le_refl _) _) h) 4 wc.heap.size rfl ?_ (by omega) (by simp;omega) ?_)
     intro v' w' c z;have a:Hid (ix (C+1) W w' v' r):=(by show ix _ _ _ _ _;rw[b];exact c);clear c b;go_wp2
     go_ret;exact⟨_,rfl,dU a.own (by omega),A.trans (a.below.mono (by omega))⟩
def cV:List (ByteArray×Int)->ByteArray->Option Int
 |[],_=>none
 |b::l,n=>if(b.1.data.toList==n.data.toList)=true then some b.2 else cV l n
def rf:Option Int->Int×Bool
 |none=>(0,false)
 |some v=>(v,true)
theorem iy(b:ByteArray×Int):(ph b).length=2:=rfl
theorem yH(l:List (ByteArray×Int))(n:ByteArray)(v:Value)(B:Nat)(w:World)(h:w.ownsRow B 154 2 v l.length (l.flatMap ph))(F:l.length<=1000000):
 Calls prog 53 #[v,.string n] w (za .i64 (rf (cV l n)) w):=by
 have A:=Z h;obtain⟨a,c,rfl⟩:=au h;have x:Hid (∀(k:Nat) (b:k<l.length),∃g,a=some ⟨g,0,none⟩/\l.length<=c/\w.cell? ⟨g,k*2,none⟩=some (.string l[k].1)/\w.cell? ⟨g,k*2+1,none⟩=some (.int .i64 l[k].2)):=Z (fun k b=>by
  obtain⟨g,cap,K,E,I,p,J,s,_⟩:=aE A (by omega);obtain⟨rfl,rfl⟩:a=some ⟨g,0,none⟩/\c=cap:=by injection E with C _ D;exact⟨C,D⟩
  have u:l[k]?=some l[k]:=List.getElem?_eq_getElem b;refine⟨g,rfl,p,?_,?_⟩
  ·refine s.cell ?_
   rw[List.getElem?_append_left (by rw[aU iy];omega)];exact(bJ iy u (j:=0) (by omega)).trans rfl
  ·refine s.cell ?_
   rw[List.getElem?_append_left (by rw[aU iy];omega)];exact(bJ iy u (j:=1) (by omega)).trans rfl)
 obtain⟨N,q⟩:=mn l.length;have o:=Z q;rw[<-q]at F⊢;have z:Hid (∀k,k<N->∃(b:k<l.length),True):=Z (fun k b=>⟨by rw[<-o];exact b,trivial⟩);go_wp2
 go_loopw [6] (fun i wr=>∃(k m:Nat),k<=N/\i=.int .i64 k/\wr=w.drewN m/\Hid (cV (l.drop k) n=cV l n)) (fun i _=>N-(intOf i).toNat)
 case atStart=>exact⟨0,0,by omega,rfl,rfl,rfl⟩
 case round=>
  obtain⟨k,m,b,rfl,rfl,f⟩:=hrel;by_cases G:k<N
  ·obtain⟨r,_⟩:=z k G
   obtain⟨g,rfl,p,x0,x1⟩:=x k r;have e:Hid (l.drop k=l[k]::l.drop (k+1)):=Z (List.drop_eq_getElem_cons r);obtain⟨y,H⟩:=nm (l[k]);rw[H]at x0 x1 e;have y0:(w.drewN m).cell? ⟨g,k*2,none⟩=some (.string y.1):=x0;have L:(w.drewN m).cell? ⟨g,k*2+1,none⟩=some (.int .i64 y.2):=x1;rw[<-o]at p;cases t:(y.1.toList==n.toList)with
   |true=>
    have d:Hid (cV l n=some y.2):=Z (by
     rw[<-f,e,cV,if_pos (by rw[<-ByteArray.toList_eq,<-ByteArray.toList_eq];exact t)])
    go_wp2
    go_ret2;exact⟨by rw[d];rfl,m,rfl⟩
   |false=>
    have d:Hid (cV (l.drop (k+1)) n=cV l n):=Z (by
     rw[<-f,e,cV,if_neg (by rw[<-ByteArray.toList_eq,<-ByteArray.toList_eq,t];decide)])
    go_wp2
    go_roundw
    case rel=>exact⟨k+1,m,by omega,by go_num,rfl,d⟩
    case measure=>simp[intOf];omega
  ·have d:Hid (cV l n=none):=Z (by
    rw[<-f,List.drop_of_length_le (by have:=o.out;omega)];rfl)
   go_wp2
   go_ret2;exact⟨by rw[d];rfl,m,rfl⟩
variable{g:Nat}{v':Value}
theorem CY:(prog.info? 154).map (fun i=>(i.zero,i.size,i.bytes))=some (some (.agg #[.string ByteArray.empty,.int .i64 0]),2,24):=by kernel_rfl
theorem oL.EX{S:gD}(h:oL w B p bx vc vl vn vw S)(A:B<=w.heap.size)(y:ByteArray×Int)
 (z:w1.ownsRow B 154 2 v' (S.labels.length+1) (S.labels.flatMap ph++ph y)) (d:w.grownBy w1 vl.ownBlock):
 dK (w1.setCell (p,1) v') B p p {S with labels:=S.labels++[y]}/\Below B w (w1.setCell (p,1) v'):=by
 have c:=kq (p:=p) (j:=1) (u:=v') d;have C:∀{k:Nat} {cs:Array Value} {t:TypeId} {f:Nat×Nat},w.heap[k]?=some (.cells cs t f)->t≠144->t≠154->¬wH p vl k:=fun i a b m=>by
  rcases m with rfl|m
  ·exact a (eM h.row i)
  ·exact bm h.labels i b m
 have D:∀{e:TypeId} {s:Nat} {v:Value} {n:Nat} {xs:List Value},w.ownsRow B e s v n xs->e≠144->e≠154->∀g,v.ownBlock=some g->¬wH p vl g:=fun l a b g d=>by
  obtain⟨_,cs,i⟩:=bW l d;exact C i a b
 have o:Row w1 p 144 [vc,vl,vn,vw,.int .i64 S.line]:=by
  unfold Row;rw[d.block p h.row.lt (fun e=>bm h.labels h.row (by decide) e.symm)];exact h.row
 have x:(w1.setCell (p,1) v').ownsRow B 154 2 v' (S.labels++[y]).length ((S.labels++[y]).flatMap ph):=by
  have:=dT (j:=1) (u:=v') z o (by decide);rw[List.flatMap_append,List.length_append];simpa using this
 have r:Row (w1.setCell (p,1) v') p 144 [vc,v',vn,vw,.int .i64 S.line]:=o.bc _ _ rfl;have q:∀{e:TypeId} {s:Nat} {v:Value} {n:Nat} {xs:List Value},w.ownsRow B e s v n xs->e≠144->e≠154->(w1.setCell (p,1) v').ownsRow B e s v n xs:=fun l a b=>ak l c (D l a b)
 exact⟨⟨vc,v',vn,vw,r,h.hB,q h.code (by decide) (by decide),bm (q h.code (by decide) (by decide)) r (by decide),x,q h.lines (by decide) (by decide),q h.bu (by decide) (by decide)⟩,f' c h.labels h.hB A⟩
theorem oL.CZ{S:gD}(h:oL w B p bx vc vl vn vw S)(A:B<=w.heap.size)(y:Int)
 (z:w1.ownsRow B 3 1 v' (S.lines.length+1) (S.lines.flatMap jz++jz y)) (d:w.grownBy w1 vn.ownBlock):
 dK (w1.setCell (p,2) v') B p p {S with lines:=S.lines++[y]}/\Below B w (w1.setCell (p,2) v'):=by
 have c:=kq (p:=p) (j:=2) (u:=v') d;have C:∀{k:Nat} {cs:Array Value} {t:TypeId} {f:Nat×Nat},w.heap[k]?=some (.cells cs t f)->t≠144->t≠3->¬wH p vn k:=fun i a b m=>by
  rcases m with rfl|m
  ·exact a (eM h.row i)
  ·exact bm h.lines i b m
 have D:∀{e:TypeId} {s:Nat} {v:Value} {n:Nat} {xs:List Value},w.ownsRow B e s v n xs->e≠144->e≠3->∀g,v.ownBlock=some g->¬wH p vn g:=fun l a b g d=>by
  obtain⟨_,cs,i⟩:=bW l d;exact C i a b
 have o:Row w1 p 144 [vc,vl,vn,vw,.int .i64 S.line]:=by
  unfold Row;rw[d.block p h.row.lt (fun e=>bm h.lines h.row (by decide) e.symm)];exact h.row
 have x:(w1.setCell (p,2) v').ownsRow B 3 1 v' (S.lines++[y]).length ((S.lines++[y]).flatMap jz):=by
  have:=dT (j:=2) (u:=v') z o (by decide);rw[List.flatMap_append,List.length_append];simpa using this
 have r:Row (w1.setCell (p,2) v') p 144 [vc,vl,v',vw,.int .i64 S.line]:=o.bc _ _ rfl;have q:∀{e:TypeId} {s:Nat} {v:Value} {n:Nat} {xs:List Value},w.ownsRow B e s v n xs->e≠144->e≠3->(w1.setCell (p,2) v').ownsRow B e s v n xs:=fun l a b=>ak l c (D l a b)
 exact⟨⟨vc,vl,v',vw,r,h.hB,q h.code (by decide) (by decide),bm (q h.code (by decide) (by decide)) r (by decide),q h.labels (by decide) (by decide),x,q h.bu (by decide) (by decide)⟩,f' c h.lines h.hB A⟩
theorem oL.iT{S:gD}(h:oL w B p bx vc vl vn vw S)(A:B<=w.heap.size)(y:be)
 (z:w1.ownsRow B 152 7 v' (S.code.length+1) (S.code.flatMap dn++dn y)) (d:w.grownBy w1 vc.ownBlock):
 dK (w1.setCell (p,0) v') B p p {S with code:=S.code++[y]}/\Below B w (w1.setCell (p,0) v'):=by
 have c:=kq (p:=p) (j:=0) (u:=v') d;have C:∀{k:Nat} {cs:Array Value} {t:TypeId} {f:Nat×Nat},w.heap[k]?=some (.cells cs t f)->t≠144->t≠152->¬wH p vc k:=fun i a b m=>by
  rcases m with rfl|m
  ·exact a (eM h.row i)
  ·exact bm h.code i b m
 have D:∀{e:TypeId} {s:Nat} {v:Value} {n:Nat} {xs:List Value},w.ownsRow B e s v n xs->e≠144->e≠152->∀g,v.ownBlock=some g->¬wH p vc g:=fun l a b g d=>by
  obtain⟨_,cs,i⟩:=bW l d;exact C i a b
 have r:Row w1 p 144 [vc,vl,vn,vw,.int .i64 S.line]:=by
  unfold Row;rw[d.block p h.row.lt (fun e=>bm h.code h.row (by decide) e.symm)];exact h.row
 have o:(w1.setCell (p,0) v').ownsRow B 152 7 v' (S.code++[y]).length ((S.code++[y]).flatMap dn):=by
  have:=dT (j:=0) (u:=v') z r (by decide);rw[List.flatMap_append,List.length_append];simpa using this
 have x:Row (w1.setCell (p,0) v') p 144 [v',vl,vn,vw,.int .i64 S.line]:=r.bc _ _ rfl;have q:∀{e:TypeId} {s:Nat} {v:Value} {n:Nat} {xs:List Value},w.ownsRow B e s v n xs->e≠144->e≠152->(w1.setCell (p,0) v').ownsRow B e s v n xs:=fun l a b=>ak l c (D l a b)
 exact⟨⟨v',vl,vn,vw,x,h.hB,o,bm o x (by decide),q h.labels (by decide) (by decide),q h.lines (by decide) (by decide),q h.bu (by decide) (by decide)⟩,f' c h.code h.hB A⟩
def oO(S:gD)(B p:Nat)(w:World)(e:Ending)(w':World):Prop:=e=.returned (.pointer none)/\dK w' B p p S/\Below B w w'
def eg(w:World)(g:Nat)(l:List ByteArray):Prop:=∃a,Row w g 9 (l.map Value.string++a)
theorem eg.cell{l:List ByteArray}(h:eg w g l){k:Nat}{x:ByteArray}(a:l[k]?=some x):w.cell? (g,k)=some (.string x):=by
 obtain⟨b,h⟩:=h;refine h.cell ?_;rw[List.getElem?_append_left (by rw[List.length_map];exact(List.getElem?_eq_some_iff.1 a).1),List.getElem?_map,a];rfl
theorem eg.af{w':World}{l:List ByteArray}(h:eg w g l)(c:Ch ag w w'):eg w' g l:=by
 obtain⟨a,h⟩:=h;exact⟨a,h.ch c id⟩
theorem hC(l:List (ByteArray×Int))(n:ByteArray)(r:Int×Bool)(b:rf (cV l n)=r)(v:Value)(B:Nat)(w:World)(h:w.ownsRow B 154 2 v l.length (l.flatMap ph))(a:l.length<=1000000):
 Calls prog 53 #[v,.string n] w (za .i64 r w):=by rw[<-b];exact yH l n v B w h a
theorem va(w0 n:ByteArray)(a3:w0.extract 0 (w0.size-1)=n)(cm:1<=w0.size)(cq:w0.size<=65536)(U:b9 w0 (w0.size-1)=58)(g cap B p:Nat)(S:gD)(w:World)(am:eg w g [w0])(cA:1<=cap)(al:dK w B p p S)(O:B<=w.heap.size)
 (a4:fZ n=true) (W:cV S.labels n=none) (y:S.labels.length<=1000000) (c4:S.lines.length<=1000000):
 Calls prog 52 #[(p,0),.slice (some (g,0)) 1 cap] w (oO {S with labels:=S.labels++[(n,(S.code.length:Int))],lines:=S.lines++[S.line]} B p w):=by
 have p1:w0.size-1<w0.size:=by omega
 have cl:((w0[w0.size-1].toNat:Int)==58)=true:=by rw[cc,beq_iff_eq];exact U
 have t0:w.cell? (g,0)=some (.string w0):=am.cell rfl;have a5:n.size<=maxLen:=by rw[<-a3];unfold maxLen;simp;omega
 have G:=Z (ks n a5 true a4);have C:=Z (fun v w h=>hC S.labels n (0,false) (by rw[W];rfl) v B w h y);obtain⟨vc,vl,vn,vw,a⟩:=al;have q:=Z a;have z:w.cell? (p,1)=some vl:=a.row.cell rfl;have a0:=Z y;have a1:=Z c4;go_in
 go_wp2_with (first|(go_at_call 53;(with_reducible refine(C.out _ _ ?_).mono ?_);exact q.out.labels;rintro e w' ⟨rfl,c5,rfl⟩)|(go_at_call 89;(with_reducible refine(G.out _).mono ?_);rintro e w' ⟨rfl,c6,rfl⟩))
 obtain⟨w1,x⟩:=nm (w.drewN (c5+c6));have i:=Z (Ch.dN (D:=ag) x);rw[x];have a:=q.af i;have H:=Z a;obtain⟨s,u,V⟩:=au a.code;have A:=Z V;have c7:w1.cell? (p,0)=some (.slice s S.code.length u):=by rw[<-A];exact a.row.cell rfl
 have z:w1.cell? (p,1)=some vl:=a.row.cell rfl;have J:=a.row.free 1;have k:=a.row.lt;have m:vl.ownBlock≠some p:=bm a.labels a.row (by decide);have P:=a.labels;have M:B<=w1.heap.size:=by have:=i.size;omega
 obtain⟨c2,X,bw,c0,c1⟩:=info_parts CY;have E:=Z X;have cC:=a0.out;go_cut [] (fun wc=>dK wc B p p {S with labels:=S.labels++[(n,(S.code.length:Int))]}/\Below B w1 wc)
 case first=>
  go_region_law (first|(refine step_append_lies _ (by rfl) _ _ _ (by rfl) B 154 c2 _ 2 24 underlying83 E bw c0 c1 rfl (by omega) vl S.labels.length (S.labels.flatMap ph) (by rfl) ((P.alloc _).drew) ⟨w1.heap.size,0,none⟩ 1 1 [.string n,.int .i64 S.code.length] (by rfl) (by rfl) (World.news_of_block (cs:=#[.string n,.int .i64 S.code.length]) (t:=154) (fr:=(0,0)) (heap_alloc_new w1 _)) (by simp[Value.oneCell']) (by omega) (by unfold maxLen;omega) (by omega) (by simp;omega) (w1.heap.size+1) (by simp) ?_;intro L I w2 a9 c R a2;have ch:w2.cell? (p,1)=some vl:=(c.cell_far ⟨p,1,none⟩ (by simp;omega) (Ne.symm m)).trans (by simp[go_sem,World.cell?_alloc_past,k,z]);have ci:w2.frozen? (p,1)=false:=(c.frozen_far ⟨p,1,none⟩ (by simp;omega) (Ne.symm m)).trans (by simp[go_sem,World.frozen?_alloc_past,k,J]);have cb:w2.cell? (p,0)=some (.slice s S.code.length u):=(c.cell_far ⟨p,0,none⟩ (by simp;omega) (Ne.symm m)).trans (by simp[go_sem,World.cell?_alloc_past,k,c7])))
  all_goals
   go_wp2
   go_meet
   exact H.EX M (n,(S.code.length:Int)) a9 (ao (cY c))
 case rest=>
  obtain⟨ad,T⟩:=hcut;have j:=Z T;obtain⟨cQ,cS,f,cW,b⟩:=ad;have r:=Z b;obtain⟨d,ap⟩:=nm wc;rw[ap]at r j b⊢;have c8:d.cell? (p,2)=some f:=b.row.cell rfl;have c9:d.cell? (p,4)=some (.int .i64 S.line):=b.row.cell rfl;have K:=b.row.free 2;have l:=b.row.lt;have o:f.ownBlock≠some p:=bm b.lines b.row (by decide);have Q:d.ownsRow B 3 1 f S.lines.length (S.lines.flatMap jz):=b.lines;have N:B<=d.heap.size:=by have:=j.size;omega
  obtain⟨c3,Y,av,bi,bv⟩:=info_parts lk;have F:=Z Y;have cL:=a1.out;go_wp2
  go_region_law (first|(refine step_append_lies _ (by rfl) _ _ _ (by rfl) B 3 c3 _ 1 8 underlying87 F av bi bv rfl (by omega) f S.lines.length (S.lines.flatMap jz) (by rfl) ((Q.alloc _).drew) ⟨d.heap.size,0,none⟩ 1 1 [.int .i64 S.line] (by rfl) (by rfl) (World.news_of_block (cs:=#[.int .i64 S.line]) (t:=3) (fr:=(0,0)) (heap_alloc_new d _)) (by simp[Value.oneCell']) (by omega) (by unfold maxLen;omega) (by omega) (by simp;omega) (d.heap.size+1) (by simp) ?_;intro L I w4 ab c R a2;have ch:w4.cell? (p,2)=some f:=(c.cell_far ⟨p,2,none⟩ (by simp;omega) (Ne.symm o)).trans (by simp[go_sem,World.cell?_alloc_past,l,c8]);have ci:w4.frozen? (p,2)=false:=(c.frozen_far ⟨p,2,none⟩ (by simp;omega) (Ne.symm o)).trans (by simp[go_sem,World.frozen?_alloc_past,l,K]);have cb:w4.cell? (p,4)=some (.int .i64 S.line):=(c.cell_far ⟨p,4,none⟩ (by simp;omega) (Ne.symm o)).trans (by simp[go_sem,World.cell?_alloc_past,l,c9])))
  all_goals
   go_wp2
   go_ret;obtain⟨cd,ce⟩:=r.CZ N S.line ab (ao (cY c));exact⟨rfl,cd,((i.below O (fun _ hb=>False.elim hb)).trans j).trans ce⟩
variable{k:Int}
def jd(w:ByteArray):List ByteArray->Int->Int->Int
 |[],_,x=>x
 |n::l,i,x=>jd w l (i+1) (if(n.data.toList==w.data.toList)=true then 1+i else x)
def C0(op:Int):be:=⟨op,0,0,0,0,0,0⟩
def iU:List Int->List ByteArray->gD->be->Option (gD×be)
 |[],_,S,X=>some (S,X)
 |_::_,[],_,_=>none
 |k::o,s::l,S,X=>match tj k s S X with|none=>none|some (S',a)=>iU o l S' a
def rh(o:List Int)(l:List ByteArray):Bool:=decide (l.length=o.length+2)&&(b9 (l.getD (l.length-1) ByteArray.empty) 0==33)
def wJ(o:List Int)(l:List ByteArray):Option (gD×be)->Option gD
 |none=>none
 |some (S,X)=>if rh o l=true then(q9 (l.getD (l.length-1) ByteArray.empty) X).map fun a=>{S with code:=S.code++[a]}else some {S with code:=S.code++[X]}
def pY(S:gD)(l:List ByteArray)(op:Int):Option gD:=
 if op=0 then none
 else if l.length=(gE op).length+1∨rh (gE op) l=true then wJ (gE op) l (iU (gE op) (l.drop 1) S (C0 op))else none
def tp(S:gD)(n:ByteArray):Option gD:=
 if fZ n=true/\cV S.labels n=none then some {S with labels:=S.labels++[(n,(S.code.length:Int))],lines:=S.lines++[S.line]}else none
def ma(S:gD):List ByteArray->Option gD
 |[]=>none
 |w::l=>if b9 w (w.size-1)=58/\l.length=0 then tp S (w.extract 0 (w.size-1))else pY S (w::l) (jd w b' 0 0)
theorem lp:b'.length=58:=by decide+kernel
theorem oL.vb{vc vl vn vw:Value}{S:gD}(h:oL w B p p vc vl vn vw S)(c:Ch ag w w')(d:w.heap.size<=bx):oL w' B p bx vc vl vn vw S:=
 ⟨h.row.ch c id,h.hB,ak h.code c (fun g a e=>e),fun e=>by obtain⟨_,_,b⟩:=bW h.code e;have:=(Array.getElem?_eq_some_iff.1 b).1;omega,ak h.labels c (fun g a e=>e),ak h.lines c (fun g a e=>e),ak h.bu c (fun g a e=>e)⟩
theorem dK.vb{S:gD}(h:dK w B p p S)(c:Ch ag w w')(a:w.heap.size<=bx):dK w' B p bx S:=by
 obtain⟨vc,vl,vn,vw,h⟩:=h;exact⟨vc,vl,vn,vw,h.vb c a⟩
theorem eg.keep{g:Nat}{l:List ByteArray}(h:eg w g l)(k:hH w w'):eg w' g l:=by
 obtain⟨a,h⟩:=h;exact⟨a,k.row h (by decide) (by decide) (by decide)⟩
theorem aq.EY{b:Nat}(h:aq w b X)(n:Int):aq (w.setCell (b,0) (.int .i64 n)) b {X with op:=n}:=Row.bc h _ _ rfl
theorem AY(d:aq w bx X)(c:Ch (aH bx) w w'):hH w w':=
 hH.fj c (fun k x t f b a=>by have e:k=bx:=b;subst e;exact Or.inr (Or.inl (eM d a)))
theorem AZ(op:Int):∀k∈gE op,0<=k/\k<=8:=by
 intro k a;unfold gE at a;have e:∀{b:Bool} {x:Int},k∈(if b=true then [x]else [])->k=x:=fun {b x} h=>by
  cases b<;>simp at h;exact h
 split at a
 ·simp at a;omega
 ·split at a
  ·simp at a;omega
  ·split at a
   ·simp at a;omega
   ·split at a
    ·simp at a;omega
    ·split at a
     ·simp at a;omega
     ·split at a
      ·simp at a;omega
      ·rcases List.mem_append.1 a with h|h
       ·rcases List.mem_append.1 h with h|h
        ·have:=e h;omega
        ·split at h
         ·simp at h;omega
         ·have:=e h;omega
       ·split at h
        ·simp at h;omega
        ·have:=e h;omega
theorem pZ(op:Int):(gE op).length<=3:=by
 unfold gE
 repeat' split
 all_goals simp
theorem mV{o:List Int}{l:List ByteArray}{S:gD}{r:gD×be}(h:iU (k::o) l S X=some r):∃s l' S' a,l=s::l'/\tj k s S X=some (S',a)/\iU o l' S' a=some r:=by
 cases l with
 |nil=>cases h
 |cons s l'=>
  unfold iU at h;cases b:tj k s S X with
  |none=>rw[b]at h;cases h
  |some p=>
   obtain⟨S',a⟩:=p;rw[b]at h;exact⟨s,l',S',a,rfl,b,h⟩
theorem p0{s:ByteArray}{S S':gD}{a:be}(h:tj k s S X=some (S',a)):S'.code=S.code/\S'.labels=S.labels/\S'.lines=S.lines/\S'.line=S.line/\S'.bu.length<=S.bu.length+1:=by
 unfold tj at h
 repeat' split at h
 all_goals first
  |(cases h;done)
  |(obtain⟨rfl,rfl⟩:=Prod.mk.inj (Option.some.inj h);simp)
  |(rw[Option.map_eq_some_iff]at h;obtain⟨_,_,h⟩:=h;obtain⟨rfl,rfl⟩:=Prod.mk.inj h;simp)
theorem jB:∀(o:List Int) {l:List ByteArray} {S S':gD} {X a:be},iU o l S X=some (S',a)->S'.code=S.code/\S'.labels=S.labels/\S'.lines=S.lines/\S'.line=S.line/\S'.bu.length<=S.bu.length+o.length
 |[],l,S,S',X,a,h=>by
  obtain⟨rfl,rfl⟩:=Prod.mk.inj (Option.some.inj h);simp
 |k::o,l,S,S',X,a,h=>by
  obtain⟨s,l',i,j,rfl,f,g⟩:=mV h;obtain⟨a1,a2,a3,a4,m⟩:=p0 f;obtain⟨b,c,d,e,n⟩:=jB o g;exact⟨b.trans a1,c.trans a2,d.trans a3,e.trans a4,by simp only[List.length_cons];omega⟩
theorem mX{S S':gD}{l:List ByteArray}{op:Int}(h:pY S l op=some S'):op≠0/\∃b a d e,iU (gE op) (l.drop 1) S (C0 op)=some (b,a)/\S'={b with code:=b.code++[d]}/\
 ((e=true/\l.length=(gE op).length+2/\b9 (l.getD (l.length-1) ByteArray.empty) 0=33/\q9 (l.getD (l.length-1) ByteArray.empty) a=some d)∨(e=false/\l.length=(gE op).length+1/\d=a)):=by
 unfold pY at h;split at h
 ·cases h
 ·rename_i g
  refine⟨g,?_⟩;split at h
  ·rename_i i
   unfold wJ at h;cases f:iU (gE op) (l.drop 1) S (C0 op)with
   |none=>rw[f]at h;cases h
   |some q=>
    obtain⟨b,a⟩:=q;rw[f]at h;dsimp only at h;split at h
    ·rename_i c
     rw[Option.map_eq_some_iff]at h;obtain⟨d,j,rfl⟩:=h;unfold rh at c;rw[Bool.and_eq_true,decide_eq_true_eq,beq_iff_eq]at c;exact⟨b,a,d,true,rfl,rfl,Or.inl ⟨rfl,c.1,c.2,j⟩⟩
    ·rename_i c
     exact⟨b,a,a,false,rfl,(Option.some.inj h).symm,Or.inr ⟨rfl,i.resolve_right c,rfl⟩⟩
  ·cases h
theorem iz:(prog.info? 152).map (fun i=>(i.zero,i.size,i.bytes))=some (some (.agg #[.int .i64 0,.int .i64 0,.int .i64 0,.int .i64 0,.int .u64 0,.int .i64 0,.int .i64 0]),7,56):=by kernel_rfl
theorem A0(l:List ByteArray)(w0:ByteArray)(a5:l[0]?=some w0)(fz:∀x∈l,1<=x.size/\x.size<=65536)(le:l.length<=100000)(fb:¬(b9 w0 (w0.size-1)=58/\l.length=1))(g cap B p:Nat)(S S':gD)(w:World)(g0:eg w g l)(la:l.length<=cap)(G:dK w B p p S)(kT:B<=w.heap.size)
 (h:pY S l (jd w0 b' 0 0)=some S') (gt:S.code.length<=1000000) (Y:S.bu.length<=1000000):
 Calls prog 52 #[(p,0),.slice (some (g,0)) l.length cap] w (oO S' B p w):=by
 have t0:w.cell? (g,0)=some (.string w0):=g0.cell a5;have fn:=fz w0 (List.mem_of_getElem? a5);have d:1<=w0.size:=fn.1;have u:w0.size<=65536:=fn.2;have p1:w0.size-1<w0.size:=by omega
 have l0:1<=l.length:=by have:=(List.getElem?_eq_some_iff.1 a5).1;omega
 obtain⟨v,es⟩:=nm (jd w0 b' 0 0);rw[es]at h;have g8:=Z es;have i8:=Z h;have k1:=Z g0;have g9:=Z fz;have ap:=Z G;have g5:=Z (And.intro gt Y);have mp:=Z a5;obtain⟨F,en⟩:=mn l.length;have N:=Z en;rw[<-en]at le fb la l0⊢;clear es h g0 fz G gt Y a5 fn en;have hb:((w0[w0.size-1].toNat:Int)==58)=false∨(((w0[w0.size-1].toNat:Int)==58)=true/\((F:Int)==1)=false):=by
  cases n:((w0[w0.size-1].toNat:Int)==58)with
  |false=>exact Or.inl rfl
  |true=>
   refine Or.inr ⟨rfl,?_⟩;rw[cc,beq_iff_eq]at n;rw[beq_eq_false_iff_ne];intro e;exact fb ⟨n,by omega⟩
 clear fb;go_in
 go_upto_region 2 with fail
 go_cut [29] (fun b wc=>b=.bool false/\w=wc)
 case first=>
  rcases hb with kf|⟨kf,mv⟩
  all_goals
   go_wp2
   go_meet
   exact⟨rfl,rfl⟩
 case rest=>
  obtain⟨rfl,rfl⟩:=hcut;clear hb t0 p1 d u;obtain⟨bx,gs⟩:=nm w.heap.size;have E:=Z gs;go_upto_block 0 with(first|(go_at_call 91;(with_reducible refine(uZ _).mono ?_);rintro e w2 ⟨rfl,hn,Y⟩;have g7:=Z hn;have cb:=Z Y;clear hn Y))
  have av:Hid (aq w2 bx (C0 0)):=Z (by
   have r:=Row.new w (aD (C0 0)) 152;rw[E]at r;exact Row.ch r cb id)
  have io:Hid (Row w2 (bx+1) 9 (b'.map Value.string)):=Z (by
   have r:=g7.out;rw[World.size_alloc,E]at r;exact r)
  have ad:Hid (Ch ag w w2):=Z (((Ch.refl _ _).alloc _).trans cb);have T:bx<w2.heap.size:=av.lt;clear g7 cb gs;go_cut [] (fun wc=>aq wc bx (C0 v)/\Ch (aH bx) w2 wc)
  case first=>
   go_wp2
   go_loopw [10] (fun i wr=>∃(k:Nat) (op:Int),k<=58/\i=.int .i64 k/\aq wr bx (C0 op)/\Ch (aH bx) w2 wr/\jd w0 (b'.drop k) k op=v) (fun i _=>58-(intOf i).toNat)
   case atStart=>exact⟨0,0,by omega,rfl,av,Ch.refl _ _,g8⟩
   case round=>
    obtain⟨k,op,lb,rfl,n,c1,ex⟩:=hrel;have ch:=Z ex;have dr:=Z n;have cd:=Z c1;by_cases eW:k<58
    ·have U:k<b'.length:=by rw[lp];exact eW
     have ce:Hid (b'.drop k=b'[k]::b'.drop (k+1)):=Z (List.drop_eq_getElem_cons U);have y0:wr.cell? ⟨bx+1,k,none⟩=some (.string b'[k]):=(io.ch c1 (fun e=>by have kk:bx+1=bx:=e;omega)).cell (by rw[List.getElem?_map,List.getElem?_eq_getElem U];rfl);obtain⟨y,i4⟩:=nm (b'[k]);rw[i4]at y0 ce;have f0:=n.free 0;have gk:wr.cell? (bx,0)=some (.int .i64 op):=n.cell rfl;clear i4 ex n c1;cases W:(y.toList==w0.toList)with
     |true=>
      have M:Hid (jd w0 (b'.drop (k+1)) ((k+1:Nat):Int) (1+(k:Int))=v):=Z (by
       have h:=ch.out;rw[ce,jd,if_pos (by rw[<-ByteArray.toList_eq,<-ByteArray.toList_eq];exact W)]at h;exact h)
      go_wp2
      go_roundw
      case rel=>exact⟨k+1,1+(k:Int),by omega,by go_num,dr.EY _,cd.only _ _,M⟩
      case measure=>simp[intOf];omega
     |false=>
      have M:Hid (jd w0 (b'.drop (k+1)) ((k+1:Nat):Int) op=v):=Z (by
       have h:=ch.out;rw[ce,jd,if_neg (by rw[<-ByteArray.toList_eq,<-ByteArray.toList_eq,W];decide)]at h;exact h)
      go_wp2
      go_roundw
      case rel=>exact⟨k+1,op,by omega,by go_num,dr,cd,M⟩
      case measure=>simp[intOf];omega
    ·have M:Hid (op=v):=Z (by
      have h:=ch.out;rw[List.drop_of_length_le (by rw[lp];omega)]at h;exact h)
     clear ex n c1;go_wp2
     go_meet
     exact⟨by rw[<-M];exact dr,cd⟩
  case rest=>
   obtain⟨c5,a0⟩:=hcut;obtain⟨c6,g1⟩:=nm wc;rw[g1]at c5 a0⊢;clear g1 T;have k4:=Z c5;have jp:Hid (dK c6 B p bx S):=Z ((ap.vb ad (by have:=E.out;omega)).ins av a0);have k2:Hid (eg c6 g l):=Z ((k1.af ad).keep (AY av a0));have g4:Hid (Below B w c6):=Z ((ad.below kT (fun _ hb=>False.elim hb)).trans (a0.below (by have:=ad.size;omega) (fun b hb=>by have e:b=bx:=hb;have:=E.out;omega)));have gk:c6.cell? (bx,0)=some (.int .i64 v):=c5.cell rfl;clear c5 a0;obtain⟨hv,C,dN,a,k5,H,go,c2⟩:=mX i8;have cL:=Z H;have k0:=Z go;have lm:((v:Int)==0)=false:=(by rw[beq_eq_false_iff_ne];exact hv);obtain⟨J,P⟩:=nm (gE v);have it:Hid (∀k∈J,0<=k/\k<=8):=Z (by rw[<-P];exact AZ v);have l1:J.length<=3:=(by rw[<-P];exact pZ v);have cq:=Z (fun w=>u' v w);rw[P]at c2 cq;rw[P]at cL;obtain⟨O,c0⟩:=mn J.length;have cm:=Z c0;rw[<-c0,<-N]at c2;rw[<-c0]at l1;have am:=Z c2;clear c0 c2 H go hv P g8;go_upto_region 20 with(go_at_call 92;(with_reducible refine(cq.out _).mono ?_);rintro e w4 ⟨ni,rfl,c3,gr⟩;obtain⟨kb,co,rfl⟩:=au c3;rw[<-cm.out]at c3⊢;have ip:=Z c3;have al:=Z gr;clear c3 gr)
   have jr:Hid (dK w4 B p bx S):=Z (jp.af (Ch.bT al));have gc:Hid (aq w4 bx (C0 v)):=Z (k4.ch (Ch.bT al) id);have cS:Hid (eg w4 g l):=Z (k2.af (Ch.bT al));have i6:Hid (Below B w w4):=Z (g4.trans (al.mono (by have:=g4.size;omega)));clear gk lm cq;obtain⟨L,ab⟩:=nm (l.getD (F-1) ByteArray.empty);have eV:w4.cell? (g,F-1)=some (.string L):=cS.cell (by rw[<-ab,N,List.getD_eq_getElem?_getD,List.getElem?_eq_getElem (by have:=N.out;omega)];rfl);have lG:1<=L.size/\L.size<=65536:=g9 L (by rw[<-ab,N,List.getD_eq_getElem?_getD,List.getElem?_eq_getElem (by have:=N.out;omega)];exact List.getElem_mem _);rw[ab]at am;obtain⟨i2,lF⟩:=lG;have lw:0<L.size:=i2;have k3:=Z ab;clear ab;go_cut [12] (fun m wc=>m=.bool k5/\w4=wc)
   case first=>
    rcases am with⟨d,u,z,_⟩|⟨d,u,_⟩
    ·have ej:((F:Int)==(O:Int)+2)=true:=by rw[beq_iff_eq];omega
     have kk:((L[0].toNat:Int)==33)=true:=(by rw[cc,beq_iff_eq];exact z);have cl:=Z d;clear d u z;go_wp2
     go_meet
     exact⟨by rw[cl],rfl⟩
    ·have ej:((F:Int)==(O:Int)+2)=false:=by rw[beq_eq_false_iff_ne];omega
     have cl:=Z d;clear d u;go_wp2
     go_meet
     exact⟨by rw[cl],rfl⟩
   case rest=>
    obtain⟨rfl,K⟩:=hcut;rw[<-K];clear K;go_upto_region 21 with fail
    go_cut [131] (fun m wc=>m=.bool false/\w4=wc)
    case first=>
     rcases am with⟨d,u,z,_⟩|⟨d,u,_⟩
     ·have ej:((F:Int) !=(O:Int)+1)=true:=by rw[bne_iff_ne];omega
      subst d;clear u z;go_wp2
      go_meet
      exact⟨rfl,rfl⟩
     ·have ej:((F:Int) !=(O:Int)+1)=false:=by rw[bne_eq_false_iff_eq];omega
      clear d u;go_wp2
      go_meet
      exact⟨rfl,rfl⟩
    case rest=>
     obtain⟨rfl,K⟩:=hcut;rw[<-K];clear K;go_upto_block 2 with fail
     clear eV lw;have n0:S.bu.length<=1000000:=g5.2;go_cut [] (fun wc=>dK wc B p bx C/\aq wc bx dN/\Below B w4 wc/\hH w4 wc)
     case first=>
      go_wp2
      go_loopw [13] (fun i wr=>∃(k:Nat) (X:gD) (bv:be),k<=O/\i=.int .i64 k/\dK wr B p bx X/\aq wr bx bv/\Below B w4 wr/\hH w4 wr/\iU (J.drop k) (l.drop (k+1)) X bv=some (C,dN)/\X.bu.length<=S.bu.length+k) (fun i _=>O-(intOf i).toNat)
      case atStart=>exact⟨0,S,C0 v,by omega,rfl,jr,gc,Below.refl _ _,hH.refl _,cL,by omega⟩
      case round=>
       obtain⟨k,X,bv,lb,rfl,G,n,T,V,H,n1⟩:=hrel;by_cases eW:k<O
       ·have U:k<J.length:=by have:=cm.out;omega
        rw[List.drop_eq_getElem_cons U]at H;obtain⟨s,l',ge,gf,eS,c4,hK⟩:=mV H;have hm:k+1<l.length:=by
         have:0<(l.drop (k+1)).length:=(by rw[eS];simp);rw[List.length_drop]at this;omega
        rw[List.drop_eq_getElem_cons hm]at eS;obtain⟨W,rfl⟩:=List.cons.inj eS;obtain⟨a1,a2,a3,a4,ms⟩:=p0 c4;have i0:=g9 s (by rw[<-W];exact List.getElem_mem _);have eC:=it J[k] (List.getElem_mem _);obtain⟨kd,eL⟩:=nm (J[k]);rw[eL]at c4 eC;have y0:wr.cell? ⟨g,k+1,none⟩=some (.string s):=(cS.keep V).cell (by rw[List.getElem?_eq_getElem hm,W]);obtain⟨i5,mc,na,hu,li,mS,ll,hw,_⟩:=aE ip (by omega);obtain⟨rfl,rfl⟩:kb=some ⟨i5,0,none⟩/\co=mc:=by injection hu with d _ z;exact⟨d,z⟩
        have no:wr.cell? ⟨i5,k,none⟩=some (.int .i64 kd):=(V.row hw (by decide) (by decide) (by decide)).cell (by
         rw[List.getElem?_append_left (by rw[List.length_map];exact U),List.getElem?_map,List.getElem?_eq_getElem U,eL];rfl)
        have i7:=Z (fun w n G=>yG kd eC s i0.2 B p bx X ge bv gf w c4 n G (by have:=E.out;omega) (by omega) (fun e=>by
         have d:=gc.lt;obtain⟨_,_,_,_,j⟩:=ap.out;have:=j.row.lt;have:=E.out;omega))
        have mM:(k:Int)+1<F:=(by have:=N.out;omega);have cQ:=Z G;have dC:=Z n;have c9:=Z T;have ci:=Z V;have j':=Z hK;have n2:IntKind.i64.wrap ((k:Int)+1)=(k:Int)+1:=IntWalk.i64_in _ (by omega);have n8:((k:Int)+1).toNat=k+1:=(by omega);have g1:(0:Int)<=(k:Int)+1:=(by omega);clear H c4 i0 eC hw hu li ll G n T V hK W eL a1 a2 a3 a4;go_wp2
        go_still_tail 10,(by kernel_rfl)
        change wpList _ _ _ _ _ wr.drew;go_wp2_with (go_at_call 93;(with_reducible refine(i7.out _ ?_ ?_).mono ?_);exact dC.out;exact cQ.out.af ay;rintro e q ⟨rfl,a9,o,A,hi⟩;have cA:=Z a9;have bi:=Z o;have c7:Hid (Below B wr q):=Z ⟨A.os,A.tape,A.output,A.size,A.block⟩;have ih:Hid (hH wr q):=Z (fun k c t f d u z bw=>hi k c t f d u z bw);clear a9 o A hi)
        go_roundw
        case rel=>exact⟨k+1,ge,gf,by omega,by go_num,cA,bi,c9.trans c7,ci.trans ih,j',by omega⟩
        case measure=>simp[intOf];omega
       ·have he:J.drop k=[]:=List.drop_of_length_le (by have:=cm.out;omega)
        rw[he]at H;obtain⟨rfl,rfl⟩:=Prod.mk.inj (Option.some.inj H);have cQ:=Z G;have dC:=Z n;have c9:=Z T;have ci:=Z V;clear H G n T V he;go_wp2
        go_meet
        exact⟨cQ,dC,c9,ci⟩
     case rest=>
      obtain⟨fd,g2,et,eA⟩:=hcut;obtain⟨g3,K⟩:=nm wc;rw[K]at fd g2 et eA⊢;have cC:=Z fd;have cW:=Z g2;have c8:Hid (Below B w g3):=Z (i6.trans et);have eV:g3.cell? (g,F-1)=some (.string L):=(cS.keep eA).cell (by rw[<-k3,List.getD_eq_getElem?_getD,List.getElem?_eq_getElem (by have:=N.out;omega)];rfl);clear K fd g2 et eA;go_upto_if 154 with fail
      go_cut [] (fun wc=>dK wc B p bx C/\aq wc bx a/\Below B w wc)
      case first=>
       rcases am with⟨d,u,z,bw⟩|⟨d,u,z⟩
       ·have ii:=Z (fun w ls lt n=>yF L lF i2 dN a bw p bx C.line w ls lt n)
        have hF:p≠bx:=fun e=>by
         obtain⟨_,_,_,_,j⟩:=ap.out;have:=j.row.lt;have:=E.out;omega
        have lc:g3.cell? (p,4)=some (.int .i64 C.line):=by
         obtain⟨_,_,_,_,j⟩:=cC.out;exact j.row.cell rfl
        have j9:=Z hF;subst d;clear u z bw hF;go_wp2_with (go_at_call 94;(with_reducible refine(ii.out _ ?_ j9.out ?_).mono ?_);exact lc;exact cW.out;rintro e q ⟨rfl,o,hd⟩;have bi:=Z o;have g6:=Z hd;clear o hd)
        go_meet
        exact⟨cC.ins cW g6,bi,c8.trans (g6.below (by have:=c8.size;omega) (fun b hb=>by have e:b=bx:=hb;have:=E.out;omega))⟩
       ·have M:=Z z
        subst d;clear u z;go_wp2
        go_meet
        exact⟨cC,by rw[M];exact cW,c8⟩
      case rest=>
       obtain⟨a9,o,A⟩:=hcut;obtain⟨q,i1⟩:=nm wc;rw[i1]at a9 o A⊢;obtain⟨vc,vl,vn,vw,j⟩:=a9;have cA:=Z j;have bi:=Z o;have c7:=Z A;have x0:q.cell? (bx,0)=some (.int .i64 a.op):=o.cell rfl;have x1:q.cell? (bx,1)=some (.int .i64 a.a):=o.cell rfl;have x2:q.cell? (bx,2)=some (.int .i64 a.b):=o.cell rfl;have x3:q.cell? (bx,3)=some (.int .i64 a.c):=o.cell rfl;have x4:q.cell? (bx,4)=some (.int .u64 a.v):=o.cell rfl;have x5:q.cell? (bx,5)=some (.int .i64 a.m):=o.cell rfl;have x6:q.cell? (bx,6)=some (.int .i64 a.wh):=o.cell rfl;have md:q.cell? (p,0)=some vc:=j.row.cell rfl;have kw:=j.row.free 0;have hB:=j.row.lt;have R:=o.lt;have i3:vc.ownBlock≠some p:=bm j.code j.row (by decide);have Q:vc.ownBlock≠some bx:=j.ne;have P:q.ownsRow B 152 7 vc C.code.length (C.code.flatMap dn):=j.code;have mL:C.code.length<=1000000:=(by rw[(jB _ cL).1];exact g5.1);have kE:B<=q.heap.size:=(by have:=A.size;omega);obtain⟨mb,hf,lH,lI,m7⟩:=info_parts iz;have i9:=Z hf;clear i1 j o A hf eV;go_wp2
       have lv:p≠bx:=fun e=>by
        obtain⟨_,_,_,_,j⟩:=ap.out;have:=j.row.lt;have:=E.out;omega
       have mW:bx≠p:=Ne.symm lv;go_region_law (first|(refine step_append_lies _ (by rfl) _ _ _ (by rfl) B 152 mb _ 7 56 underlying43 i9 lH lI m7 rfl (by omega) vc C.code.length (C.code.flatMap dn) (by rfl) ((P.alloc _).drew) ⟨q.heap.size,0,none⟩ 1 1 [a.op,a.a,a.b,a.c,.int .u64 a.v,a.m,a.wh] (by rfl) (by rfl) (World.news_of_block (cs:=#[a.op,a.a,a.b,a.c,.int .u64 a.v,a.m,a.wh]) (t:=152) (fr:=(0,0)) (heap_alloc_new q _)) (by simp[Value.oneCell']) (by omega) (by unfold maxLen;omega) (by omega) (by simp;omega) (q.heap.size+1) (by simp) ?_;intro mA mz I lo D mC eW;have nd:I.cell? (p,0)=some vc:=(D.cell_far ⟨p,0,none⟩ (by simp;omega) (Ne.symm i3)).trans (by simp[go_sem,World.cell?_alloc_past,hB,md]);have ne:I.frozen? (p,0)=false:=(D.frozen_far ⟨p,0,none⟩ (by simp;omega) (Ne.symm i3)).trans (by simp[go_sem,World.frozen?_alloc_past,hB,kw]);have nq:I.cell? (bx,0)=some (.int .i64 a.op):=(D.cell_far ⟨bx,0,none⟩ (by simp;omega) (Ne.symm Q)).trans (by simp[go_sem,World.cell?_alloc_past,R,x0]);have nw:I.cell? (bx,1)=some (.int .i64 a.a):=(D.cell_far ⟨bx,1,none⟩ (by simp;omega) (Ne.symm Q)).trans (by simp[go_sem,World.cell?_alloc_past,R,x1]);have nx:I.cell? (bx,2)=some (.int .i64 a.b):=(D.cell_far ⟨bx,2,none⟩ (by simp;omega) (Ne.symm Q)).trans (by simp[go_sem,World.cell?_alloc_past,R,x2]);have nC:I.cell? (bx,3)=some (.int .i64 a.c):=(D.cell_far ⟨bx,3,none⟩ (by simp;omega) (Ne.symm Q)).trans (by simp[go_sem,World.cell?_alloc_past,R,x3]);have nJ:I.cell? (bx,4)=some (.int .u64 a.v):=(D.cell_far ⟨bx,4,none⟩ (by simp;omega) (Ne.symm Q)).trans (by simp[go_sem,World.cell?_alloc_past,R,x4]);have nL:I.cell? (bx,5)=some (.int .i64 a.m):=(D.cell_far ⟨bx,5,none⟩ (by simp;omega) (Ne.symm Q)).trans (by simp[go_sem,World.cell?_alloc_past,R,x5]);have ob:I.cell? (bx,6)=some (.int .i64 a.wh):=(D.cell_far ⟨bx,6,none⟩ (by simp;omega) (Ne.symm Q)).trans (by simp[go_sem,World.cell?_alloc_past,R,x6])))
       all_goals
        go_wp2
        go_ret;obtain⟨mh,mk⟩:=cA.iT kE a lo (ao (cY D));exact⟨rfl,by rw[k0];exact mh,c7.trans mk⟩
def oP(S:gD):gD:={S with line:=S.line+1}
def jC(S:gD)(a:List ByteArray):Option gD:=match a with
 |[]=>some (oP S)
 |w::l=>match ma S (w::l)with|none=>none|some S'=>some (oP S')
def gN:List UInt8->List UInt8->gD->Option gD
 |[],cur,S=>if cur=[]then some S else jC S (lj cur [])
 |c::cs,cur,S=>if(c.toNat:Int)=10 then(match jC S (lj cur [])with|none=>none|some S'=>gN cs [] S')else gN cs (cur++[c]) S
def oQ:List (Int×Int×ByteArray)->List (ByteArray×Int)->List be->Option (List be)
 |[],_,C=>some C
 |x::l,L,C=>match cV L x.2.2 with
  |none=>none
  |some at_=>match C[x.2.1.toNat]? with
   |none=>none
   |some X=>if 0<=x.2.1 then oQ l L (C.set x.2.1.toNat {X with v:=IntKind.u64.wrap at_})else none
def DJ(C:List be)(L:List (ByteArray×Int)):Option (List be×List (ByteArray×Int)):=
 if C.length<=2048/\L.all (fun b=>b.2 !=(C.length:Int))=true then some (C,L)else none
def iV(s:ByteArray):Option (List be×List (ByteArray×Int)):=
 if s.size<=65536 then(match gN s.data.toList [] ⟨[],[],[],[],0⟩with
  |none=>none
  |some S=>match oQ S.bu S.labels S.code with|none=>none|some C=>DJ C S.labels)else none
theorem tq:∀(l w:List UInt8),∀x∈lj l w,1<=x.size/\x.size<=w.length+l.length:=by
 have b:∀(w:List UInt8),∀x∈pn w,1<=x.size/\x.size<=w.length:=by
  intro w x a;unfold pn at a;split at a
  ·cases a
  ·rename_i d
   have:x=tk w:=(by simpa using a);subst this;rw[tn];have:=List.length_pos_iff.2 d;omega
 intro l
 induction l with
 |nil=>intro w x a;have:=b w x a;simp only[List.length_nil];omega
 |cons c l ih=>
  intro w x a;unfold lj at a;simp only[List.length_cons];split at a
  ·have:=ih _ x a;simp only[List.length_append,List.length_cons,List.length_nil]at this;omega
  ·split at a
   ·have:=b w x a;omega
   ·rcases List.mem_append.1 a with h|h
    ·have:=b w x h;omega
    ·have:=ih _ x h;simp only[List.length_nil]at this;omega
theorem wK:∀(l w:List UInt8),(lj l w).length<=1+l.length:=by
 have a:∀(w:List UInt8),(pn w).length<=1:=by intro w;unfold pn;split<;>simp
 intro l
 induction l with
 |nil=>intro w;have:=a w;simp only[List.length_nil];exact this
 |cons c l ih=>
  intro w;unfold lj;simp only[List.length_cons];split
  ·have:=ih (w++[c]);omega
  ·split
   ·have:=a w;omega
   ·rw[List.length_append];have:=a w;have:=ih [];omega
theorem jD{S S':gD}{l:List ByteArray}(h:ma S l=some S'):S'.code.length<=S.code.length+1/\S'.labels.length<=S.labels.length+1/\S'.lines.length<=S.lines.length+1/\S'.bu.length<=S.bu.length+3/\S'.line=S.line:=by
 cases l with
 |nil=>cases h
 |cons w l=>
  change(if b9 w (w.size-1)=58/\l.length=0 then tp S (w.extract 0 (w.size-1))else pY S (w::l) (jd w b' 0 0))=some S' at h;split at h
  ·unfold tp at h
   split at h
   ·obtain rfl:=Option.some.inj h;simp
   ·cases h
  ·obtain⟨_,c,d,e,b,a,rfl,_⟩:=mX h
   obtain⟨a1,a2,a3,a4,f⟩:=jB _ a;have:=pZ (jd w b' 0 0);simp only[List.length_append,List.length_cons,List.length_nil];rw[a1,a2,a3,a4];refine⟨by omega,by omega,by omega,by omega,rfl⟩
theorem p4(l:List ByteArray)(t:0<l.length)(j:∀x∈l,1<=x.size/\x.size<=65536)(u:l.length<=100000)(g cap B p:Nat)(S S':gD)(w:World)(k:eg w g l)(c:l.length<=cap)(f:dK w B p p S)(b:B<=w.heap.size)
 (h:ma S l=some S') (m:S.code.length<=1000000) (n:S.bu.length<=1000000) (o:S.labels.length<=1000000) (q:S.lines.length<=1000000):
 Calls prog 52 #[(p,0),.slice (some (g,0)) l.length cap] w (oO S' B p w):=by
 cases l with
 |nil=>exact absurd t (by simp)
 |cons w0 l=>
  change(if b9 w0 (w0.size-1)=58/\l.length=0 then tp S (w0.extract 0 (w0.size-1))else pY S (w0::l) (jd w0 b' 0 0))=some S' at h;split at h
  ·rename_i a
   obtain⟨r,s⟩:=a;have e:l=[]:=List.length_eq_zero_iff.1 s;subst e;unfold tp at h;split at h
   ·rename_i d
    obtain rfl:=Option.some.inj h;have i:=j w0 (by simp);exact va w0 _ rfl i.1 i.2 r g cap B p S w k (by simpa using c) f b d.1 d.2 o q
   ·cases h
  ·rename_i a
   exact A0 (w0::l) w0 rfl j u (fun e=>a ⟨e.1,by have:=e.2;simp only[List.length_cons]at this;omega⟩) g cap B p S S' w k c f b h m n
theorem dK.more{S:gD}(h:dK w B p p S):dK (w.setCell (p,4) (.int .i64 (S.line+1))) B p p (oP S):=by
 obtain⟨vc,vl,vn,vw,h⟩:=h;have a:=h.row;exact⟨vc,vl,vn,vw,a.bc _ _ rfl,h.hB,dT h.code a (by decide),h.ne,dT h.labels a (by decide),dT h.lines a (by decide),dT h.bu a (by decide)⟩
theorem ew(X:be):(dn X).length=7:=rfl
theorem oL.mU{g n cap:Nat}{vl vn vw:Value}{S:gD}{C:List be}(h:oL w B p p (.slice (some (g,0)) n cap) vl vn vw {S with code:=C}){i:Nat}{X:be}(m:C[i]?=some X)(d:n=C.length)(v:Int):
 dK (w.setCell (g,i*7+4) (.int .u64 v)) B p p {S with code:=C.set i {X with v:=v}}/\Below B w (w.setCell (g,i*7+4) (.int .u64 v)):=by
 have r:(Value.slice (some (g,0)) n cap).ownBlock=some g:=rfl;obtain⟨x,cs,j⟩:=bW h.code r;have c:Ch (aH g) w (w.setCell (g,i*7+4) (.int .u64 v)):=ay;have q:∀{e:TypeId} {s:Nat} {v':Value} {n:Nat} {xs:List Value},w.ownsRow B e s v' n xs->152≠e->(w.setCell (g,i*7+4) (.int .u64 v)).ownsRow B e s v' n xs:=fun l o=>ak l c (fun k t e=>by have a:k=g:=e;subst a;exact bm l j o t)
 refine⟨⟨.slice (some (g,0)) n cap,vl,vn,vw,?_⟩,c.below (by have:=h.row.lt;have:=h.hB;omega) (fun b hb=>by have e:b=g:=hb;omega)⟩;have f:=h.code;rw[show({S with code:=C}:gD).code=C from rfl,<-d]at f;have u:=ig (enc:=dn) f ew m 4 (by omega) rfl (v:=.int .u64 v) (y:={X with v:=v}) rfl d;refine⟨h.row.ch c (fun e=>by have a:p=g:=e;subst a;exact absurd (eM h.row j) (by decide)),h.hB,?_,h.ne,q h.labels (by decide),q h.lines (by decide),q h.bu (by decide)⟩;rw[show({S with code:=C.set i {X with v:=v}}:gD).code=C.set i {X with v:=v}from rfl,List.length_set,<-d];exact u
variable{k:Nat}
def C1(r:List be×List (ByteArray×Int))(w:World)(e:Ending)(w':World):Prop:=
 ∃vc vl,e=.returned (.tuple #[vc,vl,.pointer none])/\w'.ownsRow w.heap.size 152 7 vc r.1.length (r.1.flatMap dn)/\w'.ownsRow w.heap.size 154 2 vl r.2.length (r.2.flatMap ph)/\Ch ag w w'
structure ts(k:Nat)(S:gD):Prop where
 c:S.code.length<=k
 l:S.labels.length<=k
 n:S.lines.length<=k
 w:S.bu.length<=3*k
 a0:0<=S.line
 a1:S.line<=k
theorem ts.more{S S':gD}{d:List ByteArray}(h:ts k S)(a:jC S d=some S'):ts (k+1) S':=by
 have:=h.c;have:=h.l;have:=h.n;have:=h.w;have:=h.a0;have:=h.a1;cases d with
 |nil=>
  obtain rfl:=Option.some.inj a;exact⟨by show S.code.length<=_;omega,by show S.labels.length<=_;omega,by show S.lines.length<=_;omega,by show S.bu.length<=_;omega,by show 0<=S.line+1;omega,by show S.line+1<=_;omega⟩
 |cons w l=>
  unfold jC at a;dsimp only at a;cases c:ma S (w::l)with
  |none=>rw[c]at a;cases a
  |some b=>
   rw[c]at a;obtain rfl:=Option.some.inj a;obtain⟨a1,a2,a3,a4,e⟩:=jD c;exact⟨by show b.code.length<=_;omega,by show b.labels.length<=_;omega,by show b.lines.length<=_;omega,by show b.bu.length<=_;omega,by show 0<=b.line+1;omega,by show b.line+1<=_;omega⟩
theorem ts.mono{a:Nat}{S:gD}(h:ts k S)(b:k<=a):ts a S:=by
 have:=h.c;have:=h.l;have:=h.n;have:=h.w;have:=h.a0;have:=h.a1;exact⟨by omega,by omega,by omega,by omega,by omega,by omega⟩
def ga(s:ByteArray)(f k:Nat):List UInt8:=(s.data.toList.drop f).take (k-f)
theorem oR(s:ByteArray)(k:Nat):ga s k k=[]:=by unfold ga;rw[Nat.sub_self];rfl
theorem yI(s:ByteArray)(f k:Nat)(b:f<=k)(a:k<s.size):ga s f (k+1)=ga s f k++[s[k]]:=by
 unfold ga;rw[show k+1-f=(k-f)+1 from by omega,List.take_add_one,List.getElem?_drop,show f+(k-f)=k from by omega,List.getElem?_eq_getElem (by simpa using a)];rfl
theorem tu(s:ByteArray)(f k:Nat)(a:f<=k)(b:k<=s.size):e7 (s.extract f k)=lj (ga s f k) []:=by
 unfold e7 ga;rw[ByteArray.data_extract,Array.toList_extract,List.extract_eq_take_drop]
theorem lq(s:ByteArray)(f k:Nat):(ga s f k).length<=k-f:=by unfold ga;rw[List.length_take];omega
theorem C2(s:ByteArray)(f k:Nat)(a:f<k)(b:k<=s.size):ga s f k≠[]:=by
 intro h;have:(ga s f k).length=k-f:=by unfold ga;rw[List.length_take,List.length_drop];simp;omega
 rw[h]at this;simp at this;omega
theorem below_drewN{w':World}(h:Below B w w')(n:Nat):Below B w (w'.drewN n):=⟨h.os,h.tape,h.output,h.size,h.block⟩
theorem tv{v:Value}{a:List ByteArray}(h:w.ownsRow B 9 1 v a.length (a.map Value.string))(b:0<a.length):∃g cap,v=.slice (some ⟨g,0,none⟩) a.length cap/\a.length<=cap/\eg w g a:=by
 obtain⟨g,cap,f,d,i,c,j,e,_⟩:=aE h b;exact⟨g,cap,d,c,f,e⟩
theorem me(s:ByteArray)(r:List be×List (ByteArray×Int))(h:iV s=some r)(w:World):Calls prog 29 #[.string s] w (C1 r w):=by
 unfold iV at h;split at h
 ·rename_i lH
  cases z:gN s.data.toList [] ⟨[],[],[],[],0⟩with
  |none=>rw[z]at h;cases h
  |some a=>
   rw[z]at h;dsimp only at h;cases a9:oQ a.bu a.labels a.code with
   |none=>rw[a9]at h;cases h
   |some ad=>
    rw[a9]at h;dsimp only at h;have i6:=Z z;have i7:=Z a9;have i8:=Z h;clear h z a9;have lI:(s.size:Int)<=65536:=(by omega);obtain⟨B,fd⟩:=nm w.heap.size;have R:=Z fd;go_in
    go_upto_block 0 with fail
    obtain⟨w0,ej⟩:=nm (w.alloc (.cells #[.slice none 0 0,.slice none 0 0,.slice none 0 0,.slice none 0 0,.int .i64 0] 144));have jp:Hid (dK w0 B B B ⟨[],[],[],[],0⟩):=Z (by
     have r:=Row.new w #[.slice none 0 0,.slice none 0 0,.slice none 0 0,.slice none 0 0,.int .i64 0] 144;rw[ej,fd]at r;exact⟨_,_,_,_,r,Nat.le_refl _,World.ownsRow_nil _ _ _ _,(fun e=>by cases e),World.ownsRow_nil _ _ _ _,World.ownsRow_nil _ _ _ _,World.ownsRow_nil _ _ _ _⟩)
    have ih:Hid (Below B w w0):=Z (by rw[<-ej];exact(Below.refl _ _).alloc (by omega) _);rw[ej];clear ej fd;go_cut [] (fun wc=>dK wc B B B a/\Below B w wc/\ts 65537 a)
    case first=>
     go_wp2
     go_loopw [6,7] (fun fr i wr=>∃(f k:Nat) (S:gD),fr=.int .i64 f/\i=.int .i64 k/\dK wr B B B S/\Below B w wr/\((k<=s.size/\f<=k/\ts k S/\gN (s.data.toList.drop k) (ga s f k) S=some a)∨(k=s.size+1/\ts k S/\S=a))) (fun _ i _=>s.size+1-(intOf i).toNat)
     case atStart=>exact⟨0,0,_,rfl,rfl,jp,ih,Or.inl ⟨by omega,by omega,⟨by simp,by simp,by simp,by simp,by simp,by simp⟩,by rw[oR];exact i6⟩⟩
     case round=>
      obtain⟨f,k,S,rfl,rfl,c,p,hrel⟩:=hrel;rcases hrel with⟨bx,a1,q,d⟩|⟨rfl,q,rfl⟩
      ·have Q:=Z q
       have c1:=Z c;have P:=Z p;by_cases cl:k<s.size
       ·have cL:Hid (s.data.toList.drop k=s[k]::s.data.toList.drop (k+1)):=drop_cons s k cl
        by_cases ab:(s[k].toNat:Int)=10
        ·rw[cL,gN,if_pos ab]at d
         have k5:((s[k].toNat:Int) !=10)=false:=(by rw[ab];rfl);have kk:((k:Int)==s.size)=false:=(by rw[beq_eq_false_iff_ne];omega);cases F:jC S (lj (ga s f k) [])with
         |none=>rw[F]at d;cases d
         |some l=>
          rw[F]at d;dsimp only at d;have I:Hid ((k+1<=s.size/\(k+1)<=(k+1)/\ts (k+1) l/\gN (s.data.toList.drop (k+1)) (ga s (k+1) (k+1)) l=some a)∨(k+1=s.size+1/\ts (k+1) l/\l=a)):=Z (Or.inl ⟨by omega,Nat.le_refl _,q.more F,by rw[oR];exact d⟩);have al:=Z (tu s f k a1 bx);obtain⟨t,cm⟩:=nm (s.extract f k);have g7:t.size<=65536:=(by rw[<-cm];simp;omega);have V:=Z (fun w=>oM t g7 w);rw[cm]at al;rw[al]at V;have c7:Hid (∀x∈lj (ga s f k) [],1<=x.size/\x.size<=65536):=Z (fun x a4=>by
           have z:=tq _ _ x a4;have a9:=lq s f k;simp only[List.length_nil]at z;omega)
          have c3:Hid ((lj (ga s f k) []).length<=65537):=Z (by
           have z:=wK (ga s f k) [];have a9:=lq s f k;omega)
          have A:Hid (k<=65536):=Z (by omega);obtain⟨O,cq⟩:=nm (lj (ga s f k) []);rw[cq]at V c7 c3 F;have c2:=Z F;have kE:t.size<=maxLen:=(by unfold maxLen;omega);clear cq d q c p F ab;cases O with
          |nil=>
           have am:Hid (l=oP S):=Z (Option.some.inj c2).symm;go_upto_region 15 with(go_at_call 51;(with_reducible refine(V.out _).mono ?_);rintro e w2 ⟨gk,rfl,L,K⟩;obtain⟨a2,eV,rfl⟩:=au L;have H:=Z K;clear L K;simp only[List.length_nil])
           have u:Hid (dK w2 B B B S):=Z (c1.out.af (Ch.bT H));have T:Hid (Below B w w2):=Z (P.out.trans (H.mono (by have:=P.out.size;have:=R.out;omega)));have gf:w2.cell? (B,4)=some (.int .i64 S.line):=by
            obtain⟨_,_,_,_,b⟩:=u.out;exact b.row.cell rfl
           have fb:w2.frozen? (B,4)=false:=by
            obtain⟨_,_,_,_,b⟩:=u.out;exact b.row.free 4
           have gs:=Q.out.a0;have gt:=Q.out.a1;have li:=A.out;go_wp2
           go_roundw
           case rel=>exact⟨k+1,k+1,l,by go_num,by go_num,by rw[am];exact u.more,T.setCell (by simp) _,I⟩
           case measure=>simp[intOf];omega
          |cons x O=>
           have y:=c2.out;unfold jC at y;dsimp only at y;cases M:ma S (x::O)with
           |none=>rw[M]at y;cases y
           |some J=>
            rw[M]at y;have am:Hid (l=oP J):=Z (Option.some.inj y).symm;have N:=Q.out;have c4:=Z (jD M).2.2.2.2;have c6:=Z (fun g cap w g8 g1 c fn=>p4 (x::O) (by simp) c7 (by have:=c3.out;omega) g cap B B S J w g8 g1 c fn M (by have:=N.c;have:=A.out;omega) (by have:=N.w;have:=A.out;omega) (by have:=N.l;have:=A.out;omega) (by have:=N.n;have:=A.out;omega));obtain⟨D,E⟩:=mn ((x::O).length);have U:=Z E;have k3:0<D:=(by rw[E];simp);have k4:(0:Int)<D:=(by omega);rw[<-E]at c6;clear M y N E;go_wp2_with fail
            with_reducible refine(V.out _).mono ?_
            rintro e w2 ⟨gk,rfl,L,K⟩;obtain⟨k2,eV,rfl,ch,G⟩:=tv L (by simp);have eA:=Z ch;have c8:=Z G;have H:=Z K;rw[<-U];have u:Hid (dK w2 B B B S):=Z (c1.out.af (Ch.bT H));have T:Hid (Below B w w2):=Z (P.out.trans (H.mono (by have:=P.out.size;have:=R.out;omega)));clear L K ch G;go_wp2_with fail
            with_reducible refine(c6.out _ _ _ c8.out (by have:=eA.out;rw[U.out];exact this) u.out (by have:=T.out.size;have:=R.out;omega)).mono ?_
            rintro e cA ⟨rfl,a3,ce⟩;have eL:=Z a3;have ex:=Z (T.trans ce);have gf:cA.cell? (B,4)=some (.int .i64 J.line):=by
             obtain⟨_,_,_,_,b⟩:=a3;exact b.row.cell rfl
            have fb:cA.frozen? (B,4)=false:=by
             obtain⟨_,_,_,_,b⟩:=a3;exact b.row.free 4
            have gs:0<=J.line:=(by rw[c4];exact Q.out.a0);have gt:J.line<=65536:=(by rw[c4];have:=Q.out.a1;have:=A.out;omega);clear a3 ce;go_wp2
            go_roundw
            case rel=>exact⟨k+1,k+1,l,by go_num,by go_num,by rw[am];exact eL.more,ex.setCell (by simp) _,by first|exact I|exact I.imp id (fun h=>⟨h.1,h.2.1,rfl⟩)⟩
            case measure=>simp[intOf];omega
        ·have I:Hid ((k+1<=s.size/\f<=k+1/\ts (k+1) S/\gN (s.data.toList.drop (k+1)) (ga s f (k+1)) S=some a)∨(k+1=s.size+1/\ts (k+1) S/\S=a)):=Z (Or.inl ⟨by omega,by omega,q.mono (by omega),by
          rw[cL,gN,if_neg ab]at d;rw[yI s f k a1 cl];exact d⟩)
         have k5:((s[k].toNat:Int) !=10)=true:=(by simpa using ab);clear ab q c p d;go_wp2
         go_roundw
         case rel=>exact⟨f,k+1,S,rfl,by go_num,c1.out,P.out,I⟩
         case measure=>simp[intOf];omega
       ·have hK:k=s.size:=by omega
        have cL:Hid (s.data.toList.drop k=[]):=iv s k (by omega);rw[cL,gN]at d;have kk:((k:Int)==s.size)=true:=(by rw[beq_iff_eq];omega);by_cases g3:f=k
        ·have I:Hid ((k+1<=s.size/\f<=k+1/\ts (k+1) S/\gN (s.data.toList.drop (k+1)) (ga s f (k+1)) S=some a)∨(k+1=s.size+1/\ts (k+1) S/\S=a)):=Z (Or.inr ⟨by omega,q.mono (by omega),by
          rw[g3,oR,if_pos rfl]at d;exact Option.some.inj d⟩)
         have kf:((f:Int)==(k:Int))=true:=(by rw[beq_iff_eq];omega);clear hK q c p d g3;go_wp2
         go_roundw
         case rel=>exact⟨f,k+1,S,rfl,by go_num,c1.out,P.out,I⟩
         case measure=>simp[intOf];omega
        ·rw[if_neg (C2 s f k (by omega) bx)]at d
         cases F:jC S (lj (ga s f k) [])with
         |none=>rw[F]at d;cases d
         |some l=>
          rw[F]at d;obtain rfl:=Option.some.inj d;have I:Hid ((k+1<=s.size/\(k+1)<=(k+1)/\ts (k+1) l/\gN (s.data.toList.drop (k+1)) (ga s (k+1) (k+1)) l=some l)∨(k+1=s.size+1/\ts (k+1) l/\l=l)):=Z (Or.inr ⟨by omega,q.more F,rfl⟩);have kf:((f:Int)==(k:Int))=false:=(by rw[beq_eq_false_iff_ne];omega);clear hK;have al:=Z (tu s f k a1 bx);obtain⟨t,cm⟩:=nm (s.extract f k);have g7:t.size<=65536:=(by rw[<-cm];simp;omega);have V:=Z (fun w=>oM t g7 w);rw[cm]at al;rw[al]at V;have c7:Hid (∀x∈lj (ga s f k) [],1<=x.size/\x.size<=65536):=Z (fun x a4=>by
           have z:=tq _ _ x a4;have a9:=lq s f k;simp only[List.length_nil]at z;omega)
          have c3:Hid ((lj (ga s f k) []).length<=65537):=Z (by
           have z:=wK (ga s f k) [];have a9:=lq s f k;omega)
          have A:Hid (k<=65536):=Z (by omega);obtain⟨O,cq⟩:=nm (lj (ga s f k) []);rw[cq]at V c7 c3 F;have c2:=Z F;have kE:t.size<=maxLen:=(by unfold maxLen;omega);clear cq d q c p F g3;cases O with
          |nil=>
           have am:Hid (l=oP S):=Z (Option.some.inj c2).symm;go_upto_region 15 with(go_at_call 51;(with_reducible refine(V.out _).mono ?_);rintro e w2 ⟨gk,rfl,L,K⟩;obtain⟨a2,eV,rfl⟩:=au L;have H:=Z K;clear L K;simp only[List.length_nil])
           have u:Hid (dK w2 B B B S):=Z (c1.out.af (Ch.bT H));have T:Hid (Below B w w2):=Z (P.out.trans (H.mono (by have:=P.out.size;have:=R.out;omega)));have gf:w2.cell? (B,4)=some (.int .i64 S.line):=by
            obtain⟨_,_,_,_,b⟩:=u.out;exact b.row.cell rfl
           have fb:w2.frozen? (B,4)=false:=by
            obtain⟨_,_,_,_,b⟩:=u.out;exact b.row.free 4
           have gs:=Q.out.a0;have gt:=Q.out.a1;have li:=A.out;go_wp2
           go_roundw
           case rel=>exact⟨k+1,k+1,l,by go_num,by go_num,by rw[am];exact u.more,T.setCell (by simp) _,I⟩
           case measure=>simp[intOf];omega
          |cons x O=>
           have y:=c2.out;unfold jC at y;dsimp only at y;cases M:ma S (x::O)with
           |none=>rw[M]at y;cases y
           |some J=>
            rw[M]at y;have am:Hid (l=oP J):=Z (Option.some.inj y).symm;have N:=Q.out;have c4:=Z (jD M).2.2.2.2;have c6:=Z (fun g cap w g8 g1 c fn=>p4 (x::O) (by simp) c7 (by have:=c3.out;omega) g cap B B S J w g8 g1 c fn M (by have:=N.c;have:=A.out;omega) (by have:=N.w;have:=A.out;omega) (by have:=N.l;have:=A.out;omega) (by have:=N.n;have:=A.out;omega));obtain⟨D,E⟩:=mn ((x::O).length);have U:=Z E;have k3:0<D:=(by rw[E];simp);have k4:(0:Int)<D:=(by omega);rw[<-E]at c6;clear M y N E;go_wp2_with fail
            with_reducible refine(V.out _).mono ?_
            rintro e w2 ⟨gk,rfl,L,K⟩;obtain⟨k2,eV,rfl,ch,G⟩:=tv L (by simp);have eA:=Z ch;have c8:=Z G;have H:=Z K;rw[<-U];have u:Hid (dK w2 B B B S):=Z (c1.out.af (Ch.bT H));have T:Hid (Below B w w2):=Z (P.out.trans (H.mono (by have:=P.out.size;have:=R.out;omega)));clear L K ch G;go_wp2_with fail
            with_reducible refine(c6.out _ _ _ c8.out (by have:=eA.out;rw[U.out];exact this) u.out (by have:=T.out.size;have:=R.out;omega)).mono ?_
            rintro e cA ⟨rfl,a3,ce⟩;have eL:=Z a3;have ex:=Z (T.trans ce);have gf:cA.cell? (B,4)=some (.int .i64 J.line):=by
             obtain⟨_,_,_,_,b⟩:=a3;exact b.row.cell rfl
            have fb:cA.frozen? (B,4)=false:=by
             obtain⟨_,_,_,_,b⟩:=a3;exact b.row.free 4
            have gs:0<=J.line:=(by rw[c4];exact Q.out.a0);have gt:J.line<=65536:=(by rw[c4];have:=Q.out.a1;have:=A.out;omega);clear a3 ce;go_wp2
            go_roundw
            case rel=>exact⟨k+1,k+1,l,by go_num,by go_num,by rw[am];exact eL.more,ex.setCell (by simp) _,by first|exact I|exact I.imp id (fun h=>⟨h.1,h.2.1,rfl⟩)⟩
            case measure=>simp[intOf];omega
      ·have eS:=Z c
       have cC:=Z p;have cS:=Z q;clear c p q;go_wp2
       go_meet
       exact⟨eS,cC,cS.mono (by omega)⟩
    case rest=>
     obtain⟨c,p,q⟩:=hcut;have cC:=Z p;have cS:=Z q;have l0:a.bu.length<=200000:=(by have:=q.w;omega);have hf:=Z c;obtain⟨w1,i0⟩:=nm wc;rw[i0]at hf cC⊢;clear c p q i0;obtain⟨D,E⟩:=mn a.bu.length;have U:=Z E;rw[<-E]at l0;clear E;go_upto_block 2 with fail
     go_cut [] (fun wc=>dK wc B B B {a with code:=ad}/\Below B w wc/\ad.length=a.code.length)
     case first=>
      go_wp2
      go_loopw [10] (fun i wr=>∃(k:Nat) (C:List be),k<=D/\i=.int .i64 k/\dK wr B B B {a with code:=C}/\Below B w wr/\oQ (a.bu.drop k) a.labels C=some ad/\C.length=a.code.length) (fun i _=>D-(intOf i).toNat)
      case atStart=>exact⟨0,a.code,by omega,rfl,hf,cC,i7,rfl⟩
      case round=>
       obtain⟨k,C,bx,rfl,c,p,o,dr⟩:=hrel;have eS:=Z c;have hb:=Z p;have hd:=Z dr;obtain⟨vc,vl,vn,vw,b⟩:=c;have cQ:=Z b;have i4:wr.cell? (B,3)=some vw:=b.row.cell rfl;have g6:wr.ownsRow B 150 3 vw D (a.bu.flatMap oK):=(by rw[U];exact b.bu);have j9:=Z g6;obtain⟨k0,eW,rfl⟩:=au g6;clear g6 b p dr;by_cases cl:k<D
       ·have c0:k<a.bu.length:=by have:=U.out;omega
        rw[List.drop_eq_getElem_cons c0]at o;obtain⟨x,a4⟩:=nm (a.bu[k]);have ge:a.bu[k]?=some x:=(by rw[List.getElem?_eq_getElem c0,a4]);rw[a4,oQ]at o;cases a1:cV a.labels x.2.2 with
        |none=>rw[a1]at o;cases o
        |some at_=>
         rw[a1]at o;dsimp only at o;obtain⟨x0,lc,go⟩:=x;dsimp only at o a1;cases bw:C[lc.toNat]? with
         |none=>rw[bw]at o;cases o
         |some X=>
          rw[bw]at o;dsimp only at o;split at o
          ·rename_i hw
           obtain⟨av,rfl⟩:=Int.eq_ofNat_of_zero_le hw;rw[Int.toNat_natCast]at bw o;have lv:av<C.length:=(List.getElem?_eq_some_iff.1 bw).1;have hm:=Z bw;have jr:=Z o;obtain⟨bv,k1,l1,i3,_,l',_,gc,_⟩:=aE j9 (by omega);obtain⟨rfl,rfl⟩:k0=some ⟨bv,0,none⟩/\eW=k1:=by injection i3 with z _ Y;exact⟨z,Y⟩
           have i1:wr.cell? ⟨bv,k*3+1,none⟩=some (.int .i64 av):=gc.cell (by
            rw[List.getElem?_append_left (by rw[aU (k:=3) (fun _=>rfl)];omega)];exact(bJ (k:=3) (enc:=oK) (fun _=>rfl) ge (j:=1) (by omega)).trans rfl)
           have kT:wr.cell? ⟨bv,k*3+2,none⟩=some (.string go):=gc.cell (by
            rw[List.getElem?_append_left (by rw[aU (k:=3) (fun _=>rfl)];omega)];exact(bJ (k:=3) (enc:=oK) (fun _=>rfl) ge (j:=2) (by omega)).trans rfl)
           have a5:wr.cell? (B,0)=some vc:=cQ.row.cell rfl;have en:wr.cell? (B,1)=some vl:=cQ.row.cell rfl;have io:Hid (∀n,Calls prog 53 #[vl,.string go] (wr.drewN n) (fun e w'=>e=.returned (.tuple #[at_,.bool true])/\∃m,w'=(wr.drewN n).drewN m)):=
            Z (fun n=>hC a.labels go (at_,true) (by rw[a1];rfl) vl B (wr.drewN n) cQ.labels (by have:=cS.l;omega))
           have lF:(k:Int)<D:=(by omega);clear o a1 i3 gc ge a4 hw c0 bw;go_wp2
           go_quiet ((go_at_call 53;exact Calls.quiet_of (io _)))
           obtain⟨w2,G⟩:=nm (wr.drewN nq);have c8:Hid (Below B w w2):=Z (by rw[<-G];exact below_drewN hb nq);have u:Hid (oL w2 B B B vc vl vn (.slice (some (bv,0)) D eW) {a with code:=C}):=Z (by rw[<-G];exact cQ.af ay);have gr:w2.cell? ⟨bv,k*3+1,none⟩=some (.int .i64 av):=(by rw[<-G];exact i1);have y0:w2.cell? (B,0)=some vc:=(by rw[<-G];exact a5);have mb:w2.cell? (B,3)=some (.slice (some (bv,0)) D eW):=(by rw[<-G];exact i4);rw[G];obtain⟨hv,hn,m7,ci,_,hB,_,g2,_⟩:=aE u.code (by show 0<C.length;omega);have cd:Hid (vc=.slice (some (hv,0)) C.length hn):=Z ci;obtain⟨bi,g0⟩:=mn C.length;have c5:=Z g0;have lw:(av:Int)<bi:=(by omega);have mc:w2.cell? (hv,av*7+4)=some (.int .u64 X.v):=g2.cell (by
            rw[List.getElem?_append_left (by show _<(C.flatMap dn).length;rw[aU ew];omega)];exact(bJ ew hm (j:=4) (by omega)).trans rfl)
           have f4:=g2.free (av*7+4);have lt:bi<=hn:=(by rw[g0];exact hB);rw[cd,<-c5]at y0 u;clear G i1 kT a5 en i4 ci hB g2 g0;go_wp2
           go_still_tail 14,(by kernel_rfl)
           change wpList _ _ _ _ _ w2.drew;go_wp2
           go_roundw
           obtain⟨i5,la⟩:=oL.mU u hm c5 (IntKind.u64.wrap at_)
           case rel=>
            refine⟨k+1,C.set av {X with v:=IntKind.u64.wrap at_},by omega,by go_num,?_,?_,jr,by rw[List.length_set];exact hd⟩
            ·first|exact i5|exact i5.af ay
            ·have a0:=c8.trans la
             exact⟨a0.os,a0.tape,a0.output,a0.size,a0.block⟩
           case measure=>simp[intOf];omega
          ·cases o
       ·have dC:a.bu.drop k=[]:=List.drop_of_length_le (by have:=U.out;omega)
        rw[dC]at o;have al:Hid (C=ad):=Z (Option.some.inj o);clear o dC;go_wp2
        go_meet
        rw[<-al];exact⟨eS,hb,hd⟩
     case rest=>
      obtain⟨c,p,dr⟩:=hcut;obtain⟨w4,i2⟩:=nm wc;rw[i2]at c p⊢;have Y:=i8.out;unfold DJ at Y;split at Y
      ·rename_i dC
       obtain⟨kb,hF⟩:=dC;obtain rfl:=Option.some.inj Y;have lm:=Z c;have ii:=Z p;obtain⟨vc,vl,vn,vw,b⟩:=c;have ll:=Z b;have g4:w4.ownsRow B 152 7 vc ad.length (ad.flatMap dn):=b.code;have g5:=b.labels;have a5:w4.cell? (B,0)=some vc:=b.row.cell rfl;have en:w4.cell? (B,1)=some vl:=b.row.cell rfl;have it:=Z g4;have he:=Z g5;obtain⟨ac,hu,rfl⟩:=au g4;obtain⟨c9,cb,rfl⟩:=au g5;obtain⟨bi,cd⟩:=mn ad.length;obtain⟨W,fz⟩:=mn a.labels.length;have c5:=Z cd;have eC:=Z fz;have lo:W<=65537:=(by have:=cS.l;omega);rw[<-cd]at a5 kb;have cs:w4.cell? (B,1)=some (.slice c9 W cb):=(by rw[fz];exact en);have i9:Hid (∀k,k<W->∃(cW:Nat) (at_:Int),c9=some ⟨cW,0,none⟩/\W<=cb/\(at_==(bi:Int))=false/\w4.cell? ⟨cW,k*2+1,none⟩=some (.int .i64 at_)):=Z (fun k bx=>by
        have c0:k<a.labels.length:=(by have:=eC.out;omega);obtain⟨g,cap,l1,kd,_,ab,_,kw,_⟩:=aE he (by show 0<a.labels.length;omega);have a4:a.labels[k]?=some a.labels[k]:=List.getElem?_eq_getElem c0;obtain⟨rfl,rfl⟩:c9=some ⟨g,0,none⟩/\cb=cap:=by injection kd with z _ Y;exact⟨z,Y⟩
        refine⟨g,a.labels[k].2,rfl,by have:=eC.out;rw[this];exact ab,?_,?_⟩
        ·have:=List.all_eq_true.1 hF _ (List.getElem_mem c0)
         rw[<-c5]at this;rw[bne_iff_ne]at this;rw[beq_eq_false_iff_ne];exact this
        ·refine kw.cell ?_
         rw[List.getElem?_append_left (by show _<(a.labels.flatMap ph).length;rw[aU iy];omega)];exact(bJ iy a4 (j:=1) (by omega)).trans rfl)
       clear i2 b g4 g5 cd fz en p dr Y hF;go_upto_block 4 with fail
       go_cut [] (fun wc=>∃m,wc=w4.drewN m)
       case first=>
        go_wp2
        go_loopw [13] (fun i wr=>∃(k m:Nat),k<=W/\i=.int .i64 k/\wr=w4.drewN m) (fun i _=>W-(intOf i).toNat)
        case atStart=>exact⟨0,0,by omega,rfl,rfl⟩
        case round=>
         obtain⟨k,m,bx,rfl,rfl⟩:=hrel;obtain⟨es,ap⟩:=nm (w4.drewN m);have hi:=Z ap;have y0:es.cell? (B,0)=some (.slice ac bi hu):=(by rw[<-ap];exact a5);have gr:es.cell? (B,1)=some (.slice c9 W cb):=(by rw[<-ap];exact cs);rw[ap];by_cases cl:k<W
         ·obtain⟨cW,at_,rfl,lG,ls,ci⟩:=i9 k cl
          have le:es.cell? ⟨cW,k*2+1,none⟩=some (.int .i64 at_):=(by rw[<-ap];exact ci);clear ap ci a5 cs;go_wp2
          go_quiet (fail)
          obtain⟨lb,g9⟩:=nm (es.drewN nq);have j':Hid (lb=w4.drewN (m+nq)):=Z (by rw[<-g9,<-hi,World.drewN_drewN]);rw[g9];clear g9 y0 gr le;go_wp2
          go_roundw
          case rel=>exact⟨k+1,m+nq,by omega,by go_num,j'⟩
          case measure=>simp[intOf];omega
         ·clear ap a5 cs
          go_wp2
          go_meet
          exact⟨m,hi.symm⟩
       case rest=>
        obtain⟨m,dN⟩:=hcut;have ip:=Z dN;have y0:wc.cell? (B,0)=some (.slice ac bi hu):=(by rw[dN];exact a5);have gr:wc.cell? (B,1)=some (.slice c9 W cb):=(by rw[dN];exact cs);clear dN a5 cs;go_wp2
        go_quiet (fail)
        go_wp2
        go_ret3;have et:Ch ag w4 (wc.drewN nq):=(by rw[ip];exact ay);refine⟨_,_,rfl,?_,?_,?_⟩
        ·have a0:=ak it et (fun _ _ e=>e)
         rw[c5,R];exact a0
        ·have a0:=ak he et (fun _ _ e=>e)
         rw[eC,R];exact a0
        ·exact(Ch.bT (by rw[R];exact ii)).trans et
      ·cases Y
 ·cases h
attribute [local go_sem] Oper.semAt_some
variable{A:World}{lc:Nat}
def AR(lc:Nat)(A:World)(k:Nat):Prop:=∃v,Boxed A lc 35 v/\v.ownBlock=some k
structure yQ(lc:Nat)(A B:World):Prop where
 size:A.heap.size<=B.heap.size
 same:∀k o,A.heap[k]?=some o->o.isCells=true->k≠lc->¬AR lc A k->B.heap[k]?=some o
 own:∀k,AR lc B k->AR lc A k∨A.heap.size<=k
theorem lx{k:Nat}{o:Obj}(h:A.heap[k]?=some o):k<A.heap.size:=(Array.getElem?_eq_some_iff.1 h).1
theorem yQ.trans{B C:World}(h:yQ lc A B)(a:yQ lc B C):yQ lc A C where
 size:=Nat.le_trans h.size a.size
 same:=fun k o b f c d=>a.same k o (h.same k o b f c d) f c fun e=>(h.own k e).elim d fun e=>by have:=lx b;omega
 own:=fun k e=>(a.own k e).elim (fun e=>h.own k e) fun e=>Or.inr (by have:=h.size;omega)
theorem yQ.put(W:World)(l:Nat)(o c:Obj)(d:l≠lc)(h:W.heap[l]?=some o)(f:o.isCells=false):yQ lc W (W.putObj l c) where
 size:=by show _<=(W.heap.setIfInBounds l c).size;rw[Array.size_setIfInBounds];exact Nat.le_refl _
 same:=fun k i a b _ _=>by
  by_cases e:k=l
  ·subst e;rw[h]at a;cases a;rw[f]at b;cases b
  ·exact(World.putObj_heap_other e).trans a
 own:=fun k ⟨v,g,e⟩=>Or.inl ⟨v,(World.putObj_heap_other (fun e=>d e.symm)).symm.trans g,e⟩
def Eb(lc:Nat)(A:World)(k:Nat):Prop:=(∃o,A.heap[k]?=some o/\o.isCells=true)/\k≠lc/\¬AR lc A k
theorem Bp(lc:Nat):uv (yQ lc) (Eb lc):=⟨fun {A B k} h ⟨⟨o,a,b⟩,c,d⟩ f=>
 ⟨(h.same k o a b c d).trans a.symm,⟨o,h.same k o a b c d,b⟩,c,fun e=>(h.own k e).elim d fun e=>by omega⟩⟩
theorem hS{F:Fence}{n:Nat}{P:Program}(w:World){ops:Array Oper}{rest:List Oper}{o:Oper}{a:Act}{Q:Exit->Act->World->Prop}
 (N:o.guard=none) (s x:Operand) (t:TypeId) (d:o.op=Op.call {callee:=Callee.builtin Builtin.append,args:=#[s,x],argTypes:=#[t,t]})
 (base:Nat) (e:TypeId) (i:TypeInfo) (z:Value) (size bytes:Nat) (p:P.underlying t=some (.slice e)) (r:P.info? e=some i) (y:i.zero=some z) (B:i.size=size) (D:i.bytes=bytes) (E:z.cells.size=size) (G:0<size)
 (v:Value) (k:Nat) (xs:List Value) (U:a.eval s=v) (S:w.ownsRow base e size v k xs) (b:Addr) (m c:Nat) (news:List Value) (V:a.eval x=.slice (some b) m c) (R:news.length=m*size)
 (J:∀j u,news[j]?=some u->w.cell? (b.add j)=some u) (q:∀u∈news,u.oneCell'=true) (O:0<m) (f:k+m<=maxLen) (h:(k+m)*bytes<=140737488355328) (l:base<=w.heap.size)
 (H:∀g cap w',w'.ownsRow base e size (.slice (some ⟨g,0,none⟩) (k+m) cap) (k+m) (xs++news)->w.grownBy w' v.ownBlock->(v.ownBlock=some g∨g=w.heap.size)->wpListIn F n P ops Q rest (a.put o.dst (.slice (some ⟨g,0,none⟩) (k+m) cap)) w'):
 wpListIn F n P ops Q (o::rest) a w:=by
 refine wpListIn_plain N fun K I=> ?_
 obtain⟨g,cap,w',T,W,X,Z,-⟩:=run_append_lies (P:=P) w t o.type base e i z size bytes p r y B D E G v k xs S b m c news R J q O f h l _ rfl;unfold Oper.wpIn;refine⟨?_,?_⟩
 ·simp[Oper.about,d,resolve,Target.leads,Sem.run_pure]
 ·rw[Oper.semAt_plain F _ _ (by rw[d];intro c M;cases M)]
  simp[execOp,d,resolve,invoke,builtin,U,V,T,Result.andThen];exact I _ _ (H g cap w' W X Z)
structure wP(l:List Int)(w:World)(e:Ending)(w':World):Prop where
 ret:∃v,e=.returned v/\w'.ownsRow w.heap.size 22 1 v l.length (l.map (Value.int .u64))
 ch:Ch ag w w'
section
variable{w:World}{χ:Nat->a'}{L:cU}{Y:Var}{C:KC}{K:KS}
end
