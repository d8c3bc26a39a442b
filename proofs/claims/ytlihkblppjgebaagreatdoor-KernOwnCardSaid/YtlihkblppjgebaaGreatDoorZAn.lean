import Derived.Test.YtlihkblppjgebaaGreatDoorZAk
set_option linter.all false
set_option maxRecDepth 100000
set_option maxHeartbeats 0
namespace Go.Proofs.YtlihkblppjgebaaGreatDoor
open Go.RowKit Go.Proofs.Tryz
variable{w:World}{χ:Nat->a'}{L:cU}{Y:Var}{C:KC}{K:KS}
theorem xT(c:cJ)(b o:Nat)(O:aj K c)(P:aR L Y c b o)(Q:∀k,k<32->aK ((K.F c).r k))(a n p r q s:Int)(M:0<=a/\a<32)(N:K.blocks.Ok)(h:ae w χ L Y C K):
 Calls prog 167 #[(L.mb,0),(b,o),.agg #[.int .i64 44,a,n,p,.int .u64 r,q,s]] w (dk (.tuple #[]) χ L Y C K (bh K c ⟨44,a,n,p,r,q,s⟩) w):=by
 have H:=Z h;have x:=Z O;have z:=Z P;obtain⟨w0,F,R,A,f⟩:=h.pre 44 a n p r q s;obtain⟨V,W⟩:=M;obtain⟨t,G⟩:∃y,(K.F c).r a.toNat=y:=⟨_,rfl⟩;have i:=Z G;have B:=Z (Q a.toNat (by omega));rw[G]at B;obtain⟨T,U⟩:=B.out;obtain⟨t0,t1,t2,t3,t4,t5,t6⟩:=f.1.c7;have m:=A.at_.aA x z a.toNat (by omega);rw[i]at m;by_cases D:t<65536
 ·have E:Hid (bh K c ⟨44,a,n,p,r,q,s⟩=jm K t):=Z (by unfold bh;dsimp only;rw[if_neg (by decide),if_pos rfl,i,if_pos D])
  go_in
  go_wp2
  try rw[F]
  go_quiet (fail)
  obtain⟨w1,l⟩:=nm (w0.drewN nq);have g:Hid (Ch ag w0 w1):=Z (by rw[<-l];exact ay);rw[l];have d:=Z (A.af g);have j:Hid (aj K c/\aR L Y c b o):=Z ⟨x,z⟩;have u:=Z ((Nx.af g).row f.1 f.2);obtain⟨t0,t1,t2,t3,t4,t5,t6⟩:=u.1.c7;have m:=d.at_.aA j.1 j.2 a.toNat (by omega);rw[show((K:KS).F c).r a.toNat=t from i.out]at m;have k1:=d.at_.pd;go_wp2
  go_still_tail 8,(by kernel_rfl)
  change wpList _ _ _ _ _ w1.drew;go_wp2_with fail
  refine(zZ t (by exact N) d.at_.drew).mono ?_;rintro e w2 ⟨⟨v,rfl,_⟩,X,S,J⟩;have I:=Z ((d.af ay).trans (Gr.refl _) J);go_wp2
  go_end0
  rw[E];exact⟨rfl,_,_,I⟩
 ·have E:Hid (bh K c ⟨44,a,n,p,r,q,s⟩=K):=Z (by unfold bh;dsimp only;rw[if_neg (by decide),if_pos rfl,i,if_neg D])
  go_in
  go_wp2
  try rw[F]
  go_quiet (fail)
  obtain⟨w1,l⟩:=nm (w0.drewN nq);have g:Hid (Ch ag w0 w1):=Z (by rw[<-l];exact ay);rw[l];have d:=Z (A.af g);have j:Hid (aj K c/\aR L Y c b o):=Z ⟨x,z⟩;have u:=Z ((Nx.af g).row f.1 f.2);obtain⟨t0,t1,t2,t3,t4,t5,t6⟩:=u.1.c7;have m:=d.at_.aA j.1 j.2 a.toNat (by omega);rw[show((K:KS).F c).r a.toNat=t from i.out]at m;go_wp2
  go_end0
  rw[E];exact⟨rfl,_,_,d⟩
theorem xU(c:cJ)(b o:Nat)(J:aj K c)(M:aR L Y c b o)(N:∀k,k<32->aK ((K.F c).r k))(a f g j i l:Int)(I:0<=a/\a<32)(h:ae w χ L Y C K):
 Calls prog 167 #[(L.mb,0),(b,o),.agg #[.int .i64 46,a,f,g,.int .u64 j,i,l]] w (dk (.tuple #[]) χ L Y C K (bh K c ⟨46,a,f,g,j,i,l⟩) w):=by
 have H:=Z h;have r:=Z J;have t:=Z M;obtain⟨w0,O,P,x,m⟩:=h.pre 46 a f g j i l;obtain⟨T,U⟩:=I;obtain⟨q,B⟩:∃y,(K.F c).r a.toNat=y:=⟨_,rfl⟩;have n:=Z B;have u:=Z (N a.toNat (by omega));rw[B]at u;obtain⟨R,S⟩:=u.out;obtain⟨t0,t1,t2,t3,t4,t5,t6⟩:=m.1.c7;have p:=x.at_.aA r t a.toNat (by omega);rw[n]at p;have E:Hid (bh K c ⟨46,a,f,g,j,i,l⟩={K with cT:=(iZ K.cT q).2}):=Z (by unfold bh;dsimp only;rw[if_neg (by decide),if_neg (by decide),if_neg (by decide),if_pos rfl,n]);go_in
 go_wp2
 try rw[O]
 go_quiet (fail)
 obtain⟨w1,A⟩:=nm (w0.drewN nq);have s:Hid (Ch ag w0 w1):=Z (by rw[<-A];exact ay);rw[A];have d:=Z (x.af s);have z:Hid (aj K c/\aR L Y c b o):=Z ⟨r,t⟩;have D:=Z ((Nx.af s).row m.1 m.2);obtain⟨t0,t1,t2,t3,t4,t5,t6⟩:=D.1.c7;have p:=d.at_.aA z.1 z.2 a.toNat (by omega);rw[show((K:KS).F c).r a.toNat=q from n.out]at p;have k1:=d.at_.iq;go_wp2
 go_still_tail 7,(by kernel_rfl)
 change wpList _ _ _ _ _ w1.drew;go_wp2_with fail
 refine(FN q d.at_.drew).mono ?_;rintro e w2 ⟨⟨v,rfl,_⟩,V,Q,G⟩;have F:=Z ((d.af ay).trans (Gr.refl _) G);go_wp2
 go_end0
 rw[E];exact⟨rfl,_,_,F⟩
theorem xV(c:cJ)(b o:Nat)(am:aj K c)(ap:aR L Y c b o)(a5:∀k,k<32->aK ((K.F c).r k))(a d F j G I:Int)(al:0<=a/\a<32)(hb:0<=d/\d<32)(V:aK j)(h:ae w χ L Y C K):
 Calls prog 167 #[(L.mb,0),(b,o),.agg #[.int .i64 45,a,d,F,.int .u64 j,G,I]] w (dk (.tuple #[]) χ L Y C K (bh K c ⟨45,a,d,F,j,G,I⟩) w):=by
 have H:=Z h;have B:=Z am;have D:=Z ap;obtain⟨w0,W,bi,M,z⟩:=h.pre 45 a d F j G I;obtain⟨c4,c5⟩:=al;obtain⟨X,a9⟩:∃y,(K.F c).r a.toNat=y:=⟨_,rfl⟩;have S:=Z a9;have a1:=Z (a5 a.toNat (by omega));rw[a9]at a1;obtain⟨bx,c0⟩:=a1.out;obtain⟨c6,c7⟩:=hb;obtain⟨s,ab⟩:∃y,(K.F c).r d.toNat=y:=⟨_,rfl⟩;have u:=Z ab;have a2:=Z (a5 d.toNat (by omega));rw[ab]at a2;obtain⟨c1,c2⟩:=a2.out;obtain⟨t0,t1,t2,t3,t4,t5,t6⟩:=z.1.c7;have q:=M.at_.aA B D a.toNat (by omega);rw[S]at q;have m:=M.at_.aA B D d.toNat (by omega);rw[u]at m;obtain⟨c3,v1⟩:=V;by_cases U:j<=6
 ·obtain⟨p,a4⟩:=nm (fP K.cT j s)
  have a0:=Z a4;have T:=Z (fun w h=>FM (K:=K) (w:=w) (χ:=χ) (L:=L) (Y:=Y) (C:=C) j s h);rw[a4]at T;obtain⟨r,l'⟩:=p;have bv:IntKind.i64.wrap j=j:=IntWalk.i64_in _ (by omega);have bw:wrap64 j=j:=by unfold wrap64;omega
  cases r with
  |none=>
   have E:Hid (bh K c ⟨45,a,d,F,j,G,I⟩={K with cT:=l'}.ax c a.toNat 0):=Z (by unfold bh;dsimp only;rw[if_neg (by decide),if_neg (by decide),if_pos rfl,if_pos U,u,a0];first|rfl|rw[rfl]);have J:Hid (Gr K {K with cT:=l'}):=Z (Gr.of_eq rfl);go_in
   go_wp2
   try rw[W]
   go_quiet (fail)
   obtain⟨w1,x⟩:=nm (w0.drewN nq);have t:Hid (Ch ag w0 w1):=Z (by rw[<-x];exact ay);rw[x];have g:=Z (M.af t);have f:Hid (aj K c/\aR L Y c b o):=Z ⟨B,D⟩;have n:=Z ((Nx.af t).row z.1 z.2);obtain⟨t0,t1,t2,t3,t4,t5,t6⟩:=n.1.c7;have q:=g.at_.aA f.1 f.2 a.toNat (by omega);rw[show((K:KS).F c).r a.toNat=X from S.out]at q;have m:=g.at_.aA f.1 f.2 d.toNat (by omega);rw[show((K:KS).F c).r d.toNat=s from u.out]at m;have k1:=g.at_.iq;go_wp2
   go_region_held3 (fun w'=>w'.cell? (L.mb,1013)=some (.pointer (some (L.ob,0)))/\w'.cell? ⟨w.heap.size,2,none⟩=some (.int .i64 d)/\w'.cell? ⟨w.heap.size,4,none⟩=some (.int .u64 j)/\w'.cell? (b,o+1+d.toNat)=some (.int .u64 s)) (go_keep) ((go_at_call 207;refine(T _ g.at_.drew).mono ?_;rintro e w2 ⟨⟨v,rfl,V⟩,av,ad,O⟩;obtain⟨tt,c8,rfl⟩:=V;have l:=Z ((g.af ay).trans (Gr.refl _) O);have A:=Z (((Nx.af (Ch.refl _ w1).drew).trans O.nx).row n.1 n.2);have i:=Z (l.cur B D (Gr.of_eq rfl) rfl);have k1:=l.at_.iq;have t1:=A.1.k 1 rfl;have t2:=A.1.k 2 rfl;have t4:=A.1.k 4 rfl;have q:=l.at_.aA i.1 i.2 a.toNat (by omega);have m:=l.at_.aA i.1 i.2 d.toNat (by omega);rw[show(({K with cT:=l'}:KS).F c).r d.toNat=s from u.out]at m;have a3:=l.at_.hy i.1 i.2 (o+1+a.toNat);have P:=Z (l.at_.a7 i.1 i.2 a.toNat (by omega) 0)))
   all_goals
    go_wp2
    go_end0
    rw[E];obtain⟨R,N,Q⟩:=P.out;exact⟨rfl,R,N,l.trans J Q⟩
  |some r=>
   have E:Hid (bh K c ⟨45,a,d,F,j,G,I⟩={K with cT:=l'}.ax c a.toNat r):=Z (by unfold bh;dsimp only;rw[if_neg (by decide),if_neg (by decide),if_pos rfl,if_pos U,u,a0];first|rfl|rw[rfl]);have J:Hid (Gr K {K with cT:=l'}):=Z (Gr.of_eq rfl);go_in
   go_wp2
   try rw[W]
   go_quiet (fail)
   obtain⟨w1,x⟩:=nm (w0.drewN nq);have t:Hid (Ch ag w0 w1):=Z (by rw[<-x];exact ay);rw[x];have g:=Z (M.af t);have f:Hid (aj K c/\aR L Y c b o):=Z ⟨B,D⟩;have n:=Z ((Nx.af t).row z.1 z.2);obtain⟨t0,t1,t2,t3,t4,t5,t6⟩:=n.1.c7;have q:=g.at_.aA f.1 f.2 a.toNat (by omega);rw[show((K:KS).F c).r a.toNat=X from S.out]at q;have m:=g.at_.aA f.1 f.2 d.toNat (by omega);rw[show((K:KS).F c).r d.toNat=s from u.out]at m;have k1:=g.at_.iq;go_wp2
   go_region_held3 (fun w'=>w'.cell? (L.mb,1013)=some (.pointer (some (L.ob,0)))/\w'.cell? ⟨w.heap.size,2,none⟩=some (.int .i64 d)/\w'.cell? ⟨w.heap.size,4,none⟩=some (.int .u64 j)/\w'.cell? (b,o+1+d.toNat)=some (.int .u64 s)) (go_keep) ((go_at_call 207;refine(T _ g.at_.drew).mono ?_;rintro e w2 ⟨rfl,av,ad,O⟩;have l:=Z ((g.af ay).trans (Gr.refl _) O);have A:=Z (((Nx.af (Ch.refl _ w1).drew).trans O.nx).row n.1 n.2);have i:=Z (l.cur B D (Gr.of_eq rfl) rfl);have k1:=l.at_.iq;have t1:=A.1.k 1 rfl;have t2:=A.1.k 2 rfl;have t4:=A.1.k 4 rfl;have q:=l.at_.aA i.1 i.2 a.toNat (by omega);have m:=l.at_.aA i.1 i.2 d.toNat (by omega);rw[show(({K with cT:=l'}:KS).F c).r d.toNat=s from u.out]at m;have a3:=l.at_.hy i.1 i.2 (o+1+a.toNat);have P:=Z (l.at_.a7 i.1 i.2 a.toNat (by omega) r)))
   all_goals
    go_wp2
    go_end0
    rw[E];obtain⟨R,N,Q⟩:=P.out;exact⟨rfl,R,N,l.trans J Q⟩
 ·have E:Hid (bh K c ⟨45,a,d,F,j,G,I⟩=K.ax c a.toNat 0):=Z (by unfold bh;dsimp only;rw[if_neg (by decide),if_neg (by decide),if_pos rfl,if_neg U])
  have J:Hid (Gr K K):=Z (Gr.refl _);go_in
  go_wp2
  try rw[W]
  go_quiet (fail)
  obtain⟨w1,x⟩:=nm (w0.drewN nq);have t:Hid (Ch ag w0 w1):=Z (by rw[<-x];exact ay);rw[x];have g:=Z (M.af t);have f:Hid (aj K c/\aR L Y c b o):=Z ⟨B,D⟩;have n:=Z ((Nx.af t).row z.1 z.2);obtain⟨t0,t1,t2,t3,t4,t5,t6⟩:=n.1.c7;have q:=g.at_.aA f.1 f.2 a.toNat (by omega);rw[show((K:KS).F c).r a.toNat=X from S.out]at q;have m:=g.at_.aA f.1 f.2 d.toNat (by omega);rw[show((K:KS).F c).r d.toNat=s from u.out]at m;have a3:=g.at_.hy f.1 f.2 (o+1+a.toNat);have P:=Z (g.at_.a7 f.1 f.2 a.toNat (by omega) 0);go_wp2
  go_end0
  rw[E];obtain⟨R,N,Q⟩:=P.out;exact⟨rfl,R,N,g.trans J Q⟩
theorem ux(c:cJ)(b o:Nat)(c4:aj K c)(c6:aR L Y c b o)(bi:∀k,k<32->aK ((K.F c).r k))(a i G J I M:Int)(c3:0<=a/\a<32)(hb:0<=i/\i<32)(a5:K.blocks.Ok)(h:ae w χ L Y C K):
 Calls prog 167 #[(L.mb,0),(b,o),.agg #[.int .i64 43,a,i,G,.int .u64 J,I,M]] w (dk (.tuple #[]) χ L Y C K (bh K c ⟨43,a,i,G,J,I,M⟩) w):=by
 have H:=Z h;have l:=Z c4;have A:=Z c6;obtain⟨w0,ab,cd,P,z⟩:=h.pre 43 a i G J I M;obtain⟨cq,cs⟩:=c3;obtain⟨al,bv⟩:∃y,(K.F c).r a.toNat=y:=⟨_,rfl⟩;have a2:=Z bv;have am:=Z (bi a.toNat (by omega));rw[bv]at am;obtain⟨ci,ck⟩:=am.out;obtain⟨ad,cA⟩:=hb;obtain⟨a3,bw⟩:∃y,(K.F c).r i.toNat=y:=⟨_,rfl⟩;have B:=Z bw;have ap:=Z (bi i.toNat (by omega));rw[bw]at ap;obtain⟨cl,cm⟩:=ap.out;obtain⟨t0,t1,t2,t3,t4,t5,t6⟩:=z.1.c7;have f:=P.at_.aA l A a.toNat (by omega);rw[a2]at f;have F:=P.at_.aA l A i.toNat (by omega);rw[B]at F;by_cases a9:a3<=4096
 ·obtain⟨m,c5⟩:∃m:Nat,a3=(m:Int):=⟨a3.toNat,by omega⟩
  subst c5;obtain⟨p,c7⟩:=nm (df K.blocks K.mem m);have O:=Z c7;obtain⟨c2,B1,av⟩:=p;cases c2 with
  |none=>
   have E:Hid (bh K c ⟨43,a,i,G,J,I,M⟩=({K.ax c a.toNat 0 with blocks:=B1,mem:=av}:KS).ax c a.toNat 0):=Z (by unfold bh;dsimp only;rw[if_pos rfl,if_pos ad,B,if_pos a9,Int.toNat_natCast,cj,gx,O]);go_in
   go_wp2
   try rw[ab]
   go_quiet (fail)
   obtain⟨w1,x⟩:=nm (w0.drewN nq);have t:Hid (Ch ag w0 w1):=Z (by rw[<-x];exact ay);rw[x];have j:=Z (P.af t);have d:Hid (aj K c/\aR L Y c b o):=Z ⟨l,A⟩;have N:=Z ((Nx.af t).row z.1 z.2);obtain⟨t0,t1,t2,t3,t4,t5,t6⟩:=N.1.c7;have f:=j.at_.aA d.1 d.2 a.toNat (by omega);rw[show((K:KS).F c).r a.toNat=al from a2.out]at f;have F:=j.at_.aA d.1 d.2 i.toNat (by omega);rw[show((K:KS).F c).r i.toNat=(m:Int)from B.out]at F;have a0:=f;have s:=j.at_.hy d.1 d.2 (o+1+a.toNat);have U:=Z (fun w (h:ae w χ L Y C K)=>h.a7 d.1 d.2 a.toNat (by omega) 0);go_wp2
   go_quiet (fail)
   generalize W:w1.drewN _=w2;have q:=Z (Ch.dN (D:=ag) W);have f:=q.k f;have s:=(q.frozen (p:=⟨b,o+1+a.toNat,none⟩) (aQ a0) id).trans s;have u:=Z (j.af q);obtain⟨c9,bx,S⟩:=U _ u.at_;have Q:=Z (u.trans (Gr.refl _) S);have c1:=S.at_.pd;go_wp2_with fail
   have V:=sd (K:=K.ax c a.toNat 0) m (by omega) (by rw[cj];exact a5) Q.at_;rw[cj,gx,O]at V;refine V.mono ?_;rintro e w4 ⟨⟨v,rfl,c8⟩,cb,c0,a4⟩;obtain⟨tt,cC,rfl⟩:=c8;have r:=Z (Q.trans (bA l _) a4);have n:=Z (r.cur l A ((bA l _).trans (Gr.of_eq rfl)) (br _ _));have f:=r.at_.aA n.1 n.2 a.toNat (by omega);have s:=r.at_.hy n.1 n.2 (o+1+a.toNat);have T:=Z (r.at_.a7 n.1 n.2 a.toNat (by omega) 0);go_wp2
   go_end0
   rw[E];obtain⟨a1,R,X⟩:=T.out;exact⟨rfl,a1,R,r.trans ((bA l _).trans (Gr.of_eq rfl)) X⟩
  |some g=>
   have E:Hid (bh K c ⟨43,a,i,G,J,I,M⟩=({K.ax c a.toNat 0 with blocks:=B1,mem:=av}:KS).ax c a.toNat (g:Int)):=Z (by unfold bh;dsimp only;rw[if_pos rfl,if_pos ad,B,if_pos a9,Int.toNat_natCast,cj,gx,O]);have ce:=ng a5 (show(df K.blocks K.mem m).1=some g by rw[O]);have ch:IntKind.u64.wrap (g:Int)=g:=(by unfold IntKind.wrap IntKind.bits IntKind.signed;simp;omega);have cf:(g:Int)<=140000:=(by omega);go_in
   go_wp2
   try rw[ab]
   go_quiet (fail)
   obtain⟨w1,x⟩:=nm (w0.drewN nq);have t:Hid (Ch ag w0 w1):=Z (by rw[<-x];exact ay);rw[x];have j:=Z (P.af t);have d:Hid (aj K c/\aR L Y c b o):=Z ⟨l,A⟩;have N:=Z ((Nx.af t).row z.1 z.2);obtain⟨t0,t1,t2,t3,t4,t5,t6⟩:=N.1.c7;have f:=j.at_.aA d.1 d.2 a.toNat (by omega);rw[show((K:KS).F c).r a.toNat=al from a2.out]at f;have F:=j.at_.aA d.1 d.2 i.toNat (by omega);rw[show((K:KS).F c).r i.toNat=(m:Int)from B.out]at F;have a0:=f;have s:=j.at_.hy d.1 d.2 (o+1+a.toNat);have U:=Z (fun w (h:ae w χ L Y C K)=>h.a7 d.1 d.2 a.toNat (by omega) 0);go_wp2
   go_quiet (fail)
   generalize W:w1.drewN _=w2;have q:=Z (Ch.dN (D:=ag) W);have f:=q.k f;have s:=(q.frozen (p:=⟨b,o+1+a.toNat,none⟩) (aQ a0) id).trans s;have u:=Z (j.af q);obtain⟨c9,bx,S⟩:=U _ u.at_;have Q:=Z (u.trans (Gr.refl _) S);have c1:=S.at_.pd;go_wp2_with fail
   have V:=sd (K:=K.ax c a.toNat 0) m (by omega) (by rw[cj];exact a5) Q.at_;rw[cj,gx,O]at V;refine V.mono ?_;rintro e w4 ⟨rfl,cb,c0,a4⟩;have r:=Z (Q.trans (bA l _) a4);have n:=Z (r.cur l A ((bA l _).trans (Gr.of_eq rfl)) (br _ _));have f:=r.at_.aA n.1 n.2 a.toNat (by omega);have s:=r.at_.hy n.1 n.2 (o+1+a.toNat);have T:=Z (r.at_.a7 n.1 n.2 a.toNat (by omega) (g:Int));go_wp2
   go_end0
   rw[E];obtain⟨a1,R,X⟩:=T.out;exact⟨rfl,a1,R,r.trans ((bA l _).trans (Gr.of_eq rfl)) X⟩
 ·have E:Hid (bh K c ⟨43,a,i,G,J,I,M⟩=K.ax c a.toNat 0):=Z (by unfold bh;dsimp only;rw[if_pos rfl,if_pos ad,B,if_neg a9])
  go_in
  go_wp2
  try rw[ab]
  go_quiet (fail)
  obtain⟨w1,x⟩:=nm (w0.drewN nq);have t:Hid (Ch ag w0 w1):=Z (by rw[<-x];exact ay);rw[x];have j:=Z (P.af t);have d:Hid (aj K c/\aR L Y c b o):=Z ⟨l,A⟩;have N:=Z ((Nx.af t).row z.1 z.2);obtain⟨t0,t1,t2,t3,t4,t5,t6⟩:=N.1.c7;have f:=j.at_.aA d.1 d.2 a.toNat (by omega);rw[show((K:KS).F c).r a.toNat=al from a2.out]at f;have F:=j.at_.aA d.1 d.2 i.toNat (by omega);rw[show((K:KS).F c).r i.toNat=a3 from B.out]at F;have a0:=f;have s:=j.at_.hy d.1 d.2 (o+1+a.toNat);have U:=Z (fun w (h:ae w χ L Y C K)=>h.a7 d.1 d.2 a.toNat (by omega) 0);go_wp2
  go_quiet (fail)
  generalize W:w1.drewN _=w2;have q:=Z (Ch.dN (D:=ag) W);have f:=q.k f;have s:=(q.frozen (p:=⟨b,o+1+a.toNat,none⟩) (aQ a0) id).trans s;have u:=Z (j.af q);have T:=Z (U _ u.at_);go_wp2
  go_end0
  rw[E];obtain⟨a1,R,X⟩:=T.out;exact⟨rfl,a1,R,u.trans (Gr.refl _) X⟩
theorem uy(c:cJ)(b o:Nat)(al:aj K c)(ap:aR L Y c b o)(bi:∀k,k<32->aK ((K.F c).r k))(a x s z A:Int)(ad:0<=a/\a<32)(W:aK s)(U:K.blocks.Ok)(h:ae w χ L Y C K):
 Calls prog 167 #[(L.mb,0),(b,o),.agg #[.int .i64 43,a,.int .i64 (-1),x,.int .u64 s,z,A]] w (dk (.tuple #[]) χ L Y C K (bh K c ⟨43,a,(-1),x,s,z,A⟩) w):=by
 have H:=Z h;have j:=Z al;have u:=Z ap;obtain⟨w0,X,bx,R,t⟩:=h.pre 43 a (-1) x s z A;obtain⟨c6,c7⟩:=ad;obtain⟨a0,a3⟩:∃y,(K.F c).r a.toNat=y:=⟨_,rfl⟩;have Q:=Z a3;have a1:=Z (bi a.toNat (by omega));rw[a3]at a1;obtain⟨c3,c4⟩:=a1.out;obtain⟨t0,t1,t2,t3,t4,t5,t6⟩:=t.1.c7;have n:=R.at_.aA j u a.toNat (by omega);rw[Q]at n;obtain⟨c5,v1⟩:=W;by_cases V:s<=4096
 ·obtain⟨m,am⟩:∃m:Nat,s=(m:Int):=⟨s.toNat,by omega⟩
  subst am;obtain⟨p,av⟩:=nm (df K.blocks K.mem m);have D:=Z av;obtain⟨ab,B1,a2⟩:=p;cases ab with
  |none=>
   have E:Hid (bh K c ⟨43,a,(-1),x,(m:Int),z,A⟩=({K.ax c a.toNat 0 with blocks:=B1,mem:=a2}:KS).ax c a.toNat 0):=Z (by unfold bh;dsimp only;rw[if_pos rfl,if_neg (show¬(0:Int)<=-1 by decide),if_pos V,Int.toNat_natCast,cj,gx,D]);go_in
   go_wp2
   try rw[X]
   go_quiet (fail)
   obtain⟨w1,r⟩:=nm (w0.drewN nq);have q:Hid (Ch ag w0 w1):=Z (by rw[<-r];exact ay);rw[r];have f:=Z (R.af q);have d:Hid (aj K c/\aR L Y c b o):=Z ⟨j,u⟩;have B:=Z ((Nx.af q).row t.1 t.2);obtain⟨t0,t1,t2,t3,t4,t5,t6⟩:=B.1.c7;have n:=f.at_.aA d.1 d.2 a.toNat (by omega);rw[show((K:KS).F c).r a.toNat=a0 from Q.out]at n;have S:=f.at_.hy d.1 d.2 (o+1+a.toNat);have M:=Z (fun w (h:ae w χ L Y C K)=>h.a7 d.1 d.2 a.toNat (by omega) 0);obtain⟨bv,a4,I⟩:=M _ f.at_;have F:=Z (f.trans (Gr.refl _) I);have a9:=I.at_.pd;go_wp2_with fail
   have N:=sd (K:=K.ax c a.toNat 0) m (by omega) (by rw[cj];exact U) F.at_;rw[cj,gx,D]at N;refine N.mono ?_;rintro e w4 ⟨⟨v,rfl,W⟩,bw,a5,T⟩;obtain⟨tt,c8,rfl⟩:=W;have l:=Z (F.trans (bA j _) T);have i:=Z (l.cur j u ((bA j _).trans (Gr.of_eq rfl)) (br _ _));have n:=l.at_.aA i.1 i.2 a.toNat (by omega);have S:=l.at_.hy i.1 i.2 (o+1+a.toNat);have J:=Z (l.at_.a7 i.1 i.2 a.toNat (by omega) 0);go_wp2
   go_end0
   rw[E];obtain⟨P,G,O⟩:=J.out;exact⟨rfl,P,G,l.trans ((bA j _).trans (Gr.of_eq rfl)) O⟩
  |some g=>
   have E:Hid (bh K c ⟨43,a,(-1),x,(m:Int),z,A⟩=({K.ax c a.toNat 0 with blocks:=B1,mem:=a2}:KS).ax c a.toNat (g:Int)):=Z (by unfold bh;dsimp only;rw[if_pos rfl,if_neg (show¬(0:Int)<=-1 by decide),if_pos V,Int.toNat_natCast,cj,gx,D]);have c0:=ng U (show(df K.blocks K.mem m).1=some g by rw[D]);have c2:IntKind.u64.wrap (g:Int)=g:=(by unfold IntKind.wrap IntKind.bits IntKind.signed;simp;omega);have c1:(g:Int)<=140000:=(by omega);go_in
   go_wp2
   try rw[X]
   go_quiet (fail)
   obtain⟨w1,r⟩:=nm (w0.drewN nq);have q:Hid (Ch ag w0 w1):=Z (by rw[<-r];exact ay);rw[r];have f:=Z (R.af q);have d:Hid (aj K c/\aR L Y c b o):=Z ⟨j,u⟩;have B:=Z ((Nx.af q).row t.1 t.2);obtain⟨t0,t1,t2,t3,t4,t5,t6⟩:=B.1.c7;have n:=f.at_.aA d.1 d.2 a.toNat (by omega);rw[show((K:KS).F c).r a.toNat=a0 from Q.out]at n;have S:=f.at_.hy d.1 d.2 (o+1+a.toNat);have M:=Z (fun w (h:ae w χ L Y C K)=>h.a7 d.1 d.2 a.toNat (by omega) 0);obtain⟨bv,a4,I⟩:=M _ f.at_;have F:=Z (f.trans (Gr.refl _) I);have a9:=I.at_.pd;go_wp2_with fail
   have N:=sd (K:=K.ax c a.toNat 0) m (by omega) (by rw[cj];exact U) F.at_;rw[cj,gx,D]at N;refine N.mono ?_;rintro e w4 ⟨rfl,bw,a5,T⟩;have l:=Z (F.trans (bA j _) T);have i:=Z (l.cur j u ((bA j _).trans (Gr.of_eq rfl)) (br _ _));have n:=l.at_.aA i.1 i.2 a.toNat (by omega);have S:=l.at_.hy i.1 i.2 (o+1+a.toNat);have J:=Z (l.at_.a7 i.1 i.2 a.toNat (by omega) (g:Int));go_wp2
   go_end0
   rw[E];obtain⟨P,G,O⟩:=J.out;exact⟨rfl,P,G,l.trans ((bA j _).trans (Gr.of_eq rfl)) O⟩
 ·have E:Hid (bh K c ⟨43,a,(-1),x,s,z,A⟩=K.ax c a.toNat 0):=Z (by unfold bh;dsimp only;rw[if_pos rfl,if_neg (show¬(0:Int)<=-1 by decide),if_neg V])
  go_in
  go_wp2
  try rw[X]
  go_quiet (fail)
  obtain⟨w1,r⟩:=nm (w0.drewN nq);have q:Hid (Ch ag w0 w1):=Z (by rw[<-r];exact ay);rw[r];have f:=Z (R.af q);have d:Hid (aj K c/\aR L Y c b o):=Z ⟨j,u⟩;have B:=Z ((Nx.af q).row t.1 t.2);obtain⟨t0,t1,t2,t3,t4,t5,t6⟩:=B.1.c7;have n:=f.at_.aA d.1 d.2 a.toNat (by omega);rw[show((K:KS).F c).r a.toNat=a0 from Q.out]at n;have S:=f.at_.hy d.1 d.2 (o+1+a.toNat);have M:=Z (fun w (h:ae w χ L Y C K)=>h.a7 d.1 d.2 a.toNat (by omega) 0);have J:=Z (M _ f.at_);go_wp2
  go_end0
  rw[E];obtain⟨P,G,O⟩:=J.out;exact⟨rfl,P,G,f.trans (Gr.refl _) O⟩
theorem xW(i:Nat)(S:i<K.wk.length)(c:cJ)(b o:Nat)(R:aj K c)(T:aR L Y c b o)(F:∀k,k<32->aK ((K.F c).r k))(a d l n m p:Int)(Q:0<=a/\a<32)(hb:0<=d/\d<32)(h:ae w χ L Y C K):
 Calls prog 168 #[(L.mb,0),(L.wb,i*38),(b,o),.agg #[.int .i64 49,a,d,l,.int .u64 n,m,p]] w (dk (.tuple #[]) χ L Y C K (bD C K i c ⟨49,a,d,l,n,m,p⟩) w):=by
 have H:=Z h;have r:=Z R;have s:=Z T;have a2:=Z S;obtain⟨w0,V,a1,v,q⟩:=h.pre 49 a d l n m p;obtain⟨am,ap⟩:=Q;obtain⟨X,I⟩:∃y,(K.F c).r a.toNat=y:=⟨_,rfl⟩;have D:=Z I;have B:=Z (F a.toNat (by omega));rw[I]at B;obtain⟨a9,ab⟩:=B.out;obtain⟨av,bi⟩:=hb;obtain⟨g,J⟩:∃y,(K.F c).r d.toNat=y:=⟨_,rfl⟩;have u:=Z J;have t:=Z (F d.toNat (by omega));rw[J]at t;obtain⟨ad,al⟩:=t.out;obtain⟨t0,t1,t2,t3,t4,t5,t6⟩:=q.1.c7;have x:=v.at_.aA r s a.toNat (by omega);rw[D]at x;have z:=v.at_.aA r s d.toNat (by omega);rw[u]at z;have E:Hid (bD C K i c ⟨49,a,d,l,n,m,p⟩=K.ax c a.toNat (ed K.table g)):=Z (by unfold bD;dsimp only;rw[if_neg (by decide),if_neg (by decide),if_neg (by decide),if_pos rfl,u,show IntKind.u64.wrap (ed K.table g)=ed K.table g from by have:=n7 K.table g;unfold IntKind.wrap IntKind.bits IntKind.signed;simp;omega]);go_in
 go_wp2
 try rw[V]
 go_quiet (fail)
 obtain⟨w1,G⟩:=nm (w0.drewN nq);have A:Hid (Ch ag w0 w1):=Z (by rw[<-G];exact ay);rw[G];have j:=Z (v.af A);have f:Hid (aj K c/\aR L Y c b o):=Z ⟨r,s⟩;have N:=Z ((Nx.af A).row q.1 q.2);obtain⟨t0,t1,t2,t3,t4,t5,t6⟩:=N.1.c7;have x:=j.at_.aA f.1 f.2 a.toNat (by omega);rw[show((K:KS).F c).r a.toNat=X from D.out]at x;have z:=j.at_.aA f.1 f.2 d.toNat (by omega);rw[show((K:KS).F c).r d.toNat=g from u.out]at z;have k1:=j.at_.ee;go_wp2_with fail
 refine(uk g t j.at_).mono ?_;rintro e w2 ⟨rfl,rfl⟩;have U:=n7 K.table g;obtain⟨a4,a5⟩:=U;have a3:=j.at_.hy f.1 f.2 (o+1+a.toNat);have P:=Z (j.at_.drew.a7 f.1 f.2 a.toNat (by omega) (ed K.table g));have M:Hid (Gr K _):=Z (Gr.refl K);go_wp2
 go_still_tail 6,(by kernel_rfl)
 change wpList _ _ _ _ _ w1.drew;go_wp2
 go_end0
 rw[E];obtain⟨a0,O,W⟩:=P.out;exact⟨rfl,a0,O,(j.af ay).trans M W⟩
theorem xX(i:Nat)(a5:i<K.wk.length)(c:cJ)(b o:Nat)(a3:aj K c)(a9:aR L Y c b o)(N:∀k,k<32->aK ((K.F c).r k))(a d p r q s:Int)(a2:0<=a/\a<32)(hb:0<=d/\d<32)(h:ae w χ L Y C K):
 Calls prog 168 #[(L.mb,0),(L.wb,i*38),(b,o),.agg #[.int .i64 50,a,d,p,.int .u64 r,q,s]] w (dk (.tuple #[]) χ L Y C K (bD C K i c ⟨50,a,d,p,r,q,s⟩) w):=by
 have H:=Z h;have v:=Z a3;have x:=Z a9;have bi:=Z a5;obtain⟨w0,ab,av,D,t⟩:=h.pre 50 a d p r q s;obtain⟨c2,c3⟩:=a2;obtain⟨S,Q⟩:∃y,(K.F c).r a.toNat=y:=⟨_,rfl⟩;have A:=Z Q;have M:=Z (N a.toNat (by omega));rw[Q]at M;obtain⟨bw,bx⟩:=M.out;obtain⟨c4,c5⟩:=hb;obtain⟨G,R⟩:∃y,(K.F c).r d.toNat=y:=⟨_,rfl⟩;have B:=Z R;have z:=Z (N d.toNat (by omega));rw[R]at z;obtain⟨c0,c1⟩:=z.out;obtain⟨t0,t1,t2,t3,t4,t5,t6⟩:=t.1.c7;have l:=D.at_.aA v x a.toNat (by omega);rw[A]at l;have F:=D.at_.aA v x d.toNat (by omega);rw[B]at F;obtain⟨am,O⟩:=nm (fx K.table G);have X:=Z O;have m:=Z (fun w h=>kW (K:=K) (w:=w) (χ:=χ) (L:=L) (Y:=Y) (C:=C) G z h);rw[O]at m;obtain⟨⟨c6,c7,T,c8,c9,cb,cd⟩,ce⟩:=am;unfold iD.val at m;dsimp only at m;have E:Hid (bD C K i c ⟨50,a,d,p,r,q,s⟩=K.ax c a.toNat T):=Z (by unfold bD;dsimp only;rw[if_neg (by decide),if_neg (by decide),if_neg (by decide),if_neg (by decide),if_pos rfl,B,X]);go_in
 go_wp2
 try rw[ab]
 go_quiet (fail)
 obtain⟨w1,P⟩:=nm (w0.drewN nq);have I:Hid (Ch ag w0 w1):=Z (by rw[<-P];exact ay);rw[P];have g:=Z (D.af I);have j:Hid (aj K c/\aR L Y c b o):=Z ⟨v,x⟩;have u:=Z ((Nx.af I).row t.1 t.2);obtain⟨t0,t1,t2,t3,t4,t5,t6⟩:=u.1.c7;have l:=g.at_.aA j.1 j.2 a.toNat (by omega);rw[show((K:KS).F c).r a.toNat=S from A.out]at l;have F:=g.at_.aA j.1 j.2 d.toNat (by omega);rw[show((K:KS).F c).r d.toNat=G from B.out]at F;have k1:=g.at_.ee;go_wp2_with fail
 refine(m _ g.at_).mono ?_;rintro e w2 ⟨rfl,a4⟩;have W:=Z a4;go_upto_region 23 with fail
 generalize ad:w2.alloc _=w3;have J:Hid (Ch ag w1 w3):=Z (by rw[<-ad];exact W.alloc _);have n:=Z (g.af J);have V:=Z ((Nx.af J).row u.1 u.2);have f:=j;obtain⟨t0,t1,t2,t3,t4,t5,t6⟩:=V.1.c7;have l:=n.at_.aA f.1 f.2 a.toNat (by omega);rw[show((K:KS).F c).r a.toNat=S from A.out]at l;have bv:=n.at_.hy f.1 f.2 (o+1+a.toNat);have a1:=Z (n.at_.drew.a7 f.1 f.2 a.toNat (by omega) T);have U:Hid (Gr K _):=Z (Gr.refl K);go_wp2
 go_still_tail 6,(by kernel_rfl)
 change wpList _ _ _ _ _ w3.drew;go_wp2
 go_end0
 rw[E];obtain⟨ap,a0,al⟩:=a1.out;exact⟨rfl,ap,a0,(n.af ay).trans U al⟩
theorem xY(i:Nat)(bx:i<K.wk.length)(c:cJ)(b o:Nat)(bw:aj K c)(c0:aR L Y c b o)(a5:∀k,k<32->aK ((K.F c).r k))(a d J N M O:Int)(bi:0<=a/\a<32)(hb:0<=d/\d<32)(bv:K.blocks.Ok)(h:ae w χ L Y C K):
 Calls prog 168 #[(L.mb,0),(L.wb,i*38),(b,o),.agg #[.int .i64 54,a,d,J,.int .u64 N,M,O]] w (dk (.tuple #[]) χ L Y C K (bD C K i c ⟨54,a,d,J,N,M,O⟩) w):=by
 have H:=Z h;have p:=Z bw;have q:=Z c0;have c6:=Z bx;obtain⟨w0,ab,c5,Q,u⟩:=h.pre 54 a d J N M O;obtain⟨ce,cf⟩:=bi;obtain⟨R,ad⟩:∃y,(K.F c).r a.toNat=y:=⟨_,rfl⟩;have A:=Z ad;have a3:=Z (a5 a.toNat (by omega));rw[ad]at a3;obtain⟨c8,c9⟩:=a3.out;obtain⟨ch,ci⟩:=hb;obtain⟨r,al⟩:∃y,(K.F c).r d.toNat=y:=⟨_,rfl⟩;have B:=Z al;have P:=Z (a5 d.toNat (by omega));rw[al]at P;obtain⟨cb,cd⟩:=P.out;obtain⟨t0,t1,t2,t3,t4,t5,t6⟩:=u.1.c7;have j:=Q.at_.aA p q a.toNat (by omega);rw[A]at j;have I:=Q.at_.aA p q d.toNat (by omega);rw[B]at I;obtain⟨c2,a9⟩:=nm (fy K.table r);have a2:=Z a9;have U:=Z (fun w h=>zU (K:=K) (w:=w) (χ:=χ) (L:=L) (Y:=Y) (C:=C) r P h);rw[a9]at U;obtain⟨ck,S,a0,c3,t⟩:=c2;cases c3
 ·have E:Hid (bD C K i c ⟨54,a,d,J,N,M,O⟩=({K with table:=t}:KS).ax c a.toNat S):=Z (by unfold bD;dsimp only;rw[if_neg (by decide),if_neg (by decide),if_pos rfl,B,a2];rfl)
  go_in
  go_wp2
  try rw[ab]
  go_quiet (fail)
  obtain⟨w1,G⟩:=nm (w0.drewN nq);have z:Hid (Ch ag w0 w1):=Z (by rw[<-G];exact ay);rw[G];have f:=Z (Q.af z);have l:Hid (aj K c/\aR L Y c b o):=Z ⟨p,q⟩;have n:=Z ((Nx.af z).row u.1 u.2);obtain⟨t0,t1,t2,t3,t4,t5,t6⟩:=n.1.c7;have j:=f.at_.aA l.1 l.2 a.toNat (by omega);rw[show((K:KS).F c).r a.toNat=R from A.out]at j;have I:=f.at_.aA l.1 l.2 d.toNat (by omega);rw[show((K:KS).F c).r d.toNat=r from B.out]at I;have k1:=f.at_.ee;go_wp2_with fail
  refine(U _ f.at_).mono ?_;rintro e w2 ⟨⟨v,rfl,c1⟩,c4,ap,F⟩;have g:=Z (f.trans (Gr.refl _) F);have x:=Z (F.nx.row n.1 n.2);have m:=Z (g.cur p q (Gr.of_eq rfl) (rfl));obtain⟨t0,t1,t2,t3,t4,t5,t6⟩:=x.1.c7;have j:=g.at_.aA m.1 m.2 a.toNat (by omega);rw[show(({K with table:=t}:KS).F c).r a.toNat=R from A.out]at j;have av:=g.at_.hy m.1 m.2 (o+1+a.toNat);have W:=Z (g.at_.drew.a7 m.1 m.2 a.toNat (by omega) S);have T:Hid (Gr K _):=Z (Gr.of_eq rfl);go_wp2
  go_still_tail 6,(by kernel_rfl)
  change wpList _ _ _ _ _ w2.drew;go_wp2
  go_end0
  rw[E];obtain⟨a1,V,X⟩:=W.out;exact⟨rfl,a1,V,(g.af ay).trans T X⟩
 ·have E:Hid (bD C K i c ⟨54,a,d,J,N,M,O⟩=(eo {K with table:=t} r a0).ax c a.toNat S):=Z (by unfold bD;dsimp only;rw[if_neg (by decide),if_neg (by decide),if_pos rfl,B,a2];rfl)
  go_in
  go_wp2
  try rw[ab]
  go_quiet (fail)
  obtain⟨w1,G⟩:=nm (w0.drewN nq);have z:Hid (Ch ag w0 w1):=Z (by rw[<-G];exact ay);rw[G];have f:=Z (Q.af z);have l:Hid (aj K c/\aR L Y c b o):=Z ⟨p,q⟩;have n:=Z ((Nx.af z).row u.1 u.2);obtain⟨t0,t1,t2,t3,t4,t5,t6⟩:=n.1.c7;have j:=f.at_.aA l.1 l.2 a.toNat (by omega);rw[show((K:KS).F c).r a.toNat=R from A.out]at j;have I:=f.at_.aA l.1 l.2 d.toNat (by omega);rw[show((K:KS).F c).r d.toNat=r from B.out]at I;have k1:=f.at_.ee;go_wp2_with fail
  refine(U _ f.at_).mono ?_;rintro e w2 ⟨⟨v,rfl,c1⟩,c4,ap,F⟩;have g:=Z (f.trans (Gr.refl _) F);have x:=Z (F.nx.row n.1 n.2);have m:=Z (g.cur p q (Gr.of_eq rfl) (rfl));obtain⟨t0,t1,t2,t3,t4,t5,t6⟩:=x.1.c7;have j:=g.at_.aA m.1 m.2 a.toNat (by omega);rw[show(({K with table:=t}:KS).F c).r a.toNat=R from A.out]at j;go_wp2_with fail
  refine(lV (K:={K with table:=t}) r a0 P (by exact bv) g.at_).mono ?_;rintro e w3 ⟨rfl,cl,c7,a4⟩;have D:=Z (g.trans (Gr.of_eq rfl) a4);have am:=Z (a4.nx.row x.1 x.2);have s:=Z (D.cur p q (Gr.of_eq (hg _ _ _)) (by rw[kZ]));obtain⟨t0,t1,t2,t3,t4,t5,t6⟩:=am.1.c7;have j:=D.at_.aA s.1 s.2 a.toNat (by omega);have av:=D.at_.hy s.1 s.2 (o+1+a.toNat);have W:=Z (D.at_.drew.a7 s.1 s.2 a.toNat (by omega) S);have T:Hid (Gr K _):=Z (Gr.of_eq (hg {K with table:=t} r a0));go_wp2
  go_still_tail 6,(by kernel_rfl)
  change wpList _ _ _ _ _ w3.drew;go_wp2
  go_end0
  rw[E];obtain⟨a1,V,X⟩:=W.out;exact⟨rfl,a1,V,(D.af ay).trans T X⟩
theorem xZ(i:Nat)(cm:i<K.wk.length)(c:cJ)(b o:Nat)(cl:aj K c)(cq:aR L Y c b o)(c6:∀k,k<32->aK ((K.F c).r k))(a g a3 a5 a4 a9:Int)(ci:0<=a/\a<32)(hb:0<=g/\g<32)(ck:K.blocks.Ok)(h:ae w χ L Y C K):
 Calls prog 168 #[(L.mb,0),(L.wb,i*38),(b,o),.agg #[.int .i64 52,a,g,a3,.int .u64 a5,a4,a9]] w (dk (.tuple #[]) χ L Y C K (bD C K i c ⟨52,a,g,a3,a5,a4,a9⟩) w):=by
 have H:=Z h;have F:=Z cl;have G:=Z cq;have cS:=Z cm;obtain⟨w0,c8,cQ,ab,N⟩:=h.pre 52 a g a3 a5 a4 a9;obtain⟨en,es⟩:=ci;obtain⟨d,c9⟩:∃y,(K.F c).r a.toNat=y:=⟨_,rfl⟩;have p:=Z c9;have T:=Z (c6 a.toNat (by omega));rw[c9]at T;obtain⟨dr,dC⟩:=T.out;obtain⟨et,ex⟩:=hb;obtain⟨cd,cb⟩:∃y,(K.F c).r g.toNat=y:=⟨_,rfl⟩;have am:=Z cb;have c2:=Z (c6 g.toNat (by omega));rw[cb]at c2;obtain⟨dN,ec⟩:=c2.out;obtain⟨t0,t1,t2,t3,t4,t5,t6⟩:=N.1.c7;have f:=ab.at_.aA F G a.toNat (by omega);rw[p]at f;have a2:=ab.at_.aA F G g.toNat (by omega);rw[am]at a2;obtain⟨cA,c7⟩:=nm (fx K.table d);have c1:=Z c7;have S:=Z (fun w h=>kW (K:=K) (w:=w) (χ:=χ) (L:=L) (Y:=Y) (C:=C) d T h);rw[c7]at S;obtain⟨⟨s,t,m,u,x,z,A⟩,eL⟩:=cA;unfold iD.val at S;dsimp only at S;obtain⟨cs,c5⟩:=nm (e8 K.table d);have c0:=Z c5;have al:=Z (fun w h=>xA (K:=K) (w:=w) (χ:=χ) (L:=L) (Y:=Y) (C:=C) d T h);rw[c5]at al;obtain⟨ok,M⟩:=cs;cases ok
 ·have E:Hid (bD C K i c ⟨52,a,g,a3,a5,a4,a9⟩=({K with table:=M}:KS).ax c a.toNat d):=Z (by unfold bD;dsimp only;rw[if_neg (by decide),if_pos rfl,p,c1,c0];rfl)
  go_in
  go_wp2
  try rw[c8]
  go_quiet (fail)
  obtain⟨w1,a0⟩:=nm (w0.drewN nq);have P:Hid (Ch ag w0 w1):=Z (by rw[<-a0];exact ay);rw[a0];have j:=Z (ab.af P);have l:Hid (aj K c/\aR L Y c b o):=Z ⟨F,G⟩;have B:=Z ((Nx.af P).row N.1 N.2);obtain⟨t0,t1,t2,t3,t4,t5,t6⟩:=B.1.c7;have f:=j.at_.aA l.1 l.2 a.toNat (by omega);rw[show((K:KS).F c).r a.toNat=d from p.out]at f;have a2:=j.at_.aA l.1 l.2 g.toNat (by omega);rw[show((K:KS).F c).r g.toNat=cd from am.out]at a2;have k1:=j.at_.ee;go_wp2_with fail
  refine(S _ j.at_).mono ?_;rintro e w2 ⟨rfl,bi⟩;have Q:=Z bi;go_upto_region 11 with fail
  have U:Hid (Row (w2.alloc (.cells #[.int .u64 s,t,.int .u64 m,.int .u64 u,.int .u64 x,.bool z,.bool A] 48)) w2.heap.size 48 [.int .u64 s,t,.int .u64 m,.int .u64 u,.int .u64 x,.bool z,.bool A]):=Z (Row.new w2 _ _);obtain⟨w3,a1⟩:=nm (w2.alloc (.cells #[.int .u64 s,t,.int .u64 m,.int .u64 u,.int .u64 x,.bool z,.bool A] 48));rw[a1]at U⊢;have R:Hid (Ch ag w1 w3):=Z (by rw[<-a1];exact Q.alloc _);have q:=Z (j.af R);have D:=Z ((Nx.af R).row B.1 B.2);have X:=l;have V:Hid (Row w3 w2.heap.size 48 [.int .u64 s,t,.int .u64 m,.int .u64 u,.int .u64 x,.bool z,.bool A]/\χ w2.heap.size=.no):=Z ⟨U,j.at_.fresh Q.size⟩;obtain⟨t0,t1,t2,t3,t4,t5,t6⟩:=D.1.c7;have f:=q.at_.aA X.1 X.2 a.toNat (by omega);rw[show((K:KS).F c).r a.toNat=d from p.out]at f;have k1:=q.at_.ee;go_wp2_with fail
  refine(al _ q.at_).mono ?_;rintro e w4 ⟨⟨v,rfl,bv⟩,cL,cf,I⟩;obtain⟨tt,eA,rfl⟩:=bv;have c3:=Z (I.nx.row V.1 V.2);have n:=Z (q.trans (Gr.refl _) I);have O:=Z (I.nx.row D.1 D.2);have r:=Z (n.cur F G (Gr.of_eq rfl) (rfl));obtain⟨t0,t1,t2,t3,t4,t5,t6⟩:=O.1.c7;have f:=n.at_.aA r.1 r.2 a.toNat (by omega);rw[show(({K with table:=M}:KS).F c).r a.toNat=d from p.out]at f;have ch:=n.at_.hy r.1 r.2 (o+1+a.toNat);have av:=Z (n.at_.drew.a7 r.1 r.2 a.toNat (by omega) d);have ad:Hid (Gr K _):=Z (Gr.of_eq rfl);go_wp2
  go_still_tail 6,(by kernel_rfl)
  change wpList _ _ _ _ _ w4.drew;go_wp2
  go_end0
  rw[E];obtain⟨bx,ap,bw⟩:=av.out;exact⟨rfl,bx,ap,(n.af ay).trans ad bw⟩
 ·have E:Hid (bD C K i c ⟨52,a,g,a3,a5,a4,a9⟩=(eo {K with table:=M} d m).ax c a.toNat d):=Z (by unfold bD;dsimp only;rw[if_neg (by decide),if_pos rfl,p,c1,c0];rfl)
  go_in
  go_wp2
  try rw[c8]
  go_quiet (fail)
  obtain⟨w1,a0⟩:=nm (w0.drewN nq);have P:Hid (Ch ag w0 w1):=Z (by rw[<-a0];exact ay);rw[a0];have j:=Z (ab.af P);have l:Hid (aj K c/\aR L Y c b o):=Z ⟨F,G⟩;have B:=Z ((Nx.af P).row N.1 N.2);obtain⟨t0,t1,t2,t3,t4,t5,t6⟩:=B.1.c7;have f:=j.at_.aA l.1 l.2 a.toNat (by omega);rw[show((K:KS).F c).r a.toNat=d from p.out]at f;have a2:=j.at_.aA l.1 l.2 g.toNat (by omega);rw[show((K:KS).F c).r g.toNat=cd from am.out]at a2;have k1:=j.at_.ee;go_wp2_with fail
  refine(S _ j.at_).mono ?_;rintro e w2 ⟨rfl,bi⟩;have Q:=Z bi;go_upto_region 11 with fail
  have U:Hid (Row (w2.alloc (.cells #[.int .u64 s,t,.int .u64 m,.int .u64 u,.int .u64 x,.bool z,.bool A] 48)) w2.heap.size 48 [.int .u64 s,t,.int .u64 m,.int .u64 u,.int .u64 x,.bool z,.bool A]):=Z (Row.new w2 _ _);obtain⟨w3,a1⟩:=nm (w2.alloc (.cells #[.int .u64 s,t,.int .u64 m,.int .u64 u,.int .u64 x,.bool z,.bool A] 48));rw[a1]at U⊢;have R:Hid (Ch ag w1 w3):=Z (by rw[<-a1];exact Q.alloc _);have q:=Z (j.af R);have D:=Z ((Nx.af R).row B.1 B.2);have X:=l;have V:Hid (Row w3 w2.heap.size 48 [.int .u64 s,t,.int .u64 m,.int .u64 u,.int .u64 x,.bool z,.bool A]/\χ w2.heap.size=.no):=Z ⟨U,j.at_.fresh Q.size⟩;obtain⟨t0,t1,t2,t3,t4,t5,t6⟩:=D.1.c7;have f:=q.at_.aA X.1 X.2 a.toNat (by omega);rw[show((K:KS).F c).r a.toNat=d from p.out]at f;have k1:=q.at_.ee;go_wp2_with fail
  refine(al _ q.at_).mono ?_;rintro e w4 ⟨⟨v,rfl,bv⟩,cL,cf,I⟩;obtain rfl:v=.nilIface:=bv;have c3:=Z (I.nx.row V.1 V.2);have n:=Z (q.trans (Gr.refl _) I);have O:=Z (I.nx.row D.1 D.2);have r:=Z (n.cur F G (Gr.of_eq rfl) (rfl));obtain⟨t0,t1,t2,t3,t4,t5,t6⟩:=O.1.c7;have f:=n.at_.aA r.1 r.2 a.toNat (by omega);rw[show(({K with table:=M}:KS).F c).r a.toNat=d from p.out]at f;have eC:=c3.1.k 2 rfl;go_wp2_with fail
  refine(lV (K:={K with table:=M}) d m T (by exact ck) n.at_).mono ?_;rintro e cC ⟨rfl,eS,cW,c4⟩;have W:=Z (n.trans (Gr.of_eq rfl) c4);have ce:=Z (c4.nx.row O.1 O.2);have J:=Z (W.cur F G (Gr.of_eq (hg _ _ _)) (by rw[kZ]));obtain⟨t0,t1,t2,t3,t4,t5,t6⟩:=ce.1.c7;have f:=W.at_.aA J.1 J.2 a.toNat (by omega);have ch:=W.at_.hy J.1 J.2 (o+1+a.toNat);have av:=Z (W.at_.drew.a7 J.1 J.2 a.toNat (by omega) d);have ad:Hid (Gr K _):=Z (Gr.of_eq (hg {K with table:=M} d m));go_wp2
  go_still_tail 6,(by kernel_rfl)
  change wpList _ _ _ _ _ cC.drew;go_wp2
  go_end0
  rw[E];obtain⟨bx,ap,bw⟩:=av.out;exact⟨rfl,bx,ap,(W.af ay).trans ad bw⟩
variable{x:Int}
theorem ya(a:0<=x)(b:x<=100):wrap64 x=x:=by unfold wrap64;omega
def nh(v:Int)(w:World)(e:Ending)(w':World):Prop:=e=.returned (.int .u64 v)/\Ch ag w w'
theorem Ah{n:Nat}(d:1<=n)(e:n<=64)(c:0<=x):∃m,x%(n:Int)=m/\0<=m/\m<=100/\wrap64 (x%(n:Int))=m/\x.tmod (n:Int)=m:=by
 have a:=Int.emod_nonneg x (b:=(n:Int)) (by omega);have b:=Int.emod_lt_of_pos x (b:=(n:Int)) (by omega);exact⟨_,rfl,a,by omega,ya a (by omega),Int.tmod_eq_emod_of_nonneg c⟩
theorem Ai(i:Nat)(O:i<K.wk.length)(id:Int)(c:cJ)(b o:Nat)(M:aj K c)(R:aR L Y c b o)(T:∀k,k<32->aK ((K.F c).r k))(n j d l r q s:Int)(t:n=23∨n=41∨n=37∨n=40∨n=42∨n=29∨n=38∨n=39∨n=47)(hb:0<=d/\d<32)(V:0<=K.w/\K.w<K.wk.length)(ad:C.bs.length<=2048)(h:ae w χ L Y C K):
 Calls prog 170 #[(L.mb,0),(L.wb,i*38),.int .u64 id,(b,o),aL ⟨n,j,d,l,r,q,s⟩] w (nh (ik C K i id c ⟨n,j,d,l,r,q,s⟩) w):=by
 unfold aL aD;dsimp only;obtain⟨w0,W,E,G,D⟩:=h.sh n j d l r q s;have a:Hid (ae w0 χ L Y C K):=Z G.at_;obtain⟨t0,t1,t2,t3,t4,t5,t6⟩:=D.c7;obtain⟨c8,c9⟩:=hb;have a5:=a.aA M R d.toNat (by omega);obtain⟨f,u⟩:∃y,(K.F c).r d.toNat=y:=⟨_,rfl⟩;have a9:=Z u;have B:=T d.toNat (by omega);rw[u]at a5 B;obtain⟨U,c3⟩:=B;obtain⟨X,c4⟩:=V;have c1:=(a.wk (by simp)).n;have a1:IntKind.u64.wrap (K.wk.length:Int)=K.wk.length:=by unfold IntKind.wrap IntKind.bits IntKind.signed;simp;omega
 have a0:IntKind.u64.wrap K.w=K.w:=by unfold IntKind.wrap IntKind.bits IntKind.signed;simp;omega
 have k1:=a.j2;have k2:=a.qH;have k3:=a.Dv;have c5:=a.fD O;have c6:=a.GC;have a2:=a.c3;obtain⟨a3,bw,av,bi,Q,bv⟩:=Ah (x:=K.w) (n:=K.wk.length) (by omega) (by omega) X;obtain⟨a4,bx,al,am,N,ap⟩:=Ah (x:=f) (n:=K.wk.length) (by omega) (by omega) U;have F:=Z (fun(m:Int) (h:0<=m/\m<=100) p w=>lS m h.1 h.2 p w);obtain⟨I,J⟩:=lD f 8 (by omega);obtain⟨g,A⟩:=nm (bg f ((8:Nat):Int));have v:=Z (nv f 8 (by omega) (by omega));rw[A]at v I J;have ab:g<8:=by omega
 have z:Hid (∀n,n=23∨n=41∨n=37∨n=40∨n=42∨n=29∨n=38∨n=39∨n=47->ik C K i id c ⟨n,j,d,l,r,q,s⟩=if n=23 then 1+2*g else if n=41 then K.clock.now else if n=37 then id else if n=40 then(K.wk.length:Int)else if n=42 then K.draw else if n=29 then(K.W i).hand else if n=38 then gv a3 else if n=39 then gv a4 else if f<C.bs.length then 1 else 0):=Z (by
  have H:IntKind.u64.wrap (1+2*bg f 8)=1+2*g:=by rw[show bg f 8=g from A];unfold IntKind.wrap IntKind.bits IntKind.signed;simp;omega
  intro n t;rcases t with rfl|rfl|rfl|rfl|rfl|rfl|rfl|rfl|rfl<;>simp[ik,u,a1,a0,H,Q,N])
 have c2:(K.wk.length:Int)<=64:=by omega
 have c0:(1:Int)<=K.wk.length:=by omega
 have P:(C.bs.length:Int)<=2048:=by omega
 obtain⟨c7,S⟩:∃n,C.bs.length=n:=⟨_,rfl⟩;rw[S]at a2 P z;rcases t with rfl|rfl|rfl|rfl|rfl|rfl|rfl|rfl|rfl
 all_goals
  go_in
  go_wp2
  try rw[W]
  go_quiet (fail)
  go_wp2_with (first|(go_at_call 141;refine(v _).mono ?_;rintro e w' ⟨rfl,rfl⟩)|(go_at_call 84;refine(FO (a.drewN _)).mono ?_;rintro e w' ⟨rfl,rfl⟩)|(go_at_call 50;refine(F _ (by exact⟨by assumption,by assumption⟩) _ _).mono ?_;rintro e w' ⟨rfl,rfl⟩)|fail)
  all_goals
   go_ret;rw[z.out]
   ·refine⟨?_,E.drewN _⟩
    first|rfl|(simp;done)|(simp;omega)
   ·decide
theorem yb(i:Nat)(c:cJ)(b o:Nat)(v:aj K c)(x:aR L Y c b o)(n a d f j g k:Int)(B:0<=a/\a<32)(F:n=23∨n=41∨n=37∨n=40∨n=42∨n=29∨n=38∨n=39∨n=47)
 (H:∀w,ae w χ L Y C K->Calls prog 170 #[(L.mb,0),(L.wb,i*38),.int .u64 0,(b,o),aL ⟨n,a,d,f,j,g,k⟩] w (nh (ik C K i 0 c ⟨n,a,d,f,j,g,k⟩) w)) (h:ae w χ L Y C K):
 Calls prog 133 #[(L.mb,0),(L.wb,i*38),.pointer none,(b,o),aL ⟨n,a,d,f,j,g,k⟩] w (dO (az C K i none c ⟨n,a,d,f,j,g,k⟩) χ L Y C K w):=by
 have l:=Z H;have q:=Z v;have r:=Z x;unfold aL aD at l⊢;dsimp only at l⊢;obtain⟨w0,J,P,u,p⟩:=h.pre n a d f j g k;obtain⟨t0,t1,t2,t3,t4,t5,t6⟩:=p.1.c7;have E:Hid (az C K i none c ⟨n,a,d,f,j,g,k⟩=(0,K.ax c a.toNat (ik C K i 0 c ⟨n,a,d,f,j,g,k⟩))):=Z (by
  unfold az;dsimp only;rw[if_neg (by omega),if_neg (by omega),if_neg (by omega),if_neg (by omega),if_neg (by omega),if_neg (by omega),if_neg (by omega),if_neg (by omega)];rfl)
 obtain⟨N,I⟩:=nm (ik C K i 0 c ⟨n,a,d,f,j,g,k⟩);rw[I]at E l;obtain⟨U,V⟩:=B;have G:b≠w.heap.size:=Nat.ne_of_lt (aQ (h.aA v x a.toNat (by omega)));have S:=G.symm;rcases F with rfl|rfl|rfl|rfl|rfl|rfl|rfl|rfl|rfl
 all_goals
  go_in
  go_wp2
  try rw[J]
  go_region_held3 (p.1.c7) (go_keep) ((go_at_call 170;refine(l _ u.at_.drew).mono ?_;rintro e w1 ⟨rfl,D⟩;have t:Hid (Ch ag w0 w1):=Z (Ch.trans ay D);have m:=Z (u.af t);have y:=Z (p.1.ch t id);(try clear Q);obtain⟨t0,t1,t2,t3,t4,t5,t6⟩:=y.c7;have T:=m.at_.aA q r a.toNat (by omega);have R:=m.at_.hy q r (o+1+a.toNat);have A:=Z (m.at_.a7 q r a.toNat (by omega) N)))
 all_goals
  go_wp2
  go_ret;rw[E];obtain⟨O,z,M⟩:=A.out;have s:=m.trans (Gr.refl _) M;exact⟨rfl,O,z,s.at_,s.nx,fun _=>s.yk⟩
theorem yc(id:Int)(t:Thread)(M:aw K.ai id=some t)(hid:t.id=id)(i:Nat)(c:cJ)(b o:Nat)(y:aj K c)(z:aR L Y c b o)(n a d f j g k:Int)(F:0<=a/\a<32)(H:n=23∨n=41∨n=37∨n=40∨n=42∨n=29∨n=38∨n=39∨n=47)
 (J:∀w,ae w χ L Y C K->Calls prog 170 #[(L.mb,0),(L.wb,i*38),.int .u64 id,(b,o),aL ⟨n,a,d,f,j,g,k⟩] w (nh (ik C K i id c ⟨n,a,d,f,j,g,k⟩) w)) (h:ae w χ L Y C K):
 Calls prog 133 #[(L.mb,0),(L.wb,i*38),(Y.bI id,0),(b,o),aL ⟨n,a,d,f,j,g,k⟩] w (dO (az C K i (some id) c ⟨n,a,d,f,j,g,k⟩) χ L Y C K w):=by
 have l:=Z J;have q:=Z y;have r:=Z z;unfold aL aD at l⊢;dsimp only at l⊢;obtain⟨w0,P,T,s,p⟩:=h.pre n a d f j g k;obtain⟨t0,t1,t2,t3,t4,t5,t6⟩:=p.1.c7;have E:Hid (az C K i (some id) c ⟨n,a,d,f,j,g,k⟩=(0,K.ax c a.toNat (ik C K i id c ⟨n,a,d,f,j,g,k⟩))):=Z (by
  unfold az;dsimp only;rw[if_neg (by omega),if_neg (by omega),if_neg (by omega),if_neg (by omega),if_neg (by omega),if_neg (by omega),if_neg (by omega),if_neg (by omega)];rfl)
 obtain⟨R,O⟩:=nm (ik C K i id c ⟨n,a,d,f,j,g,k⟩);rw[O]at E l;obtain⟨X,a0⟩:=F;have I:b≠w.heap.size:=Nat.ne_of_lt (aQ (h.aA y z a.toNat (by omega)));have V:=I.symm;have v:=s.at_.gw M;rw[hid]at v;obtain⟨tb,N⟩:=nm (Y.bI id);rw[N]at v⊢;rcases H with rfl|rfl|rfl|rfl|rfl|rfl|rfl|rfl|rfl
 all_goals
  go_in
  go_wp2
  try rw[P]
  go_region_held3 (p.1.c7) (go_keep) ((go_at_call 170;refine(l _ s.at_.drew).mono ?_;rintro e w1 ⟨rfl,G⟩;have x:Hid (Ch ag w0 w1):=Z (Ch.trans ay G);have m:=Z (s.af x);have A:=Z (p.1.ch x (fun h=>h));(try clear v);obtain⟨t0,t1,t2,t3,t4,t5,t6⟩:=A.c7;have W:=m.at_.aA q r a.toNat (by omega);have U:=m.at_.hy q r (o+1+a.toNat);have D:=Z (m.at_.a7 q r a.toNat (by omega) R)))
 all_goals
  go_wp2
  go_ret;rw[E];obtain⟨S,B,Q⟩:=D.out;have u:=m.trans (Gr.refl _) Q;exact⟨rfl,S,B,u.at_,u.nx,fun _=>u.yk⟩
variable{n:Int}{k:Nat}{r:Bool}
theorem uQ(N:Nat)(a:Option Addr)(c:Nat)(cg:Bool)(d:2048<N)(w:World):
 Calls prog 145 #[.slice a N c,.bool cg] w (fun e w'=>∃t x,e=.returned (.iface 247 (.pointer (some (w.heap.size,0))))/\w.alloc (.cells #[.string ⟨#[99,111,100,101]⟩,.int .i64 0,.iface t x] 249)=w'):=by
 have b:(2048:Int)<(N:Int):=by omega
 go_in
 go_wp2_with (go_at_call 101;refine(bo _ _ _ _).mono ?_;rintro e w' ⟨rfl,rfl⟩)
 go_ret;exact⟨_,_,rfl,rfl⟩
theorem q7(N:Nat)(a:Option Addr)(c:Nat)(cg:Bool)(y:2048<N)(w:World)
 (v:w.cell? (0,0)=some (.iface 390 (.agg #[(4,85)]))):
 Calls prog 102 #[.slice a N c,.bool cg] w (tc false w):=by
 obtain⟨w1,s⟩:=nm (w.alloc (.cells #[.pointer none] 247));have d:=Z (Ch.al (D:=ag) s);have g:=Z (Row.al s);have l:Hid (w1.cell? (0,0)=some (.iface 390 (.agg #[(4,85)]))):=Z (d.k v);have u:=Z (uQ N a c cg y w1);go_in
 go_wp2_with (first|(go_at_call 145;refine u.mono ?_;rintro e w2 ⟨t,x,rfl,z⟩;have m:=Z z))
 have b:Hid (Ch ag w1 w2):=Z (by rw[<-m];exact ay);have h:Hid (Row w2 w1.heap.size 249 [.string ⟨#[99,111,100,101]⟩,.int .i64 0,.iface t x]):=Z (by rw[<-m];exact Row.new w1 _ _);refine(wz ⟨w1.heap.size,0,none⟩ w.heap.size (.pointer none) w2 ((b.cell (aQ l) id).trans l) ((g.ch b id).cell (i:=0) rfl) ((g.ch b id).free 0)).mono ?_;rintro e w3 ⟨rfl,B,o⟩;have f:=Z o;have C:w.heap.size<w1.heap.size:=g.lt;have A:w3.cell? (w1.heap.size,1)=some (.int .i64 0):=(o.cell (p:=⟨w1.heap.size,1,none⟩) h.lt (fun e=>by have:w1.heap.size=w.heap.size:=e;omega)).trans (h.cell (i:=1) rfl);go_wp2_with (go_at_call 101;refine(bo _ _ _ _).mono ?_;rintro e w' ⟨rfl,rfl⟩)
 go_ret;refine⟨⟨_,rfl,ar.mk _ _⟩,Ch.alloc ?_ _⟩;exact⟨f.os.trans (d.trans b).os,f.tape.trans (d.trans b).tape,f.out.output.trans (d.trans b).output,Nat.le_trans (d.trans b).size f.size,fun j q hd=>(f.same j (Nat.lt_of_lt_of_le q (d.trans b).size) (fun e=>by have:j=w.heap.size:=e;omega)).trans ((d.trans b).same j q hd)⟩
theorem Ch.fresh{D:Nat->Prop}{w a b:World}(c:Ch ag w a)(d:Ch D a b)(f:∀i,i<w.heap.size->¬D i):Ch ag w b:=
 ⟨d.os.trans c.os,d.tape.trans c.tape,d.output.trans c.output,Nat.le_trans c.size d.size,fun j e hd=>(d.same j (Nat.lt_of_lt_of_le e c.size) (f j e)).trans (c.same j e hd)⟩
def jw(l:List be)(cg:Bool):Bool:=decide (l.length<=2048)&&(gQ l.length cg l 0).isNone
theorem lh(l:List be)(a:Option Addr)(c:Nat)(cg:Bool)(e:l.length<=c)(w:World)(f:l≠[]->∃g,a=some ⟨g,0,none⟩/\fN w g l)
 (d:w.cell? (0,0)=some (.iface 390 (.agg #[(4,85)]))):
 Calls prog 102 #[.slice a l.length c,.bool cg] w (tc (jw l cg) w):=by
 unfold jw;by_cases b:l.length<=2048
 ·rw[decide_eq_true b,Bool.true_and];exact td l a c cg b e w f d
 ·rw[decide_eq_false b,Bool.false_and];exact q7 _ a c cg (by omega) w d
def jg(k:Int):Bool:=decide (0<=k/\k<=7)
def gC(n:Int)(s:List Bool)(r:bB):Bool:=(decide (1<=r.num/\r.num<=999)&& !(s.getD r.num.toNat false)&&decide (0<=r.at_/\r.at_<n))&&(jg r.k0&&jg r.k1&&jg r.k2&&jg r.k3)
def jx(n:Int):List bB->List Bool->Bool
 |[],_=>true
 |r::l,s=>gC n s r&&jx n l (s.set r.num.toNat true)
def fG(l:List be)(loop:Int)(calls:List bB):Bool:=decide (l.length≠0)&&jw l true&&decide (0<=loop/\loop<l.length)&&jx l.length calls (List.replicate 1000 false)
def fH(n:Int)(calls:List bB)(k:Nat)(s:List Bool)(r:Bool):Prop:=s.length=1000/\jx n (calls.drop k) s=r
theorem fH.next{calls:List bB}{s:List Bool}{X:bB}(h:fH n calls k s r)(a:calls[k]?=some X)(d:gC n s X=true):fH n calls (k+1) (s.set X.num.toNat true) r:=by
 refine⟨by simpa using h.1,?_⟩;obtain⟨c,b⟩:=List.getElem?_eq_some_iff.1 a;rw[<-h.2,List.drop_eq_getElem_cons c,b,jx,d,Bool.true_and]
theorem fH.bad{calls:List bB}{s:List Bool}{X:bB}(h:fH n calls k s r)(a:calls[k]?=some X)(d:gC n s X=false):r=false:=by
 obtain⟨c,b⟩:=List.getElem?_eq_some_iff.1 a;rw[<-h.2,List.drop_eq_getElem_cons c,b,jx,d,Bool.false_and]
theorem fH.all{calls:List bB}{s:List Bool}(h:fH n calls k s r)(a:calls.length<=k):r=true:=by
 rw[<-h.2,List.drop_eq_nil_of_le a];rfl
theorem G9(a b c d:Int):([a,b,c,d].drop 0).all jg=(jg a&&([a,b,c,d].drop 1).all jg):=rfl
theorem G'(a b c d:Int):([a,b,c,d].drop 1).all jg=(jg b&&([a,b,c,d].drop 2).all jg):=rfl
theorem Ha(a b c d:Int):([a,b,c,d].drop 2).all jg=(jg c&&([a,b,c,d].drop 3).all jg):=rfl
theorem Hb(a b c d:Int):([a,b,c,d].drop 3).all jg=(jg d&&([a,b,c,d].drop 4).all jg):=rfl
theorem EM(a b c d:Int)(W:World):(Instr.index 156 (.agg #[a,b,c,d]) (.int .i64 0)).run prog W=.ok (.int .i64 a) W:=by kernel_rfl
theorem EN(a b c d:Int)(W:World):(Instr.index 156 (.agg #[a,b,c,d]) (.int .i64 1)).run prog W=.ok (.int .i64 b) W:=by kernel_rfl
theorem EO(a b c d:Int)(W:World):(Instr.index 156 (.agg #[a,b,c,d]) (.int .i64 2)).run prog W=.ok (.int .i64 c) W:=by kernel_rfl
theorem EP(a b c d:Int)(W:World):(Instr.index 156 (.agg #[a,b,c,d]) (.int .i64 3)).run prog W=.ok (.int .i64 d) W:=by kernel_rfl
theorem mQ(l:List be)(S:Option Addr)(lc:Nat)(loop:Int)(calls:List bB)(av:Option Addr)(cb:Nat)(cA:l.length<=lc)(g1:calls.length<=100000)(w:World)(a1:l≠[]->∃g,S=some ⟨g,0,none⟩/\fN w g l)
 (cL:calls≠[]->∃g R,av=some ⟨g,0,none⟩/\Row w g 158 (calls.flatMap bB.cells++R))
 (a0:w.cell? (0,0)=some (.iface 390 (.agg #[(4,85)]))):
 Calls prog 60 #[.agg #[.slice S l.length lc,loop,.slice av calls.length cb]] w (tc (fG l loop calls) w):=by
 obtain⟨w1,c9⟩:=nm (w.alloc (.cells #[.slice S l.length lc,loop,.slice av calls.length cb] 90));have I:=Z (Ch.al (D:=ag) c9);have eL:Hid (l≠[]->∃g,S=some ⟨g,0,none⟩/\fN w1 g l):=Z (fun h=>by obtain⟨g,e,a0⟩:=a1 h;exact⟨g,e,a0.ch I id⟩);have eC:Hid (calls≠[]->∃g R,av=some ⟨g,0,none⟩/\Row w1 g 158 (calls.flatMap bB.cells++R)):=Z (fun h=>by obtain⟨g,R,e,a0⟩:=cL h;exact⟨g,R,e,a0.ch I id⟩);have ch:Hid (w1.cell? (0,0)=some (.iface 390 (.agg #[(4,85)]))):=Z (I.k a0);have U:=Z (lh l S lc true cA w1 eL ch);have a9:=Z (Row.al c9);obtain⟨N,ad⟩:=mn l.length;obtain⟨M,bi⟩:=mn calls.length;obtain⟨o,c3⟩:=nm (fG l loop calls);obtain⟨u,c8⟩:=nm (jw l true);obtain⟨q,c4⟩:=nm (jx N calls (List.replicate 1000 false));have K:Hid (o=(decide (N≠0)&&u&&decide (0<=loop/\loop<N)&&q)):=Z (by rw[<-c3,ad,<-c8,<-c4,ad];rfl);have ex:Hid (fH N calls 0 (List.replicate 1000 false) q):=Z ⟨by simp,by rw[List.drop_zero];exact c4⟩;have c0:=Z bi;rw[c8]at U;rw[c3];rw[<-ad,<-bi]at a9 c9⊢;rw[<-ad]at U;rw[<-bi]at g1;clear a1 cL a0 cA ad bi c3 c8 c4;obtain⟨t0,t1,t2⟩:=a9.c3;by_cases cq:N=0
 ·have E:Hid (o=false):=Z (by rw[K.out,decide_eq_false (by omega)];rfl)
  subst cq;go_in
  go_wp2_with (go_at_call 101;refine(bo _ _ _ _).mono ?_;rintro e w' ⟨rfl,rfl⟩)
  go_ret;rw[E];exact⟨⟨_,rfl,ar.mk _ _⟩,I.alloc _⟩
 have g7:(N==0)=false:=by simpa using cq
 cases u
 ·have E:Hid (o=false):=Z (by rw[K.out,Bool.and_false];rfl)
  go_in
  go_wp2_with (go_at_call 102;refine U.mono ?_;rintro e w2 ⟨⟨y,rfl,C⟩,A⟩;obtain⟨tt,g6,rfl⟩:ar y:=C;have J:=Z A;clear A)
  go_ret;rw[E];exact⟨⟨_,rfl,ar.mk _ _⟩,I.trans J⟩
 by_cases H:¬(0<=loop/\loop<(N:Int))
 ·have E:Hid (o=false):=Z (by rw[K.out,decide_eq_false H,Bool.and_false];rfl)
  have am:decide (0<=loop/\loop<(N:Int))=false:=decide_eq_false H;have V:=Z (fun w=>l6 loop N w);rw[am]at V;clear am H;go_in
  go_wp2_with (first|(go_at_call 102;refine U.mono ?_;rintro e w2 ⟨⟨y,rfl,C⟩,A⟩;obtain rfl:y=.nilIface:=C;have J:=Z A;have W:=a9.ch A id;obtain⟨ec,en⟩:=W.c2;clear A W t0 t1 t2)|(go_at_call 103;refine(V _).mono ?_;rintro e w3 ⟨⟨y,rfl,C⟩,Y⟩;have a3:=Z Y;obtain⟨tt,g6,rfl⟩:ar y:=C;clear Y))
  go_ret;rw[E];exact⟨⟨_,rfl,ar.mk _ _⟩,(I.trans J).trans a3⟩
 have H:=Decidable.not_not.1 H;have E:Hid (o=q):=Z (by rw[K.out,decide_eq_true (by omega),decide_eq_true H];simp);have am:decide (0<=loop/\loop<(N:Int))=true:=decide_eq_true H;have V:=Z (fun w=>l6 loop N w);rw[am]at V;clear am H K;go_in
 go_wp2_with (first|(go_at_call 102;refine U.mono ?_;rintro e w2 ⟨⟨y,rfl,C⟩,A⟩;obtain rfl:y=.nilIface:=C;have J:=Z A;have W:=Z (a9.ch A id);obtain⟨ec,en,g5⟩:=W.c3;clear A t0 t1 t2)|(go_at_call 103;refine(V _).mono ?_;rintro e w3 ⟨⟨y,rfl,C⟩,Y⟩;have a3:=Z Y;obtain rfl:y=.nilIface:=C;have c1:=Z (W.ch Y id);have ck:=Z (c1.alloc (.cells Tryz.zeroCells252 252));obtain⟨dr,dC,dN⟩:=ck.c3;clear Y ec en g5))
 have es:Hid (Tryz.zeroCells252.toList=(List.replicate 1000 false).map Value.bool):=Z (by kernel_rfl);obtain⟨w4,a2⟩:=nm (w3.alloc (.cells Tryz.zeroCells252 252));obtain⟨sb,ap⟩:=nm w3.heap.size;have ci:Hid (Row w4 sb 252 ((List.replicate 1000 false).map Value.bool)):=Z (by rw[<-a2,<-ap,<-es];exact Row.new _ _ _);have bx:Hid (Ch ag w w4):=Z (by rw[<-a2];exact((I.trans J).trans a3).alloc _);have T:Hid (w.heap.size<sb/\w1.heap.size<=sb/\sb<w4.heap.size):=Z (by
  refine⟨by rw[<-ap];exact c1.lt,by rw[<-ap];exact(J.trans a3).size,ci.lt⟩)
 have ce:Hid (Ch ag w1 w4):=Z (by rw[<-a2];exact(J.trans a3).alloc _);have cl:Hid (Row w4 w.heap.size 90 [.slice S N lc,loop,.slice av M cb]):=Z (a9.ch ce id);rw[a2,ap];rw[a2]at dr dC dN;clear ck c1 W V U ch a2 ap dr dC dN;go_loopg [34] (M+1) (fun gk i wr=>∃(k:Nat) (s:List Bool),k<=M/\gk=M-k+1/\i=.int .i64 k/\Hid (fH N calls k s q)/\Hid (Row wr sb 252 (s.map Value.bool))/\Hid (Ch (aH sb) w4 wr))
 case atStart=>exact⟨0,_,by omega,by omega,rfl,ex,ci,Z ay⟩
 case round=>
  obtain⟨k,s,cC,rfl,rfl,t,a5,L⟩:=hrel;by_cases cQ:k<M
  ·obtain⟨X,al⟩:∃X,calls[k]?=some X:=⟨_,List.getElem?_eq_getElem (by rw[<-c0];exact cQ)⟩
   have d:=Z al;obtain⟨g,R,rfl,c7⟩:=eC (by intro e;rw[e]at al;cases al);have cW:=c7.ch (ce) id;have cS:Hid (Row wr g 158 (calls.flatMap bB.cells++R)):=Z (cW.ch L (fun e=>by have P:g=sb:=e;have cs:=c7.lt;have ab:=T.2.1;omega));have Q:∀j v,j<6->X.cells[j]?=some v->wr.cell? ⟨g,k*6+j,none⟩=some v:=fun j v bv g3=>cS.out.cell (by
    rw[List.getElem?_append_left (by
     have P:=List.length_flatMap (f:=bB.cells) (l:=calls);have cs:(calls.flatMap bB.cells).length=calls.length*6:=by
      rw[P];simp only[bB.len];rw[List.map_const',List.sum_replicate_nat]
     rw[cs,<-c0];have:(k+1)*6<=M*6:=Nat.mul_le_mul_right _ cQ;omega)]
    exact(bJ bB.len al bv).trans g3)
   obtain⟨num,at_,k0,k1,k2,k3⟩:=X;have cm:=Q 0 _ (by omega) rfl;have eW:=Q 1 _ (by omega) rfl;have fd:=Q 2 _ (by omega) rfl;have fn:=Q 3 _ (by omega) rfl;have fr:=Q 4 _ (by omega) rfl;have fz:=Q 5 _ (by omega) rfl;rw[Nat.add_zero]at cm;have g4:wr.cell? ⟨w.heap.size,0,none⟩=some (.slice S N lc):=(cl.ch L (fun e=>by have P:w.heap.size=sb:=e;have ab:=T.1;omega)).cell (i:=0) rfl;have cC:(k:Int)<M:=(by omega);have g2:g<wr.heap.size/\w.heap.size<wr.heap.size/\sb<wr.heap.size:=⟨cS.out.lt,(cl.ch L (fun e=>by have P:w.heap.size=sb:=e;have ab:=T.1;omega)).lt,a5.lt⟩;obtain⟨gf,go,gr⟩:=g2;clear Q al c7 cW;have F:Hid (Ch ag w wr):=Z (bx.fresh L (fun b hb e=>by have P:b=sb:=e;have ab:=T.1;omega));by_cases gs:num<1
   ·have B:Hid (gC N s ⟨num,at_,k0,k1,k2,k3⟩=false):=Z (by unfold gC;dsimp only;rw[decide_eq_false (by omega)];rfl)
    have a:Hid (o=false):=Z (E.trans (t.bad d B));clear d;go_wp2_with (go_at_call 101;refine(bo _ _ _ _).mono ?_;rintro e w' ⟨rfl,rfl⟩)
    go_ret;rw[a];exact⟨⟨_,rfl,ar.mk _ _⟩,(F.alloc _).alloc _⟩
   by_cases gt:999<num
   ·have B:Hid (gC N s ⟨num,at_,k0,k1,k2,k3⟩=false):=Z (by unfold gC;dsimp only;rw[decide_eq_false (by omega)];rfl)
    have a:Hid (o=false):=Z (E.trans (t.bad d B));clear d;go_wp2_with (go_at_call 101;refine(bo _ _ _ _).mono ?_;rintro e w' ⟨rfl,rfl⟩)
    go_ret;rw[a];exact⟨⟨_,rfl,ar.mk _ _⟩,(F.alloc _).alloc _⟩
   obtain⟨m,rfl⟩:∃m:Nat,num=m:=⟨num.toNat,by omega⟩;have ge:(m:Int)<1000:=(by omega);have gc:m<1000:=(by omega);have g9:(0:Int)<=m:=(by omega);obtain⟨b,hb⟩:∃b,s[m]?=some b:=⟨_,List.getElem?_eq_getElem (by rw[t.1];omega)⟩;have g0:wr.cell? (sb,m)=some (.bool b):=a5.cell (by rw[List.getElem?_map,hb];rfl);have a4:Hid (s.getD (m:Int).toNat false=b):=Z (by rw[Int.toNat_natCast,List.getD_eq_getElem?_getD,hb];rfl);clear hb;have bv:decide (1<=(m:Int)/\(m:Int)<=999)=true:=decide_eq_true (by omega);have c:=Z bv;clear bv;cases b
   rotate_left
   ·have B:Hid (gC N s ⟨m,at_,k0,k1,k2,k3⟩=false):=Z (by unfold gC;dsimp only;rw[c,a4];rfl)
    have a:Hid (o=false):=Z (E.trans (t.bad d B));clear d;go_wp2_with (go_at_call 101;refine(bo _ _ _ _).mono ?_;rintro e w' ⟨rfl,rfl⟩)
    go_ret;rw[a];exact⟨⟨_,rfl,ar.mk _ _⟩,(F.alloc _).alloc _⟩
   by_cases hd:at_<0
   ·have B:Hid (gC N s ⟨m,at_,k0,k1,k2,k3⟩=false):=Z (by unfold gC;dsimp only;rw[c,a4,decide_eq_false (p:=0<=at_/\at_<(N:Int)) (by omega)];rfl)
    have a:Hid (o=false):=Z (E.trans (t.bad d B));clear d;go_wp2_with (go_at_call 101;refine(bo _ _ _ _).mono ?_;rintro e w' ⟨rfl,rfl⟩)
    go_ret;rw[a];exact⟨⟨_,rfl,ar.mk _ _⟩,(F.alloc _).alloc _⟩
   by_cases he:(N:Int)<=at_
   ·have B:Hid (gC N s ⟨m,at_,k0,k1,k2,k3⟩=false):=Z (by unfold gC;dsimp only;rw[c,a4,decide_eq_false (p:=0<=at_/\at_<(N:Int)) (by omega)];rfl)
    have a:Hid (o=false):=Z (E.trans (t.bad d B));clear d;go_wp2_with (go_at_call 101;refine(bo _ _ _ _).mono ?_;rintro e w' ⟨rfl,rfl⟩)
    go_ret;rw[a];exact⟨⟨_,rfl,ar.mk _ _⟩,(F.alloc _).alloc _⟩
   have z:Hid (gC N s ⟨m,at_,k0,k1,k2,k3⟩=[k0,k1,k2,k3].all jg):=Z (by unfold gC;dsimp only;rw[c,a4,decide_eq_true (p:=0<=at_/\at_<(N:Int)) (by omega)];simp[Bool.and_assoc]);clear c a4;have fb:=a5.free m;go_wp2
   obtain⟨cd,bw⟩:=mn (((wr.setCell (sb,m) (.bool true)).alloc (.cells #[.int .i64 m,at_,k0,k1,k2,k3] 158)));have cf:Hid (Ch (aH sb) w4 cd):=Z (by rw[bw];exact(L.only _ _).alloc _);have eS:Hid (Row cd sb 252 ((s.set m true).map Value.bool)):=Z (by rw[bw,List.map_set];exact(a5.set _ _).alloc _);have G:Hid (Ch ag w cd):=Z (bx.fresh cf (fun b hb e=>by have P:b=sb:=e;have ab:=T.1;omega));rw[<-bw];clear bw cm eW fd fn fr fz g4 g0 fb a5 L F;obtain⟨r,a1⟩:=nm ([k0,k1,k2,k3].all jg);rw[a1]at z;have eA:Hid (([k0,k1,k2,k3].drop 0).all jg=r):=Z a1;clear a1;go_loop [74] (fun s=>∃j:Nat,s=.int .i64 j/\j<=4/\Hid (([k0,k1,k2,k3].drop j).all jg=r)) (fun s=>4-(intOf s).toNat)
   case atStart=>exact⟨0,rfl,by omega,eA⟩
   case round=>
    obtain⟨j,rfl,g8,c⟩:=hrel;obtain rfl|rfl|rfl|rfl|rfl:j=0∨j=1∨j=2∨j=3∨j=4:=by omega
    ·have c2:=EM k0 k1 k2 k3
     by_cases c5:k0<0
     ·have x:Hid (r=false):=Z (by rw[<-c,G9,show jg k0=false from decide_eq_false (show¬(0<=k0/\k0<=7)by omega)];rfl)
      have a:Hid (o=false):=Z (E.trans (t.bad d (z.trans x)));go_wp2_with (go_at_call 101;refine(bo _ _ _ _).mono ?_;rintro e w' ⟨rfl,rfl⟩)
      go_ret;rw[a];exact⟨⟨_,rfl,ar.mk _ _⟩,G.alloc _⟩
     by_cases c6:7<k0
     ·have x:Hid (r=false):=Z (by rw[<-c,G9,show jg k0=false from decide_eq_false (show¬(0<=k0/\k0<=7)by omega)];rfl)
      have a:Hid (o=false):=Z (E.trans (t.bad d (z.trans x)));go_wp2_with (go_at_call 101;refine(bo _ _ _ _).mono ?_;rintro e w' ⟨rfl,rfl⟩)
      go_ret;rw[a];exact⟨⟨_,rfl,ar.mk _ _⟩,G.alloc _⟩
     have O:Hid (([k0,k1,k2,k3].drop 1).all jg=r):=Z (by rw[<-c,G9,show jg k0=true from decide_eq_true (show(0<=k0/\k0<=7)by omega)];rfl);go_wp2
     go_round
     case rel=>exact⟨1,rfl,by omega,O⟩
     case measure=>simp[intOf]
    ·have c2:=EN k0 k1 k2 k3
     by_cases c5:k1<0
     ·have x:Hid (r=false):=Z (by rw[<-c,G',show jg k1=false from decide_eq_false (show¬(0<=k1/\k1<=7)by omega)];rfl)
      have a:Hid (o=false):=Z (E.trans (t.bad d (z.trans x)));go_wp2_with (go_at_call 101;refine(bo _ _ _ _).mono ?_;rintro e w' ⟨rfl,rfl⟩)
      go_ret;rw[a];exact⟨⟨_,rfl,ar.mk _ _⟩,G.alloc _⟩
     by_cases c6:7<k1
     ·have x:Hid (r=false):=Z (by rw[<-c,G',show jg k1=false from decide_eq_false (show¬(0<=k1/\k1<=7)by omega)];rfl)
      have a:Hid (o=false):=Z (E.trans (t.bad d (z.trans x)));go_wp2_with (go_at_call 101;refine(bo _ _ _ _).mono ?_;rintro e w' ⟨rfl,rfl⟩)
      go_ret;rw[a];exact⟨⟨_,rfl,ar.mk _ _⟩,G.alloc _⟩
     have O:Hid (([k0,k1,k2,k3].drop 2).all jg=r):=Z (by rw[<-c,G',show jg k1=true from decide_eq_true (show(0<=k1/\k1<=7)by omega)];rfl);go_wp2
     go_round
     case rel=>exact⟨2,rfl,by omega,O⟩
     case measure=>simp[intOf]
    ·have c2:=EO k0 k1 k2 k3
     by_cases c5:k2<0
     ·have x:Hid (r=false):=Z (by rw[<-c,Ha,show jg k2=false from decide_eq_false (show¬(0<=k2/\k2<=7)by omega)];rfl)
      have a:Hid (o=false):=Z (E.trans (t.bad d (z.trans x)));go_wp2_with (go_at_call 101;refine(bo _ _ _ _).mono ?_;rintro e w' ⟨rfl,rfl⟩)
      go_ret;rw[a];exact⟨⟨_,rfl,ar.mk _ _⟩,G.alloc _⟩
     by_cases c6:7<k2
     ·have x:Hid (r=false):=Z (by rw[<-c,Ha,show jg k2=false from decide_eq_false (show¬(0<=k2/\k2<=7)by omega)];rfl)
      have a:Hid (o=false):=Z (E.trans (t.bad d (z.trans x)));go_wp2_with (go_at_call 101;refine(bo _ _ _ _).mono ?_;rintro e w' ⟨rfl,rfl⟩)
      go_ret;rw[a];exact⟨⟨_,rfl,ar.mk _ _⟩,G.alloc _⟩
     have O:Hid (([k0,k1,k2,k3].drop 3).all jg=r):=Z (by rw[<-c,Ha,show jg k2=true from decide_eq_true (show(0<=k2/\k2<=7)by omega)];rfl);go_wp2
     go_round
     case rel=>exact⟨3,rfl,by omega,O⟩
     case measure=>simp[intOf]
    ·have c2:=EP k0 k1 k2 k3
     by_cases c5:k3<0
     ·have x:Hid (r=false):=Z (by rw[<-c,Hb,show jg k3=false from decide_eq_false (show¬(0<=k3/\k3<=7)by omega)];rfl)
      have a:Hid (o=false):=Z (E.trans (t.bad d (z.trans x)));go_wp2_with (go_at_call 101;refine(bo _ _ _ _).mono ?_;rintro e w' ⟨rfl,rfl⟩)
      go_ret;rw[a];exact⟨⟨_,rfl,ar.mk _ _⟩,G.alloc _⟩
     by_cases c6:7<k3
     ·have x:Hid (r=false):=Z (by rw[<-c,Hb,show jg k3=false from decide_eq_false (show¬(0<=k3/\k3<=7)by omega)];rfl)
      have a:Hid (o=false):=Z (E.trans (t.bad d (z.trans x)));go_wp2_with (go_at_call 101;refine(bo _ _ _ _).mono ?_;rintro e w' ⟨rfl,rfl⟩)
      go_ret;rw[a];exact⟨⟨_,rfl,ar.mk _ _⟩,G.alloc _⟩
     have O:Hid (([k0,k1,k2,k3].drop 4).all jg=r):=Z (by rw[<-c,Hb,show jg k3=true from decide_eq_true (show(0<=k3/\k3<=7)by omega)];rfl);go_wp2
     go_round
     case rel=>exact⟨4,rfl,by omega,O⟩
     case measure=>simp[intOf]
    ·have et:Hid (gC N s ⟨m,at_,k0,k1,k2,k3⟩=true):=Z (z.trans c.symm)
     go_wp2
     go_roundg (M-k)
     case measure=>omega
     case rel=>exact⟨k+1,_,by omega,by omega,by go_num,Z (t.next d et),eS,cf⟩
  ·skip
   have a:Hid (o=true):=Z (E.trans (t.all (by rw[<-c0];omega)));have F:Hid (Ch ag w wr):=Z (bx.fresh L (fun b hb e=>by have P:b=sb:=e;have ab:=T.1;omega));have cC:¬(k:Int)<M:=(by omega);go_wp2
   go_ret;rw[a];exact⟨⟨_,rfl,rfl⟩,F⟩
def eQ(l:List be)(en wi na:Int):Bool:=
 decide (0<=wi/\0<=na/\wi<=256/\na<=256-wi/\l.length≠0)&&jw l false&&decide (0<=en/\en<l.length)
theorem mR(l:List be)(a:Option Addr)(c:Nat)(en wi na:Int)(C:l.length<=c)(w:World)(H:l≠[]->∃g,a=some ⟨g,0,none⟩/\fN w g l)
 (n:w.cell? (0,0)=some (.iface 390 (.agg #[(4,85)]))):
 Calls prog 61 #[.agg #[.slice a l.length c,en,wi,na]] w (tc (eQ l en wi na) w):=by
 obtain⟨w1,z⟩:=nm (w.alloc (.cells #[.slice a l.length c,en,wi,na] 77));have b:=Z (Ch.al (D:=ag) z);have M:Hid (l≠[]->∃g,a=some ⟨g,0,none⟩/\fN w1 g l):=Z (fun h=>by obtain⟨g,e,n⟩:=H h;exact⟨g,e,n.ch b id⟩);have L:Hid (w1.cell? (0,0)=some (.iface 390 (.agg #[(4,85)]))):=Z (b.k n);have j:=Z (lh l a c false C w1 M L);have q:=Z (Row.al z);obtain⟨N,t⟩:=mn l.length;obtain⟨k,v⟩:=nm (eQ l en wi na);obtain⟨u,x⟩:=nm (jw l false);have G:k=(decide (0<=wi/\0<=na/\wi<=256/\na<=256-wi/\N≠0)&&u&&decide (0<=en/\en<N)):=by rw[<-v,t,<-x];rfl
 rw[x]at j;rw[v];rw[<-t]at j q z⊢;clear H n C t v x;obtain⟨t0,t1,t2,t3⟩:=q.c4;have K:Hid (k=(decide (0<=wi/\0<=na/\wi<=256/\na<=256-wi/\N≠0)&&u&&decide (0<=en/\en<N))):=Z G;clear G;have P:wi<0∨(¬wi<0/\na<0)∨(¬wi<0/\¬na<0/\256<wi)∨(¬wi<0/\¬na<0/\¬256<wi/\256-wi<na)∨(¬wi<0/\¬na<0/\¬256<wi/\¬256-wi<na/\N=0)∨(¬wi<0/\¬na<0/\¬256<wi/\¬256-wi<na/\N≠0):=by omega
 rcases P with i|⟨i,m⟩|⟨i,m,r⟩|⟨i,m,r,B⟩|⟨i,m,r,B,s⟩|⟨i,m,r,B,s⟩
 ·have E:Hid (k=false):=Z (by rw[K.out,decide_eq_false (by omega)];rfl)
  go_in
  go_wp2_with (go_at_call 101;refine(bo _ _ _ _).mono ?_;rintro e w' ⟨rfl,rfl⟩)
  go_ret;rw[E];exact⟨⟨_,rfl,ar.mk _ _⟩,b.alloc _⟩
 ·have E:Hid (k=false):=Z (by rw[K.out,decide_eq_false (by omega)];rfl)
  go_in
  go_wp2_with (go_at_call 101;refine(bo _ _ _ _).mono ?_;rintro e w' ⟨rfl,rfl⟩)
  go_ret;rw[E];exact⟨⟨_,rfl,ar.mk _ _⟩,b.alloc _⟩
 ·have E:Hid (k=false):=Z (by rw[K.out,decide_eq_false (by omega)];rfl)
  go_in
  go_wp2_with (go_at_call 101;refine(bo _ _ _ _).mono ?_;rintro e w' ⟨rfl,rfl⟩)
  go_ret;rw[E];exact⟨⟨_,rfl,ar.mk _ _⟩,b.alloc _⟩
 ·have E:Hid (k=false):=Z (by rw[K.out,decide_eq_false (by omega)];rfl)
  have I:IntKind.i64.wrap (256-wi)=256-wi:=IntWalk.i64_in _ (by omega);go_in
  go_wp2_with (go_at_call 101;refine(bo _ _ _ _).mono ?_;rintro e w' ⟨rfl,rfl⟩)
  go_ret;rw[E];exact⟨⟨_,rfl,ar.mk _ _⟩,b.alloc _⟩
 ·have E:Hid (k=false):=Z (by rw[K.out,decide_eq_false (by omega)];rfl)
  have I:IntKind.i64.wrap (256-wi)=256-wi:=IntWalk.i64_in _ (by omega);subst s;go_in
  go_wp2_with (go_at_call 101;refine(bo _ _ _ _).mono ?_;rintro e w' ⟨rfl,rfl⟩)
  go_ret;rw[E];exact⟨⟨_,rfl,ar.mk _ _⟩,b.alloc _⟩
 ·have I:IntKind.i64.wrap (256-wi)=256-wi:=IntWalk.i64_in _ (by omega)
  have E:Hid (k=(u&&decide (0<=en/\en<N))):=Z (by rw[K.out,decide_eq_true (by omega),Bool.true_and]);have Q:(N==0)=false:=by simpa using s
  cases u
  ·have p:Hid (k=false):=Z (by rw[E];rfl)
   go_in
   go_wp2_with (go_at_call 102;refine j.mono ?_;rintro e w2 ⟨⟨y,rfl,f⟩,d⟩;obtain⟨tt,T,rfl⟩:ar y:=f;have o:=Z d;clear d)
   go_ret;rw[p];exact⟨⟨_,rfl,ar.mk _ _⟩,b.trans o⟩
  ·have p:Hid (k=decide (0<=en/\en<N)):=Z (by rw[E,Bool.true_and])
   go_in
   go_wp2_with (first|(go_at_call 102;refine j.mono ?_;rintro e w2 ⟨⟨y,rfl,f⟩,d⟩;obtain rfl:y=.nilIface:=f;have o:=Z d;have A:=q.ch d id;obtain⟨R,S⟩:=A.c2;clear d A t0 t1 t2 t3)|(go_at_call 103;refine(l6 _ _ _).mono ?_;rintro e w3 ⟨⟨y,rfl,f⟩,F⟩;have J:=Z F;have O:=Z f;clear F f))
   go_ret;rw[p];exact⟨⟨_,rfl,O⟩,(b.trans o).trans J⟩
