import Derived.Test.YtfnilkpkogipfaaGreatDoorZAr
set_option linter.all false
set_option maxRecDepth 100000
set_option maxHeartbeats 8000000
namespace Go.Proofs.YtfnilkpkogipfaaGreatDoor
open Go.RowKit Go.Proofs.Tryz
section
section
variable{w:World}{χ:Nat->a4}{L:cw}{Y:Var}{C:KC}{K:KS}
theorem gz{i:Nat}{x:ak}(a:i<K.wk.length):(K.be i x).W i=x:=KS.A4 (by show(K.wk.set i x)[i]?=_;rw[List.getElem?_set_self a])
theorem o8(i:Nat)(x y:ak):(K.be i x).be i y=K.be i y:=by unfold KS.be;simp
theorem CM(c:bK)(f:cE){i:Nat}(a:i<K.wk.length):∃g,(K.cH c f).W i={K.W i with f:=g}:=by
 cases c with
 |own j=>
  show∃g,(K.be j _).W i=_
  by_cases e:j=i
  ·subst e;exact⟨f,gz a⟩
  ·refine⟨(K.W i).f,?_⟩
   rw[KS.A4 (x:=K.W i) (by show(K.wk.set j _)[i]?=_;rw[List.getElem?_set_ne e];exact KS.gy a)]
 |ai id k=>exact⟨(K.W i).f,rfl⟩
theorem wo{i:Nat}(a:i<K.wk.length)(c:bK)(f:cE):((K.cH c f).W i).hand=(K.W i).hand:=by
 obtain⟨g,h⟩:=CM c f a;rw[h]
theorem ae.DY(h:ae w χ L Y C K){i:Nat}(a:i<K.wk.length)(s b l:Int):∃aW Y',dB χ L Y C K (K.be i {K.W i with slot:=s,hand:=b,left:=l}) w aW Y' (((w.setCell (L.wb,i*38) (.int .u64 s)).setCell (L.wb,i*38+1) (.int .u64 b)).setCell (L.wb,i*38+3) (.int .i64 l)):=by
 obtain⟨n,k,c⟩:=h.uU a s;obtain⟨o,m,d⟩:=c.at_.jx (i:=i) (by rw[bA];exact a) b;obtain⟨j,f,g⟩:=d.at_.uV (i:=i) (by rw[bA,bA];exact a) l;refine⟨j,f,?_⟩;have e:=(c.trans (Gr.of_eq rfl) d).trans (Gr.of_eq rfl) g;rw[o8,o8,gz (by rw[bA];exact a),gz a]at e;exact e
theorem yW(i:Nat)(G:i<K.wk.length)(c:bK)(b t:Nat)(F:aj K c)(I:aP L Y c b t)(J:∀k,k<32->aH ((K.F c).r k))(a f g l j m:Int)(R:0<=a/\a<32)(h:ae w χ L Y C K):
 Calls prog 164 #[(L.mb,0),(L.wb,i*38),(b,t),.agg #[.int .i64 30,a,f,g,.int .u64 l,j,m]] w (de (.tuple #[]) χ L Y C K (bU K i c ⟨30,a,f,g,l,j,m⟩) w):=by
 have H:=Z h;have v:=Z F;have z:=Z I;have P:=Z G;obtain⟨N,M,S,A,n⟩:=h.pre 30 a f g l j m;obtain⟨W,X⟩:=R;obtain⟨u,s⟩:∃y,(K.F c).r a.toNat=y:=⟨_,rfl⟩;have p:=Z s;have o:=Z (J a.toNat (by omega));rw[s]at o;obtain⟨U,V⟩:=o.out;clear s;obtain⟨t0,t1,t2,t3,t4,t5,t6⟩:=n.1.c7;have d:=A.at_.az v z a.toNat (by omega);rw[p]at d;clear h F I J G;have E:Hid (bU K i c ⟨30,a,f,g,l,j,m⟩=eB K i u):=Z (by unfold bU;dsimp only;rw[if_pos rfl,p]);go_enter func164,ntmps164
 go_wp2_with fail
 try rw[M]
 clear M;go_quiet (fail)
 obtain⟨w1,r⟩:=nm (N.drewN nq);have x:Hid (Ch ag N w1):=Z (by rw[<-r];exact(Ch.refl _ _).drewN nq);rw[r];clear r;have q:=Z (A.af x);have B:Hid (aj K c/\aP L Y c b t):=Z ⟨v,z⟩;have O:=Z ((Nx.af x).row n.1 n.2);clear t0 t1 t2 t3 t4 t5 t6 d;obtain⟨t0,t1,t2,t3,t4,t5,t6⟩:=O.1.c7;have d:=q.at_.az B.1 B.2 a.toNat (by omega);rw[show((K:KS).F c).r a.toNat=u from p.out]at d;go_wp2_with fail
 refine(o7 i P u o q.at_).mono ?_;rintro e w2 ⟨rfl,a0,T,D⟩;have Q:=Z (q.trans (Gr.refl _) D);clear D;go_wp2_with fail
 go_end0
 rw[E];exact⟨rfl,_,_,Q⟩
theorem yX(i:Nat)(T:i<K.wk.length)(c:bK)(b z:Nat)(S:aj K c)(U:aP L Y c b z)(V:∀k,k<32->aH ((K.F c).r k))(a p q s r t:Int)(a2:0<=a/\a<32)(N:aH (K.W i).hand)(h:ae w χ L Y C K):
 Calls prog 164 #[(L.mb,0),(L.wb,i*38),(b,z),.agg #[.int .i64 33,a,p,q,.int .u64 s,r,t]] w (de (.tuple #[]) χ L Y C K (bU K i c ⟨33,a,p,q,s,r,t⟩) w):=by
 have H:=Z h;have F:=Z S;have G:=Z U;have u:=Z T;obtain⟨B,x,ad,J,j⟩:=h.pre 33 a p q s r t;obtain⟨bv,bw⟩:=a2;obtain⟨W,O⟩:∃y,(K.F c).r a.toNat=y:=⟨_,rfl⟩;have I:=Z O;have Q:=Z (V a.toNat (by omega));rw[O]at Q;obtain⟨av,bi⟩:=Q.out;clear O;obtain⟨t0,t1,t2,t3,t4,t5,t6⟩:=j.1.c7;have f:=J.at_.az F G a.toNat (by omega);rw[I]at f;obtain⟨o,M⟩:=nm ((K.W i).hand);have m:=Z M;rw[M]at N;have X:=Z N;clear N;clear h S U V T;clear M;by_cases P:o=0
 ·subst P
  have E:Hid (bU K i c ⟨33,a,p,q,s,r,t⟩=K):=Z (by unfold bU;dsimp only;rw[if_neg (by decide),if_pos rfl,if_neg (by rw[m.out];simp)]);go_enter func164,ntmps164
  go_wp2_with fail
  try rw[x]
  clear x;go_quiet (fail)
  obtain⟨w1,g⟩:=nm (B.drewN nq);have l:Hid (Ch ag B w1):=Z (by rw[<-g];exact(Ch.refl _ _).drewN nq);rw[g];clear g;have d:=Z (J.af l);have n:Hid (aj K c/\aP L Y c b z):=Z ⟨F,G⟩;have D:=Z ((Nx.af l).row j.1 j.2);clear t0 t1 t2 t3 t4 t5 t6 f;obtain⟨t0,t1,t2,t3,t4,t5,t6⟩:=D.1.c7;have f:=d.at_.az n.1 n.2 a.toNat (by omega);rw[show((K:KS).F c).r a.toNat=W from I.out]at f;have A:=d.at_.e7 u;rw[m]at A;go_wp2_with fail
  go_end0
  rw[E];exact⟨rfl,_,_,d⟩
 ·have hb:(o==0)=false:=by rw[beq_eq_false_iff_ne];exact P
  have E:Hid (bU K i c ⟨33,a,p,q,s,r,t⟩=(cc K o).be i {(cc K o).W i with hand:=0}):=Z (by unfold bU;dsimp only;rw[if_neg (by decide),if_pos rfl,if_pos (by rw[m.out];exact P),m]);go_enter func164,ntmps164
  go_wp2_with fail
  try rw[x]
  clear x;go_quiet (fail)
  obtain⟨w1,g⟩:=nm (B.drewN nq);have l:Hid (Ch ag B w1):=Z (by rw[<-g];exact(Ch.refl _ _).drewN nq);rw[g];clear g;have d:=Z (J.af l);have n:Hid (aj K c/\aP L Y c b z):=Z ⟨F,G⟩;have D:=Z ((Nx.af l).row j.1 j.2);clear t0 t1 t2 t3 t4 t5 t6 f;obtain⟨t0,t1,t2,t3,t4,t5,t6⟩:=D.1.c7;have f:=d.at_.az n.1 n.2 a.toNat (by omega);rw[show((K:KS).F c).r a.toNat=W from I.out]at f;have A:=d.at_.e7 u;rw[m]at A;go_wp2_with fail
  refine(e9 o X d.at_).mono ?_;rintro e w2 ⟨rfl,c0,al,R⟩;have v:=Z (d.trans (Gr.refl _) R);clear R A f t0 t1 t2 t3 t4 t5 t6;have ap:=v.at_.e7 (i:=i) (by exact u);have am:=v.at_.tn (i*38+1);have a1:=Z (v.at_.jx (i:=i) (by exact u) 0);go_wp2_with fail
  go_end0
  rw[E];obtain⟨ab,a0,a3⟩:=a1.out;exact⟨rfl,ab,a0,v.trans (Gr.of_eq rfl) a3⟩
theorem yY(i:Nat)(c0:i<K.wk.length)(c:bK)(b j:Nat)(bv:aj K c)(c1:aP L Y c b j)(c3:∀k,k<32->aH ((K.F c).r k))(a F G J I M:Int)(cd:0<=a/\a<32)(h:ae w χ L Y C K):
 Calls prog 164 #[(L.mb,0),(L.wb,i*38),(b,j),.agg #[.int .i64 34,a,F,G,.int .u64 J,I,M]] w (de (.tuple #[]) χ L Y C K (bU K i c ⟨34,a,F,G,J,I,M⟩) w):=by
 have H:=Z h;have l:=Z bv;have q:=Z c1;have o:=Z c0;obtain⟨U,S,cq,X,z⟩:=h.pre 34 a F G J I M;obtain⟨ec,en⟩:=cd;obtain⟨c5,a2⟩:∃y,(K.F c).r a.toNat=y:=⟨_,rfl⟩;have W:=Z a2;have am:=Z (c3 a.toNat (by omega));rw[a2]at am;obtain⟨dC,dN⟩:=am.out;clear a2;obtain⟨t0,t1,t2,t3,t4,t5,t6⟩:=z.1.c7;have n:=X.at_.az l q a.toNat (by omega);rw[W]at n;obtain⟨a1,bw⟩:=nm ((K.W i).hand);have c6:=Z bw;clear h bv c1 c3 c0;clear bw;have P:Hid (((K.au c a.toNat 0).W i).hand=a1):=Z ((wo o c _).trans c6);have B:Hid ((K.au c a.toNat 0).wk.length=K.wk.length):=Z (bm _ _);have N:Hid (Gr K (K.au c a.toNat 0)):=Z (bs l _);by_cases a3:a1=0
 ·subst a3
  obtain⟨p,c2⟩:=nm (gG K.ring);have ad:Hid (gG (K.au c a.toNat 0).ring=p):=Z (by rw[<-c2];congr 1;exact wm _ _);clear c2;obtain⟨pv,cS,cf⟩:=p;obtain⟨m,R⟩:=mn (({K.au c a.toNat 0 with ring:=cf}:KS));have ab:=Z R;have O:Hid (Gr K m):=Z (by rw[R];exact N.trans (Gr.of_eq rfl));have D:Hid (m.wk.length=K.wk.length):=Z (by rw[R];exact B);have av:Hid ((m.be i {m.W i with hand:=pv}).wk.length=K.wk.length):=Z ((bA _ _).trans D);have ap:Hid (((m.be i {m.W i with hand:=pv}).W i).hand=pv):=Z (by rw[gz (by rw[D];exact o)]);clear R;have E:Hid (bU K i c ⟨34,a,F,G,J,I,M⟩=(m.be i {m.W i with hand:=pv}).au c a.toNat pv):=Z (by unfold bU;dsimp only;rw[if_neg (by decide),if_neg (by decide),if_pos rfl,if_pos P.out,ad,<-ab,ap]);go_enter func164,ntmps164
  go_wp2_with fail
  try rw[S]
  clear S;go_quiet (fail)
  obtain⟨w1,s⟩:=nm (U.drewN nq);have A:Hid (Ch ag U w1):=Z (by rw[<-s];exact(Ch.refl _ _).drewN nq);rw[s];clear s;have f:=Z (X.af A);have d:Hid (aj K c/\aP L Y c b j):=Z ⟨l,q⟩;have V:=Z ((Nx.af A).row z.1 z.2);clear t0 t1 t2 t3 t4 t5 t6 n;obtain⟨t0,t1,t2,t3,t4,t5,t6⟩:=V.1.c7;have n:=f.at_.az d.1 d.2 a.toNat (by omega);rw[show((K:KS).F c).r a.toNat=c5 from W.out]at n;have bi:=f.at_.g1 d.1 d.2 (j+1+a.toNat);obtain⟨ck,c8,r⟩:=f.at_.a6 d.1 d.2 a.toNat (by omega) 0;obtain⟨w2,x⟩:=nm (w1.setCell (b,j+1+a.toNat) (.int .u64 0));rw[x]at r;have g:=Z (f.trans (Gr.refl _) r);have c7:=Z (g.cur l q N B);clear r;have T:=g.at_.e7 (i:=i) (by rw[B];exact o);rw[P]at T;have k2:=g.at_.nr;have al:=Z (wa g.at_);rw[ad]at al;go_wp2_with fail
  try rw[x]
  clear x;refine al.mono ?_;rintro e ci ⟨rfl,es,cA,Q⟩;try dsimp only at Q
  rw[<-ab]at Q;have t:=Z (g.trans N Q);have cs:=Z (t.cur l q O D);have cm:=Z (t.nx.trans (Nx.refl _ _));clear Q T k2 bi n t0 t1 t2 t3 t4 t5 t6;have dr:=t.at_.e7 (i:=i) (by rw[D];exact o);have cL:=t.at_.tn (i*38+1);obtain⟨et,cC,a0⟩:=t.at_.jx (i:=i) (by rw[D];exact o) pv;obtain⟨w4,c4⟩:=nm (ci.setCell (L.wb,i*38+1) (.int .u64 pv));rw[c4]at a0;have u:=Z (t.trans O a0);have v:=Z (u.cur l q (O.trans (Gr.of_eq rfl)) av);clear a0;have ch:=u.at_.e7 (i:=i) (by rw[av];exact o);rw[ap]at ch;have cW:=u.at_.az v.1 v.2 a.toNat (by omega);have cQ:=u.at_.g1 v.1 v.2 (j+1+a.toNat);have cb:=Z (u.at_.a6 v.1 v.2 a.toNat (by omega) pv);go_wp2_with fail
  try rw[c4]
  go_end0
  rw[E];obtain⟨cl,c9,ce⟩:=cb.out;exact⟨rfl,cl,c9,u.trans (O.trans (Gr.of_eq rfl)) ce⟩
 ·have hb:(a1==0)=false:=by rw[beq_eq_false_iff_ne];exact a3
  have E:Hid (bU K i c ⟨34,a,F,G,J,I,M⟩=K.au c a.toNat 0):=Z (by unfold bU;dsimp only;rw[if_neg (by decide),if_neg (by decide),if_pos rfl,if_neg (by rw[P.out];exact a3)]);go_enter func164,ntmps164
  go_wp2_with fail
  try rw[S]
  clear S;go_quiet (fail)
  obtain⟨w1,s⟩:=nm (U.drewN nq);have A:Hid (Ch ag U w1):=Z (by rw[<-s];exact(Ch.refl _ _).drewN nq);rw[s];clear s;have f:=Z (X.af A);have d:Hid (aj K c/\aP L Y c b j):=Z ⟨l,q⟩;have V:=Z ((Nx.af A).row z.1 z.2);clear t0 t1 t2 t3 t4 t5 t6 n;obtain⟨t0,t1,t2,t3,t4,t5,t6⟩:=V.1.c7;have n:=f.at_.az d.1 d.2 a.toNat (by omega);rw[show((K:KS).F c).r a.toNat=c5 from W.out]at n;have bi:=f.at_.g1 d.1 d.2 (j+1+a.toNat);obtain⟨ck,c8,r⟩:=f.at_.a6 d.1 d.2 a.toNat (by omega) 0;obtain⟨w2,x⟩:=nm (w1.setCell (b,j+1+a.toNat) (.int .u64 0));rw[x]at r;have g:=Z (f.trans (Gr.refl _) r);have c7:=Z (g.cur l q N B);clear r;have T:=g.at_.e7 (i:=i) (by rw[B];exact o);rw[P]at T;go_wp2_with fail
  try rw[x]
  go_end0
  rw[E];exact⟨rfl,_,_,g⟩
theorem yZ(i:Nat)(bv:i<K.wk.length)(c:bK)(b P:Nat)(bi:aj K c)(bw:aP L Y c b P)(c0:∀k,k<32->aH ((K.F c).r k))(a G I M J N:Int)(c7:0<=a/\a<32)(a2:aH (K.W i).hand)(h:ae w χ L Y C K):
 Calls prog 164 #[(L.mb,0),(L.wb,i*38),(b,P),.agg #[.int .i64 35,a,G,I,.int .u64 M,J,N]] w (de (.tuple #[]) χ L Y C K (bU K i c ⟨35,a,G,I,M,J,N⟩) w):=by
 have H:=Z h;have Q:=Z bi;have R:=Z bw;have g:=Z bv;obtain⟨A,z,cd,T,t⟩:=h.pre 35 a G I M J N;obtain⟨cm,cq⟩:=c7;obtain⟨a0,ab⟩:∃y,(K.F c).r a.toNat=y:=⟨_,rfl⟩;have u:=Z ab;have am:=Z (c0 a.toNat (by omega));rw[ab]at am;obtain⟨ck,cl⟩:=am.out;clear ab;obtain⟨t0,t1,t2,t3,t4,t5,t6⟩:=t.1.c7;have m:=T.at_.az Q R a.toNat (by omega);rw[u]at m;obtain⟨l,a1⟩:=nm ((K.W i).hand);have o:=Z a1;obtain⟨c2,c1⟩:=nm ((K.W i).slot);have x:=Z c1;rw[a1]at a2;have c4:=Z a2;clear a2;clear h bi bw c0 bv;clear a1 c1;by_cases W:l=0
 ·subst W
  have E:Hid (bU K i c ⟨35,a,G,I,M,J,N⟩=K):=Z (by unfold bU;dsimp only;rw[if_neg (by decide),if_neg (by decide),if_neg (by decide),if_pos rfl,if_neg (by rw[u.out,o,x];simp)]);go_enter func164,ntmps164
  go_wp2_with fail
  try rw[z]
  clear z;go_quiet (fail)
  obtain⟨w1,f⟩:=nm (A.drewN nq);have n:Hid (Ch ag A w1):=Z (by rw[<-f];exact(Ch.refl _ _).drewN nq);rw[f];clear f;have d:=Z (T.af n);have p:Hid (aj K c/\aP L Y c b P):=Z ⟨Q,R⟩;have B:=Z ((Nx.af n).row t.1 t.2);clear t0 t1 t2 t3 t4 t5 t6 m;obtain⟨t0,t1,t2,t3,t4,t5,t6⟩:=B.1.c7;have m:=d.at_.az p.1 p.2 a.toNat (by omega);rw[show((K:KS).F c).r a.toNat=a0 from u.out]at m;have r:=d.at_.e7 g;rw[o]at r;have s:=d.at_.ky g;rw[x]at s;go_wp2_with fail
  go_quiet (fail)
  generalize q:w1.drewN _=w2;have F:=Z (Ch.dN (D:=ag) q);clear q;have j:=Z (d.af F);go_wp2_with fail
  go_end0
  rw[E];exact⟨rfl,_,_,j⟩
 ·have hb:(l==0)=false:=by rw[beq_eq_false_iff_ne];exact W
  by_cases X:a0=l
  ·by_cases O:c2=0
   ·obtain rfl:=X.symm
    subst O;have hb:(l==0)=false:=by rw[beq_eq_false_iff_ne];exact W
    obtain⟨S,U⟩:=mn (K.be i {K.W i with slot:=l,hand:=0,left:=24});have ad:=Z U;have c3:Hid (Gr K S):=Z (by rw[U];exact Gr.of_eq rfl);have c5:Hid (S.wk.length=K.wk.length):=Z (by rw[U];exact bA _ _);have al:Hid ((S.W i).slot=l):=Z (by rw[U,gz g]);clear U;have E:Hid (bU K i c ⟨35,a,G,I,M,J,N⟩={S with table:=(jJ S.table l 2).2}):=Z (by unfold bU;dsimp only;rw[if_neg (by decide),if_neg (by decide),if_neg (by decide),if_pos rfl,if_pos ⟨by rw[o.out];exact W,by rw[u,o],x⟩,o,<-ad,al]);go_enter func164,ntmps164
    go_wp2_with fail
    try rw[z]
    clear z;go_quiet (fail)
    obtain⟨w1,f⟩:=nm (A.drewN nq);have n:Hid (Ch ag A w1):=Z (by rw[<-f];exact(Ch.refl _ _).drewN nq);rw[f];clear f;have d:=Z (T.af n);have p:Hid (aj K c/\aP L Y c b P):=Z ⟨Q,R⟩;have B:=Z ((Nx.af n).row t.1 t.2);clear t0 t1 t2 t3 t4 t5 t6 m;obtain⟨t0,t1,t2,t3,t4,t5,t6⟩:=B.1.c7;have m:=d.at_.az p.1 p.2 a.toNat (by omega);rw[show((K:KS).F c).r a.toNat=l from u.out]at m;have r:=d.at_.e7 g;rw[o]at r;have s:=d.at_.ky g;rw[x]at s;go_wp2_with fail
    go_quiet (fail)
    generalize q:w1.drewN _=w2;have F:=Z (Ch.dN (D:=ag) q);clear q;have j:=Z (d.af F);clear s r;have r:=j.at_.e7 g;rw[o]at r;have s:=j.at_.ky g;have c8:=j.at_.yM g;have f0:=j.at_.tn (i*38);have f1:=j.at_.tn (i*38+1);have f3:=j.at_.tn (i*38+3);obtain⟨cb,a3⟩:=nm (((w2.setCell (L.wb,i*38) (.int .u64 l)).setCell (L.wb,i*38+1) (.int .u64 0)).setCell (L.wb,i*38+3) (.int .i64 24));have av:=j.at_.DY g l 0 24;rw[a3,<-ad]at av;obtain⟨cs,ce,O⟩:=av;have V:=Z (j.trans (Gr.refl _) O);clear O;have k3:=V.at_.eh;have c9:=V.at_.ky (i:=i) (by rw[c5];exact g);rw[al]at c9;go_wp2_with fail
    try rw[a3]
    clear a3 s r c8 f0 f1 f3;go_still_tail 8,(by kernel_rfl)
    change wpList _ _ _ _ _ cb.drew;go_wp2_with fail
    refine(p9 l 2 c4 V.at_.drew).mono ?_;rintro e w4 ⟨⟨v,rfl,_⟩,cA,cf,ap⟩;have c6:=Z ((V.af (Ch.refl _ _).drew).trans c3 ap);clear ap;go_wp2_with fail
    go_end0
    rw[E];exact⟨rfl,_,_,c6⟩
   ·obtain rfl:=X.symm
    have ci:(c2==0)=false:=by rw[beq_eq_false_iff_ne];exact O
    have E:Hid (bU K i c ⟨35,a,G,I,M,J,N⟩=K):=Z (by unfold bU;dsimp only;rw[if_neg (by decide),if_neg (by decide),if_neg (by decide),if_pos rfl,if_neg (by rw[u.out,o,x];exact fun e=>O e.2.2)]);go_enter func164,ntmps164
    go_wp2_with fail
    try rw[z]
    clear z;go_quiet (fail)
    obtain⟨w1,f⟩:=nm (A.drewN nq);have n:Hid (Ch ag A w1):=Z (by rw[<-f];exact(Ch.refl _ _).drewN nq);rw[f];clear f;have d:=Z (T.af n);have p:Hid (aj K c/\aP L Y c b P):=Z ⟨Q,R⟩;have B:=Z ((Nx.af n).row t.1 t.2);clear t0 t1 t2 t3 t4 t5 t6 m;obtain⟨t0,t1,t2,t3,t4,t5,t6⟩:=B.1.c7;have m:=d.at_.az p.1 p.2 a.toNat (by omega);rw[show((K:KS).F c).r a.toNat=l from u.out]at m;have r:=d.at_.e7 g;rw[o]at r;have s:=d.at_.ky g;rw[x]at s;go_wp2_with fail
    go_quiet (fail)
    generalize q:w1.drewN _=w2;have F:=Z (Ch.dN (D:=ag) q);clear q;have j:=Z (d.af F);go_wp2_with fail
    go_end0
    rw[E];exact⟨rfl,_,_,j⟩
  ·have ch:(a0==l)=false:=by rw[beq_eq_false_iff_ne];exact X
   have E:Hid (bU K i c ⟨35,a,G,I,M,J,N⟩=K):=Z (by unfold bU;dsimp only;rw[if_neg (by decide),if_neg (by decide),if_neg (by decide),if_pos rfl,if_neg (by rw[u.out,o,x];exact fun e=>X e.2.1)]);go_enter func164,ntmps164
   go_wp2_with fail
   try rw[z]
   clear z;go_quiet (fail)
   obtain⟨w1,f⟩:=nm (A.drewN nq);have n:Hid (Ch ag A w1):=Z (by rw[<-f];exact(Ch.refl _ _).drewN nq);rw[f];clear f;have d:=Z (T.af n);have p:Hid (aj K c/\aP L Y c b P):=Z ⟨Q,R⟩;have B:=Z ((Nx.af n).row t.1 t.2);clear t0 t1 t2 t3 t4 t5 t6 m;obtain⟨t0,t1,t2,t3,t4,t5,t6⟩:=B.1.c7;have m:=d.at_.az p.1 p.2 a.toNat (by omega);rw[show((K:KS).F c).r a.toNat=a0 from u.out]at m;have r:=d.at_.e7 g;rw[o]at r;have s:=d.at_.ky g;rw[x]at s;go_wp2_with fail
   go_quiet (fail)
   generalize q:w1.drewN _=w2;have F:=Z (Ch.dN (D:=ag) q);clear q;have j:=Z (d.af F);go_wp2_with fail
   go_end0
   rw[E];exact⟨rfl,_,_,j⟩
end
end
section
open Classical in
theorem Ch.cut{D E:Nat->Prop}{w w':World}(h:Ch (Cw E D) w w'):∃w1,Ch E w w1/\Ch D w1 w'/\Ch D w' w1:=by
 refine⟨{w' with heap:=w'.heap.mapIdx fun k c=>if D k then(w.heap[k]?).getD c else c},⟨h.os,h.tape,h.output,?_,?_⟩,⟨rfl,rfl,rfl,?_,?_⟩,⟨rfl,rfl,rfl,?_,?_⟩⟩
 ·rw[Array.size_mapIdx];exact h.size
 ·intro k b d
  show(w'.heap.mapIdx _)[k]?=_
  rw[Array.getElem?_mapIdx];have f:k<w'.heap.size:=Nat.lt_of_lt_of_le b h.size;by_cases a:D k
  ·rw[Array.getElem?_eq_getElem f]
   simp[a,Array.getElem?_eq_getElem b]
  ·rw[h.same k b (fun e=>e.elim d a),Array.getElem?_eq_getElem b]
   simp[a]
 ·rw[Array.size_mapIdx];exact Nat.le_refl _
 ·intro k b a
  show _=(w'.heap.mapIdx _)[k]?
  rw[Array.getElem?_mapIdx];cases w'.heap[k]?<;>simp[a]
 ·rw[Array.size_mapIdx];exact Nat.le_refl _
 ·intro k b a
  show(w'.heap.mapIdx _)[k]?=_
  rw[Array.getElem?_mapIdx];cases w'.heap[k]?<;>simp[a]
section
variable{w w':World}{χ:Nat->a4}{L:cw}{Y:Var}{C:KC}{K:KS}
theorem ae.DZ(h:ae w χ L Y C K){c:bK}(a:aj K c){b j:Nat}(e:aP L Y c b j):∃pre post v,aG w b j (qd c) pre post v (K.F c)/\(χ b=.wk∨∃id k,χ b=.fr id k)/\∀g,v.ownBlock=some g->χ g=.back:=by
 cases c with
 |own i=>
  obtain⟨rfl,rfl⟩:=e;obtain⟨pre,post,l,_⟩:=h.tp a;exact⟨_,_,_,l,Or.inl (h.wk (by simp)).k,fun g m=>(h.wk (by simp)).kb i _ (KS.gy a) g m⟩
 |ai id k=>
  obtain⟨rfl,rfl⟩:=e;obtain⟨t,f,d⟩:=a;have hF:=h.fr id t k _ f (List.getElem?_eq_getElem d) (by simp);refine⟨[],(t.l[k]).post,Y.bv id k,?_,Or.inr ⟨id,k,hF.kf⟩,hF.kb⟩;rw[show K.F (.ai id k)=(t.l[k]).f from by
   show((K.T id).l.getD k default).f=_
   rw[KS.df f,List.getD_eq_getElem?_getD,List.getElem?_eq_getElem d];rfl]
  exact hF.is
theorem wq(K:KS)(c:bK)(f:cE)(S:aF):({K with mem:=S}:KS).cH c f={K.cH c f with mem:=S}:=by cases c<;>rfl
theorem ae.A'(h:ae w χ L Y C K){c:bK}(n:aj K c){b j:Nat}(F:aP L Y c b j){pre post:List Value}{v l:Value}{f:cE}{S:aF}(y:aG w b j (qd c) pre post v (K.F c))(o:χ b=.wk∨∃id k,χ b=.fr id k)(G:∀g,v.ownBlock=some g->χ g=.back)
 (z:aG w' b j (qd c) pre post l f) (p:aQ w v l) (E:aO w' L.m L.c L.d S) (x:Ch (Cw (aK b) (di L.m L.c)) w w'):∃aW Y',dB χ L Y C K (({K with mem:=S}:KS).cH c f) w aW Y' w':=by
 obtain⟨w1,s,t,u⟩:=x.cut;have a:=h.mem (by simp);have hb:¬di L.m L.c b:=fun e=>by
  rcases e with rfl|rfl
  ·rcases o with e|⟨_,_,e⟩<;>rw[a.k1]at e<;>cases e
  ·rcases o with e|⟨_,_,e⟩<;>rw[a.k2]at e<;>cases e
 have A:aG w1 b j (qd c) pre post l f:=z.ch u hb (fun g B e=>by
  rcases p g B with m|m
  ·have d:=G g m
   rcases e with rfl|rfl
   ·rw[a.k1]at d;cases d
   ·rw[a.k2]at d;cases d
  ·rcases e with rfl|rfl
   ·have:=a.is.head.lt;omega
   ·have:=a.is.cells.lt;omega)
 obtain⟨I,r,q⟩:=h.yN n F y A p s;have H:=q.at_.o3 E t (fun i D=>gN D);rw[wq];exact⟨I,r,q.trans (bs n f) H⟩
end
end
section
section
variable{w w1 w2:World}{χ aW:Nat->a4}{L:cw}{Y Y':Var}{C:KC}{K K':KS}
theorem ae.plain(h:ae w1 χ L Y C K){b:Nat}(hb:χ b=.no)(c:Ch (aK b) w1 w2):ae w2 χ L Y C K:=by
 have s:eI [.no] χ χ (aK b) w1 w2:=eI.one c (fun i e=>by rw[show i=b from e];simp[hb]) h.small;have k:=h.step s (by simp);exact {head:=fun _=>k.head (by simp),mem:=fun _=>k.mem (by simp),al:=fun _=>k.al (by simp),bW:=fun _=>k.bW (by simp),ring:=fun _=>k.ring (by simp),q:=fun _=>k.q (by simp),cX:=fun _=>k.cX (by simp),obj:=fun _=>k.obj (by simp),wk:=fun _=>k.wk (by simp),tm:=fun _=>k.tm (by simp),th:=fun i t h _=>k.th i t h (by simp),tl:=fun i t h _=>k.tl i t h (by simp),fr:=fun i t j f a d _=>k.fr i t j f a d (by simp),out:=fun _=>k.out (by simp),code:=fun _=>k.code (by simp),small:=k.small}
theorem dB.plain(m:dB χ L Y C K K' w aW Y' w1){b:Nat}(hb:aW b=.no)(f:w.heap.size<=b)(c:Ch (aK b) w1 w2):dB χ L Y C K K' w aW Y' w2:=
 ⟨m.at_.plain hb c,⟨⟨c.os.trans m.nx.ch.os,c.tape.trans m.nx.ch.tape,c.output.trans m.nx.ch.output,Nat.le_trans m.nx.ch.size c.size,fun k a d=>(c.same k (Nat.lt_of_lt_of_le a m.nx.ch.size) (fun e=>by rw[show k=b from e]at a;omega)).trans (m.nx.ch.same k a d)⟩,m.nx.same⟩,m.yk⟩
end
end
end Go.Proofs.YtfnilkpkogipfaaGreatDoor
