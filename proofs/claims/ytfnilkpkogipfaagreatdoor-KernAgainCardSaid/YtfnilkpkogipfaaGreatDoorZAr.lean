import Derived.Test.YtfnilkpkogipfaaGreatDoorZAl
import Derived.Test.YtfnilkpkogipfaaGreatDoorZAm
import Derived.Test.YtfnilkpkogipfaaGreatDoorZAn
set_option linter.all false
set_option maxRecDepth 100000
set_option maxHeartbeats 8000000
namespace Go.Proofs.YtfnilkpkogipfaaGreatDoor
open Go.RowKit Go.Proofs.Tryz
section
section
variable{w:World}{χ:Nat->aX}{L:cz}{Y:Var}{C:KC}{K:KS}
theorem gM{i:Nat}{x:ay}(a:i<K.wk.length):(K.be i x).W i=x:=KS.B6 (by show(K.wk.set i x)[i]?=_;rw[List.getElem?_set_self a])
theorem pD(i:Nat)(x y:ay):(K.be i x).be i y=K.be i y:=by unfold KS.be;simp
theorem Ea(c:bN)(f:cu){i:Nat}(a:i<K.wk.length):∃g,(K.cJ c f).W i={K.W i with f:=g}:=by
 cases c with
 |own j=>
  show∃g,(K.be j _).W i=_
  by_cases e:j=i
  ·subst e;exact⟨f,gM a⟩
  ·refine⟨(K.W i).f,?_⟩
   rw[KS.B6 (x:=K.W i) (by show(K.wk.set j _)[i]?=_;rw[List.getElem?_set_ne e];exact KS.gY a)]
 |ai id k=>exact⟨(K.W i).f,rfl⟩
theorem xp{i:Nat}(a:i<K.wk.length)(c:bN)(f:cu):((K.cJ c f).W i).hand=(K.W i).hand:=by
 obtain⟨g,h⟩:=Ea c f a;rw[h]
theorem ae.Fz(h:ae w χ L Y C K){i:Nat}(a:i<K.wk.length)(s b l:Int):∃aY Y',dJ χ L Y C K (K.be i {K.W i with slot:=s,hand:=b,left:=l}) w aY Y' (((w.setCell (L.wb,i*38) (.int .u64 s)).setCell (L.wb,i*38+1) (.int .u64 b)).setCell (L.wb,i*38+3) (.int .i64 l)):=by
 obtain⟨n,k,c⟩:=h.vO a s;obtain⟨o,m,d⟩:=c.at_.jM (i:=i) (by rw[bF];exact a) b;obtain⟨j,f,g⟩:=d.at_.vP (i:=i) (by rw[bF,bF];exact a) l;refine⟨j,f,?_⟩;have e:=(c.trans (Gr.of_eq rfl) d).trans (Gr.of_eq rfl) g;rw[pD,pD,gM (by rw[bF];exact a),gM a]at e;exact e
theorem zO(i:Nat)(G:i<K.wk.length)(c:bN)(b t:Nat)(F:ak K c)(I:aS L Y c b t)(J:∀k,k<32->aI ((K.F c).r k))(a f g l j m:Int)(R:0<=a/\a<32)(h:ae w χ L Y C K):
 Calls prog 164 #[(L.mb,0),(L.wb,i*38),(b,t),.agg #[.int .i64 30,a,f,g,.int .u64 l,j,m]] w (dj (.tuple #[]) χ L Y C K (bY K i c ⟨30,a,f,g,l,j,m⟩) w):=by
 have H:=Z h;have v:=Z F;have z:=Z I;have P:=Z G;obtain⟨N,M,S,A,n⟩:=h.pre 30 a f g l j m;obtain⟨W,X⟩:=R;obtain⟨u,s⟩:∃y,(K.F c).r a.toNat=y:=⟨_,rfl⟩;have p:=Z s;have o:=Z (J a.toNat (by omega));rw[s]at o;obtain⟨U,V⟩:=o.out;clear s;obtain⟨t0,t1,t2,t3,t4,t5,t6⟩:=n.1.c7;have d:=A.at_.aC v z a.toNat (by omega);rw[p]at d;clear h F I J G;have E:Hid (bY K i c ⟨30,a,f,g,l,j,m⟩=eK K i u):=Z (by unfold bY;dsimp only;rw[if_pos rfl,p]);go_in
 go_wp2
 try rw[M]
 clear M;go_quiet (fail)
 obtain⟨w1,r⟩:=nm (N.drewN nq);have x:Hid (Ch ag N w1):=Z (by rw[<-r];exact(Ch.refl _ _).drewN nq);rw[r];clear r;have q:=Z (A.af x);have B:Hid (ak K c/\aS L Y c b t):=Z ⟨v,z⟩;have O:=Z ((Nx.af x).row n.1 n.2);clear t0 t1 t2 t3 t4 t5 t6 d;obtain⟨t0,t1,t2,t3,t4,t5,t6⟩:=O.1.c7;have d:=q.at_.aC B.1 B.2 a.toNat (by omega);rw[show((K:KS).F c).r a.toNat=u from p.out]at d;go_wp2_with fail
 refine(pC i P u o q.at_).mono ?_;rintro e w2 ⟨rfl,a0,T,D⟩;have Q:=Z (q.trans (Gr.refl _) D);clear D;go_wp2
 go_end0
 rw[E];exact⟨rfl,_,_,Q⟩
theorem zP(i:Nat)(T:i<K.wk.length)(c:bN)(b z:Nat)(S:ak K c)(U:aS L Y c b z)(V:∀k,k<32->aI ((K.F c).r k))(a p q s r t:Int)(a2:0<=a/\a<32)(N:aI (K.W i).hand)(h:ae w χ L Y C K):
 Calls prog 164 #[(L.mb,0),(L.wb,i*38),(b,z),.agg #[.int .i64 33,a,p,q,.int .u64 s,r,t]] w (dj (.tuple #[]) χ L Y C K (bY K i c ⟨33,a,p,q,s,r,t⟩) w):=by
 have H:=Z h;have F:=Z S;have G:=Z U;have u:=Z T;obtain⟨B,x,ad,J,j⟩:=h.pre 33 a p q s r t;obtain⟨bi,bv⟩:=a2;obtain⟨W,O⟩:∃y,(K.F c).r a.toNat=y:=⟨_,rfl⟩;have I:=Z O;have Q:=Z (V a.toNat (by omega));rw[O]at Q;obtain⟨av,ax⟩:=Q.out;clear O;obtain⟨t0,t1,t2,t3,t4,t5,t6⟩:=j.1.c7;have f:=J.at_.aC F G a.toNat (by omega);rw[I]at f;obtain⟨o,M⟩:=nm ((K.W i).hand);have m:=Z M;rw[M]at N;have X:=Z N;clear N;clear h S U V T;clear M;by_cases P:o=0
 ·subst P
  have E:Hid (bY K i c ⟨33,a,p,q,s,r,t⟩=K):=Z (by unfold bY;dsimp only;rw[if_neg (by decide),if_pos rfl,if_neg (by rw[m.out];simp)]);go_in
  go_wp2
  try rw[x]
  clear x;go_quiet (fail)
  obtain⟨w1,g⟩:=nm (B.drewN nq);have l:Hid (Ch ag B w1):=Z (by rw[<-g];exact(Ch.refl _ _).drewN nq);rw[g];clear g;have d:=Z (J.af l);have n:Hid (ak K c/\aS L Y c b z):=Z ⟨F,G⟩;have D:=Z ((Nx.af l).row j.1 j.2);clear t0 t1 t2 t3 t4 t5 t6 f;obtain⟨t0,t1,t2,t3,t4,t5,t6⟩:=D.1.c7;have f:=d.at_.aC n.1 n.2 a.toNat (by omega);rw[show((K:KS).F c).r a.toNat=W from I.out]at f;have A:=d.at_.fD u;rw[m]at A;go_wp2
  go_end0
  rw[E];exact⟨rfl,_,_,d⟩
 ·have hb:(o==0)=false:=by rw[beq_eq_false_iff_ne];exact P
  have E:Hid (bY K i c ⟨33,a,p,q,s,r,t⟩=(cv K o).be i {(cv K o).W i with hand:=0}):=Z (by unfold bY;dsimp only;rw[if_neg (by decide),if_pos rfl,if_pos (by rw[m.out];exact P),m]);go_in
  go_wp2
  try rw[x]
  clear x;go_quiet (fail)
  obtain⟨w1,g⟩:=nm (B.drewN nq);have l:Hid (Ch ag B w1):=Z (by rw[<-g];exact(Ch.refl _ _).drewN nq);rw[g];clear g;have d:=Z (J.af l);have n:Hid (ak K c/\aS L Y c b z):=Z ⟨F,G⟩;have D:=Z ((Nx.af l).row j.1 j.2);clear t0 t1 t2 t3 t4 t5 t6 f;obtain⟨t0,t1,t2,t3,t4,t5,t6⟩:=D.1.c7;have f:=d.at_.aC n.1 n.2 a.toNat (by omega);rw[show((K:KS).F c).r a.toNat=W from I.out]at f;have A:=d.at_.fD u;rw[m]at A;go_wp2_with fail
  refine(fh o X d.at_).mono ?_;rintro e w2 ⟨rfl,bw,al,R⟩;have v:=Z (d.trans (Gr.refl _) R);clear R A f t0 t1 t2 t3 t4 t5 t6;have ap:=v.at_.fD (i:=i) (by exact u);have am:=v.at_.uf (i*38+1);have a1:=Z (v.at_.jM (i:=i) (by exact u) 0);go_wp2
  go_end0
  rw[E];obtain⟨ab,a0,a3⟩:=a1.out;exact⟨rfl,ab,a0,v.trans (Gr.of_eq rfl) a3⟩
theorem zQ(i:Nat)(bw:i<K.wk.length)(c:bN)(b j:Nat)(bi:ak K c)(bx:aS L Y c b j)(c1:∀k,k<32->aI ((K.F c).r k))(a F G J I M:Int)(c9:0<=a/\a<32)(h:ae w χ L Y C K):
 Calls prog 164 #[(L.mb,0),(L.wb,i*38),(b,j),.agg #[.int .i64 34,a,F,G,.int .u64 J,I,M]] w (dj (.tuple #[]) χ L Y C K (bY K i c ⟨34,a,F,G,J,I,M⟩) w):=by
 have H:=Z h;have l:=Z bi;have q:=Z bx;have o:=Z bw;obtain⟨U,S,ck,X,z⟩:=h.pre 34 a F G J I M;obtain⟨cW,dr⟩:=c9;obtain⟨c3,a2⟩:∃y,(K.F c).r a.toNat=y:=⟨_,rfl⟩;have W:=Z a2;have am:=Z (c1 a.toNat (by omega));rw[a2]at am;obtain⟨cQ,cS⟩:=am.out;clear a2;obtain⟨t0,t1,t2,t3,t4,t5,t6⟩:=z.1.c7;have n:=X.at_.aC l q a.toNat (by omega);rw[W]at n;obtain⟨a1,bv⟩:=nm ((K.W i).hand);have c4:=Z bv;clear h bi bx c1 bw;clear bv;have P:Hid (((K.az c a.toNat 0).W i).hand=a1):=Z ((xp o c _).trans c4);have B:Hid ((K.az c a.toNat 0).wk.length=K.wk.length):=Z (bq _ _);have N:Hid (Gr K (K.az c a.toNat 0)):=Z (bu l _);by_cases a3:a1=0
 ·subst a3
  obtain⟨p,c0⟩:=nm (gU K.ring);have ad:Hid (gU (K.az c a.toNat 0).ring=p):=Z (by rw[<-c0];congr 1;exact xo _ _);clear c0;obtain⟨pv,cA,cd⟩:=p;obtain⟨m,R⟩:=mn (({K.az c a.toNat 0 with ring:=cd}:KS));have ab:=Z R;have O:Hid (Gr K m):=Z (by rw[R];exact N.trans (Gr.of_eq rfl));have D:Hid (m.wk.length=K.wk.length):=Z (by rw[R];exact B);have av:Hid ((m.be i {m.W i with hand:=pv}).wk.length=K.wk.length):=Z ((bF _ _).trans D);have ap:Hid (((m.be i {m.W i with hand:=pv}).W i).hand=pv):=Z (by rw[gM (by rw[D];exact o)]);clear R;have E:Hid (bY K i c ⟨34,a,F,G,J,I,M⟩=(m.be i {m.W i with hand:=pv}).az c a.toNat pv):=Z (by unfold bY;dsimp only;rw[if_neg (by decide),if_neg (by decide),if_pos rfl,if_pos P.out,ad,<-ab,ap]);go_in
  go_wp2
  try rw[S]
  clear S;go_quiet (fail)
  obtain⟨w1,s⟩:=nm (U.drewN nq);have A:Hid (Ch ag U w1):=Z (by rw[<-s];exact(Ch.refl _ _).drewN nq);rw[s];clear s;have f:=Z (X.af A);have d:Hid (ak K c/\aS L Y c b j):=Z ⟨l,q⟩;have V:=Z ((Nx.af A).row z.1 z.2);clear t0 t1 t2 t3 t4 t5 t6 n;obtain⟨t0,t1,t2,t3,t4,t5,t6⟩:=V.1.c7;have n:=f.at_.aC d.1 d.2 a.toNat (by omega);rw[show((K:KS).F c).r a.toNat=c3 from W.out]at n;have ax:=f.at_.hg d.1 d.2 (j+1+a.toNat);obtain⟨cf,c6,r⟩:=f.at_.a9 d.1 d.2 a.toNat (by omega) 0;obtain⟨w2,x⟩:=nm (w1.setCell (b,j+1+a.toNat) (.int .u64 0));rw[x]at r;have g:=Z (f.trans (Gr.refl _) r);have c5:=Z (g.cur l q N B);clear r;have T:=g.at_.fD (i:=i) (by rw[B];exact o);rw[P]at T;have k2:=g.at_.nN;have al:=Z (xi g.at_);rw[ad]at al;go_wp2_with fail
  try rw[x]
  clear x;refine al.mono ?_;rintro e w3 ⟨rfl,dC,cm,Q⟩;try dsimp only at Q
  rw[<-ab]at Q;have t:=Z (g.trans N Q);have cl:=Z (t.cur l q O D);have ci:=Z (t.nx.trans (Nx.refl _ _));clear Q T k2 ax n t0 t1 t2 t3 t4 t5 t6;have cL:=t.at_.fD (i:=i) (by rw[D];exact o);have cr:=t.at_.uf (i*38+1);obtain⟨dN,cq,a0⟩:=t.at_.jM (i:=i) (by rw[D];exact o) pv;obtain⟨w4,c2⟩:=nm (w3.setCell (L.wb,i*38+1) (.int .u64 pv));rw[c2]at a0;have u:=Z (t.trans O a0);have v:=Z (u.cur l q (O.trans (Gr.of_eq rfl)) av);clear a0;have ce:=u.at_.fD (i:=i) (by rw[av];exact o);rw[ap]at ce;have cC:=u.at_.aC v.1 v.2 a.toNat (by omega);have cs:=u.at_.hg v.1 v.2 (j+1+a.toNat);have c8:=Z (u.at_.a9 v.1 v.2 a.toNat (by omega) pv);go_wp2
  try rw[c2]
  go_end0
  rw[E];obtain⟨ch,c7,cb⟩:=c8.out;exact⟨rfl,ch,c7,u.trans (O.trans (Gr.of_eq rfl)) cb⟩
 ·have hb:(a1==0)=false:=by rw[beq_eq_false_iff_ne];exact a3
  have E:Hid (bY K i c ⟨34,a,F,G,J,I,M⟩=K.az c a.toNat 0):=Z (by unfold bY;dsimp only;rw[if_neg (by decide),if_neg (by decide),if_pos rfl,if_neg (by rw[P.out];exact a3)]);go_in
  go_wp2
  try rw[S]
  clear S;go_quiet (fail)
  obtain⟨w1,s⟩:=nm (U.drewN nq);have A:Hid (Ch ag U w1):=Z (by rw[<-s];exact(Ch.refl _ _).drewN nq);rw[s];clear s;have f:=Z (X.af A);have d:Hid (ak K c/\aS L Y c b j):=Z ⟨l,q⟩;have V:=Z ((Nx.af A).row z.1 z.2);clear t0 t1 t2 t3 t4 t5 t6 n;obtain⟨t0,t1,t2,t3,t4,t5,t6⟩:=V.1.c7;have n:=f.at_.aC d.1 d.2 a.toNat (by omega);rw[show((K:KS).F c).r a.toNat=c3 from W.out]at n;have ax:=f.at_.hg d.1 d.2 (j+1+a.toNat);obtain⟨cf,c6,r⟩:=f.at_.a9 d.1 d.2 a.toNat (by omega) 0;obtain⟨w2,x⟩:=nm (w1.setCell (b,j+1+a.toNat) (.int .u64 0));rw[x]at r;have g:=Z (f.trans (Gr.refl _) r);have c5:=Z (g.cur l q N B);clear r;have T:=g.at_.fD (i:=i) (by rw[B];exact o);rw[P]at T;go_wp2
  try rw[x]
  go_end0
  rw[E];exact⟨rfl,_,_,g⟩
theorem zR(i:Nat)(bi:i<K.wk.length)(c:bN)(b P:Nat)(ax:ak K c)(bv:aS L Y c b P)(bw:∀k,k<32->aI ((K.F c).r k))(a G I M J N:Int)(c5:0<=a/\a<32)(a2:aI (K.W i).hand)(h:ae w χ L Y C K):
 Calls prog 164 #[(L.mb,0),(L.wb,i*38),(b,P),.agg #[.int .i64 35,a,G,I,.int .u64 M,J,N]] w (dj (.tuple #[]) χ L Y C K (bY K i c ⟨35,a,G,I,M,J,N⟩) w):=by
 have H:=Z h;have Q:=Z ax;have R:=Z bv;have g:=Z bi;obtain⟨A,z,c8,T,t⟩:=h.pre 35 a G I M J N;obtain⟨ci,ck⟩:=c5;obtain⟨a0,ab⟩:∃y,(K.F c).r a.toNat=y:=⟨_,rfl⟩;have u:=Z ab;have am:=Z (bw a.toNat (by omega));rw[ab]at am;obtain⟨cf,ch⟩:=am.out;clear ab;obtain⟨t0,t1,t2,t3,t4,t5,t6⟩:=t.1.c7;have m:=T.at_.aC Q R a.toNat (by omega);rw[u]at m;obtain⟨l,a1⟩:=nm ((K.W i).hand);have o:=Z a1;obtain⟨c0,bx⟩:=nm ((K.W i).slot);have x:=Z bx;rw[a1]at a2;have c2:=Z a2;clear a2;clear h ax bv bw bi;clear a1 bx;by_cases W:l=0
 ·subst W
  have E:Hid (bY K i c ⟨35,a,G,I,M,J,N⟩=K):=Z (by unfold bY;dsimp only;rw[if_neg (by decide),if_neg (by decide),if_neg (by decide),if_pos rfl,if_neg (by rw[u.out,o,x];simp)]);go_in
  go_wp2
  try rw[z]
  clear z;go_quiet (fail)
  obtain⟨w1,f⟩:=nm (A.drewN nq);have n:Hid (Ch ag A w1):=Z (by rw[<-f];exact(Ch.refl _ _).drewN nq);rw[f];clear f;have d:=Z (T.af n);have p:Hid (ak K c/\aS L Y c b P):=Z ⟨Q,R⟩;have B:=Z ((Nx.af n).row t.1 t.2);clear t0 t1 t2 t3 t4 t5 t6 m;obtain⟨t0,t1,t2,t3,t4,t5,t6⟩:=B.1.c7;have m:=d.at_.aC p.1 p.2 a.toNat (by omega);rw[show((K:KS).F c).r a.toNat=a0 from u.out]at m;have r:=d.at_.fD g;rw[o]at r;have s:=d.at_.mx g;rw[x]at s;go_wp2
  go_quiet (fail)
  generalize q:w1.drewN _=w2;have F:=Z (Ch.dN (D:=ag) q);clear q;have j:=Z (d.af F);go_wp2
  go_end0
  rw[E];exact⟨rfl,_,_,j⟩
 ·have hb:(l==0)=false:=by rw[beq_eq_false_iff_ne];exact W
  by_cases X:a0=l
  ·by_cases O:c0=0
   ·obtain rfl:=X.symm
    subst O;have hb:(l==0)=false:=(by rw[beq_eq_false_iff_ne];exact W);obtain⟨S,U⟩:=mn (K.be i {K.W i with slot:=l,hand:=0,left:=24});have ad:=Z U;have c1:Hid (Gr K S):=Z (by rw[U];exact Gr.of_eq rfl);have c3:Hid (S.wk.length=K.wk.length):=Z (by rw[U];exact bF _ _);have al:Hid ((S.W i).slot=l):=Z (by rw[U,gM g]);clear U;have E:Hid (bY K i c ⟨35,a,G,I,M,J,N⟩={S with table:=(j3 S.table l 2).2}):=Z (by unfold bY;dsimp only;rw[if_neg (by decide),if_neg (by decide),if_neg (by decide),if_pos rfl,if_pos ⟨by rw[o.out];exact W,by rw[u,o],x⟩,o,<-ad,al]);go_in
    go_wp2
    try rw[z]
    clear z;go_quiet (fail)
    obtain⟨w1,f⟩:=nm (A.drewN nq);have n:Hid (Ch ag A w1):=Z (by rw[<-f];exact(Ch.refl _ _).drewN nq);rw[f];clear f;have d:=Z (T.af n);have p:Hid (ak K c/\aS L Y c b P):=Z ⟨Q,R⟩;have B:=Z ((Nx.af n).row t.1 t.2);clear t0 t1 t2 t3 t4 t5 t6 m;obtain⟨t0,t1,t2,t3,t4,t5,t6⟩:=B.1.c7;have m:=d.at_.aC p.1 p.2 a.toNat (by omega);rw[show((K:KS).F c).r a.toNat=l from u.out]at m;have r:=d.at_.fD g;rw[o]at r;have s:=d.at_.mx g;rw[x]at s;go_wp2
    go_quiet (fail)
    generalize q:w1.drewN _=w2;have F:=Z (Ch.dN (D:=ag) q);clear q;have j:=Z (d.af F);clear s r;have r:=j.at_.fD g;rw[o]at r;have s:=j.at_.mx g;have c6:=j.at_.Dl g;have f0:=j.at_.uf (i*38);have f1:=j.at_.uf (i*38+1);have f3:=j.at_.uf (i*38+3);obtain⟨w3,a3⟩:=nm (((w2.setCell (L.wb,i*38) (.int .u64 l)).setCell (L.wb,i*38+1) (.int .u64 0)).setCell (L.wb,i*38+3) (.int .i64 24));have av:=j.at_.Fz g l 0 24;rw[a3,<-ad]at av;obtain⟨cl,c9,O⟩:=av;have V:=Z (j.trans (Gr.refl _) O);clear O;have k3:=V.at_.ea;have c7:=V.at_.mx (i:=i) (by rw[c3];exact g);rw[al]at c7;go_wp2
    try rw[a3]
    clear a3 s r c6 f0 f1 f3;go_still_tail 8,(by kernel_rfl)
    change wpList _ _ _ _ _ w3.drew;go_wp2_with fail
    refine(qE l 2 c2 V.at_.drew).mono ?_;rintro e w4 ⟨⟨v,rfl,_⟩,cm,cb,ap⟩;have c4:=Z ((V.af (Ch.refl _ _).drew).trans c1 ap);clear ap;go_wp2
    go_end0
    rw[E];exact⟨rfl,_,_,c4⟩
   ·obtain rfl:=X.symm
    have ce:(c0==0)=false:=(by rw[beq_eq_false_iff_ne];exact O);have E:Hid (bY K i c ⟨35,a,G,I,M,J,N⟩=K):=Z (by unfold bY;dsimp only;rw[if_neg (by decide),if_neg (by decide),if_neg (by decide),if_pos rfl,if_neg (by rw[u.out,o,x];exact fun e=>O e.2.2)]);go_in
    go_wp2
    try rw[z]
    clear z;go_quiet (fail)
    obtain⟨w1,f⟩:=nm (A.drewN nq);have n:Hid (Ch ag A w1):=Z (by rw[<-f];exact(Ch.refl _ _).drewN nq);rw[f];clear f;have d:=Z (T.af n);have p:Hid (ak K c/\aS L Y c b P):=Z ⟨Q,R⟩;have B:=Z ((Nx.af n).row t.1 t.2);clear t0 t1 t2 t3 t4 t5 t6 m;obtain⟨t0,t1,t2,t3,t4,t5,t6⟩:=B.1.c7;have m:=d.at_.aC p.1 p.2 a.toNat (by omega);rw[show((K:KS).F c).r a.toNat=l from u.out]at m;have r:=d.at_.fD g;rw[o]at r;have s:=d.at_.mx g;rw[x]at s;go_wp2
    go_quiet (fail)
    generalize q:w1.drewN _=w2;have F:=Z (Ch.dN (D:=ag) q);clear q;have j:=Z (d.af F);go_wp2
    go_end0
    rw[E];exact⟨rfl,_,_,j⟩
  ·have cd:(a0==l)=false:=by rw[beq_eq_false_iff_ne];exact X
   have E:Hid (bY K i c ⟨35,a,G,I,M,J,N⟩=K):=Z (by unfold bY;dsimp only;rw[if_neg (by decide),if_neg (by decide),if_neg (by decide),if_pos rfl,if_neg (by rw[u.out,o,x];exact fun e=>X e.2.1)]);go_in
   go_wp2
   try rw[z]
   clear z;go_quiet (fail)
   obtain⟨w1,f⟩:=nm (A.drewN nq);have n:Hid (Ch ag A w1):=Z (by rw[<-f];exact(Ch.refl _ _).drewN nq);rw[f];clear f;have d:=Z (T.af n);have p:Hid (ak K c/\aS L Y c b P):=Z ⟨Q,R⟩;have B:=Z ((Nx.af n).row t.1 t.2);clear t0 t1 t2 t3 t4 t5 t6 m;obtain⟨t0,t1,t2,t3,t4,t5,t6⟩:=B.1.c7;have m:=d.at_.aC p.1 p.2 a.toNat (by omega);rw[show((K:KS).F c).r a.toNat=a0 from u.out]at m;have r:=d.at_.fD g;rw[o]at r;have s:=d.at_.mx g;rw[x]at s;go_wp2
   go_quiet (fail)
   generalize q:w1.drewN _=w2;have F:=Z (Ch.dN (D:=ag) q);clear q;have j:=Z (d.af F);go_wp2
   go_end0
   rw[E];exact⟨rfl,_,_,j⟩
end
end
section
section
variable{w:World}{χ:Nat->aX}{L:cz}{Y:Var}{C:KC}{K:KS}
theorem xH(i:Nat)(c0:i<K.wk.length)(c:bN)(b F:Nat)(bx:ak K c)(c1:aS L Y c b F)(al:∀k,k<32->aI ((K.F c).r k))(a g j V U W:Int)(cl:0<=a/\a<32)(hb:0<=g/\g<32)(cm:0<=j/\j<32)(cW:C.a8.length<=2048)(bv:K.blocks.Ok)(bw:(dd K.blocks K.mem 1).2.1.Ok)(av:∀cq id,(df K.table cq).1=some id->aw K.ai id=none)(c3:aI (bL K (wrap64 ((K.F c).r g.toNat)) ((K.F c).r j.toNat)).1)(h:ae w χ L Y C K):
 Calls prog 166 #[(L.mb,0),(L.wb,i*38),(b,F),.agg #[.int .i64 48,a,g,j,.int .u64 V,U,W]] w (dj (.tuple #[]) χ L Y C K (bA C K i c ⟨48,a,g,j,V,U,W⟩) w):=by
 have H:=Z h;have v:=Z bx;have x:=Z c1;have ci:=Z c0;obtain⟨T,R,cL,P,G⟩:=h.pre 48 a g j V U W;obtain⟨eA,eC⟩:=cl;obtain⟨c7,c4⟩:∃y,(K.F c).r a.toNat=y:=⟨_,rfl⟩;have ap:=Z c4;have cb:=Z (al a.toNat (by omega));rw[c4]at cb;obtain⟨dN,ec⟩:=cb.out;clear c4;obtain⟨eL,eS⟩:=hb;obtain⟨m,c5⟩:∃y,(K.F c).r g.toNat=y:=⟨_,rfl⟩;have B:=Z c5;have cd:=Z (al g.toNat (by omega));rw[c5]at cd;obtain⟨en,es⟩:=cd.out;clear c5;obtain⟨eW,fb⟩:=cm;obtain⟨N,c6⟩:∃y,(K.F c).r j.toNat=y:=⟨_,rfl⟩;have I:=Z c6;have ce:=Z (al j.toNat (by omega));rw[c6]at ce;obtain⟨et,ex⟩:=ce.out;clear c6;obtain⟨t0,t1,t2,t3,t4,t5,t6⟩:=G.1.c7;have l:=P.at_.aC v x a.toNat (by omega);rw[ap]at l;have q:=P.at_.aC v x g.toNat (by omega);rw[B]at q;have r:=P.at_.aC v x j.toNat (by omega);rw[I]at r;obtain⟨n,ad⟩:=nm C.a8.length;have O:=Z ad;have dC:(n:Int)<=2048:=by omega
 by_cases M:m<(n:Int)
 ·have cr:wrap64 m=m:=by unfold wrap64;omega
  have dr:IntKind.i64.wrap m=m:=IntWalk.i64_in _ (by omega);have a1:=Z (fun w h=>xn (K:=K) (w:=w) (χ:=χ) (L:=L) (Y:=Y) (C:=C) (wrap64 m) N bv bw av h);have o:=Z (And.intro (kX (K:=K) (wrap64 m) N av) (nV (K:=K) (wrap64 m) N));have ax:=c3;rw[B,I]at ax;obtain⟨p,c2⟩:=nm (bL K (wrap64 m) N);have c8:=Z c2;rw[c2]at a1 o ax;rw[cr]at a1;obtain⟨S,K'⟩:=p;have c9:=Z ax;have M:=(show m<(C.a8.length:Int)by rw[ad];exact M);rw[ad]at M;have cQ:=Z M;obtain⟨cs,cA⟩:=c9.out;dsimp only at cs cA a1 o;clear h bx c1 al c0 av bv bw c3 ax ad c2;by_cases D:S=0
  ·subst D
   have E:Hid (bA C K i c ⟨48,a,g,j,V,U,W⟩=K'.az c a.toNat 0):=Z (by unfold bA;dsimp only;rw[if_pos rfl,B,I,O,if_pos M,c8];rfl);go_in
   go_wp2
   try rw[R]
   clear R;go_quiet (fail)
   obtain⟨w1,s⟩:=nm (T.drewN nq);have A:Hid (Ch ag T w1):=Z (by rw[<-s];exact(Ch.refl _ _).drewN nq);rw[s];clear s;have f:=Z (P.af A);have d:Hid (ak K c/\aS L Y c b F):=Z ⟨v,x⟩;have u:=Z ((Nx.af A).row G.1 G.2);clear t0 t1 t2 t3 t4 t5 t6 l q r;obtain⟨t0,t1,t2,t3,t4,t5,t6⟩:=u.1.c7;have l:=f.at_.aC d.1 d.2 a.toNat (by omega);rw[show((K:KS).F c).r a.toNat=c7 from ap.out]at l;have q:=f.at_.aC d.1 d.2 g.toNat (by omega);rw[show((K:KS).F c).r g.toNat=m from B.out]at q;have r:=f.at_.aC d.1 d.2 j.toNat (by omega);rw[show((K:KS).F c).r j.toNat=N from I.out]at r;have k1:=f.at_.c3;rw[O]at k1;go_wp2_with fail
   go_wp2
   go_still_tail 10,(by kernel_rfl)
   change wpList _ _ _ _ _ w1.drew;go_wp2_with fail
   refine(a1 _ f.at_.drew).mono ?_;rintro e w2 ⟨rfl,cC,ck,J⟩;have t:=Z ((f.af (Ch.refl _ _).drew).trans (Gr.refl _) J);have a0:=Z (((Nx.af (Ch.refl _ w1).drew).trans J.nx).row u.1 u.2);have z:=Z (t.cur v x (o.1) (by rw[o.2]));clear J;clear t0 t1 t2 t3 t4 t5 t6 l q r k1;obtain⟨t0,t1,t2,t3,t4,t5,t6⟩:=a0.1.c7;have l:=t.at_.aC z.1 z.2 a.toNat (by omega);have cf:=t.at_.hg z.1 z.2 (F+1+a.toNat);have ab:=Z (t.at_.drew.a9 z.1 z.2 a.toNat (by omega) 0);have X:Hid (Gr K _):=Z (o.1);go_wp2
   go_still_tail 6,(by kernel_rfl)
   change wpList _ _ _ _ _ w2.drew;go_wp2
   go_end0
   rw[E];obtain⟨am,a3,D⟩:=ab.out;exact⟨rfl,am,a3,(t.af (Ch.refl _ _).drew).trans X D⟩
  ·have E:Hid (bA C K i c ⟨48,a,g,j,V,U,W⟩=(eo K' i S).az c a.toNat S):=Z (by unfold bA;dsimp only;rw[if_pos rfl,B,I,O,if_pos M,c8];rw[if_pos D])
   go_in
   go_wp2
   try rw[R]
   clear R;go_quiet (fail)
   obtain⟨w1,s⟩:=nm (T.drewN nq);have A:Hid (Ch ag T w1):=Z (by rw[<-s];exact(Ch.refl _ _).drewN nq);rw[s];clear s;have f:=Z (P.af A);have d:Hid (ak K c/\aS L Y c b F):=Z ⟨v,x⟩;have u:=Z ((Nx.af A).row G.1 G.2);clear t0 t1 t2 t3 t4 t5 t6 l q r;obtain⟨t0,t1,t2,t3,t4,t5,t6⟩:=u.1.c7;have l:=f.at_.aC d.1 d.2 a.toNat (by omega);rw[show((K:KS).F c).r a.toNat=c7 from ap.out]at l;have q:=f.at_.aC d.1 d.2 g.toNat (by omega);rw[show((K:KS).F c).r g.toNat=m from B.out]at q;have r:=f.at_.aC d.1 d.2 j.toNat (by omega);rw[show((K:KS).F c).r j.toNat=N from I.out]at r;have k1:=f.at_.c3;rw[O]at k1;go_wp2_with fail
   go_wp2
   go_still_tail 10,(by kernel_rfl)
   change wpList _ _ _ _ _ w1.drew;go_wp2_with fail
   refine(a1 _ f.at_.drew).mono ?_;rintro e w2 ⟨rfl,cC,ck,J⟩;have t:=Z ((f.af (Ch.refl _ _).drew).trans (Gr.refl _) J);have a0:=Z (((Nx.af (Ch.refl _ w1).drew).trans J.nx).row u.1 u.2);have z:=Z (t.cur v x (o.1) (by rw[o.2]));clear J;clear t0 t1 t2 t3 t4 t5 t6 l q r k1;obtain⟨t0,t1,t2,t3,t4,t5,t6⟩:=a0.1.c7;have l:=t.at_.aC z.1 z.2 a.toNat (by omega);go_wp2_with fail
   refine(lO (K:=K') i (by rw[o.2];exact ci) S c9 t.at_).mono ?_;rintro e w3 ⟨rfl,fd,cS,bi⟩;have a2:=Z (t.trans (o.1) bi);have ch:=Z (bi.nx.row a0.1 a0.2);have Q:=Z (a2.cur v x (o.1.trans (dT _ _ _)) (by rw[fE,o.2]));clear bi;clear t0 t1 t2 t3 t4 t5 t6 l;obtain⟨t0,t1,t2,t3,t4,t5,t6⟩:=ch.1.c7;have l:=a2.at_.aC Q.1 Q.2 a.toNat (by omega);have cf:=a2.at_.hg Q.1 Q.2 (F+1+a.toNat);have ab:=Z (a2.at_.drew.a9 Q.1 Q.2 a.toNat (by omega) S);have X:Hid (Gr K _):=Z (o.1.trans (dT K' i S));go_wp2
   go_still_tail 6,(by kernel_rfl)
   change wpList _ _ _ _ _ w3.drew;go_wp2
   go_end0
   rw[E];obtain⟨am,a3,D⟩:=ab.out;exact⟨rfl,am,a3,(a2.af (Ch.refl _ _).drew).trans X D⟩
 ·have E:Hid (bA C K i c ⟨48,a,g,j,V,U,W⟩=K.az c a.toNat 0):=Z (by unfold bA;dsimp only;rw[if_pos rfl,B,O,if_neg M])
  clear h bx c1 al c0 av bv bw c3 ad;go_in
  go_wp2
  try rw[R]
  clear R;go_quiet (fail)
  obtain⟨w1,s⟩:=nm (T.drewN nq);have A:Hid (Ch ag T w1):=Z (by rw[<-s];exact(Ch.refl _ _).drewN nq);rw[s];clear s;have f:=Z (P.af A);have d:Hid (ak K c/\aS L Y c b F):=Z ⟨v,x⟩;have u:=Z ((Nx.af A).row G.1 G.2);clear t0 t1 t2 t3 t4 t5 t6 l q r;obtain⟨t0,t1,t2,t3,t4,t5,t6⟩:=u.1.c7;have l:=f.at_.aC d.1 d.2 a.toNat (by omega);rw[show((K:KS).F c).r a.toNat=c7 from ap.out]at l;have q:=f.at_.aC d.1 d.2 g.toNat (by omega);rw[show((K:KS).F c).r g.toNat=m from B.out]at q;have r:=f.at_.aC d.1 d.2 j.toNat (by omega);rw[show((K:KS).F c).r j.toNat=N from I.out]at r;have k1:=f.at_.c3;rw[O]at k1;go_wp2_with fail
  have cf:=f.at_.hg d.1 d.2 (F+1+a.toNat);have ab:=Z (f.at_.drew.a9 d.1 d.2 a.toNat (by omega) 0);have X:Hid (Gr K _):=Z (Gr.refl K);go_wp2
  go_still_tail 6,(by kernel_rfl)
  change wpList _ _ _ _ _ w1.drew;go_wp2
  go_end0
  rw[E];obtain⟨am,a3,D⟩:=ab.out;exact⟨rfl,am,a3,(f.af (Ch.refl _ _).drew).trans X D⟩
end
end
section
def o5(N:Nat)(q:List (List fO)):Prop:=(∀s∈q.flatten,aI s.id)/\q.flatten.length<=N
section
variable{N:Nat}{q:List (List fO)}
theorem o5.more{N':Nat}(h:o5 N q)(a:N<=N'):o5 N' q:=⟨h.1,Nat.le_trans h.2 a⟩
theorem kk(q:List (List fO))(id:Int):(dv q id).2.flatten=q.flatten.filter fun s=>s.id !=id:=by
 unfold dv;split
 ·rename_i a
  rw[List.filter_eq_self.2];intro s b;have:=List.find?_eq_none.1 a s b;simpa using this
 ·rw[List.filter_flatten]
theorem o5.drop(h:o5 N q)(id:Int):o5 N (dv q id).2:=
 ⟨fun s a=>h.1 s (by rw[kk]at a;exact(List.mem_filter.1 a).1),by rw[kk];exact Nat.le_trans (List.length_filter_le _ _) h.2⟩
theorem n6(s:fO):∀(q:List (List fO)) (k:Nat),(q.modify k (·++[s])).flatten.length<=q.flatten.length+1
 |[],k=>by cases k<;>simp
 |l::q,0=>by simp;omega
 |l::q,k+1=>by
  have:=n6 s q k;rw[List.modify_succ_cons,List.flatten_cons,List.flatten_cons,List.length_append,List.length_append];omega
theorem o5.link(h:o5 N q)(s:fO)(j:aI s.id):o5 (N+1) (pr q s):=by
 refine⟨?_,Nat.le_trans (n6 _ _ _) (Nat.succ_le_succ h.2)⟩;intro x m;obtain⟨l,i,b⟩:=List.mem_flatten.1 m;obtain⟨k,a⟩:=List.getElem?_of_mem i;unfold pr at a;rw[List.getElem?_modify]at a;cases e:q[k]? with
 |none=>rw[e]at a;cases a
 |some c=>
  rw[e]at a;have g:(if(bg s.ad 8).toNat=k then c++[s]else c)=l:=by simpa using a
  have f:∀y∈c,aI y.id:=fun y n=>h.1 y (List.mem_flatten.2 ⟨c,List.mem_of_getElem? e,n⟩)
  rw[<-g]at b;split at b
  ·rcases List.mem_append.1 b with d|d
   ·exact f x d
   ·rw[List.mem_singleton.1 d];exact j
  ·exact f x b
theorem n7{c mask:Int}{each:Bool}{s:fO}(d:lJ q c mask each=some s):s∈q.flatten:=by
 have a:=List.mem_of_find?_eq_some d;rw[List.getD_eq_getElem?_getD]at a;cases b:q[(bg c 8).toNat]? with
 |none=>rw[b]at a;cases a
 |some l=>rw[b]at a;exact List.mem_flatten.2 ⟨l,List.mem_of_getElem? b,a⟩
theorem o5.put(h:o5 N q)(id a mask:Int)(hid:aI id):o5 (N+1) (kK q id a mask).2:=by
 unfold kK;split
 ·exact h.more (Nat.le_succ _)
 ·split
  ·exact h.more (Nat.le_succ _)
  ·exact h.link _ hid
theorem o5.take(h:o5 N q)(a mask:Int):o5 N (eJ q a mask).2.2/\aI (eJ q a mask).1:=by
 unfold eJ;split
 ·exact⟨h,bm⟩
 ·rename_i s b;exact⟨h.drop _,h.1 s (n7 b)⟩
theorem o5.move(h:o5 N q)(fr tt:Int):o5 N (hV q fr tt).2.2/\aI (hV q fr tt).1:=by
 unfold hV;split
 ·exact⟨h,bm⟩
 ·rename_i s c
  have a:=n7 c;have d:(q.flatten.filter fun x=>x.id !=s.id).length<q.flatten.length:=by
   rw[List.length_filter_lt_length_iff_exists];exact⟨s,a,by simp⟩
  have b:o5 (N-1) (dv q s.id).2:=⟨(h.drop _).1,by rw[kk];have:=h.2;omega⟩;exact⟨(b.link {s with ad:=tt} (h.1 s a)).more (by have:=h.2;omega),h.1 s a⟩
end
section
variable{P:ba->Prop}
theorem k8{S:ah}(h:∀x∈S.l,P x)(i:Nat){t:ba}(b:P t):∀x∈(S.lay i t).l,P x:=fun x c=>by
 rcases List.mem_or_eq_of_mem_set (show x∈S.l.set i t from c)with a|rfl
 ·exact h x a
 ·exact b
theorem sD:∀(f:Nat) (S:ah) (i:Nat) (t:ba),(∀x∈S.l,P x)->(∀x∈(gX f S i t).1.l,P x)/\(gX f S i t).1.l.length=S.l.length
 |0,S,i,t,h=>⟨h,rfl⟩
 |f+1,S,i,t,h=>by
  unfold gX;split
  ·exact⟨h,rfl⟩
  ·split
   ·exact⟨h,rfl⟩
   ·rename_i p a
    split
    ·have:=sD f (S.lay i p) ((i-1)/2) t (k8 h i (h p (List.mem_of_getElem? a)))
     exact⟨this.1,this.2.trans (S.b9 i p)⟩
    ·exact⟨h,rfl⟩
theorem n9:∀(f:Nat) (S:ah) (i:Nat) (t:ba),(∀x∈S.l,P x)->(∀x∈(bO f S i t).1.l,P x)/\(bO f S i t).1.l.length=S.l.length
 |0,S,i,t,h=>⟨h,rfl⟩
 |f+1,S,i,t,h=>by
  unfold bO;split
  ·exact⟨h,rfl⟩
  ·split
   ·exact⟨h,rfl⟩
   ·rename_i c _ _ x a
    split
    ·have:=n9 f (S.lay i x) (jY S i c) t (k8 h i (h x (List.mem_of_getElem? a)))
     exact⟨this.1,this.2.trans (S.b9 i x)⟩
    ·exact⟨h,rfl⟩
theorem zZ{S:ah}(h:∀x∈S.l,P x)(i:Nat):(∀x∈(S.up i).l,P x)/\(S.up i).l.length=S.l.length:=by
 unfold ah.up;split
 ·exact⟨h,rfl⟩
 ·rename_i t a
  have:=sD (i+1) S i t h;exact⟨k8 this.1 _ (h t (List.mem_of_getElem? a)),((gX (i+1) S i t).1.b9 _ t).trans this.2⟩
theorem z0{S:ah}(h:∀x∈S.l,P x)(i:Nat):(∀x∈(S.down i).l,P x)/\(S.down i).l.length=S.l.length:=by
 unfold ah.down;split
 ·exact⟨h,rfl⟩
 ·rename_i t a
  have:=n9 (S.l.length+1) S i t h;exact⟨k8 this.1 _ (h t (List.mem_of_getElem? a)),((bO (S.l.length+1) S i t).1.b9 _ t).trans this.2⟩
theorem Cj{S:ah}(h:∀x∈S.l,P x)(a b:Int)(d:∀n,P ⟨a,b,n⟩):(∀x∈(S.put a b).2.l,P x)/\(S.put a b).2.l.length=S.l.length+1:=by
 unfold ah.put;have:=zZ (P:=P) (S:={S with last:=wrap64 (S.last+1),l:=S.l++[⟨a,b,wrap64 (S.last+1)⟩]}) (fun x e=>by
  rcases List.mem_append.1 e with c|c
  ·exact h x c
  ·rw[List.mem_singleton.1 c];exact d _) S.l.length
 exact⟨this.1,this.2.trans (by simp)⟩
theorem Ck{S:ah}(h:∀x∈S.l,P x)(k:Int):(∀x∈(S.cut k).l,P x)/\(S.cut k).l.length<=S.l.length:=⟨fun x a=>h x (List.mem_of_mem_take a),by unfold ah.cut;simp⟩
theorem sE{S:ah}(h:∀x∈S.l,P x)(k:Int):(∀x∈(S.drop k).2.2.l,P x)/\(S.drop k).2.2.l.length<=S.l.length/\((S.drop k).2.1=true->∃x∈S.l,(S.drop k).1=x.bU):=by
 unfold ah.drop;cases g:aw S.at_ k with
 |none=>exact⟨h,Nat.le_refl _,fun e=>by cases e⟩
 |some i=>
  dsimp only;cases b:S.l[i.toNat]? with
  |none=>exact⟨h,Nat.le_refl _,fun e=>by cases e⟩
  |some t=>
   cases d:S.l[S.l.length-1]? with
   |none=>exact⟨h,Nat.le_refl _,fun e=>by cases e⟩
   |some last=>
    dsimp only;have c:=Ck h k;split
    ·have f:=k8 c.1 i.toNat (h last (List.mem_of_getElem? d))
     have u:=zZ f i.toNat;have a:=z0 u.1 ((aw (((S.cut k).lay i.toNat last).up i.toNat).at_ last.h).getD 0).toNat;refine⟨a.1,?_,fun _=>⟨t,List.mem_of_getElem? b,rfl⟩⟩;dsimp only;rw[a.2,u.2,ah.b9];exact c.2
    ·exact⟨c.1,c.2,fun _=>⟨t,List.mem_of_getElem? b,rfl⟩⟩
theorem Cl{S:ah}(h:∀x∈S.l,P x)(now:Int):(∀x∈(S.pop now).2.2.l,P x)/\(S.pop now).2.2.l.length<=S.l.length/\((S.pop now).2.1=true->∃x∈S.l,(S.pop now).1=x.bU):=by
 unfold ah.pop;split
 ·rename_i b;exact⟨fun x a=>h x a,Nat.le_refl _,fun e=>by cases e⟩
 ·split
  ·exact⟨fun x a=>h x a,Nat.le_refl _,fun e=>by cases e⟩
  ·exact sE h _
end
structure fP(N:Nat)(S:aO):Prop where
 wf:S.heap.WF
 len:S.heap.l.length<=N
 bU:∀t∈S.heap.l,aI t.bU
 now:aI S.now
theorem fP.more{N N':Nat}{S:aO}(h:fP N S)(a:N<=N'):fP N' S:=⟨h.wf,Nat.le_trans h.len a,h.bU,h.now⟩
theorem fP.ok{N:Nat}{S:aO}(h:fP N S)(a:N<=900000):S.Ok:=⟨h.wf,Nat.le_trans h.len a⟩
theorem fP.bp{N:Nat}{S:aO}(h:fP N S)(id:Int):fP N (S.bp id).2:=by
 unfold aO.bp;split
 ·exact h
 ·rename_i x _
  have:=sE h.bU x.1;exact⟨h.wf.drop _,Nat.le_trans this.2.1 h.len,this.1,h.now⟩
theorem fP.arm{N:Nat}{S:aO}(h:fP N S)(id dl:Int)(hid:aI id):fP (N+1) (S.arm id dl).2:=by
 unfold aO.arm;split
 ·exact h.more (Nat.le_succ _)
 ·split
  ·exact h.more (Nat.le_succ _)
  ·split
   ·have:=Cj h.bU dl id (fun _=>hid)
    exact⟨h.wf.put _ _,by rw[this.2];have:=h.len;omega,this.1,h.now⟩
   ·exact h.more (Nat.le_succ _)
theorem pG{N:Nat}:∀(f:Nat) (S:aO) (acc:List Int),fP N S->(∀x∈acc,aI x)->fP N (ei f S acc).1/\(∀x∈(ei f S acc).2,aI x)/\(ei f S acc).2.length<=acc.length+f
 |0,S,acc,h,a=>⟨h,a,Nat.le_refl _⟩
 |f+1,S,acc,h,a=>by
  unfold ei;split
  ·rename_i d
   have p:=Cl h.bU S.now;have g:aI (S.heap.pop S.now).1:=(by obtain⟨x,c,e⟩:=p.2.2 d;rw[e];exact h.bU x c);have:=pG (N:=N) f {S with heap:=(S.heap.pop S.now).2.2,fm:=ft S.fm (S.heap.pop S.now).1} (acc++[(S.heap.pop S.now).1]) ⟨h.wf.pop _,Nat.le_trans p.2.1 h.len,p.1,h.now⟩ (fun x c=>by
    rcases List.mem_append.1 c with b|b
    ·exact a x b
    ·rw[List.mem_singleton.1 b];exact g)
   refine⟨this.1,this.2.1,Nat.le_trans this.2.2 ?_⟩;rw[List.length_append,List.length_singleton];omega
  ·exact⟨h,a,by show acc.length<=acc.length+(f+1);omega⟩
theorem fP.tick{N:Nat}{S:aO}(h:fP N S):fP N S.tick.1/\(∀x∈S.tick.2,aI x)/\S.tick.2.length<=N+1:=by
 unfold aO.tick;have:=pG (N:=N) (S.heap.l.length+1) {S with now:=IntKind.u64.wrap (S.now+1)} [] ⟨h.wf,h.len,h.bU,cx _⟩ (fun x a=>by cases a);refine⟨this.1,this.2.1,Nat.le_trans this.2.2 ?_⟩;have:=h.len
 simp;omega
structure b'(M:aA):Prop where
 u:∀x∈M.cells,aI x
 qd:M.cells.length<=65536
theorem b'.set{M:aA}(h:b' M)(i:Nat)(v:Int)(b:aI v):b' {M with cells:=M.cells.set i v}:=
 ⟨fun x c=>by
  rcases List.mem_or_eq_of_mem_set (show x∈M.cells.set i v from c)with a|rfl
  ·exact h.u x a
  ·exact b,by show(M.cells.set i v).length<=65536;rw[List.length_set];exact h.qd⟩
theorem b'.get{M:aA}(h:b' M)(i:Nat):aI (M.cells.getD i 0):=by
 rw[List.getD_eq_getElem?_getD];cases a:M.cells[i]? with
 |none=>exact bm
 |some x=>exact h.u x (List.mem_of_getElem? a)
theorem b'.acc{M:aA}(h:b' M)(kind a c v:Int)(b:aI v):b' (M.acc kind a c v).2/\∀x,(M.acc kind a c v).1=some x->aI x:=by
 unfold aA.acc;dsimp only;have g:∀x,some (M.cells.getD a.toNat 0)=some x->aI x:=fun x e=>by rw[<-Option.some.inj e];exact h.get _
 split
 ·exact⟨h,fun x e=>by cases e⟩
 ·split
  ·exact⟨h.set _ _ (mY _ _ _),g⟩
  ·split
   ·split
    ·exact⟨h.set _ _ (iq _ _ b),g⟩
    ·exact⟨h,g⟩
   ·split
    ·exact⟨h.set _ _ (iq _ _ b),g⟩
    ·exact⟨h,g⟩
theorem sF{P:Int->Prop}{l:List Int}(h:∀x∈l,P x)(a:Nat){v:Int}(b:P v):∀k,∀x∈az l a v k,P x
 |0=>h
 |k+1=>fun x d=>by
  rcases List.mem_or_eq_of_mem_set (show x∈(az l a v k).set (a+k) v from d)with c|rfl
  ·exact sF h a b k x c
  ·exact b
theorem b'.laid{M:aA}(h:b' M)(a n:Nat)(b:Int):b' (M.laid a n b):=
 ⟨sF h.u a bm n,by show(az M.cells a 0 n).length<=65536;rw[dq];exact h.qd⟩
theorem b'.map{M:aA}(h:b' M)(a n:Nat)(b:Int):b' (M.map a n b).2:=by
 unfold aA.map;split
 ·exact h.laid _ _ _
 ·exact h
theorem b'.gl{M:aA}(h:b' M)(a n:Nat):b' (M.gl a n).2:=by
 unfold aA.gl;split
 ·exact h.laid _ _ _
 ·exact h
structure jh(N:Nat)(S:a6):Prop where
 from_:S.from_<=70000
 yQ:S.yQ<=70000
 l:∀x∈S.l,x.at_+x.n<=65536
 len:S.l.length<=N
theorem jh.more{N N':Nat}{S:a6}(h:jh N S)(a:N<=N'):jh N' S:=⟨h.from_,h.yQ,h.l,Nat.le_trans h.len a⟩
theorem jh.ok{N:Nat}{S:a6}(h:jh N S)(a:N<=900000):S.Ok:=⟨h.from_,h.yQ,fun x b=>by have:=h.l x b;omega,Nat.le_trans h.len a⟩
theorem m4{N:Nat}{S:a6}{M:aA}(h:jh N S)(c:b' M)(n:Nat):jh (N+1) (dd S M n).2.1/\b' (dd S M n).2.2/\∀a,(dd S M n).1=some a->aI (a:Int):=by
 unfold dd;split
 ·exact⟨h.more (Nat.le_succ _),c,fun a e=>by cases e⟩
 ·split
  ·exact⟨h.more (Nat.le_succ _),c,fun a e=>by cases e⟩
  ·rename_i i g
   split
   ·rename_i d
    have j:S.ej i+n<=M.cells.length:=by
     unfold aA.map at d;split at d
     ·rename_i f;exact(jF f.2).1
     ·cases d
    have hb:=c.qd;refine⟨⟨h.from_,h.yQ,fun x b=> ?_,?_⟩,c.map _ _ _,fun a e=> ?_⟩
    ·rcases List.mem_append.1 b with b|b
     ·rcases List.mem_append.1 b with b|b
      ·exact h.l x (List.mem_of_mem_take b)
      ·rw[List.mem_singleton.1 b];show S.ej i+n<=65536;omega
     ·exact h.l x (List.mem_of_mem_drop b)
    ·have:=h.len
     simp only[List.length_append,List.length_take,List.length_drop,List.length_singleton];omega
    ·have:S.ej i=a:=Option.some.inj e
     exact⟨by omega,by omega⟩
   ·exact⟨h.more (Nat.le_succ _),c,fun a e=>by cases e⟩
theorem Cm{N:Nat}{S:a6}{M:aA}(h:jh N S)(b:b' M)(a:Int):jh N (mO S M a).2.1/\b' (mO S M a).2.2:=by
 unfold mO;split
 ·exact⟨h,b⟩
 ·split
  ·exact⟨h,b⟩
  ·refine⟨⟨h.from_,h.yQ,fun x c=>h.l x (List.mem_of_mem_eraseIdx c),?_⟩,b.gl _ _⟩
   exact Nat.le_trans (List.length_eraseIdx_le _ _) h.len
def h'(l:List bK):Prop:=∀r∈l,aI r.addr
theorem h'.set{l:List bK}(h:h' l)(p:Nat)(r:bK)(b:aI r.addr):h' (l.set p r):=fun x c=>by
 rcases List.mem_or_eq_of_mem_set c with a|rfl
 ·exact h x a
 ·exact b
theorem h'.find{l:List bK}(h:h' l)(a k:Int):∀x,gu l a k=some x->aI x:=fun x b=>by
 unfold gu at b;split at b
 ·cases b
 ·split at b
  ·cases b
  ·rename_i r c
   split at b
   ·cases b
   ·rw[<-Option.some.inj b];exact h r (List.mem_of_getElem? c)
theorem h'.make{l:List bK}(h:h' l)(k a:Int)(b:aI a):h' (fN l k a).2/\∀x,(fN l k a).1=some x->aI x:=by
 unfold fN;split
 ·exact⟨h,fun x e=>by cases e⟩
 ·split
  ·exact⟨h,fun x e=>by cases e⟩
  ·split
   ·exact⟨h,fun x e=>by cases e⟩
   ·exact⟨h.set _ _ b,fun x e=>by rw[<-Option.some.inj e];exact cx _⟩
theorem h'.gone{l:List bK}(h:h' l)(a:Int):h' (iM l a).2:=by
 unfold iM;split
 ·exact h
 ·split
  ·exact h
  ·exact h.set _ _ bm
structure Inv(N M:Nat)(K:KS):Prop where
 core:Core N K.table K.ai K.wk K.ring
 nd:gp K.ai
 q:o5 N K.q
 b0:fP N K.clock
 bH:jh N K.blocks
 mem:b' K.mem
 obj:h' K.c'
 draw:aI K.draw
 w0:1<=K.wk.length
 w1:K.wk.length<=64
 out:K.out.length<=M
theorem Inv.more{N N' M b:Nat}{K:KS}(h:Inv N M K)(a:N<=N')(c:M<=b):Inv N' b K:=⟨h.core.more a,h.nd,h.q.more a,h.b0.more a,h.bH.more a,h.mem,h.obj,h.draw,h.w0,h.w1,Nat.le_trans h.out c⟩
section
variable{N M:Nat}{K:KS}
theorem fi.az{f:cu}(h:fi f)(k:Nat)(x:Int)(b:aI x):fi {f with r:=fU f.r k x}:=⟨fun j a=>by
 show aI (fU f.r k x j)
 unfold fU;split
 ·exact b
 ·exact h.r j a,h.back⟩
theorem fi.pc{f:cu}(h:fi f)(p:Int):fi {f with pc:=p}:=⟨h.r,h.back⟩
theorem e6.get{l:List Frame}(h:e6 l){k:Nat}{f:Frame}(a:l[k]?=some f):fi f.f:=h.lS f (List.mem_of_getElem? a)
theorem e6.cJ{l:List Frame}(h:e6 l)(k:Nat)(f:cu)(d:fi f):e6 (l.set k {l.getD k default with f:=f}):=by
 refine⟨by rw[List.length_set];exact h.n0,by rw[List.length_set];exact h.n8,fun j g a=> ?_,fun g i=> ?_⟩
 ·by_cases e:k=j
  ·subst e
   have b:k<l.length:=(by have:=(List.getElem?_eq_some_iff.1 a).1;simpa using this);rw[List.getElem?_set_self b]at a;rw[<-Option.some.inj a];show(l.getD k default).b7=_
   rw[List.getD_eq_getElem?_getD,List.getElem?_eq_getElem b];exact h.b7 k _ (List.getElem?_eq_getElem b)
  ·rw[List.getElem?_set_ne e]at a;exact h.b7 j g a
 ·rcases List.mem_or_eq_of_mem_set i with c|rfl
  ·exact h.lS g c
  ·exact d
theorem e6.take{l:List Frame}(h:e6 l)(n:Nat)(c:0<n):e6 (l.take n):=by
 refine⟨by rw[List.length_take];have:=h.n0;omega,by rw[List.length_take];have:=h.n8;omega,fun k f a=> ?_,fun f b=>h.lS f (List.mem_of_mem_take b)⟩;rw[List.getElem?_take]at a;split at a
 ·exact h.b7 k f a
 ·cases a
theorem e6.push{l:List Frame}(h:e6 l)(f:Frame)(j:l.length<8)(c:fi f.f)(hb:f.b7=(l.length%2==1)):e6 (l++[f]):=by
 refine⟨by simp,by simp;omega,fun k g a=> ?_,fun g d=> ?_⟩
 ·by_cases e:k<l.length
  ·rw[List.getElem?_append_left e]at a;exact h.b7 k g a
  ·have i:k=l.length:=by
    have:=(List.getElem?_eq_some_iff.1 a).1;simp at this;omega
   subst i;rw[List.getElem?_concat_length]at a;rw[<-Option.some.inj a];exact hb
 ·rcases List.mem_append.1 d with b|b
  ·exact h.lS g b
  ·rw[List.mem_singleton.1 b];exact c
theorem Inv.gz(h:Inv N M K){i:Nat}(a:i<K.wk.length):hM (K.W i):=h.core.wk _ (List.mem_of_getElem? (KS.gY a))
theorem Inv.dg(h:Inv N M K){id:Int}{t:Thread}(a:aw K.ai id=some t):nZ id t:=(h.core.ai id t a).1
theorem Inv.lS(h:Inv N M K){c:bN}(a:ak K c):fi (K.F c):=by
 cases c with
 |own i=>exact(h.gz a).f
 |ai id k=>
  obtain⟨t,d,b⟩:=a;show fi ((K.T id).l.getD k default).f
  rw[KS.dk d,List.getD_eq_getElem?_getD,List.getElem?_eq_getElem b];exact(h.dg d).l.get (List.getElem?_eq_getElem b)
theorem Inv.cn(h:Inv N M K){id:Int}{t a:Thread}(c:aw K.ai id=some t)(b:nZ id a):Inv N M (K.cn id a):=
 ⟨h.core.cn c b,h.nd.put _ _,h.q,h.b0,h.bH,h.mem,h.obj,h.draw,h.w0,h.w1,h.out⟩
theorem Inv.be(h:Inv N M K){i:Nat}(b:i<K.wk.length){y:ay}(c:y.slot=(K.W i).slot)(a:y.hand=(K.W i).hand)(d:hM y):Inv N M (K.be i y):=
 ⟨h.core.be (KS.gY b) c a d,h.nd,h.q,h.b0,h.bH,h.mem,h.obj,h.draw,by show 1<=(K.wk.set i y).length;rw[List.length_set];exact h.w0,by show(K.wk.set i y).length<=64;rw[List.length_set];exact h.w1,h.out⟩
theorem Inv.cJ(h:Inv N M K){c:bN}(a:ak K c){f:cu}(d:fi f):Inv N M (K.cJ c f):=by
 cases c with
 |own i=>exact h.be a rfl rfl ⟨d,(h.gz a).l0,(h.gz a).l1⟩
 |ai id k=>
  obtain⟨t,b,e⟩:=a;have:=h.dg b;refine h.cn b ?_;rw[KS.dk b];exact⟨this.id,this.eU,this.l.cJ k f d⟩
theorem Inv.az(h:Inv N M K){c:bN}(a:ak K c)(k:Nat)(x:Int)(b:aI x):Inv N M (K.az c k x):=h.cJ a ((h.lS a).az k x b)
theorem Inv.tell(h:Inv N M K)(e:Ev):Inv N (M+1) (tell K e):=
 ⟨h.core,h.nd,h.q,h.b0,h.bH,h.mem,h.obj,h.draw,h.w0,h.w1,by show(K.out++[_]).length<=M+1;rw[List.length_append];have:=h.out;simp;omega⟩
theorem Inv.qP(h:Inv N M K){S:aA}(a:b' S):Inv N M {K with mem:=S}:=⟨h.core,h.nd,h.q,h.b0,h.bH,a,h.obj,h.draw,h.w0,h.w1,h.out⟩
theorem Inv.kl(h:Inv N M K){q:List (List fO)}(a:o5 N q):Inv N M {K with q:=q}:=⟨h.core,h.nd,a,h.b0,h.bH,h.mem,h.obj,h.draw,h.w0,h.w1,h.out⟩
theorem Inv.uy(h:Inv N M K){S:aO}(a:fP N S):Inv N M {K with clock:=S}:=⟨h.core,h.nd,h.q,a,h.bH,h.mem,h.obj,h.draw,h.w0,h.w1,h.out⟩
theorem Inv.setObj(h:Inv N M K){l:List bK}(a:h' l):Inv N M {K with c':=l}:=⟨h.core,h.nd,h.q,h.b0,h.bH,h.mem,a,h.draw,h.w0,h.w1,h.out⟩
theorem Inv.uz(h:Inv N M K){A:a6}{S:aA}(a:jh N A)(b:b' S):Inv N M {K with blocks:=A,mem:=S}:=⟨h.core,h.nd,h.q,h.b0,a,b,h.obj,h.draw,h.w0,h.w1,h.out⟩
theorem Inv.n'(h:Inv N M K){l:List aE}(a:Core N l K.ai K.wk K.ring):Inv N M {K with table:=l}:=⟨a,h.nd,h.q,h.b0,h.bH,h.mem,h.obj,h.draw,h.w0,h.w1,h.out⟩
theorem Inv.jc(h:Inv N M K)(a:Int):Inv N M (jc K a):=by
 have:=Cm h.bH h.mem a;exact h.uz this.1 this.2
theorem Inv.home(h:Inv N M K)(id a:Int):Inv N M (ek K id a):=by
 unfold ek;split
 ·exact h.jc _
 ·exact h
theorem lV(C:KC){i:Nat}(a:i<K.wk.length):dA C K i={K with wk:=K.wk.set i {K.W i with slot:=0,f:={(K.W i).f with pc:=C.loop,back:=[]}}}:=by
 unfold dA gJ;rw[gM a];unfold KS.be;simp only[List.set_set]
theorem hM.left{x:ay}(h:hM x)(s:Int)(p:Int):hM {x with slot:=s,f:={x.f with pc:=p,back:=[]}}:=⟨⟨h.f.r,by simp⟩,h.l0,h.l1⟩
end
end
section
structure NM(w:World)(mb:Nat)(pre:List Value)(rows:List Int)(post:List Value):Prop where
 row:Row w mb 137 (pre++(rows.map (Value.int .i64)++post))
 n1:pre.length=7
 n2:rows.length=1000
section
variable{w w':World}{mb:Nat}{pre:List Value}{rows:List Int}{post:List Value}
theorem NM.pc(h:NM w mb pre rows post){i:Nat}{v:Value}(a:pre[i]?=some v):w.cell? (mb,i)=some v:=h.row.cell (by
 rw[List.getElem?_append_left (List.getElem?_eq_some_iff.1 a).1];exact a)
theorem NM.rc(h:NM w mb pre rows post){i:Nat}{v:Int}(a:rows[i]?=some v):w.cell? (mb,7+i)=some (.int .i64 v):=h.row.cell (by
 have b:=(List.getElem?_eq_some_iff.1 a).1;rw[List.getElem?_append_right (by rw[h.n1];omega),h.n1,List.getElem?_append_left (by rw[List.length_map];omega),List.getElem?_map,show 7+i-7=i by omega,a];rfl)
theorem NM.qc(h:NM w mb pre rows post){j:Nat}{v:Value}(a:post[j]?=some v):w.cell? (mb,1007+j)=some v:=h.row.cell (by
 rw[List.getElem?_append_right (by rw[h.n1];omega),h.n1,List.getElem?_append_right (by rw[List.length_map,h.n2];omega),List.length_map,h.n2,show 1007+j-7-1000=j by omega,a])
theorem NM.fz(h:NM w mb pre rows post)(i:Nat):w.frozen? (mb,i)=false:=h.row.free i
theorem NM.lt(h:NM w mb pre rows post):mb<w.heap.size:=h.row.lt
theorem NM.ch{D:Nat->Prop}(h:NM w mb pre rows post)(c:Ch D w w')(a:¬D mb):NM w' mb pre rows post:=⟨h.row.ch c a,h.n1,h.n2⟩
theorem NM.alloc(h:NM w mb pre rows post)(a:Obj):NM (w.alloc a) mb pre rows post:=⟨h.row.alloc a,h.n1,h.n2⟩
theorem NM.drew(h:NM w mb pre rows post):NM w.drew mb pre rows post:=⟨h.row.drew,h.n1,h.n2⟩
theorem NM.uH(h:NM w mb pre rows post){i:Nat}(a:i<7)(v:Value):NM (w.setCell (mb,i) v) mb (pre.set i v) rows post:=
 ⟨h.row.bc i v (by rw[List.set_append_left _ _ (by rw[h.n1];exact a)]),by rw[List.length_set];exact h.n1,h.n2⟩
theorem NM.az(h:NM w mb pre rows post){i:Nat}(a:i<1000)(v:Int):NM (w.setCell (mb,7+i) (.int .i64 v)) mb pre (rows.set i v) post:=
 ⟨h.row.bc (7+i) _ (by rw[List.set_append_right _ _ (by rw[h.n1];omega),h.n1,List.set_append_left _ _ (by rw[List.length_map,h.n2];omega),show 7+i-7=i by omega,List.map_set]),h.n1,by rw[List.length_set];exact h.n2⟩
theorem NM.kl(h:NM w mb pre rows post)(j:Nat)(v:Value):NM (w.setCell (mb,1007+j) v) mb pre rows (post.set j v):=
 ⟨h.row.bc (1007+j) _ (by rw[List.set_append_right _ _ (by rw[h.n1];omega),h.n1,List.set_append_right _ _ (by rw[List.length_map,h.n2];omega),List.length_map,h.n2,show 1007+j-7-1000=j by omega]),h.n1,h.n2⟩
structure NR(pre post:List Value)(wb n:Nat)(wi na:Int):Prop where
 p8:post[8]?=some (.slice (some (wb,0)) n n)
 r5:pre[5]?=some (.int .i64 wi)
 r6:pre[6]?=some (.int .i64 na)
 n0:1<=n
 GM:n<=64
 G7:0<=wi
 GN:wi<=256
 G8:0<=na
 GO:na<=256
theorem pO{b n:Nat}{d a:Int}(h:NM w mb pre rows post)(r:NR pre post b n d a):Calls prog 32 #[(mb,0)] w (eg (.int .i64 (17+8*(n:Int))) w):=by
 have c:=h.qc r.p8;have e:(n:Int)<=64:=by have:=r.GM;omega
 clear h r;go_wp2
 go_ret;exact eg.mk rfl
theorem uI{c n:Nat}{b a:Int}(h:NM w mb pre rows post)(r:NR pre post c n b a):Calls prog 97 #[(mb,0)] w (fun e w'=>e=.returned (.int .i64 (b+a))/\∃n,w'=w.drewN n):=by
 have d:=h.pc r.r5;have f:=h.pc r.r6;have g:IntKind.i64.wrap (b+a)=b+a:=IntWalk.i64_in _ (by have:=r.G7;have:=r.GN;have:=r.G8;have:=r.GO;omega);clear h r;go_wp2
 go_quiet (fail)
 go_wp2
 go_ret;exact⟨rfl,nq,rfl⟩
end
def ou(S:aA)(n i:Nat):aA:=
 let a:=(S.acc 1 (g' i) 0 1).2
 let b:=(a.acc 1 (IntKind.u64.wrap (g' i+1)) 0 1).2
 let c:=(b.acc 1 (IntKind.u64.wrap (g' i+2)) 0 (17+3*n+5*i)).2
 (c.acc 1 (17+3*n+5*i) 0 4).2
def mG(S:aA)(n:Nat):Nat->aA
 |0=>S
 |k+1=>ou (mG S n k) n k
def fX(tt n a d:Nat):aA:=
 let e:=((aA.new tt).map 0 (17+8*n) 64).2
 let b:=mG e n n
 let c:=if 0<a then(b.map (17+8*n) a 64).2 else b
 if 0<d then(c.map (17+8*n+a) d 32).2 else c
theorem yf{S:aA}(h:b' S)(n i:Nat)(e:n<=64)(d:i<=64):b' (ou S n i):=by
 unfold ou;have a:=(h.acc 1 (g' i) 0 1 ⟨by decide,by decide⟩).1;have b:=(a.acc 1 (IntKind.u64.wrap (g' i+1)) 0 1 ⟨by decide,by decide⟩).1;have c:=(b.acc 1 (IntKind.u64.wrap (g' i+2)) 0 (17+3*n+5*i) ⟨by omega,by omega⟩).1;exact(c.acc 1 (17+3*n+5*i) 0 4 ⟨by decide,by decide⟩).1
theorem sW{S:aA}(h:b' S)(n:Nat)(a:n<=64):∀k,k<=64->b' (mG S n k)
 |0,_=>h
 |k+1,b=>yf (sW h n a k (by omega)) n k a (by omega)
theorem b'.new{tt:Nat}(h:tt<=65536):b' (aA.new tt):=⟨fun x a=>by
 have:x=0:=(List.mem_replicate.1 a).2;rw[this];exact bm,by show(List.replicate tt (0:Int)).length<=_;rw[List.length_replicate];exact h⟩
theorem yg(tt n f d:Nat)(c:tt<=65536)(b:n<=64):b' (fX tt n f d):=by
 unfold fX;have e:=(b'.new c).map 0 (17+8*n) 64;have a:=sW e n b n b;dsimp only;split
 ·split
  ·exact(a.map _ _ _).map _ _ _
  ·exact a.map _ _ _
 ·split
  ·exact a.map _ _ _
  ·exact a
end
def ED(mb:Nat)(pre:List Value)(rows:List Int)(post:List Value)(tt n f d:Nat)(w:World)(e:Ending)(w':World):Prop:=
 e=.returned (.tuple #[])/\∃m c b a,NM w' mb pre rows ((post.set 0 (bj m)).set 1 (bj a))/\aM w' m c b (fX tt n f d)/\aW w' a m (.slice none 0 0) ⟨17+8*n+f+d,tt,[]⟩/\w.heap.size<=m/\w.heap.size<=c/\w.heap.size<=b/\w.heap.size<=a/\Ch (aL mb) w w'
theorem Ch.q3{D E:Nat->Prop}{w a b:World}(c:Ch D w a)(d:Ch E a b)(h:∀i,i<w.heap.size->E i->D i):Ch D w b:=
 ⟨d.os.trans c.os,d.tape.trans c.tape,d.output.trans c.output,Nat.le_trans c.size d.size,fun j f g=>(d.same j (Nat.lt_of_lt_of_le f c.size) (fun e=>g (h j f e))).trans (c.same j f g)⟩
theorem Ap(mb:Nat)(pre:List Value)(rows:List Int)(post:List Value)(et n d f tt:Nat)(w:World)(h:NM w mb pre rows post)(r:NR pre post et n d f)(hv:2<=post.length)(hB:1<=tt)(en:tt<=65536)(hw:17+8*n+d+f<=tt):
 Calls prog 57 #[(mb,0),.int .i64 tt] w (ED mb pre rows post tt n d f w):=by
 have H:=Z h;have R:=Z r;have k0:=Z en;have it:=Z hv;have jp:=Z hw;have eC:=Z (ot tt hB en w);have lb:(n:Int)<=64:=by have:=r.GM;omega
 have li:(d:Int)<=256:=r.GN;have lc:(f:Int)<=256:=r.GO;obtain⟨hF,hn⟩:∃hF,post[0]?=some hF:=⟨_,List.getElem?_eq_getElem (by omega)⟩;obtain⟨p1,hu⟩:∃p1,post[1]?=some p1:=⟨_,List.getElem?_eq_getElem (by omega)⟩;have ge:=Z hn;have gf:=Z hu;clear h r hB en hv hw hn hu;go_in
 go_wp2_with (first|(go_at_call 25;refine eC.mono ?_;rintro e w1 ⟨m,c,j,rfl,hm,hf,hd,he,cQ⟩;have gc:=Z hm;have ex:=Z cQ;have b:Hid (w.heap.size<=m/\w.heap.size<=c/\w.heap.size<=j):=Z ⟨hf,hd,he⟩;have c2:=Z (H.ch cQ id);have z:=c2.fz 1007;have kT:=c2.qc ge;clear hm hf hd he cQ))
 obtain⟨w2,c0⟩:=nm (w1.setCell (mb,1007) (.pointer (some (m,0))));have E:Hid (mb<w.heap.size):=Z H.lt;have al:Hid (NM w2 mb pre rows (post.set 0 (bj m))):=Z (by rw[<-c0];exact c2.kl 0 _);have k2:Hid (aM w2 m c j (aA.new tt)):=Z (by
  have q:∀x,w.heap.size<=x->¬aL mb x:=fun x c8 e=>by have u:x=mb:=e;have F:=E.out;omega
  rw[<-c0];exact gc.ch (((Ch.refl (aL mb) w1).only 1007 _)) (q m b.1) (q c b.2.1) (q j b.2.2))
 have T:Hid (Ch (aL mb) w w2):=Z (by rw[<-c0];exact(ex.af).only _ _);have D:Hid (NR pre (post.set 0 (bj m)) et n d f):=Z ⟨by rw[List.getElem?_set_ne (by decide)];exact R.p8,R.r5,R.r6,R.n0,R.GM,R.G7,R.GN,R.G8,R.GO⟩;have ax:Hid ((post.set 0 (bj m))[1]?=some p1):=Z (by rw[List.getElem?_set_ne (by decide)];exact gf);have A:Hid ((post.set 0 (bj m))[0]?=some (bj m)):=Z (by rw[List.getElem?_set_self (by have:=it.out;omega)]);obtain⟨es,ec⟩:∃p,post.set 0 (bj m)=p:=⟨_,rfl⟩;rw[c0];rw[ec]at al D ax A;have c5:=Z ec;clear c0 ec z kT c2 gc ex eC ge gf;have ih:=Z (fun w (h:NM w mb pre rows es)=>pO h D);have hb:=al.qc D.p8;go_region_held3 (fun w'=>w'.cell? (mb,1015)=some (.slice (some (et,0)) n n)) (go_keep) ((go_at_call 32;refine(ih _ al.drew).mono ?_;rintro e l ⟨rfl,rfl⟩))
 all_goals
  have z:w2.cell? (mb,1007)=some (.pointer (some (m,0))):=al.qc A;have dC:=ez m c j (aA.new tt) 0 (17+8*n) (by omega) (by omega) w2.drew k2.drew;rw[show((17+8*n:Nat):Int)=17+8*(n:Int)by omega,show((0:Nat):Int)=0 from rfl]at dC;obtain⟨bi,hi⟩:=nm (((aA.new tt).map 0 (17+8*n) 64).2);have av:=Z hi;have io:=Z dC;clear dC hi hb;go_wp2_with (go_at_call 26;refine io.mono ?_;rintro e w3 ⟨⟨y,rfl,v⟩,dr,cS⟩;rw[av]at dr;have k3:=Z dr;have i1:=Z cS;have eA:=Z (al.drew.ch cS (fun e=>by have u:=b.out;have F:=E.out;rcases e with e|e|e<;>omega));have hb:=eA.qc D.p8;clear dr cS v z)
  go_loopg [34] (n+1) (fun gk i wr=>∃k:Nat,k<=n/\gk=n-k+1/\i=.int .i64 k/\Hid (aM wr m c j (mG bi n k))/\Hid (NM wr mb pre rows es)/\Hid (Ch (dD m c j) w2.drew wr))
  case atStart=>exact⟨0,by omega,by omega,rfl,k3,eA,i1⟩
  case round=>
   obtain⟨k,l0,rfl,rfl,W,P,CR⟩:=hrel;by_cases l1:k<n
   ·have kf:(k:Int)<n:=by omega
    obtain⟨S,Y⟩:=nm (mG bi n k);have a1:=Z Y;rw[Y]at W;have z:wr.cell? (mb,1007)=some (.pointer (some (m,0))):=P.qc A;have c4:=Z (fun w=>pA k (by omega) (by omega) (.pointer (some (mb,0))) w);have cL:aI (g' k):=cx _;obtain⟨a2,cW⟩:=nm (g' k);rw[cW]at c4 cL;have ii:=Z cW;have k1:=Z cL;have hl:Hid (aI (17+3*(n:Int)+5*(k:Int))):=Z ⟨by omega,by omega⟩;have le:IntKind.i64.wrap (3*(n:Int))=3*n:=IntWalk.i64_in _ (by omega);clear Y cW cL;go_wp2_with fail
    have fd:=Z (ey m c j S a2 1 k1 ⟨by decide,by decide⟩ wr.drew W.drew);obtain⟨go,cr⟩:∃x,(S.acc 1 a2 0 1).2=x:=⟨_,rfl⟩;rw[cr]at fd;have i6:=Z cr;clear cr;refine wp_region_still_tail 7 (by kernel_rfl) (by kernel_rfl) ?_;simp only[List.take_succ_cons,List.take_zero,List.drop_succ_cons,List.drop_zero]
    repeat still_step
    still_call (b5 (c4 _))
    repeat still_step
    try refine wpStill_nil ?_
    change wpList _ _ _ _ _ wr.drew;go_wp2_with (go_at_call 95;(with_reducible refine fd.out.mono ?_);rintro e cd ⟨⟨y,rfl,v⟩,o,a⟩;have k4:=Z o;have i2:Hid (Ch (dD m c j) w2.drew cd):=Z ((CR.out.drew).trans (a.mono (fun i M=>M.elim Or.inl (fun e=>Or.inr (Or.inl e)))));have eL:=Z (NM.ch (P.out.drew) a (fun e=>by have u:=b.out;have F:=E.out;rcases e with e|e<;>omega));have z:cd.cell? (mb,1007)=some (.pointer (some (m,0))):=eL.out.qc A.out;clear o a v)
    have fn:=Z (ey m c j go (IntKind.u64.wrap (a2+1)) 1 (cx _) ⟨by decide,by decide⟩ cd.drew k4.drew);obtain⟨gr,cs⟩:∃x,(go.acc 1 (IntKind.u64.wrap (a2+1)) 0 1).2=x:=⟨_,rfl⟩;rw[cs]at fn;have i7:=Z cs;clear cs;refine wp_region_still_tail 8 (by kernel_rfl) (by kernel_rfl) ?_;simp only[List.take_succ_cons,List.take_zero,List.drop_succ_cons,List.drop_zero]
    repeat still_step
    still_call (b5 (c4 _))
    repeat still_step
    try refine wpStill_nil ?_
    change wpList _ _ _ _ _ cd.drew;go_wp2_with (go_at_call 95;(with_reducible refine fn.out.mono ?_);rintro e ce ⟨⟨y,rfl,v⟩,o,a⟩;have k5:=Z o;have i3:Hid (Ch (dD m c j) w2.drew ce):=Z ((i2.out.drew).trans (a.mono (fun i M=>M.elim Or.inl (fun e=>Or.inr (Or.inl e)))));have eS:=Z (NM.ch (eL.out.drew) a (fun e=>by have u:=b.out;have F:=E.out;rcases e with e|e<;>omega));have z:ce.cell? (mb,1007)=some (.pointer (some (m,0))):=eS.out.qc A.out;clear o a v)
    have fr:=Z (ey m c j gr (IntKind.u64.wrap (a2+2)) (17+3*(n:Int)+5*(k:Int)) (cx _) hl ce.drew k5.drew);obtain⟨gs,cA⟩:∃x,(gr.acc 1 (IntKind.u64.wrap (a2+2)) 0 (17+3*(n:Int)+5*(k:Int))).2=x:=⟨_,rfl⟩;rw[cA]at fr;have i8:=Z cA;clear cA;refine wp_region_still_tail 9 (by kernel_rfl) (by kernel_rfl) ?_;simp only[List.take_succ_cons,List.take_zero,List.drop_succ_cons,List.drop_zero]
    repeat still_step
    still_call (b5 (c4 _))
    repeat still_step
    try refine wpStill_nil ?_
    change wpList _ _ _ _ _ ce.drew;go_wp2_with (go_at_call 95;(with_reducible refine fr.out.mono ?_);rintro e wc ⟨⟨y,rfl,v⟩,o,a⟩;have kb:=Z o;have i4:Hid (Ch (dD m c j) w2.drew wc):=Z ((i3.out.drew).trans (a.mono (fun i M=>M.elim Or.inl (fun e=>Or.inr (Or.inl e)))));have eW:=Z (NM.ch (eS.out.drew) a (fun e=>by have u:=b.out;have F:=E.out;rcases e with e|e<;>omega));have z:wc.cell? (mb,1007)=some (.pointer (some (m,0))):=eW.out.qc A.out;clear o a v)
    have fz:=Z (ey m c j gs (17+3*(n:Int)+5*(k:Int)) 4 hl ⟨by decide,by decide⟩ wc kb);obtain⟨gt,cC⟩:∃x,(gs.acc 1 (17+3*(n:Int)+5*(k:Int)) 0 4).2=x:=⟨_,rfl⟩;rw[cC]at fz;have i9:=Z cC;clear cC;go_wp2_with (go_at_call 95;(with_reducible refine fz.out.mono ?_);rintro e i0 ⟨⟨y,rfl,v⟩,o,a⟩;have kd:=Z o;have i5:Hid (Ch (dD m c j) w2.drew i0):=Z ((i4.out).trans (a.mono (fun i M=>M.elim Or.inl (fun e=>Or.inr (Or.inl e)))));have fb:=Z (NM.ch (eW.out) a (fun e=>by have u:=b.out;have F:=E.out;rcases e with e|e<;>omega));have z:i0.cell? (mb,1007)=some (.pointer (some (m,0))):=fb.out.qc A.out;clear o a v)
    go_roundg (n-k)
    case measure=>omega
    case rel=>exact⟨k+1,by omega,by omega,by go_num,Z (by
     have e:mG bi n (k+1)=gt:=by
      show ou (mG bi n k) n k=gt
      rw[a1];unfold ou;dsimp only;rw[ii,i6,i7,i8,i9]
     rw[e];exact kd),fb,i5⟩
   ·have kf:¬(k:Int)<n:=by omega
    have kv:k=n:=(by omega);subst kv;obtain⟨S,Y⟩:=nm (mG bi k k);have a1:=Z Y;rw[Y]at W;clear Y;have z:wr.cell? (mb,1007)=some (.pointer (some (m,0))):=P.qc A;have c9:=P.pc D.r5;have cb:=P.pc D.r6;have c3:=Z (fun w (h:NM w mb pre rows es)=>uI h D);have ll:IntKind.i64.wrap (17+8*(k:Int)+((d:Int)+(f:Int)))=17+8*(k:Int)+((d:Int)+(f:Int)):=IntWalk.i64_in _ (by omega);have am:=Z (q1 m (17+8*k+(d+f)) tt (by have:=jp.out;omega) (by have:=k0.out;omega));rw[show((17+8*k+(d+f):Nat):Int)=17+8*(k:Int)+((d:Int)+f)by omega]at am;by_cases c7:0<d
    ·have kw:(0:Int)<(d:Int):=by omega
     by_cases bx:0<f
     ·have dN:(0:Int)<(f:Int):=by omega
      have I:=ez m c j S (17+8*k) d (by omega) (by omega) wr.drew W.drew;rw[show((17+8*k:Nat):Int)=17+8*(k:Int)by omega]at I;obtain⟨c6,bw⟩:∃x,(S.map (17+8*k) d 64).2=x:=⟨_,rfl⟩;have ad:=Z bw;have ap:=Z I;clear bw I;go_wp2_with fail
      refine wp_region_still_tail 10 (by kernel_rfl) (by kernel_rfl) ?_;simp only[List.take_succ_cons,List.take_zero,List.drop_succ_cons,List.drop_zero]
      repeat still_step
      try refine wpStill_nil ?_
      change wpList _ _ _ _ _ wr.drew;go_wp2_with (go_at_call 26;(with_reducible refine ap.out.mono ?_);rintro e O ⟨⟨y,rfl,v⟩,o,a⟩;rw[ad.out]at o;have ci:=Z o;have c1:Hid (Ch (dD m c j) w2.drew O):=Z ((CR.out.drew).trans a);have Q:=Z (NM.ch (P.out.drew) a (fun e=>by have u:=b.out;have F:=E.out;rcases e with e|e|e<;>omega));have z:O.cell? (mb,1007)=some (.pointer (some (m,0))):=Q.out.qc A.out;have c9:=Q.out.pc D.out.r5;have cb:=Q.out.pc D.out.r6;clear o a v)
      have cf:=kz m c j c6 (17+8*k+d) f (by omega) (by omega) O.drew ci.drew;rw[show((17+8*k+d:Nat):Int)=17+8*(k:Int)+(d:Int)by omega]at cf;obtain⟨ck,bv⟩:∃x,(c6.map (17+8*k+d) f 32).2=x:=⟨_,rfl⟩;have ab:=Z bv;have ip:=Z cf;clear bv cf;go_wp2_with fail
      refine wp_region_still_tail 16 (by kernel_rfl) (by kernel_rfl) ?_;simp only[List.take_succ_cons,List.take_zero,List.drop_succ_cons,List.drop_zero]
      repeat still_step
      try refine wpStill_nil ?_
      change wpList _ _ _ _ _ O.drew;go_wp2_with (go_at_call 26;(with_reducible refine ip.out.mono ?_);rintro e wn ⟨⟨y,rfl,v⟩,o,a⟩;rw[ab.out]at o;have ch:=Z o;have a3:Hid (Ch (dD m c j) w2.drew wn):=Z ((c1.out.drew).trans a);have J:=Z (NM.ch (Q.out.drew) a (fun e=>by have u:=b.out;have F:=E.out;rcases e with e|e|e<;>omega));have z:wn.cell? (mb,1007)=some (.pointer (some (m,0))):=J.out.qc A.out;have c9:=J.out.pc D.out.r5;have cb:=J.out.pc D.out.r6;clear o a v)
      have V:=Z (c3 wn.drew J.drew);go_region_held3 (fun w'=>w'.cell? (mb,1007)=some (.pointer (some (m,0)))) (first|go_keep|exact(World.cell?_setCell_other _ _ _ _ (by simp)).trans X) (first|(go_at_call 97;refine V.out.mono ?_;rintro e l ⟨rfl,nq,N⟩;have B:Hid (Ch ag wn l):=Z (by rw[N];exact(Ch.refl _ _).drew.drewN nq);have cl:l.cell? (mb,1007)=some (.pointer (some (m,0))):=B.out.k z;clear N)|(go_at_call 96;(with_reducible refine(am.out _).mono ?_);rintro e t ⟨rfl,K,L⟩;have U:=Z K;have C:Hid (Ch ag wn t):=Z (B.out.trans L);have s:=Z (J.out.ch C.out id);have X:t.cell? (mb,1007)=some (.pointer (some (m,0))):=s.out.qc A.out;have cm:=s.out.qc ax.out;have cq:=s.out.fz 1008;clear K L))
      all_goals
       go_wp2
       go_end0
       have q:∀x,w.heap.size<=x->¬aL mb x:=(fun x c8 e=>by have u:x=mb:=e;have F:=E.out;omega);have G:w.heap.size<=l.heap.size:=Nat.le_trans T.size (Nat.le_trans (show w2.heap.size<=wn.heap.size from a3.out.size) B.size);have a:Ch (aL mb) t (t.setCell (mb,1008) (.pointer (some (l.heap.size,0)))):=(Ch.refl _ _).only _ _;refine⟨rfl,m,c,j,l.heap.size,?_,?_,?_,b.1,b.2.1,b.2.2,G,?_⟩
       ·have:=s.kl 1 (bj l.heap.size)
        rw[<-c5]at this;exact this
       ·have e:fX tt k d f=ck:=by unfold fX;dsimp only;rw[av,a1,if_pos c7,if_pos bx,ad,ab]
        rw[e];exact(ch.ch C id id id).ch a (q m b.1) (q c b.2.1) (q j b.2.2)
       ·rw[show 17+8*k+d+f=17+8*k+(d+f)by omega]
        exact U.ch a (q _ G) (fun g a0=>by cases a0)
       ·refine((T.drew.q3 ((a3)) ?_).trans (C.af)).trans a
        intro i M e;have u:=b.out;rcases e with e|e|e<;>omega
     ·have dN:decide ((0:Int)<(f:Int))=false:=decide_eq_false (by omega)
      have I:=ez m c j S (17+8*k) d (by omega) (by omega) wr.drew W.drew;rw[show((17+8*k:Nat):Int)=17+8*(k:Int)by omega]at I;obtain⟨c6,bw⟩:∃x,(S.map (17+8*k) d 64).2=x:=⟨_,rfl⟩;have ad:=Z bw;have ap:=Z I;clear bw I;go_wp2_with fail
      refine wp_region_still_tail 10 (by kernel_rfl) (by kernel_rfl) ?_;simp only[List.take_succ_cons,List.take_zero,List.drop_succ_cons,List.drop_zero]
      repeat still_step
      try refine wpStill_nil ?_
      change wpList _ _ _ _ _ wr.drew;go_wp2_with (go_at_call 26;(with_reducible refine ap.out.mono ?_);rintro e O ⟨⟨y,rfl,v⟩,o,a⟩;rw[ad.out]at o;have ci:=Z o;have c1:Hid (Ch (dD m c j) w2.drew O):=Z ((CR.out.drew).trans a);have Q:=Z (NM.ch (P.out.drew) a (fun e=>by have u:=b.out;have F:=E.out;rcases e with e|e|e<;>omega));have z:O.cell? (mb,1007)=some (.pointer (some (m,0))):=Q.out.qc A.out;have c9:=Q.out.pc D.out.r5;have cb:=Q.out.pc D.out.r6;clear o a v)
      go_wp2
      try(any_goals (exfalso;omega))
      have V:=Z (c3 O.drew Q.drew);go_region_held3 (fun w'=>w'.cell? (mb,1007)=some (.pointer (some (m,0)))) (first|go_keep|exact(World.cell?_setCell_other _ _ _ _ (by simp)).trans X) (first|(go_at_call 97;refine V.out.mono ?_;rintro e l ⟨rfl,nq,N⟩;have B:Hid (Ch ag O l):=Z (by rw[N];exact(Ch.refl _ _).drew.drewN nq);have cl:l.cell? (mb,1007)=some (.pointer (some (m,0))):=B.out.k z;clear N)|(go_at_call 96;(with_reducible refine(am.out _).mono ?_);rintro e t ⟨rfl,K,L⟩;have U:=Z K;have C:Hid (Ch ag O t):=Z (B.out.trans L);have s:=Z (Q.out.ch C.out id);have X:t.cell? (mb,1007)=some (.pointer (some (m,0))):=s.out.qc A.out;have cm:=s.out.qc ax.out;have cq:=s.out.fz 1008;clear K L))
      all_goals
       go_wp2
       go_end0
       have q:∀x,w.heap.size<=x->¬aL mb x:=(fun x c8 e=>by have u:x=mb:=e;have F:=E.out;omega);have G:w.heap.size<=l.heap.size:=Nat.le_trans T.size (Nat.le_trans (show w2.heap.size<=O.heap.size from c1.out.size) B.size);have a:Ch (aL mb) t (t.setCell (mb,1008) (.pointer (some (l.heap.size,0)))):=(Ch.refl _ _).only _ _;refine⟨rfl,m,c,j,l.heap.size,?_,?_,?_,b.1,b.2.1,b.2.2,G,?_⟩
       ·have:=s.kl 1 (bj l.heap.size)
        rw[<-c5]at this;exact this
       ·have e:fX tt k d f=c6:=by unfold fX;dsimp only;rw[av,a1,if_pos c7,if_neg bx,ad]
        rw[e];exact(ci.ch C id id id).ch a (q m b.1) (q c b.2.1) (q j b.2.2)
       ·rw[show 17+8*k+d+f=17+8*k+(d+f)by omega]
        exact U.ch a (q _ G) (fun g a0=>by cases a0)
       ·refine((T.drew.q3 ((c1)) ?_).trans (C.af)).trans a
        intro i M e;have u:=b.out;rcases e with e|e|e<;>omega
    ·have kw:¬0<(d:Int):=by omega
     by_cases bx:0<f
     ·have dN:(0:Int)<(f:Int):=by omega
      have I:=kz m c j S (17+8*k+d) f (by omega) (by omega) wr.drew W.drew;rw[show((17+8*k+d:Nat):Int)=17+8*(k:Int)+(d:Int)by omega]at I;obtain⟨ck,bv⟩:∃x,(S.map (17+8*k+d) f 32).2=x:=⟨_,rfl⟩;have ab:=Z bv;have ap:=Z I;clear bv I;go_wp2_with fail
      refine wp_region_still_tail 16 (by kernel_rfl) (by kernel_rfl) ?_;simp only[List.take_succ_cons,List.take_zero,List.drop_succ_cons,List.drop_zero]
      repeat still_step
      try refine wpStill_nil ?_
      change wpList _ _ _ _ _ wr.drew;go_wp2_with (go_at_call 26;(with_reducible refine ap.out.mono ?_);rintro e wn ⟨⟨y,rfl,v⟩,o,a⟩;rw[ab.out]at o;have ch:=Z o;have a3:Hid (Ch (dD m c j) w2.drew wn):=Z ((CR.out.drew).trans a);have J:=Z (NM.ch (P.out.drew) a (fun e=>by have u:=b.out;have F:=E.out;rcases e with e|e|e<;>omega));have z:wn.cell? (mb,1007)=some (.pointer (some (m,0))):=J.out.qc A.out;have c9:=J.out.pc D.out.r5;have cb:=J.out.pc D.out.r6;clear o a v)
      have V:=Z (c3 wn.drew J.drew);go_region_held3 (fun w'=>w'.cell? (mb,1007)=some (.pointer (some (m,0)))) (first|go_keep|exact(World.cell?_setCell_other _ _ _ _ (by simp)).trans X) (first|(go_at_call 97;refine V.out.mono ?_;rintro e l ⟨rfl,nq,N⟩;have B:Hid (Ch ag wn l):=Z (by rw[N];exact(Ch.refl _ _).drew.drewN nq);have cl:l.cell? (mb,1007)=some (.pointer (some (m,0))):=B.out.k z;clear N)|(go_at_call 96;(with_reducible refine(am.out _).mono ?_);rintro e t ⟨rfl,K,L⟩;have U:=Z K;have C:Hid (Ch ag wn t):=Z (B.out.trans L);have s:=Z (J.out.ch C.out id);have X:t.cell? (mb,1007)=some (.pointer (some (m,0))):=s.out.qc A.out;have cm:=s.out.qc ax.out;have cq:=s.out.fz 1008;clear K L))
      all_goals
       go_wp2
       go_end0
       have q:∀x,w.heap.size<=x->¬aL mb x:=(fun x c8 e=>by have u:x=mb:=e;have F:=E.out;omega);have G:w.heap.size<=l.heap.size:=Nat.le_trans T.size (Nat.le_trans (show w2.heap.size<=wn.heap.size from a3.out.size) B.size);have a:Ch (aL mb) t (t.setCell (mb,1008) (.pointer (some (l.heap.size,0)))):=(Ch.refl _ _).only _ _;refine⟨rfl,m,c,j,l.heap.size,?_,?_,?_,b.1,b.2.1,b.2.2,G,?_⟩
       ·have:=s.kl 1 (bj l.heap.size)
        rw[<-c5]at this;exact this
       ·have e:fX tt k d f=ck:=by unfold fX;dsimp only;rw[av,a1,if_neg c7,if_pos bx,ab]
        rw[e];exact(ch.ch C id id id).ch a (q m b.1) (q c b.2.1) (q j b.2.2)
       ·rw[show 17+8*k+d+f=17+8*k+(d+f)by omega]
        exact U.ch a (q _ G) (fun g a0=>by cases a0)
       ·refine((T.drew.q3 ((a3)) ?_).trans (C.af)).trans a
        intro i M e;have u:=b.out;rcases e with e|e|e<;>omega
     ·have dN:decide ((0:Int)<(f:Int))=false:=decide_eq_false (by omega)
      go_wp2
      try(any_goals (exfalso;omega))
      have V:=Z (c3 wr.drew P.drew);go_region_held3 (fun w'=>w'.cell? (mb,1007)=some (.pointer (some (m,0)))) (first|go_keep|exact(World.cell?_setCell_other _ _ _ _ (by simp)).trans X) (first|(go_at_call 97;refine V.out.mono ?_;rintro e l ⟨rfl,nq,N⟩;have B:Hid (Ch ag wr l):=Z (by rw[N];exact(Ch.refl _ _).drew.drewN nq);have cl:l.cell? (mb,1007)=some (.pointer (some (m,0))):=B.out.k z;clear N)|(go_at_call 96;(with_reducible refine(am.out _).mono ?_);rintro e t ⟨rfl,K,L⟩;have U:=Z K;have C:Hid (Ch ag wr t):=Z (B.out.trans L);have s:=Z (P.out.ch C.out id);have X:t.cell? (mb,1007)=some (.pointer (some (m,0))):=s.out.qc A.out;have cm:=s.out.qc ax.out;have cq:=s.out.fz 1008;clear K L))
      all_goals
       go_wp2
       go_end0
       have q:∀x,w.heap.size<=x->¬aL mb x:=(fun x c8 e=>by have u:x=mb:=e;have F:=E.out;omega);have G:w.heap.size<=l.heap.size:=Nat.le_trans T.size (Nat.le_trans (show w2.heap.size<=wr.heap.size from CR.out.size) B.size);have a:Ch (aL mb) t (t.setCell (mb,1008) (.pointer (some (l.heap.size,0)))):=(Ch.refl _ _).only _ _;refine⟨rfl,m,c,j,l.heap.size,?_,?_,?_,b.1,b.2.1,b.2.2,G,?_⟩
       ·have:=s.kl 1 (bj l.heap.size)
        rw[<-c5]at this;exact this
       ·have e:fX tt k d f=S:=by unfold fX;dsimp only;rw[av,a1,if_neg c7,if_neg bx]
        rw[e];exact(W.ch C id id id).ch a (q m b.1) (q c b.2.1) (q j b.2.2)
       ·rw[show 17+8*k+d+f=17+8*k+(d+f)by omega]
        exact U.ch a (q _ G) (fun g a0=>by cases a0)
       ·refine((T.drew.q3 ((CR)) ?_).trans (C.af)).trans a
        intro i M e;have u:=b.out;rcases e with e|e|e<;>omega
end Go.Proofs.YtfnilkpkogipfaaGreatDoor
