import Derived.Laws.MakeOwn
import Derived.RegionTactic
import Derived.ChangeAlike
import Derived.Test.YtmfnplmcfkkdpaaGreatDoorZAm
set_option linter.all false
set_option maxRecDepth 100000
set_option maxHeartbeats 0
namespace Go.Proofs.YtmfnplmcfkkdpaaGreatDoor
open Go.RowKit Go.Proofs.Tryz
variable{K a b c:KS}
structure Fr(K K':KS):Prop where
 Ea:K'.entries=K.entries
 at_:K'.at_=K.at_
 now:K'.clock.now=K.clock.now
 w:K'.w=K.w
 wl:K'.wk.length=K.wk.length
 out:∀e∈K'.out,e∈K.out∨e.at_=K.at_
theorem Fr.refl(K:KS):Fr K K:=⟨rfl,rfl,rfl,rfl,rfl,fun e h=>Or.inl h⟩
theorem Fr.trans(h:Fr a b)(g:Fr b c):Fr a c:=⟨g.Ea.trans h.Ea,g.at_.trans h.at_,g.now.trans h.now,g.w.trans h.w,g.wl.trans h.wl,fun e f=>by
 rcases g.out e f with d|d
 ·exact h.out e d
 ·exact Or.inr (d.trans h.at_)⟩
theorem Fr.th(g:Fr b c)(h:Fr a b):Fr a c:=h.trans g
theorem Fr.of{K':KS}(d:K'.entries=K.entries)(f:K'.at_=K.at_)(g:K'.w=K.w)(i:K'.out=K.out)(j:K'.clock.now=K.clock.now)(k:K'.wk.length=K.wk.length):Fr K K':=⟨d,f,j,g,k,fun e h=>Or.inl (i▸h)⟩
variable{i:Nat}{w:World}{χ:Nat->a'}{L:cU}{Y:Var}{C:KC}
theorem gM{x:aC}(a:i<K.wk.length):(K.bj i x).W i=x:=KS.Cs (by show(K.wk.set i x)[i]?=_;rw[List.getElem?_set_self a])
theorem pK(i:Nat)(x y:aC):(K.bj i x).bj i y=K.bj i y:=by unfold KS.bj;simp
theorem Em(c:cJ)(f:cP)(a:i<K.wk.length):∃g,(K.cI c f).W i={K.W i with f:=g}:=by
 cases c with
 |own j=>
  show∃g,(K.bj j _).W i=_
  by_cases e:j=i
  ·subst e;exact⟨f,gM a⟩
  ·refine⟨(K.W i).f,?_⟩
   rw[KS.Cs (x:=K.W i) (by show(K.wk.set j _)[i]?=_;rw[List.getElem?_set_ne e];exact KS.ha a)]
 |ai id k=>exact⟨(K.W i).f,rfl⟩
theorem xJ(a:i<K.wk.length)(c:cJ)(f:cP):((K.cI c f).W i).hand=(K.W i).hand:=by
 obtain⟨g,h⟩:=Em c f a;rw[h]
theorem ae.FY(h:ae w χ L Y C K)(a:i<K.wk.length)(s d l:Int):∃aY Y',dD χ L Y C K (K.bj i {K.W i with slot:=s,hand:=d,left:=l}) w aY Y' (((w.setCell (L.wb,i*38) (.int .u64 s)).setCell (L.wb,i*38+1) (.int .u64 d)).setCell (L.wb,i*38+3) (.int .i64 l)):=by
 obtain⟨dZ,Y1,b⟩:=h.wj a s;obtain⟨m,k,c⟩:=b.at_.jT (i:=i) (by rw[bG];exact a) d;obtain⟨j,f,g⟩:=c.at_.wm (i:=i) (by rw[bG,bG];exact a) l;refine⟨j,f,?_⟩;have e:=(b.trans (Gr.of_eq rfl) c).trans (Gr.of_eq rfl) g;rw[pK,pK,gM (by rw[bG];exact a),gM a]at e;exact e
theorem Ad(i:Nat)(M:i<K.wk.length)(c:cJ)(b o:Nat)(J:aj K c)(N:aR L Y c b o)(O:∀k,k<32->aK ((K.F c).r k))(a d f j g l:Int)(I:0<=a/\a<32)(h:ae w χ L Y C K):
 Calls prog 139 #[(L.mb,0),(L.wb,i*38),(b,o),.agg #[.int .i64 30,a,d,f,.int .u64 j,g,l]] w (dk (.tuple #[]) χ L Y C K (b0 K i c ⟨30,a,d,f,j,g,l⟩) w):=by
 have Q:=Z h;have t:=Z J;have v:=Z N;have F:=Z M;obtain⟨w0,P,R,x,m⟩:=h.pre 30 a d f j g l;obtain⟨V,W⟩:=I;obtain⟨s,B⟩:∃y,(K.F c).r a.toNat=y:=⟨_,rfl⟩;have p:=Z B;have n:=Z (O a.toNat (by omega));rw[B]at n;obtain⟨T,U⟩:=n.out;obtain⟨t0,t1,t2,t3,t4,t5,t6⟩:=m.1.c7;have r:=x.at_.aA t v a.toNat (by omega);rw[p]at r;have E:Hid (b0 K i c ⟨30,a,d,f,j,g,l⟩=eK K i s):=Z (by unfold b0;dsimp only;rw[if_pos rfl,p]);go_in
 go_wp2
 try rw[P]
 go_quiet (fail)
 obtain⟨w1,A⟩:=nm (w0.drewN nq);have u:Hid (Ch ag w0 w1):=Z (by rw[<-A];exact ay);rw[A];have q:=Z (x.af u);have z:Hid (aj K c/\aR L Y c b o):=Z ⟨t,v⟩;have D:=Z ((Nx.af u).row m.1 m.2);obtain⟨t0,t1,t2,t3,t4,t5,t6⟩:=D.1.c7;have r:=q.at_.aA z.1 z.2 a.toNat (by omega);rw[show((K:KS).F c).r a.toNat=s from p.out]at r;go_wp2_with fail
 refine(pJ i F s n q.at_).mono ?_;rintro e w2 ⟨rfl,X,S,H⟩;have G:=Z (q.trans (Gr.refl _) H);go_wp2
 go_end0
 rw[E];exact⟨rfl,_,_,G⟩
theorem Ae(i:Nat)(W:i<K.wk.length)(c:cJ)(b o:Nat)(V:aj K c)(X:aR L Y c b o)(a0:∀k,k<32->aK ((K.F c).r k))(a q r t s u:Int)(U:0<=a/\a<32)(M:aK (K.W i).hand)(h:ae w χ L Y C K):
 Calls prog 139 #[(L.mb,0),(L.wb,i*38),(b,o),.agg #[.int .i64 33,a,q,r,.int .u64 t,s,u]] w (dk (.tuple #[]) χ L Y C K (b0 K i c ⟨33,a,q,r,t,s,u⟩) w):=by
 have a3:=Z h;have A:=Z V;have B:=Z X;have v:=Z W;obtain⟨w0,N,a4,F,f⟩:=h.pre 33 a q r t s u;obtain⟨am,ap⟩:=U;obtain⟨P,O⟩:∃y,(K.F c).r a.toNat=y:=⟨_,rfl⟩;have D:=Z O;have I:=Z (a0 a.toNat (by omega));rw[O]at I;obtain⟨ad,al⟩:=I.out;obtain⟨t0,t1,t2,t3,t4,t5,t6⟩:=f.1.c7;have p:=F.at_.aA A B a.toNat (by omega);rw[D]at p;obtain⟨m,J⟩:=nm ((K.W i).hand);have j:=Z J;rw[J]at M;have Q:=Z M;by_cases G:m=0
 ·subst G
  have E:Hid (b0 K i c ⟨33,a,q,r,t,s,u⟩=K):=Z (by unfold b0;dsimp only;rw[if_neg (by decide),if_pos rfl,if_neg (by rw[j.out];simp)]);go_in
  go_wp2
  try rw[N]
  go_quiet (fail)
  obtain⟨w1,n⟩:=nm (w0.drewN nq);have g:Hid (Ch ag w0 w1):=Z (by rw[<-n];exact ay);rw[n];have d:=Z (F.af g);have l:Hid (aj K c/\aR L Y c b o):=Z ⟨A,B⟩;have z:=Z ((Nx.af g).row f.1 f.2);obtain⟨t0,t1,t2,t3,t4,t5,t6⟩:=z.1.c7;have p:=d.at_.aA l.1 l.2 a.toNat (by omega);rw[show((K:KS).F c).r a.toNat=P from D.out]at p;have H:=d.at_.fD v;rw[j]at H;go_wp2
  go_end0
  rw[E];exact⟨rfl,_,_,d⟩
 ·have hb:(m==0)=false:=by rw[beq_eq_false_iff_ne];exact G
  have E:Hid (b0 K i c ⟨33,a,q,r,t,s,u⟩=(cr K m).bj i {(cr K m).W i with hand:=0}):=Z (by unfold b0;dsimp only;rw[if_neg (by decide),if_pos rfl,if_pos (by rw[j.out];exact G),j]);go_in
  go_wp2
  try rw[N]
  go_quiet (fail)
  obtain⟨w1,n⟩:=nm (w0.drewN nq);have g:Hid (Ch ag w0 w1):=Z (by rw[<-n];exact ay);rw[n];have d:=Z (F.af g);have l:Hid (aj K c/\aR L Y c b o):=Z ⟨A,B⟩;have z:=Z ((Nx.af g).row f.1 f.2);obtain⟨t0,t1,t2,t3,t4,t5,t6⟩:=z.1.c7;have p:=d.at_.aA l.1 l.2 a.toNat (by omega);rw[show((K:KS).F c).r a.toNat=P from D.out]at p;have H:=d.at_.fD v;rw[j]at H;go_wp2_with fail
  refine(fh m Q d.at_).mono ?_;rintro e w2 ⟨rfl,av,a5,S⟩;have x:=Z (d.trans (Gr.refl _) S);have ab:=x.at_.fD (i:=i) (by exact v);have a9:=x.at_.uq (i*38+1);have T:=Z (x.at_.jT (i:=i) (by exact v) 0);go_wp2
  go_end0
  rw[E];obtain⟨a2,R,a1⟩:=T.out;exact⟨rfl,a2,R,x.trans (Gr.of_eq rfl) a1⟩
theorem Af(i:Nat)(c1:i<K.wk.length)(c:cJ)(b o:Nat)(bx:aj K c)(c2:aR L Y c b o)(c4:∀k,k<32->aK ((K.F c).r k))(a D F H G I:Int)(bw:0<=a/\a<32)(h:ae w χ L Y C K):
 Calls prog 139 #[(L.mb,0),(L.wb,i*38),(b,o),.agg #[.int .i64 34,a,D,F,.int .u64 H,G,I]] w (dk (.tuple #[]) χ L Y C K (b0 K i c ⟨34,a,D,F,H,G,I⟩) w):=by
 have cd:=Z h;have j:=Z bx;have m:=Z c2;have l:=Z c1;obtain⟨w0,a5,ch,Q,s⟩:=h.pre 34 a D F H G I;obtain⟨cW,dr⟩:=bw;obtain⟨ad,ab⟩:∃y,(K.F c).r a.toNat=y:=⟨_,rfl⟩;have P:=Z ab;have a1:=Z (c4 a.toNat (by omega));rw[ab]at a1;obtain⟨cQ,cS⟩:=a1.out;obtain⟨t0,t1,t2,t3,t4,t5,t6⟩:=s.1.c7;have B:=Q.at_.aA j m a.toNat (by omega);rw[P]at B;obtain⟨T,c0⟩:=nm ((K.W i).hand);have al:=Z c0;have N:Hid (((K.ax c a.toNat 0).W i).hand=T):=Z ((xJ l c _).trans al);have u:Hid ((K.ax c a.toNat 0).wk.length=K.wk.length):=Z (br _ _);have J:Hid (Gr K (K.ax c a.toNat 0)):=Z (bA j _);by_cases U:T=0
 ·subst U
  obtain⟨p,c3⟩:=nm (gS K.ring);have X:Hid (gS (K.ax c a.toNat 0).ring=p):=Z (by rw[<-c3];congr 1;exact xI _ _);obtain⟨pv,cA,c6⟩:=p;obtain⟨K2,S⟩:=mn (({K.ax c a.toNat 0 with ring:=c6}:KS));have W:=Z S;have M:Hid (Gr K K2):=Z (by rw[S];exact J.trans (Gr.of_eq rfl));have v:Hid (K2.wk.length=K.wk.length):=Z (by rw[S];exact u);have a3:Hid ((K2.bj i {K2.W i with hand:=pv}).wk.length=K.wk.length):=Z ((bG _ _).trans v);have a2:Hid (((K2.bj i {K2.W i with hand:=pv}).W i).hand=pv):=Z (by rw[gM (by rw[v];exact l)]);have E:Hid (b0 K i c ⟨34,a,D,F,H,G,I⟩=(K2.bj i {K2.W i with hand:=pv}).ax c a.toNat pv):=Z (by unfold b0;dsimp only;rw[if_neg (by decide),if_neg (by decide),if_pos rfl,if_pos N.out,X,<-W,a2]);go_in
  go_wp2
  try rw[a5]
  go_quiet (fail)
  obtain⟨w1,z⟩:=nm (w0.drewN nq);have t:Hid (Ch ag w0 w1):=Z (by rw[<-z];exact ay);rw[z];have f:=Z (Q.af t);have d:Hid (aj K c/\aR L Y c b o):=Z ⟨j,m⟩;have O:=Z ((Nx.af t).row s.1 s.2);obtain⟨t0,t1,t2,t3,t4,t5,t6⟩:=O.1.c7;have B:=f.at_.aA d.1 d.2 a.toNat (by omega);rw[show((K:KS).F c).r a.toNat=ad from P.out]at B;have bi:=f.at_.hy d.1 d.2 (o+1+a.toNat);obtain⟨c9,ap,x⟩:=f.at_.a7 d.1 d.2 a.toNat (by omega) 0;obtain⟨w2,A⟩:=nm (w1.setCell (b,o+1+a.toNat) (.int .u64 0));rw[A]at x;have g:=Z (f.trans (Gr.refl _) x);have am:=Z (g.cur j m J u);have V:=g.at_.fD (i:=i) (by rw[u];exact l);rw[N]at V;have k2:=g.at_.nX;have a0:=Z (xC g.at_);rw[X]at a0;go_wp2_with fail
  try rw[A]
  refine a0.mono ?_;rintro e c8 ⟨rfl,dC,cl,R⟩;try dsimp only at R
  rw[<-W]at R;have n:=Z (g.trans J R);have ci:=Z (n.cur j m M v);have ce:=Z (n.nx.trans (Nx.refl _ _));have cL:=n.at_.fD (i:=i) (by rw[v];exact l);have cq:=n.at_.uq (i*38+1);obtain⟨dN,cm,a4⟩:=n.at_.jT (i:=i) (by rw[v];exact l) pv;obtain⟨w4,a9⟩:=nm (c8.setCell (L.wb,i*38+1) (.int .u64 pv));rw[a9]at a4;have q:=Z (n.trans M a4);have r:=Z (q.cur j m (M.trans (Gr.of_eq rfl)) a3);have c7:=q.at_.fD (i:=i) (by rw[a3];exact l);rw[a2]at c7;have cC:=q.at_.aA r.1 r.2 a.toNat (by omega);have cs:=q.at_.hy r.1 r.2 (o+1+a.toNat);have bv:=Z (q.at_.a7 r.1 r.2 a.toNat (by omega) pv);go_wp2
  try rw[a9]
  go_end0
  rw[E];obtain⟨cb,av,c5⟩:=bv.out;exact⟨rfl,cb,av,q.trans (M.trans (Gr.of_eq rfl)) c5⟩
 ·have hb:(T==0)=false:=by rw[beq_eq_false_iff_ne];exact U
  have E:Hid (b0 K i c ⟨34,a,D,F,H,G,I⟩=K.ax c a.toNat 0):=Z (by unfold b0;dsimp only;rw[if_neg (by decide),if_neg (by decide),if_pos rfl,if_neg (by rw[N.out];exact U)]);go_in
  go_wp2
  try rw[a5]
  go_quiet (fail)
  obtain⟨w1,z⟩:=nm (w0.drewN nq);have t:Hid (Ch ag w0 w1):=Z (by rw[<-z];exact ay);rw[z];have f:=Z (Q.af t);have d:Hid (aj K c/\aR L Y c b o):=Z ⟨j,m⟩;have O:=Z ((Nx.af t).row s.1 s.2);obtain⟨t0,t1,t2,t3,t4,t5,t6⟩:=O.1.c7;have B:=f.at_.aA d.1 d.2 a.toNat (by omega);rw[show((K:KS).F c).r a.toNat=ad from P.out]at B;have bi:=f.at_.hy d.1 d.2 (o+1+a.toNat);obtain⟨c9,ap,x⟩:=f.at_.a7 d.1 d.2 a.toNat (by omega) 0;obtain⟨w2,A⟩:=nm (w1.setCell (b,o+1+a.toNat) (.int .u64 0));rw[A]at x;have g:=Z (f.trans (Gr.refl _) x);have am:=Z (g.cur j m J u);have V:=g.at_.fD (i:=i) (by rw[u];exact l);rw[N]at V;go_wp2
  try rw[A]
  go_end0
  rw[E];exact⟨rfl,_,_,g⟩
theorem Ag(i:Nat)(bv:i<K.wk.length)(c:cJ)(b o:Nat)(bi:aj K c)(bw:aR L Y c b o)(bx:∀k,k<32->aK ((K.F c).r k))(a F G I H J:Int)(av:0<=a/\a<32)(a3:aK (K.W i).hand)(h:ae w χ L Y C K):
 Calls prog 139 #[(L.mb,0),(L.wb,i*38),(b,o),.agg #[.int .i64 35,a,F,G,.int .u64 I,H,J]] w (dk (.tuple #[]) χ L Y C K (b0 K i c ⟨35,a,F,G,I,H,J⟩) w):=by
 have c3:=Z h;have M:=Z bi;have N:=Z bw;have f:=Z bv;obtain⟨w0,U,c4,O,q⟩:=h.pre 35 a F G I H J;obtain⟨ce,ch⟩:=av;obtain⟨V,a5⟩:∃y,(K.F c).r a.toNat=y:=⟨_,rfl⟩;have r:=Z a5;have a0:=Z (bx a.toNat (by omega));rw[a5]at a0;obtain⟨cb,cd⟩:=a0.out;obtain⟨t0,t1,t2,t3,t4,t5,t6⟩:=q.1.c7;have s:=O.at_.aA M N a.toNat (by omega);rw[r]at s;obtain⟨j,a2⟩:=nm ((K.W i).hand);have m:=Z a2;obtain⟨a9,c0⟩:=nm ((K.W i).slot);have u:=Z c0;rw[a2]at a3;have ad:=Z a3;by_cases R:j=0
 ·subst R
  have E:Hid (b0 K i c ⟨35,a,F,G,I,H,J⟩=K):=Z (by unfold b0;dsimp only;rw[if_neg (by decide),if_neg (by decide),if_neg (by decide),if_pos rfl,if_neg (by rw[r.out,m,u];simp)]);go_in
  go_wp2
  try rw[U]
  go_quiet (fail)
  obtain⟨w1,p⟩:=nm (w0.drewN nq);have l:Hid (Ch ag w0 w1):=Z (by rw[<-p];exact ay);rw[p];have d:=Z (O.af l);have n:Hid (aj K c/\aR L Y c b o):=Z ⟨M,N⟩;have z:=Z ((Nx.af l).row q.1 q.2);obtain⟨t0,t1,t2,t3,t4,t5,t6⟩:=z.1.c7;have s:=d.at_.aA n.1 n.2 a.toNat (by omega);rw[show((K:KS).F c).r a.toNat=V from r.out]at s;have t:=d.at_.fD f;rw[m]at t;have x:=d.at_.mK f;rw[u]at x;go_wp2
  go_quiet (fail)
  generalize B:w1.drewN _=w2;have A:=Z (Ch.dN (D:=ag) B);have g:=Z (d.af A);go_wp2
  go_end0
  rw[E];exact⟨rfl,_,_,g⟩
 ·have hb:(j==0)=false:=by rw[beq_eq_false_iff_ne];exact R
  by_cases S:V=j
  ·by_cases P:a9=0
   ·obtain rfl:=S.symm
    subst P;have hb:(j==0)=false:=(by rw[beq_eq_false_iff_ne];exact R);obtain⟨K2,T⟩:=mn (K.bj i {K.W i with slot:=j,hand:=0,left:=24});have W:=Z T;have ab:Hid (Gr K K2):=Z (by rw[T];exact Gr.of_eq rfl);have al:Hid (K2.wk.length=K.wk.length):=Z (by rw[T];exact bG _ _);have X:Hid ((K2.W i).slot=j):=Z (by rw[T,gM f]);have E:Hid (b0 K i c ⟨35,a,F,G,I,H,J⟩={K2 with table:=(j4 K2.table j 2).2}):=Z (by unfold b0;dsimp only;rw[if_neg (by decide),if_neg (by decide),if_neg (by decide),if_pos rfl,if_pos ⟨by rw[m.out];exact R,by rw[r,m],u⟩,m,<-W,X]);go_in
    go_wp2
    try rw[U]
    go_quiet (fail)
    obtain⟨w1,p⟩:=nm (w0.drewN nq);have l:Hid (Ch ag w0 w1):=Z (by rw[<-p];exact ay);rw[p];have d:=Z (O.af l);have n:Hid (aj K c/\aR L Y c b o):=Z ⟨M,N⟩;have z:=Z ((Nx.af l).row q.1 q.2);obtain⟨t0,t1,t2,t3,t4,t5,t6⟩:=z.1.c7;have s:=d.at_.aA n.1 n.2 a.toNat (by omega);rw[show((K:KS).F c).r a.toNat=j from r.out]at s;have t:=d.at_.fD f;rw[m]at t;have x:=d.at_.mK f;rw[u]at x;go_wp2
    go_quiet (fail)
    generalize B:w1.drewN _=w2;have A:=Z (Ch.dN (D:=ag) B);have g:=Z (d.af A);have t:=g.at_.fD f;rw[m]at t;have x:=g.at_.mK f;have c9:=g.at_.Dy f;have f0:=g.at_.uq (i*38);have f1:=g.at_.uq (i*38+1);have f3:=g.at_.uq (i*38+3);obtain⟨c2,a4⟩:=nm (((w2.setCell (L.wb,i*38) (.int .u64 j)).setCell (L.wb,i*38+1) (.int .u64 0)).setCell (L.wb,i*38+3) (.int .i64 24));have a1:=g.at_.FY f j 0 24;rw[a4,<-W]at a1;obtain⟨ci,c5,P⟩:=a1;have Q:=Z (g.trans (Gr.refl _) P);have k3:=Q.at_.ee;have c1:=Q.at_.mK (i:=i) (by rw[al];exact f);rw[X]at c1;go_wp2
    try rw[a4]
    go_still_tail 8,(by kernel_rfl)
    change wpList _ _ _ _ _ c2.drew;go_wp2_with fail
    refine(qI j 2 ad Q.at_.drew).mono ?_;rintro e w4 ⟨⟨v,rfl,_⟩,cl,c6,ap⟩;have am:=Z ((Q.af ay).trans ab ap);go_wp2
    go_end0
    rw[E];exact⟨rfl,_,_,am⟩
   ·obtain rfl:=S.symm
    have c8:(a9==0)=false:=(by rw[beq_eq_false_iff_ne];exact P);have E:Hid (b0 K i c ⟨35,a,F,G,I,H,J⟩=K):=Z (by unfold b0;dsimp only;rw[if_neg (by decide),if_neg (by decide),if_neg (by decide),if_pos rfl,if_neg (by rw[r.out,m,u];exact fun e=>P e.2.2)]);go_in
    go_wp2
    try rw[U]
    go_quiet (fail)
    obtain⟨w1,p⟩:=nm (w0.drewN nq);have l:Hid (Ch ag w0 w1):=Z (by rw[<-p];exact ay);rw[p];have d:=Z (O.af l);have n:Hid (aj K c/\aR L Y c b o):=Z ⟨M,N⟩;have z:=Z ((Nx.af l).row q.1 q.2);obtain⟨t0,t1,t2,t3,t4,t5,t6⟩:=z.1.c7;have s:=d.at_.aA n.1 n.2 a.toNat (by omega);rw[show((K:KS).F c).r a.toNat=j from r.out]at s;have t:=d.at_.fD f;rw[m]at t;have x:=d.at_.mK f;rw[u]at x;go_wp2
    go_quiet (fail)
    generalize B:w1.drewN _=w2;have A:=Z (Ch.dN (D:=ag) B);have g:=Z (d.af A);go_wp2
    go_end0
    rw[E];exact⟨rfl,_,_,g⟩
  ·have c7:(V==j)=false:=by rw[beq_eq_false_iff_ne];exact S
   have E:Hid (b0 K i c ⟨35,a,F,G,I,H,J⟩=K):=Z (by unfold b0;dsimp only;rw[if_neg (by decide),if_neg (by decide),if_neg (by decide),if_pos rfl,if_neg (by rw[r.out,m,u];exact fun e=>S e.2.1)]);go_in
   go_wp2
   try rw[U]
   go_quiet (fail)
   obtain⟨w1,p⟩:=nm (w0.drewN nq);have l:Hid (Ch ag w0 w1):=Z (by rw[<-p];exact ay);rw[p];have d:=Z (O.af l);have n:Hid (aj K c/\aR L Y c b o):=Z ⟨M,N⟩;have z:=Z ((Nx.af l).row q.1 q.2);obtain⟨t0,t1,t2,t3,t4,t5,t6⟩:=z.1.c7;have s:=d.at_.aA n.1 n.2 a.toNat (by omega);rw[show((K:KS).F c).r a.toNat=V from r.out]at s;have t:=d.at_.fD f;rw[m]at t;have x:=d.at_.mK f;rw[u]at x;go_wp2
   go_quiet (fail)
   generalize B:w1.drewN _=w2;have A:=Z (Ch.dN (D:=ag) B);have g:=Z (d.af A);go_wp2
   go_end0
   rw[E];exact⟨rfl,_,_,g⟩
variable{c:cJ}{b o:Nat}
open Classical in
theorem Ch.cut{D E:Nat->Prop}{w w':World}(h:Ch (D8 E D) w w'):∃w1,Ch E w w1/\Ch D w1 w'/\Ch D w' w1:=by
 refine⟨{w' with heap:=w'.heap.mapIdx fun k o=>if D k then(w.heap[k]?).getD o else o},⟨h.os,h.tape,h.output,?_,?_⟩,⟨rfl,rfl,rfl,?_,?_⟩,⟨rfl,rfl,rfl,?_,?_⟩⟩
 ·rw[Array.size_mapIdx];exact h.size
 ·intro k d f
  show(w'.heap.mapIdx _)[k]?=_
  rw[Array.getElem?_mapIdx];have g:k<w'.heap.size:=Nat.lt_of_lt_of_le d h.size;by_cases a:D k
  ·rw[Array.getElem?_eq_getElem g]
   simp[a,Array.getElem?_eq_getElem d]
  ·rw[h.same k d (fun e=>e.elim f a),Array.getElem?_eq_getElem d]
   simp[a]
 ·rw[Array.size_mapIdx];exact Nat.le_refl _
 ·intro k d a
  show _=(w'.heap.mapIdx _)[k]?
  rw[Array.getElem?_mapIdx];cases w'.heap[k]?<;>simp[a]
 ·rw[Array.size_mapIdx];exact Nat.le_refl _
 ·intro k d a
  show(w'.heap.mapIdx _)[k]?=_
  rw[Array.getElem?_mapIdx];cases w'.heap[k]?<;>simp[a]
variable{w':World}
theorem ae.FZ(h:ae w χ L Y C K)(a:aj K c)(e:aR L Y c b o):∃pre post v,aJ w b o (qL c) pre post v (K.F c)/\(χ b=.wk∨∃id k,χ b=.fr id k)/\∀g,v.ownBlock=some g->χ g=.back:=by
 cases c with
 |own i=>
  obtain⟨rfl,rfl⟩:=e;obtain⟨pre,post,j,_⟩:=h.ur a;exact⟨_,_,_,j,Or.inl (h.wk (by simp)).k,fun g l=>(h.wk (by simp)).kb i _ (KS.ha a) g l⟩
 |ai id k=>
  obtain⟨rfl,rfl⟩:=e;obtain⟨t,f,d⟩:=a;have hF:=h.fr id t k _ f (List.getElem?_eq_getElem d) (by simp);refine⟨[],(t.l[k]).post,Y.bv id k,?_,Or.inr ⟨id,k,hF.kf⟩,hF.kb⟩;rw[show K.F (.ai id k)=(t.l[k]).f from by
   show((K.T id).l.getD k default).f=_
   rw[KS.dm f,List.getD_eq_getElem?_getD,List.getElem?_eq_getElem d];rfl]
  exact hF.is
theorem xK(K:KS)(c:cJ)(f:cP)(S:aI):({K with mem:=S}:KS).cI c f={K.cI c f with mem:=S}:=by cases c<;>rfl
theorem ae.Cx(h:ae w χ L Y C K)(l:aj K c)(D:aR L Y c b o){pre post:List Value}{v v':Value}{f:cP}{S:aI}(u:aJ w b o (qL c) pre post v (K.F c))(m:χ b=.wk∨∃id k,χ b=.fr id k)(E:∀g,v.ownBlock=some g->χ g=.back)
 (x:aJ w' b o (qL c) pre post v' f) (n:aS w v v') (B:aO w' L.m L.c L.d S) (t:Ch (D8 (aH b) (cK L.m L.c)) w w'):∃aY Y',dD χ L Y C K (({K with mem:=S}:KS).cI c f) w aY Y' w':=by
 obtain⟨w1,q,r,s⟩:=t.cut;have a:=h.mem (by simp);have hb:¬cK L.m L.c b:=fun e=>by
  rcases e with rfl|rfl
  ·rcases m with e|⟨_,_,e⟩<;>rw[a.k1]at e<;>cases e
  ·rcases m with e|⟨_,_,e⟩<;>rw[a.k2]at e<;>cases e
 have y:aJ w1 b o (qL c) pre post v' f:=x.ch s hb (fun g z e=>by
  rcases n g z with j|j
  ·have d:=E g j
   rcases e with rfl|rfl
   ·rw[a.k1]at d;cases d
   ·rw[a.k2]at d;cases d
  ·rcases e with rfl|rfl
   ·have:=a.is.head.lt;omega
   ·have:=a.is.cells.lt;omega)
 obtain⟨dZ,Y1,p⟩:=h.z1 l D u y n q;have F:=p.at_.mH B r (fun i A=>ff A);rw[xK];exact⟨dZ,Y1,p.trans (bA l f) F⟩
section
variable{b:Nat}
section
variable{w w1 w2:World}{χ aY:Nat->a'}{L:cU}{Y Y':Var}{C:KC}{K K':KS}
theorem ae.plain(h:ae w1 χ L Y C K)(hb:χ b=.no)(c:Ch (aH b) w1 w2):ae w2 χ L Y C K:=by
 have s:eT [.no] χ χ (aH b) w1 w2:=eT.one c (fun i e=>by rw[show i=b from e];simp[hb]) h.small;have k:=h.step s (by simp);exact {head:=fun _=>k.head (by simp),mem:=fun _=>k.mem (by simp),al:=fun _=>k.al (by simp),b2:=fun _=>k.b2 (by simp),ring:=fun _=>k.ring (by simp),q:=fun _=>k.q (by simp),cZ:=fun _=>k.cZ (by simp),obj:=fun _=>k.obj (by simp),wk:=fun _=>k.wk (by simp),tm:=fun _=>k.tm (by simp),th:=fun i t h _=>k.th i t h (by simp),tl:=fun i t h _=>k.tl i t h (by simp),fr:=fun i t j f a d _=>k.fr i t j f a d (by simp),out:=fun _=>k.out (by simp),code:=fun _=>k.code (by simp),small:=k.small}
theorem dD.plain(m:dD χ L Y C K K' w aY Y' w1)(hb:aY b=.no)(f:w.heap.size<=b)(c:Ch (aH b) w1 w2):dD χ L Y C K K' w aY Y' w2:=
 ⟨m.at_.plain hb c,⟨⟨c.os.trans m.nx.ch.os,c.tape.trans m.nx.ch.tape,c.output.trans m.nx.ch.output,Nat.le_trans m.nx.ch.size c.size,fun k a d=>(c.same k (Nat.lt_of_lt_of_le a m.nx.ch.size) (fun e=>by rw[show k=b from e]at a;omega)).trans (m.nx.ch.same k a d)⟩,m.nx.same⟩,m.yk⟩
end
end
variable{l:List be}{pc:Int}
theorem oc(a:0<=pc)(b:pc<l.length):l[pc.toNat]?=some (fB l pc):=by
 unfold fB;rw[if_pos ⟨a,b⟩,List.getD_eq_getElem?_getD,List.getElem?_eq_getElem (by omega)];rfl
theorem lX(h:¬(0<=pc/\pc<l.length)):fB l pc=⟨0,0,0,0,0,0,0⟩:=by unfold fB;rw[if_neg h]
theorem F0(c:cJ)(b o:Nat)(n:aj K c)(s:aR L Y c b o)(H:∀k,k<32->aK ((K.F c).r k))(A:(K.F c).back.length<=8)(J:∀x∈C.dH,aK x.v)(M:C.dH.length<=2048)(h:ae w χ L Y C K):
 Calls prog 105 #[(b,o),.slice L.lc C.dH.length L.Dt,.iface 64 (.pointer (some (L.m,0)))] w
  (zz (cB C K c).2.1 (fun w'=>∃aY Y',dD χ L Y C K (cB C K c).2.2 w aY Y' w')):=by
 obtain⟨pre,post,v,q,r,y⟩:=h.FZ n s;have a:=h.mem (by simp);have p:=h.code (by simp);have m:b≠L.m/\b≠L.c/\b≠L.d:=by
  refine⟨?_,?_,?_⟩<;>intro e<;>subst e<;>rcases r with e|⟨_,_,e⟩
  ·rw[a.k1]at e;cases e
  ·rw[a.k1]at e;cases e
  ·rw[a.k2]at e;cases e
  ·rw[a.k2]at e;cases e
  ·rw[a.k3]at e;cases e
  ·rw[a.k3]at e;cases e
 have I:=rQ (zA L.m L.c L.d) K.mem (Z trivial) b o (qL c) (kY c) pre post v (K.F c) C.dH L.lc C.dH.length L.Dt rfl p.m4 (by omega) A H J w q
  (fun t=>by obtain⟨g,f,d,_⟩:=p.cg (by intro e;rw[e]at t;exact absurd t (by simp));exact⟨g,0,f,fun j u E=>by rw[Nat.zero_add];exact d.cell j u E⟩) a.is
  (fun S w w' O f1 P f2 f _ _ _ d=>aO.ch f d (fun e=>m.1 (Eq.symm e)) (fun e=>m.2.1 (Eq.symm e)) (fun e=>m.2.2 (Eq.symm e)))
  (fun e=>by rcases e with e|e;exact m.1 e;exact m.2.1 e)
  (fun i N e=>by rcases e with rfl|rfl;have:=a.is.head.lt;omega;have:=a.is.cells.lt;omega)
  (fun g D e=>by
   have d:=y g D;rcases e with rfl|rfl
   ·rw[a.k1]at d;cases d
   ·rw[a.k2]at d;cases d)
 refine I.mono ?_;rintro e w' ⟨f,⟨v',B,F⟩,G,z⟩;exact⟨f,h.Cx n s q r y B F G z⟩
theorem xL(x:be):aL x=.agg #[x.op,x.a,x.b,x.c,.int .u64 x.v,x.m,x.wh]:=rfl
theorem pL(c:cJ)(b o:Nat)(c9:aj K c)(cb:aR L Y c b o)(eC:∀k,k<32->aK ((K.F c).r k))(es:(K.F c).back.length<=8)(eV:∀x∈C.dH,aK x.v)(cL:C.dH.length<=2048)(h:ae w χ L Y C K):
 Calls prog 100 #[(L.mb,0),(b,o)] w (dk (.tuple #[aL (cB C K c).1,.int .i64 (cB C K c).2.1]) χ L Y C K (cB C K c).2.2 w):=by
 have A:=Z h;have I:=Z c9;have M:=Z cb;have P:=Z (fun w (h:ae w χ L Y C K)=>F0 c b o c9 cb eC es eV cL h);have cC:=h.code (by simp);have g9:=Z cC;obtain⟨pc,cd⟩:=nm ((K.F c).pc);have O:=Z cd;obtain⟨N,c6⟩:=nm C.dH.length;have p:=Z c6;have hm:N<=2048:=by rw[<-c6];exact cL
 have eW:=h.uu c9 cb;rw[cd]at eW;have k0:=h.c0;rw[c6]at k0;have R:=h.cO;have dr:(cB C K c).1=fB C.dH pc:=by unfold cB;rw[cd]
 obtain⟨s,eS⟩:=nm (cB C K c);rw[eS]at P dr⊢;obtain⟨x,n,K'⟩:=s;rw[c6]at P;have c8:=Z dr;have ex:C.dH≠[]->∃g,L.lc=some ⟨g,0,none⟩/\fN w g C.dH:=fun eA=>by obtain⟨g,a9,en,_⟩:=cC.cg eA;exact⟨g,a9,en⟩
 have dC:=Z ex;by_cases ej:pc<0
 ·have Q:¬0<=pc:=by omega
  have cS:decide (0<=pc)=false:=by simpa using ej
  have ch:x=⟨0,0,0,0,0,0,0⟩:=by have:=c8.out;dsimp only at this;rw[this];exact lX (fun e=>by have a5:=e.2;rw[p]at a5;omega)
  subst ch;obtain⟨w1,j⟩:=nm ((w.alloc (.cells #[.int .i64 0,.int .i64 0,.int .i64 0,.int .i64 0,.int .u64 0,.int .i64 0,.int .i64 0] 152)).alloc (.cells #[.int .i64 0,.int .i64 0,.int .i64 0,.int .i64 0,.int .u64 0,.int .i64 0,.int .i64 0] 152));have J:Hid (Ch ag w w1):=Z (by rw[<-j];exact ay);have r:=Z (A.gU J);have S:Hid (Row w1 w.heap.size 152 [.int .i64 0,.int .i64 0,.int .i64 0,.int .i64 0,.int .u64 0,.int .i64 0,.int .i64 0]):=Z (by rw[<-j];exact(Row.new w _ _).alloc _);have T:Hid (Row w1 (w.heap.size+1) 152 [.int .i64 0,.int .i64 0,.int .i64 0,.int .i64 0,.int .u64 0,.int .i64 0,.int .i64 0]):=Z (by
   rw[<-j];have:=Row.new (w.alloc (.cells #[.int .i64 0,.int .i64 0,.int .i64 0,.int .i64 0,.int .u64 0,.int .i64 0,.int .i64 0] 152)) #[.int .i64 0,.int .i64 0,.int .i64 0,.int .i64 0,.int .u64 0,.int .i64 0,.int .i64 0] 152
   rwa [World.size_alloc]at this)
  have p1:=r.at_.uu I M;rw[O]at p1;have k1:=r.at_.c0;rw[p]at k1;go_in
  go_upto_region 2 with fail
  try rw[j]
  go_quiet (fail)
  obtain⟨w2,B⟩:=nm (w1.drewN nq);have q:=Z (Ch.dN (D:=ag) B);rw[B];have i:=Z (r.af q);have F:=Z (S.ch q id);have f:=Z (T.ch q id);have p1:=i.at_.uu I M;rw[O]at p1;have k1:=i.at_.c0;rw[p]at k1;have R:=i.at_.cO;go_wp2
  go_region_held3 (fun w'=>w'.cell? (L.mb,0)=some (.slice L.lc N L.Dt)/\w'.cell? (L.mb,1007)=some (.pointer (some (L.m,0)))) (go_keep) ((go_at_call 105;refine(P _ i.at_.drew).mono ?_;rintro e E ⟨⟨u,rfl,cW⟩,c4,X,y⟩;have t:=Z ((i.af ay).trans (Gr.refl _) y);have a:=Z (((Nx.af (Ch.refl _ w2).drew).trans y.nx).row F (A.fresh (Nat.le_refl _)));have d:=Z (((Nx.af (Ch.refl _ w2).drew).trans y.nx).row f (A.fresh (Nat.le_succ _)));have k1:=t.at_.c0;rw[p]at k1;have R:=t.at_.cO))
  all_goals
   have x0:=d.1.c1;have a0:=a.1.c1;have f0:=a.1.free 0;have x1:=d.1.k 1 rfl;have a1:=a.1.k 1 rfl;have f1:=a.1.free 1;have x2:=d.1.k 2 rfl;have a2:=a.1.k 2 rfl;have f2:=a.1.free 2;have x3:=d.1.k 3 rfl;have a3:=a.1.k 3 rfl;have f3:=a.1.free 3;have x4:=d.1.k 4 rfl;have a4:=a.1.k 4 rfl;have f4:=a.1.free 4;have x5:=d.1.k 5 rfl;have cs:=a.1.k 5 rfl;have f5:=a.1.free 5;have x6:=d.1.k 6 rfl;have cA:=a.1.k 6 rfl;have f6:=a.1.free 6;go_wp2
   obtain⟨w4,z⟩:=nm ((((((((E.setCell ⟨w.heap.size,0,none⟩ (.int .i64 0)).setCell ⟨w.heap.size,1,none⟩ (.int .i64 0)).setCell ⟨w.heap.size,2,none⟩ (.int .i64 0)).setCell ⟨w.heap.size,3,none⟩ (.int .i64 0)).setCell ⟨w.heap.size,4,none⟩ (.int .u64 0)).setCell ⟨w.heap.size,5,none⟩ (.int .i64 0)).setCell ⟨w.heap.size,6,none⟩ (.int .i64 0)));have V:Hid (Row w4 w.heap.size 152 [.int .i64 0,.int .i64 0,.int .i64 0,.int .i64 0,.int .u64 0,.int .i64 0,.int .i64 0]):=Z (by rw[<-z];exact(((((((a.1.set 0 _).set 1 _).set 2 _).set 3 _).set 4 _).set 5 _).set 6 _));have U:Hid (Ch (aH w.heap.size) E w4):=Z (by rw[<-z];exact ay);rw[z];have W:=t.plain a.2 (Nat.le_refl _) U;obtain⟨y0,bw,bx,c0,c1,c2,c3⟩:=V.c7;refine bodyPost_ret (v:=.tuple #[aL ⟨0,0,0,0,0,0,0⟩,n]) ?_ rfl ?_
   ·simp[results,Tryz.f100,go_sem,y0,bw,bx,c0,c1,c2,c3,aL,aD]
   ·exact⟨rfl,c4,X,W⟩
 ·by_cases a9:pc<N
  ·have Q:0<=pc:=by omega
   have cS:decide (0<=pc)=true:=(by simpa using Q);have et:decide (pc<(N:Int))=true:=(by simpa using a9);have c7:C.dH[pc.toNat]?=some x:=(by have:=c8.out;dsimp only at this;rw[this];exact oc Q (by rw[p];exact a9));obtain⟨g,cQ,eL⟩:=dC (by intro e;rw[e]at c7;cases c7);have dN:=Z eL;rw[cQ]at k0 P;have c5:=Z cQ;obtain⟨m,rfl⟩:=Int.eq_ofNat_of_zero_le Q;rw[Int.toNat_natCast]at c7;obtain⟨g2,g3,g4,g5,g6,g7,g8⟩:=eU C.dH m x c7;have H:=Z (And.intro g2 (And.intro g3 (And.intro g4 (And.intro g5 (And.intro g6 (And.intro g7 g8))))));obtain⟨av,ad,al,am,bi,ap,bv⟩:=x;obtain⟨w1,j⟩:=nm ((w.alloc (.cells #[.int .i64 0,.int .i64 0,.int .i64 0,.int .i64 0,.int .u64 0,.int .i64 0,.int .i64 0] 152)).alloc (.cells #[.int .i64 0,.int .i64 0,.int .i64 0,.int .i64 0,.int .u64 0,.int .i64 0,.int .i64 0] 152));have J:Hid (Ch ag w w1):=Z (by rw[<-j];exact ay);have r:=Z (A.gU J);have S:Hid (Row w1 w.heap.size 152 [.int .i64 0,.int .i64 0,.int .i64 0,.int .i64 0,.int .u64 0,.int .i64 0,.int .i64 0]):=Z (by rw[<-j];exact(Row.new w _ _).alloc _);have T:Hid (Row w1 (w.heap.size+1) 152 [.int .i64 0,.int .i64 0,.int .i64 0,.int .i64 0,.int .u64 0,.int .i64 0,.int .i64 0]):=Z (by
    rw[<-j];have:=Row.new (w.alloc (.cells #[.int .i64 0,.int .i64 0,.int .i64 0,.int .i64 0,.int .u64 0,.int .i64 0,.int .i64 0] 152)) #[.int .i64 0,.int .i64 0,.int .i64 0,.int .i64 0,.int .u64 0,.int .i64 0,.int .i64 0] 152
    rwa [World.size_alloc]at this)
   have p1:=r.at_.uu I M;rw[O]at p1;have k1:=r.at_.c0;rw[p,c5]at k1;go_in
   go_upto_region 2 with fail
   try rw[j]
   go_quiet (fail)
   obtain⟨w2,B⟩:=nm (w1.drewN nq);have q:=Z (Ch.dN (D:=ag) B);rw[B];have i:=Z (r.af q);have F:=Z (S.ch q id);have f:=Z (T.ch q id);have p1:=i.at_.uu I M;rw[O]at p1;have k1:=i.at_.c0;rw[p,c5]at k1;have G:=Z (dN.ch (J.trans q) id);have fb:=G.cell _ _ H.1;have fd:=G.cell _ _ H.2.1;have fn:=G.cell _ _ H.2.2.1;have fr:=G.cell _ _ H.2.2.2.1;have fz:=G.cell _ _ H.2.2.2.2.1;have g0:=G.cell _ _ H.2.2.2.2.2.1;have g1:=G.cell _ _ H.2.2.2.2.2.2;have gc:=f.c1;have gt:=f.free 0;have ge:=f.k 1 rfl;have hb:=f.free 1;have gf:=f.k 2 rfl;have a5:=f.free 2;have gk:=f.k 3 rfl;have hd:=f.free 3;have go:=f.k 4 rfl;have he:=f.free 4;have gr:=f.k 5 rfl;have hf:=f.free 5;have gs:=f.k 6 rfl;have hi:=f.free 6;dsimp only at fb fd fn fr fz g0 g1;go_wp2
   go_still_tail 11,(by kernel_rfl)
   change wpList _ _ _ _ _ w2.drew;go_upto_region 4 with fail
   obtain⟨ab,ce⟩:∃ab,((((((((w2.setCell ⟨w.heap.size+1,0,none⟩ (.int .i64 av)).setCell ⟨w.heap.size+1,1,none⟩ (.int .i64 ad)).setCell ⟨w.heap.size+1,2,none⟩ (.int .i64 al)).setCell ⟨w.heap.size+1,3,none⟩ (.int .i64 am)).setCell ⟨w.heap.size+1,4,none⟩ (.int .u64 bi)).setCell ⟨w.heap.size+1,5,none⟩ (.int .i64 ap)).setCell ⟨w.heap.size+1,6,none⟩ (.int .i64 bv))).drew=ab:=⟨_,rfl⟩;have cm:Hid (Ch (aH (w.heap.size+1)) w2 ab):=Z (by rw[<-ce];exact ay);have cl:Hid (Row ab (w.heap.size+1) 152 [av,ad,al,am,.int .u64 bi,ap,bv]):=Z (by rw[<-ce];exact((((((((f.set 0 _).set 1 _).set 2 _).set 3 _).set 4 _).set 5 _).set 6 _)).drew);rw[ce];have cq:=Z (i.plain (A.fresh (Nat.le_succ _)) (Nat.le_succ _) cm);have ci:=Z (F.ch cm (fun e=>by have a5:w.heap.size=w.heap.size+1:=e;omega));obtain⟨w2,B⟩:∃w2,ab=w2:=⟨_,rfl⟩;rw[B]at cq ci cl⊢;have i:=cq;have F:=ci;have f:=cl;have k1:=i.at_.c0;rw[p,c5]at k1;have R:=i.at_.cO;go_wp2
   go_region_held3 (fun w'=>w'.cell? (L.mb,0)=some (.slice (some ⟨g,0,none⟩) N L.Dt)/\w'.cell? (L.mb,1007)=some (.pointer (some (L.m,0)))) (go_keep) ((go_at_call 105;refine(P _ i.at_.drew).mono ?_;rintro e E ⟨⟨u,rfl,cW⟩,c4,X,y⟩;have t:=Z ((i.af ay).trans (Gr.refl _) y);have a:=Z (((Nx.af (Ch.refl _ w2).drew).trans y.nx).row F (A.fresh (Nat.le_refl _)));have d:=Z (((Nx.af (Ch.refl _ w2).drew).trans y.nx).row f (A.fresh (Nat.le_succ _)));have k1:=t.at_.c0;rw[p,c5]at k1;have R:=t.at_.cO))
   all_goals
    have x0:=d.1.c1;have a0:=a.1.c1;have f0:=a.1.free 0;have x1:=d.1.k 1 rfl;have a1:=a.1.k 1 rfl;have f1:=a.1.free 1;have x2:=d.1.k 2 rfl;have a2:=a.1.k 2 rfl;have f2:=a.1.free 2;have x3:=d.1.k 3 rfl;have a3:=a.1.k 3 rfl;have f3:=a.1.free 3;have x4:=d.1.k 4 rfl;have a4:=a.1.k 4 rfl;have f4:=a.1.free 4;have x5:=d.1.k 5 rfl;have cs:=a.1.k 5 rfl;have f5:=a.1.free 5;have x6:=d.1.k 6 rfl;have cA:=a.1.k 6 rfl;have f6:=a.1.free 6;go_wp2
    obtain⟨w4,z⟩:=nm ((((((((E.setCell ⟨w.heap.size,0,none⟩ (.int .i64 av)).setCell ⟨w.heap.size,1,none⟩ (.int .i64 ad)).setCell ⟨w.heap.size,2,none⟩ (.int .i64 al)).setCell ⟨w.heap.size,3,none⟩ (.int .i64 am)).setCell ⟨w.heap.size,4,none⟩ (.int .u64 bi)).setCell ⟨w.heap.size,5,none⟩ (.int .i64 ap)).setCell ⟨w.heap.size,6,none⟩ (.int .i64 bv)));have V:Hid (Row w4 w.heap.size 152 [av,ad,al,am,.int .u64 bi,ap,bv]):=Z (by rw[<-z];exact(((((((a.1.set 0 _).set 1 _).set 2 _).set 3 _).set 4 _).set 5 _).set 6 _));have U:Hid (Ch (aH w.heap.size) E w4):=Z (by rw[<-z];exact ay);rw[z];have W:=t.plain a.2 (Nat.le_refl _) U;obtain⟨y0,bw,bx,c0,c1,c2,c3⟩:=V.c7;refine bodyPost_ret (v:=.tuple #[aL ⟨av,ad,al,am,bi,ap,bv⟩,n]) ?_ rfl ?_
    ·simp[results,Tryz.f100,go_sem,y0,bw,bx,c0,c1,c2,c3,aL,aD]
    ·exact⟨rfl,c4,X,W⟩
  ·have Q:0<=pc:=by omega
   have cS:decide (0<=pc)=true:=(by simpa using Q);have et:decide (pc<(N:Int))=false:=(by simpa using a9);have ch:x=⟨0,0,0,0,0,0,0⟩:=(by have:=c8.out;dsimp only at this;rw[this];exact lX (fun e=>by have a5:=e.2;rw[p]at a5;omega));subst ch;obtain⟨w1,j⟩:=nm ((w.alloc (.cells #[.int .i64 0,.int .i64 0,.int .i64 0,.int .i64 0,.int .u64 0,.int .i64 0,.int .i64 0] 152)).alloc (.cells #[.int .i64 0,.int .i64 0,.int .i64 0,.int .i64 0,.int .u64 0,.int .i64 0,.int .i64 0] 152));have J:Hid (Ch ag w w1):=Z (by rw[<-j];exact ay);have r:=Z (A.gU J);have S:Hid (Row w1 w.heap.size 152 [.int .i64 0,.int .i64 0,.int .i64 0,.int .i64 0,.int .u64 0,.int .i64 0,.int .i64 0]):=Z (by rw[<-j];exact(Row.new w _ _).alloc _);have T:Hid (Row w1 (w.heap.size+1) 152 [.int .i64 0,.int .i64 0,.int .i64 0,.int .i64 0,.int .u64 0,.int .i64 0,.int .i64 0]):=Z (by
    rw[<-j];have:=Row.new (w.alloc (.cells #[.int .i64 0,.int .i64 0,.int .i64 0,.int .i64 0,.int .u64 0,.int .i64 0,.int .i64 0] 152)) #[.int .i64 0,.int .i64 0,.int .i64 0,.int .i64 0,.int .u64 0,.int .i64 0,.int .i64 0] 152
    rwa [World.size_alloc]at this)
   have p1:=r.at_.uu I M;rw[O]at p1;have k1:=r.at_.c0;rw[p]at k1;go_in
   go_upto_region 2 with fail
   try rw[j]
   go_quiet (fail)
   obtain⟨w2,B⟩:=nm (w1.drewN nq);have q:=Z (Ch.dN (D:=ag) B);rw[B];have i:=Z (r.af q);have F:=Z (S.ch q id);have f:=Z (T.ch q id);have p1:=i.at_.uu I M;rw[O]at p1;have k1:=i.at_.c0;rw[p]at k1;have R:=i.at_.cO;go_wp2
   go_region_held3 (fun w'=>w'.cell? (L.mb,0)=some (.slice L.lc N L.Dt)/\w'.cell? (L.mb,1007)=some (.pointer (some (L.m,0)))) (go_keep) ((go_at_call 105;refine(P _ i.at_.drew).mono ?_;rintro e E ⟨⟨u,rfl,cW⟩,c4,X,y⟩;have t:=Z ((i.af ay).trans (Gr.refl _) y);have a:=Z (((Nx.af (Ch.refl _ w2).drew).trans y.nx).row F (A.fresh (Nat.le_refl _)));have d:=Z (((Nx.af (Ch.refl _ w2).drew).trans y.nx).row f (A.fresh (Nat.le_succ _)));have k1:=t.at_.c0;rw[p]at k1;have R:=t.at_.cO))
   all_goals
    have x0:=d.1.c1;have a0:=a.1.c1;have f0:=a.1.free 0;have x1:=d.1.k 1 rfl;have a1:=a.1.k 1 rfl;have f1:=a.1.free 1;have x2:=d.1.k 2 rfl;have a2:=a.1.k 2 rfl;have f2:=a.1.free 2;have x3:=d.1.k 3 rfl;have a3:=a.1.k 3 rfl;have f3:=a.1.free 3;have x4:=d.1.k 4 rfl;have a4:=a.1.k 4 rfl;have f4:=a.1.free 4;have x5:=d.1.k 5 rfl;have cs:=a.1.k 5 rfl;have f5:=a.1.free 5;have x6:=d.1.k 6 rfl;have cA:=a.1.k 6 rfl;have f6:=a.1.free 6;go_wp2
    obtain⟨w4,z⟩:=nm ((((((((E.setCell ⟨w.heap.size,0,none⟩ (.int .i64 0)).setCell ⟨w.heap.size,1,none⟩ (.int .i64 0)).setCell ⟨w.heap.size,2,none⟩ (.int .i64 0)).setCell ⟨w.heap.size,3,none⟩ (.int .i64 0)).setCell ⟨w.heap.size,4,none⟩ (.int .u64 0)).setCell ⟨w.heap.size,5,none⟩ (.int .i64 0)).setCell ⟨w.heap.size,6,none⟩ (.int .i64 0)));have V:Hid (Row w4 w.heap.size 152 [.int .i64 0,.int .i64 0,.int .i64 0,.int .i64 0,.int .u64 0,.int .i64 0,.int .i64 0]):=Z (by rw[<-z];exact(((((((a.1.set 0 _).set 1 _).set 2 _).set 3 _).set 4 _).set 5 _).set 6 _));have U:Hid (Ch (aH w.heap.size) E w4):=Z (by rw[<-z];exact ay);rw[z];have W:=t.plain a.2 (Nat.le_refl _) U;obtain⟨y0,bw,bx,c0,c1,c2,c3⟩:=V.c7;refine bodyPost_ret (v:=.tuple #[aL ⟨0,0,0,0,0,0,0⟩,n]) ?_ rfl ?_
    ·simp[results,Tryz.f100,go_sem,y0,bw,bx,c0,c1,c2,c3,aL,aD]
    ·exact⟨rfl,c4,X,W⟩
variable{p:KS}
theorem xM(id:Int)(i:Nat)(c:cJ)(b o:Nat)(n a d f j g k:Int)(r:n=24∨n=28∨n=51∨n=53∨n=55∨n=56∨n=57∨n=58){p:Int×KS}(v:aB C K i id c ⟨n,a,d,f,j,g,k⟩=p)
 (x:∀w,ae w χ L Y C K->Calls prog 136 #[(L.mb,0),(L.wb,i*38),(Y.bI id,0),(b,o),aL ⟨n,a,d,f,j,g,k⟩] w (dO p χ L Y C K w)) (h:ae w χ L Y C K):
 Calls prog 101 #[(L.mb,0),(L.wb,i*38),(Y.bI id,0),(b,o),aL ⟨n,a,d,f,j,g,k⟩] w (dO (az C K i (some id) c ⟨n,a,d,f,j,g,k⟩) χ L Y C K w):=by
 have l:=Z x;unfold aL aD at l⊢;dsimp only at l⊢;obtain⟨w0,z,F,q,s⟩:=h.pre n a d f j g k;obtain⟨t0,t1,t2,t3,t4,t5,t6⟩:=s.1.c7;obtain⟨tb,y⟩:=nm (Y.bI id);rw[y]at l⊢;have E:Hid (az C K i (some id) c ⟨n,a,d,f,j,g,k⟩=p):=Z (by rw[<-v];unfold az;dsimp only;rw[if_pos r]);rcases r with rfl|rfl|rfl|rfl|rfl|rfl|rfl|rfl
 all_goals
  go_in
  go_wp2_with fail
  try rw[z]
  refine(l _ q.at_).mono ?_;rintro e w2 ⟨rfl,D,t,u,A,B⟩;have m:=Z (And.intro u (And.intro A B));go_wp2
  go_ret;rw[E];exact⟨rfl,D,t,m.1,q.nx.trans m.2.1,m.2.2⟩
theorem xN(A:Value)(idO:Option Int)(i:Nat)(c:cJ)(b o:Nat)(n a d f j g k:Int)(r:n=31∨n=32){p:Int×KS}(v:bf K i c ⟨n,a,d,f,j,g,k⟩=p)
 (x:∀w,ae w χ L Y C K->Calls prog 137 #[(L.mb,0),(L.wb,i*38),(b,o),aL ⟨n,a,d,f,j,g,k⟩] w (dO p χ L Y C K w)) (h:ae w χ L Y C K):
 Calls prog 101 #[(L.mb,0),(L.wb,i*38),A,(b,o),aL ⟨n,a,d,f,j,g,k⟩] w (dO (az C K i idO c ⟨n,a,d,f,j,g,k⟩) χ L Y C K w):=by
 have m:=Z x;unfold aL aD at m⊢;dsimp only at m⊢;obtain⟨w0,y,F,q,s⟩:=h.pre n a d f j g k;obtain⟨t0,t1,t2,t3,t4,t5,t6⟩:=s.1.c7;have E:Hid (az C K i idO c ⟨n,a,d,f,j,g,k⟩=p):=Z (by rw[<-v];unfold az;dsimp only;rw[if_neg (by omega),if_pos r]);rcases r with rfl|rfl
 all_goals
  go_in
  go_wp2_with fail
  try rw[y]
  refine(m _ q.at_).mono ?_;rintro e w2 ⟨rfl,D,t,u,z,B⟩;have l:=Z (And.intro u (And.intro z B));go_wp2
  go_ret;rw[E];exact⟨rfl,D,t,l.1,q.nx.trans l.2.1,l.2.2⟩
theorem xO(z:Value)(idO:Option Int)(i:Nat)(c:cJ)(b o:Nat)(n a d f j g k:Int)(r:n=30∨n=33∨n=34∨n=35)(v:b0 K i c ⟨n,a,d,f,j,g,k⟩=p)
 (x:∀w,ae w χ L Y C K->Calls prog 139 #[(L.mb,0),(L.wb,i*38),(b,o),aL ⟨n,a,d,f,j,g,k⟩] w (dk (.tuple #[]) χ L Y C K p w)) (h:ae w χ L Y C K):
 Calls prog 101 #[(L.mb,0),(L.wb,i*38),z,(b,o),aL ⟨n,a,d,f,j,g,k⟩] w (dO (az C K i idO c ⟨n,a,d,f,j,g,k⟩) χ L Y C K w):=by
 have l:=Z x;unfold aL aD at l⊢;dsimp only at l⊢;obtain⟨w0,y,B,q,s⟩:=h.pre n a d f j g k;obtain⟨t0,t1,t2,t3,t4,t5,t6⟩:=s.1.c7;have E:Hid (az C K i idO c ⟨n,a,d,f,j,g,k⟩=(0,p)):=Z (by rw[<-v];unfold az;dsimp only;rw[if_neg (by omega),if_neg (by omega),if_neg (by omega),if_pos r]);rcases r with rfl|rfl|rfl|rfl
 all_goals
  go_in
  go_wp2_with fail
  try rw[y]
  refine(l _ q.at_).mono ?_;rintro e w2 ⟨rfl,A,t,u⟩;have m:=Z (q.trans (Gr.refl _) u);go_wp2
  go_ret;rw[E];exact⟨rfl,A,t,m.at_,m.nx,fun _=>m.yk⟩
theorem xP(z:Value)(idO:Option Int)(i:Nat)(c:cJ)(b o:Nat)(n a d f j g k:Int)(r:n=43∨n=44∨n=45∨n=46)(v:bh K c ⟨n,a,d,f,j,g,k⟩=p)
 (x:∀w,ae w χ L Y C K->Calls prog 140 #[(L.mb,0),(b,o),aL ⟨n,a,d,f,j,g,k⟩] w (dk (.tuple #[]) χ L Y C K p w)) (h:ae w χ L Y C K):
 Calls prog 101 #[(L.mb,0),(L.wb,i*38),z,(b,o),aL ⟨n,a,d,f,j,g,k⟩] w (dO (az C K i idO c ⟨n,a,d,f,j,g,k⟩) χ L Y C K w):=by
 have l:=Z x;unfold aL aD at l⊢;dsimp only at l⊢;obtain⟨w0,y,B,q,s⟩:=h.pre n a d f j g k;obtain⟨t0,t1,t2,t3,t4,t5,t6⟩:=s.1.c7;have E:Hid (az C K i idO c ⟨n,a,d,f,j,g,k⟩=(0,p)):=Z (by rw[<-v];unfold az;dsimp only;rw[if_neg (by omega),if_neg (by omega),if_neg (by omega),if_neg (by omega),if_pos r]);rcases r with rfl|rfl|rfl|rfl
 all_goals
  go_in
  go_wp2_with fail
  try rw[y]
  refine(l _ q.at_).mono ?_;rintro e w2 ⟨rfl,A,t,u⟩;have m:=Z (q.trans (Gr.refl _) u);go_wp2
  go_ret;rw[E];exact⟨rfl,A,t,m.at_,m.nx,fun _=>m.yk⟩
theorem xQ(z:Value)(idO:Option Int)(i:Nat)(c:cJ)(b o:Nat)(n a d f j g k:Int)(r:n=48∨n=52∨n=54∨n=49∨n=50)(v:bD C K i c ⟨n,a,d,f,j,g,k⟩=p)
 (x:∀w,ae w χ L Y C K->Calls prog 141 #[(L.mb,0),(L.wb,i*38),(b,o),aL ⟨n,a,d,f,j,g,k⟩] w (dk (.tuple #[]) χ L Y C K p w)) (h:ae w χ L Y C K):
 Calls prog 101 #[(L.mb,0),(L.wb,i*38),z,(b,o),aL ⟨n,a,d,f,j,g,k⟩] w (dO (az C K i idO c ⟨n,a,d,f,j,g,k⟩) χ L Y C K w):=by
 have l:=Z x;unfold aL aD at l⊢;dsimp only at l⊢;obtain⟨w0,y,B,q,s⟩:=h.pre n a d f j g k;obtain⟨t0,t1,t2,t3,t4,t5,t6⟩:=s.1.c7;have E:Hid (az C K i idO c ⟨n,a,d,f,j,g,k⟩=(0,p)):=Z (by rw[<-v];unfold az;dsimp only;rw[if_neg (by omega),if_neg (by omega),if_neg (by omega),if_neg (by omega),if_neg (by omega),if_pos r]);rcases r with rfl|rfl|rfl|rfl|rfl
 all_goals
  go_in
  go_wp2_with fail
  try rw[y]
  refine(l _ q.at_).mono ?_;rintro e w2 ⟨rfl,A,t,u⟩;have m:=Z (q.trans (Gr.refl _) u);go_wp2
  go_ret;rw[E];exact⟨rfl,A,t,m.at_,m.nx,fun _=>m.yk⟩
theorem xR(z:Value)(idO:Option Int)(i:Nat)(c:cJ)(b o:Nat)(n a d f j g k:Int)(r:n=25∨n=26∨n=27)(v:bl K i c ⟨n,a,d,f,j,g,k⟩=p)
 (x:∀w,ae w χ L Y C K->Calls prog 142 #[(L.mb,0),(L.wb,i*38),(b,o),aL ⟨n,a,d,f,j,g,k⟩] w (dk (.tuple #[]) χ L Y C K p w)) (h:ae w χ L Y C K):
 Calls prog 101 #[(L.mb,0),(L.wb,i*38),z,(b,o),aL ⟨n,a,d,f,j,g,k⟩] w (dO (az C K i idO c ⟨n,a,d,f,j,g,k⟩) χ L Y C K w):=by
 have l:=Z x;unfold aL aD at l⊢;dsimp only at l⊢;obtain⟨w0,y,B,q,s⟩:=h.pre n a d f j g k;obtain⟨t0,t1,t2,t3,t4,t5,t6⟩:=s.1.c7;have E:Hid (az C K i idO c ⟨n,a,d,f,j,g,k⟩=(0,p)):=Z (by rw[<-v];unfold az;dsimp only;rw[if_neg (by omega),if_neg (by omega),if_neg (by omega),if_neg (by omega),if_neg (by omega),if_neg (by omega),if_pos r]);rcases r with rfl|rfl|rfl
 all_goals
  go_in
  go_wp2_with fail
  try rw[y]
  refine(l _ q.at_).mono ?_;rintro e w2 ⟨rfl,A,t,u⟩;have m:=Z (q.trans (Gr.refl _) u);go_wp2
  go_ret;rw[E];exact⟨rfl,A,t,m.at_,m.nx,fun _=>m.yk⟩
theorem xS(i:Nat)(c:cJ)(b o:Nat)(n a d e g f j:Int)(l:n=24∨n=28∨n=51∨n=53∨n=55∨n=56∨n=57∨n=58)(h:ae w χ L Y C K):
 Calls prog 101 #[(L.mb,0),(L.wb,i*38),.pointer none,(b,o),aL ⟨n,a,d,e,g,f,j⟩] w (dO (az C K i none c ⟨n,a,d,e,g,f,j⟩) χ L Y C K w):=by
 unfold aL aD;dsimp only;obtain⟨w0,q,r,k,m⟩:=h.pre n a d e g f j;obtain⟨t0,t1,t2,t3,t4,t5,t6⟩:=m.1.c7;have E:Hid (az C K i none c ⟨n,a,d,e,g,f,j⟩=(0,K)):=Z (by unfold az;exact if_pos l);rcases l with rfl|rfl|rfl|rfl|rfl|rfl|rfl|rfl
 all_goals
  go_in
  go_wp2
  try rw[q]
  go_ret;rw[E];exact⟨rfl,χ,Y,k.at_,k.nx,fun _=>k.yk⟩
theorem ux(c:cJ)(b o:Nat)(c4:aj K c)(c6:aR L Y c b o)(bi:∀k,k<32->aK ((K.F c).r k))(a i G I H J:Int)(c3:0<=a/\a<32)(hb:0<=i/\i<32)(a4:K.blocks.Ok)(h:ae w χ L Y C K):
 Calls prog 140 #[(L.mb,0),(b,o),.agg #[.int .i64 43,a,i,G,.int .u64 I,H,J]] w (dk (.tuple #[]) χ L Y C K (bh K c ⟨43,a,i,G,I,H,J⟩) w):=by
 have cd:=Z h;have l:=Z c4;have A:=Z c6;obtain⟨w0,a9,ce,O,z⟩:=h.pre 43 a i G I H J;obtain⟨cC,cL⟩:=c3;obtain⟨ad,bv⟩:∃y,(K.F c).r a.toNat=y:=⟨_,rfl⟩;have a1:=Z bv;have am:=Z (bi a.toNat (by omega));rw[bv]at am;obtain⟨cm,cq⟩:=am.out;obtain⟨ab,cQ⟩:=hb;obtain⟨a2,bw⟩:∃y,(K.F c).r i.toNat=y:=⟨_,rfl⟩;have B:=Z bw;have ap:=Z (bi i.toNat (by omega));rw[bw]at ap;obtain⟨cs,cA⟩:=ap.out;obtain⟨t0,t1,t2,t3,t4,t5,t6⟩:=z.1.c7;have f:=O.at_.aA l A a.toNat (by omega);rw[a1]at f;have F:=O.at_.aA l A i.toNat (by omega);rw[B]at F;by_cases a5:a2<=4096
 ·obtain⟨m,c5⟩:∃m:Nat,a2=(m:Int):=⟨a2.toNat,by omega⟩
  subst c5;obtain⟨p,c7⟩:=nm (df K.blocks K.mem m);have N:=Z c7;obtain⟨c2,al,av⟩:=p;cases c2 with
  |none=>
   have E:Hid (bh K c ⟨43,a,i,G,I,H,J⟩=({K.ax c a.toNat 0 with blocks:=al,mem:=av}:KS).ax c a.toNat 0):=Z (by unfold bh;dsimp only;rw[if_pos rfl,if_pos ab,B,if_pos a5,Int.toNat_natCast,cj,gx,N]);go_in
   go_wp2
   try rw[a9]
   go_quiet (fail)
   obtain⟨w1,x⟩:=nm (w0.drewN nq);have t:Hid (Ch ag w0 w1):=Z (by rw[<-x];exact ay);rw[x];have j:=Z (O.af t);have d:Hid (aj K c/\aR L Y c b o):=Z ⟨l,A⟩;have M:=Z ((Nx.af t).row z.1 z.2);obtain⟨t0,t1,t2,t3,t4,t5,t6⟩:=M.1.c7;have f:=j.at_.aA d.1 d.2 a.toNat (by omega);rw[show((K:KS).F c).r a.toNat=ad from a1.out]at f;have F:=j.at_.aA d.1 d.2 i.toNat (by omega);rw[show((K:KS).F c).r i.toNat=(m:Int)from B.out]at F;have X:=f;have s:=j.at_.hy d.1 d.2 (o+1+a.toNat);have T:=Z (fun w (h:ae w χ L Y C K)=>h.a7 d.1 d.2 a.toNat (by omega) 0);go_wp2
   go_quiet (fail)
   generalize V:w1.drewN _=w2;have q:=Z (Ch.dN (D:=ag) V);have f:=q.k f;have s:=(q.frozen (p:=⟨b,o+1+a.toNat,none⟩) (aQ X) id).trans s;have u:=Z (j.af q);obtain⟨c9,bx,R⟩:=T _ u.at_;have P:=Z (u.trans (Gr.refl _) R);have c1:=R.at_.pd;go_wp2_with fail
   have U:=sd (K:=K.ax c a.toNat 0) m (by omega) (by rw[cj];exact a4) P.at_;rw[cj,gx,N]at U;refine U.mono ?_;rintro e w4 ⟨⟨v,rfl,c8⟩,cb,c0,a3⟩;obtain⟨tt,cS,rfl⟩:=c8;have r:=Z (P.trans (bA l _) a3);have n:=Z (r.cur l A ((bA l _).trans (Gr.of_eq rfl)) (br _ _));have f:=r.at_.aA n.1 n.2 a.toNat (by omega);have s:=r.at_.hy n.1 n.2 (o+1+a.toNat);have S:=Z (r.at_.a7 n.1 n.2 a.toNat (by omega) 0);go_wp2
   go_end0
   rw[E];obtain⟨a0,Q,W⟩:=S.out;exact⟨rfl,a0,Q,r.trans ((bA l _).trans (Gr.of_eq rfl)) W⟩
  |some g=>
   have E:Hid (bh K c ⟨43,a,i,G,I,H,J⟩=({K.ax c a.toNat 0 with blocks:=al,mem:=av}:KS).ax c a.toNat (g:Int)):=Z (by unfold bh;dsimp only;rw[if_pos rfl,if_pos ab,B,if_pos a5,Int.toNat_natCast,cj,gx,N]);have ch:=ng a4 (show(df K.blocks K.mem m).1=some g by rw[N]);have cl:IntKind.u64.wrap (g:Int)=g:=(by unfold IntKind.wrap IntKind.bits IntKind.signed;simp;omega);have ci:(g:Int)<=140000:=(by omega);go_in
   go_wp2
   try rw[a9]
   go_quiet (fail)
   obtain⟨w1,x⟩:=nm (w0.drewN nq);have t:Hid (Ch ag w0 w1):=Z (by rw[<-x];exact ay);rw[x];have j:=Z (O.af t);have d:Hid (aj K c/\aR L Y c b o):=Z ⟨l,A⟩;have M:=Z ((Nx.af t).row z.1 z.2);obtain⟨t0,t1,t2,t3,t4,t5,t6⟩:=M.1.c7;have f:=j.at_.aA d.1 d.2 a.toNat (by omega);rw[show((K:KS).F c).r a.toNat=ad from a1.out]at f;have F:=j.at_.aA d.1 d.2 i.toNat (by omega);rw[show((K:KS).F c).r i.toNat=(m:Int)from B.out]at F;have X:=f;have s:=j.at_.hy d.1 d.2 (o+1+a.toNat);have T:=Z (fun w (h:ae w χ L Y C K)=>h.a7 d.1 d.2 a.toNat (by omega) 0);go_wp2
   go_quiet (fail)
   generalize V:w1.drewN _=w2;have q:=Z (Ch.dN (D:=ag) V);have f:=q.k f;have s:=(q.frozen (p:=⟨b,o+1+a.toNat,none⟩) (aQ X) id).trans s;have u:=Z (j.af q);obtain⟨c9,bx,R⟩:=T _ u.at_;have P:=Z (u.trans (Gr.refl _) R);have c1:=R.at_.pd;go_wp2_with fail
   have U:=sd (K:=K.ax c a.toNat 0) m (by omega) (by rw[cj];exact a4) P.at_;rw[cj,gx,N]at U;refine U.mono ?_;rintro e w4 ⟨rfl,cb,c0,a3⟩;have r:=Z (P.trans (bA l _) a3);have n:=Z (r.cur l A ((bA l _).trans (Gr.of_eq rfl)) (br _ _));have f:=r.at_.aA n.1 n.2 a.toNat (by omega);have s:=r.at_.hy n.1 n.2 (o+1+a.toNat);have S:=Z (r.at_.a7 n.1 n.2 a.toNat (by omega) (g:Int));go_wp2
   go_end0
   rw[E];obtain⟨a0,Q,W⟩:=S.out;exact⟨rfl,a0,Q,r.trans ((bA l _).trans (Gr.of_eq rfl)) W⟩
 ·have E:Hid (bh K c ⟨43,a,i,G,I,H,J⟩=K.ax c a.toNat 0):=Z (by unfold bh;dsimp only;rw[if_pos rfl,if_pos ab,B,if_neg a5])
  go_in
  go_wp2
  try rw[a9]
  go_quiet (fail)
  obtain⟨w1,x⟩:=nm (w0.drewN nq);have t:Hid (Ch ag w0 w1):=Z (by rw[<-x];exact ay);rw[x];have j:=Z (O.af t);have d:Hid (aj K c/\aR L Y c b o):=Z ⟨l,A⟩;have M:=Z ((Nx.af t).row z.1 z.2);obtain⟨t0,t1,t2,t3,t4,t5,t6⟩:=M.1.c7;have f:=j.at_.aA d.1 d.2 a.toNat (by omega);rw[show((K:KS).F c).r a.toNat=ad from a1.out]at f;have F:=j.at_.aA d.1 d.2 i.toNat (by omega);rw[show((K:KS).F c).r i.toNat=a2 from B.out]at F;have X:=f;have s:=j.at_.hy d.1 d.2 (o+1+a.toNat);have T:=Z (fun w (h:ae w χ L Y C K)=>h.a7 d.1 d.2 a.toNat (by omega) 0);go_wp2
  go_quiet (fail)
  generalize V:w1.drewN _=w2;have q:=Z (Ch.dN (D:=ag) V);have f:=q.k f;have s:=(q.frozen (p:=⟨b,o+1+a.toNat,none⟩) (aQ X) id).trans s;have u:=Z (j.af q);have S:=Z (T _ u.at_);go_wp2
  go_end0
  rw[E];obtain⟨a0,Q,W⟩:=S.out;exact⟨rfl,a0,Q,u.trans (Gr.refl _) W⟩
theorem uy(c:cJ)(b o:Nat)(al:aj K c)(ap:aR L Y c b o)(bi:∀k,k<32->aK ((K.F c).r k))(a x s z A:Int)(ad:0<=a/\a<32)(V:aK s)(T:K.blocks.Ok)(h:ae w χ L Y C K):
 Calls prog 140 #[(L.mb,0),(b,o),.agg #[.int .i64 43,a,.int .i64 (-1),x,.int .u64 s,z,A]] w (dk (.tuple #[]) χ L Y C K (bh K c ⟨43,a,(-1),x,s,z,A⟩) w):=by
 have bx:=Z h;have j:=Z al;have u:=Z ap;obtain⟨w0,W,c0,Q,t⟩:=h.pre 43 a (-1) x s z A;obtain⟨c8,c9⟩:=ad;obtain⟨X,a3⟩:∃y,(K.F c).r a.toNat=y:=⟨_,rfl⟩;have P:=Z a3;have a1:=Z (bi a.toNat (by omega));rw[a3]at a1;obtain⟨c4,c5⟩:=a1.out;obtain⟨t0,t1,t2,t3,t4,t5,t6⟩:=t.1.c7;have n:=Q.at_.aA j u a.toNat (by omega);rw[P]at n;obtain⟨c6,c7⟩:=V;by_cases U:s<=4096
 ·obtain⟨m,am⟩:∃m:Nat,s=(m:Int):=⟨s.toNat,by omega⟩
  subst am;obtain⟨p,av⟩:=nm (df K.blocks K.mem m);have D:=Z av;obtain⟨ab,a0,a2⟩:=p;cases ab with
  |none=>
   have E:Hid (bh K c ⟨43,a,(-1),x,(m:Int),z,A⟩=({K.ax c a.toNat 0 with blocks:=a0,mem:=a2}:KS).ax c a.toNat 0):=Z (by unfold bh;dsimp only;rw[if_pos rfl,if_neg (show¬(0:Int)<=-1 by decide),if_pos U,Int.toNat_natCast,cj,gx,D]);go_in
   go_wp2
   try rw[W]
   go_quiet (fail)
   obtain⟨w1,r⟩:=nm (w0.drewN nq);have q:Hid (Ch ag w0 w1):=Z (by rw[<-r];exact ay);rw[r];have f:=Z (Q.af q);have d:Hid (aj K c/\aR L Y c b o):=Z ⟨j,u⟩;have B:=Z ((Nx.af q).row t.1 t.2);obtain⟨t0,t1,t2,t3,t4,t5,t6⟩:=B.1.c7;have n:=f.at_.aA d.1 d.2 a.toNat (by omega);rw[show((K:KS).F c).r a.toNat=X from P.out]at n;have R:=f.at_.hy d.1 d.2 (o+1+a.toNat);have J:=Z (fun w (h:ae w χ L Y C K)=>h.a7 d.1 d.2 a.toNat (by omega) 0);obtain⟨bv,a4,H⟩:=J _ f.at_;have F:=Z (f.trans (Gr.refl _) H);have a9:=H.at_.pd;go_wp2_with fail
   have M:=sd (K:=K.ax c a.toNat 0) m (by omega) (by rw[cj];exact T) F.at_;rw[cj,gx,D]at M;refine M.mono ?_;rintro e w4 ⟨⟨v,rfl,V⟩,bw,a5,S⟩;obtain⟨tt,cb,rfl⟩:=V;have l:=Z (F.trans (bA j _) S);have i:=Z (l.cur j u ((bA j _).trans (Gr.of_eq rfl)) (br _ _));have n:=l.at_.aA i.1 i.2 a.toNat (by omega);have R:=l.at_.hy i.1 i.2 (o+1+a.toNat);have I:=Z (l.at_.a7 i.1 i.2 a.toNat (by omega) 0);go_wp2
   go_end0
   rw[E];obtain⟨O,G,N⟩:=I.out;exact⟨rfl,O,G,l.trans ((bA j _).trans (Gr.of_eq rfl)) N⟩
  |some g=>
   have E:Hid (bh K c ⟨43,a,(-1),x,(m:Int),z,A⟩=({K.ax c a.toNat 0 with blocks:=a0,mem:=a2}:KS).ax c a.toNat (g:Int)):=Z (by unfold bh;dsimp only;rw[if_pos rfl,if_neg (show¬(0:Int)<=-1 by decide),if_pos U,Int.toNat_natCast,cj,gx,D]);have c1:=ng T (show(df K.blocks K.mem m).1=some g by rw[D]);have c3:IntKind.u64.wrap (g:Int)=g:=(by unfold IntKind.wrap IntKind.bits IntKind.signed;simp;omega);have c2:(g:Int)<=140000:=(by omega);go_in
   go_wp2
   try rw[W]
   go_quiet (fail)
   obtain⟨w1,r⟩:=nm (w0.drewN nq);have q:Hid (Ch ag w0 w1):=Z (by rw[<-r];exact ay);rw[r];have f:=Z (Q.af q);have d:Hid (aj K c/\aR L Y c b o):=Z ⟨j,u⟩;have B:=Z ((Nx.af q).row t.1 t.2);obtain⟨t0,t1,t2,t3,t4,t5,t6⟩:=B.1.c7;have n:=f.at_.aA d.1 d.2 a.toNat (by omega);rw[show((K:KS).F c).r a.toNat=X from P.out]at n;have R:=f.at_.hy d.1 d.2 (o+1+a.toNat);have J:=Z (fun w (h:ae w χ L Y C K)=>h.a7 d.1 d.2 a.toNat (by omega) 0);obtain⟨bv,a4,H⟩:=J _ f.at_;have F:=Z (f.trans (Gr.refl _) H);have a9:=H.at_.pd;go_wp2_with fail
   have M:=sd (K:=K.ax c a.toNat 0) m (by omega) (by rw[cj];exact T) F.at_;rw[cj,gx,D]at M;refine M.mono ?_;rintro e w4 ⟨rfl,bw,a5,S⟩;have l:=Z (F.trans (bA j _) S);have i:=Z (l.cur j u ((bA j _).trans (Gr.of_eq rfl)) (br _ _));have n:=l.at_.aA i.1 i.2 a.toNat (by omega);have R:=l.at_.hy i.1 i.2 (o+1+a.toNat);have I:=Z (l.at_.a7 i.1 i.2 a.toNat (by omega) (g:Int));go_wp2
   go_end0
   rw[E];obtain⟨O,G,N⟩:=I.out;exact⟨rfl,O,G,l.trans ((bA j _).trans (Gr.of_eq rfl)) N⟩
 ·have E:Hid (bh K c ⟨43,a,(-1),x,s,z,A⟩=K.ax c a.toNat 0):=Z (by unfold bh;dsimp only;rw[if_pos rfl,if_neg (show¬(0:Int)<=-1 by decide),if_neg U])
  go_in
  go_wp2
  try rw[W]
  go_quiet (fail)
  obtain⟨w1,r⟩:=nm (w0.drewN nq);have q:Hid (Ch ag w0 w1):=Z (by rw[<-r];exact ay);rw[r];have f:=Z (Q.af q);have d:Hid (aj K c/\aR L Y c b o):=Z ⟨j,u⟩;have B:=Z ((Nx.af q).row t.1 t.2);obtain⟨t0,t1,t2,t3,t4,t5,t6⟩:=B.1.c7;have n:=f.at_.aA d.1 d.2 a.toNat (by omega);rw[show((K:KS).F c).r a.toNat=X from P.out]at n;have R:=f.at_.hy d.1 d.2 (o+1+a.toNat);have J:=Z (fun w (h:ae w χ L Y C K)=>h.a7 d.1 d.2 a.toNat (by omega) 0);have I:=Z (J _ f.at_);go_wp2
  go_end0
  rw[E];obtain⟨O,G,N⟩:=I.out;exact⟨rfl,O,G,f.trans (Gr.refl _) N⟩
theorem sE(i:Nat)(bv:i<K.wk.length)(c:cJ)(b o:Nat)(ap:aj K c)(bw:aR L Y c b o)(a3:∀k,k<32->aK ((K.F c).r k))(a f g d j l:Int)(am:0<=a/\a<32)(bx:aK d)(h:ae w χ L Y C K):
 Calls prog 137 #[(L.mb,0),(L.wb,i*38),(b,o),.agg #[.int .i64 31,a,f,g,.int .u64 d,j,l]] w (dO (bf K i c ⟨31,a,f,g,d,j,l⟩) χ L Y C K w):=by
 have c2:=Z h;have B:=Z ap;have D:=Z bw;have V:=Z bv;obtain⟨w0,a4,T,J,s⟩:=h.pre 31 a f g d j l;obtain⟨c7,c8⟩:=am;obtain⟨F,a5⟩:∃y,(K.F c).r a.toNat=y:=⟨_,rfl⟩;have u:=Z a5;have I:=Z (a3 a.toNat (by omega));rw[a5]at I;obtain⟨c5,c6⟩:=I.out;obtain⟨t0,t1,t2,t3,t4,t5,t6⟩:=s.1.c7;have A:=J.at_.aA B D a.toNat (by omega);rw[u]at A;obtain⟨a0,O⟩:=nm (dE (K.F c).r ⟨31,a,f,g,d,j,l⟩);have S:=Z O;have a1:=lM (x:=⟨31,a,f,g,d,j,l⟩) a3 bx;rw[O]at a1;have ab:=Z a1;have U:Hid (∀w1:World,Ch ag w w1->fq w1 b o (K.F c).pc (K.F c).r):=Z (fun w1 av=>by obtain⟨pre,post,v,bi⟩:=(h.af av).cur B D;exact bi.fr);have q:=Z (fun w h=>kD b o (K.F c).pc (K.F c).r ⟨31,a,f,g,d,j,l⟩ w h);rw[O]at q;unfold aL at q;try dsimp only at q
 obtain⟨p,a2⟩:=nm (K.mem.acc 1 a0 0 F);have W:=Z a2;have H:=Z (fun w h=>Ee (K:=K) (w:=w) (χ:=χ) (L:=L) (Y:=Y) (C:=C) a0 F ab I h);rw[a2]at H;obtain⟨r,R⟩:=p;cases r with
 |none=>
  have E:Hid (bf K i c ⟨31,a,f,g,d,j,l⟩=(2,{K with mem:=R})):=Z (by unfold bf;dsimp only;rw[if_pos rfl,S,u,W];rfl);go_in
  go_wp2
  try rw[a4]
  go_region_held3 (fun w'=>w'.cell? ⟨w.heap.size,0,none⟩=some (.int .i64 31)/\w'.cell? ⟨w.heap.size,1,none⟩=some (.int .i64 a)/\w'.cell? ⟨w.heap.size,2,none⟩=some (.int .i64 f)/\w'.cell? ⟨w.heap.size,3,none⟩=some (.int .i64 g)/\w'.cell? ⟨w.heap.size,4,none⟩=some (.int .u64 d)/\w'.cell? ⟨w.heap.size,5,none⟩=some (.int .i64 j)/\w'.cell? ⟨w.heap.size,6,none⟩=some (.int .i64 l)/\w'.cell? (b,o+1+a.toNat)=some (.int .u64 F)) (go_keep) ((go_at_call 108;refine(q w0.drew (U _ T.drew)).mono ?_;rintro e w1 ⟨rfl,P⟩;have t:Hid (Ch ag w0 w1):=Z (Ch.trans ay P);have m:=Z (J.af t);have z:Hid (aj K c/\aR L Y c b o):=Z ⟨B,D⟩;have G:=Z ((Nx.af t).row s.1 s.2);obtain⟨t0,t1,t2,t3,t4,t5,t6⟩:=G.1.c7;have A:=m.at_.aA z.1 z.2 a.toNat (by omega);rw[u]at A))
  all_goals
   have k1:=m.at_.cO;go_wp2_with fail
   refine(H _ m.at_).mono ?_;rintro e w2 ⟨⟨v,rfl,Q⟩,a9,X,N⟩;obtain⟨tt,c9,rfl⟩:=Q;have n:=Z (m.trans (Gr.refl _) N);go_wp2
   go_ret;rw[E];exact⟨rfl,a9,X,n.at_,n.nx,fun _=>n.yk⟩
 |some r=>
  have E:Hid (bf K i c ⟨31,a,f,g,d,j,l⟩=(0,({K with mem:=R}:KS).bj i {({K with mem:=R}:KS).W i with hand:=0})):=Z (by unfold bf;dsimp only;rw[if_pos rfl,S,u,W];rfl);go_in
  go_wp2
  try rw[a4]
  go_region_held3 (fun w'=>w'.cell? ⟨w.heap.size,0,none⟩=some (.int .i64 31)/\w'.cell? ⟨w.heap.size,1,none⟩=some (.int .i64 a)/\w'.cell? ⟨w.heap.size,2,none⟩=some (.int .i64 f)/\w'.cell? ⟨w.heap.size,3,none⟩=some (.int .i64 g)/\w'.cell? ⟨w.heap.size,4,none⟩=some (.int .u64 d)/\w'.cell? ⟨w.heap.size,5,none⟩=some (.int .i64 j)/\w'.cell? ⟨w.heap.size,6,none⟩=some (.int .i64 l)/\w'.cell? (b,o+1+a.toNat)=some (.int .u64 F)) (go_keep) ((go_at_call 108;refine(q w0.drew (U _ T.drew)).mono ?_;rintro e w1 ⟨rfl,P⟩;have t:Hid (Ch ag w0 w1):=Z (Ch.trans ay P);have m:=Z (J.af t);have z:Hid (aj K c/\aR L Y c b o):=Z ⟨B,D⟩;have G:=Z ((Nx.af t).row s.1 s.2);obtain⟨t0,t1,t2,t3,t4,t5,t6⟩:=G.1.c7;have A:=m.at_.aA z.1 z.2 a.toNat (by omega);rw[u]at A))
  all_goals
   have k1:=m.at_.cO;go_wp2_with fail
   refine(H _ m.at_).mono ?_;rintro e w2 ⟨⟨v,rfl,Q⟩,a9,X,N⟩;obtain rfl:v=.nilIface:=Q;have n:=Z (m.trans (Gr.refl _) N);have c4:=n.at_.fD (i:=i) (by exact V);have c3:=n.at_.uq (i*38+1);have al:=Z (n.at_.jT (i:=i) (by exact V) 0);go_wp2
   go_ret;rw[E];obtain⟨c1,ad,c0⟩:=al.out;have M:=n.trans (Gr.of_eq rfl) c0;exact⟨rfl,c1,ad,M.at_,M.nx,fun _=>M.yk⟩
theorem sF(i:Nat)(eL:i<K.wk.length)(c:cJ)(b o:Nat)(et:aj K c)(eS:aR L Y c b o)(al:∀k,k<32->aK ((K.F c).r k))(a t d n u z:Int)(es:0<=a/\a<32)(eA:0<=d/\d<32)(eV:aK n)(ci:∀v,(K.mem.acc 4 (dE (K.F c).r ⟨32,a,t,d,n,u,z⟩) ((K.F c).r a.toNat) ((K.F c).r d.toNat)).1=some v->aK v)(h:ae w χ L Y C K):
 Calls prog 137 #[(L.mb,0),(L.wb,i*38),(b,o),.agg #[.int .i64 32,a,t,d,.int .u64 n,u,z]] w (dO (bf K i c ⟨32,a,t,d,n,u,z⟩) χ L Y C K w):=by
 have fr:=Z h;have q:=Z et;have B:=Z eS;have cC:=Z eL;obtain⟨w0,c5,ap,T,Q⟩:=h.pre 32 a t d n u z;obtain⟨g4,g5⟩:=es;obtain⟨O,cm⟩:∃y,(K.F c).r a.toNat=y:=⟨_,rfl⟩;have M:=Z cm;have c9:=Z (al a.toNat (by omega));rw[cm]at c9;obtain⟨fz,g0⟩:=c9.out;obtain⟨g6,g7⟩:=eA;obtain⟨P,cq⟩:∃y,(K.F c).r d.toNat=y:=⟨_,rfl⟩;have D:=Z cq;have bx:=Z (al d.toNat (by omega));rw[cq]at bx;obtain⟨g1,g2⟩:=bx.out;obtain⟨t0,t1,t2,t3,t4,t5,t6⟩:=Q.1.c7;have G:=T.at_.aA q B a.toNat (by omega);rw[M]at G;have s:=T.at_.aA q B d.toNat (by omega);rw[D]at s;obtain⟨V,c2⟩:=nm (dE (K.F c).r ⟨32,a,t,d,n,u,z⟩);have a3:=Z c2;have ch:=lM (x:=⟨32,a,t,d,n,u,z⟩) al eV;rw[c2]at ch;have am:=Z ch;have av:Hid (∀w1:World,Ch ag w w1->fq w1 b o (K.F c).pc (K.F c).r):=Z (fun w1 ex=>by obtain⟨pre,post,v,eC⟩:=(h.af ex).cur q B;exact eC.fr);have S:=Z (fun w h=>kD b o (K.F c).pc (K.F c).r ⟨32,a,t,d,n,u,z⟩ w h);rw[c2]at S;unfold aL at S;try dsimp only at S
 obtain⟨p,c4⟩:=nm (K.mem.acc 4 V O P);have bv:=Z c4;have a9:=Z (fun w h=>G0 (K:=K) (w:=w) (χ:=χ) (L:=L) (Y:=Y) (C:=C) V O P am bx h);rw[a3,M,D,c4]at ci;rw[c4]at a9;have cQ:=Z ci;have cS:=Z al;obtain⟨r,H⟩:=p;cases r with
 |none=>
  have E:Hid (bf K i c ⟨32,a,t,d,n,u,z⟩=(2,{K with mem:=H})):=Z (by unfold bf;dsimp only;rw[if_neg (by decide),a3,M,D,bv]);go_in
  go_wp2
  try rw[c5]
  go_region_held3 (fun w'=>w'.cell? ⟨w.heap.size,0,none⟩=some (.int .i64 32)/\w'.cell? ⟨w.heap.size,1,none⟩=some (.int .i64 a)/\w'.cell? ⟨w.heap.size,2,none⟩=some (.int .i64 t)/\w'.cell? ⟨w.heap.size,3,none⟩=some (.int .i64 d)/\w'.cell? ⟨w.heap.size,4,none⟩=some (.int .u64 n)/\w'.cell? ⟨w.heap.size,5,none⟩=some (.int .i64 u)/\w'.cell? ⟨w.heap.size,6,none⟩=some (.int .i64 z)/\w'.cell? (b,o+1+a.toNat)=some (.int .u64 O)) (go_keep) ((go_at_call 108;refine(S w0.drew (av _ ap.drew)).mono ?_;rintro e w1 ⟨rfl,a0⟩;have J:Hid (Ch ag w0 w1):=Z (Ch.trans ay a0);have j:=Z (T.af J);have m:Hid (aj K c/\aR L Y c b o):=Z ⟨q,B⟩;have A:=Z ((Nx.af J).row Q.1 Q.2);obtain⟨t0,t1,t2,t3,t4,t5,t6⟩:=A.1.c7;have G:=j.at_.aA m.1 m.2 a.toNat (by omega);rw[M]at G))
  all_goals
   have k1:=j.at_.cO;have s:=j.at_.aA m.1 m.2 d.toNat (by omega);rw[D]at s;go_wp2
   go_region_held3 (fun w'=>w'.cell? (L.mb,1007)=some (.pointer (some (L.m,0)))/\w'.cell? ⟨w.heap.size,3,none⟩=some (.int .i64 d)/\w'.cell? (b,o+1+d.toNat)=some (.int .u64 P)) (go_keep) ((go_at_call 180;refine(a9 _ j.at_.drew).mono ?_;rintro e w2 ⟨⟨v,rfl,eW⟩,cs,cb,N⟩;obtain⟨tt,g8,rfl⟩:=eW;have f:=Z ((j.af ay).trans (Gr.refl _) N);have I:=Z (((Nx.af (Ch.refl _ w1).drew).trans N.nx).row A.1 A.2);have g:=Z (f.cur q B (Gr.of_eq rfl) rfl);have k1:=f.at_.cO;have t1:=I.1.k 1 rfl;have t3:=I.1.k 3 rfl;have G:=f.at_.aA g.1 g.2 a.toNat (by omega);have s:=f.at_.aA g.1 g.2 d.toNat (by omega);rw[show(({K with mem:=H}:KS).F c).r d.toNat=P from D.out]at s))
   all_goals
    go_wp2
    go_ret;rw[E];exact⟨rfl,_,_,f.at_,f.nx,fun _=>f.yk⟩
 |some F=>
  have cL:Hid (aK F):=Z (cQ F rfl);obtain⟨K1,ad⟩:=mn (({K with mem:=H}:KS).ax c a.toNat F);have a5:=Z ad;have bi:Hid (Gr K K1):=Z (by rw[ad];exact(Gr.of_eq (K:=K) (K':={K with mem:=H}) rfl).trans (bA (q.gr (K':={K with mem:=H}) (Gr.of_eq rfl) rfl) _));have c0:Hid (K1.wk.length=K.wk.length):=Z (by rw[ad];exact(br _ _));have dr:Hid (aK ((K1.F c).r 16)):=Z (by
   rw[ad];have dN:((({K with mem:=H}:KS).ax c a.toNat F).F c).r 16=fW (K.F c).r a.toNat F 16:=by
    show((KS.cI _ c _).F c).r 16=_
    rw[Eh (q.gr (K':={K with mem:=H}) (Gr.of_eq rfl) rfl)];rfl
   rw[dN];unfold fW;split
   ·exact cL
   ·exact cS 16 (by omega))
  obtain⟨c7,cl⟩:=nm ((K1.F c).r 16);have bw:=Z cl;have cW:Hid (aK c7):=Z (by rw[<-cl];exact dr);obtain⟨wi,fb⟩:=nm (K1.mem.wid V);have ab:=Z fb;obtain⟨ce,R⟩:=nm (hk wi O);have a4:=Z R;by_cases c3:F=ce
  ·subst c3
   have E:Hid (bf K i c ⟨32,a,t,d,n,u,z⟩=(0,eK K1 i c7)):=Z (by unfold bf;dsimp only;rw[if_neg (by decide),a3,M,D,bv];dsimp only;rw[<-a5,ab,a4,if_pos rfl,bw]);go_in
   go_wp2
   try rw[c5]
   go_region_held3 (fun w'=>w'.cell? ⟨w.heap.size,0,none⟩=some (.int .i64 32)/\w'.cell? ⟨w.heap.size,1,none⟩=some (.int .i64 a)/\w'.cell? ⟨w.heap.size,2,none⟩=some (.int .i64 t)/\w'.cell? ⟨w.heap.size,3,none⟩=some (.int .i64 d)/\w'.cell? ⟨w.heap.size,4,none⟩=some (.int .u64 n)/\w'.cell? ⟨w.heap.size,5,none⟩=some (.int .i64 u)/\w'.cell? ⟨w.heap.size,6,none⟩=some (.int .i64 z)/\w'.cell? (b,o+1+a.toNat)=some (.int .u64 O)) (go_keep) ((go_at_call 108;refine(S w0.drew (av _ ap.drew)).mono ?_;rintro e w1 ⟨rfl,a0⟩;have J:Hid (Ch ag w0 w1):=Z (Ch.trans ay a0);have j:=Z (T.af J);have m:Hid (aj K c/\aR L Y c b o):=Z ⟨q,B⟩;have A:=Z ((Nx.af J).row Q.1 Q.2);obtain⟨t0,t1,t2,t3,t4,t5,t6⟩:=A.1.c7;have G:=j.at_.aA m.1 m.2 a.toNat (by omega);rw[M]at G))
   all_goals
    have k1:=j.at_.cO;have s:=j.at_.aA m.1 m.2 d.toNat (by omega);rw[D]at s;go_wp2
    go_region_held3 (fun w'=>w'.cell? (L.mb,1007)=some (.pointer (some (L.m,0)))/\w'.cell? ⟨w.heap.size,3,none⟩=some (.int .i64 d)/\w'.cell? (b,o+1+d.toNat)=some (.int .u64 P)) (go_keep) ((go_at_call 180;refine(a9 _ j.at_.drew).mono ?_;rintro e w2 ⟨rfl,cs,cb,N⟩;have f:=Z ((j.af ay).trans (Gr.refl _) N);have I:=Z (((Nx.af (Ch.refl _ w1).drew).trans N.nx).row A.1 A.2);have g:=Z (f.cur q B (Gr.of_eq rfl) rfl);have k1:=f.at_.cO;have t1:=I.1.k 1 rfl;have t3:=I.1.k 3 rfl;have G:=f.at_.aA g.1 g.2 a.toNat (by omega);have s:=f.at_.aA g.1 g.2 d.toNat (by omega);rw[show(({K with mem:=H}:KS).F c).r d.toNat=P from D.out]at s))
    all_goals
     have ej:=f.at_.hy g.1 g.2 (o+1+a.toNat);have X:=f.at_.drew.a7 g.1 g.2 a.toNat (by omega) F;rw[<-a5]at X;obtain⟨cA,cd,W⟩:=X;obtain⟨c8,a1⟩:=nm (w2.drew.setCell (b,o+1+a.toNat) (.int .u64 F));rw[a1]at W;have l:=Z ((f.af ay).trans (Gr.of_eq rfl) W);have U:=Z (l.cur q B bi c0);have k3:=l.at_.cO;have c6:=l.at_.aA U.1 U.2 16 (by omega);rw[bw]at c6;go_wp2
     go_still_tail 6,(by kernel_rfl)
     change wpList _ _ _ _ _ w2.drew;go_wp2_with fail
     try rw[a1]
     have a2:=zW V am l.at_;rw[ab]at a2;refine a2.mono ?_;rintro e w4 ⟨rfl,rfl⟩;go_wp2_with fail
     have R:=ky wi O c8;rw[a4]at R;refine R.mono ?_;rintro e fd ⟨rfl,rfl⟩;go_wp2_with fail
     refine(pJ (K:=K1) i (by rw[c0];exact cC) c7 cW l.at_).mono ?_;rintro e g3 ⟨rfl,fn,dC,en⟩;have c1:=Z (l.trans bi en);go_wp2
     go_ret;rw[E];exact⟨rfl,fn,dC,c1.at_,c1.nx,fun _=>c1.yk⟩
  ·have E:Hid (bf K i c ⟨32,a,t,d,n,u,z⟩=(0,K1)):=Z (by unfold bf;dsimp only;rw[if_neg (by decide),a3,M,D,bv];dsimp only;rw[<-a5,ab,a4,if_neg c3])
   go_in
   go_wp2
   try rw[c5]
   go_region_held3 (fun w'=>w'.cell? ⟨w.heap.size,0,none⟩=some (.int .i64 32)/\w'.cell? ⟨w.heap.size,1,none⟩=some (.int .i64 a)/\w'.cell? ⟨w.heap.size,2,none⟩=some (.int .i64 t)/\w'.cell? ⟨w.heap.size,3,none⟩=some (.int .i64 d)/\w'.cell? ⟨w.heap.size,4,none⟩=some (.int .u64 n)/\w'.cell? ⟨w.heap.size,5,none⟩=some (.int .i64 u)/\w'.cell? ⟨w.heap.size,6,none⟩=some (.int .i64 z)/\w'.cell? (b,o+1+a.toNat)=some (.int .u64 O)) (go_keep) ((go_at_call 108;refine(S w0.drew (av _ ap.drew)).mono ?_;rintro e w1 ⟨rfl,a0⟩;have J:Hid (Ch ag w0 w1):=Z (Ch.trans ay a0);have j:=Z (T.af J);have m:Hid (aj K c/\aR L Y c b o):=Z ⟨q,B⟩;have A:=Z ((Nx.af J).row Q.1 Q.2);obtain⟨t0,t1,t2,t3,t4,t5,t6⟩:=A.1.c7;have G:=j.at_.aA m.1 m.2 a.toNat (by omega);rw[M]at G))
   all_goals
    have k1:=j.at_.cO;have s:=j.at_.aA m.1 m.2 d.toNat (by omega);rw[D]at s;go_wp2
    go_region_held3 (fun w'=>w'.cell? (L.mb,1007)=some (.pointer (some (L.m,0)))/\w'.cell? ⟨w.heap.size,3,none⟩=some (.int .i64 d)/\w'.cell? (b,o+1+d.toNat)=some (.int .u64 P)) (go_keep) ((go_at_call 180;refine(a9 _ j.at_.drew).mono ?_;rintro e w2 ⟨rfl,cs,cb,N⟩;have f:=Z ((j.af ay).trans (Gr.refl _) N);have I:=Z (((Nx.af (Ch.refl _ w1).drew).trans N.nx).row A.1 A.2);have g:=Z (f.cur q B (Gr.of_eq rfl) rfl);have k1:=f.at_.cO;have t1:=I.1.k 1 rfl;have t3:=I.1.k 3 rfl;have G:=f.at_.aA g.1 g.2 a.toNat (by omega);have s:=f.at_.aA g.1 g.2 d.toNat (by omega);rw[show(({K with mem:=H}:KS).F c).r d.toNat=P from D.out]at s))
    all_goals
     have ej:=f.at_.hy g.1 g.2 (o+1+a.toNat);have X:=f.at_.drew.a7 g.1 g.2 a.toNat (by omega) F;rw[<-a5]at X;obtain⟨cA,cd,W⟩:=X;obtain⟨c8,a1⟩:=nm (w2.drew.setCell (b,o+1+a.toNat) (.int .u64 F));rw[a1]at W;have l:=Z ((f.af ay).trans (Gr.of_eq rfl) W);have U:=Z (l.cur q B bi c0);have k3:=l.at_.cO;have c6:=l.at_.aA U.1 U.2 16 (by omega);rw[bw]at c6;go_wp2
     go_still_tail 6,(by kernel_rfl)
     change wpList _ _ _ _ _ w2.drew;go_wp2_with fail
     try rw[a1]
     have a2:=zW V am l.at_;rw[ab]at a2;refine a2.mono ?_;rintro e w4 ⟨rfl,rfl⟩;go_wp2_with fail
     have R:=ky wi O c8;rw[a4]at R;refine R.mono ?_;rintro e fd ⟨rfl,rfl⟩;have hb:(F==ce)=false:=(by rw[beq_eq_false_iff_ne];exact c3);go_wp2
     go_ret;rw[E];exact⟨rfl,cA,cd,l.at_,l.nx,fun _=>l.yk⟩
def F5(l:List Value)(w:World)(p:Value)(wc:World):Prop:=∃a,p=.pointer (some ⟨a,0,none⟩)/\Row wc a 159 l/\Ch ag w wc/\w.heap.size<=a
theorem jV(id:Int)(c:cJ)(b o:Nat)(P:aj K c)(a3:aR L Y c b o)(g f l m n d a:Int)(c8:i' g=true->0<=f/\f<32)(hb:K.out.length<=900000)(h:ae w χ L Y C K):
 Calls prog 102 #[(L.mb,0),.int .u64 id,(b,o),.agg #[g,f,l,m,.int .u64 n,d,a]] w (dk (.tuple #[]) χ L Y C K (dc K id c ⟨g,f,l,m,n,d,a⟩) w):=by
 have am:=Z P;have bv:=Z a3;have H:=Z hb;obtain⟨w0,G,ap,O,J⟩:=h.sh g f l m n d a;obtain⟨t0,t1⟩:=J.c2;have t5:=J.k 5 rfl;have t6:=J.k 6 rfl;have al:=Z c8;obtain⟨k,a4⟩:∃y,(K.F c).r 0=y:=⟨_,rfl⟩;have A:=Z a4;have Q:=O.at_.aA P a3 0 (by omega);rw[a4]at Q;by_cases q:d=0
 ·have E:Hid (dc K id c ⟨g,f,l,m,n,d,a⟩=K):=Z (by unfold dc;rw[if_pos q])
  subst q;go_in
  go_wp2
  try rw[G]
  refine bodyPost_ret (results_none rfl _ _ _) rfl ?_;rw[E];exact⟨rfl,_,_,O⟩
 ·have cq:(d==0)=false:=by rw[beq_eq_false_iff_ne];exact q
  go_in
  go_wp2
  try rw[G]
  go_cut [8] (fun p wc=>F5 [.int .i64 5,.int .i64 0,.int .i64 0,.int .u64 id,d,.int .u64 0,.int .u64 0,.int .u64 0,.int .u64 0,.int .u64 k,.int .u64 0] w0 p wc)
  case first=>
   have cA:=World.new_ne w0 ⟨w.heap.size,5,none⟩ t5;have cC:=World.new_ne w0 ⟨b,o+1+0,none⟩ Q;have cL:b≠w0.heap.size:=Nat.ne_of_lt (aQ Q);have cQ:w.heap.size≠w0.heap.size:=Nat.ne_of_lt (aQ t5);go_region_held3 (fun w'=>w'.cell? (w.heap.size,5)=some (.int .i64 d)/\w'.cell? (b,o+1+0)=some (.int .u64 k)) (go_keep) (fail)
   all_goals(go_wp2_with fail;go_meet)
   all_goals exact⟨w0.heap.size,rfl,(Row.new w0 _ _).drew,ay,Nat.le_refl _⟩
  case rest=>
   obtain⟨D,rfl,ch,P,hle⟩:=hcut;have N:=Z ch;have a0:=Z P;have V:=Z (O.af a0);have M:=Z (J.ch a0 (fun h=>h));have c9:w.heap.size<=D:=Nat.le_trans ap.size hle;have av:=Z c9;have cs:b≠D:=(fun e=>by have W:=aQ Q;dsimp only at W;omega);have cb:w.heap.size≠D:=(fun e=>by have W:=aQ t0;dsimp only at W;omega);have bi:Hid (χ D=.no):=Z (O.at_.fresh hle);have t0:=M.c1;have U:=Z (z7 g wc);obtain⟨cl,a5⟩:=nm (i' g);rw[a5]at U;have T:=Z a5;obtain⟨ab,v⟩:∃p,(a==0)=p:=⟨_,rfl⟩;obtain⟨p1,cd⟩:∃p,(a==1)=p:=⟨_,rfl⟩;have cm:=Z v;have F:=Z cd;cases cl
   ·have r:Hid ((if i' g=true then(K.F c).r f.toNat else 0)=0):=Z (by rw[if_neg (by rw[T.out];simp)])
    go_wp2_with fail
    refine U.mono ?_;rintro e w2 ⟨rfl,rfl⟩;go_upto_region 5 with fail
    have j:=V;have S:=N;have R:=M;have B:Hid (((0:Int)==0)=true):=Z rfl;obtain⟨bw,bx,c0,c1,c2,c3,c4,c5,c6,c7,a2⟩:=S.BJ;have t6:=R.k 6 rfl;cases ab
    ·cases p1
     ·have I:¬(a=0∨((a==1)=(0==(0:Int)))):=fun e=>e.elim (fun e=>by rw[beq_eq_false_iff_ne]at v;exact v e) (fun e=>by rw[F,B]at e;cases e)
      have E:Hid (dc K id c ⟨g,f,l,m,n,d,a⟩=K):=Z (by unfold dc;dsimp only;rw[if_neg q,r,A,if_neg (I)]);go_wp2
      go_end0
      rw[E];exact⟨rfl,_,_,j⟩
     ·have x:a=0∨((a==1)=(0==(0:Int))):=Or.inr (by rw[F,B])
      have E:Hid (dc K id c ⟨g,f,l,m,n,d,a⟩=tell K ⟨5,0,0,id,d,0,0,0,0,k,0⟩):=Z (by unfold dc;dsimp only;rw[if_neg q,r,A,if_pos (x)]);go_wp2_with fail
      refine(dI 5 0 0 id d 0 0 0 0 k 0 H j.at_).mono ?_;rintro e w4 ⟨rfl,z,t,u⟩;have s:=Z (j.trans (Gr.refl _) u);go_wp2
      go_end0
      rw[E];exact⟨rfl,z,t,s⟩
    ·have G:a=0:=by simpa using v
     have x:a=0∨((a==1)=(0==(0:Int))):=Or.inl G;have E:Hid (dc K id c ⟨g,f,l,m,n,d,a⟩=tell K ⟨5,0,0,id,d,0,0,0,0,k,0⟩):=Z (by unfold dc;dsimp only;rw[if_neg q,r,A,if_pos (x)]);go_wp2_with fail
     refine(dI 5 0 0 id d 0 0 0 0 k 0 H j.at_).mono ?_;rintro e w4 ⟨rfl,z,t,u⟩;have s:=Z (j.trans (Gr.refl _) u);go_wp2
     go_end0
     rw[E];exact⟨rfl,z,t,s⟩
   ·obtain⟨cS,cW⟩:=al T
    obtain⟨i,a9⟩:∃y,(K.F c).r f.toNat=y:=⟨_,rfl⟩;have r:Hid ((if i' g=true then(K.F c).r f.toNat else 0)=i):=Z (by rw[if_pos T.out];exact a9);have ci:=V.at_.aA am bv f.toNat (by omega);rw[a9]at ci;have t1:=M.k 1 rfl;have a2:=N.k 10 rfl;have g10:=N.free 10;go_wp2_with fail
    refine U.mono ?_;rintro e w2 ⟨rfl,rfl⟩;go_wp2
    go_still_tail 8,(by kernel_rfl)
    change wpList _ _ _ _ _ wc.drew;go_upto_region 5 with fail
    obtain⟨ad,X⟩:=nm ((wc.setCell (D,10) (.int .u64 i)).drew);have a1:Hid (Ch (aH D) wc ad):=Z (by rw[<-X];exact ay);have S:Hid (Row ad D 159 [.int .i64 5,.int .i64 0,.int .i64 0,.int .u64 id,d,.int .u64 0,.int .u64 0,.int .u64 0,.int .u64 0,.int .u64 k,.int .u64 i]):=Z (by rw[<-X];exact(N.set 10 _).drew);have j:=Z (V.plain bi av a1);have R:=Z (M.ch a1 (fun e=>cb e));rw[X];obtain⟨p2,ce⟩:∃p,(i==(0:Int))=p:=⟨_,rfl⟩;have B:=Z ce;obtain⟨bw,bx,c0,c1,c2,c3,c4,c5,c6,c7,a2⟩:=S.BJ;have t6:=R.k 6 rfl;cases ab
    ·cases p1<;>cases p2
     ·have x:a=0∨((a==1)=(i==(0:Int))):=Or.inr (by rw[F,B])
      have E:Hid (dc K id c ⟨g,f,l,m,n,d,a⟩=tell K ⟨5,0,0,id,d,0,0,0,0,k,i⟩):=Z (by unfold dc;dsimp only;rw[if_neg q,r,A,if_pos (x)]);go_wp2_with fail
      refine(dI 5 0 0 id d 0 0 0 0 k i H j.at_).mono ?_;rintro e w4 ⟨rfl,z,t,u⟩;have s:=Z (j.trans (Gr.refl _) u);go_wp2
      go_end0
      rw[E];exact⟨rfl,z,t,s⟩
     ·have I:¬(a=0∨((a==1)=(i==(0:Int)))):=fun e=>e.elim (fun e=>by rw[beq_eq_false_iff_ne]at v;exact v e) (fun e=>by rw[F,B]at e;cases e)
      have E:Hid (dc K id c ⟨g,f,l,m,n,d,a⟩=K):=Z (by unfold dc;dsimp only;rw[if_neg q,r,A,if_neg (I)]);go_wp2
      go_end0
      rw[E];exact⟨rfl,_,_,j⟩
     ·have I:¬(a=0∨((a==1)=(i==(0:Int)))):=fun e=>e.elim (fun e=>by rw[beq_eq_false_iff_ne]at v;exact v e) (fun e=>by rw[F,B]at e;cases e)
      have E:Hid (dc K id c ⟨g,f,l,m,n,d,a⟩=K):=Z (by unfold dc;dsimp only;rw[if_neg q,r,A,if_neg (I)]);go_wp2
      go_end0
      rw[E];exact⟨rfl,_,_,j⟩
     ·have x:a=0∨((a==1)=(i==(0:Int))):=Or.inr (by rw[F,B])
      have E:Hid (dc K id c ⟨g,f,l,m,n,d,a⟩=tell K ⟨5,0,0,id,d,0,0,0,0,k,i⟩):=Z (by unfold dc;dsimp only;rw[if_neg q,r,A,if_pos (x)]);go_wp2_with fail
      refine(dI 5 0 0 id d 0 0 0 0 k i H j.at_).mono ?_;rintro e w4 ⟨rfl,z,t,u⟩;have s:=Z (j.trans (Gr.refl _) u);go_wp2
      go_end0
      rw[E];exact⟨rfl,z,t,s⟩
    ·have G:a=0:=by simpa using v
     have x:a=0∨((a==1)=(i==(0:Int))):=Or.inl G;have E:Hid (dc K id c ⟨g,f,l,m,n,d,a⟩=tell K ⟨5,0,0,id,d,0,0,0,0,k,i⟩):=Z (by unfold dc;dsimp only;rw[if_neg q,r,A,if_pos (x)]);go_wp2_with fail
     refine(dI 5 0 0 id d 0 0 0 0 k i H j.at_).mono ?_;rintro e w4 ⟨rfl,z,t,u⟩;have s:=Z (j.trans (Gr.refl _) u);go_wp2
     go_end0
     rw[E];exact⟨rfl,z,t,s⟩
theorem ae.wu(h:ae w χ L Y C K){q:Nat}{r:bB}(c:C.calls[q]?=some r):∃g,L.ll=some ⟨g,0,none⟩/\w.cell? ⟨g,q*6,none⟩=some (.int .i64 r.num)/\w.cell? ⟨g,q*6+1,none⟩=some (.int .i64 r.at_)/\w.cell? ⟨g,q*6+2,none⟩=some (.int .i64 r.k0)/\w.cell? ⟨g,q*6+3,none⟩=some (.int .i64 r.k1)/\w.cell? ⟨g,q*6+4,none⟩=some (.int .i64 r.k2)/\w.cell? ⟨g,q*6+5,none⟩=some (.int .i64 r.k3):=by
 obtain⟨g,m,d,f,_⟩:=(h.code (by simp)).calls (by intro e;rw[e]at c;cases c);have l:=(List.getElem?_eq_some_iff.1 c).1;have a:∀j v,j<6->r.cells[j]?=some v->w.cell? ⟨g,q*6+j,none⟩=some v:=fun j v i k=>f.cell (by
  rw[List.getElem?_append_left (by rw[aU (enc:=bB.cells) bB.len];omega)];exact(bJ bB.len c i).trans k)
 exact⟨g,d,a 0 _ (by omega) rfl,a 1 _ (by omega) rfl,a 2 _ (by omega) rfl,a 3 _ (by omega) rfl,a 4 _ (by omega) rfl,a 5 _ (by omega) rfl⟩
theorem gB(k a:Int)(l:List (Int×Int)):cw C K ((k,a)::l)=if k=0 then cw C K l else if k=7 then(if IntKind.u64.wrap C.cells<=a then 22 else cw C K l)else if(gp K.cT a k).isNone then 22 else cw C K l:=rfl
variable{k0 k1 k2 k3 a0 a1 a2 a3 kd:Int}{t:TypeId}
theorem Ax(a b c d:Int)(W:World):(Instr.index 119 (.agg #[a,.int .i64 b,c,d]) (.int .i64 0)).run prog W=.ok (.int .i64 a) W:=by kernel_rfl
theorem F6(hb:Row w b t [.int .u64 a0,.int .u64 a1,.int .u64 a2,.int .u64 a3])(d:cw C K ([(k0,a0),(k1,a1),(k2,a2),(k3,a3)].drop 0)=kd):∃c a l,(Instr.index 119 (.agg #[k0,k1,k2,k3]) (.int .i64 0)).run prog w=.ok (.int .i64 c) w/\w.cell? (b,0)=some (.int .u64 a)/\cw C K ((c,a)::l)=kd/\l=[(k0,a0),(k1,a1),(k2,a2),(k3,a3)].drop (0+1):=⟨k0,a0,_,Ax _ _ _ _ _,hb.cell (i:=0) rfl,d,rfl⟩
theorem Ay(a b c d:Int)(W:World):(Instr.index 119 (.agg #[a,.int .i64 b,c,d]) (.int .i64 1)).run prog W=.ok (.int .i64 b) W:=by kernel_rfl
theorem F7(hb:Row w b t [.int .u64 a0,.int .u64 a1,.int .u64 a2,.int .u64 a3])(d:cw C K ([(k0,a0),(k1,a1),(k2,a2),(k3,a3)].drop 1)=kd):∃c a l,(Instr.index 119 (.agg #[k0,k1,k2,k3]) (.int .i64 1)).run prog w=.ok (.int .i64 c) w/\w.cell? (b,1)=some (.int .u64 a)/\cw C K ((c,a)::l)=kd/\l=[(k0,a0),(k1,a1),(k2,a2),(k3,a3)].drop (1+1):=⟨k1,a1,_,Ay _ _ _ _ _,hb.cell (i:=1) rfl,d,rfl⟩
theorem Az(a b c d:Int)(W:World):(Instr.index 119 (.agg #[a,.int .i64 b,c,d]) (.int .i64 2)).run prog W=.ok (.int .i64 c) W:=by kernel_rfl
theorem F8(hb:Row w b t [.int .u64 a0,.int .u64 a1,.int .u64 a2,.int .u64 a3])(d:cw C K ([(k0,a0),(k1,a1),(k2,a2),(k3,a3)].drop 2)=kd):∃c a l,(Instr.index 119 (.agg #[k0,k1,k2,k3]) (.int .i64 2)).run prog w=.ok (.int .i64 c) w/\w.cell? (b,2)=some (.int .u64 a)/\cw C K ((c,a)::l)=kd/\l=[(k0,a0),(k1,a1),(k2,a2),(k3,a3)].drop (2+1):=⟨k2,a2,_,Az _ _ _ _ _,hb.cell (i:=2) rfl,d,rfl⟩
theorem AA(a b c d:Int)(W:World):(Instr.index 119 (.agg #[a,.int .i64 b,c,d]) (.int .i64 3)).run prog W=.ok (.int .i64 d) W:=by kernel_rfl
theorem F9(hb:Row w b t [.int .u64 a0,.int .u64 a1,.int .u64 a2,.int .u64 a3])(d:cw C K ([(k0,a0),(k1,a1),(k2,a2),(k3,a3)].drop 3)=kd):∃c a l,(Instr.index 119 (.agg #[k0,k1,k2,k3]) (.int .i64 3)).run prog w=.ok (.int .i64 c) w/\w.cell? (b,3)=some (.int .u64 a)/\cw C K ((c,a)::l)=kd/\l=[(k0,a0),(k1,a1),(k2,a2),(k3,a3)].drop (3+1):=⟨k3,a3,_,AA _ _ _ _ _,hb.cell (i:=3) rfl,d,rfl⟩
theorem qY(id:Int)(t:Thread)(a9:aw K.ai id=some t)(es:0<t.l.length)(eA:t.l.length<=8)(num:Int)(et:0<=num)(a0 a1 a2 a3:Int)(cS:0<=C.wide/\C.wide<=256/\0<=C.narrow/\C.narrow<=256)(eC:∀r∈C.rows,0<=r/\r<=C.calls.length)(dr:C.calls.length<=2048)(h:ae w χ L Y C K):
 Calls prog 153 #[(L.mb,0),(Y.bI id,0),num,.agg #[.int .u64 a0,.int .u64 a1,.int .u64 a2,.int .u64 a3]] w (ds (.int .u64 (cM C K id num a0 a1 a2 a3)) w):=by
 have hlen:=(h.head (by simp)).rows;have bx:Hid (K.T id=t):=Z (KS.dm a9);obtain⟨gf,g1,dN,g8,_⟩:=h.hV a9 es;have O:=h.DB a9;rw[dN]at O;obtain⟨F,c9⟩:=nm t.l.length;have bw:=Z c9;rw[c9]at O eA;obtain⟨tb,eL⟩:=nm (Y.bI id);rw[eL]at O⊢;obtain⟨w0,A⟩:=nm (w.alloc (.cells #[.int .u64 a0,.int .u64 a1,.int .u64 a2,.int .u64 a3] 157));have p:=Z (Ch.al (D:=ag) A);have G:Hid (ae w0 χ L Y C K):=Z (h.af p);have ap:=Z (Row.al A);have gt:=p.k O;by_cases c2:1000<=num
 ·have E:Hid (cM C K id num a0 a1 a2 a3=38):=Z (by unfold cM;rw[if_pos (Or.inl c2)])
  go_in
  go_wp2
  try rw[A]
  go_ret;rw[E];exact⟨rfl,p⟩
 ·obtain⟨m,rfl⟩:=Int.eq_ofNat_of_zero_le et
  have ej:m<C.rows.length:=by omega
  obtain⟨r,a5⟩:∃r,C.rows[m]?=some r:=⟨_,List.getElem?_eq_getElem ej⟩;have ge:=eC r (List.mem_of_getElem? a5);have S:Hid (C.rows.getD (m:Int).toNat 0=r):=Z (by rw[Int.toNat_natCast,List.getD_eq_getElem?_getD,a5];rfl);have c1:=G.Ec a5;have g9:(m:Int)<1000:=by omega
  by_cases ad:r=0
  ·subst ad
   have E:Hid (cM C K id m a0 a1 a2 a3=38):=Z (by unfold cM;rw[if_pos (Or.inr S.out)]);go_in
   go_wp2
   try rw[A]
   go_ret;rw[E];exact⟨rfl,p⟩
  ·have go:(r==0)=false:=by rw[beq_eq_false_iff_ne];exact ad
   have cb:¬(1000<=(m:Int)∨C.rows.getD (m:Int).toNat 0=0):=(fun e=>e.elim c2 (fun e=>ad (S.symm.trans e)));by_cases V:7<=F/\(m:Int)≠2
   ·have E:Hid (cM C K id m a0 a1 a2 a3=11):=Z (by unfold cM;rw[if_neg cb,bx,bw,if_pos V])
    obtain⟨c3,cL⟩:=V;have c4:(7:Int)<=(F:Int):=(by omega);have g4:((m:Int)==2)=false:=(by rw[beq_eq_false_iff_ne];exact cL);go_in
    go_wp2
    try rw[A]
    go_ret;rw[E];exact⟨rfl,p⟩
   ·have cW:F<7∨7<=F/\m=2:=by omega
    obtain⟨q,rfl⟩:∃q:Nat,r=(q:Int)+1:=⟨(r-1).toNat,by omega⟩;obtain⟨c,g⟩:∃c,C.calls[q]?=some c:=⟨_,List.getElem?_eq_getElem (by omega)⟩;have cm:Hid (C.calls.getD (C.rows.getD (m:Int).toNat 0-1).toNat default=c):=Z (by rw[S,show((q:Int)+1-1).toNat=q by omega,List.getD_eq_getElem?_getD,g];rfl);have E:Hid (cM C K id (m:Int) a0 a1 a2 a3=cw C K [(c.k0,a0),(c.k1,a1),(c.k2,a2),(c.k3,a3)]):=Z (by unfold cM;rw[if_neg cb,bx,bw,if_neg V];dsimp only;rw[cm]);obtain⟨g3,c7,fb,fd,ce,ch,ci,cl⟩:=G.wu g;have fr:=Z (And.intro c7 (And.intro ce (And.intro ch (And.intro ci cl))));obtain⟨g2,g0,k0,k1,k2,k3⟩:=c;dsimp only at fb fd ce ch ci cl E;have c0:=G.c2;rw[c7]at c0;obtain⟨cs,cQ⟩:=nm C.calls.length;have gc:(q:Int)<(cs:Int):=(by have:=(List.getElem?_eq_some_iff.1 g).1;omega);rw[cQ]at c0 dr;have gr:IntKind.i64.wrap ((q:Int)+1-1)=q:=(by rw[show(q:Int)+1-1=q by omega];exact IntWalk.i64_in _ (by omega));have gs:(q:Int)+1-1=q:=(by omega);have bi:=Z (fun w (h:ae w χ L Y C K)=>n4 h cS);have c6:0<=C.cells/\C.cells<=512:=(by unfold KC.cells;omega);obtain⟨U,c5⟩:=nm C.cells;rw[c5]at bi c6;obtain⟨g5,g6⟩:=c6;have J:Hid (IntKind.u64.wrap U=U):=Z (by unfold IntKind.wrap IntKind.bits IntKind.signed;simp;omega);have av:=Z c5;obtain⟨kd,M⟩:=nm (cw C K [(k0,a0),(k1,a1),(k2,a2),(k3,a3)]);rw[M]at E;have cq:=Z M;rcases cW with c3|⟨c3,rfl⟩
    all_goals
     try have c1:w0.cell? (L.mb,9)=_:=c1
     try have c4:(F:Int)<7:=by omega
     try have c4:(7:Int)<=(F:Int):=by omega
     go_in
     go_wp2
     try rw[A]
     go_quiet (fail)
     obtain⟨w1,cd⟩:=nm (w0.drewN nq);have P:Hid (Ch ag w0 w1):=Z (by rw[<-cd];exact ay);rw[cd];have fz:=Z (G.af P);have fn:=Z (ap.ch P (fun h=>h));go_wp2
     go_loopg [49] 5 (fun gk u wr=>∃k:Nat,k<=4/\gk=4-k+1/\u=.int .i64 k/\Hid (Ch ag w0 wr/\cw C K ([(k0,a0),(k1,a1),(k2,a2),(k3,a3)].drop k)=kd))
     case atStart=>exact⟨0,by omega,by omega,rfl,P,cq⟩
     case round=>
      obtain⟨k,g7,rfl,rfl,f⟩:=hrel;have z:=Z (G.af f.1);have I:=Z (ap.ch f.1 (fun h=>h));have bv:=Z (fun n=>bi _ (z.drewN n));have co:=z.iq;obtain⟨am,ex⟩:=mn (k+1);obtain⟨al,en⟩:=mn (4-k);have a:=Z (And.intro ex en);obtain rfl|rfl|rfl|rfl|rfl:k=0∨k=1∨k=2∨k=3∨k=4:=by omega
      rotate_right
      ·have M:kd=0:=f.2.symm
       go_wp2
       go_ret;rw[E,M];exact⟨rfl,p.trans f.1⟩
      all_goals
       first
        |obtain⟨d,o,l,a4,x,s,N⟩:=F6 (k0:=k0) (k1:=k1) (k2:=k2) (k3:=k3) I f.2
        |obtain⟨d,o,l,a4,x,s,N⟩:=F7 (k0:=k0) (k1:=k1) (k2:=k2) (k3:=k3) I f.2
        |obtain⟨d,o,l,a4,x,s,N⟩:=F8 (k0:=k0) (k1:=k1) (k2:=k2) (k3:=k3) I f.2
        |obtain⟨d,o,l,a4,x,s,N⟩:=F9 (k0:=k0) (k1:=k1) (k2:=k2) (k3:=k3) I f.2
       have R:=Z N;by_cases y:d=0
       ·have g:cw C K l=kd:=by rw[<-s];exact(show cw C K ((d,o)::_)=_ by rw[gB,if_pos y]).symm
        have j:=Z g;have eV:(d==0)=true:=(by rw[beq_iff_eq];exact y);go_wp2
        go_roundg (al)
        case measure=>have:=a.out;omega
        case rel=>exact⟨am,by have:=a.out;omega,by have:=a.out;omega,by rw[a.1];rfl,f.1,by rw[a.1];exact R▸j⟩
       ·have eV:(d==0)=false:=by rw[beq_eq_false_iff_ne];exact y
        by_cases B:d=7
        ·have eW:(d==7)=true:=by rw[beq_iff_eq];exact B
         by_cases c8:U<=o
         ·have g:kd=22:=by rw[<-s,gB,if_neg y,if_pos B,if_pos (by rw[av.out,J];exact c8)]
          have j:=Z g;have dC:=J.out;go_wp2
          go_quiet ((go_at_call 84;exact Calls.quiet_of (bv _)))
          generalize ab:wr.drewN _=H;have i:=Z (Ch.dN (D:=ag) ab);go_wp2
          go_ret;rw[E,j];exact⟨rfl,(p.trans f.1).trans i⟩
         ·have g:cw C K l=kd:=by rw[<-s];exact(show cw C K ((d,o)::_)=_ by rw[gB,if_neg y,if_pos B,if_neg (by rw[av.out,J];exact c8)]).symm
          have j:=Z g;have dC:=J.out;go_wp2
          go_quiet ((go_at_call 84;exact Calls.quiet_of (bv _)))
          generalize ab:wr.drewN _=H;have i:=Z (Ch.dN (D:=ag) ab);go_wp2
          go_roundg (al)
          case measure=>have:=a.out;omega
          case rel=>exact⟨am,by have:=a.out;omega,by have:=a.out;omega,by rw[a.1];rfl,f.1.trans i,by rw[a.1];exact R▸j⟩
        ·have eW:(d==7)=false:=by rw[beq_eq_false_iff_ne];exact B
         have Q:=Z (fun w h=>zX (K:=K) (w:=w) (χ:=χ) (L:=L) (Y:=Y) (C:=C) o d h);obtain⟨cC,X⟩:=nm (gp K.cT o d);rw[X]at Q;cases cC with
         |none=>
          have g:kd=22:=(by rw[<-s,gB,if_neg y,if_neg B,X];rfl);have j:=Z g;go_wp2
          go_region_held3 (And.intro co x) (go_keep) ((go_at_call 154;refine(Q _ z.drew).mono ?_;rintro e H ⟨⟨v,rfl,eS⟩,W⟩;obtain⟨tt,hb,rfl⟩:=eS;have i:Hid (Ch ag wr H):=Z (Ch.trans ay W);have T:=Z (z.af i);have cA:=i.k x;have co:=T.iq))
          all_goals
           go_wp2
           go_ret;rw[E,j];exact⟨rfl,(p.trans f.1).trans i⟩
         |some v=>
          have g:cw C K l=kd:=(by rw[<-s];exact(show cw C K ((d,o)::_)=_ by rw[gB,if_neg y,if_neg B,X];rfl).symm);have j:=Z g;go_wp2
          go_region_held3 (And.intro co x) (go_keep) ((go_at_call 154;refine(Q _ z.drew).mono ?_;rintro e H ⟨rfl,W⟩;have i:Hid (Ch ag wr H):=Z (Ch.trans ay W);have T:=Z (z.af i);have cA:=i.k x;have co:=T.iq))
          all_goals
           go_wp2
           go_roundg (al)
           case measure=>have:=a.out;omega
           case rel=>exact⟨am,by have:=a.out;omega,by have:=a.out;omega,by rw[a.1];rfl,f.1.trans i,by rw[a.1];exact R▸j⟩
theorem iu{α:Type}{enc:α->List Value}{k:Nat}(a:∀x,(enc x).length=k)(m:0<k)(x:α)(z:Array Value)(g:z.toList=enc x)(c:Nat):(madeCells z (c*k)).toList=(List.replicate c x).flatMap enc:=by
 have d:z.size=k:=by rw[<-Array.length_toList,g,a]
 apply List.ext_getElem?;intro i;by_cases f:i<c*k
 ·have e:i=(i/k)*k+i%k:=by rw[Nat.mul_comm];exact(Nat.div_add_mod i k).symm
  have l:i/k<c:=Nat.div_lt_of_lt_mul (by rw[Nat.mul_comm];exact f);have b:i%k<k:=Nat.mod_lt _ m;have h:((List.replicate c x).flatMap enc)[i]?=(enc x)[i%k]?:=by
   conv=>lhs;rw[e]
   exact bJ a (by simp[l]) b
  rw[h,<-g];have j:(madeCells z (c*k))[i]?=z[i%k]?:=by
   unfold madeCells;rw[Array.getElem?_map,Array.getElem?_range,if_pos f];simp only[Option.map_some,d];rw[getElem!_pos z (i%k) (by rw[d];exact b),Array.getElem?_eq_getElem (by rw[d];exact b)]
  simpa using j
 ·rw[List.getElem?_eq_none (by simp[size_madeCells];omega),List.getElem?_eq_none (by rw[aU a,List.length_replicate];omega)]
theorem oE(z:Value)(c:Nat):(madeCells #[z] c).toList=List.replicate c z:=by
 have:=iu (enc:=fun v:Value=>[v]) (k:=1) (fun _=>rfl) (by omega) z #[z] rfl c;rw[Nat.mul_one]at this;rw[this];simp[List.flatMap_replicate]
theorem AN:(prog.info? 245).map (fun i=>(i.zero,i.size,i.bytes))=some (some (.agg #[.int .u64 0,.bool false,.bool false,.int .u64 0,.int .i64 0,.int .u64 0,.int .u64 0,.int .u64 0,.bool false,.bool false]),10,64):=by kernel_rfl
theorem s':(prog.info? 111).map (fun i=>(i.zero,i.size,i.bytes))=some (some (.agg #[.int .u64 0,.int .u64 0,.int .i64 0,.int .u64 0]),4,32):=by kernel_rfl
theorem CQ:(prog.info? 247).map (fun i=>(i.zero,i.size,i.bytes))=some (some (.agg #[.pointer none,.pointer none]),2,16):=by kernel_rfl
theorem EK:(prog.info? 5).map (fun i=>(i.zero,i.size,i.bytes))=some (some (.int .u8 0),1,1):=by kernel_rfl
def aF.zero:aF:=⟨0,false,false,iD.zero⟩
def bq.zero:bq:=⟨0,0,0,0⟩
theorem q5(w:World):Calls prog 45 #[.int .i64 64] w (fun e w'=>e=.returned (.tuple #[(w.heap.size+1,0),.nilIface])/\aW w' (w.heap.size+1) w.heap.size (List.replicate 64 aF.zero)/\Ch ag w w'):=by
 obtain⟨b,d,i,j,k⟩:=info_parts AN;have g:=run_make (P:=prog) w 203 245 b _ underlying203 d i .i64 .i64 64 64 (by omega) (by omega) (by rw[k];decide) (by omega);obtain⟨cs,a⟩:=nm (madeCells (Value.agg #[.int .u64 0,.bool false,.bool false,.int .u64 0,.int .i64 0,.int .u64 0,.int .u64 0,.int .u64 0,.bool false,.bool false]).cells ((64:Int).toNat*b.size));rw[a]at g;rw[j]at a;have c:=Z a;go_wp2
 go_ret2;have f:=iu (enc:=aF.cells) aF.len (by omega) aF.zero #[.int .u64 0,.bool false,.bool false,.int .u64 0,.int .i64 0,.int .u64 0,.int .u64 0,.int .u64 0,.bool false,.bool false] rfl 64;have h:Row (w.alloc (.cells cs 245)) w.heap.size 245 ((List.replicate 64 aF.zero).flatMap aF.cells):=by
  have:=Row.new w cs 245;rw[<-c]at this⊢;rw[<-f];exact this
 refine⟨by simp,⟨?_,h.alloc _,by simp⟩,ay⟩;have:=Row.new (w.alloc (.cells cs 245)) #[.slice (some (w.heap.size,0)) 64 64] 205;rw[World.size_alloc]at this;exact this
theorem oF(w:World):Calls prog 46 #[.int .i64 64] w (fun e w'=>e=.returned (.tuple #[(w.heap.size+1,0),.nilIface])/\bP w' (w.heap.size+1) w.heap.size (List.replicate 64 bq.zero)/\Ch ag w w'):=by
 obtain⟨b,d,i,j,k⟩:=info_parts s';have g:=run_make (P:=prog) w 107 111 b _ underlying107 d i .i64 .i64 64 64 (by omega) (by omega) (by rw[k];decide) (by omega);obtain⟨cs,a⟩:=nm (madeCells (Value.agg #[.int .u64 0,.int .u64 0,.int .i64 0,.int .u64 0]).cells ((64:Int).toNat*b.size));rw[a]at g;rw[j]at a;have c:=Z a;go_wp2
 go_ret2;have f:=iu (enc:=bq.cells) bq.len (by omega) bq.zero #[.int .u64 0,.int .u64 0,.int .i64 0,.int .u64 0] rfl 64;have h:Row (w.alloc (.cells cs 111)) w.heap.size 111 ((List.replicate 64 bq.zero).flatMap bq.cells):=by
  have:=Row.new w cs 111;rw[<-c]at this⊢;rw[<-f];exact this
 refine⟨by simp,⟨?_,h.alloc _,by simp⟩,ay⟩;have:=Row.new (w.alloc (.cells cs 111)) #[.slice (some (w.heap.size,0)) 64 64] 109;rw[World.size_alloc]at this;exact this
theorem ta(w:World):Calls prog 43 #[.int .i64 64] w (fun e w'=>e=.returned (.tuple #[(w.heap.size+1,0),.nilIface])/\eP w' (w.heap.size+1) w.heap.size []/\Ch ag w w'):=by
 obtain⟨b,d,h,i,j⟩:=info_parts g';have f:=run_make (P:=prog) w 35 22 b _ underlying35 d h .i64 .i64 64 64 (by omega) (by omega) (by rw[j];decide) (by omega);obtain⟨cs,a⟩:=nm (madeCells (Value.int .u64 0).cells ((64:Int).toNat*b.size));rw[a]at f;rw[i]at a;have c:=Z a;go_wp2
 go_ret2;have g:Row (w.alloc (.cells cs 22)) w.heap.size 22 ((List.replicate 64 (0:Int)).map (Value.int .u64)):=by
  have:=Row.new w cs 22;rw[<-c]at this⊢;rw[List.map_replicate,<-oE (.int .u64 0) 64];exact this
 refine⟨by simp,⟨List.replicate 64 0,0,⟨?_,g.alloc _,by simp,by omega,by simp⟩,by simp⟩,ay⟩;have:=Row.new (w.alloc (.cells cs 22)) #[.slice (some (w.heap.size,0)) 64 64,.int .i64 0,.int .i64 0] 197;rw[World.size_alloc]at this;exact this
theorem q6(m fr tt:Nat)(h:fr<=tt)(c:tt<=1000000)(w:World):Calls prog 83 #[(m,0),.int .i64 fr,.int .i64 tt] w (fun e w'=>e=.returned (.tuple #[(w.heap.size,0),.nilIface])/\aT w' w.heap.size m (.slice none 0 0) ⟨fr,tt,[]⟩/\Ch ag w w'):=by
 have a:(fr:Int)<=(tt:Int):=by omega
 have b:¬(tt:Int)<(fr:Int):=by omega
 go_wp2
 go_ret2;exact⟨rfl,⟨Row.new w #[(m,0),.int .i64 fr,.int .i64 tt,.slice none 0 0] 272,rfl,Or.inl ⟨rfl,rfl⟩⟩,ay⟩
theorem pf(w:World):Calls prog 44 #[.int .i64 8] w (fun e w'=>∃qb lb mb,e=.returned (.tuple #[.pointer (some ⟨qb,0,none⟩),.nilIface])/\iE w' qb lb mb (List.replicate 8 [])/\w.heap.size<=qb/\w.heap.size<=lb/\w.heap.size<=mb/\Ch ag w w'):=by
 obtain⟨d,g,n,o,p⟩:=info_parts CQ;have j:=run_make (P:=prog) w 199 247 d _ underlying199 g n .i64 .i64 8 8 (by omega) (by omega) (by rw[p];decide) (by omega);obtain⟨cs,a⟩:=nm (madeCells (Value.agg #[.pointer none,.pointer none]).cells ((8:Int).toNat*d.size));rw[a]at j;rw[o]at a;have f:=Z a;have q:= @run_makeMap prog;go_wp2
 go_ret2;have i:=iu (enc:=fun _:Unit=>[Value.pointer none,Value.pointer none]) (k:=2) (fun _=>rfl) (by omega) () #[.pointer none,.pointer none] rfl 8;have m:Row (w.alloc (.cells cs 247)) w.heap.size 247 ((List.replicate 8 ([]:List Sl)).flatMap bV):=by
  have:=Row.new w cs 247;rw[<-f]at this⊢;rw[show(List.replicate 8 ([]:List Sl)).flatMap bV=(List.replicate 8 ()).flatMap (fun _:Unit=>[Value.pointer none,Value.pointer none])from rfl,<-i];exact this
 have b:∀(k:Nat) (l:List Sl),(List.replicate 8 ([]:List Sl))[k]?=some l->l=[]:=fun k l h=>by
  have:=List.mem_of_getElem? h;simpa using this
 refine⟨w.heap.size+2,w.heap.size,w.heap.size+1,by simp,⟨?_,(m.alloc _).alloc _,by simp,?_,⟨[],⟨#[],0,?_,rfl⟩,List.nodup_nil,fun id=>rfl⟩,by simp,by simp,?_⟩,by omega,by omega,by omega,ay⟩
 ·have:=Row.new ((w.alloc (.cells cs 247)).alloc (.map #[] 0)) #[.slice (some (w.heap.size,0)) 8 8,.map (some (w.heap.size+1))] 202
  rw[World.size_alloc,World.size_alloc]at this;exact this
 ·intro k l h;rw[b k l h];trivial
 ·rw[Below.heap_alloc _ _ _ (by simp)]
  have:=heap_alloc_new (w.alloc (.cells cs 247)) (.map #[] 0);rw[World.size_alloc]at this;exact this
 ·intro k l h s c;rw[b k l h]at c;cases c
def aI.new(n:Nat):aI:=⟨List.replicate n 0,List.replicate n 0⟩
theorem aO.new{w:World}{m c d n:Nat}(f:n<=65536)(a:Row w m 255 [.slice (some (c,0)) n n,.slice (some (d,0)) n n,.int .i64 0,.int .i64 0])
 (b:Row w c 22 (List.replicate n (.int .u64 0))) (e:Row w d 5 (List.replicate n (.int .u8 0))):aO w m c d (aI.new n) where
 hd:=⟨_,_,by unfold aI.new;simpa using a⟩
 cells:=by unfold aI.new;simpa using b
 width:=by unfold aI.new;simpa using e
 len:=by simp[aI.new]
 qg:=by simpa[aI.new]using f
 ok:=fun i x h=>by
  have:=List.mem_of_getElem? h;simp[aI.new]at this;omega
 u64:=fun i x h=>by
  have:=List.mem_of_getElem? h;simp[aI.new]at this;rw[this.2];exact⟨by decide,by decide⟩
def EL(n:Nat)(w:World)(e:Ending)(w':World):Prop:=∃m c d,e=.returned (.tuple #[.pointer (some ⟨m,0,none⟩),.nilIface])/\aO w' m c d (aI.new n)/\w.heap.size<=m/\w.heap.size<=c/\w.heap.size<=d/\Ch ag w w'
theorem uP(n:Nat)(x:1<=n)(k:n<=65536)(w:World):Calls prog 79 #[.int .i64 n] w (EL n w):=by
 obtain⟨i,o,t,u,v⟩:=info_parts g';obtain⟨j,p,q,r,s⟩:=info_parts EK;have g:=fun w=>run_make (P:=prog) w 35 22 i _ underlying35 o t .i64 .i64 (n:Int) (n:Int) (by omega) (by omega) (by rw[v];omega) (by omega)
 have h:=fun w=>run_make (P:=prog) w 253 5 j _ underlying253 p q .i64 .i64 (n:Int) (n:Int) (by omega) (by omega) (by rw[s];omega) (by omega)
 simp only[Int.toNat_natCast]at g h;obtain⟨cs,e⟩:=nm (madeCells (Value.int .u64 0).cells (n*i.size));obtain⟨a,f⟩:=nm (madeCells (Value.int .u8 0).cells (n*j.size));have l:cs.toList=List.replicate n (.int .u64 0):=by
  rw[<-e,u,Nat.mul_one];exact oE (.int .u64 0) n
 have m:a.toList=List.replicate n (.int .u8 0):=by
  rw[<-f,r,Nat.mul_one];exact oE (.int .u8 0) n
 simp only[e]at g;simp only[f]at h;have b:=Z l;have c:=Z m;have y:(1:Int)<=n:=by omega
 have z:(n:Int)<=65536:=by omega
 have d:=Z k;go_wp2
 go_region
 all_goals
  go_wp2
  go_ret2
 ·refine⟨w.heap.size+1+1,w.heap.size,w.heap.size+1,rfl,aO.new d ?_ ?_ ?_,by omega,by omega,by omega,ay⟩
  ·have:=Row.new ((w.alloc (.cells cs 22)).alloc (.cells a 5)) #[.slice (some ⟨w.heap.size,0,none⟩) n n,.slice (some ⟨w.heap.size+1,0,none⟩) n n,.int .i64 0,.int .i64 0] 255
   rw[World.size_alloc,World.size_alloc]at this;exact this
  ·have:=Row.new w cs 22
   rw[b]at this;exact(this.alloc _).alloc _
  ·have:=Row.new (w.alloc (.cells cs 22)) a 5
   rw[c,World.size_alloc]at this;exact this.alloc _
 ·refine⟨w.heap.size+1+1,w.heap.size+1,w.heap.size,rfl,aO.new d ?_ ?_ ?_,by omega,by omega,by omega,ay⟩
  ·have:=Row.new ((w.alloc (.cells a 5)).alloc (.cells cs 22)) #[.slice (some ⟨w.heap.size+1,0,none⟩) n n,.slice (some ⟨w.heap.size,0,none⟩) n n,.int .i64 0,.int .i64 0] 255
   rw[World.size_alloc,World.size_alloc]at this;exact this
  ·have:=Row.new (w.alloc (.cells a 5)) cs 22
   rw[b,World.size_alloc]at this;exact this.alloc _
  ·have:=Row.new w a 5
   rw[c]at this;exact(this.alloc _).alloc _
variable{n:Int}{k:Nat}{r:Bool}
theorem Ch.fresh{D:Nat->Prop}{w a b:World}(c:Ch ag w a)(d:Ch D a b)(f:∀i,i<w.heap.size->¬D i):Ch ag w b:=
 ⟨d.os.trans c.os,d.tape.trans c.tape,d.output.trans c.output,Nat.le_trans c.size d.size,fun j e g=>(d.same j (Nat.lt_of_lt_of_le e c.size) (f j e)).trans (c.same j e g)⟩
def jw(l:List be)(cg:Bool):Bool:=decide (l.length<=2048)&&(gQ l.length cg l 0).isNone
theorem lh(l:List be)(a:Option Addr)(c:Nat)(cg:Bool)(d:l.length<=c)(w:World)(f:l≠[]->∃g,a=some ⟨g,0,none⟩/\fN w g l)
 (e:w.cell? (0,0)=some (.iface 346 (.agg #[(4,80)]))) (b:jw l cg=true):
 Calls prog 73 #[.slice a l.length c,.bool cg] w (tc true w):=by
 unfold jw at b;rw[Bool.and_eq_true,decide_eq_true_eq]at b;exact td l a c cg b.1 d w f e (Option.isNone_iff_eq_none.1 b.2)
def jg(k:Int):Bool:=decide (0<=k/\k<=7)
def gC(n:Int)(s:List Bool)(r:bB):Bool:=(decide (1<=r.num/\r.num<=999)&& !(s.getD r.num.toNat false)&&decide (0<=r.at_/\r.at_<n))&&(jg r.k0&&jg r.k1&&jg r.k2&&jg r.k3)
def jx(n:Int):List bB->List Bool->Bool
 |[],_=>true
 |r::l,s=>gC n s r&&jx n l (s.set r.num.toNat true)
def fG(l:List be)(loop:Int)(calls:List bB):Bool:=decide (l.length≠0)&&jw l true&&decide (0<=loop/\loop<l.length)&&jx l.length calls (List.replicate 1000 false)
def fH(n:Int)(calls:List bB)(k:Nat)(s:List Bool)(r:Bool):Prop:=s.length=1000/\jx n (calls.drop k) s=r
theorem fH.next{calls:List bB}{s:List Bool}{X:bB}(h:fH n calls k s r)(a:calls[k]?=some X)(d:gC n s X=true):fH n calls (k+1) (s.set X.num.toNat true) r:=by
 refine⟨by simpa using h.1,?_⟩;obtain⟨c,b⟩:=List.getElem?_eq_some_iff.1 a;rw[<-h.2,List.drop_eq_getElem_cons c,b,jx,d,Bool.true_and]
theorem fH.bad{calls:List bB}{s:List Bool}{X:bB}(h:fH n calls k s r)(a:calls[k]?=some X)(d:gC n s X=false):r=false:=by
 obtain⟨c,b⟩:=List.getElem?_eq_some_iff.1 a;rw[<-h.2,List.drop_eq_getElem_cons c,b,jx,d,Bool.false_and]
theorem fH.all{calls:List bB}{s:List Bool}(h:fH n calls k s r)(a:calls.length<=k):r=true:=by
 rw[<-h.2,List.drop_eq_nil_of_le a];rfl
theorem G9(a b c d:Int):([a,b,c,d].drop 0).all jg=(jg a&&([a,b,c,d].drop 1).all jg):=rfl
theorem G'(a b c d:Int):([a,b,c,d].drop 1).all jg=(jg b&&([a,b,c,d].drop 2).all jg):=rfl
theorem Ha(a b c d:Int):([a,b,c,d].drop 2).all jg=(jg c&&([a,b,c,d].drop 3).all jg):=rfl
theorem Hb(a b c d:Int):([a,b,c,d].drop 3).all jg=(jg d&&([a,b,c,d].drop 4).all jg):=rfl
theorem EM(a b c d:Int)(W:World):(Instr.index 119 (.agg #[a,b,c,d]) (.int .i64 0)).run prog W=.ok (.int .i64 a) W:=by kernel_rfl
theorem EN(a b c d:Int)(W:World):(Instr.index 119 (.agg #[a,b,c,d]) (.int .i64 1)).run prog W=.ok (.int .i64 b) W:=by kernel_rfl
theorem EO(a b c d:Int)(W:World):(Instr.index 119 (.agg #[a,b,c,d]) (.int .i64 2)).run prog W=.ok (.int .i64 c) W:=by kernel_rfl
theorem EP(a b c d:Int)(W:World):(Instr.index 119 (.agg #[a,b,c,d]) (.int .i64 3)).run prog W=.ok (.int .i64 d) W:=by kernel_rfl
theorem mQ(l:List be)(J:Option Addr)(lc:Nat)(loop:Int)(calls:List bB)(a1:Option Addr)(c9:Nat)(cA:l.length<=lc)(g3:calls.length<=100000)(w:World)(Q:l≠[]->∃g,J=some ⟨g,0,none⟩/\fN w g l)
 (cQ:calls≠[]->∃g I,a1=some ⟨g,0,none⟩/\Row w g 121 (calls.flatMap bB.cells++I))
 (O:w.cell? (0,0)=some (.iface 346 (.agg #[(4,80)]))) (Y:fG l loop calls=true):
 Calls prog 40 #[.agg #[.slice J l.length lc,loop,.slice a1 calls.length c9]] w (tc (fG l loop calls) w):=by
 obtain⟨w1,c7⟩:=nm (w.alloc (.cells #[.slice J l.length lc,loop,.slice a1 calls.length c9] 62));have a2:=Z (Ch.al (D:=ag) c7);have eV:Hid (l≠[]->∃g,J=some ⟨g,0,none⟩/\fN w1 g l):=Z (fun h=>by obtain⟨g,e,O⟩:=Q h;exact⟨g,e,O.ch a2 id⟩);have eS:Hid (calls≠[]->∃g I,a1=some ⟨g,0,none⟩/\Row w1 g 121 (calls.flatMap bB.cells++I)):=Z (fun h=>by obtain⟨g,I,e,O⟩:=cQ h;exact⟨g,I,e,O.ch a2 id⟩);have ch:Hid (w1.cell? (0,0)=some (.iface 346 (.agg #[(4,80)]))):=Z (a2.k O);have cC:jw l true=true:=by
  unfold fG at Y;simp only[Bool.and_eq_true]at Y;exact Y.1.1.2
 have av:=Z (lh l J lc true cA w1 eV ch cC);have a3:=Z (Row.al c7);obtain⟨N,V⟩:=mn l.length;obtain⟨M,a4⟩:=mn calls.length;obtain⟨kk,a9⟩:=nm (fG l loop calls);obtain⟨u,dN⟩:=nm (jw l true);obtain⟨q,c3⟩:=nm (jx N calls (List.replicate 1000 false));have K:Hid (kk=(decide (N≠0)&&u&&decide (0<=loop/\loop<N)&&q)):=Z (by rw[<-a9,V,<-dN,<-c3,V];rfl);have eC:Hid (fH N calls 0 (List.replicate 1000 false) q):=Z ⟨by simp,by rw[List.drop_zero];exact c3⟩;have bi:=Z a4;have t:Hid (kk=true):=Z (a9.symm.trans Y);rw[a9];rw[<-V,<-a4]at a3 c7⊢;rw[<-V]at av;rw[<-a4]at g3;clear Q cQ O cA V a4 a9 dN c3 Y cC;obtain⟨t0,t1,t2⟩:=a3.c3;by_cases g2:N=0
 ·have E:Hid (kk=false):=Z (by rw[K.out,decide_eq_false (by omega)];rfl)
  cases t.symm.trans E
 have ge:(N==0)=false:=by simpa using g2
 cases u
 ·have E:Hid (kk=false):=Z (by rw[K.out,Bool.and_false];rfl)
  cases t.symm.trans E
 by_cases P:¬(0<=loop/\loop<(N:Int))
 ·have E:Hid (kk=false):=Z (by rw[K.out,decide_eq_false P,Bool.and_false];rfl)
  cases t.symm.trans E
 have P:=Decidable.not_not.1 P;have E:Hid (kk=q):=Z (by rw[K.out,decide_eq_true (by omega),decide_eq_true P];simp);have cW:decide (0<=loop/\loop<(N:Int))=true:=decide_eq_true P;have bv:=Z (fun w=>l6 loop N w);rw[cW]at bv;clear cW P K;go_in
 go_wp2_with (first|(go_at_call 73;refine av.mono ?_;rintro e w2 ⟨⟨y,rfl,c8⟩,c0⟩;obtain rfl:y=.nilIface:=c8;have ad:=Z c0;have bw:=Z (a3.ch c0 id);obtain⟨g7,g8,g9⟩:=bw.c3;clear c0 t0 t1 t2)|(go_at_call 74;refine(bv _).mono ?_;rintro e et ⟨⟨y,rfl,c8⟩,c1⟩;have al:=Z c1;obtain rfl:y=.nilIface:=c8;have bx:=Z (bw.ch c1 id);have cl:=Z (bx.alloc (.cells Tryz.zeroCells190 190));obtain⟨ej,en,es⟩:=cl.c3;clear c1 g7 g8 g9))
 have ex:Hid (Tryz.zeroCells190.toList=(List.replicate 1000 false).map Value.bool):=Z (by kernel_rfl);obtain⟨w4,R⟩:=nm (et.alloc (.cells Tryz.zeroCells190 190));obtain⟨d,a0⟩:=nm et.heap.size;have ci:Hid (Row w4 d 190 ((List.replicate 1000 false).map Value.bool)):=Z (by rw[<-R,<-a0,<-ex];exact Row.new _ _ _);have am:Hid (Ch ag w w4):=Z (by rw[<-R];exact((a2.trans ad).trans al).alloc _);have L:Hid (w.heap.size<d/\w1.heap.size<=d/\d<w4.heap.size):=Z (by
  refine⟨by rw[<-a0];exact bx.lt,by rw[<-a0];exact(ad.trans al).size,ci.lt⟩)
 have cd:Hid (Ch ag w1 w4):=Z (by rw[<-R];exact(ad.trans al).alloc _);have cm:Hid (Row w4 w.heap.size 62 [.slice J N lc,loop,.slice a1 M c9]):=Z (a3.ch cd id);rw[R,a0];rw[R]at ej en es;clear cl bx bw bv av ch R a0 ej en es;go_loopg [34] (M+1) (fun gk i wr=>∃(k:Nat) (s:List Bool),k<=M/\gk=M-k+1/\i=.int .i64 k/\Hid (fH N calls k s q)/\Hid (Row wr d 190 (s.map Value.bool))/\Hid (Ch (aH d) w4 wr))
 case atStart=>exact⟨0,_,by omega,by omega,rfl,eC,ci,Z ay⟩
 case round=>
  obtain⟨k,s,cL,rfl,rfl,o,T,C⟩:=hrel;by_cases cS:k<M
  ·obtain⟨X,W⟩:∃X,calls[k]?=some X:=⟨_,List.getElem?_eq_getElem (by rw[<-bi];exact cS)⟩
   have z:=Z W;obtain⟨g,I,rfl,c6⟩:=eS (by intro e;rw[e]at W;cases W);have dC:=c6.ch (cd) id;have dr:Hid (Row wr g 121 (calls.flatMap bB.cells++I)):=Z (dC.ch C (fun e=>by have G:g=d:=e;have cs:=c6.lt;have U:=L.2.1;omega));have H:∀j v,j<6->X.cells[j]?=some v->wr.cell? ⟨g,k*6+j,none⟩=some v:=fun j v a5 g5=>dr.out.cell (by
    rw[List.getElem?_append_left (by
     have G:=List.length_flatMap (f:=bB.cells) (l:=calls);have cs:(calls.flatMap bB.cells).length=calls.length*6:=by
      rw[G];simp only[bB.len];rw[List.map_const',List.sum_replicate_nat]
     rw[cs,<-bi];have:(k+1)*6<=M*6:=Nat.mul_le_mul_right _ cS;omega)]
    exact(bJ bB.len W a5).trans g5)
   obtain⟨num,at_,k0,k1,k2,k3⟩:=X;have cq:=H 0 _ (by omega) rfl;have fd:=H 1 _ (by omega) rfl;have fn:=H 2 _ (by omega) rfl;have fr:=H 3 _ (by omega) rfl;have fz:=H 4 _ (by omega) rfl;have g0:=H 5 _ (by omega) rfl;rw[Nat.add_zero]at cq;have g6:wr.cell? ⟨w.heap.size,0,none⟩=some (.slice J N lc):=(cm.ch C (fun e=>by have G:w.heap.size=d:=e;have U:=L.1;omega)).cell (i:=0) rfl;have cL:(k:Int)<M:=(by omega);have g4:g<wr.heap.size/\w.heap.size<wr.heap.size/\d<wr.heap.size:=⟨dr.out.lt,(cm.ch C (fun e=>by have G:w.heap.size=d:=e;have U:=L.1;omega)).lt,T.lt⟩;obtain⟨gt,hd,he⟩:=g4;clear H W c6 dC;have ap:Hid (Ch ag w wr):=Z (am.fresh C (fun b hb e=>by have G:b=d:=e;have U:=L.1;omega));by_cases hf:num<1
   ·have B:Hid (gC N s ⟨num,at_,k0,k1,k2,k3⟩=false):=Z (by unfold gC;dsimp only;rw[decide_eq_false (by omega)];rfl)
    have a:Hid (kk=false):=Z (E.trans (o.bad z B));cases t.symm.trans a
   by_cases hi:999<num
   ·have B:Hid (gC N s ⟨num,at_,k0,k1,k2,k3⟩=false):=Z (by unfold gC;dsimp only;rw[decide_eq_false (by omega)];rfl)
    have a:Hid (kk=false):=Z (E.trans (o.bad z B));cases t.symm.trans a
   obtain⟨m,rfl⟩:∃m:Nat,num=m:=⟨num.toNat,by omega⟩;have gs:(m:Int)<1000:=(by omega);have gr:m<1000:=(by omega);have go:(0:Int)<=m:=(by omega);obtain⟨b,hb⟩:∃b,s[m]?=some b:=⟨_,List.getElem?_eq_getElem (by rw[o.1];omega)⟩;have g1:wr.cell? (d,m)=some (.bool b):=T.cell (by rw[List.getElem?_map,hb];rfl);have S:Hid (s.getD (m:Int).toNat false=b):=Z (by rw[Int.toNat_natCast,List.getD_eq_getElem?_getD,hb];rfl);clear hb;have a5:decide (1<=(m:Int)/\(m:Int)<=999)=true:=decide_eq_true (by omega);have c:=Z a5;clear a5;cases b
   rotate_left
   ·have B:Hid (gC N s ⟨m,at_,k0,k1,k2,k3⟩=false):=Z (by unfold gC;dsimp only;rw[c,S];rfl)
    have a:Hid (kk=false):=Z (E.trans (o.bad z B));cases t.symm.trans a
   by_cases hm:at_<0
   ·have B:Hid (gC N s ⟨m,at_,k0,k1,k2,k3⟩=false):=Z (by unfold gC;dsimp only;rw[c,S,decide_eq_false (p:=0<=at_/\at_<(N:Int)) (by omega)];rfl)
    have a:Hid (kk=false):=Z (E.trans (o.bad z B));cases t.symm.trans a
   by_cases hn:(N:Int)<=at_
   ·have B:Hid (gC N s ⟨m,at_,k0,k1,k2,k3⟩=false):=Z (by unfold gC;dsimp only;rw[c,S,decide_eq_false (p:=0<=at_/\at_<(N:Int)) (by omega)];rfl)
    have a:Hid (kk=false):=Z (E.trans (o.bad z B));cases t.symm.trans a
   have A:Hid (gC N s ⟨m,at_,k0,k1,k2,k3⟩=[k0,k1,k2,k3].all jg):=Z (by unfold gC;dsimp only;rw[c,S,decide_eq_true (p:=0<=at_/\at_<(N:Int)) (by omega)];simp[Bool.and_assoc]);clear c S;have fb:=T.free m;go_wp2
   obtain⟨cb,ab⟩:=mn (((wr.setCell (d,m) (.bool true)).alloc (.cells #[.int .i64 m,at_,k0,k1,k2,k3] 121)));have ce:Hid (Ch (aH d) w4 cb):=Z (by rw[ab];exact(C.only _ _).alloc _);have eW:Hid (Row cb d 190 ((s.set m true).map Value.bool)):=Z (by rw[ab,List.map_set];exact(T.set _ _).alloc _);have gc:Hid (Ch ag w cb):=Z (am.fresh ce (fun b hb e=>by have G:b=d:=e;have U:=L.1;omega));rw[<-ab];clear ab cq fd fn fr fz g0 g6 g1 fb T C ap;obtain⟨r,Q⟩:=nm ([k0,k1,k2,k3].all jg);rw[Q]at A;have eL:Hid (([k0,k1,k2,k3].drop 0).all jg=r):=Z Q;clear Q;go_loop [74] (fun s=>∃j:Nat,s=.int .i64 j/\j<=4/\Hid (([k0,k1,k2,k3].drop j).all jg=r)) (fun s=>4-(intOf s).toNat)
   case atStart=>exact⟨0,rfl,by omega,eL⟩
   case round=>
    obtain⟨j,rfl,gf,c⟩:=hrel;obtain rfl|rfl|rfl|rfl|rfl:j=0∨j=1∨j=2∨j=3∨j=4:=by omega
    ·have c2:=EM k0 k1 k2 k3
     by_cases c4:k0<0
     ·have x:Hid (r=false):=Z (by rw[<-c,G9,show jg k0=false from decide_eq_false (show¬(0<=k0/\k0<=7)by omega)];rfl)
      have a:Hid (kk=false):=Z (E.trans (o.bad z (A.trans x)));cases t.symm.trans a
     by_cases c5:7<k0
     ·have x:Hid (r=false):=Z (by rw[<-c,G9,show jg k0=false from decide_eq_false (show¬(0<=k0/\k0<=7)by omega)];rfl)
      have a:Hid (kk=false):=Z (E.trans (o.bad z (A.trans x)));cases t.symm.trans a
     have F:Hid (([k0,k1,k2,k3].drop 1).all jg=r):=Z (by rw[<-c,G9,show jg k0=true from decide_eq_true (show(0<=k0/\k0<=7)by omega)];rfl);go_wp2
     go_round
     case rel=>exact⟨1,rfl,by omega,F⟩
     case measure=>simp[intOf]
    ·have c2:=EN k0 k1 k2 k3
     by_cases c4:k1<0
     ·have x:Hid (r=false):=Z (by rw[<-c,G',show jg k1=false from decide_eq_false (show¬(0<=k1/\k1<=7)by omega)];rfl)
      have a:Hid (kk=false):=Z (E.trans (o.bad z (A.trans x)));cases t.symm.trans a
     by_cases c5:7<k1
     ·have x:Hid (r=false):=Z (by rw[<-c,G',show jg k1=false from decide_eq_false (show¬(0<=k1/\k1<=7)by omega)];rfl)
      have a:Hid (kk=false):=Z (E.trans (o.bad z (A.trans x)));cases t.symm.trans a
     have F:Hid (([k0,k1,k2,k3].drop 2).all jg=r):=Z (by rw[<-c,G',show jg k1=true from decide_eq_true (show(0<=k1/\k1<=7)by omega)];rfl);go_wp2
     go_round
     case rel=>exact⟨2,rfl,by omega,F⟩
     case measure=>simp[intOf]
    ·have c2:=EO k0 k1 k2 k3
     by_cases c4:k2<0
     ·have x:Hid (r=false):=Z (by rw[<-c,Ha,show jg k2=false from decide_eq_false (show¬(0<=k2/\k2<=7)by omega)];rfl)
      have a:Hid (kk=false):=Z (E.trans (o.bad z (A.trans x)));cases t.symm.trans a
     by_cases c5:7<k2
     ·have x:Hid (r=false):=Z (by rw[<-c,Ha,show jg k2=false from decide_eq_false (show¬(0<=k2/\k2<=7)by omega)];rfl)
      have a:Hid (kk=false):=Z (E.trans (o.bad z (A.trans x)));cases t.symm.trans a
     have F:Hid (([k0,k1,k2,k3].drop 3).all jg=r):=Z (by rw[<-c,Ha,show jg k2=true from decide_eq_true (show(0<=k2/\k2<=7)by omega)];rfl);go_wp2
     go_round
     case rel=>exact⟨3,rfl,by omega,F⟩
     case measure=>simp[intOf]
    ·have c2:=EP k0 k1 k2 k3
     by_cases c4:k3<0
     ·have x:Hid (r=false):=Z (by rw[<-c,Hb,show jg k3=false from decide_eq_false (show¬(0<=k3/\k3<=7)by omega)];rfl)
      have a:Hid (kk=false):=Z (E.trans (o.bad z (A.trans x)));cases t.symm.trans a
     by_cases c5:7<k3
     ·have x:Hid (r=false):=Z (by rw[<-c,Hb,show jg k3=false from decide_eq_false (show¬(0<=k3/\k3<=7)by omega)];rfl)
      have a:Hid (kk=false):=Z (E.trans (o.bad z (A.trans x)));cases t.symm.trans a
     have F:Hid (([k0,k1,k2,k3].drop 4).all jg=r):=Z (by rw[<-c,Hb,show jg k3=true from decide_eq_true (show(0<=k3/\k3<=7)by omega)];rfl);go_wp2
     go_round
     case rel=>exact⟨4,rfl,by omega,F⟩
     case measure=>simp[intOf]
    ·have eA:Hid (gC N s ⟨m,at_,k0,k1,k2,k3⟩=true):=Z (A.trans c.symm)
     go_wp2
     go_roundg (M-k)
     case measure=>omega
     case rel=>exact⟨k+1,_,by omega,by omega,by go_num,Z (o.next z eA),eW,ce⟩
  ·skip
   have a:Hid (kk=true):=Z (E.trans (o.all (by rw[<-bi];omega)));have ap:Hid (Ch ag w wr):=Z (am.fresh C (fun b hb e=>by have G:b=d:=e;have U:=L.1;omega));have cL:¬(k:Int)<M:=(by omega);go_wp2
   go_ret;rw[a];exact⟨⟨_,rfl,rfl⟩,ap⟩
def eQ(l:List be)(en wi na:Int):Bool:=
 decide (0<=wi/\0<=na/\wi<=256/\na<=256-wi/\l.length≠0)&&jw l false&&decide (0<=en/\en<l.length)
theorem mR(l:List be)(a:Option Addr)(c:Nat)(en wi na:Int)(C:l.length<=c)(w:World)(I:l≠[]->∃g,a=some ⟨g,0,none⟩/\fN w g l)
 (j:w.cell? (0,0)=some (.iface 346 (.agg #[(4,80)]))) (f:eQ l en wi na=true):
 Calls prog 41 #[.agg #[.slice a l.length c,en,wi,na]] w (tc (eQ l en wi na) w):=by
 obtain⟨w1,v⟩:=nm (w.alloc (.cells #[.slice a l.length c,en,wi,na] 45));have o:=Z (Ch.al (D:=ag) v);have P:Hid (l≠[]->∃g,a=some ⟨g,0,none⟩/\fN w1 g l):=Z (fun h=>by obtain⟨g,e,j⟩:=I h;exact⟨g,e,j.ch o id⟩);have O:Hid (w1.cell? (0,0)=some (.iface 346 (.agg #[(4,80)]))):=Z (o.k j);have G:jw l false=true:=by
  unfold eQ at f;simp only[Bool.and_eq_true]at f;exact f.1.2
 have x:=Z (lh l a c false C w1 P O G);have q:=Z (Row.al v);obtain⟨N,s⟩:=mn l.length;obtain⟨k,m⟩:=nm (eQ l en wi na);obtain⟨u,J⟩:=nm (jw l false);have H:k=(decide (0<=wi/\0<=na/\wi<=256/\na<=256-wi/\N≠0)&&u&&decide (0<=en/\en<N)):=by rw[<-m,s,<-J];rfl
 have b:Hid (k=true):=Z (m.symm.trans f);rw[m];rw[<-s]at x q v⊢;clear I j C s m J f G;obtain⟨t0,t1,t2,t3⟩:=q.c4;have K:Hid (k=(decide (0<=wi/\0<=na/\wi<=256/\na<=256-wi/\N≠0)&&u&&decide (0<=en/\en<N))):=Z H;clear H;have R:wi<0∨(¬wi<0/\na<0)∨(¬wi<0/\¬na<0/\256<wi)∨(¬wi<0/\¬na<0/\¬256<wi/\256-wi<na)∨(¬wi<0/\¬na<0/\¬256<wi/\¬256-wi<na/\N=0)∨(¬wi<0/\¬na<0/\¬256<wi/\¬256-wi<na/\N≠0):=by omega
 rcases R with d|⟨d,i⟩|⟨d,i,r⟩|⟨d,i,r,A⟩|⟨d,i,r,A,B⟩|⟨d,i,r,A,B⟩
 ·have E:Hid (k=false):=Z (by rw[K.out,decide_eq_false (by omega)];rfl)
  cases b.symm.trans E
 ·have E:Hid (k=false):=Z (by rw[K.out,decide_eq_false (by omega)];rfl)
  cases b.symm.trans E
 ·have E:Hid (k=false):=Z (by rw[K.out,decide_eq_false (by omega)];rfl)
  cases b.symm.trans E
 ·have E:Hid (k=false):=Z (by rw[K.out,decide_eq_false (by omega)];rfl)
  cases b.symm.trans E
 ·have E:Hid (k=false):=Z (by rw[K.out,decide_eq_false (by omega)];rfl)
  cases b.symm.trans E
 ·have T:IntKind.i64.wrap (256-wi)=256-wi:=IntWalk.i64_in _ (by omega)
  have E:Hid (k=(u&&decide (0<=en/\en<N))):=Z (by rw[K.out,decide_eq_true (by omega),Bool.true_and]);have S:(N==0)=false:=by simpa using B
  cases u
  ·have p:Hid (k=false):=Z (by rw[E];rfl)
   cases b.symm.trans p
  ·have p:Hid (k=decide (0<=en/\en<N)):=Z (by rw[E,Bool.true_and])
   go_in
   go_wp2_with (first|(go_at_call 73;refine x.mono ?_;rintro e w2 ⟨⟨y,rfl,n⟩,t⟩;obtain rfl:y=.nilIface:=n;have L:=Z t;have z:=q.ch t id;obtain⟨U,V⟩:=z.c2;clear t z t0 t1 t2 t3)|(go_at_call 74;refine(l6 _ _ _).mono ?_;rintro e W ⟨⟨y,rfl,n⟩,F⟩;have M:=Z F;have Q:=Z n;clear F n))
   go_ret;rw[p];exact⟨⟨_,rfl,Q⟩,(o.trans L).trans M⟩
def hD(χ:Nat->a'):Prop:=∀i,χ i≠ .out
theorem ae.Ge(h:ae w χ L Y C K){id:Int}(D:aw K.ai id=none){f:Frame}{bv:Value}{fb g tb:Nat}(G:aJ w fb 0 169 [] f.post bv f.f)(F:bv.ownBlock=none)
 (H:w.ownsRow 0 167 1 (.slice (some (g,0)) 1 1) 1 [bk fb]) (I:Row w tb 164 [.int .u64 id,.slice (some (g,0)) 1 1,.int .u64 0]) (o:χ fb=.no) (p:χ g=.no) (r:χ tb=.no) (Q:g≠fb) (U:tb≠fb) (R:g≠tb)
 (S:bS w' L.tm .u64 bk (cn (K.ai.map fun x=>(x.1,Y.bI x.1)) id tb)) (c:Ch (aH L.tm) w w'):
 ∃aY Y',ae w' aY L Y' C {K with ai:=cn K.ai id ⟨id,[f],0⟩}/\(∀i,i<w.heap.size->χ i≠ .no->aY i=χ i)/\(∀i,aY i≠ .no->χ i≠ .no∨i=fb∨i=g∨i=tb)/\Yk K Y Y'/\(hD χ->hD aY):=by
 have B:=h.tm (by simp);have s:eT [.tm] χ χ (aH L.tm) w w':=eT.one c (fun i d=>by rw[show i=L.tm from d];simp[B.k]) h.small;have base:=h.step s (by simp);obtain⟨aY,A⟩:∃aY:Nat->a',aY=fun i=>if i=fb then .fr id 0 else if i=g then .tl id else if i=tb then .th id else χ i:=⟨_,rfl⟩
 have a:∀{i:Nat} {k:a'},χ i=k->k≠ .no->aY i=k:=fun {i k} d y=>by
  rw[A];dsimp only;rw[if_neg (fun e=>y (by rw[<-d,e,o])),if_neg (fun e=>y (by rw[<-d,e,p])),if_neg (fun e=>y (by rw[<-d,e,r]))];exact d
 have E:∀{i},χ i=.no->i≠L.tm:=fun {i} d e=>by rw[e,B.k]at d;cases d
 have M:MB [.tm] w' aY L Y C K:={
  head:=fun m=>⟨(base.head (by simp)).row,(base.head (by simp)).rows,a (base.head (by simp)).k (by simp)⟩
  mem:=fun m=>⟨(base.mem (by simp)).is,a (base.mem (by simp)).k1 (by simp),a (base.mem (by simp)).k2 (by simp),a (base.mem (by simp)).k3 (by simp)⟩
  al:=fun m=>⟨(base.al (by simp)).is,a (base.al (by simp)).k1 (by simp),fun q l=>a ((base.al (by simp)).k2 q l) (by simp)⟩
  b2:=fun m=>⟨(base.b2 (by simp)).is,a (base.b2 (by simp)).k1 (by simp),a (base.b2 (by simp)).k2 (by simp),a (base.b2 (by simp)).k3 (by simp),a (base.b2 (by simp)).k4 (by simp),fun q l=>a ((base.b2 (by simp)).k5 q l) (by simp)⟩
  ring:=fun m=>⟨(base.ring (by simp)).is,a (base.ring (by simp)).k1 (by simp),a (base.ring (by simp)).k2 (by simp)⟩
  q:=fun m=>⟨(base.q (by simp)).is,(base.q (by simp)).b1,fun i d=>a ((base.q (by simp)).k i d) (by simp)⟩
  cZ:=fun m=>⟨(base.cZ (by simp)).is,a (base.cZ (by simp)).k1 (by simp),a (base.cZ (by simp)).k2 (by simp)⟩
  obj:=fun m=>⟨(base.obj (by simp)).is,a (base.obj (by simp)).k1 (by simp),a (base.obj (by simp)).k2 (by simp)⟩
  tm:=fun m=>absurd (by simp) m
  th:=fun j u n m=>⟨(base.th j u n (by simp)).is,a (base.th j u n (by simp)).k (by simp)⟩
  tl:=fun j u n m=>⟨(base.tl j u n (by simp)).is,fun q l=>a ((base.tl j u n (by simp)).k q l) (by simp)⟩
  fr:=fun j u k f' n y m=>⟨(base.fr j u k f' n y (by simp)).is,a (base.fr j u k f' n y (by simp)).kf (by simp),fun q l=>a ((base.fr j u k f' n y (by simp)).kb q l) (by simp)⟩
  wk:=fun m=>⟨(base.wk (by simp)).is,a (base.wk (by simp)).k (by simp),(base.wk (by simp)).back,fun i x z q l=>a ((base.wk (by simp)).kb i x z q l) (by simp),(base.wk (by simp)).n⟩
  out:=fun m=>⟨(base.out (by simp)).is,fun q l=>a ((base.out (by simp)).k q l) (by simp)⟩
  code:=fun m=>{
   m4:=(base.code (by simp)).m4
   jo:=(base.code (by simp)).jo
   m5:=(base.code (by simp)).m5
   cg:=fun z=>by obtain⟨q,o,p,r⟩:=(base.code (by simp)).cg z;exact⟨q,o,p,a r (by simp)⟩
   prog:=fun z=>by obtain⟨q,o,p,r⟩:=(base.code (by simp)).prog z;exact⟨q,o,p,a r (by simp)⟩
   calls:=fun z=>by obtain⟨q,j,o,p,r⟩:=(base.code (by simp)).calls z;exact⟨q,j,o,p,a r (by simp)⟩}
  small:=fun i d=>by
   rw[A]at d;dsimp only at d;split at d
   ·rename_i e;rw[e];exact Nat.lt_of_lt_of_le G.row.lt c.size
   ·split at d
    ·rename_i e;rw[e];exact Nat.lt_of_lt_of_le (cE H (g:=g) rfl) c.size
    ·split at d
     ·rename_i e;rw[e];exact Nat.lt_of_lt_of_le I.lt c.size
     ·exact base.small i d}
 have O:=G.ch c (fun e=>E o e) (fun q l=>by rw[F]at l;cases l);have P:=ak H c (fun q l e=>E p (by
  have:g=q:=by simpa[Value.ownBlock]using l
  rw[this];exact e))
 have T:=I.ch c (fun e=>E r e);have N:hD χ->hD aY:=fun J i=>by
  rw[A];dsimp only;split
  ·intro e;cases e
  ·split
   ·intro e;cases e
   ·split
    ·intro e;cases e
    ·exact J i
 refine⟨aY,_,M.FH (t:=⟨id,[f],0⟩) (f:=f) (v:=.slice (some (g,0)) 1 1) (bv':=bv) (b:=tb) (fbk:=fb) D rfl ⟨?_,a B.k (by simp),B.nd.put _ _⟩ ⟨T,?_⟩ ⟨by simpa using P,?_⟩ ⟨O,?_,fun q l=>by rw[F]at l;cases l⟩,fun i d m=>a rfl m,?_,?_,N⟩
 ·rw[<-su _ _ _ _ _ D];exact S
 ·rw[A];dsimp only;rw[if_neg U,if_neg (fun e=>R e.symm),if_pos rfl]
 ·intro q l
  have:g=q:=by simpa[Value.ownBlock]using l
  rw[<-this,A];dsimp only;rw[if_neg Q,if_pos rfl]
 ·rw[A];dsimp only;rw[if_pos rfl]
 ·intro i d
  rw[A]at d;dsimp only at d;split at d
  ·rename_i e;exact Or.inr (Or.inl e)
  ·split at d
   ·rename_i e;exact Or.inr (Or.inr (Or.inl e))
   ·split at d
    ·rename_i e;exact Or.inr (Or.inr (Or.inr e))
    ·exact Or.inl d
 ·intro j u n
  have e:j≠id:=fun e=>by rw[e,D]at n;cases n
  exact⟨if_neg e,fun k _=>if_neg e⟩
def Gf(x:Option Nat)(χ:Nat->a')(L:cU)(Y:Var)(C:KC)(K K':KS)(w:World)(e:Ending)(w':World):Prop:=
 (match x with
  |some a=>e=.returned (.tuple #[.int .i64 a,.nilIface])
  |none=>∃u,e=.returned (.tuple #[.int .i64 0,u])/\ar u)/\∃aY Y',dD χ L Y C K K' w aY Y' w'/\(hD χ->hD aY)
def Gg(x:Option Int)(χ:Nat->a')(L:cU)(Y:Var)(C:KC)(K K':KS)(w:World)(e:Ending)(w':World):Prop:=
 (match x with
  |some a=>e=.returned (.tuple #[.int .u64 a,.nilIface])
  |none=>∃v,e=.returned (.tuple #[.int .u64 0,v])/\ar v)/\∃aY Y',dD χ L Y C K K' w aY Y' w'/\(hD χ->hD aY)
def DK(ok:Bool)(χ:Nat->a')(L:cU)(Y:Var)(C:KC)(K K':KS)(w:World)(e:Ending)(w':World):Prop:=(∃v,e=.returned v/\(if ok then v=.nilIface else ar v))/\∃aY Y',dD χ L Y C K K' w aY Y' w'/\(hD χ->hD aY)
def Gh(v:Value)(χ:Nat->a')(L:cU)(Y:Var)(C:KC)(K K':KS)(w:World)(e:Ending)(w':World):Prop:=e=.returned v/\∃aY Y',dD χ L Y C K K' w aY Y' w'/\(hD χ->hD aY)
theorem p5{χ:Nat->a'}{o:Option Nat}:hD χ->hD (cN χ o .al):=fun h i=>by
 unfold cN;split
 ·intro e;cases e
 ·exact h i
theorem EZ(n:Nat)(f:n<=1000000)(g:K.blocks.Ok)(h:ae w χ L Y C K):Calls prog 85 #[(L.ab,0),.int .i64 n,.int .i64 64] w (Gf (df K.blocks K.mem n).1 χ L Y C K {K with blocks:=(df K.blocks K.mem n).2.1,mem:=(df K.blocks K.mem n).2.2} w):=
 (kJ L.ab L.m L.c L.d Y.av K.blocks K.mem g n f w (h.al (by simp)).is (h.mem (by simp)).is).mono fun _ _ ⟨a,⟨v,b,c⟩,d,e⟩=>⟨a,_,_,h.Cp b c d e,p5⟩
theorem E0(a:Int)(g:K.blocks.Ok)(h:ae w χ L Y C K):Calls prog 87 #[(L.ab,0),a] w (DK (m1 K.blocks K.mem a).1 χ L Y C K (jm K a) w):=
 (kK L.ab L.m L.c L.d Y.av K.blocks K.mem g a w (h.al (by simp)).is (h.mem (by simp)).is).mono fun _ _ ⟨b,⟨v,c,d⟩,e,f⟩=>⟨b,_,_,h.Cp c d e f,p5⟩
theorem p6(home:Int)(h:ae w χ L Y C K):Calls prog 86 #[(L.tb,0),.int .u64 home] w (Gg (dh K.table home).1 χ L Y C K {K with table:=(dh K.table home).2} w):=
 (mE L.tb L.tg K.table home w (h.cZ (by simp)).is).mono fun _ _ ⟨a,b,c⟩=>⟨a,_,_,h.mI b c,fun h=>h⟩
theorem yL(v:Int)(h:ae w χ L Y C K):Calls prog 49 #[(L.rb,0),.int .u64 v] w (DK (hG K.ring v).1 χ L Y C K {K with ring:=(hG K.ring v).2} w):=
 (mF L.rb L.rg K.ring v w (h.ring (by simp)).is).mono fun _ _ ⟨a,b,c⟩=>⟨a,_,_,h.uj b c,fun h=>h⟩
theorem vd(place c:Int)(a1:K.blocks.Ok)(a2:(df K.blocks K.mem 1).2.1.Ok)(bx:∀N id,(dh K.table N).1=some id->aw K.ai id=none)(h:ae w χ L Y C K):
 Calls prog 48 #[(L.mb,0),place,.int .u64 c] w (Gh (.int .u64 (bQ K place c).1) χ L Y C K (bQ K place c).2 w):=by
 have et:=Z h;have B:=h.pd;have M:=Z (EZ 1 (by omega) a1 h);obtain⟨p,O⟩:=nm (df K.blocks K.mem 1);have hle:∀a,p.1=some a->a<=140000:=fun a bw=>ng a1 (by rw[O];exact bw)
 rw[O]at M a2;obtain⟨cC,a9,am⟩:=p;have S:=Z O;have c8:=Z a2;have ce:=Z bx;clear h O a1 a2 bx;cases cC with
 |none=>
  have E:Hid (bQ K place c=(0,{K with blocks:=a9,mem:=am})):=Z (by unfold bQ;rw[S]);clear hle;go_in
  go_wp2_with fail
  refine M.mono ?_;rintro e w1 ⟨⟨u,rfl,a4⟩,dZ,Y1,b,J⟩;have A:=Z J;obtain⟨tt,en,rfl⟩:=a4;have y:=Z b;clear b B;go_wp2
  go_ret;rw[E];exact⟨rfl,dZ,Y1,y,A⟩
 |some a=>
  have bw:=hle a rfl;have eC:IntKind.u64.wrap (a:Int)=a:=by unfold IntKind.wrap IntKind.bits IntKind.signed;simp;omega
  obtain⟨K1,a0⟩:=mn (({K with blocks:=a9,mem:=am}:KS));have j:=Z a0;have eA:(a:Int)<=140000:=by omega
  obtain⟨q,c1⟩:=nm (dh K1.table (a:Int));obtain⟨cA,r⟩:=q;have z:=Z c1;have c9:Hid (K1.blocks.Ok):=Z (by rw[a0];exact c8);clear hle a0 c1;cases cA with
  |none=>
   have E:Hid (bQ K place c=(0,jm {K1 with table:=r} a)):=Z (by
    have:=z.out;rw[j]at this⊢;unfold bQ;rw[S];dsimp only;rw[show dh K.table (a:Int)=(none,r)from this])
   go_in
   go_wp2_with fail
   refine M.mono ?_;rintro e w1 ⟨rfl,dZ,Y1,b,J⟩;have A:=Z J;rw[<-j]at b;have y:=Z b;have V:=b.at_.ee;have n:=p6 (a:Int) b.at_;rw[z]at n;have Q:=Z n;clear b B n;go_wp2_with fail
   refine Q.mono ?_;rintro e w2 ⟨⟨u,rfl,a4⟩,x,ap,m,a5⟩;have U:=Z a5;obtain⟨tt,en,rfl⟩:=a4;have k:=Z (y.trans (Gr.of_eq (by rw[j])) m);have B:=m.at_.pd;clear m V;go_wp2_with fail
   refine(E0 (a:Int) (by exact c9) k.at_).mono ?_;rintro e eS ⟨⟨v,rfl,_⟩,es,cs,av,dN⟩;have cq:=Z dN;have c7:=Z (k.trans (Gr.of_eq (by rw[j])) av);clear av B;go_wp2
   go_ret;rw[E];exact⟨rfl,es,cs,c7,fun h=>cq (U (A h))⟩
  |some id=>
   have c0:aw K.ai id=none:=ce (a:Int) id (by have:=z.out;rw[j]at this;rw[show dh K.table (a:Int)=(some id,r)from this]);have ch:=Z c0;have E:Hid (bQ K place c=(id,{K1 with table:=r,ai:=cn K.ai id ⟨id,[jb place c],0⟩})):=Z (by
    have:=z.out;rw[j]at this⊢;unfold bQ;rw[S];dsimp only;rw[show dh K.table (a:Int)=(some id,r)from this];rfl)
   clear c0;go_in
   go_wp2_with fail
   refine M.mono ?_;rintro e w1 ⟨rfl,dZ,Y1,b,J⟩;have A:=Z J;rw[<-j]at b;have y:=Z b;have V:=b.at_.ee;have n:=p6 (a:Int) b.at_;rw[z]at n;have Q:=Z n;clear b B n;go_wp2_with fail
   refine Q.mono ?_;rintro e w2 ⟨rfl,x,ap,m,a5⟩;have U:=Z a5;have k:=Z (y.trans (Gr.of_eq (by rw[j])) m);have W:=m.at_.hN;have c6:=Z W;clear W;go_upto_region 11 with fail
   obtain⟨d,I⟩:=nm (w2.alloc (.cells #[place,.int .u64 c,.int .u64 0,.int .u64 0,.int .u64 0,.int .u64 0,.int .u64 0,.int .u64 0,.int .u64 0,.int .u64 0,.int .u64 0,.int .u64 0,.int .u64 0,.int .u64 0,.int .u64 0,.int .u64 0,.int .u64 0,.int .u64 0,.int .u64 0,.int .u64 0,.int .u64 0,.int .u64 0,.int .u64 0,.int .u64 0,.int .u64 0,.int .u64 0,.int .u64 0,.int .u64 0,.int .u64 0,.int .u64 0,.int .u64 0,.int .u64 0,.int .u64 0,.slice none 0 0,.bool false,.int .i64 0] 169));have ad:=Z (Ch.al (D:=ag) I);have al:Hid (aJ d w2.heap.size 0 169 [] (jb place c).post (.slice none 0 0) (jb place c).f):=Z ⟨by
    have c2:=Row.new w2 #[place,.int .u64 c,.int .u64 0,.int .u64 0,.int .u64 0,.int .u64 0,.int .u64 0,.int .u64 0,.int .u64 0,.int .u64 0,.int .u64 0,.int .u64 0,.int .u64 0,.int .u64 0,.int .u64 0,.int .u64 0,.int .u64 0,.int .u64 0,.int .u64 0,.int .u64 0,.int .u64 0,.int .u64 0,.int .u64 0,.int .u64 0,.int .u64 0,.int .u64 0,.int .u64 0,.int .u64 0,.int .u64 0,.int .u64 0,.int .u64 0,.int .u64 0,.int .u64 0,.slice none 0 0,.bool false,.int .i64 0] 169;rw[I]at c2;exact c2,rfl,cv.nil _⟩
   have l:Hid (d.heap.size=w2.heap.size+1):=Z (by rw[<-I];simp);rw[I];clear I m V;have W:=(ad.cell (aQ c6.out) (fun h=>h)).trans c6.out;obtain⟨fb,a3⟩:=mn w2.heap.size;rw[<-a3]at al l⊢;have o:=Z a3;clear a3;obtain⟨w4,t⟩:=nm ((d.alloc (.cells #[(fb,0)] 167)).alloc (.cells #[.int .u64 id,.slice (some (d.heap.size,0)) 1 1,.int .u64 0] 164));have ab:Hid (Ch ag w2 w4):=Z (by rw[<-t];exact(ad.alloc _).alloc _);have R:Hid (ae w4 x L ap C {K1 with table:=r}):=Z (k.at_.af ab);have ci:Hid (Row w4 d.heap.size 167 [bk fb]):=Z (by rw[<-t];exact(Row.new d _ _).alloc _);have cl:Hid (Row w4 (d.heap.size+1) 164 [.int .u64 id,.slice (some (d.heap.size,0)) 1 1,.int .u64 0]):=Z (by
    rw[<-t];have:=Row.new (d.alloc (.cells #[(fb,0)] 167)) #[.int .u64 id,.slice (some (d.heap.size,0)) 1 1,.int .u64 0] 164;rw[World.size_alloc]at this;exact this)
   have cd:Hid (aJ w4 fb 0 169 [] (jb place c).post (.slice none 0 0) (jb place c).f):=Z (by
    rw[<-t];exact al.ch (((Ch.refl ag _).alloc _).alloc _) (fun h=>h) (fun _ _ h=>h))
   obtain⟨ej,c4,bi,X⟩:=fu (P:=prog) (T:=71) (K:=22) (E:=161) (enc:=bk) underlying71 underlying22 (R.tm (by simp)).is id (d.heap.size+1);have H:∀i,w2.heap.size<=i->x i=.no:=fun i s=>by
    cases F:x i with
    |no=>rfl
    |_=>exact absurd (k.at_.small i (by rw[F];simp)) (by omega)
   have ex:=Z H;have c3:=R.Ge (id:=id) (f:=jb place c) (bv:=.slice none 0 0) (fb:=fb) (g:=d.heap.size) (tb:=d.heap.size+1) (w':=ej) (by rw[j];exact ch) cd rfl
    ⟨rfl,Or.inr ⟨d.heap.size,1,#[bk fb],rfl,Nat.zero_le _,ci,Nat.le_refl _,by unfold maxLen;omega,rfl,rfl⟩⟩ cl (H _ (by rw[o];exact Nat.le_refl _)) (H _ (by rw[l,o];omega)) (H _ (by rw[l,o];omega)) (by rw[l];omega) (by rw[l];omega) (by omega) bi X
   have cm:=Z c3;have cb:=Z X;simp only[bk]at c4;rw[<-t]at c4;clear c3 bi X t H;go_wp2
   go_ret;rw[E];obtain⟨aY,Y',N,dr,cS,dC,cW⟩:=cm.out;have c5:K1.ai=K.ai:=(by rw[j]);simp only[c5]at N;refine⟨rfl,aY,Y',⟨N,?_,?_⟩,fun h=>cW (U (A h))⟩
   ·have G:Nx χ x w w4:=k.nx.trans (Nx.af ab)
    have cL:=(R.tm (by simp)).k;have eL:w.heap.size<=w2.heap.size:=k.nx.ch.size;refine⟨G.ch.join cb (fun i s e=>by rw[<-G.same i s,show i=L.tm from e,cL];simp),fun i s=> ?_⟩;cases F:x i with
    |no=>
     rw[<-G.same i s,F];cases cQ:aY i with
     |no=>rfl
     |_=>
      exfalso;rcases cS i (by rw[cQ];simp)with e|e|e|e
      ·exact e F
      ·rw[o]at e;omega
      ·rw[l,o]at e;omega
      ·rw[l,o]at e;omega
    |_=>rw[dr i (Nat.lt_of_lt_of_le s G.ch.size) (by rw[F];simp),G.same i s]
   ·exact k.yk.trans (Gr.of_eq c5) dC
variable{f:cP}{m:aI}
structure DS where
 mem:aI
 bI:a8
 ring:List Int
 cZ:List aF
 wk:List aC
def KS.ds(K:KS):DS:=⟨K.mem,K.blocks,K.ring,K.table,K.wk⟩
theorem jK(a:i<K.wk.length)(x:aC):(K.bj i x).W i=x:=by
 unfold KS.W KS.bj;rw[List.getD_eq_getElem?_getD,List.getElem?_set_self a];rfl
def gO(K:KS)(i:Nat)(f:cP)(m:aI):KS:={K with mem:=m,wk:=K.wk.set i {K.W i with parked:=false,f:=f}}
theorem jI(a:i<K.wk.length):cB C (K.bj i {K.W i with parked:=false}) (.own i)=(fB C.dH (K.W i).f.pc,(bM aI.acc C.dH (K.W i).f K.mem).1,gO K i (bM aI.acc C.dH (K.W i).f K.mem).2.1 (bM aI.acc C.dH (K.W i).f K.mem).2.2):=by
 have e:(K.bj i {K.W i with parked:=false}).F (.own i)=(K.W i).f:=by show(KS.W _ i).f=_;rw[jK a]
 have g:∀(m:aI) (f:cP),(({K.bj i {K.W i with parked:=false}with mem:=m}:KS).cI (.own i) f)=gO K i f m:=fun m f=>by
  show KS.bj _ i _=_
  have h:(({K.bj i {K.W i with parked:=false}with mem:=m}:KS).W i)={K.W i with parked:=false}:=jK a _;rw[h];unfold KS.bj gO;dsimp only;rw[List.set_set]
 unfold cB;dsimp only;rw[e,g];rfl
def aP(K:KS)(i:Nat)(draw:Int):KS:={K with at_:=K.entries,w:=i,draw:=draw,entries:=wrap64 (K.entries+1)}
section
variable{f:cP}{m:aI}{K2:KS}{d:Int}{b:Bool}
section
variable{C:KC}{K:KS}{i:Nat}
theorem ml{x:be}(h:x.m=0)(K:KS)(id:Int)(c:cJ):dc K id c x=K:=by unfold dc;rw[if_pos h]
theorem qD(g:i<K.wk.length)(e:(K.W i).slot=0)(d:Int):ht C K 1 i d=((kg C (aP K i d) i).out,{kg C (aP K i d) i with out:=[]}):=by
 have a:(0:Int)<=(i:Int)/\(i:Int)<K.wk.length:=⟨by omega,by omega⟩;have c:fR C (aP K i d) i=kg C (aP K i d) i:=by unfold fR;rw[if_pos (show((aP K i d).W i).slot=0 from e)]
 unfold ht;dsimp only;rw[if_neg (by decide),if_pos rfl,if_pos a,<-c];rfl
theorem eG(c:i<K.wk.length)(j:(K.W i).slot=0)(g:K.out=[])(d:Int)(a:(fB C.dH (K.W i).f.pc).m=0)(h:bM aI.acc C.dH (K.W i).f K.mem=(0,f,m)):
 ht C K 1 i d=([],gO (aP K i d) i f m):=by
 have h:bM aI.acc C.dH ((aP K i d).W i).f (aP K i d).mem=(0,f,m):=h;have a:(fB C.dH ((aP K i d).W i).f.pc).m=0:=a;have e:kg C (aP K i d) i=gO (aP K i d) i f m:=by
  unfold kg eF;dsimp only;rw[jI (K:=aP K i d) c,h];simp only[Int.reduceEq,if_false,if_true,reduceIte];rw[ml a]
 rw[qD c j,e];have:(gO (aP K i d) i f m).out=[]:=g;rw[this];unfold gO aP;rw[g]
theorem gP(g:i<K.wk.length)(j:(K.W i).slot=0)(d:Int)(c:(fB C.dH (K.W i).f.pc).m=0)(h:bM aI.acc C.dH (K.W i).f K.mem=(1,f,m))
 (a:az C (gO (aP K i d) i f m) i none (.own i) (fB C.dH (K.W i).f.pc)=(0,K2)):ht C K 1 i d=((K2.fA (.own i)).out,{K2.fA (.own i)with out:=[]}):=by
 have h:bM aI.acc C.dH ((aP K i d).W i).f (aP K i d).mem=(1,f,m):=h;have c:(fB C.dH ((aP K i d).W i).f.pc).m=0:=c;have a:az C (gO (aP K i d) i f m) i none (.own i) (fB C.dH ((aP K i d).W i).f.pc)=(0,K2):=a;have e:kg C (aP K i d) i=K2.fA (.own i):=by
  unfold kg eF;dsimp only;rw[jI (K:=aP K i d) g,h];dsimp only;rw[a];simp only[reduceIte];rw[ml c]
 rw[qD g j,e]
theorem vp(c:i<K.wk.length)(g:(K.W i).slot=0)(d:Int)(h:bM aI.acc C.dH (K.W i).f K.mem=(1,f,m))
 (a:az C (gO (aP K i d) i f m) i none (.own i) (fB C.dH (K.W i).f.pc)=(1,K2)):ht C K 1 i d=(K2.out,{K2 with out:=[]}):=by
 have h:bM aI.acc C.dH ((aP K i d).W i).f (aP K i d).mem=(1,f,m):=h;have a:az C (gO (aP K i d) i f m) i none (.own i) (fB C.dH ((aP K i d).W i).f.pc)=(1,K2):=a;have e:kg C (aP K i d) i=K2:=by
  unfold kg eF;dsimp only;rw[jI (K:=aP K i d) c,h];dsimp only;rw[a];simp
 rw[qD c g,e]
def bb(K:KS)(i:Nat)(d:Int)(f:cP)(b:Bool)(m:aI):KS:={aP K i d with mem:=m,wk:=K.wk.set i {K.W i with parked:=b,f:=f}}
theorem jS(K:KS)(i:Nat)(d:Int)(f:cP)(m:aI):gO (aP K i d) i f m=bb K i d f false m:=rfl
theorem gW(a:i<K.wk.length):(bb K i d f b m).W i={K.W i with parked:=b,f:=f}:=jK (K:=K) a _
theorem kh(a:i<K.wk.length):(bb K i d f b m).F (.own i)=f:=by show(KS.W _ i).f=f;rw[gW a]
theorem mm(a:i<K.wk.length){g:cP}:(bb K i d f b m).cI (.own i) g=bb K i d g b m:=by
 show KS.bj _ i _=_
 rw[gW a];unfold KS.bj bb;dsimp only;rw[List.set_set]
theorem hT(a:i<K.wk.length)(k:Nat)(x:Int):(bb K i d f b m).ax (.own i) k x=bb K i d {f with r:=fW f.r k x} b m:=by
 unfold KS.ax;rw[kh a,mm a]
theorem oH(a:i<K.wk.length):(bb K i d f b m).fA (.own i)=bb K i d {f with pc:=wrap64 (f.pc+1)} b m:=by
 unfold KS.fA;rw[kh a,mm a]
theorem ct(a:K.out=[]):(bb K i d f b m).out=[]/\({bb K i d f b m with out:=[]}:KS)=bb K i d f b m:=by
 refine⟨a,?_⟩;unfold bb aP;rw[a]
theorem vq(a:i<K.wk.length)(l:(K.W i).slot=0)(e:K.out=[])(d:Int)(j:(fB C.dH (K.W i).f.pc).m=0)(h:bM aI.acc C.dH (K.W i).f K.mem=(1,(K.W i).f,K.mem))
 (k:(fB C.dH (K.W i).f.pc).op=38∨(fB C.dH (K.W i).f.pc).op=39∨(fB C.dH (K.W i).f.pc).op=40∨(fB C.dH (K.W i).f.pc).op=42):
 ht C K 1 i d=([],bb K i d {(K.W i).f with r:=fW (K.W i).f.r (fB C.dH (K.W i).f.pc).a.toNat (ik C (bb K i d (K.W i).f false K.mem) i 0 (.own i) (fB C.dH (K.W i).f.pc)),pc:=wrap64 ((K.W i).f.pc+1)} false K.mem):=by
 obtain⟨x,c⟩:=nm (fB C.dH (K.W i).f.pc);have g:az C (gO (aP K i d) i (K.W i).f K.mem) i none (.own i) (fB C.dH (K.W i).f.pc)=(0,bb K i d {(K.W i).f with r:=fW (K.W i).f.r x.a.toNat (ik C (bb K i d (K.W i).f false K.mem) i 0 (.own i) x)} false K.mem):=by
  rw[c,jS];rw[c]at k;unfold az;rw[if_neg (by omega),if_neg (by omega),if_neg (by omega),if_neg (by omega),if_neg (by omega),if_neg (by omega),if_neg (by omega),if_neg (by omega),hT a];rfl
 rw[gP a l d j h g,oH a,(ct e).1,(ct e).2,c]
theorem vr(a:i<K.wk.length)(s:(K.W i).slot=0)(c:(K.W i).hand=0)(k:K.out=[])(n:K.ring=[])(d:Int)(p:(fB C.dH (K.W i).f.pc).m=0)(h:bM aI.acc C.dH (K.W i).f K.mem=(1,(K.W i).f,K.mem))
 (l:(fB C.dH (K.W i).f.pc).op=34):
 ht C K 1 i d=([],bb K i d {(K.W i).f with r:=fW (fW (K.W i).f.r (fB C.dH (K.W i).f.pc).a.toNat 0) (fB C.dH (K.W i).f.pc).a.toNat 0,pc:=wrap64 ((K.W i).f.pc+1)} false K.mem):=by
 obtain⟨x,j⟩:=nm (fB C.dH (K.W i).f.pc);have o:az C (gO (aP K i d) i (K.W i).f K.mem) i none (.own i) (fB C.dH (K.W i).f.pc)=(0,bb K i d {(K.W i).f with r:=fW (fW (K.W i).f.r x.a.toNat 0) x.a.toNat 0} false K.mem):=by
  rw[j,jS];rw[j]at l;unfold az;rw[if_neg (by omega),if_neg (by omega),if_neg (by omega),if_pos (by omega)];unfold b0;dsimp only;rw[if_neg (by omega),if_neg (by omega),if_pos l,hT a];have g:(bb K i d {(K.W i).f with r:=fW (K.W i).f.r x.a.toNat 0} false K.mem).W i={K.W i with parked:=false,f:={(K.W i).f with r:=fW (K.W i).f.r x.a.toNat 0}}:=gW a;rw[if_pos (by rw[g];exact c)];have q:(bb K i d {(K.W i).f with r:=fW (K.W i).f.r x.a.toNat 0} false K.mem).ring=[]:=n;rw[q];have e:(({bb K i d {(K.W i).f with r:=fW (K.W i).f.r x.a.toNat 0} false K.mem with ring:=(gS []).2.2}:KS).bj i {({bb K i d {(K.W i).f with r:=fW (K.W i).f.r x.a.toNat 0} false K.mem with ring:=(gS []).2.2}:KS).W i with hand:=(gS []).1})=bb K i d {(K.W i).f with r:=fW (K.W i).f.r x.a.toNat 0} false K.mem:=by
   have t:({bb K i d {(K.W i).f with r:=fW (K.W i).f.r x.a.toNat 0} false K.mem with ring:=(gS []).2.2}:KS).W i={K.W i with parked:=false,f:={(K.W i).f with r:=fW (K.W i).f.r x.a.toNat 0}}:=g;rw[t];unfold KS.bj bb;dsimp only;rw[List.set_set];unfold gS aP;dsimp only;rw[n];rw[show({(K.W i)with parked:=false,hand:=0,f:={(K.W i).f with r:=fW (K.W i).f.r x.a.toNat 0}}:aC)={(K.W i)with parked:=false,f:={(K.W i).f with r:=fW (K.W i).f.r x.a.toNat 0}}from by rw[<-c]]
  rw[e,g,c,hT a]
 rw[gP a s d p h o,oH a,(ct k).1,(ct k).2,j]
theorem yV(c:i<K.wk.length)(l:(K.W i).slot=0)(j:K.out=[])(d:Int)(o:(fB C.dH (K.W i).f.pc).m=0)(h:bM aI.acc C.dH (K.W i).f K.mem=(1,(K.W i).f,K.mem))
 (k:(fB C.dH (K.W i).f.pc).op=36) {v:Int} (r:K.mem.acc 0 0 0 0=(some v,K.mem)):
 ht C K 1 i d=([],if v=(K.W i).f.r (fB C.dH (K.W i).f.pc).a.toNat then bb K i d (K.W i).f true K.mem else bb K i d {(K.W i).f with pc:=wrap64 ((K.W i).f.pc+1)} false K.mem):=by
 obtain⟨x,e⟩:=nm (fB C.dH (K.W i).f.pc);have g:az C (gO (aP K i d) i (K.W i).f K.mem) i none (.own i) x=if v=(K.W i).f.r x.a.toNat then(1,bb K i d (K.W i).f true K.mem)else(0,bb K i d (K.W i).f false K.mem):=by
  rw[e]at k;rw[jS];unfold az;rw[if_neg (by omega),if_neg (by omega),if_pos k];have p:gu (bb K i d (K.W i).f false K.mem) 0=(v,bb K i d (K.W i).f false K.mem):=by
   unfold gu;rw[show(bb K i d (K.W i).f false K.mem).mem=K.mem from rfl,r];rfl
  dsimp only;rw[p];dsimp only;rw[kh c,gW c];have q:∀b,(bb K i d (K.W i).f false K.mem).bj i {(K.W i)with parked:=b,f:=(K.W i).f}=bb K i d (K.W i).f b K.mem:=fun b=>by
   unfold KS.bj bb;dsimp only;rw[List.set_set]
  have n:∀b,(bb K i d (K.W i).f false K.mem).bj i {({(K.W i)with parked:=false,f:=(K.W i).f}:aC)with parked:=b}=bb K i d (K.W i).f b K.mem:=fun b=>q b
  by_cases a:v=(K.W i).f.r x.a.toNat
  ·rw[if_pos a,show(v==(K.W i).f.r x.a.toNat)=true from by rw[a];exact beq_self_eq_true _]
   simp only[if_true];exact congrArg (fun z=>((1:Int),z)) (n true)
  ·rw[if_neg a,show(v==(K.W i).f.r x.a.toNat)=false from by simpa using a]
   simp only[Bool.false_eq_true,if_false];exact congrArg (fun z=>((0:Int),z)) (n false)
 by_cases a:v=(K.W i).f.r x.a.toNat
 ·rw[if_pos a]at g
  rw[vp c l d h (by rw[e];exact g),(ct j).1,(ct j).2,e,if_pos a]
 ·rw[if_neg a]at g
  rw[gP c l d o h (by rw[e];exact g),oH c,(ct j).1,(ct j).2,e,if_neg a]
end
end
def tQ(e:Ev):Ev:={e with w:=0}
structure Rl(i:Nat)(L R:List aC)(X Y:KS):Prop where
 mem:X.mem=Y.mem
 blocks:X.blocks=Y.blocks
 clock:X.clock=Y.clock
 ring:X.ring=Y.ring
 q:X.q=Y.q
 table:X.table=Y.table
 cT:X.cT=Y.cT
 ai:X.ai=Y.ai
 wk:∃y,X.wk=L.set i y/\Y.wk=y::R
 Ea:X.entries=Y.entries/\X.at_=Y.at_
 out:X.out.map tQ=Y.out.map tQ
variable{L R:List aC}{X Y:KS}
theorem Rl.W(h:Rl i L R X Y)(c:i<L.length):X.W i=Y.W 0:=by
 obtain⟨y,a,b⟩:=h.wk;unfold KS.W;rw[a,b,List.getD_eq_getElem?_getD,List.getElem?_set_self c];rfl
theorem Rl.bj(h:Rl i L R X Y)(x:aC):Rl i L R (X.bj i x) (Y.bj 0 x):=by
 obtain⟨y,a,b⟩:=h.wk;exact⟨h.mem,h.blocks,h.clock,h.ring,h.q,h.table,h.cT,h.ai,⟨x,by show X.wk.set i x=_;rw[a,List.set_set],by show Y.wk.set 0 x=_;rw[b];rfl⟩,h.Ea,h.out⟩
theorem Rl.tell(h:Rl i L R X Y)(e:Ev):Rl i L R (tell X e) (tell Y e):=
 ⟨h.mem,h.blocks,h.clock,h.ring,h.q,h.table,h.cT,h.ai,h.wk,h.Ea,by
  show(X.out++[_]).map tQ=(Y.out++[_]).map tQ
  rw[List.map_append,List.map_append,h.out];show _++[tQ {e with at_:=X.at_,w:=X.w}]=_++[tQ {e with at_:=Y.at_,w:=Y.w}]
  rw[h.Ea.2]
  rfl⟩
theorem Rl.BB(h:Rl i L R X Y)(m:aI):Rl i L R {X with mem:=m} {Y with mem:=m}:=⟨rfl,h.blocks,h.clock,h.ring,h.q,h.table,h.cT,h.ai,h.wk,h.Ea,h.out⟩
theorem Rl.Dq(h:Rl i L R X Y)(m:a8):Rl i L R {X with blocks:=m} {Y with blocks:=m}:=⟨h.mem,rfl,h.clock,h.ring,h.q,h.table,h.cT,h.ai,h.wk,h.Ea,h.out⟩
theorem Rl.DL(h:Rl i L R X Y)(m:aN):Rl i L R {X with clock:=m} {Y with clock:=m}:=⟨h.mem,h.blocks,rfl,h.ring,h.q,h.table,h.cT,h.ai,h.wk,h.Ea,h.out⟩
theorem Rl.sq(h:Rl i L R X Y)(m:List (List fQ)):Rl i L R {X with q:=m} {Y with q:=m}:=⟨h.mem,h.blocks,h.clock,h.ring,rfl,h.table,h.cT,h.ai,h.wk,h.Ea,h.out⟩
theorem Rl.vy(h:Rl i L R X Y)(m:List aF):Rl i L R {X with table:=m} {Y with table:=m}:=⟨h.mem,h.blocks,h.clock,h.ring,h.q,rfl,h.cT,h.ai,h.wk,h.Ea,h.out⟩
theorem Rl.DM(h:Rl i L R X Y)(m:List bq):Rl i L R {X with cT:=m} {Y with cT:=m}:=⟨h.mem,h.blocks,h.clock,h.ring,h.q,h.table,rfl,h.ai,h.wk,h.Ea,h.out⟩
theorem Rl.DN(h:Rl i L R X Y)(m:List (Int×Thread)):Rl i L R {X with ai:=m} {Y with ai:=m}:=⟨h.mem,h.blocks,h.clock,h.ring,h.q,h.table,h.cT,rfl,h.wk,h.Ea,h.out⟩
theorem Rl.T(h:Rl i L R X Y)(id:Int):X.T id=Y.T id:=by unfold KS.T;rw[h.ai]
theorem Rl.cp(h:Rl i L R X Y)(id:Int)(t:Thread):Rl i L R (X.cp id t) (Y.cp id t):=by unfold KS.cp;rw[h.ai];exact h.DN _
theorem Rl.top(h:Rl i L R X Y)(id:Int):X.top id=Y.top id:=by unfold KS.top;rw[h.T]
theorem Rl.F(h:Rl i L R X Y)(id:Int)(k:Nat):X.F (.ai id k)=Y.F (.ai id k):=by unfold KS.F;dsimp only;rw[h.T]
theorem Rl.cI(h:Rl i L R X Y)(id:Int)(k:Nat)(f:cP):Rl i L R (X.cI (.ai id k) f) (Y.cI (.ai id k) f):=by unfold KS.cI;dsimp only;rw[h.T];exact h.cp _ _
theorem Rl.ax(h:Rl i L R X Y)(id:Int)(k j:Nat)(x:Int):Rl i L R (X.ax (.ai id k) j x) (Y.ax (.ai id k) j x):=by unfold KS.ax;rw[h.F];exact h.cI _ _ _
theorem Rl.fA(h:Rl i L R X Y)(id:Int)(k:Nat):Rl i L R (X.fA (.ai id k)) (Y.fA (.ai id k)):=by unfold KS.fA;rw[h.F];exact h.cI _ _ _
theorem Rl.len(h:Rl i L R X Y)(c:L.length=R.length+1):X.wk.length=Y.wk.length:=by
 obtain⟨y,a,b⟩:=h.wk;rw[a,b,List.length_set,c];rfl
theorem Rl.inj(h:Rl i L R X Y)(id:Int):Rl i L R (cr X id) (cr Y id):=by
 unfold cr;rw[h.table,h.ring,h.mem];exact⟨rfl,h.blocks,h.clock,rfl,h.q,rfl,h.cT,h.ai,h.wk,h.Ea,h.out⟩
theorem Rl.leave(h:Rl i L R X Y)(b:i<L.length):Rl i L R (dB C X i) (dB C Y 0):=by
 unfold dB gJ;rw[h.W b];have a:=h.bj {Y.W 0 with slot:=0};rw[a.W b];exact a.bj _
theorem Rl.put(h:Rl i L R X Y)(a:Int):Rl i L R (jm X a) (jm Y a):=by
 unfold jm;rw[h.blocks,h.mem];exact(h.Dq _).BB _
theorem Rl.home(h:Rl i L R X Y)(id a:Int):Rl i L R (eo X id a) (eo Y id a):=by
 unfold eo cz;rw[h.table];split
 ·exact h.put _
 ·exact h
theorem Rl.DP(h:Rl i L R X Y)(d:i<L.length)(id:Int):Rl i L R (m3 C X i id) (m3 C Y 0 id):=by
 unfold m3;dsimp only;rw[h.table,h.q,h.clock];have b:=(((h.vy (eN (gi Y.table id 0).2 id).2).sq (dw Y.q id).2).DL (Y.clock.bp id).2).tell ⟨7,0,0,id,0,0,0,0,0,(fx (gi Y.table id 0).2 id).1.value,0⟩;have a:=b.leave (C:=C) d;have c:=a.DN (fs (dB C (Go.Proofs.YtmfnplmcfkkdpaaGreatDoor.tell {Y with table:=(eN (gi Y.table id 0).2 id).2,q:=(dw Y.q id).2,clock:=(Y.clock.bp id).2} ⟨7,0,0,id,0,0,0,0,0,(fx (gi Y.table id 0).2 id).1.value,0⟩) 0).ai id);have e:=a.ai;rw[e];exact c.home _ _
theorem Rl.returned(h:Rl i L R X Y)(id num code v:Int):Rl i L R (dq X id num code v) (dq Y id num code v):=by
 unfold dq;dsimp only;rw[h.top];have a:=h.ax id (Y.top id) 0 code;rw[a.top];exact(a.ax _ _ _ _).tell _
theorem Rl.answer(h:Rl i L R X Y)(id code v:Int):Rl i L R (eE X id code v) (eE Y id code v):=by
 unfold eE;dsimp only;rw[h.top,h.T];exact(h.cp _ _).returned _ _ _ _
theorem Rl.mark(h:Rl i L R X Y)(id:Int)(k:Nat)(x:be):Rl i L R (dc X id (.ai id k) x) (dc Y id (.ai id k) x):=by
 unfold dc;dsimp only;rw[h.F]
 repeat' split
 all_goals first|exact h|exact h.tell _
theorem Rl.kinds(h:Rl i L R X Y):∀l,cw C X l=cw C Y l
 |[]=>rfl
 |(k,a)::l=>by
  unfold cw;rw[h.cT,h.kinds l]
theorem Rl.refused(h:Rl i L R X Y)(id num a0 a1 a2 a3:Int):cM C X id num a0 a1 a2 a3=cM C Y id num a0 a1 a2 a3:=by
 unfold cM;dsimp only;rw[h.T,h.kinds]
theorem Rl.base(h:Rl i L R X Y)(a:L.length=R.length+1):gT X=gT Y:=by unfold gT;rw[h.len a]
theorem Rl.arg(h:Rl i L R X Y)(b:L.length=R.length+1)(k a:Int):dg X k a=dg Y k a:=by unfold dg;rw[h.cT,h.base b]
theorem Rl.call(h:Rl i L R X Y)(b:L.length=R.length+1)(id:Int)(k:Nat)(num:Int):Rl i L R (hr C X id k num) (hr C Y id k num):=by
 unfold hr;dsimp only;rw[h.F];have a:=h.tell ⟨1,0,0,id,num,(Y.F (.ai id k)).r 0,(Y.F (.ai id k)).r 1,(Y.F (.ai id k)).r 2,(Y.F (.ai id k)).r 3,0,0⟩;rw[a.refused,a.T];simp only[a.arg b];split
 ·exact a.returned _ _ _ _
 ·exact a.cp _ _
theorem Rl.exit(h:Rl i L R X Y)(b:i<L.length)(c:L.length=R.length+1)(id:Int)(k:Nat)(v:Int):Rl i L R (eZ C X i id k v) (eZ C Y 0 id k v):=by
 unfold eZ;dsimp only;have a:=(h.ax id k 0 v).fA id k;split
 ·exact a.call c _ _ _
 ·rw[a.table]
  exact(a.vy _).DP b _
theorem Rl.ite{a Y':KS}{c:Prop} [Decidable c](h:Rl i L R X Y)(b:Rl i L R a Y'):Rl i L R (if c then X else a) (if c then Y else Y'):=by
 split
 ·exact h
 ·exact b
theorem Rl.F3(h:Rl i L R X Y)(b:i<L.length)(id:Int):Rl i L R (ep X i id) (ep Y 0 id):=by
 unfold ep;dsimp only;rw[h.W b];split
 ·exact h.inj _
 ·rw[h.table]
  have a:=h.vy (j4 Y.table id 1).2;rw[a.W b];exact a.bj _
def rZ(op:Int):Bool:=decide (op=23∨op=25∨op=37∨op=41∨op=43∨op=44∨op=45∨op=46∨op=47∨op=49∨op=50∨op=52∨op=53∨op=55∨op=58)
theorem Rl.BC(h:Rl i L R X Y)(id:Int)(k:Nat)(x:be):Rl i L R (bh X (.ai id k) x) (bh Y (.ai id k) x):=by
 unfold bh;dsimp only;rw[h.F];split
 ·have a:=h.ax id k x.a.toNat 0
  rw[a.blocks,a.mem];obtain⟨n,b⟩:=nm ((if 0<=x.b then(Y.F (.ai id k)).r x.b.toNat else x.v));rw[b];split
  ·exact((a.Dq _).BB _).ax _ _ _ _
  ·exact a
 split
 ·split
  ·exact h.put _
  ·exact h
 split
 ·split
  ·rw[h.cT]
   exact(h.DM _).ax _ _ _ _
  ·exact h.ax _ _ _ _
 split
 ·rw[h.cT]
  exact h.DM _
 ·exact h
theorem Rl.others(h:Rl i L R X Y)(id:Int)(k:Nat)(x:be)(b:x.op≠48)(c:x.op≠54):Rl i L R (bD C X i (.ai id k) x) (bD C Y 0 (.ai id k) x):=by
 unfold bD;dsimp only;rw[h.F,if_neg b,if_neg b,if_neg c,if_neg c,h.table];have a:=h.vy (e8 Y.table ((Y.F (.ai id k)).r x.a.toNat)).2;split
 ·split
  ·exact(a.home _ _).ax _ _ _ _
  ·exact a.ax _ _ _ _
 split
 ·exact h.ax _ _ _ _
 split
 ·exact h.ax _ _ _ _
 ·exact h.ax _ _ _ _
theorem Rl.vz(h:Rl i L R X Y)(f:i<L.length)(id:Int)(k:Nat)(x:be)(d:x.op=25):Rl i L R (bl X i (.ai id k) x) (bl Y 0 (.ai id k) x):=by
 unfold bl;dsimp only;rw[h.F,if_pos d,if_pos d,h.q];obtain⟨p,g⟩:=nm (eJ Y.q ((Y.F (.ai id k)).r x.b.toNat) ((Y.F (.ai id k)).r x.c.toNat));rw[g];have c:=h.sq p.2.2;split
 ·rw[h.clock]
  have a:=c.DL (Y.clock.bp p.1).2;have b:Rl i L R (if(aw Y.ai p.1).isSome=true then({X with q:=p.2.2,clock:=(Y.clock.bp p.1).2}:KS).cp p.1 {({X with q:=p.2.2,clock:=(Y.clock.bp p.1).2}:KS).T p.1 with eY:=0}else {X with q:=p.2.2,clock:=(Y.clock.bp p.1).2})
   (if(aw Y.ai p.1).isSome=true then({Y with q:=p.2.2,clock:=(Y.clock.bp p.1).2}:KS).cp p.1 {({Y with q:=p.2.2,clock:=(Y.clock.bp p.1).2}:KS).T p.1 with eY:=0}else {Y with q:=p.2.2,clock:=(Y.clock.bp p.1).2}):=by
   split
   ·rw[a.T];exact a.cp _ _
   ·exact a
  rw[show aw X.ai p.1=aw Y.ai p.1 from by rw[h.ai]];have e:=b.table;unfold cz;rw[e];exact(Rl.ite (b.F3 f _) b).ax _ _ _ _
 ·exact c.ax _ _ _ _
theorem Rl.told(h:Rl i L R X Y)(id:Int)(k:Nat)(x:be)(a:x.op=23∨x.op=37∨x.op=41∨x.op=47):ik C X i id (.ai id k) x=ik C Y 0 id (.ai id k) x:=by
 unfold ik;dsimp only;rw[h.F,h.clock];rcases a with e|e|e|e<;>simp[e]
theorem Rl.y6(h:Rl i L R X Y)(a:i<L.length)(id:Int)(k:Nat)(x:be)(b:rZ x.op=true):
 (az C X i (some id) (.ai id k) x).1=(az C Y 0 (some id) (.ai id k) x).1/\Rl i L R (az C X i (some id) (.ai id k) x).2 (az C Y 0 (some id) (.ai id k) x).2:=by
 have b:=of_decide_eq_true b;have c:(x.op=53∨x.op=55∨x.op=58)∨(x.op=43∨x.op=44∨x.op=45∨x.op=46)∨(x.op=52∨x.op=49∨x.op=50)∨x.op=25∨(x.op=23∨x.op=37∨x.op=41∨x.op=47):=by omega
 unfold az;rcases c with e|e|e|e|e
 ·rw[if_pos (by omega),if_pos (by omega)]
  dsimp only;unfold aB;dsimp only;rw[h.F];rcases e with e|e|e
  ·rw[if_neg (by omega),if_neg (by omega),if_neg (by omega),if_pos e,if_neg (by omega),if_neg (by omega),if_neg (by omega),if_pos e,h.table]
   exact⟨rfl,h.vy _⟩
  ·rw[if_neg (by omega),if_neg (by omega),if_neg (by omega),if_neg (by omega),if_pos e,if_neg (by omega),if_neg (by omega),if_neg (by omega),if_neg (by omega),if_pos e]
   exact⟨rfl,h.DP a _⟩
  ·rw[if_neg (by omega),if_neg (by omega),if_neg (by omega),if_neg (by omega),if_neg (by omega),if_neg (by omega),if_neg (by omega),if_pos e,if_neg (by omega),if_neg (by omega),if_neg (by omega),if_neg (by omega),if_neg (by omega),if_neg (by omega),if_neg (by omega),if_pos e]
   exact⟨rfl,h.answer _ _ _⟩
 ·rw[if_neg (by omega),if_neg (by omega),if_neg (by omega),if_neg (by omega),if_pos e,if_neg (by omega),if_neg (by omega),if_neg (by omega),if_neg (by omega),if_pos e]
  exact⟨rfl,h.BC _ _ _⟩
 ·rw[if_neg (by omega),if_neg (by omega),if_neg (by omega),if_neg (by omega),if_neg (by omega),if_pos (by omega),if_neg (by omega),if_neg (by omega),if_neg (by omega),if_neg (by omega),if_neg (by omega),if_pos (by omega)]
  exact⟨rfl,h.others _ _ _ (by omega) (by omega)⟩
 ·rw[if_neg (by omega),if_neg (by omega),if_neg (by omega),if_neg (by omega),if_neg (by omega),if_neg (by omega),if_pos (by omega),if_neg (by omega),if_neg (by omega),if_neg (by omega),if_neg (by omega),if_neg (by omega),if_neg (by omega),if_pos (by omega)]
  exact⟨rfl,h.vz a _ _ _ e⟩
 ·rw[if_neg (by omega),if_neg (by omega),if_neg (by omega),if_neg (by omega),if_neg (by omega),if_neg (by omega),if_neg (by omega),if_neg (by omega),if_neg (by omega),if_neg (by omega),if_neg (by omega),if_neg (by omega),if_neg (by omega),if_neg (by omega),if_neg (by omega),if_neg (by omega)]
  refine⟨rfl,?_⟩;dsimp only[Option.getD];rw[h.told id k x e];exact h.ax _ _ _ _
def mG(C:KC)(Y:KS)(id:Int):Bool:=
 !((Y.T id).l.getD (Y.top id) default).cg||(bM aI.acc C.dH (Y.F (.ai id (Y.top id))) Y.mem).1 !=1||rZ (fB C.dH (Y.F (.ai id (Y.top id))).pc).op
theorem Rl.y7(h:Rl i L R X Y)(g:i<L.length)(id:Int)(k:Nat)(l:(bM aI.acc C.dH (Y.F (.ai id k)) Y.mem).1≠1∨rZ (fB C.dH (Y.F (.ai id k)).pc).op=true):
 Rl i L R (cD C X i id k) (cD C Y 0 id k):=by
 have n:(cB C X (.ai id k)).1=(cB C Y (.ai id k)).1/\(cB C X (.ai id k)).2.1=(cB C Y (.ai id k)).2.1/\Rl i L R (cB C X (.ai id k)).2.2 (cB C Y (.ai id k)).2.2:=by
  unfold cB;dsimp only;rw[h.F,h.mem];exact⟨rfl,rfl,(h.BB _).cI _ _ _⟩
 have j:(eF C X i (some id) (.ai id k)).1=(eF C Y 0 (some id) (.ai id k)).1/\(eF C X i (some id) (.ai id k)).2.1=(eF C Y 0 (some id) (.ai id k)).2.1/\Rl i L R (eF C X i (some id) (.ai id k)).2.2 (eF C Y 0 (some id) (.ai id k)).2.2:=by
  unfold eF;dsimp only;obtain⟨b,c,a⟩:=n;rw[b,c];split
  ·rename_i f
   have m:rZ (cB C Y (.ai id k)).1.op=true:=l.resolve_left (fun h=>h f);obtain⟨e,d⟩:=a.y6 (C:=C) g id k (cB C Y (.ai id k)).1 m;rw[e];split
   ·exact⟨rfl,rfl,d.fA _ _⟩
   split
   ·exact⟨rfl,rfl,d⟩
   ·exact⟨rfl,rfl,d⟩
  ·exact⟨b,c,a⟩
 obtain⟨b,c,a⟩:=j;unfold cD;dsimp only;rw[b,c];split
 ·exact a.mark _ _ _
 split
 ·exact a.answer _ _ _
 ·exact a
theorem rp{c d:Type}{f1:c->Int->Int->Int->Int->Option Int×c}{f2:d->Int->Int->Int->Int->Option Int×d}(Q:c->d->Prop)
 (b:∀S T k a o v,Q S T->(f1 S k a o v).1=(f2 T k a o v).1/\Q (f1 S k a o v).2 (f2 T k a o v).2) (x:be) (r:Nat->Int) {S:c} {T:d} (h:Q S T):
 (cR f1 S x r).1=(cR f2 T x r).1/\Q (cR f1 S x r).2 (cR f2 T x r).2:=by
 unfold cR;dsimp only;split
 ·exact b _ _ _ _ _ _ h
 split
 ·obtain⟨e,f⟩:=b S T 1 (dE r x) 0 (r x.a.toNat) h
  exact⟨by rw[e],f⟩
 split
 ·exact b _ _ _ _ _ _ h
 split
 ·exact b _ _ _ _ _ _ h
 ·exact b _ _ _ _ _ _ h
theorem vA{d g:Type}{f1:d->Int->Int->Int->Int->Option Int×d}{f2:g->Int->Int->Int->Int->Option Int×g}(Q:d->g->Prop)
 (m:∀S T k a o v,Q S T->(f1 S k a o v).1=(f2 T k a o v).1/\Q (f1 S k a o v).2 (f2 T k a o v).2) (l:List be) (f:cP) {S:d} {T:g} (h:Q S T):
 (bM f1 l f S).1=(bM f2 l f T).1/\(bM f1 l f S).2.1=(bM f2 l f T).2.1/\Q (bM f1 l f S).2.2 (bM f2 l f T).2.2:=by
 unfold bM;split
 ·exact⟨rfl,rfl,h⟩
 cases l[f.pc.toNat]? with
 |none=>exact⟨rfl,rfl,h⟩
 |some x=>
  dsimp only;split
  ·exact⟨rfl,rfl,h⟩
  split
  ·exact⟨rfl,rfl,h⟩
  split
  ·obtain⟨e,c⟩:=rp Q m x f.r h
   obtain⟨a,j⟩:=nm (cR f1 S x f.r);obtain⟨b,hb⟩:=nm (cR f2 T x f.r);rw[j,hb]at e c;rw[j,hb];obtain⟨a1,a2⟩:=a;obtain⟨n,p⟩:=b;dsimp only at e c;subst e;cases a1 with
   |none=>exact⟨rfl,rfl,c⟩
   |some v=>exact⟨rfl,rfl,c⟩
  split
  ·exact⟨rfl,rfl,h⟩
  ·exact⟨rfl,rfl,h⟩
def Fe(S T:aI×List Ev):Prop:=S.1=T.1/\S.2.map tQ=T.2.map tQ
theorem Rl.sh(h:Rl i L R X Y)(e:L.length=R.length+1)(id op:Int)(S T:aI×List Ev)(k a o v:Int)(d:Fe S T):
 (bR C X id op S k a o v).1=(bR C Y id op T k a o v).1/\Fe (bR C X id op S k a o v).2 (bR C Y id op T k a o v).2:=by
 obtain⟨c,b⟩:=d;unfold bR;dsimp only;rw[h.base e,c];split
 ·exact⟨rfl,c,b⟩
 ·cases(T.1.acc k (IntKind.u64.wrap (IntKind.u64.wrap (gT Y)+a)) o v).1 with
  |none=>exact⟨rfl,rfl,b⟩
  |some y=>
   refine⟨rfl,rfl,?_⟩;show(S.2++_).map tQ=(T.2++_).map tQ
   rw[List.map_append,List.map_append,b,h.Ea.2];rfl
theorem Rl.BD(h:Rl i L R X Y)(o:i<L.length)(d:L.length=R.length+1)(id:Int)(k:Nat):Rl i L R (cx C X i id k) (cx C Y 0 id k):=by
 unfold cx;dsimp only;rw[h.F];obtain⟨x,q⟩:=nm (fB C.bs (Y.F (.ai id k)).pc);rw[q];obtain⟨e,g,j,m⟩:=vA (l:=C.bs) (f:=Y.F (.ai id k)) Fe (h.sh (C:=C) d id x.op) (S:=(X.mem,X.out)) (T:=(Y.mem,Y.out)) ⟨h.mem,h.out⟩;obtain⟨a,n⟩:=nm (bM (bR C X id x.op) C.bs (Y.F (.ai id k)) (X.mem,X.out));obtain⟨b,hb⟩:=nm (bM (bR C Y id x.op) C.bs (Y.F (.ai id k)) (Y.mem,Y.out));rw[n,hb]at e g j m;rw[n,hb,e,g];have p:Rl i L R ({X with mem:=a.2.2.1,out:=a.2.2.2}:KS) ({Y with mem:=b.2.2.1,out:=b.2.2.2}:KS):=⟨j,h.blocks,h.clock,h.ring,h.q,h.table,h.cT,h.ai,h.wk,h.Ea,m⟩;have c:=p.cI id k b.2.1;rw[c.top,c.T,c.F];split
 ·exact(c.fA _ _).call d _ _ _
 split
 ·exact Rl.ite (c.cp _ _) (c.exit o d _ _ _)
 split
 ·exact(c.tell _).exit o d _ _ _
 ·exact c
theorem Rl.pick(h:Rl i L R X Y)(a:i<L.length)(f:L.length=R.length+1)(e:(Y.W 0).slot≠0)(b:mG C Y (Y.W 0).slot=true):Rl i L R (fR C X i) (fR C Y 0):=by
 unfold fR;rw[h.W a,if_neg e,if_neg e];dsimp only;rw[h.top,h.T];have c:=h.bj {Y.W 0 with left:=max ((Y.W 0).left-1) 0};split
 ·exact(h.inj _).leave a
 split
 ·rename_i g
  refine c.y7 a _ _ ?_;unfold mG at b;rw[g]at b;by_cases d:(bM aI.acc C.dH (Y.F (.ai (Y.W 0).slot (Y.top (Y.W 0).slot))) Y.mem).1=1
  ·right
   simp only[d,Bool.not_true,Bool.false_or]at b;exact b
  ·exact Or.inl d
 ·exact c.BD a f _ _
theorem Rl.Gl(h:Rl i L R X Y)(f:i<L.length)(k:L.length=R.length+1)(m:(Y.W 0).slot≠0)(l:mG C Y (Y.W 0).slot=true)(d:Int):
 (ht C X 1 i d).1.map tQ=(ht C Y 1 0 d).1.map tQ/\Rl i L R (ht C X 1 i d).2 (ht C Y 1 0 d).2:=by
 have n:i<X.wk.length:=by
  obtain⟨y,b,c⟩:=h.wk;rw[b,List.length_set];exact f
 have o:0<Y.wk.length:=by
  obtain⟨y,b,c⟩:=h.wk;rw[c];exact Nat.succ_pos _
 have e:∀{K:KS} {j:Nat},j<K.wk.length->ht C K 1 j d=((fR C (aP K j d) j).out,{fR C (aP K j d) j with out:=[]}):=fun {K j} p=>by
  unfold ht;dsimp only;rw[if_neg (by decide),if_pos rfl,if_pos ⟨by omega,by omega⟩,Int.toNat_natCast];rfl
 have g:Rl i L R (aP X i d) (aP Y 0 d):=⟨h.mem,h.blocks,h.clock,h.ring,h.q,h.table,h.cT,h.ai,h.wk,⟨by show wrap64 (X.entries+1)=wrap64 (Y.entries+1);rw[h.Ea.1],h.Ea.1⟩,h.out⟩;have a:=g.pick (C:=C) f k m l;rw[e n,show ht C Y 1 0 d=ht C Y 1 ((0:Nat):Int) d from rfl,e o];exact⟨a.out,a.mem,a.blocks,a.clock,a.ring,a.q,a.table,a.cT,a.ai,a.wk,a.Ea,rfl⟩
theorem Di:(prog.info? 99).map (fun i=>(i.zero,i.size,i.bytes))=some (some (.agg #[.int .u64 0,.int .i64 0,.int .u64 0,.int .u64 0,.int .u64 0,.bool false,.bool false]),7,48):=by kernel_rfl
def rz(l:List aF):List iD:=(l.filter aF.taken).map aF.t
theorem jY{l:List aF}{k:Nat}{r:aF}(h:l[k]?=some r):rz (l.take (k+1))=rz (l.take k)++(if r.taken then [r.t]else []):=by
 rw[List.take_succ,h];unfold rz;rw[List.filter_append,List.map_append];cases a:r.taken<;>simp[a]
def BA(l:List iD)(w:World)(e:Ending)(w':World):Prop:=∃v,e=.returned v/\w'.ownsRow w.heap.size 99 7 v l.length (l.flatMap iD.cells)/\Ch ag w w'
theorem vv(b g:Nat)(l:List aF)(w:World)(h:aW w b g l):Calls prog 64 #[(b,0)] w (BA (rz l) w):=by
 obtain⟨J,q,G,H,I⟩:=info_parts Di;have z:=Z q;have c:=Z h;have V:=h.head.c1;clear q h;go_wp2
 go_loopw [3,10] (fun K m wr=>∃k n:Nat,k<=64/\n<=k/\m=.int .i64 k/\n=(rz (l.take k)).length/\Ch ag w wr/\wr.ownsRow w.heap.size 99 7 K n ((rz (l.take k)).flatMap iD.cells)) (fun _ m _=>64-(intOf m).toNat)
 case atStart=>exact⟨0,0,by omega,by omega,rfl,rfl,Ch.refl _ _,⟨by simp[rz],Or.inl ⟨rfl,rfl⟩⟩⟩
 case round=>
  obtain⟨k,n,a0,a3,rfl,s,e,f⟩:=hrel;have a:=Z (And.intro e (And.intro f s));obtain⟨U,X,rfl⟩:=au f;have W:=((c.ch e (fun h=>h) (fun h=>h)).head).cell (i:=0) rfl;clear e f s;by_cases D:k<64
  ·obtain⟨r,j⟩:∃r,l[k]?=some r:=⟨_,List.getElem?_eq_getElem (by rw[c.len];exact D)⟩
   have d:=Z j;obtain⟨times,taken,a4,⟨tid,state,home,value,v,loose,x⟩⟩:=r;obtain⟨y0,L,M,N,O,P,Q,R,S,T,fr,a2⟩:=(c.ch a.1 (fun h=>h) (fun h=>h)).cells j;dsimp only at L N O P Q R S T;have a1:(k:Int)<64:=(by omega);clear fr j y0 M;cases taken with
   |false=>
    go_wp2
    go_roundw
    case rel=>exact⟨k+1,n,by omega,by omega,by go_num,by rw[jY d];simpa using a.out.2.2,a.1,by rw[jY d];simpa using a.out.2.1⟩
    case measure=>simp[intOf];omega
   |true=>
    have F:=a.1.size;go_wp2_with (at_builtin;refine wpList_append_lies _ rfl _ _ _ rfl w.heap.size 99 J _ 7 48 underlying96 z G H I rfl (by omega) _ n ((rz (l.take k)).flatMap iD.cells) rfl (a.2.1.alloc _) ⟨wr.heap.size,0,none⟩ 1 1 [.int .u64 tid,state,.int .u64 home,.int .u64 value,.int .u64 v,.bool loose,.bool x] rfl rfl (World.news_of_block (cs:=#[.int .u64 tid,state,.int .u64 home,.int .u64 value,.int .u64 v,.bool loose,.bool x]) (t:=99) (fr:=(0,0)) (heap_alloc_new wr _)) (by simp[Value.oneCell']) (by omega) (by unfold maxLen;omega) (by omega) (by simp;omega) (wr.heap.size+1) (by simp) ?_)
    intro Y cap a5 u p C E;have o:=ao p;have A:=Z u;have y:=Z (eX a.1 a.2.1 (Nat.le_refl _) o);clear p o u C E F;go_wp2
    go_roundw
    case rel=>exact⟨k+1,n+1,by omega,by omega,by go_num,by rw[jY d];simpa using a.out.2.2,y,by rw[jY d,List.flatMap_append];simpa[iD.cells]using A.out⟩
    case measure=>simp[intOf];omega
  ·obtain rfl:k=64:=by omega
   go_wp2
   go_ret;refine⟨_,rfl,?_,a.1⟩;have B:=a.2.1;rw[a.2.2,List.take_of_length_le (by rw[c.len];omega)]at B
   rwa [a.2.2,List.take_of_length_le (by rw[c.len];omega)]
theorem o8{w:World}{χ:Nat->a'}{L:cU}{Y:Var}{C:KC}{K:KS}(h:ae w χ L Y C K):Calls prog 32 #[(L.mb,0)] w (BA (rz K.table) w):=by
 have c:=h.ee;have b:=Z (vv L.tb L.tg K.table w (h.cZ (by simp)).is);go_in
 go_wp2_with (go_at_call 64;refine b.mono ?_;rintro e w' ⟨v,rfl,f,d⟩;have a:=Z (And.intro f d))
 go_ret;exact⟨v,rfl,a.1,a.2⟩
