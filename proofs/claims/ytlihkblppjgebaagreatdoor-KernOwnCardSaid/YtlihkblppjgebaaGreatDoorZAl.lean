import Derived.Deep.RegionHeldLaw
import Derived.Laws.Concat
import Derived.Test.YtlihkblppjgebaaGreatDoorZAk
set_option linter.all false
set_option maxRecDepth 100000
set_option maxHeartbeats 0
namespace Go.Proofs.YtlihkblppjgebaaGreatDoor
open Go.RowKit Go.Proofs.Tryz
variable{i:Nat}{w:World}{χ:Nat->a'}{L:cU}{Y:Var}{C:KC}{K:KS}
theorem gM{x:aC}(a:i<K.wk.length):(K.bj i x).W i=x:=KS.Cs (by show(K.wk.set i x)[i]?=_;rw[List.getElem?_set_self a])
theorem pK(i:Nat)(x y:aC):(K.bj i x).bj i y=K.bj i y:=by unfold KS.bj;simp
theorem Em(c:cJ)(f:cP)(a:i<K.wk.length):∃g,(K.cI c f).W i={K.W i with f:=g}:=by
 cases c with
 |own j=>
  show∃g,(K.bj j _).W i=_
  by_cases e:j=i
  ·subst e;exact⟨f,gM a⟩
  ·refine⟨(K.W i).f,?_⟩
   rw[KS.Cs (x:=K.W i) (by show(K.wk.set j _)[i]?=_;rw[List.getElem?_set_ne e];exact KS.ha a)]
 |ai id k=>exact⟨(K.W i).f,rfl⟩
theorem xJ(a:i<K.wk.length)(c:cJ)(f:cP):((K.cI c f).W i).hand=(K.W i).hand:=by
 obtain⟨g,h⟩:=Em c f a;rw[h]
theorem ae.FY(h:ae w χ L Y C K)(a:i<K.wk.length)(s d l:Int):∃aY Y',dD χ L Y C K (K.bj i {K.W i with slot:=s,hand:=d,left:=l}) w aY Y' (((w.setCell (L.wb,i*38) (.int .u64 s)).setCell (L.wb,i*38+1) (.int .u64 d)).setCell (L.wb,i*38+3) (.int .i64 l)):=by
 obtain⟨dZ,Y1,b⟩:=h.wj a s;obtain⟨m,k,c⟩:=b.at_.jT (i:=i) (by rw[bG];exact a) d;obtain⟨j,f,g⟩:=c.at_.wm (i:=i) (by rw[bG,bG];exact a) l;refine⟨j,f,?_⟩;have e:=(b.trans (Gr.of_eq rfl) c).trans (Gr.of_eq rfl) g;rw[pK,pK,gM (by rw[bG];exact a),gM a]at e;exact e
theorem Ad(i:Nat)(N:i<K.wk.length)(c:cJ)(b o:Nat)(M:aj K c)(O:aR L Y c b o)(P:∀k,k<32->aK ((K.F c).r k))(a d f j g l:Int)(J:0<=a/\a<32)(h:ae w χ L Y C K):
 Calls prog 166 #[(L.mb,0),(L.wb,i*38),(b,o),.agg #[.int .i64 30,a,d,f,.int .u64 j,g,l]] w (dk (.tuple #[]) χ L Y C K (b0 K i c ⟨30,a,d,f,j,g,l⟩) w):=by
 have H:=Z h;have t:=Z M;have v:=Z O;have F:=Z N;obtain⟨w0,Q,R,x,m⟩:=h.pre 30 a d f j g l;obtain⟨V,W⟩:=J;obtain⟨s,B⟩:∃y,(K.F c).r a.toNat=y:=⟨_,rfl⟩;have p:=Z B;have n:=Z (P a.toNat (by omega));rw[B]at n;obtain⟨T,U⟩:=n.out;obtain⟨t0,t1,t2,t3,t4,t5,t6⟩:=m.1.c7;have r:=x.at_.aA t v a.toNat (by omega);rw[p]at r;have E:Hid (b0 K i c ⟨30,a,d,f,j,g,l⟩=eK K i s):=Z (by unfold b0;dsimp only;rw[if_pos rfl,p]);go_in
 go_wp2
 try rw[Q]
 go_quiet (fail)
 obtain⟨w1,A⟩:=nm (w0.drewN nq);have u:Hid (Ch ag w0 w1):=Z (by rw[<-A];exact ay);rw[A];have q:=Z (x.af u);have z:Hid (aj K c/\aR L Y c b o):=Z ⟨t,v⟩;have D:=Z ((Nx.af u).row m.1 m.2);obtain⟨t0,t1,t2,t3,t4,t5,t6⟩:=D.1.c7;have r:=q.at_.aA z.1 z.2 a.toNat (by omega);rw[show((K:KS).F c).r a.toNat=s from p.out]at r;go_wp2_with fail
 refine(pJ i F s n q.at_).mono ?_;rintro e w2 ⟨rfl,X,S,I⟩;have G:=Z (q.trans (Gr.refl _) I);go_wp2
 go_end0
 rw[E];exact⟨rfl,_,_,G⟩
theorem Ae(i:Nat)(W:i<K.wk.length)(c:cJ)(b o:Nat)(V:aj K c)(X:aR L Y c b o)(a0:∀k,k<32->aK ((K.F c).r k))(a p q s r t:Int)(U:0<=a/\a<32)(M:aK (K.W i).hand)(h:ae w χ L Y C K):
 Calls prog 166 #[(L.mb,0),(L.wb,i*38),(b,o),.agg #[.int .i64 33,a,p,q,.int .u64 s,r,t]] w (dk (.tuple #[]) χ L Y C K (b0 K i c ⟨33,a,p,q,s,r,t⟩) w):=by
 have H:=Z h;have z:=Z V;have A:=Z X;have u:=Z W;obtain⟨w0,N,a3,D,f⟩:=h.pre 33 a p q s r t;obtain⟨al,am⟩:=U;obtain⟨P,O⟩:∃y,(K.F c).r a.toNat=y:=⟨_,rfl⟩;have B:=Z O;have I:=Z (a0 a.toNat (by omega));rw[O]at I;obtain⟨ab,ad⟩:=I.out;obtain⟨t0,t1,t2,t3,t4,t5,t6⟩:=f.1.c7;have n:=D.at_.aA z A a.toNat (by omega);rw[B]at n;obtain⟨hd,J⟩:=nm ((K.W i).hand);have j:=Z J;rw[J]at M;have Q:=Z M;by_cases F:hd=0
 ·subst F
  have E:Hid (b0 K i c ⟨33,a,p,q,s,r,t⟩=K):=Z (by unfold b0;dsimp only;rw[if_neg (by decide),if_pos rfl,if_neg (by rw[j.out];simp)]);go_in
  go_wp2
  try rw[N]
  go_quiet (fail)
  obtain⟨w1,m⟩:=nm (w0.drewN nq);have g:Hid (Ch ag w0 w1):=Z (by rw[<-m];exact ay);rw[m];have d:=Z (D.af g);have l:Hid (aj K c/\aR L Y c b o):=Z ⟨z,A⟩;have x:=Z ((Nx.af g).row f.1 f.2);obtain⟨t0,t1,t2,t3,t4,t5,t6⟩:=x.1.c7;have n:=d.at_.aA l.1 l.2 a.toNat (by omega);rw[show((K:KS).F c).r a.toNat=P from B.out]at n;have G:=d.at_.fD u;rw[j]at G;go_wp2
  go_end0
  rw[E];exact⟨rfl,_,_,d⟩
 ·have hb:(hd==0)=false:=by rw[beq_eq_false_iff_ne];exact F
  have E:Hid (b0 K i c ⟨33,a,p,q,s,r,t⟩=(cr K hd).bj i {(cr K hd).W i with hand:=0}):=Z (by unfold b0;dsimp only;rw[if_neg (by decide),if_pos rfl,if_pos (by rw[j.out];exact F),j]);go_in
  go_wp2
  try rw[N]
  go_quiet (fail)
  obtain⟨w1,m⟩:=nm (w0.drewN nq);have g:Hid (Ch ag w0 w1):=Z (by rw[<-m];exact ay);rw[m];have d:=Z (D.af g);have l:Hid (aj K c/\aR L Y c b o):=Z ⟨z,A⟩;have x:=Z ((Nx.af g).row f.1 f.2);obtain⟨t0,t1,t2,t3,t4,t5,t6⟩:=x.1.c7;have n:=d.at_.aA l.1 l.2 a.toNat (by omega);rw[show((K:KS).F c).r a.toNat=P from B.out]at n;have G:=d.at_.fD u;rw[j]at G;go_wp2_with fail
  refine(fh hd Q d.at_).mono ?_;rintro e w2 ⟨rfl,ap,a4,S⟩;have v:=Z (d.trans (Gr.refl _) S);have a9:=v.at_.fD (i:=i) (by exact u);have a5:=v.at_.uq (i*38+1);have T:=Z (v.at_.jT (i:=i) (by exact u) 0);go_wp2
  go_end0
  rw[E];obtain⟨a2,R,a1⟩:=T.out;exact⟨rfl,a2,R,v.trans (Gr.of_eq rfl) a1⟩
theorem Af(i:Nat)(c2:i<K.wk.length)(c:cJ)(b o:Nat)(c0:aj K c)(c3:aR L Y c b o)(c5:∀k,k<32->aK ((K.F c).r k))(a F G J I M:Int)(bx:0<=a/\a<32)(h:ae w χ L Y C K):
 Calls prog 166 #[(L.mb,0),(L.wb,i*38),(b,o),.agg #[.int .i64 34,a,F,G,.int .u64 J,I,M]] w (dk (.tuple #[]) χ L Y C K (b0 K i c ⟨34,a,F,G,J,I,M⟩) w):=by
 have H:=Z h;have j:=Z c0;have n:=Z c3;have m:=Z c2;obtain⟨w0,a9,ce,S,t⟩:=h.pre 34 a F G J I M;obtain⟨cL,cQ⟩:=bx;obtain⟨al,ad⟩:∃y,(K.F c).r a.toNat=y:=⟨_,rfl⟩;have R:=Z ad;have a2:=Z (c5 a.toNat (by omega));rw[ad]at a2;obtain⟨cA,cC⟩:=a2.out;obtain⟨t0,t1,t2,t3,t4,t5,t6⟩:=t.1.c7;have D:=S.at_.aA j n a.toNat (by omega);rw[R]at D;obtain⟨hd,c1⟩:=nm ((K.W i).hand);have am:=Z c1;have P:Hid (((K.ax c a.toNat 0).W i).hand=hd):=Z ((xJ m c _).trans am);have v:Hid ((K.ax c a.toNat 0).wk.length=K.wk.length):=Z (br _ _);have N:Hid (Gr K (K.ax c a.toNat 0)):=Z (bA j _);by_cases V:hd=0
 ·subst V
  obtain⟨p,c4⟩:=nm (gS K.ring);have a0:Hid (gS (K.ax c a.toNat 0).ring=p):=Z (by rw[<-c4];congr 1;exact xI _ _);obtain⟨pv,cm,c7⟩:=p;obtain⟨l,U⟩:=mn (({K.ax c a.toNat 0 with ring:=c7}:KS));have X:=Z U;have O:Hid (Gr K l):=Z (by rw[U];exact N.trans (Gr.of_eq rfl));have x:Hid (l.wk.length=K.wk.length):=Z (by rw[U];exact v);have a4:Hid ((l.bj i {l.W i with hand:=pv}).wk.length=K.wk.length):=Z ((bG _ _).trans x);have a3:Hid (((l.bj i {l.W i with hand:=pv}).W i).hand=pv):=Z (by rw[gM (by rw[x];exact m)]);have E:Hid (b0 K i c ⟨34,a,F,G,J,I,M⟩=(l.bj i {l.W i with hand:=pv}).ax c a.toNat pv):=Z (by unfold b0;dsimp only;rw[if_neg (by decide),if_neg (by decide),if_pos rfl,if_pos P.out,a0,<-X,a3]);go_in
  go_wp2
  try rw[a9]
  go_quiet (fail)
  obtain⟨w1,A⟩:=nm (w0.drewN nq);have u:Hid (Ch ag w0 w1):=Z (by rw[<-A];exact ay);rw[A];have f:=Z (S.af u);have d:Hid (aj K c/\aR L Y c b o):=Z ⟨j,n⟩;have Q:=Z ((Nx.af u).row t.1 t.2);obtain⟨t0,t1,t2,t3,t4,t5,t6⟩:=Q.1.c7;have D:=f.at_.aA d.1 d.2 a.toNat (by omega);rw[show((K:KS).F c).r a.toNat=al from R.out]at D;have bv:=f.at_.hy d.1 d.2 (o+1+a.toNat);obtain⟨c9,av,z⟩:=f.at_.a7 d.1 d.2 a.toNat (by omega) 0;obtain⟨w2,B⟩:=nm (w1.setCell (b,o+1+a.toNat) (.int .u64 0));rw[B]at z;have g:=Z (f.trans (Gr.refl _) z);have ap:=Z (g.cur j n N v);have W:=g.at_.fD (i:=i) (by rw[v];exact m);rw[P]at W;have k2:=g.at_.nX;have a1:=Z (xC g.at_);rw[a0]at a1;go_wp2_with fail
  try rw[B]
  refine a1.mono ?_;rintro e w3 ⟨rfl,cS,ch,T⟩;try dsimp only at T
  rw[<-X]at T;have q:=Z (g.trans N T);have cf:=Z (q.cur j n O x);have cd:=Z (q.nx.trans (Nx.refl _ _));have cs:=q.at_.fD (i:=i) (by rw[x];exact m);have ck:=q.at_.uq (i*38+1);obtain⟨cW,ci,a5⟩:=q.at_.jT (i:=i) (by rw[x];exact m) pv;obtain⟨w4,ab⟩:=nm (w3.setCell (L.wb,i*38+1) (.int .u64 pv));rw[ab]at a5;have r:=Z (q.trans O a5);have s:=Z (r.cur j n (O.trans (Gr.of_eq rfl)) a4);have c8:=r.at_.fD (i:=i) (by rw[a4];exact m);rw[a3]at c8;have cq:=r.at_.aA s.1 s.2 a.toNat (by omega);have cl:=r.at_.hy s.1 s.2 (o+1+a.toNat);have bw:=Z (r.at_.a7 s.1 s.2 a.toNat (by omega) pv);go_wp2
  try rw[ab]
  go_end0
  rw[E];obtain⟨cb,bi,c6⟩:=bw.out;exact⟨rfl,cb,bi,r.trans (O.trans (Gr.of_eq rfl)) c6⟩
 ·have hb:(hd==0)=false:=by rw[beq_eq_false_iff_ne];exact V
  have E:Hid (b0 K i c ⟨34,a,F,G,J,I,M⟩=K.ax c a.toNat 0):=Z (by unfold b0;dsimp only;rw[if_neg (by decide),if_neg (by decide),if_pos rfl,if_neg (by rw[P.out];exact V)]);go_in
  go_wp2
  try rw[a9]
  go_quiet (fail)
  obtain⟨w1,A⟩:=nm (w0.drewN nq);have u:Hid (Ch ag w0 w1):=Z (by rw[<-A];exact ay);rw[A];have f:=Z (S.af u);have d:Hid (aj K c/\aR L Y c b o):=Z ⟨j,n⟩;have Q:=Z ((Nx.af u).row t.1 t.2);obtain⟨t0,t1,t2,t3,t4,t5,t6⟩:=Q.1.c7;have D:=f.at_.aA d.1 d.2 a.toNat (by omega);rw[show((K:KS).F c).r a.toNat=al from R.out]at D;have bv:=f.at_.hy d.1 d.2 (o+1+a.toNat);obtain⟨c9,av,z⟩:=f.at_.a7 d.1 d.2 a.toNat (by omega) 0;obtain⟨w2,B⟩:=nm (w1.setCell (b,o+1+a.toNat) (.int .u64 0));rw[B]at z;have g:=Z (f.trans (Gr.refl _) z);have ap:=Z (g.cur j n N v);have W:=g.at_.fD (i:=i) (by rw[v];exact m);rw[P]at W;go_wp2
  try rw[B]
  go_end0
  rw[E];exact⟨rfl,_,_,g⟩
theorem Ag(i:Nat)(bw:i<K.wk.length)(c:cJ)(b o:Nat)(bv:aj K c)(bx:aR L Y c b o)(c0:∀k,k<32->aK ((K.F c).r k))(a B F I G J:Int)(bi:0<=a/\a<32)(a4:aK (K.W i).hand)(h:ae w χ L Y C K):
 Calls prog 166 #[(L.mb,0),(L.wb,i*38),(b,o),.agg #[.int .i64 35,a,B,F,.int .u64 I,G,J]] w (dk (.tuple #[]) χ L Y C K (b0 K i c ⟨35,a,B,F,I,G,J⟩) w):=by
 have H:=Z h;have M:=Z bv;have N:=Z bx;have f:=Z bw;obtain⟨w0,V,c3,P,p⟩:=h.pre 35 a B F I G J;obtain⟨cd,ce⟩:=bi;obtain⟨W,a9⟩:∃y,(K.F c).r a.toNat=y:=⟨_,rfl⟩;have q:=Z a9;have a1:=Z (c0 a.toNat (by omega));rw[a9]at a1;obtain⟨c9,cb⟩:=a1.out;obtain⟨t0,t1,t2,t3,t4,t5,t6⟩:=p.1.c7;have r:=P.at_.aA M N a.toNat (by omega);rw[q]at r;obtain⟨hd,a3⟩:=nm ((K.W i).hand);have l:=Z a3;obtain⟨ab,c1⟩:=nm ((K.W i).slot);have t:=Z c1;rw[a3]at a4;have al:=Z a4;by_cases S:hd=0
 ·subst S
  have E:Hid (b0 K i c ⟨35,a,B,F,I,G,J⟩=K):=Z (by unfold b0;dsimp only;rw[if_neg (by decide),if_neg (by decide),if_neg (by decide),if_pos rfl,if_neg (by rw[q.out,l,t];simp)]);go_in
  go_wp2
  try rw[V]
  go_quiet (fail)
  obtain⟨w1,n⟩:=nm (w0.drewN nq);have j:Hid (Ch ag w0 w1):=Z (by rw[<-n];exact ay);rw[n];have d:=Z (P.af j);have m:Hid (aj K c/\aR L Y c b o):=Z ⟨M,N⟩;have x:=Z ((Nx.af j).row p.1 p.2);obtain⟨t0,t1,t2,t3,t4,t5,t6⟩:=x.1.c7;have r:=d.at_.aA m.1 m.2 a.toNat (by omega);rw[show((K:KS).F c).r a.toNat=W from q.out]at r;have s:=d.at_.fD f;rw[l]at s;have u:=d.at_.mK f;rw[t]at u;go_wp2
  go_quiet (fail)
  generalize A:w1.drewN _=w2;have z:=Z (Ch.dN (D:=ag) A);have g:=Z (d.af z);go_wp2
  go_end0
  rw[E];exact⟨rfl,_,_,g⟩
 ·have hb:(hd==0)=false:=by rw[beq_eq_false_iff_ne];exact S
  by_cases T:W=hd
  ·by_cases Q:ab=0
   ·obtain rfl:=T.symm
    subst Q;have hb:(hd==0)=false:=(by rw[beq_eq_false_iff_ne];exact S);obtain⟨O,U⟩:=mn (K.bj i {K.W i with slot:=hd,hand:=0,left:=24});have X:=Z U;have ad:Hid (Gr K O):=Z (by rw[U];exact Gr.of_eq rfl);have am:Hid (O.wk.length=K.wk.length):=Z (by rw[U];exact bG _ _);have a0:Hid ((O.W i).slot=hd):=Z (by rw[U,gM f]);have E:Hid (b0 K i c ⟨35,a,B,F,I,G,J⟩={O with table:=(j4 O.table hd 2).2}):=Z (by unfold b0;dsimp only;rw[if_neg (by decide),if_neg (by decide),if_neg (by decide),if_pos rfl,if_pos ⟨by rw[l.out];exact S,by rw[q,l],t⟩,l,<-X,a0]);go_in
    go_wp2
    try rw[V]
    go_quiet (fail)
    obtain⟨w1,n⟩:=nm (w0.drewN nq);have j:Hid (Ch ag w0 w1):=Z (by rw[<-n];exact ay);rw[n];have d:=Z (P.af j);have m:Hid (aj K c/\aR L Y c b o):=Z ⟨M,N⟩;have x:=Z ((Nx.af j).row p.1 p.2);obtain⟨t0,t1,t2,t3,t4,t5,t6⟩:=x.1.c7;have r:=d.at_.aA m.1 m.2 a.toNat (by omega);rw[show((K:KS).F c).r a.toNat=hd from q.out]at r;have s:=d.at_.fD f;rw[l]at s;have u:=d.at_.mK f;rw[t]at u;go_wp2
    go_quiet (fail)
    generalize A:w1.drewN _=w2;have z:=Z (Ch.dN (D:=ag) A);have g:=Z (d.af z);have s:=g.at_.fD f;rw[l]at s;have u:=g.at_.mK f;have c8:=g.at_.Dy f;have f0:=g.at_.uq (i*38);have f1:=g.at_.uq (i*38+1);have f3:=g.at_.uq (i*38+3);obtain⟨w3,a5⟩:=nm (((w2.setCell (L.wb,i*38) (.int .u64 hd)).setCell (L.wb,i*38+1) (.int .u64 0)).setCell (L.wb,i*38+3) (.int .i64 24));have a2:=g.at_.FY f hd 0 24;rw[a5,<-X]at a2;obtain⟨cf,c4,Q⟩:=a2;have R:=Z (g.trans (Gr.refl _) Q);have k3:=R.at_.ee;have c2:=R.at_.mK (i:=i) (by rw[am];exact f);rw[a0]at c2;go_wp2
    try rw[a5]
    go_still_tail 8,(by kernel_rfl)
    change wpList _ _ _ _ _ w3.drew;go_wp2_with fail
    refine(qI hd 2 al R.at_.drew).mono ?_;rintro e w4 ⟨⟨v,rfl,_⟩,ch,c5,av⟩;have ap:=Z ((R.af ay).trans ad av);go_wp2
    go_end0
    rw[E];exact⟨rfl,_,_,ap⟩
   ·obtain rfl:=T.symm
    have c7:(ab==0)=false:=(by rw[beq_eq_false_iff_ne];exact Q);have E:Hid (b0 K i c ⟨35,a,B,F,I,G,J⟩=K):=Z (by unfold b0;dsimp only;rw[if_neg (by decide),if_neg (by decide),if_neg (by decide),if_pos rfl,if_neg (by rw[q.out,l,t];exact fun e=>Q e.2.2)]);go_in
    go_wp2
    try rw[V]
    go_quiet (fail)
    obtain⟨w1,n⟩:=nm (w0.drewN nq);have j:Hid (Ch ag w0 w1):=Z (by rw[<-n];exact ay);rw[n];have d:=Z (P.af j);have m:Hid (aj K c/\aR L Y c b o):=Z ⟨M,N⟩;have x:=Z ((Nx.af j).row p.1 p.2);obtain⟨t0,t1,t2,t3,t4,t5,t6⟩:=x.1.c7;have r:=d.at_.aA m.1 m.2 a.toNat (by omega);rw[show((K:KS).F c).r a.toNat=hd from q.out]at r;have s:=d.at_.fD f;rw[l]at s;have u:=d.at_.mK f;rw[t]at u;go_wp2
    go_quiet (fail)
    generalize A:w1.drewN _=w2;have z:=Z (Ch.dN (D:=ag) A);have g:=Z (d.af z);go_wp2
    go_end0
    rw[E];exact⟨rfl,_,_,g⟩
  ·have c6:(W==hd)=false:=by rw[beq_eq_false_iff_ne];exact T
   have E:Hid (b0 K i c ⟨35,a,B,F,I,G,J⟩=K):=Z (by unfold b0;dsimp only;rw[if_neg (by decide),if_neg (by decide),if_neg (by decide),if_pos rfl,if_neg (by rw[q.out,l,t];exact fun e=>T e.2.1)]);go_in
   go_wp2
   try rw[V]
   go_quiet (fail)
   obtain⟨w1,n⟩:=nm (w0.drewN nq);have j:Hid (Ch ag w0 w1):=Z (by rw[<-n];exact ay);rw[n];have d:=Z (P.af j);have m:Hid (aj K c/\aR L Y c b o):=Z ⟨M,N⟩;have x:=Z ((Nx.af j).row p.1 p.2);obtain⟨t0,t1,t2,t3,t4,t5,t6⟩:=x.1.c7;have r:=d.at_.aA m.1 m.2 a.toNat (by omega);rw[show((K:KS).F c).r a.toNat=W from q.out]at r;have s:=d.at_.fD f;rw[l]at s;have u:=d.at_.mK f;rw[t]at u;go_wp2
   go_quiet (fail)
   generalize A:w1.drewN _=w2;have z:=Z (Ch.dN (D:=ag) A);have g:=Z (d.af z);go_wp2
   go_end0
   rw[E];exact⟨rfl,_,_,g⟩
variable{c:cJ}{b o:Nat}
open Classical in
theorem Ch.cut{D E:Nat->Prop}{w w':World}(h:Ch (D8 E D) w w'):∃w1,Ch E w w1/\Ch D w1 w'/\Ch D w' w1:=by
 refine⟨{w' with heap:=w'.heap.mapIdx fun k o=>if D k then(w.heap[k]?).getD o else o},⟨h.os,h.tape,h.output,?_,?_⟩,⟨rfl,rfl,rfl,?_,?_⟩,⟨rfl,rfl,rfl,?_,?_⟩⟩
 ·rw[Array.size_mapIdx];exact h.size
 ·intro k a d
  show(w'.heap.mapIdx _)[k]?=_
  rw[Array.getElem?_mapIdx];have f:k<w'.heap.size:=Nat.lt_of_lt_of_le a h.size;by_cases hd:D k
  ·rw[Array.getElem?_eq_getElem f]
   simp[hd,Array.getElem?_eq_getElem a]
  ·rw[h.same k a (fun e=>e.elim d hd),Array.getElem?_eq_getElem a]
   simp[hd]
 ·rw[Array.size_mapIdx];exact Nat.le_refl _
 ·intro k a hd
  show _=(w'.heap.mapIdx _)[k]?
  rw[Array.getElem?_mapIdx];cases w'.heap[k]?<;>simp[hd]
 ·rw[Array.size_mapIdx];exact Nat.le_refl _
 ·intro k a hd
  show(w'.heap.mapIdx _)[k]?=_
  rw[Array.getElem?_mapIdx];cases w'.heap[k]?<;>simp[hd]
variable{w':World}
theorem ae.FZ(h:ae w χ L Y C K)(a:aj K c)(e:aR L Y c b o):∃pre post v,aJ w b o (qL c) pre post v (K.F c)/\(χ b=.wk∨∃id k,χ b=.fr id k)/\∀g,v.ownBlock=some g->χ g=.back:=by
 cases c with
 |own i=>
  obtain⟨rfl,rfl⟩:=e;obtain⟨pre,post,j,_⟩:=h.ur a;exact⟨_,_,_,j,Or.inl (h.wk (by simp)).k,fun g l=>(h.wk (by simp)).kb i _ (KS.ha a) g l⟩
 |ai id k=>
  obtain⟨rfl,rfl⟩:=e;obtain⟨t,f,d⟩:=a;have hF:=h.fr id t k _ f (List.getElem?_eq_getElem d) (by simp);refine⟨[],(t.l[k]).post,Y.bv id k,?_,Or.inr ⟨id,k,hF.kf⟩,hF.kb⟩;rw[show K.F (.ai id k)=(t.l[k]).f from by
   show((K.T id).l.getD k default).f=_
   rw[KS.dm f,List.getD_eq_getElem?_getD,List.getElem?_eq_getElem d];rfl]
  exact hF.is
theorem xK(K:KS)(c:cJ)(f:cP)(S:aI):({K with mem:=S}:KS).cI c f={K.cI c f with mem:=S}:=by cases c<;>rfl
theorem ae.Cx(h:ae w χ L Y C K)(l:aj K c)(D:aR L Y c b o){pre post:List Value}{v v':Value}{f:cP}{S:aI}(u:aJ w b o (qL c) pre post v (K.F c))(m:χ b=.wk∨∃id k,χ b=.fr id k)(E:∀g,v.ownBlock=some g->χ g=.back)
 (x:aJ w' b o (qL c) pre post v' f) (n:aS w v v') (B:aO w' L.m L.c L.d S) (t:Ch (D8 (aH b) (cK L.m L.c)) w w'):∃aY Y',dD χ L Y C K (({K with mem:=S}:KS).cI c f) w aY Y' w':=by
 obtain⟨w1,q,r,s⟩:=t.cut;have a:=h.mem (by simp);have hb:¬cK L.m L.c b:=fun e=>by
  rcases e with rfl|rfl
  ·rcases m with e|⟨_,_,e⟩<;>rw[a.k1]at e<;>cases e
  ·rcases m with e|⟨_,_,e⟩<;>rw[a.k2]at e<;>cases e
 have y:aJ w1 b o (qL c) pre post v' f:=x.ch s hb (fun g z e=>by
  rcases n g z with j|j
  ·have d:=E g j
   rcases e with rfl|rfl
   ·rw[a.k1]at d;cases d
   ·rw[a.k2]at d;cases d
  ·rcases e with rfl|rfl
   ·have:=a.is.head.lt;omega
   ·have:=a.is.cells.lt;omega)
 obtain⟨dZ,Y1,p⟩:=h.z1 l D u y n q;have F:=p.at_.mH B r (fun i A=>ff A);rw[xK];exact⟨dZ,Y1,p.trans (bA l f) F⟩
section
variable{b:Nat}
section
variable{w w1 w2:World}{χ aY:Nat->a'}{L:cU}{Y Y':Var}{C:KC}{K K':KS}
theorem ae.plain(h:ae w1 χ L Y C K)(hb:χ b=.no)(c:Ch (aH b) w1 w2):ae w2 χ L Y C K:=by
 have s:eT [.no] χ χ (aH b) w1 w2:=eT.one c (fun i e=>by rw[show i=b from e];simp[hb]) h.small;have k:=h.step s (by simp);exact {head:=fun _=>k.head (by simp),mem:=fun _=>k.mem (by simp),al:=fun _=>k.al (by simp),b2:=fun _=>k.b2 (by simp),ring:=fun _=>k.ring (by simp),q:=fun _=>k.q (by simp),cZ:=fun _=>k.cZ (by simp),obj:=fun _=>k.obj (by simp),wk:=fun _=>k.wk (by simp),tm:=fun _=>k.tm (by simp),th:=fun i t h _=>k.th i t h (by simp),tl:=fun i t h _=>k.tl i t h (by simp),fr:=fun i t j f a d _=>k.fr i t j f a d (by simp),out:=fun _=>k.out (by simp),code:=fun _=>k.code (by simp),small:=k.small}
theorem dD.plain(m:dD χ L Y C K K' w aY Y' w1)(hb:aY b=.no)(f:w.heap.size<=b)(c:Ch (aH b) w1 w2):dD χ L Y C K K' w aY Y' w2:=
 ⟨m.at_.plain hb c,⟨⟨c.os.trans m.nx.ch.os,c.tape.trans m.nx.ch.tape,c.output.trans m.nx.ch.output,Nat.le_trans m.nx.ch.size c.size,fun k a d=>(c.same k (Nat.lt_of_lt_of_le a m.nx.ch.size) (fun e=>by rw[show k=b from e]at a;omega)).trans (m.nx.ch.same k a d)⟩,m.nx.same⟩,m.yk⟩
end
end
variable{l:List be}{pc:Int}
theorem oc(a:0<=pc)(b:pc<l.length):l[pc.toNat]?=some (fB l pc):=by
 unfold fB;rw[if_pos ⟨a,b⟩,List.getD_eq_getElem?_getD,List.getElem?_eq_getElem (by omega)];rfl
theorem lX(h:¬(0<=pc/\pc<l.length)):fB l pc=⟨0,0,0,0,0,0,0⟩:=by unfold fB;rw[if_neg h]
theorem F0(c:cJ)(b o:Nat)(n:aj K c)(s:aR L Y c b o)(H:∀k,k<32->aK ((K.F c).r k))(A:(K.F c).back.length<=8)(J:∀x∈C.dH,aK x.v)(M:C.dH.length<=2048)(h:ae w χ L Y C K):
 Calls prog 137 #[(b,o),.slice L.lc C.dH.length L.Dt,.iface 103 (.pointer (some (L.m,0)))] w
  (zz (cB C K c).2.1 (fun w'=>∃aY Y',dD χ L Y C K (cB C K c).2.2 w aY Y' w')):=by
 obtain⟨pre,post,v,q,r,y⟩:=h.FZ n s;have a:=h.mem (by simp);have p:=h.code (by simp);have m:b≠L.m/\b≠L.c/\b≠L.d:=by
  refine⟨?_,?_,?_⟩<;>intro e<;>subst e<;>rcases r with e|⟨_,_,e⟩
  ·rw[a.k1]at e;cases e
  ·rw[a.k1]at e;cases e
  ·rw[a.k2]at e;cases e
  ·rw[a.k2]at e;cases e
  ·rw[a.k3]at e;cases e
  ·rw[a.k3]at e;cases e
 have I:=rQ (zA L.m L.c L.d) K.mem (Z trivial) b o (qL c) (kY c) pre post v (K.F c) C.dH L.lc C.dH.length L.Dt rfl p.m4 (by omega) A H J w q
  (fun t=>by obtain⟨g,f,d,_⟩:=p.cg (by intro e;rw[e]at t;exact absurd t (by simp));exact⟨g,0,f,fun j u E=>by rw[Nat.zero_add];exact d.cell j u E⟩) a.is
  (fun S w w' v1 f1 v2 f2 f _ _ _ d=>aO.ch f d (fun e=>m.1 (Eq.symm e)) (fun e=>m.2.1 (Eq.symm e)) (fun e=>m.2.2 (Eq.symm e)))
  (fun e=>by rcases e with e|e;exact m.1 e;exact m.2.1 e)
  (fun i N e=>by rcases e with rfl|rfl;have:=a.is.head.lt;omega;have:=a.is.cells.lt;omega)
  (fun g D e=>by
   have d:=y g D;rcases e with rfl|rfl
   ·rw[a.k1]at d;cases d
   ·rw[a.k2]at d;cases d)
 refine I.mono ?_;rintro e w' ⟨f,⟨v',B,F⟩,G,z⟩;exact⟨f,h.Cx n s q r y B F G z⟩
theorem xL(x:be):aL x=.agg #[x.op,x.a,x.b,x.c,.int .u64 x.v,x.m,x.wh]:=rfl
theorem pL(c:cJ)(b o:Nat)(c7:aj K c)(c8:aR L Y c b o)(et:∀k,k<32->aK ((K.F c).r k))(dN:(K.F c).back.length<=8)(eC:∀x∈C.dH,aK x.v)(cs:C.dH.length<=2048)(h:ae w χ L Y C K):
 Calls prog 132 #[(L.mb,0),(b,o)] w (dk (.tuple #[aL (cB C K c).1,.int .i64 (cB C K c).2.1]) χ L Y C K (cB C K c).2.2 w):=by
 have H:=Z h;have G:=Z c7;have J:=Z c8;have O:=Z (fun w (h:ae w χ L Y C K)=>F0 c b o c7 c8 et dN eC cs h);have cq:=h.code (by simp);have g7:=Z cq;obtain⟨pc,c9⟩:=nm ((K.F c).pc);have M:=Z c9;obtain⟨N,c4⟩:=nm C.dH.length;have p:=Z c4;have hf:N<=2048:=by rw[<-c4];exact cs
 have eL:=h.uu c7 c8;rw[c9]at eL;have k0:=h.c0;rw[c4]at k0;have Q:=h.cO;have cQ:(cB C K c).1=fB C.dH pc:=by unfold cB;rw[c9]
 obtain⟨s,eA⟩:=nm (cB C K c);rw[eA]at O cQ⊢;obtain⟨x,n,K'⟩:=s;rw[c4]at O;have c6:=Z cQ;have en:C.dH≠[]->∃g,L.lc=some ⟨g,0,none⟩/\fN w g C.dH:=fun es=>by obtain⟨g,a4,dC,_⟩:=cq.cg es;exact⟨g,a4,dC⟩
 have cS:=Z en;by_cases dr:pc<0
 ·have P:¬0<=pc:=by omega
  have cC:decide (0<=pc)=false:=by simpa using dr
  have cd:x=⟨0,0,0,0,0,0,0⟩:=by have:=c6.out;dsimp only at this;rw[this];exact lX (fun e=>by have X:=e.2;rw[p]at X;omega)
  subst cd;obtain⟨w1,j⟩:=nm ((w.alloc (.cells #[.int .i64 0,.int .i64 0,.int .i64 0,.int .i64 0,.int .u64 0,.int .i64 0,.int .i64 0] 184)).alloc (.cells #[.int .i64 0,.int .i64 0,.int .i64 0,.int .i64 0,.int .u64 0,.int .i64 0,.int .i64 0] 184));have I:Hid (Ch ag w w1):=Z (by rw[<-j];exact ay);have r:=Z (H.gU I);have R:Hid (Row w1 w.heap.size 184 [.int .i64 0,.int .i64 0,.int .i64 0,.int .i64 0,.int .u64 0,.int .i64 0,.int .i64 0]):=Z (by rw[<-j];exact(Row.new w _ _).alloc _);have S:Hid (Row w1 (w.heap.size+1) 184 [.int .i64 0,.int .i64 0,.int .i64 0,.int .i64 0,.int .u64 0,.int .i64 0,.int .i64 0]):=Z (by
   rw[<-j];have:=Row.new (w.alloc (.cells #[.int .i64 0,.int .i64 0,.int .i64 0,.int .i64 0,.int .u64 0,.int .i64 0,.int .i64 0] 184)) #[.int .i64 0,.int .i64 0,.int .i64 0,.int .i64 0,.int .u64 0,.int .i64 0,.int .i64 0] 184
   rwa [World.size_alloc]at this)
  have p1:=r.at_.uu G J;rw[M]at p1;have k1:=r.at_.c0;rw[p]at k1;go_in
  go_upto_region 2 with fail
  try rw[j]
  go_quiet (fail)
  obtain⟨w2,A⟩:=nm (w1.drewN nq);have q:=Z (Ch.dN (D:=ag) A);rw[A];have i:=Z (r.af q);have B:=Z (R.ch q id);have f:=Z (S.ch q id);have p1:=i.at_.uu G J;rw[M]at p1;have k1:=i.at_.c0;rw[p]at k1;have Q:=i.at_.cO;go_wp2
  go_region_held3 (fun w'=>w'.cell? (L.mb,0)=some (.slice L.lc N L.Dt)/\w'.cell? (L.mb,1007)=some (.pointer (some (L.m,0)))) (go_keep) ((go_at_call 137;refine(O _ i.at_.drew).mono ?_;rintro e w3 ⟨⟨u,rfl,cL⟩,c2,W,y⟩;have t:=Z ((i.af ay).trans (Gr.refl _) y);have a:=Z (((Nx.af (Ch.refl _ w2).drew).trans y.nx).row B (H.fresh (Nat.le_refl _)));have d:=Z (((Nx.af (Ch.refl _ w2).drew).trans y.nx).row f (H.fresh (Nat.le_succ _)));have k1:=t.at_.c0;rw[p]at k1;have Q:=t.at_.cO))
  all_goals
   have x0:=d.1.c1;have a0:=a.1.c1;have f0:=a.1.free 0;have x1:=d.1.k 1 rfl;have a1:=a.1.k 1 rfl;have f1:=a.1.free 1;have x2:=d.1.k 2 rfl;have a2:=a.1.k 2 rfl;have f2:=a.1.free 2;have x3:=d.1.k 3 rfl;have a3:=a.1.k 3 rfl;have f3:=a.1.free 3;have x4:=d.1.k 4 rfl;have ck:=a.1.k 4 rfl;have f4:=a.1.free 4;have x5:=d.1.k 5 rfl;have cl:=a.1.k 5 rfl;have f5:=a.1.free 5;have x6:=d.1.k 6 rfl;have cm:=a.1.k 6 rfl;have f6:=a.1.free 6;go_wp2
   obtain⟨w4,z⟩:=nm ((((((((w3.setCell ⟨w.heap.size,0,none⟩ (.int .i64 0)).setCell ⟨w.heap.size,1,none⟩ (.int .i64 0)).setCell ⟨w.heap.size,2,none⟩ (.int .i64 0)).setCell ⟨w.heap.size,3,none⟩ (.int .i64 0)).setCell ⟨w.heap.size,4,none⟩ (.int .u64 0)).setCell ⟨w.heap.size,5,none⟩ (.int .i64 0)).setCell ⟨w.heap.size,6,none⟩ (.int .i64 0)));have U:Hid (Row w4 w.heap.size 184 [.int .i64 0,.int .i64 0,.int .i64 0,.int .i64 0,.int .u64 0,.int .i64 0,.int .i64 0]):=Z (by rw[<-z];exact(((((((a.1.set 0 _).set 1 _).set 2 _).set 3 _).set 4 _).set 5 _).set 6 _));have T:Hid (Ch (aH w.heap.size) w3 w4):=Z (by rw[<-z];exact ay);rw[z];have V:=t.plain a.2 (Nat.le_refl _) T;obtain⟨y0,bi,bv,bw,bx,c0,c1⟩:=U.c7;refine bodyPost_ret (v:=.tuple #[aL ⟨0,0,0,0,0,0,0⟩,n]) ?_ rfl ?_
   ·simp[results,Tryz.f132,go_sem,y0,bi,bv,bw,bx,c0,c1,aL,aD]
   ·exact⟨rfl,c2,W,V⟩
 ·by_cases a4:pc<N
  ·have P:0<=pc:=by omega
   have cC:decide (0<=pc)=true:=(by simpa using P);have ec:decide (pc<(N:Int))=true:=(by simpa using a4);have c5:C.dH[pc.toNat]?=some x:=(by have:=c6.out;dsimp only at this;rw[this];exact oc P (by rw[p];exact a4));obtain⟨g,cA,ex⟩:=cS (by intro e;rw[e]at c5;cases c5);have cW:=Z ex;rw[cA]at k0 O;have c3:=Z cA;obtain⟨m,rfl⟩:=Int.eq_ofNat_of_zero_le P;rw[Int.toNat_natCast]at c5;obtain⟨g0,g1,g2,g3,g4,g5,g6⟩:=eU C.dH m x c5;have F:=Z (And.intro g0 (And.intro g1 (And.intro g2 (And.intro g3 (And.intro g4 (And.intro g5 g6))))));obtain⟨am,a9,ab,ad,ap,al,av⟩:=x;obtain⟨w1,j⟩:=nm ((w.alloc (.cells #[.int .i64 0,.int .i64 0,.int .i64 0,.int .i64 0,.int .u64 0,.int .i64 0,.int .i64 0] 184)).alloc (.cells #[.int .i64 0,.int .i64 0,.int .i64 0,.int .i64 0,.int .u64 0,.int .i64 0,.int .i64 0] 184));have I:Hid (Ch ag w w1):=Z (by rw[<-j];exact ay);have r:=Z (H.gU I);have R:Hid (Row w1 w.heap.size 184 [.int .i64 0,.int .i64 0,.int .i64 0,.int .i64 0,.int .u64 0,.int .i64 0,.int .i64 0]):=Z (by rw[<-j];exact(Row.new w _ _).alloc _);have S:Hid (Row w1 (w.heap.size+1) 184 [.int .i64 0,.int .i64 0,.int .i64 0,.int .i64 0,.int .u64 0,.int .i64 0,.int .i64 0]):=Z (by
    rw[<-j];have:=Row.new (w.alloc (.cells #[.int .i64 0,.int .i64 0,.int .i64 0,.int .i64 0,.int .u64 0,.int .i64 0,.int .i64 0] 184)) #[.int .i64 0,.int .i64 0,.int .i64 0,.int .i64 0,.int .u64 0,.int .i64 0,.int .i64 0] 184
    rwa [World.size_alloc]at this)
   have p1:=r.at_.uu G J;rw[M]at p1;have k1:=r.at_.c0;rw[p,c3]at k1;go_in
   go_upto_region 2 with fail
   try rw[j]
   go_quiet (fail)
   obtain⟨w2,A⟩:=nm (w1.drewN nq);have q:=Z (Ch.dN (D:=ag) A);rw[A];have i:=Z (r.af q);have B:=Z (R.ch q id);have f:=Z (S.ch q id);have p1:=i.at_.uu G J;rw[M]at p1;have k1:=i.at_.c0;rw[p,c3]at k1;have E:=Z (cW.ch (I.trans q) id);have eS:=E.cell _ _ F.1;have eW:=E.cell _ _ F.2.1;have fb:=E.cell _ _ F.2.2.1;have fd:=E.cell _ _ F.2.2.2.1;have fn:=E.cell _ _ F.2.2.2.2.1;have fr:=E.cell _ _ F.2.2.2.2.2.1;have fz:=E.cell _ _ F.2.2.2.2.2.2;have g8:=f.c1;have gr:=f.free 0;have g9:=f.k 1 rfl;have gs:=f.free 1;have gc:=f.k 2 rfl;have X:=f.free 2;have ge:=f.k 3 rfl;have gt:=f.free 3;have gf:=f.k 4 rfl;have hb:=f.free 4;have gk:=f.k 5 rfl;have hd:=f.free 5;have go:=f.k 6 rfl;have he:=f.free 6;dsimp only at eS eW fb fd fn fr fz;go_wp2
   go_still_tail 11,(by kernel_rfl)
   change wpList _ _ _ _ _ w2.drew;go_upto_region 4 with fail
   obtain⟨a5,cb⟩:∃a5,((((((((w2.setCell ⟨w.heap.size+1,0,none⟩ (.int .i64 am)).setCell ⟨w.heap.size+1,1,none⟩ (.int .i64 a9)).setCell ⟨w.heap.size+1,2,none⟩ (.int .i64 ab)).setCell ⟨w.heap.size+1,3,none⟩ (.int .i64 ad)).setCell ⟨w.heap.size+1,4,none⟩ (.int .u64 ap)).setCell ⟨w.heap.size+1,5,none⟩ (.int .i64 al)).setCell ⟨w.heap.size+1,6,none⟩ (.int .i64 av))).drew=a5:=⟨_,rfl⟩;have ch:Hid (Ch (aH (w.heap.size+1)) w2 a5):=Z (by rw[<-cb];exact ay);have cf:Hid (Row a5 (w.heap.size+1) 184 [am,a9,ab,ad,.int .u64 ap,al,av]):=Z (by rw[<-cb];exact((((((((f.set 0 _).set 1 _).set 2 _).set 3 _).set 4 _).set 5 _).set 6 _)).drew);rw[cb];have ci:=Z (i.plain (H.fresh (Nat.le_succ _)) (Nat.le_succ _) ch);have ce:=Z (B.ch ch (fun e=>by have X:w.heap.size=w.heap.size+1:=e;omega));obtain⟨w2,A⟩:∃w2,a5=w2:=⟨_,rfl⟩;rw[A]at ci ce cf⊢;have i:=ci;have B:=ce;have f:=cf;have k1:=i.at_.c0;rw[p,c3]at k1;have Q:=i.at_.cO;go_wp2
   go_region_held3 (fun w'=>w'.cell? (L.mb,0)=some (.slice (some ⟨g,0,none⟩) N L.Dt)/\w'.cell? (L.mb,1007)=some (.pointer (some (L.m,0)))) (go_keep) ((go_at_call 137;refine(O _ i.at_.drew).mono ?_;rintro e w3 ⟨⟨u,rfl,cL⟩,c2,W,y⟩;have t:=Z ((i.af ay).trans (Gr.refl _) y);have a:=Z (((Nx.af (Ch.refl _ w2).drew).trans y.nx).row B (H.fresh (Nat.le_refl _)));have d:=Z (((Nx.af (Ch.refl _ w2).drew).trans y.nx).row f (H.fresh (Nat.le_succ _)));have k1:=t.at_.c0;rw[p,c3]at k1;have Q:=t.at_.cO))
   all_goals
    have x0:=d.1.c1;have a0:=a.1.c1;have f0:=a.1.free 0;have x1:=d.1.k 1 rfl;have a1:=a.1.k 1 rfl;have f1:=a.1.free 1;have x2:=d.1.k 2 rfl;have a2:=a.1.k 2 rfl;have f2:=a.1.free 2;have x3:=d.1.k 3 rfl;have a3:=a.1.k 3 rfl;have f3:=a.1.free 3;have x4:=d.1.k 4 rfl;have ck:=a.1.k 4 rfl;have f4:=a.1.free 4;have x5:=d.1.k 5 rfl;have cl:=a.1.k 5 rfl;have f5:=a.1.free 5;have x6:=d.1.k 6 rfl;have cm:=a.1.k 6 rfl;have f6:=a.1.free 6;go_wp2
    obtain⟨w4,z⟩:=nm ((((((((w3.setCell ⟨w.heap.size,0,none⟩ (.int .i64 am)).setCell ⟨w.heap.size,1,none⟩ (.int .i64 a9)).setCell ⟨w.heap.size,2,none⟩ (.int .i64 ab)).setCell ⟨w.heap.size,3,none⟩ (.int .i64 ad)).setCell ⟨w.heap.size,4,none⟩ (.int .u64 ap)).setCell ⟨w.heap.size,5,none⟩ (.int .i64 al)).setCell ⟨w.heap.size,6,none⟩ (.int .i64 av)));have U:Hid (Row w4 w.heap.size 184 [am,a9,ab,ad,.int .u64 ap,al,av]):=Z (by rw[<-z];exact(((((((a.1.set 0 _).set 1 _).set 2 _).set 3 _).set 4 _).set 5 _).set 6 _));have T:Hid (Ch (aH w.heap.size) w3 w4):=Z (by rw[<-z];exact ay);rw[z];have V:=t.plain a.2 (Nat.le_refl _) T;obtain⟨y0,bi,bv,bw,bx,c0,c1⟩:=U.c7;refine bodyPost_ret (v:=.tuple #[aL ⟨am,a9,ab,ad,ap,al,av⟩,n]) ?_ rfl ?_
    ·simp[results,Tryz.f132,go_sem,y0,bi,bv,bw,bx,c0,c1,aL,aD]
    ·exact⟨rfl,c2,W,V⟩
  ·have P:0<=pc:=by omega
   have cC:decide (0<=pc)=true:=(by simpa using P);have ec:decide (pc<(N:Int))=false:=(by simpa using a4);have cd:x=⟨0,0,0,0,0,0,0⟩:=(by have:=c6.out;dsimp only at this;rw[this];exact lX (fun e=>by have X:=e.2;rw[p]at X;omega));subst cd;obtain⟨w1,j⟩:=nm ((w.alloc (.cells #[.int .i64 0,.int .i64 0,.int .i64 0,.int .i64 0,.int .u64 0,.int .i64 0,.int .i64 0] 184)).alloc (.cells #[.int .i64 0,.int .i64 0,.int .i64 0,.int .i64 0,.int .u64 0,.int .i64 0,.int .i64 0] 184));have I:Hid (Ch ag w w1):=Z (by rw[<-j];exact ay);have r:=Z (H.gU I);have R:Hid (Row w1 w.heap.size 184 [.int .i64 0,.int .i64 0,.int .i64 0,.int .i64 0,.int .u64 0,.int .i64 0,.int .i64 0]):=Z (by rw[<-j];exact(Row.new w _ _).alloc _);have S:Hid (Row w1 (w.heap.size+1) 184 [.int .i64 0,.int .i64 0,.int .i64 0,.int .i64 0,.int .u64 0,.int .i64 0,.int .i64 0]):=Z (by
    rw[<-j];have:=Row.new (w.alloc (.cells #[.int .i64 0,.int .i64 0,.int .i64 0,.int .i64 0,.int .u64 0,.int .i64 0,.int .i64 0] 184)) #[.int .i64 0,.int .i64 0,.int .i64 0,.int .i64 0,.int .u64 0,.int .i64 0,.int .i64 0] 184
    rwa [World.size_alloc]at this)
   have p1:=r.at_.uu G J;rw[M]at p1;have k1:=r.at_.c0;rw[p]at k1;go_in
   go_upto_region 2 with fail
   try rw[j]
   go_quiet (fail)
   obtain⟨w2,A⟩:=nm (w1.drewN nq);have q:=Z (Ch.dN (D:=ag) A);rw[A];have i:=Z (r.af q);have B:=Z (R.ch q id);have f:=Z (S.ch q id);have p1:=i.at_.uu G J;rw[M]at p1;have k1:=i.at_.c0;rw[p]at k1;have Q:=i.at_.cO;go_wp2
   go_region_held3 (fun w'=>w'.cell? (L.mb,0)=some (.slice L.lc N L.Dt)/\w'.cell? (L.mb,1007)=some (.pointer (some (L.m,0)))) (go_keep) ((go_at_call 137;refine(O _ i.at_.drew).mono ?_;rintro e w3 ⟨⟨u,rfl,cL⟩,c2,W,y⟩;have t:=Z ((i.af ay).trans (Gr.refl _) y);have a:=Z (((Nx.af (Ch.refl _ w2).drew).trans y.nx).row B (H.fresh (Nat.le_refl _)));have d:=Z (((Nx.af (Ch.refl _ w2).drew).trans y.nx).row f (H.fresh (Nat.le_succ _)));have k1:=t.at_.c0;rw[p]at k1;have Q:=t.at_.cO))
   all_goals
    have x0:=d.1.c1;have a0:=a.1.c1;have f0:=a.1.free 0;have x1:=d.1.k 1 rfl;have a1:=a.1.k 1 rfl;have f1:=a.1.free 1;have x2:=d.1.k 2 rfl;have a2:=a.1.k 2 rfl;have f2:=a.1.free 2;have x3:=d.1.k 3 rfl;have a3:=a.1.k 3 rfl;have f3:=a.1.free 3;have x4:=d.1.k 4 rfl;have ck:=a.1.k 4 rfl;have f4:=a.1.free 4;have x5:=d.1.k 5 rfl;have cl:=a.1.k 5 rfl;have f5:=a.1.free 5;have x6:=d.1.k 6 rfl;have cm:=a.1.k 6 rfl;have f6:=a.1.free 6;go_wp2
    obtain⟨w4,z⟩:=nm ((((((((w3.setCell ⟨w.heap.size,0,none⟩ (.int .i64 0)).setCell ⟨w.heap.size,1,none⟩ (.int .i64 0)).setCell ⟨w.heap.size,2,none⟩ (.int .i64 0)).setCell ⟨w.heap.size,3,none⟩ (.int .i64 0)).setCell ⟨w.heap.size,4,none⟩ (.int .u64 0)).setCell ⟨w.heap.size,5,none⟩ (.int .i64 0)).setCell ⟨w.heap.size,6,none⟩ (.int .i64 0)));have U:Hid (Row w4 w.heap.size 184 [.int .i64 0,.int .i64 0,.int .i64 0,.int .i64 0,.int .u64 0,.int .i64 0,.int .i64 0]):=Z (by rw[<-z];exact(((((((a.1.set 0 _).set 1 _).set 2 _).set 3 _).set 4 _).set 5 _).set 6 _));have T:Hid (Ch (aH w.heap.size) w3 w4):=Z (by rw[<-z];exact ay);rw[z];have V:=t.plain a.2 (Nat.le_refl _) T;obtain⟨y0,bi,bv,bw,bx,c0,c1⟩:=U.c7;refine bodyPost_ret (v:=.tuple #[aL ⟨0,0,0,0,0,0,0⟩,n]) ?_ rfl ?_
    ·simp[results,Tryz.f132,go_sem,y0,bi,bv,bw,bx,c0,c1,aL,aD]
    ·exact⟨rfl,c2,W,V⟩
theorem sE(i:Nat)(bw:i<K.wk.length)(c:cJ)(b o:Nat)(av:aj K c)(bx:aR L Y c b o)(a4:∀k,k<32->aK ((K.F c).r k))(a f g d j l:Int)(ap:0<=a/\a<32)(c0:aK d)(h:ae w χ L Y C K):
 Calls prog 165 #[(L.mb,0),(L.wb,i*38),(b,o),.agg #[.int .i64 31,a,f,g,.int .u64 d,j,l]] w (dO (bf K i c ⟨31,a,f,g,d,j,l⟩) χ L Y C K w):=by
 have H:=Z h;have B:=Z av;have D:=Z bx;have W:=Z bw;obtain⟨w0,a5,U,M,s⟩:=h.pre 31 a f g d j l;obtain⟨c7,c8⟩:=ap;obtain⟨F,a9⟩:∃y,(K.F c).r a.toNat=y:=⟨_,rfl⟩;have u:=Z a9;have J:=Z (a4 a.toNat (by omega));rw[a9]at J;obtain⟨c5,c6⟩:=J.out;obtain⟨t0,t1,t2,t3,t4,t5,t6⟩:=s.1.c7;have A:=M.at_.aA B D a.toNat (by omega);rw[u]at A;obtain⟨a1,P⟩:=nm (dE (K.F c).r ⟨31,a,f,g,d,j,l⟩);have T:=Z P;have a2:=lM (x:=⟨31,a,f,g,d,j,l⟩) a4 c0;rw[P]at a2;have ad:=Z a2;have V:Hid (∀w1:World,Ch ag w w1->fq w1 b o (K.F c).pc (K.F c).r):=Z (fun w1 bi=>by obtain⟨pre,post,v,bv⟩:=(h.af bi).cur B D;exact bv.fr);have q:=Z (fun w h=>kD b o (K.F c).pc (K.F c).r ⟨31,a,f,g,d,j,l⟩ w h);rw[P]at q;unfold aL at q;try dsimp only at q
 obtain⟨p,a3⟩:=nm (K.mem.acc 1 a1 0 F);have X:=Z a3;have I:=Z (fun w h=>Ee (K:=K) (w:=w) (χ:=χ) (L:=L) (Y:=Y) (C:=C) a1 F ad J h);rw[a3]at I;obtain⟨r,S⟩:=p;cases r with
 |none=>
  have E:Hid (bf K i c ⟨31,a,f,g,d,j,l⟩=(2,{K with mem:=S})):=Z (by unfold bf;dsimp only;rw[if_pos rfl,T,u,X];rfl);go_in
  go_wp2
  try rw[a5]
  go_region_held3 (fun w'=>w'.cell? ⟨w.heap.size,0,none⟩=some (.int .i64 31)/\w'.cell? ⟨w.heap.size,1,none⟩=some (.int .i64 a)/\w'.cell? ⟨w.heap.size,2,none⟩=some (.int .i64 f)/\w'.cell? ⟨w.heap.size,3,none⟩=some (.int .i64 g)/\w'.cell? ⟨w.heap.size,4,none⟩=some (.int .u64 d)/\w'.cell? ⟨w.heap.size,5,none⟩=some (.int .i64 j)/\w'.cell? ⟨w.heap.size,6,none⟩=some (.int .i64 l)/\w'.cell? (b,o+1+a.toNat)=some (.int .u64 F)) (go_keep) ((go_at_call 140;refine(q w0.drew (V _ U.drew)).mono ?_;rintro e w1 ⟨rfl,Q⟩;have t:Hid (Ch ag w0 w1):=Z (Ch.trans ay Q);have m:=Z (M.af t);have z:Hid (aj K c/\aR L Y c b o):=Z ⟨B,D⟩;have G:=Z ((Nx.af t).row s.1 s.2);obtain⟨t0,t1,t2,t3,t4,t5,t6⟩:=G.1.c7;have A:=m.at_.aA z.1 z.2 a.toNat (by omega);rw[u]at A))
  all_goals
   have k1:=m.at_.cO;go_wp2_with fail
   refine(I _ m.at_).mono ?_;rintro e w2 ⟨⟨v,rfl,R⟩,ab,a0,O⟩;obtain⟨tt,c9,rfl⟩:=R;have n:=Z (m.trans (Gr.refl _) O);go_wp2
   go_ret;rw[E];exact⟨rfl,ab,a0,n.at_,n.nx,fun _=>n.yk⟩
 |some r=>
  have E:Hid (bf K i c ⟨31,a,f,g,d,j,l⟩=(0,({K with mem:=S}:KS).bj i {({K with mem:=S}:KS).W i with hand:=0})):=Z (by unfold bf;dsimp only;rw[if_pos rfl,T,u,X];rfl);go_in
  go_wp2
  try rw[a5]
  go_region_held3 (fun w'=>w'.cell? ⟨w.heap.size,0,none⟩=some (.int .i64 31)/\w'.cell? ⟨w.heap.size,1,none⟩=some (.int .i64 a)/\w'.cell? ⟨w.heap.size,2,none⟩=some (.int .i64 f)/\w'.cell? ⟨w.heap.size,3,none⟩=some (.int .i64 g)/\w'.cell? ⟨w.heap.size,4,none⟩=some (.int .u64 d)/\w'.cell? ⟨w.heap.size,5,none⟩=some (.int .i64 j)/\w'.cell? ⟨w.heap.size,6,none⟩=some (.int .i64 l)/\w'.cell? (b,o+1+a.toNat)=some (.int .u64 F)) (go_keep) ((go_at_call 140;refine(q w0.drew (V _ U.drew)).mono ?_;rintro e w1 ⟨rfl,Q⟩;have t:Hid (Ch ag w0 w1):=Z (Ch.trans ay Q);have m:=Z (M.af t);have z:Hid (aj K c/\aR L Y c b o):=Z ⟨B,D⟩;have G:=Z ((Nx.af t).row s.1 s.2);obtain⟨t0,t1,t2,t3,t4,t5,t6⟩:=G.1.c7;have A:=m.at_.aA z.1 z.2 a.toNat (by omega);rw[u]at A))
  all_goals
   have k1:=m.at_.cO;go_wp2_with fail
   refine(I _ m.at_).mono ?_;rintro e w2 ⟨⟨v,rfl,R⟩,ab,a0,O⟩;obtain rfl:v=.nilIface:=R;have n:=Z (m.trans (Gr.refl _) O);have c4:=n.at_.fD (i:=i) (by exact W);have c3:=n.at_.uq (i*38+1);have am:=Z (n.at_.jT (i:=i) (by exact W) 0);go_wp2
   go_ret;rw[E];obtain⟨c2,al,c1⟩:=am.out;have N:=n.trans (Gr.of_eq rfl) c1;exact⟨rfl,c2,al,N.at_,N.nx,fun _=>N.yk⟩
theorem sF(i:Nat)(eA:i<K.wk.length)(c:cJ)(b o:Nat)(en:aj K c)(eC:aR L Y c b o)(am:∀k,k<32->aK ((K.F c).r k))(a t d n u z:Int)(ec:0<=a/\a<32)(et:0<=d/\d<32)(eL:aK n)(ch:∀v,(K.mem.acc 4 (dE (K.F c).r ⟨32,a,t,d,n,u,z⟩) ((K.F c).r a.toNat) ((K.F c).r d.toNat)).1=some v->aK v)(h:ae w χ L Y C K):
 Calls prog 165 #[(L.mb,0),(L.wb,i*38),(b,o),.agg #[.int .i64 32,a,t,d,.int .u64 n,u,z]] w (dO (bf K i c ⟨32,a,t,d,n,u,z⟩) χ L Y C K w):=by
 have H:=Z h;have q:=Z en;have B:=Z eC;have cs:=Z eA;obtain⟨w0,c6,av,U,R⟩:=h.pre 32 a t d n u z;obtain⟨g2,g3⟩:=ec;obtain⟨P,ck⟩:∃y,(K.F c).r a.toNat=y:=⟨_,rfl⟩;have N:=Z ck;have c9:=Z (am a.toNat (by omega));rw[ck]at c9;obtain⟨fn,fr⟩:=c9.out;obtain⟨g4,g5⟩:=et;obtain⟨Q,cl⟩:∃y,(K.F c).r d.toNat=y:=⟨_,rfl⟩;have D:=Z cl;have c0:=Z (am d.toNat (by omega));rw[cl]at c0;obtain⟨fz,g0⟩:=c0.out;obtain⟨t0,t1,t2,t3,t4,t5,t6⟩:=R.1.c7;have G:=U.at_.aA q B a.toNat (by omega);rw[N]at G;have s:=U.at_.aA q B d.toNat (by omega);rw[D]at s;obtain⟨W,c3⟩:=nm (dE (K.F c).r ⟨32,a,t,d,n,u,z⟩);have a4:=Z c3;have cf:=lM (x:=⟨32,a,t,d,n,u,z⟩) am eL;rw[c3]at cf;have ap:=Z cf;have bi:Hid (∀w1:World,Ch ag w w1->fq w1 b o (K.F c).pc (K.F c).r):=Z (fun w1 es=>by obtain⟨pre,post,v,ex⟩:=(h.af es).cur q B;exact ex.fr);have T:=Z (fun w h=>kD b o (K.F c).pc (K.F c).r ⟨32,a,t,d,n,u,z⟩ w h);rw[c3]at T;unfold aL at T;try dsimp only at T
 obtain⟨p,c5⟩:=nm (K.mem.acc 4 W P Q);have bw:=Z c5;have ab:=Z (fun w h=>G0 (K:=K) (w:=w) (χ:=χ) (L:=L) (Y:=Y) (C:=C) W P Q ap c0 h);rw[a4,N,D,c5]at ch;rw[c5]at ab;have cC:=Z ch;have cL:=Z am;obtain⟨r,I⟩:=p;cases r with
 |none=>
  have E:Hid (bf K i c ⟨32,a,t,d,n,u,z⟩=(2,{K with mem:=I})):=Z (by unfold bf;dsimp only;rw[if_neg (by decide),a4,N,D,bw]);go_in
  go_wp2
  try rw[c6]
  go_region_held3 (fun w'=>w'.cell? ⟨w.heap.size,0,none⟩=some (.int .i64 32)/\w'.cell? ⟨w.heap.size,1,none⟩=some (.int .i64 a)/\w'.cell? ⟨w.heap.size,2,none⟩=some (.int .i64 t)/\w'.cell? ⟨w.heap.size,3,none⟩=some (.int .i64 d)/\w'.cell? ⟨w.heap.size,4,none⟩=some (.int .u64 n)/\w'.cell? ⟨w.heap.size,5,none⟩=some (.int .i64 u)/\w'.cell? ⟨w.heap.size,6,none⟩=some (.int .i64 z)/\w'.cell? (b,o+1+a.toNat)=some (.int .u64 P)) (go_keep) ((go_at_call 140;refine(T w0.drew (bi _ av.drew)).mono ?_;rintro e w1 ⟨rfl,a1⟩;have M:Hid (Ch ag w0 w1):=Z (Ch.trans ay a1);have j:=Z (U.af M);have m:Hid (aj K c/\aR L Y c b o):=Z ⟨q,B⟩;have A:=Z ((Nx.af M).row R.1 R.2);obtain⟨t0,t1,t2,t3,t4,t5,t6⟩:=A.1.c7;have G:=j.at_.aA m.1 m.2 a.toNat (by omega);rw[N]at G))
  all_goals
   have k1:=j.at_.cO;have s:=j.at_.aA m.1 m.2 d.toNat (by omega);rw[D]at s;go_wp2
   go_region_held3 (fun w'=>w'.cell? (L.mb,1007)=some (.pointer (some (L.m,0)))/\w'.cell? ⟨w.heap.size,3,none⟩=some (.int .i64 d)/\w'.cell? (b,o+1+d.toNat)=some (.int .u64 Q)) (go_keep) ((go_at_call 204;refine(ab _ j.at_.drew).mono ?_;rintro e w2 ⟨⟨v,rfl,eS⟩,cm,cb,O⟩;obtain⟨tt,g6,rfl⟩:=eS;have f:=Z ((j.af ay).trans (Gr.refl _) O);have J:=Z (((Nx.af (Ch.refl _ w1).drew).trans O.nx).row A.1 A.2);have g:=Z (f.cur q B (Gr.of_eq rfl) rfl);have k1:=f.at_.cO;have t1:=J.1.k 1 rfl;have t3:=J.1.k 3 rfl;have G:=f.at_.aA g.1 g.2 a.toNat (by omega);have s:=f.at_.aA g.1 g.2 d.toNat (by omega);rw[show(({K with mem:=I}:KS).F c).r d.toNat=Q from D.out]at s))
   all_goals
    go_wp2
    go_ret;rw[E];exact⟨rfl,_,_,f.at_,f.nx,fun _=>f.yk⟩
 |some F=>
  have cA:Hid (aK F):=Z (cC F rfl);obtain⟨K1,al⟩:=mn (({K with mem:=I}:KS).ax c a.toNat F);have a9:=Z al;have bv:Hid (Gr K K1):=Z (by rw[al];exact(Gr.of_eq (K:=K) (K':={K with mem:=I}) rfl).trans (bA (q.gr (K':={K with mem:=I}) (Gr.of_eq rfl) rfl) _));have c1:Hid (K1.wk.length=K.wk.length):=Z (by rw[al];exact(br _ _));have cS:Hid (aK ((K1.F c).r 16)):=Z (by
   rw[al];have dr:((({K with mem:=I}:KS).ax c a.toNat F).F c).r 16=fW (K.F c).r a.toNat F 16:=by
    show((KS.cI _ c _).F c).r 16=_
    rw[Eh (q.gr (K':={K with mem:=I}) (Gr.of_eq rfl) rfl)];rfl
   rw[dr];unfold fW;split
   ·exact cA
   ·exact cL 16 (by omega))
  obtain⟨c8,ci⟩:=nm ((K1.F c).r 16);have bx:=Z ci;have cQ:Hid (aK c8):=Z (by rw[<-ci];exact cS);obtain⟨wi,eW⟩:=nm (K1.mem.wid W);have ad:=Z eW;obtain⟨ce,S⟩:=nm (hk wi P);have a5:=Z S;by_cases c4:F=ce
  ·subst c4
   have E:Hid (bf K i c ⟨32,a,t,d,n,u,z⟩=(0,eK K1 i c8)):=Z (by unfold bf;dsimp only;rw[if_neg (by decide),a4,N,D,bw];dsimp only;rw[<-a9,ad,a5,if_pos rfl,bx]);go_in
   go_wp2
   try rw[c6]
   go_region_held3 (fun w'=>w'.cell? ⟨w.heap.size,0,none⟩=some (.int .i64 32)/\w'.cell? ⟨w.heap.size,1,none⟩=some (.int .i64 a)/\w'.cell? ⟨w.heap.size,2,none⟩=some (.int .i64 t)/\w'.cell? ⟨w.heap.size,3,none⟩=some (.int .i64 d)/\w'.cell? ⟨w.heap.size,4,none⟩=some (.int .u64 n)/\w'.cell? ⟨w.heap.size,5,none⟩=some (.int .i64 u)/\w'.cell? ⟨w.heap.size,6,none⟩=some (.int .i64 z)/\w'.cell? (b,o+1+a.toNat)=some (.int .u64 P)) (go_keep) ((go_at_call 140;refine(T w0.drew (bi _ av.drew)).mono ?_;rintro e w1 ⟨rfl,a1⟩;have M:Hid (Ch ag w0 w1):=Z (Ch.trans ay a1);have j:=Z (U.af M);have m:Hid (aj K c/\aR L Y c b o):=Z ⟨q,B⟩;have A:=Z ((Nx.af M).row R.1 R.2);obtain⟨t0,t1,t2,t3,t4,t5,t6⟩:=A.1.c7;have G:=j.at_.aA m.1 m.2 a.toNat (by omega);rw[N]at G))
   all_goals
    have k1:=j.at_.cO;have s:=j.at_.aA m.1 m.2 d.toNat (by omega);rw[D]at s;go_wp2
    go_region_held3 (fun w'=>w'.cell? (L.mb,1007)=some (.pointer (some (L.m,0)))/\w'.cell? ⟨w.heap.size,3,none⟩=some (.int .i64 d)/\w'.cell? (b,o+1+d.toNat)=some (.int .u64 Q)) (go_keep) ((go_at_call 204;refine(ab _ j.at_.drew).mono ?_;rintro e w2 ⟨rfl,cm,cb,O⟩;have f:=Z ((j.af ay).trans (Gr.refl _) O);have J:=Z (((Nx.af (Ch.refl _ w1).drew).trans O.nx).row A.1 A.2);have g:=Z (f.cur q B (Gr.of_eq rfl) rfl);have k1:=f.at_.cO;have t1:=J.1.k 1 rfl;have t3:=J.1.k 3 rfl;have G:=f.at_.aA g.1 g.2 a.toNat (by omega);have s:=f.at_.aA g.1 g.2 d.toNat (by omega);rw[show(({K with mem:=I}:KS).F c).r d.toNat=Q from D.out]at s))
    all_goals
     have dC:=f.at_.hy g.1 g.2 (o+1+a.toNat);have a0:=f.at_.drew.a7 g.1 g.2 a.toNat (by omega) F;rw[<-a9]at a0;obtain⟨cq,cd,X⟩:=a0;obtain⟨w3,a2⟩:=nm (w2.drew.setCell (b,o+1+a.toNat) (.int .u64 F));rw[a2]at X;have l:=Z ((f.af ay).trans (Gr.of_eq rfl) X);have V:=Z (l.cur q B bv c1);have k3:=l.at_.cO;have c7:=l.at_.aA V.1 V.2 16 (by omega);rw[bx]at c7;go_wp2
     go_still_tail 6,(by kernel_rfl)
     change wpList _ _ _ _ _ w2.drew;go_wp2_with fail
     try rw[a2]
     have a3:=zW W ap l.at_;rw[ad]at a3;refine a3.mono ?_;rintro e w4 ⟨rfl,rfl⟩;go_wp2_with fail
     have S:=ky wi P w3;rw[a5]at S;refine S.mono ?_;rintro e fb ⟨rfl,rfl⟩;go_wp2_with fail
     refine(pJ (K:=K1) i (by rw[c1];exact cs) c8 cQ l.at_).mono ?_;rintro e g1 ⟨rfl,fd,cW,dN⟩;have c2:=Z (l.trans bv dN);go_wp2
     go_ret;rw[E];exact⟨rfl,fd,cW,c2.at_,c2.nx,fun _=>c2.yk⟩
  ·have E:Hid (bf K i c ⟨32,a,t,d,n,u,z⟩=(0,K1)):=Z (by unfold bf;dsimp only;rw[if_neg (by decide),a4,N,D,bw];dsimp only;rw[<-a9,ad,a5,if_neg c4])
   go_in
   go_wp2
   try rw[c6]
   go_region_held3 (fun w'=>w'.cell? ⟨w.heap.size,0,none⟩=some (.int .i64 32)/\w'.cell? ⟨w.heap.size,1,none⟩=some (.int .i64 a)/\w'.cell? ⟨w.heap.size,2,none⟩=some (.int .i64 t)/\w'.cell? ⟨w.heap.size,3,none⟩=some (.int .i64 d)/\w'.cell? ⟨w.heap.size,4,none⟩=some (.int .u64 n)/\w'.cell? ⟨w.heap.size,5,none⟩=some (.int .i64 u)/\w'.cell? ⟨w.heap.size,6,none⟩=some (.int .i64 z)/\w'.cell? (b,o+1+a.toNat)=some (.int .u64 P)) (go_keep) ((go_at_call 140;refine(T w0.drew (bi _ av.drew)).mono ?_;rintro e w1 ⟨rfl,a1⟩;have M:Hid (Ch ag w0 w1):=Z (Ch.trans ay a1);have j:=Z (U.af M);have m:Hid (aj K c/\aR L Y c b o):=Z ⟨q,B⟩;have A:=Z ((Nx.af M).row R.1 R.2);obtain⟨t0,t1,t2,t3,t4,t5,t6⟩:=A.1.c7;have G:=j.at_.aA m.1 m.2 a.toNat (by omega);rw[N]at G))
   all_goals
    have k1:=j.at_.cO;have s:=j.at_.aA m.1 m.2 d.toNat (by omega);rw[D]at s;go_wp2
    go_region_held3 (fun w'=>w'.cell? (L.mb,1007)=some (.pointer (some (L.m,0)))/\w'.cell? ⟨w.heap.size,3,none⟩=some (.int .i64 d)/\w'.cell? (b,o+1+d.toNat)=some (.int .u64 Q)) (go_keep) ((go_at_call 204;refine(ab _ j.at_.drew).mono ?_;rintro e w2 ⟨rfl,cm,cb,O⟩;have f:=Z ((j.af ay).trans (Gr.refl _) O);have J:=Z (((Nx.af (Ch.refl _ w1).drew).trans O.nx).row A.1 A.2);have g:=Z (f.cur q B (Gr.of_eq rfl) rfl);have k1:=f.at_.cO;have t1:=J.1.k 1 rfl;have t3:=J.1.k 3 rfl;have G:=f.at_.aA g.1 g.2 a.toNat (by omega);have s:=f.at_.aA g.1 g.2 d.toNat (by omega);rw[show(({K with mem:=I}:KS).F c).r d.toNat=Q from D.out]at s))
    all_goals
     have dC:=f.at_.hy g.1 g.2 (o+1+a.toNat);have a0:=f.at_.drew.a7 g.1 g.2 a.toNat (by omega) F;rw[<-a9]at a0;obtain⟨cq,cd,X⟩:=a0;obtain⟨w3,a2⟩:=nm (w2.drew.setCell (b,o+1+a.toNat) (.int .u64 F));rw[a2]at X;have l:=Z ((f.af ay).trans (Gr.of_eq rfl) X);have V:=Z (l.cur q B bv c1);have k3:=l.at_.cO;have c7:=l.at_.aA V.1 V.2 16 (by omega);rw[bx]at c7;go_wp2
     go_still_tail 6,(by kernel_rfl)
     change wpList _ _ _ _ _ w2.drew;go_wp2_with fail
     try rw[a2]
     have a3:=zW W ap l.at_;rw[ad]at a3;refine a3.mono ?_;rintro e w4 ⟨rfl,rfl⟩;go_wp2_with fail
     have S:=ky wi P w3;rw[a5]at S;refine S.mono ?_;rintro e fb ⟨rfl,rfl⟩;have hb:(F==ce)=false:=(by rw[beq_eq_false_iff_ne];exact c4);go_wp2
     go_ret;rw[E];exact⟨rfl,cq,cd,l.at_,l.nx,fun _=>l.yk⟩
def F5(l:List Value)(w:World)(p:Value)(wc:World):Prop:=∃a,p=.pointer (some ⟨a,0,none⟩)/\Row wc a 82 l/\Ch ag w wc/\w.heap.size<=a
theorem jV(id:Int)(c:cJ)(b o:Nat)(P:aj K c)(a3:aR L Y c b o)(g f l m n d a:Int)(c7:i' g=true->0<=f/\f<32)(hb:K.out.length<=900000)(h:ae w χ L Y C K):
 Calls prog 134 #[(L.mb,0),.int .u64 id,(b,o),.agg #[g,f,l,m,.int .u64 n,d,a]] w (dk (.tuple #[]) χ L Y C K (dc K id c ⟨g,f,l,m,n,d,a⟩) w):=by
 have al:=Z P;have bi:=Z a3;have H:=Z hb;obtain⟨w0,G,am,O,J⟩:=h.sh g f l m n d a;obtain⟨t0,t1⟩:=J.c2;have t5:=J.k 5 rfl;have t6:=J.k 6 rfl;have ad:=Z c7;obtain⟨k,a4⟩:∃y,(K.F c).r 0=y:=⟨_,rfl⟩;have A:=Z a4;have Q:=O.at_.aA P a3 0 (by omega);rw[a4]at Q;by_cases q:d=0
 ·have E:Hid (dc K id c ⟨g,f,l,m,n,d,a⟩=K):=Z (by unfold dc;rw[if_pos q])
  subst q;go_in
  go_wp2
  try rw[G]
  refine bodyPost_ret (results_none rfl _ _ _) rfl ?_;rw[E];exact⟨rfl,_,_,O⟩
 ·have ck:(d==0)=false:=by rw[beq_eq_false_iff_ne];exact q
  go_in
  go_wp2
  try rw[G]
  go_cut [8] (fun p wc=>F5 [.int .i64 5,.int .i64 0,.int .i64 0,.int .u64 id,d,.int .u64 0,.int .u64 0,.int .u64 0,.int .u64 0,.int .u64 k,.int .u64 0] w0 p wc)
  case first=>
   have cm:=World.new_ne w0 ⟨w.heap.size,5,none⟩ t5;have cq:=World.new_ne w0 ⟨b,o+1+0,none⟩ Q;have cs:b≠w0.heap.size:=Nat.ne_of_lt (aQ Q);have cA:w.heap.size≠w0.heap.size:=Nat.ne_of_lt (aQ t5);go_region_held3 (fun w'=>w'.cell? (w.heap.size,5)=some (.int .i64 d)/\w'.cell? (b,o+1+0)=some (.int .u64 k)) (go_keep) (fail)
   all_goals(go_wp2_with fail;go_meet)
   all_goals exact⟨w0.heap.size,rfl,(Row.new w0 _ _).drew,ay,Nat.le_refl _⟩
  case rest=>
   obtain⟨D,rfl,ce,P,hle⟩:=hcut;have N:=Z ce;have a0:=Z P;have V:=Z (O.af a0);have M:=Z (J.ch a0 (fun h=>h));have c8:w.heap.size<=D:=Nat.le_trans am.size hle;have ap:=Z c8;have cl:b≠D:=(fun e=>by have W:=aQ Q;dsimp only at W;omega);have c9:w.heap.size≠D:=(fun e=>by have W:=aQ t0;dsimp only at W;omega);have av:Hid (χ D=.no):=Z (O.at_.fresh hle);have t0:=M.c1;have U:=Z (z7 g wc);obtain⟨ch,a5⟩:=nm (i' g);rw[a5]at U;have T:=Z a5;obtain⟨ab,v⟩:∃p,(a==0)=p:=⟨_,rfl⟩;obtain⟨p1,cb⟩:∃p,(a==1)=p:=⟨_,rfl⟩;have ci:=Z v;have F:=Z cb;cases ch
   ·have r:Hid ((if i' g=true then(K.F c).r f.toNat else 0)=0):=Z (by rw[if_neg (by rw[T.out];simp)])
    go_wp2_with fail
    refine U.mono ?_;rintro e w2 ⟨rfl,rfl⟩;go_upto_region 5 with fail
    have j:=V;have S:=N;have R:=M;have B:Hid (((0:Int)==0)=true):=Z rfl;obtain⟨bv,bw,bx,c0,c1,c2,c3,c4,c5,c6,a2⟩:=S.BJ;have t6:=R.k 6 rfl;cases ab
    ·cases p1
     ·have I:¬(a=0∨((a==1)=(0==(0:Int)))):=fun e=>e.elim (fun e=>by rw[beq_eq_false_iff_ne]at v;exact v e) (fun e=>by rw[F,B]at e;cases e)
      have E:Hid (dc K id c ⟨g,f,l,m,n,d,a⟩=K):=Z (by unfold dc;dsimp only;rw[if_neg q,r,A,if_neg (I)]);go_wp2
      go_end0
      rw[E];exact⟨rfl,_,_,j⟩
     ·have x:a=0∨((a==1)=(0==(0:Int))):=Or.inr (by rw[F,B])
      have E:Hid (dc K id c ⟨g,f,l,m,n,d,a⟩=tell K ⟨5,0,0,id,d,0,0,0,0,k,0⟩):=Z (by unfold dc;dsimp only;rw[if_neg q,r,A,if_pos (x)]);go_wp2_with fail
      refine(dI 5 0 0 id d 0 0 0 0 k 0 H j.at_).mono ?_;rintro e w4 ⟨rfl,z,t,u⟩;have s:=Z (j.trans (Gr.refl _) u);go_wp2
      go_end0
      rw[E];exact⟨rfl,z,t,s⟩
    ·have G:a=0:=by simpa using v
     have x:a=0∨((a==1)=(0==(0:Int))):=Or.inl G;have E:Hid (dc K id c ⟨g,f,l,m,n,d,a⟩=tell K ⟨5,0,0,id,d,0,0,0,0,k,0⟩):=Z (by unfold dc;dsimp only;rw[if_neg q,r,A,if_pos (x)]);go_wp2_with fail
     refine(dI 5 0 0 id d 0 0 0 0 k 0 H j.at_).mono ?_;rintro e w4 ⟨rfl,z,t,u⟩;have s:=Z (j.trans (Gr.refl _) u);go_wp2
     go_end0
     rw[E];exact⟨rfl,z,t,s⟩
   ·obtain⟨cC,cL⟩:=ad T
    obtain⟨i,a9⟩:∃y,(K.F c).r f.toNat=y:=⟨_,rfl⟩;have r:Hid ((if i' g=true then(K.F c).r f.toNat else 0)=i):=Z (by rw[if_pos T.out];exact a9);have cf:=V.at_.aA al bi f.toNat (by omega);rw[a9]at cf;have t1:=M.k 1 rfl;have a2:=N.k 10 rfl;have g10:=N.free 10;go_wp2_with fail
    refine U.mono ?_;rintro e w2 ⟨rfl,rfl⟩;go_wp2
    go_still_tail 8,(by kernel_rfl)
    change wpList _ _ _ _ _ wc.drew;go_upto_region 5 with fail
    obtain⟨w3,X⟩:=nm ((wc.setCell (D,10) (.int .u64 i)).drew);have a1:Hid (Ch (aH D) wc w3):=Z (by rw[<-X];exact ay);have S:Hid (Row w3 D 82 [.int .i64 5,.int .i64 0,.int .i64 0,.int .u64 id,d,.int .u64 0,.int .u64 0,.int .u64 0,.int .u64 0,.int .u64 k,.int .u64 i]):=Z (by rw[<-X];exact(N.set 10 _).drew);have j:=Z (V.plain av ap a1);have R:=Z (M.ch a1 (fun e=>c9 e));rw[X];obtain⟨p2,cd⟩:∃p,(i==(0:Int))=p:=⟨_,rfl⟩;have B:=Z cd;obtain⟨bv,bw,bx,c0,c1,c2,c3,c4,c5,c6,a2⟩:=S.BJ;have t6:=R.k 6 rfl;cases ab
    ·cases p1<;>cases p2
     ·have x:a=0∨((a==1)=(i==(0:Int))):=Or.inr (by rw[F,B])
      have E:Hid (dc K id c ⟨g,f,l,m,n,d,a⟩=tell K ⟨5,0,0,id,d,0,0,0,0,k,i⟩):=Z (by unfold dc;dsimp only;rw[if_neg q,r,A,if_pos (x)]);go_wp2_with fail
      refine(dI 5 0 0 id d 0 0 0 0 k i H j.at_).mono ?_;rintro e w4 ⟨rfl,z,t,u⟩;have s:=Z (j.trans (Gr.refl _) u);go_wp2
      go_end0
      rw[E];exact⟨rfl,z,t,s⟩
     ·have I:¬(a=0∨((a==1)=(i==(0:Int)))):=fun e=>e.elim (fun e=>by rw[beq_eq_false_iff_ne]at v;exact v e) (fun e=>by rw[F,B]at e;cases e)
      have E:Hid (dc K id c ⟨g,f,l,m,n,d,a⟩=K):=Z (by unfold dc;dsimp only;rw[if_neg q,r,A,if_neg (I)]);go_wp2
      go_end0
      rw[E];exact⟨rfl,_,_,j⟩
     ·have I:¬(a=0∨((a==1)=(i==(0:Int)))):=fun e=>e.elim (fun e=>by rw[beq_eq_false_iff_ne]at v;exact v e) (fun e=>by rw[F,B]at e;cases e)
      have E:Hid (dc K id c ⟨g,f,l,m,n,d,a⟩=K):=Z (by unfold dc;dsimp only;rw[if_neg q,r,A,if_neg (I)]);go_wp2
      go_end0
      rw[E];exact⟨rfl,_,_,j⟩
     ·have x:a=0∨((a==1)=(i==(0:Int))):=Or.inr (by rw[F,B])
      have E:Hid (dc K id c ⟨g,f,l,m,n,d,a⟩=tell K ⟨5,0,0,id,d,0,0,0,0,k,i⟩):=Z (by unfold dc;dsimp only;rw[if_neg q,r,A,if_pos (x)]);go_wp2_with fail
      refine(dI 5 0 0 id d 0 0 0 0 k i H j.at_).mono ?_;rintro e w4 ⟨rfl,z,t,u⟩;have s:=Z (j.trans (Gr.refl _) u);go_wp2
      go_end0
      rw[E];exact⟨rfl,z,t,s⟩
    ·have G:a=0:=by simpa using v
     have x:a=0∨((a==1)=(i==(0:Int))):=Or.inl G;have E:Hid (dc K id c ⟨g,f,l,m,n,d,a⟩=tell K ⟨5,0,0,id,d,0,0,0,0,k,i⟩):=Z (by unfold dc;dsimp only;rw[if_neg q,r,A,if_pos (x)]);go_wp2_with fail
     refine(dI 5 0 0 id d 0 0 0 0 k i H j.at_).mono ?_;rintro e w4 ⟨rfl,z,t,u⟩;have s:=Z (j.trans (Gr.refl _) u);go_wp2
     go_end0
     rw[E];exact⟨rfl,z,t,s⟩
theorem ae.wu(h:ae w χ L Y C K){q:Nat}{r:bB}(c:C.calls[q]?=some r):∃g,L.ll=some ⟨g,0,none⟩/\w.cell? ⟨g,q*6,none⟩=some (.int .i64 r.num)/\w.cell? ⟨g,q*6+1,none⟩=some (.int .i64 r.at_)/\w.cell? ⟨g,q*6+2,none⟩=some (.int .i64 r.k0)/\w.cell? ⟨g,q*6+3,none⟩=some (.int .i64 r.k1)/\w.cell? ⟨g,q*6+4,none⟩=some (.int .i64 r.k2)/\w.cell? ⟨g,q*6+5,none⟩=some (.int .i64 r.k3):=by
 obtain⟨g,m,d,f,_⟩:=(h.code (by simp)).calls (by intro e;rw[e]at c;cases c);have l:=(List.getElem?_eq_some_iff.1 c).1;have a:∀j v,j<6->r.cells[j]?=some v->w.cell? ⟨g,q*6+j,none⟩=some v:=fun j v i k=>f.cell (by
  rw[List.getElem?_append_left (by rw[aU (enc:=bB.cells) bB.len];omega)];exact(bJ bB.len c i).trans k)
 exact⟨g,d,a 0 _ (by omega) rfl,a 1 _ (by omega) rfl,a 2 _ (by omega) rfl,a 3 _ (by omega) rfl,a 4 _ (by omega) rfl,a 5 _ (by omega) rfl⟩
theorem gB(k a:Int)(l:List (Int×Int)):cw C K ((k,a)::l)=if k=0 then cw C K l else if k=7 then(if IntKind.u64.wrap C.cells<=a then 22 else cw C K l)else if(gp K.cT a k).isNone then 22 else cw C K l:=rfl
variable{k0 k1 k2 k3 a0 a1 a2 a3 kd:Int}{t:TypeId}
theorem Ax(a b c d:Int)(W:World):(Instr.index 156 (.agg #[a,.int .i64 b,c,d]) (.int .i64 0)).run prog W=.ok (.int .i64 a) W:=by kernel_rfl
theorem F6(hb:Row w b t [.int .u64 a0,.int .u64 a1,.int .u64 a2,.int .u64 a3])(d:cw C K ([(k0,a0),(k1,a1),(k2,a2),(k3,a3)].drop 0)=kd):∃c a l,(Instr.index 156 (.agg #[k0,k1,k2,k3]) (.int .i64 0)).run prog w=.ok (.int .i64 c) w/\w.cell? (b,0)=some (.int .u64 a)/\cw C K ((c,a)::l)=kd/\l=[(k0,a0),(k1,a1),(k2,a2),(k3,a3)].drop (0+1):=⟨k0,a0,_,Ax _ _ _ _ _,hb.cell (i:=0) rfl,d,rfl⟩
theorem Ay(a b c d:Int)(W:World):(Instr.index 156 (.agg #[a,.int .i64 b,c,d]) (.int .i64 1)).run prog W=.ok (.int .i64 b) W:=by kernel_rfl
theorem F7(hb:Row w b t [.int .u64 a0,.int .u64 a1,.int .u64 a2,.int .u64 a3])(d:cw C K ([(k0,a0),(k1,a1),(k2,a2),(k3,a3)].drop 1)=kd):∃c a l,(Instr.index 156 (.agg #[k0,k1,k2,k3]) (.int .i64 1)).run prog w=.ok (.int .i64 c) w/\w.cell? (b,1)=some (.int .u64 a)/\cw C K ((c,a)::l)=kd/\l=[(k0,a0),(k1,a1),(k2,a2),(k3,a3)].drop (1+1):=⟨k1,a1,_,Ay _ _ _ _ _,hb.cell (i:=1) rfl,d,rfl⟩
theorem Az(a b c d:Int)(W:World):(Instr.index 156 (.agg #[a,.int .i64 b,c,d]) (.int .i64 2)).run prog W=.ok (.int .i64 c) W:=by kernel_rfl
theorem F8(hb:Row w b t [.int .u64 a0,.int .u64 a1,.int .u64 a2,.int .u64 a3])(d:cw C K ([(k0,a0),(k1,a1),(k2,a2),(k3,a3)].drop 2)=kd):∃c a l,(Instr.index 156 (.agg #[k0,k1,k2,k3]) (.int .i64 2)).run prog w=.ok (.int .i64 c) w/\w.cell? (b,2)=some (.int .u64 a)/\cw C K ((c,a)::l)=kd/\l=[(k0,a0),(k1,a1),(k2,a2),(k3,a3)].drop (2+1):=⟨k2,a2,_,Az _ _ _ _ _,hb.cell (i:=2) rfl,d,rfl⟩
theorem AA(a b c d:Int)(W:World):(Instr.index 156 (.agg #[a,.int .i64 b,c,d]) (.int .i64 3)).run prog W=.ok (.int .i64 d) W:=by kernel_rfl
theorem F9(hb:Row w b t [.int .u64 a0,.int .u64 a1,.int .u64 a2,.int .u64 a3])(d:cw C K ([(k0,a0),(k1,a1),(k2,a2),(k3,a3)].drop 3)=kd):∃c a l,(Instr.index 156 (.agg #[k0,k1,k2,k3]) (.int .i64 3)).run prog w=.ok (.int .i64 c) w/\w.cell? (b,3)=some (.int .u64 a)/\cw C K ((c,a)::l)=kd/\l=[(k0,a0),(k1,a1),(k2,a2),(k3,a3)].drop (3+1):=⟨k3,a3,_,AA _ _ _ _ _,hb.cell (i:=3) rfl,d,rfl⟩
theorem qY(id:Int)(t:Thread)(a5:aw K.ai id=some t)(dN:0<t.l.length)(es:t.l.length<=8)(num:Int)(ec:0<=num)(a0 a1 a2 a3:Int)(cC:0<=C.wide/\C.wide<=256/\0<=C.narrow/\C.narrow<=256)(et:∀r∈C.rows,0<=r/\r<=C.calls.length)(cQ:C.calls.length<=2048)(h:ae w χ L Y C K):
 Calls prog 180 #[(L.mb,0),(Y.bI id,0),num,.agg #[.int .u64 a0,.int .u64 a1,.int .u64 a2,.int .u64 a3]] w (ds (.int .u64 (cM C K id num a0 a1 a2 a3)) w):=by
 have hlen:=(h.head (by simp)).rows;have bw:Hid (K.T id=t):=Z (KS.dm a5);obtain⟨gf,fz,cW,g6,_⟩:=h.hV a5 dN;have N:=h.DB a5;rw[cW]at N;obtain⟨F,c8⟩:=nm t.l.length;have bv:=Z c8;rw[c8]at N es;obtain⟨tb,ex⟩:=nm (Y.bI id);rw[ex]at N⊢;obtain⟨w0,A⟩:=nm (w.alloc (.cells #[.int .u64 a0,.int .u64 a1,.int .u64 a2,.int .u64 a3] 80));have p:=Z (Ch.al (D:=ag) A);have G:Hid (ae w0 χ L Y C K):=Z (h.af p);have am:=Z (Row.al A);have gr:=p.k N;by_cases c1:1000<=num
 ·have E:Hid (cM C K id num a0 a1 a2 a3=38):=Z (by unfold cM;rw[if_pos (Or.inl c1)])
  go_in
  go_wp2
  try rw[A]
  go_ret;rw[E];exact⟨rfl,p⟩
 ·obtain⟨m,rfl⟩:=Int.eq_ofNat_of_zero_le ec
  have dr:m<C.rows.length:=by omega
  obtain⟨r,a4⟩:∃r,C.rows[m]?=some r:=⟨_,List.getElem?_eq_getElem dr⟩;have g9:=et r (List.mem_of_getElem? a4);have R:Hid (C.rows.getD (m:Int).toNat 0=r):=Z (by rw[Int.toNat_natCast,List.getD_eq_getElem?_getD,a4];rfl);have c0:=G.Ec a4;have g7:(m:Int)<1000:=by omega
  by_cases ab:r=0
  ·subst ab
   have E:Hid (cM C K id m a0 a1 a2 a3=38):=Z (by unfold cM;rw[if_pos (Or.inr R.out)]);go_in
   go_wp2
   try rw[A]
   go_ret;rw[E];exact⟨rfl,p⟩
  ·have gc:(r==0)=false:=by rw[beq_eq_false_iff_ne];exact ab
   have c9:¬(1000<=(m:Int)∨C.rows.getD (m:Int).toNat 0=0):=(fun e=>e.elim c1 (fun e=>ab (R.symm.trans e)));by_cases U:7<=F/\(m:Int)≠2
   ·have E:Hid (cM C K id m a0 a1 a2 a3=11):=Z (by unfold cM;rw[if_neg c9,bw,bv,if_pos U])
    obtain⟨c2,cs⟩:=U;have c3:(7:Int)<=(F:Int):=(by omega);have g2:((m:Int)==2)=false:=(by rw[beq_eq_false_iff_ne];exact cs);go_in
    go_wp2
    try rw[A]
    go_ret;rw[E];exact⟨rfl,p⟩
   ·have cL:F<7∨7<=F/\m=2:=by omega
    obtain⟨q,rfl⟩:∃q:Nat,r=(q:Int)+1:=⟨(r-1).toNat,by omega⟩;obtain⟨c,g⟩:∃c,C.calls[q]?=some c:=⟨_,List.getElem?_eq_getElem (by omega)⟩;have ci:Hid (C.calls.getD (C.rows.getD (m:Int).toNat 0-1).toNat default=c):=Z (by rw[R,show((q:Int)+1-1).toNat=q by omega,List.getD_eq_getElem?_getD,g];rfl);have E:Hid (cM C K id (m:Int) a0 a1 a2 a3=cw C K [(c.k0,a0),(c.k1,a1),(c.k2,a2),(c.k3,a3)]):=Z (by unfold cM;rw[if_neg c9,bw,bv,if_neg U];dsimp only;rw[ci]);obtain⟨g1,c6,eS,eW,cd,ce,cf,ch⟩:=G.wu g;have fd:=Z (And.intro c6 (And.intro cd (And.intro ce (And.intro cf ch))));obtain⟨g0,fr,k0,k1,k2,k3⟩:=c;dsimp only at eS eW cd ce cf ch E;have bx:=G.c2;rw[c6]at bx;obtain⟨cl,cA⟩:=nm C.calls.length;have g8:(q:Int)<(cl:Int):=(by have:=(List.getElem?_eq_some_iff.1 g).1;omega);rw[cA]at bx cQ;have ge:IntKind.i64.wrap ((q:Int)+1-1)=q:=(by rw[show(q:Int)+1-1=q by omega];exact IntWalk.i64_in _ (by omega));have go:(q:Int)+1-1=q:=(by omega);have av:=Z (fun w (h:ae w χ L Y C K)=>n4 h cC);have c5:0<=C.cells/\C.cells<=512:=(by unfold KC.cells;omega);obtain⟨T,c4⟩:=nm C.cells;rw[c4]at av c5;obtain⟨g3,g4⟩:=c5;have I:Hid (IntKind.u64.wrap T=T):=Z (by unfold IntKind.wrap IntKind.bits IntKind.signed;simp;omega);have ap:=Z c4;obtain⟨kd,J⟩:=nm (cw C K [(k0,a0),(k1,a1),(k2,a2),(k3,a3)]);rw[J]at E;have ck:=Z J;rcases cL with c2|⟨c2,rfl⟩
    all_goals
     try have c0:w0.cell? (L.mb,9)=_:=c0
     try have c3:(F:Int)<7:=by omega
     try have c3:(7:Int)<=(F:Int):=by omega
     go_in
     go_wp2
     try rw[A]
     go_quiet (fail)
     obtain⟨w1,cb⟩:=nm (w0.drewN nq);have O:Hid (Ch ag w0 w1):=Z (by rw[<-cb];exact ay);rw[cb];have fn:=Z (G.af O);have fb:=Z (am.ch O (fun h=>h));go_wp2
     go_loopg [49] 5 (fun gk u wr=>∃k:Nat,k<=4/\gk=4-k+1/\u=.int .i64 k/\Hid (Ch ag w0 wr/\cw C K ([(k0,a0),(k1,a1),(k2,a2),(k3,a3)].drop k)=kd))
     case atStart=>exact⟨0,by omega,by omega,rfl,O,ck⟩
     case round=>
      obtain⟨k,g5,rfl,rfl,f⟩:=hrel;have z:=Z (G.af f.1);have H:=Z (am.ch f.1 (fun h=>h));have bi:=Z (fun n=>av _ (z.drewN n));have co:=z.iq;obtain⟨al,en⟩:=mn (k+1);obtain⟨ad,dC⟩:=mn (4-k);have a:=Z (And.intro en dC);obtain rfl|rfl|rfl|rfl|rfl:k=0∨k=1∨k=2∨k=3∨k=4:=by omega
      rotate_right
      ·have J:kd=0:=f.2.symm
       go_wp2
       go_ret;rw[E,J];exact⟨rfl,p.trans f.1⟩
      all_goals
       first
        |obtain⟨d,o,l,X,x,s,M⟩:=F6 (k0:=k0) (k1:=k1) (k2:=k2) (k3:=k3) H f.2
        |obtain⟨d,o,l,X,x,s,M⟩:=F7 (k0:=k0) (k1:=k1) (k2:=k2) (k3:=k3) H f.2
        |obtain⟨d,o,l,X,x,s,M⟩:=F8 (k0:=k0) (k1:=k1) (k2:=k2) (k3:=k3) H f.2
        |obtain⟨d,o,l,X,x,s,M⟩:=F9 (k0:=k0) (k1:=k1) (k2:=k2) (k3:=k3) H f.2
       have Q:=Z M;by_cases y:d=0
       ·have g:cw C K l=kd:=by rw[<-s];exact(show cw C K ((d,o)::_)=_ by rw[gB,if_pos y]).symm
        have j:=Z g;have eC:(d==0)=true:=(by rw[beq_iff_eq];exact y);go_wp2
        go_roundg (ad)
        case measure=>have:=a.out;omega
        case rel=>exact⟨al,by have:=a.out;omega,by have:=a.out;omega,by rw[a.1];rfl,f.1,by rw[a.1];exact Q▸j⟩
       ·have eC:(d==0)=false:=by rw[beq_eq_false_iff_ne];exact y
        by_cases B:d=7
        ·have eL:(d==7)=true:=by rw[beq_iff_eq];exact B
         by_cases c7:T<=o
         ·have g:kd=22:=by rw[<-s,gB,if_neg y,if_pos B,if_pos (by rw[ap.out,I];exact c7)]
          have j:=Z g;have cS:=I.out;go_wp2
          go_quiet ((go_at_call 112;exact Calls.quiet_of (bi _)))
          generalize a9:wr.drewN _=w3;have i:=Z (Ch.dN (D:=ag) a9);go_wp2
          go_ret;rw[E,j];exact⟨rfl,(p.trans f.1).trans i⟩
         ·have g:cw C K l=kd:=by rw[<-s];exact(show cw C K ((d,o)::_)=_ by rw[gB,if_neg y,if_pos B,if_neg (by rw[ap.out,I];exact c7)]).symm
          have j:=Z g;have cS:=I.out;go_wp2
          go_quiet ((go_at_call 112;exact Calls.quiet_of (bi _)))
          generalize a9:wr.drewN _=w3;have i:=Z (Ch.dN (D:=ag) a9);go_wp2
          go_roundg (ad)
          case measure=>have:=a.out;omega
          case rel=>exact⟨al,by have:=a.out;omega,by have:=a.out;omega,by rw[a.1];rfl,f.1.trans i,by rw[a.1];exact Q▸j⟩
        ·have eL:(d==7)=false:=by rw[beq_eq_false_iff_ne];exact B
         have P:=Z (fun w h=>zX (K:=K) (w:=w) (χ:=χ) (L:=L) (Y:=Y) (C:=C) o d h);obtain⟨cq,W⟩:=nm (gp K.cT o d);rw[W]at P;cases cq with
         |none=>
          have g:kd=22:=(by rw[<-s,gB,if_neg y,if_neg B,W];rfl);have j:=Z g;go_wp2
          go_region_held3 (And.intro co x) (go_keep) ((go_at_call 181;refine(P _ z.drew).mono ?_;rintro e w3 ⟨⟨v,rfl,eA⟩,V⟩;obtain⟨tt,gs,rfl⟩:=eA;have i:Hid (Ch ag wr w3):=Z (Ch.trans ay V);have S:=Z (z.af i);have cm:=i.k x;have co:=S.iq))
          all_goals
           go_wp2
           go_ret;rw[E,j];exact⟨rfl,(p.trans f.1).trans i⟩
         |some v=>
          have g:cw C K l=kd:=(by rw[<-s];exact(show cw C K ((d,o)::_)=_ by rw[gB,if_neg y,if_neg B,W];rfl).symm);have j:=Z g;go_wp2
          go_region_held3 (And.intro co x) (go_keep) ((go_at_call 181;refine(P _ z.drew).mono ?_;rintro e w3 ⟨rfl,V⟩;have i:Hid (Ch ag wr w3):=Z (Ch.trans ay V);have S:=Z (z.af i);have cm:=i.k x;have co:=S.iq))
          all_goals
           go_wp2
           go_roundg (ad)
           case measure=>have:=a.out;omega
           case rel=>exact⟨al,by have:=a.out;omega,by have:=a.out;omega,by rw[a.1];rfl,f.1.trans i,by rw[a.1];exact Q▸j⟩
variable{w1:World}{B bx j k n p s:Nat}{e:TypeId}{l xs:List Value}{u v vc vl vn vw:Value}{X:be}
structure gD where
 code:List be
 labels:List (ByteArray×Int)
 lines:List Int
 bu:List (Int×Int×ByteArray)
 line:Int
def ph(b:ByteArray×Int):List Value:=[.string b.1,.int .i64 b.2]
def oK(x:Int×Int×ByteArray):List Value:=[.int .i64 x.1,.int .i64 x.2.1,.string x.2.2]
def dn(X:be):List Value:=(aD X).toList
def jz(n:Int):List Value:=[n]
structure oL(w:World)(B p bx:Nat)(vc vl vn vw:Value)(S:gD):Prop where
 row:Row w p 189 [vc,vl,vn,vw,.int .i64 S.line]
 hB:B<=p
 code:w.ownsRow B 184 7 vc S.code.length (S.code.flatMap dn)
 ne:vc.ownBlock≠some bx
 labels:w.ownsRow B 198 2 vl S.labels.length (S.labels.flatMap ph)
 lines:w.ownsRow B 3 1 vn S.lines.length (S.lines.flatMap jz)
 bu:w.ownsRow B 196 3 vw S.bu.length (S.bu.flatMap oK)
def dK(w:World)(B p bx:Nat)(S:gD):Prop:=∃vc vl vn vw,oL w B p bx vc vl vn vw S
def hH(w w':World):Prop:=∀(k:Nat) (c:Array Value) (t:TypeId) (f:Nat×Nat),t≠189->t≠184->t≠196->w.heap[k]?=some (.cells c t f)->w'.heap[k]?=some (.cells c t f)
theorem hH.refl(w:World):hH w w:=fun _ _ _ _ _ _ _ h=>h
theorem hH.trans{a b c:World}(h:hH a b)(g:hH b c):hH a c:=fun k x t f d i m o=>g k x t f d i m (h k x t f d i m o)
theorem hH.row(h:hH w w')(f:Row w b t l)(a:t≠189)(c:t≠184)(d:t≠196):Row w' b t l:=h b _ t _ a c d f
theorem hH.fj{D:Nat->Prop}(c:Ch D w w')(hd:∀k x t f,D k->w.heap[k]?=some (.cells x t f)->t=189∨t=184∨t=196):hH w w':=by
 intro k x t f g i m a;rw[c.same k (Array.getElem?_eq_some_iff.1 a).1 (fun d=>by rcases hd k x t f d a with h|h|h<;>contradiction)];exact a
theorem bm{size:Nat}(h:w.ownsRow B e size v n xs){c:Array Value}{f:Nat×Nat}(a:w.heap[k]?=some (.cells c t f))(o:t≠e):v.ownBlock≠some k:=by
 rcases h.2 with⟨rfl,_⟩|⟨g,cap,cur,rfl,_,i,_⟩
 ·simp[Value.ownBlock]
 ·intro m
  have:g=k:=by simpa[Value.ownBlock]using m
  subst this;rw[i]at a;injection a with a
  injection a with _ d _
  exact o d.symm
theorem bW{size:Nat}(h:w.ownsRow B e size v n xs)(a:v.ownBlock=some k):B<=k/\∃c,w.heap[k]?=some (.cells c e (0,0)):=by
 rcases h.2 with⟨rfl,_⟩|⟨g,cap,cur,rfl,d,f,_⟩
 ·cases a
 ·have:g=k:=by simpa[Value.ownBlock]using a
  subst this;exact⟨d,_,f⟩
theorem eM(h:Row w b t l){c:Array Value}{d:TypeId}{f:Nat×Nat}(a:w.heap[b]?=some (.cells c d f)):d=t:=by
 unfold Row at h;rw[h]at a;injection a with a;injection a with _ g _;exact g.symm
theorem oL.ins{S:gD}(h:oL w B p bx vc vl vn vw S)(f:aq w bx X)(c:Ch (aH bx) w w'):oL w' B p bx vc vl vn vw S where
 row:=h.row.ch c (fun e=>by have a:p=bx:=e;subst a;exact absurd (eM h.row f) (by decide))
 hB:=h.hB
 code:=ak h.code c (fun g d e=>by have a:g=bx:=e;subst a;exact h.ne d)
 ne:=h.ne
 labels:=ak h.labels c (fun g d e=>by have a:g=bx:=e;subst a;exact bm h.labels f (by decide) d)
 lines:=ak h.lines c (fun g d e=>by have a:g=bx:=e;subst a;exact bm h.lines f (by decide) d)
 bu:=ak h.bu c (fun g d e=>by have a:g=bx:=e;subst a;exact bm h.bu f (by decide) d)
theorem oL.af{S:gD}(h:oL w B p bx vc vl vn vw S)(c:Ch ag w w'):oL w' B p bx vc vl vn vw S where
 row:=h.row.ch c id
 hB:=h.hB
 code:=ak h.code c (fun g a e=>e)
 ne:=h.ne
 labels:=ak h.labels c (fun g a e=>e)
 lines:=ak h.lines c (fun g a e=>e)
 bu:=ak h.bu c (fun g a e=>e)
theorem dK.af{S:gD}(h:dK w B p bx S)(c:Ch ag w w'):dK w' B p bx S:=by
 obtain⟨vc,vl,vn,vw,h⟩:=h;exact⟨vc,vl,vn,vw,h.af c⟩
theorem dK.ins{S:gD}(h:dK w B p bx S)(a:aq w bx X)(c:Ch (aH bx) w w'):dK w' B p bx S:=by
 obtain⟨vc,vl,vn,vw,h⟩:=h;exact⟨vc,vl,vn,vw,h.ins a c⟩
def wH(p:Nat)(v:Value):Nat->Prop:=fun i=>i=p∨v.ownBlock=some i
theorem kq(a:w.grownBy w1 v.ownBlock):Ch (wH p v) w (w1.setCell (p,j) u):=
 Ch.hj (D:=wH p v) (p:=⟨p,j,none⟩) ⟨a.os,a.tape,a.output,a.size,fun b hb hd=>a.block b hb (fun e=>hd (Or.inr e.symm))⟩ (Or.inl rfl) u
theorem f'(c:Ch (wH p v) w w')(h:w.ownsRow B e s v n xs)(a:B<=p)(d:B<=w.heap.size):Below B w w':=
 c.below d (fun b hb=>by rcases hb with rfl|hb;exact a;exact(bW h hb).1)
theorem dT(h:w1.ownsRow B e s v n xs)(f:Row w1 p t l)(i:t≠e):(w1.setCell (p,j) u).ownsRow B e s v n xs:=
 ak (D:=aH p) h ay (fun g d a=>by have c:g=p:=a;subst c;exact bm h f i d)
theorem oL.want{v':Value}{S:gD}(h:oL w B p bx vc vl vn vw S)(A:aq w bx X)(G:B<=w.heap.size)(y:Int×Int×ByteArray)
 (F:w1.ownsRow B 196 3 v' (S.bu.length+1) (S.bu.flatMap oK++oK y)) (a:w.grownBy w1 vw.ownBlock):
 dK (w1.setCell (p,3) v') B p bx {S with bu:=S.bu++[y]}/\aq (w1.setCell (p,3) v') bx X/\Below B w (w1.setCell (p,3) v')/\hH w (w1.setCell (p,3) v'):=by
 have c:=kq (p:=p) (j:=3) (u:=v') a;have H:Ch (wH p vw) w w1:=⟨a.os,a.tape,a.output,a.size,fun b hb hd=>a.block b hb (fun e=>hd (Or.inr e.symm))⟩;have C:∀{k:Nat} {cs:Array Value} {t:TypeId} {f:Nat×Nat},w.heap[k]?=some (.cells cs t f)->t≠189->t≠196->¬wH p vw k:=fun d o i q=>by
  rcases q with rfl|q
  ·exact o (eM h.row d)
  ·exact bm h.bu d i q
 have r:∀{e:TypeId} {s:Nat} {v:Value} {n:Nat} {xs:List Value},w.ownsRow B e s v n xs->e≠189->e≠196->∀g,v.ownBlock=some g->¬wH p vw g:=fun E o i g a=>by
  obtain⟨_,cs,d⟩:=bW E a;exact C d o i
 have z:Row w1 p 189 [vc,vl,vn,vw,.int .i64 S.line]:=by
  unfold Row;rw[a.block p h.row.lt (fun e=>bm h.bu h.row (by decide) e.symm)];exact h.row
 refine⟨⟨vc,vl,vn,v',⟨z.bc _ _ rfl,h.hB,ak h.code c (r h.code (by decide) (by decide)),h.ne,ak h.labels c (r h.labels (by decide) (by decide)),ak h.lines c (r h.lines (by decide) (by decide)),?_⟩⟩,A.ch c (C A (by decide) (by decide)),f' c h.bu h.hB G,?_⟩
 ·have:=dT (j:=3) (u:=v') F z (by decide)
  rw[List.flatMap_append,List.length_append];simpa using this
 ·refine hH.fj c (fun k x t f d m=> ?_)
  rcases d with rfl|d
  ·exact Or.inl (eM h.row m)
  ·obtain⟨_,cs,i⟩:=bW h.bu d
   rw[i]at m;injection m with m;injection m with _ D _
   exact Or.inr (Or.inr D.symm)
theorem AV:(prog.info? 196).map (fun i=>(i.zero,i.size,i.bytes))=some (some (.agg #[.int .i64 0,.int .i64 0,.string ByteArray.empty]),3,32):=by kernel_rfl
def kr(kind n:Int)(X:be):be:=if kind=0 then {X with a:=n}else if kind=1∨kind=3 then {X with b:=n}else if kind=2∨kind=4 then {X with c:=n}else X
def pj(kind v:Int)(X:be):be:=if kind=3 then {X with v:=v,b:=-1}else if kind=4 then {X with v:=v,c:=-1}else {X with v:=v}
def tj(kind:Int)(s:ByteArray)(S:gD)(X:be):Option (gD×be):=
 if kind=5 then(uW s X).map fun a=>(S,a)
 else if(kind=6∨kind=8)/\fZ s=true then some ({S with bu:=S.bu++[(S.line,(S.code.length:Int),s)]},kr kind (dW s).1 X)
 else if kind=6 then none
 else if kind=0∨kind=1∨kind=2 then(if(dW s).2 then some (S,kr kind (dW s).1 X)else none)
 else if(dW s).2=true/\(kind=3∨kind=4)then some (S,kr kind (dW s).1 X)
 else(yD s).map fun v=>(S,pj kind v (kr kind (dW s).1 X))
def dA(S:gD)(X:be)(B p bx:Nat)(w:World)(e:Ending)(w':World):Prop:=e=.returned (.pointer none)/\dK w' B p bx S/\aq w' bx X/\Below B w w'/\hH w w'
theorem dA.of{S:gD}{X d:be}{B p bx:Nat}{w w':World}(j:dK w B p bx S)(a:aq w bx d)(g:B<=bx)(l:aq w' bx X)(c:Ch (aH bx) w w'):dA S X B p bx w (.returned (.pointer none)) w':=
 ⟨rfl,j.ins a c,l,c.below (Nat.le_of_lt (Nat.lt_of_le_of_lt g a.lt)) (fun b hb=>by have e:b=bx:=hb;omega),hH.fj c (fun k x t f i h=>by have e:k=bx:=i;subst e;exact Or.inr (Or.inl (eM a h)))⟩
theorem ks(s:ByteArray)(a:s.size<=maxLen)(b:Bool)(h:fZ s=b)(w:World):Calls prog 120 #[.string s] w (QB b w):=by rw[<-h];exact yC s a w
theorem uX(kind:Int)(i:kind=6∨kind=8)(s:ByteArray)(am:s.size<=65536)(K:fZ s=true)(B p bx:Nat)(S:gD)(X:be)(w:World)
 (r:aq w bx X) (N:dK w B p bx S) (a9:B<=bx) (hlen:S.bu.length<=1048576):
 Calls prog 124 #[(p,0),kind,.string s,(bx,0)] w
  (dA {S with bu:=S.bu++[(S.line,(S.code.length:Int),s)]} X B p bx w):=by
 obtain⟨U,J,Q,R,T⟩:=info_parts AV;have o:s.size<=maxLen:=by unfold maxLen;omega
 rcases M:dW s with⟨n,b⟩
 have z:=Z (jW s o n b M);have y:=Z (ks s o true K);obtain⟨vc,vl,vn,vw,a⟩:=N;have C:=Z a;have E:=Z r;have al:=a.row.lt;have h:vw.ownBlock≠some p:=bm a.bu a.row (by decide);obtain⟨l,m,I⟩:=au a.code;have v:=Z I;have x:=Z J;have H:B<=w.heap.size:=by have:=r.lt;omega
 have k:Hid (∀(w1:World),Ch ag w w1->oL w1 B p bx vc vl vn vw S/\aq w1 bx X):=Z (fun w1 c=>⟨C.af c,E.ch c id⟩);rcases i with rfl|rfl
 all_goals
  go_in
  go_wp2_with (first|(go_at_call 153;(with_reducible refine(z.out _).mono ?_);rintro e w' ⟨rfl,V,rfl⟩)|(go_at_call 120;(with_reducible refine(y.out _).mono ?_);rintro e w' ⟨rfl,W,rfl⟩))
  obtain⟨w1,q⟩:=nm (w.drewN (V+W));have d:=Z (Ch.dN (D:=ag) q);rw[q];have a:=(k _ d).1;have A:=Z a;have F:=Z (k _ d).2;have O:=d.size;have Y:w1.cell? (p,0)=some (.slice l S.code.length m):=by rw[<-v];exact a.row.cell rfl
  have a0:w1.cell? (p,3)=some vw:=a.row.cell rfl;have a1:w1.cell? (p,4)=some (.int .i64 S.line):=a.row.cell rfl;have G:=a.row.free 3;have g:p<w1.heap.size:=by omega
  have P:=a.bu;have j:=Z O;go_region_law (first|(refine step_append_lies _ (by rfl) _ _ _ (by rfl) B 196 U _ 3 32 underlying187 x Q R T rfl (by omega) vw S.bu.length (S.bu.flatMap oK) (by rfl) ((P.alloc _).drew) ⟨w1.heap.size,0,none⟩ 1 1 [.int .i64 S.line,.int .i64 S.code.length,.string s] (by rfl) (by rfl) (World.news_of_block (cs:=#[.int .i64 S.line,.int .i64 S.code.length,.string s]) (t:=196) (fr:=(0,0)) (heap_alloc_new w1 _)) (by simp[Value.oneCell']) (by omega) (by unfold maxLen;omega) (by omega) (by simp;have:=j.out;omega) (w1.heap.size+1) (by simp) ?_;intro a5 cap w2 L f ab ad;have u:w2.cell? (p,3)=some vw:=(f.cell_far ⟨p,3,none⟩ (by simp;omega) (Ne.symm h)).trans (by simp[go_sem,World.cell?_alloc_past,g,a0]);have av:w2.frozen? (p,3)=false:=(f.frozen_far ⟨p,3,none⟩ (by simp;omega) (Ne.symm h)).trans (by simp[go_sem,World.frozen?_alloc_past,g,G]);have ap:w2.cell? (p,0)=some (.slice l S.code.length m):=(f.cell_far ⟨p,0,none⟩ (by simp;omega) (Ne.symm h)).trans (by simp[go_sem,World.cell?_alloc_past,g,Y]);have bi:w2.cell? (p,4)=some (.int .i64 S.line):=(f.cell_far ⟨p,4,none⟩ (by simp;omega) (Ne.symm h)).trans (by simp[go_sem,World.cell?_alloc_past,g,a1])))
  all_goals
   go_wp2
   go_ret;obtain⟨a2,a3,a4,u⟩:=A.want F (by have:=j.out;omega) (S.line,(S.code.length:Int),s) L (ao (cY f));exact⟨rfl,a2,a3,(d.below H (fun _ hb=>False.elim hb)).trans a4,(hH.fj d (fun _ _ _ _ i _=>False.elim i)).trans u⟩
theorem yG(kind:Int)(T:0<=kind/\kind<=8)(s:ByteArray)(C:s.size<=65536)(B p bx:Nat)(S z:gD)(X t:be)(w:World)(h:tj kind s S X=some (z,t))
 (d:aq w bx X) (x:dK w B p bx S) (f:B<=bx) (hlen:S.bu.length<=1048576) (r:p≠bx):
 Calls prog 124 #[(p,0),kind,.string s,(bx,0)] w (dA z t B p bx w):=by
 have k:s.size<=maxLen:=by unfold maxLen;omega
 by_cases q:(kind=6∨kind=8)/\fZ s=true
 ·unfold tj at h
  rw[if_neg (by omega),if_pos q]at h;have e:kr kind (dW s).1 X=X:=by unfold kr;rw[if_neg (by omega),if_neg (by omega),if_neg (by omega)]
  rw[e]at h;obtain⟨rfl,rfl⟩:=Prod.mk.inj (Option.some.inj h);exact uX kind q.1 s C q.2 B p bx S X w d x f hlen
 ·have j:=Z x
  have a:=Z d;have f1:=d.free 1;have f2:=d.free 2;have f3:=d.free 3;have f4:=d.free 4;have O:w.cell? (bx,1)=some (.int .i64 X.a):=d.cell rfl;have P:w.cell? (bx,2)=some (.int .i64 X.b):=d.cell rfl;have Q:w.cell? (bx,3)=some (.int .i64 X.c):=d.cell rfl;have R:w.cell? (bx,4)=some (.int .u64 X.v):=d.cell rfl;obtain⟨vc,vl,vn,vw,G⟩:=x;have g:w.cell? (p,4)=some (.int .i64 S.line):=G.row.cell rfl;rcases A:dW s with⟨n,b⟩
  have i:=Z (jW s k n b A);have L:kind=6∨kind=8->fZ s=false:=fun u=>by
   cases J:fZ s with
   |false=>rfl
   |true=>exact absurd ⟨u,J⟩ q
  have y:=Z (fun u w=>ks s k false (L u) w);have K:kind=0∨kind=1∨kind=2∨kind=3∨kind=4∨kind=5∨kind=6∨kind=7∨kind=8:=by omega
  unfold tj at h;rw[A]at h;rcases K with rfl|rfl|rfl|rfl|rfl|rfl|rfl|rfl|rfl
  all_goals(first|rw[if_neg (by decide),if_neg q]at h|skip)
  all_goals clear q
  ·cases b<;>simp[kr,pj]at h
   obtain⟨rfl,rfl⟩:=h;go_in
   go_wp2_with (go_at_call 153;(with_reducible refine(i.out _).mono ?_);rintro e w' ⟨rfl,l,rfl⟩)
   go_ret;refine dA.of j.out a.out f ?_ ay
   (repeat(first|with_reducible refine aq.drewN ?_ _|with_reducible refine aq.drew ?_))
   refine aq.Gc (X:=X) ?_ n
   (repeat(first|with_reducible refine aq.drewN ?_ _|with_reducible refine aq.drew ?_))
   exact a
  ·cases b<;>simp[kr,pj]at h
   obtain⟨rfl,rfl⟩:=h;go_in
   go_wp2_with (go_at_call 153;(with_reducible refine(i.out _).mono ?_);rintro e w' ⟨rfl,l,rfl⟩)
   go_ret;refine dA.of j.out a.out f ?_ ay
   (repeat(first|with_reducible refine aq.drewN ?_ _|with_reducible refine aq.drew ?_))
   refine aq.oJ (X:=X) ?_ n
   (repeat(first|with_reducible refine aq.drewN ?_ _|with_reducible refine aq.drew ?_))
   exact a
  ·cases b<;>simp[kr,pj]at h
   obtain⟨rfl,rfl⟩:=h;go_in
   go_wp2_with (go_at_call 153;(with_reducible refine(i.out _).mono ?_);rintro e w' ⟨rfl,l,rfl⟩)
   go_ret;refine dA.of j.out a.out f ?_ ay
   (repeat(first|with_reducible refine aq.drewN ?_ _|with_reducible refine aq.drew ?_))
   refine aq.wE (X:=X) ?_ n
   (repeat(first|with_reducible refine aq.drewN ?_ _|with_reducible refine aq.drew ?_))
   exact a
  ·cases b
   ·simp[kr,pj]at h
    obtain⟨v,o,rfl,rfl⟩:=h;have m:=Z (c' s k v o p S.line);go_in
    go_wp2_with (first|(go_at_call 153;(with_reducible refine(i.out _).mono ?_);rintro e w' ⟨rfl,l,rfl⟩)|(go_at_call 157;(with_reducible refine(m.out _ ?_).mono ?_);(first|exact g|simp[go_sem,r,g]);rintro e w' ⟨rfl,k,rfl⟩))
    go_ret;refine dA.of j.out a.out f ?_ ay
    (repeat(first|with_reducible refine aq.drewN ?_ _|with_reducible refine aq.drew ?_))
    refine aq.oJ (X:={X with b:=n,v:=v}) ?_ (-1)
    (repeat(first|with_reducible refine aq.drewN ?_ _|with_reducible refine aq.drew ?_))
    refine aq.mU (X:={X with b:=n}) ?_ v
    (repeat(first|with_reducible refine aq.drewN ?_ _|with_reducible refine aq.drew ?_))
    refine aq.oJ (X:=X) ?_ n
    (repeat(first|with_reducible refine aq.drewN ?_ _|with_reducible refine aq.drew ?_))
    exact a
   ·simp[kr,pj]at h
    obtain⟨rfl,rfl⟩:=h;go_in
    go_wp2_with (go_at_call 153;(with_reducible refine(i.out _).mono ?_);rintro e w' ⟨rfl,l,rfl⟩)
    go_ret;refine dA.of j.out a.out f ?_ ay
    (repeat(first|with_reducible refine aq.drewN ?_ _|with_reducible refine aq.drew ?_))
    refine aq.oJ (X:=X) ?_ n
    (repeat(first|with_reducible refine aq.drewN ?_ _|with_reducible refine aq.drew ?_))
    exact a
  ·cases b
   ·simp[kr,pj]at h
    obtain⟨v,o,rfl,rfl⟩:=h;have m:=Z (c' s k v o p S.line);go_in
    go_wp2_with (first|(go_at_call 153;(with_reducible refine(i.out _).mono ?_);rintro e w' ⟨rfl,l,rfl⟩)|(go_at_call 157;(with_reducible refine(m.out _ ?_).mono ?_);(first|exact g|simp[go_sem,r,g]);rintro e w' ⟨rfl,k,rfl⟩))
    go_ret;refine dA.of j.out a.out f ?_ ay
    (repeat(first|with_reducible refine aq.drewN ?_ _|with_reducible refine aq.drew ?_))
    refine aq.wE (X:={X with c:=n,v:=v}) ?_ (-1)
    (repeat(first|with_reducible refine aq.drewN ?_ _|with_reducible refine aq.drew ?_))
    refine aq.mU (X:={X with c:=n}) ?_ v
    (repeat(first|with_reducible refine aq.drewN ?_ _|with_reducible refine aq.drew ?_))
    refine aq.wE (X:=X) ?_ n
    (repeat(first|with_reducible refine aq.drewN ?_ _|with_reducible refine aq.drew ?_))
    exact a
   ·simp[kr,pj]at h
    obtain⟨rfl,rfl⟩:=h;go_in
    go_wp2_with (go_at_call 153;(with_reducible refine(i.out _).mono ?_);rintro e w' ⟨rfl,l,rfl⟩)
    go_ret;refine dA.of j.out a.out f ?_ ay
    (repeat(first|with_reducible refine aq.drewN ?_ _|with_reducible refine aq.drew ?_))
    refine aq.wE (X:=X) ?_ n
    (repeat(first|with_reducible refine aq.drewN ?_ _|with_reducible refine aq.drew ?_))
    exact a
  ·simp at h
   obtain⟨H,rfl⟩:=h;have D:=Z (fun w g d=>yE s C X t H p bx S.line w g d);go_in
   go_wp2_with (first|(go_at_call 153;(with_reducible refine(i.out _).mono ?_);rintro e w' ⟨rfl,l,rfl⟩)|(go_at_call 156;(with_reducible refine(D.out _ ?_ ?_).mono ?_);exact g;exact a.out.drewN _;rintro e w' ⟨rfl,M,I⟩;have F:=Z M;have E:=Z I))
   go_ret;exact dA.of j a f F (Ch.trans ay E)
  ·simp at h
  ·simp[kr,pj]at h
   obtain⟨v,o,rfl,rfl⟩:=h;have m:=Z (c' s k v o p S.line);cases b
   all_goals
    go_in
    go_wp2_with (first|(go_at_call 153;(with_reducible refine(i.out _).mono ?_);rintro e w' ⟨rfl,l,rfl⟩)|(go_at_call 120;(with_reducible refine(y.out (by decide) _).mono ?_);rintro e w' ⟨rfl,N,rfl⟩)|(go_at_call 157;(with_reducible refine(m.out _ ?_).mono ?_);(first|exact g|simp[go_sem,r,g]);rintro e w' ⟨rfl,k,rfl⟩))
    go_ret;refine dA.of j.out a.out f ?_ ay
    (repeat(first|with_reducible refine aq.drewN ?_ _|with_reducible refine aq.drew ?_))
    refine aq.mU (X:=X) ?_ v
    (repeat(first|with_reducible refine aq.drewN ?_ _|with_reducible refine aq.drew ?_))
    exact a
  ·simp[kr,pj]at h
   obtain⟨v,o,rfl,rfl⟩:=h;have m:=Z (c' s k v o p S.line);cases b
   all_goals
    go_in
    go_wp2_with (first|(go_at_call 153;(with_reducible refine(i.out _).mono ?_);rintro e w' ⟨rfl,l,rfl⟩)|(go_at_call 120;(with_reducible refine(y.out (by decide) _).mono ?_);rintro e w' ⟨rfl,N,rfl⟩)|(go_at_call 157;(with_reducible refine(m.out _ ?_).mono ?_);(first|exact g|simp[go_sem,r,g]);rintro e w' ⟨rfl,k,rfl⟩))
    go_ret;refine dA.of j.out a.out f ?_ ay
    (repeat(first|with_reducible refine aq.drewN ?_ _|with_reducible refine aq.drew ?_))
    refine aq.mU (X:=X) ?_ v
    (repeat(first|with_reducible refine aq.drewN ?_ _|with_reducible refine aq.drew ?_))
    exact a
variable{w2:World}{l:Value}
theorem CW:(prog.info? 9).map (fun i=>(i.zero,i.size,i.bytes))=some (some (.string ByteArray.empty),1,16):=by kernel_rfl
def tk(l:List UInt8):ByteArray:=⟨l.toArray⟩
theorem tn(l:List UInt8):(tk l).size=l.length:=by simp[tk,ByteArray.size]
theorem jA(l:List UInt8):(tk l).data.toList=l:=by simp[tk]
def pn(w:List UInt8):List ByteArray:=if w=[]then []else [tk w]
def lj:List UInt8->List UInt8->List ByteArray
 |[],w=>pn w
 |c::cs,w=>if(c.toNat:Int)≠32/\(c.toNat:Int)≠59 then lj cs (w++[c])else if(c.toNat:Int)=59 then pn w else pn w++lj cs []
def e7(s:ByteArray):List ByteArray:=lj s.data.toList []
def iw(a:List ByteArray)(w:World)(e:Ending)(w':World):Prop:=
 ∃v,e=.returned v/\w'.ownsRow w.heap.size 9 1 v a.length (a.map Value.string)/\Below w.heap.size w w'
theorem iw.mk{a:List ByteArray}{w':World}{v:Value}(acc:List ByteArray)(h:a=acc)(b:w'.ownsRow w.heap.size 9 1 v acc.length (acc.map Value.string))(hb:Below w.heap.size w w'):iw a w (.returned v) w':=by
 subst h;exact⟨v,rfl,b,hb⟩
theorem l9{wr:World}{o:Obj}{n:Nat}{xs:List Value}(h:Below B w wr)(d:wr.ownsRow B 9 1 l n xs)(b:(wr.alloc o).grownBy w2 l.ownBlock)(a:B<=wr.heap.size:=by omega):Below B w w2:=
 (h.alloc a o).grown b (by simp;omega) (fun k c=>(d.lt k c).1)
theorem q'{acc:List ByteArray}{x:ByteArray}(h:w2.ownsRow B 9 1 l (acc.length+1) (acc.map Value.string++[.string x])):w2.ownsRow B 9 1 l (acc++[x]).length ((acc++[x]).map Value.string):=by
 simpa using h
def AW(s:ByteArray)(w:World)(l wv i:Value)(wr:World):Prop:=
 ∃(k:Nat) (a:List UInt8) (acc:List ByteArray),k<=s.size+1/\i=.int .i64 k/\wv=.string (tk a)/\a.length<=k/\acc.length<=k/\wr.ownsRow w.heap.size 9 1 l acc.length (acc.map Value.string)/\Below w.heap.size w wr/\((k<=s.size/\acc++lj (s.data.toList.drop k) a=e7 s)∨(s.size<k/\acc=e7 s))
theorem oM(s:ByteArray)(a0:s.size<=65536)(w:World):Calls prog 78 #[.string s] w (iw (e7 s) w):=by
 obtain⟨N,I,K,L,M⟩:=info_parts CW;go_wp2
 go_loopw [3,4,5] (fun l wv i wr=>AW s w l wv i wr) (fun _ _ i _=>s.size+1-(intOf i).toNat)
 case atStart=>exact⟨0,[],[],by omega,rfl,rfl,by simp,by simp,World.ownsRow_nil _ _ _ _,Below.refl _ _,Or.inl ⟨by omega,rfl⟩⟩
 case round=>
  obtain⟨k,c,acc,Y,rfl,rfl,a2,X,p,r,A⟩:=hrel;have a1:=r.size;rcases A with⟨T,A⟩|⟨T,A⟩
  ·have y:=Z A
   have V:(tk c).size=c.length:=tn c;have W:=Z V;have J:(tk c).size<=65536:=(by omega);by_cases U:k<s.size
   ·have q:Hid (s.data.toList.drop k=s[k]::s.data.toList.drop (k+1)):=drop_cons s k U
    have Q:Hid (tk c++s.extract k (k+1)=tk (c++[s[k]])):=by
     show _=_
     have e:(s.extract k (k+1)).data.toList=[s[k]]:=by
      rw[ByteArray.data_extract,Array.toList_extract,List.extract_eq_take_drop,show k+1-k=1 from by omega,q];rfl
     apply ByteArray.ext;apply Array.ext';rw[ByteArray.data_append,Array.toList_append,e,jA,jA]
    by_cases H:(s[k].toNat:Int)=32
    ·obtain⟨t,d⟩:=nm (tk c)
     rw[d]at J⊢;have O:=Z d;have P:((s[k].toNat:Int) !=32)=false:=(by simpa using H);have S:((s[k].toNat:Int)==59)=false:=(by rw[H];rfl);by_cases g:c=[]
     ·have n:t.toList=[]:=by rw[<-d,g,ByteArray.toList_eq];rfl
      have C:(!t.toList.isEmpty)=false:=(by rw[n];rfl);have m:Hid (acc++lj (s.data.toList.drop (k+1)) []=e7 s):=by
       show _=_
       rw[<-y,q];rw[lj,if_neg (by omega),if_neg (by omega),g];rfl
      go_wp2
      go_roundw
      case rel=>exact⟨k+1,[],acc,by omega,by go_num,rfl,by simp,by omega,p,r,Or.inl ⟨by omega,m⟩⟩
      case measure=>simp[intOf];omega
     ·have n:¬t.toList=[]:=by
       intro o;have v:(tk c).toList=[]:=(by rw[d];exact o);rw[ByteArray.toList_eq]at v;exact g (by rw[<-jA c];exact v)
      have C:(!t.toList.isEmpty)=true:=by
       cases o:t.toList with
       |nil=>exact absurd o n
       |cons a b=>rfl
      have m:Hid ((acc++[t])++lj (s.data.toList.drop (k+1)) []=e7 s):=by
       show _=_
       rw[<-y,q];rw[lj,if_neg (by omega),if_neg (by omega),pn,if_neg g,d,List.append_assoc]
      go_wp2_with (at_builtin;refine wpList_append_own _ rfl _ _ 190 rfl w.heap.size 9 N (.string ByteArray.empty) 1 16 underlying190 I K L M rfl (by decide) _ _ _ rfl (p.alloc _) ⟨wr.heap.size,0,none⟩ 1 1 [.string t] rfl rfl ?_ ?_ ?_ ?_ ?_ ?_)
      ·intro j u f
       match j,f with
       |0,f=>simp at f;subst f;simp[Addr.add]
      ·first|rfl|(intro u x;simp at x;subst x;rfl)
      ·unfold maxLen;omega
      ·omega
      ·simp;omega
      intro v' w2 F E _;have D:=l9 r p E;have G:=q' F;go_wp2
      go_roundw
      case rel=>exact⟨k+1,[],acc++[t],by omega,by go_num,rfl,by simp,by simp;try omega,G,D,Or.inl ⟨by omega,m⟩⟩
      case measure=>simp[intOf];omega
    ·by_cases z:(s[k].toNat:Int)=59
     ·obtain⟨t,d⟩:=nm (tk c)
      rw[d]at J⊢;have O:=Z d;have P:((s[k].toNat:Int) !=32)=true:=(by rw[z];rfl);have R:((s[k].toNat:Int) !=59)=false:=(by rw[z];rfl);have S:((s[k].toNat:Int)==59)=true:=(by rw[z];rfl);by_cases g:c=[]
      ·have n:t.toList=[]:=by rw[<-d,g,ByteArray.toList_eq];rfl
       have C:(!t.toList.isEmpty)=false:=(by rw[n];rfl);have m:Hid (acc++[]=e7 s):=by
        show _=_
        rw[<-y,q];rw[lj,if_neg (by omega),if_pos z,g];rfl
       go_wp2
       go_ret;exact iw.mk _ (by have h:=m.out;rw[List.append_nil]at h;exact h.symm) p r
      ·have n:¬t.toList=[]:=by
        intro o;have v:(tk c).toList=[]:=(by rw[d];exact o);rw[ByteArray.toList_eq]at v;exact g (by rw[<-jA c];exact v)
       have C:(!t.toList.isEmpty)=true:=by
        cases o:t.toList with
        |nil=>exact absurd o n
        |cons a b=>rfl
       have m:Hid ((acc++[t])++[]=e7 s):=by
        show _=_
        rw[<-y,q];rw[lj,if_neg (by omega),if_pos z,pn,if_neg g,d,List.append_nil]
       go_wp2_with (at_builtin;refine wpList_append_own _ rfl _ _ 190 rfl w.heap.size 9 N (.string ByteArray.empty) 1 16 underlying190 I K L M rfl (by decide) _ _ _ rfl (p.alloc _) ⟨wr.heap.size,0,none⟩ 1 1 [.string t] rfl rfl ?_ ?_ ?_ ?_ ?_ ?_)
       ·intro j u f
        match j,f with
        |0,f=>simp at f;subst f;simp[Addr.add]
       ·first|rfl|(intro u x;simp at x;subst x;rfl)
       ·unfold maxLen;omega
       ·omega
       ·simp;omega
       intro v' w2 F E _;have D:=l9 r p E;have G:=q' F;go_wp2
       go_ret;exact iw.mk _ (by have h:=m.out;rw[List.append_nil]at h;exact h.symm) G D
     ·have P:((s[k].toNat:Int) !=32)=true:=by simpa using H
      have R:((s[k].toNat:Int) !=59)=true:=(by simpa using z);have m:Hid (acc++lj (s.data.toList.drop (k+1)) (c++[s[k]])=e7 s):=by
       show _=_
       rw[<-y,q,lj,if_pos ⟨H,z⟩]
      go_wp2
      go_roundw
      case rel=>exact⟨k+1,c++[s[k]],acc,by omega,by go_num,congrArg Value.string Q,by simp;omega,by omega,p,r,Or.inl ⟨by omega,m⟩⟩
      case measure=>simp[intOf];omega
   ·have q:Hid (s.data.toList.drop k=[]):=iv s k (by omega)
    obtain⟨t,d⟩:=nm (tk c);rw[d]at J⊢;have O:=Z d;by_cases g:c=[]
    ·have n:t.toList=[]:=by rw[<-d,g,ByteArray.toList_eq];rfl
     have C:(!t.toList.isEmpty)=false:=(by rw[n];rfl);have m:Hid (acc++[]=e7 s):=by
      show _=_
      rw[<-y,q];rw[lj,g];rfl
     go_wp2
     go_roundw
     case rel=>exact⟨k+1,[],acc,by omega,by go_num,rfl,by simp,by omega,p,r,Or.inr ⟨by omega,by have h:=m.out;rw[List.append_nil]at h;exact h⟩⟩
     case measure=>simp[intOf];omega
    ·have n:¬t.toList=[]:=by
      intro o;have v:(tk c).toList=[]:=(by rw[d];exact o);rw[ByteArray.toList_eq]at v;exact g (by rw[<-jA c];exact v)
     have C:(!t.toList.isEmpty)=true:=by
      cases o:t.toList with
      |nil=>exact absurd o n
      |cons a b=>rfl
     have m:Hid ((acc++[t])++[]=e7 s):=by
      show _=_
      rw[<-y,q];rw[lj,pn,if_neg g,d,List.append_nil]
     go_wp2_with (at_builtin;refine wpList_append_own _ rfl _ _ 190 rfl w.heap.size 9 N (.string ByteArray.empty) 1 16 underlying190 I K L M rfl (by decide) _ _ _ rfl (p.alloc _) ⟨wr.heap.size,0,none⟩ 1 1 [.string t] rfl rfl ?_ ?_ ?_ ?_ ?_ ?_)
     ·intro j u f
      match j,f with
      |0,f=>simp at f;subst f;simp[Addr.add]
     ·first|rfl|(intro u x;simp at x;subst x;rfl)
     ·unfold maxLen;omega
     ·omega
     ·simp;omega
     intro v' w2 F E _;have D:=l9 r p E;have G:=q' F;go_wp2
     go_roundw
     case rel=>exact⟨k+1,[],acc++[t],by omega,by go_num,rfl,by simp,by simp;omega,G,D,Or.inr ⟨by omega,by have h:=m.out;rw[List.append_nil]at h;exact h⟩⟩
     case measure=>simp[intOf];omega
  ·go_wp2
   go_ret;exact iw.mk _ A.symm p r
variable{w0:World}{acc:List Int}
theorem np{b i:Nat}{c:Array Value}{t:TypeId}(h:w.heap[b]?=some (.cells c t (0,0))):w.cell? (b,i)=c[i]?:=cell_of_row w b i _ _ _ h
theorem lk:(prog.info? 3).map (fun i=>(i.zero,i.size,i.bytes))=some (some (.int .i64 0),1,8):=by kernel_rfl
abbrev GH:=Bool×Bool×Bool×Bool×Bool×Bool×Bool×Bool
def AX(op:Int):GH:=
 if op=1 then(true,false,false,true,false,false,false,true)
 else if op=2∨op=23∨op=49∨op=50∨op=47∨op=39∨op=54 then(true,true,false,false,false,false,false,true)
 else if op=3∨op=4∨op=5∨op=6∨op=7∨op=8∨op=9∨op=10∨op=11 then(true,true,true,true,false,true,false,true)
 else if op=12∨op=15 then(false,false,false,true,false,false,true,true)
 else if op=13∨op=14 then(true,false,false,true,false,false,true,true)
 else if op=16∨op=33∨op=55∨op=56∨op=58 then(false,false,false,false,false,false,false,true)
 else if op=17∨op=18∨op=19∨op=20∨op=31 then(true,true,false,true,true,false,false,true)
 else if op=21∨op=32 then(true,true,true,true,true,false,false,true)
 else if op=22 then(false,false,false,true,false,false,false,true)
 else if op=43 then(true,true,false,true,true,false,false,true)
 else if op=45 then(true,true,false,true,false,false,false,true)
 else if op=24∨op=25∨op=26∨op=27∨op=48 then(true,true,true,false,false,false,false,true)
 else if op=28∨op=29∨op=30∨op=34∨op=35∨op=36∨op=37∨op=38∨op=40∨op=41∨op=42∨op=44∨op=46∨op=51∨op=52∨op=53∨op=57 then(true,false,false,false,false,false,false,true)
 else(false,false,false,false,false,false,false,false)
def HA(p:GH):Value:=.agg #[.bool p.1,.bool p.2.1,.bool p.2.2.1,.bool p.2.2.2.1,.bool p.2.2.2.2.1,.bool p.2.2.2.2.2.1,.bool p.2.2.2.2.2.2.1,.bool p.2.2.2.2.2.2.2]
def wI(p:GH)(w:World)(e:Ending)(w':World):Prop:=e=.returned (HA p)/\Below w.heap.size w w'
theorem wI.mk{p:GH}{a b c d x y z i:Bool}(h:p=(a,b,c,d,x,y,z,i))(hb:Below w.heap.size w w'):wI p w (.returned (.agg #[.bool a,.bool b,.bool c,.bool d,.bool x,.bool y,.bool z,.bool i])) w':=by subst h;exact⟨rfl,hb⟩
set_option maxHeartbeats 16000000 in
theorem EW(op:Int)(w:World):Calls prog 154 #[op] w (wI (AX op) w):=by
 go_wp2
 all_goals
  simp only[beq_iff_eq,beq_eq_false_iff_ne,ne_eq]at*;simp[bodyPost,results,Tryz.results154,go_sem];refine wI.mk ?_ ?_
  ·unfold AX
   repeat first
    |rfl
    |rw[if_pos (by omega)]
    |rw[if_neg (by omega)]
  ·repeat first
    |exact Below.refl _ _
    |refine Below.alloc ?_ (by simp) _
    |refine Below.setCell ?_ (by simp) _
def oN(op:Int):Bool:=decide (op=17∨op=18∨op=19∨op=20∨op=31∨op=21∨op=32)
theorem uY(op:Int)(w:World):Calls prog 155 #[op] w (kz (oN op) w):=by
 go_wp2
 all_goals
  go_ret;simp only[beq_iff_eq,beq_eq_false_iff_ne,ne_eq]at*;refine kz.mk ?_;unfold oN
  first
   |exact decide_eq_true (by omega)
   |exact decide_eq_false (by omega)
def b':List ByteArray:=[⟨#[115,101,116]⟩,⟨#[109,111,118]⟩,⟨#[97,100,100]⟩,⟨#[115,117,98]⟩,⟨#[97,110,100]⟩,⟨#[111,114]⟩,⟨#[120,111,114]⟩,⟨#[115,104,108]⟩,⟨#[115,104,114]⟩,⟨#[101,113]⟩,⟨#[108,116]⟩,⟨#[106,109,112]⟩,⟨#[106,122]⟩,⟨#[106,110,122]⟩,⟨#[106,115,114]⟩,⟨#[114,101,116]⟩,⟨#[108,100]⟩,⟨#[115,116]⟩,⟨#[115,119,112]⟩,⟨#[102,97,100]⟩,⟨#[99,97,115]⟩,⟨#[99,97,108,108]⟩,⟨#[104,115,104]⟩,⟨#[113,112,116]⟩,⟨#[113,116,107]⟩,⟨#[113,109,118]⟩,⟨#[113,104,115]⟩,⟨#[115,108,112]⟩,⟨#[104,110,100]⟩,⟨#[112,105,107]⟩,⟨#[108,97,121]⟩,⟨#[116,97,107]⟩,⟨#[105,110,106]⟩,⟨#[105,106,116]⟩,⟨#[114,117,110]⟩,⟨#[112,114,107]⟩,⟨#[115,108,102]⟩,⟨#[119,114,107]⟩,⟨#[119,107,100]⟩,⟨#[119,107,110]⟩,⟨#[110,111,119]⟩,⟨#[100,114,119]⟩,⟨#[103,101,116]⟩,⟨#[102,114,101]⟩,⟨#[111,98,106]⟩,⟨#[100,101,108]⟩,⟨#[99,107,112]⟩,⟨#[116,110,119]⟩,⟨#[116,115,116]⟩,⟨#[116,104,109]⟩,⟨#[116,106,110]⟩,⟨#[116,100,116]⟩,⟨#[116,101,120]⟩,⟨#[116,114,112]⟩,⟨#[101,110,100]⟩,⟨#[121,108,100]⟩,⟨#[99,98,107]⟩,⟨#[102,105,110]⟩]
theorem uZ(w:World):Calls prog 122 #[] w fun e w'=>e=.returned (.slice (some (w.heap.size,0)) 58 58)/\Row w' w.heap.size 9 (b'.map Value.string)/\Ch ag w w':=by
 go_wp2
 go_ret;exact⟨rfl,Row.new w (b'.map Value.string).toArray _,ay⟩
def gE(op:Int):List Int:=
 if op=1 then [0,8]else if op=12∨op=15 then [6]else if op=13∨op=14 then [0,6]else if op=22 then [7]else if op=43 then [0,3]else if op=45 then [0,1,7]
 else(if(AX op).1 then [0]else [])++(if oN op then [5]else if(AX op).2.1 then [1]else [])++(if(AX op).2.2.2.2.2.1 then [4]else if(AX op).2.2.1 then [2]else [])
def CX(l:List Int)(w:World)(e:Ending)(w':World):Prop:=∃v,e=.returned v/\w'.ownsRow w.heap.size 3 1 v l.length (l.map (Value.int .i64))/\Below w.heap.size w w'
theorem CX.lit{l:List Int}(a:n=l.length)(b:l.length<=10):CX l w (.returned (.slice (some (w.heap.size,0)) n n)) (w.alloc (.cells (l.map (Value.int .i64)).toArray 3)):=by
 subst a;refine⟨_,rfl,⟨by simp,Or.inr ⟨w.heap.size,l.length,_,rfl,Nat.le_refl _,hU,Nat.le_refl _,?_,by simp,?_⟩⟩,(Below.refl _ _).alloc (Nat.le_refl _) _⟩
 ·unfold maxLen;omega
 ·rw[List.take_of_length_le (by simp)]
theorem dU{d:Nat}{e:TypeId}{size:Nat}{xs:List Value}(h:w.ownsRow B e size v n xs)(f:d<=B):w.ownsRow d e size v n xs:=
 ⟨h.1,h.2.elim Or.inl fun⟨g,cap,cur,a,b,c⟩=>Or.inr ⟨g,cap,cur,a,Nat.le_trans f b,c⟩⟩
def ra(l:List Int):List Value:=l.map (Value.int .i64)
structure ix(B:Nat)(w0 w:World)(v:Value)(acc:List Int):Prop where
 own:w.ownsRow B 3 1 v acc.length (ra acc)
 below:Below B w0 w
theorem ix.keep(h:ix B w0 w v acc)(hb:Below w.heap.size w w')(a:B<=w.heap.size):ix B w0 w' v acc:=
 ⟨h.own.kept (row:=none) ⟨hb.os,hb.tape,hb.output,hb.size,fun k b _=>hb.block k b⟩ (by cases v.ownBlock<;>simp),h.below.trans (hb.mono a)⟩
theorem ln{ops:Array Oper}{rest:List Oper}{o:Oper}{a:Act}{Q:Exit->Act->World->Prop}(p:o.guard=none)(f x:Operand)
 (s:o.op=.call {callee:=.builtin .append,args:=#[f,x],argTypes:=#[45,45]}) (y:a.eval f=v) (hb:ix B w0 w v acc) (c:Int) (g:Nat) (C:a.eval x=.slice (some (g,0)) 1 1) (m:w.cell? (g,0)=some (.int .i64 c)) (hlen:acc.length+1<=1000000) (i:B<=w.heap.size)
 (h:∀v' w',ix B w0 w' v' (acc++[c])->w.heap.size<=w'.heap.size->wpList prog ops Q rest (a.put o.dst v') w'):wpList prog ops Q (o::rest) a w:=by
 obtain⟨E,q,D,z,l⟩:=info_parts lk;refine wpList_append_own w p f x 45 s B 3 E (.int .i64 0) 1 8 underlying45 q D z l rfl (by decide) v acc.length (ra acc) y hb.own ⟨g,0,none⟩ 1 1 (ra [c]) C rfl ?_ ?_ (by unfold maxLen;omega) (by omega) i ?_
 ·intro j u d
  match j,d with
  |0,d=>
   have:Value.int .i64 c=u:=(by simpa[ra]using d);subst this;simpa[Addr.add]using m
 ·intro u A
  have:u=Value.int .i64 c:=by simpa[ra]using A
  subst this;rfl
 intro v' w' t b _;refine h v' w' ⟨?_,?_⟩ b.size
 ·have e:ra (acc++[c])=ra acc++ra [c]:=by unfold ra;simp
  rw[e,List.length_append];exact t
 ·exact⟨b.os.trans hb.below.os,b.tape.trans hb.below.tape,b.output.trans hb.below.output,Nat.le_trans hb.below.size b.size,fun k r=>(b.block k (by have:=hb.below.size;omega) (fun e=>by have:=(hb.own.lt k e.symm).1;omega)).trans (hb.below.block k r)⟩
theorem u'(op:Int)(w:World):Calls prog 123 #[op] w (CX (gE op) w):=by
 by_cases R:op=1∨op=12∨op=15∨op=13∨op=14∨op=22∨op=43∨op=45
 ·rcases R with rfl|rfl|rfl|rfl|rfl|rfl|rfl|rfl
  all_goals
   go_wp2
   go_ret;exact CX.lit (by decide) (by decide)
 ·have g:op≠1/\op≠12/\op≠15/\op≠13/\op≠14/\op≠22/\op≠43/\op≠45:=by omega
  have N:Hid (gE op=(if(AX op).1 then [0]else [])++(if oN op then [5]else if(AX op).2.1 then [1]else [])++(if(AX op).2.2.2.2.2.1 then [4]else if(AX op).2.2.1 then [2]else [])):=by
   show _=_
   unfold gE;rw[if_neg (by omega),if_neg (by omega),if_neg (by omega),if_neg (by omega),if_neg (by omega),if_neg (by omega)]
  have a1:(op==1)=false:=by rw[beq_eq_false_iff_ne];exact g.1
  have a2:(op==12)=false:=by rw[beq_eq_false_iff_ne];exact g.2.1
  have a3:(op==15)=false:=by rw[beq_eq_false_iff_ne];exact g.2.2.1
  have a4:(op==13)=false:=by rw[beq_eq_false_iff_ne];exact g.2.2.2.1
  have a5:(op==14)=false:=by rw[beq_eq_false_iff_ne];exact g.2.2.2.2.1
  have a9:(op==22)=false:=by rw[beq_eq_false_iff_ne];exact g.2.2.2.2.2.1
  have ab:(op==43)=false:=by rw[beq_eq_false_iff_ne];exact g.2.2.2.2.2.2.1
  have ad:(op==45)=false:=by rw[beq_eq_false_iff_ne];exact g.2.2.2.2.2.2.2
  have E:=Z (fun w=>EW op w);have M:=Z (fun w=>uY op w);obtain⟨r,K⟩:=nm (gE op);obtain⟨G,I⟩:=nm (AX op);obtain⟨H,J⟩:∃G,oN op=G:=⟨_,rfl⟩;rw[K,I,J]at N;rw[K];rw[I]at E;rw[J]at M;clear I K J g R;obtain⟨m,i,o,V,S,l,U,T⟩:=G;go_in
  go_wp2_with fail
  refine(E _).mono ?_;rintro e w1 ⟨rfl,hb⟩;have y:=Z hb;unfold HA;clear a1 a2 a3 a4 a5 a9 ab ad hb;go_upto_region 18 with fail
  obtain⟨C,t⟩:=mn w1.heap.size;obtain⟨W,x⟩:=mn (w1.alloc (.cells #[.bool m,.bool i,.bool o,.bool V,.bool S,.bool l,.bool U,.bool T] 321));rw[<-x,<-t];have A:Hid (Below w.heap.size w W):=by show Below _ w W;rw[x];exact y.alloc y.size _
  have u:W.heap[C]?=some (.cells #[.bool m,.bool i,.bool o,.bool V,.bool S,.bool l,.bool U,.bool T] 321 (0,0)):=by
   rw[x,t];exact hU
  have am:W.heap.size=C+1:=by rw[x,t];simp
  have bx:w.heap.size<=C:=by rw[t];exact y.size
  have al:W.cell? (C,0)=some (.bool m):=np u;have X:Hid (W.cell? (C,1)=some (.bool i)):=np u;have Y:Hid (W.cell? (C,2)=some (.bool o)):=np u;have a0:Hid (W.cell? (C,5)=some (.bool l)):=np u;have D:C+1<=W.heap.size:=by omega
  clear u x t y E am;have P:Hid (ix (C+1) W W (.slice none 0 0) []):=⟨World.ownsRow_nil _ _ _ _,Below.refl _ _⟩;obtain⟨f,k⟩:∃f:List Int,f=if m then [0]else []:=⟨_,rfl⟩
  have O:=Z k;go_upto_if 29 with fail
  go_cut [4] (fun s L=>Hid (ix (C+1) W L s f))
  case first=>
   cases m
   ·have b:Hid (f=[]):=k
    clear k;have a:Hid (ix (C+1) W W (.slice none 0 0) f):=(by show ix _ _ _ _ _;rw[b];exact P);clear b;go_wp2
    go_meet
    first|exact a|exact⟨a,rfl⟩
   ·have b:Hid (f=[]++[0]):=k
    have h:C+1<=W.heap.size:=D;have ap:([]:List Int).length<=10:=(by decide);clear k;go_wp2_with (at_builtin;refine ln rfl _ _ rfl rfl (P.keep ((Below.refl _ _).alloc (Nat.le_refl _) _) h) 0 W.heap.size rfl ?_ (by omega) (by simp;omega) ?_)
    intro v' w' c z;have a:Hid (ix (C+1) W w' v' f):=(by show ix _ _ _ _ _;rw[b];exact c);clear c b;go_wp2
    go_meet
    first|exact a|exact⟨a,rfl⟩
  case rest=>
   clear k al;have p:=Z hcut;have ap:f.length<=1:=(by rw[O];cases m<;>simp);clear hcut;obtain⟨d,Q⟩:∃d:List Int,d=f++(if H then [5]else if i then [1]else []):=⟨_,rfl⟩;have q:=Z Q;clear Q;go_wp2_with fail
   refine(M _).mono ?_;rintro e w' ⟨rfl,rfl⟩;go_upto_if 34 with fail
   go_cut [4] (fun s L=>Hid (ix (C+1) W L s d))
   case first=>
    have av:wc.cell? (C,1)=some (.bool i):=(fa p.below (by omega)).trans X;have h:C+1<=wc.heap.size:=(by have:=p.below.size;have:=D;omega);cases H
    ·cases i
     ·have b:Hid (d=f):=by show _=_;rw[q];simp
      have a:=p.out;rw[<-b]at a;clear b;go_wp2
      go_meet
      first|exact a|exact⟨a,rfl⟩
     ·have b:Hid (d=f++[1]):=q.out
      go_wp2_with (at_builtin;refine ln rfl _ _ rfl rfl (p.keep ((Below.refl _ _).alloc (Nat.le_refl _) _) h) 1 wc.heap.size rfl ?_ (by omega) (by simp;omega) ?_)
      intro v' w' c z;have a:Hid (ix (C+1) W w' v' d):=(by show ix _ _ _ _ _;rw[b];exact c);clear c b;go_wp2
      go_meet
      first|exact a|exact⟨a,rfl⟩
    ·have b:Hid (d=f++[5]):=q.out
     go_wp2_with (at_builtin;refine ln rfl _ _ rfl rfl (p.keep ((Below.refl _ _).alloc (Nat.le_refl _) _) h) 5 wc.heap.size rfl ?_ (by omega) (by simp;omega) ?_)
     intro v' w' c z;have a:Hid (ix (C+1) W w' v' d):=(by show ix _ _ _ _ _;rw[b];exact c);clear c b;go_wp2
     go_meet
     first|exact a|exact⟨a,rfl⟩
   case rest=>
    have j:=Z hcut;have bw:d.length<=2:=(by rw[q];simp;cases H<;>cases i<;>simp<;>omega);clear hcut;have F:Hid (r=d++(if l then [4]else if o then [2]else [])):=by
     show _=_
     rw[N,q,O]
    have bv:wc.cell? (C,5)=some (.bool l):=(fa j.below (by omega)).trans a0;have bi:wc.cell? (C,2)=some (.bool o):=(fa j.below (by omega)).trans Y;have h:C+1<=wc.heap.size:=(by have:=j.below.size;have:=D;omega);cases l
    ·cases o
     ·have b:Hid (r=d):=by show _=_;rw[F];simp
      have a:=j.out;rw[<-b]at a;clear b;go_wp2
      go_ret;exact⟨_,rfl,dU a.own (by omega),A.trans (a.below.mono (by omega))⟩
     ·have b:Hid (r=d++[2]):=F.out
      go_wp2_with (at_builtin;refine ln rfl _ _ rfl rfl (j.keep ((Below.refl _ _).alloc (Nat.le_refl _) _) h) 2 wc.heap.size rfl ?_ (by omega) (by simp;omega) ?_)
      intro v' w' c z;have a:Hid (ix (C+1) W w' v' r):=(by show ix _ _ _ _ _;rw[b];exact c);clear c b;go_wp2
      go_ret;exact⟨_,rfl,dU a.own (by omega),A.trans (a.below.mono (by omega))⟩
    ·have b:Hid (r=d++[4]):=F.out
     go_wp2_with (at_builtin;refine ln rfl _ _ rfl rfl (j.keep ((Below.refl _ _).alloc (Nat.le_refl _) _) h) 4 wc.heap.size rfl ?_ (by omega) (by simp;omega) ?_)
     intro v' w' c z;have a:Hid (ix (C+1) W w' v' r):=(by show ix _ _ _ _ _;rw[b];exact c);clear c b;go_wp2
     go_ret;exact⟨_,rfl,dU a.own (by omega),A.trans (a.below.mono (by omega))⟩
def cV:List (ByteArray×Int)->ByteArray->Option Int
 |[],_=>none
 |b::l,n=>if(b.1.data.toList==n.data.toList)=true then some b.2 else cV l n
def rf:Option Int->Int×Bool
 |none=>(0,false)
 |some v=>(v,true)
theorem iy(b:ByteArray×Int):(ph b).length=2:=rfl
theorem yH(l:List (ByteArray×Int))(n:ByteArray)(v:Value)(B:Nat)(w:World)(h:w.ownsRow B 198 2 v l.length (l.flatMap ph))(F:l.length<=1000000):
 Calls prog 80 #[v,.string n] w (za .i64 (rf (cV l n)) w):=by
 have A:=Z h;obtain⟨a,c,rfl⟩:=au h;have x:Hid (∀(k:Nat) (b:k<l.length),∃g,a=some ⟨g,0,none⟩/\l.length<=c/\w.cell? ⟨g,k*2,none⟩=some (.string l[k].1)/\w.cell? ⟨g,k*2+1,none⟩=some (.int .i64 l[k].2)):=Z (fun k b=>by
  obtain⟨g,cap,K,E,I,p,J,s,_⟩:=aE A (by omega);obtain⟨rfl,rfl⟩:a=some ⟨g,0,none⟩/\c=cap:=by injection E with C _ D;exact⟨C,D⟩
  have u:l[k]?=some l[k]:=List.getElem?_eq_getElem b;refine⟨g,rfl,p,?_,?_⟩
  ·refine s.cell ?_
   rw[List.getElem?_append_left (by rw[aU iy];omega)];exact(bJ iy u (j:=0) (by omega)).trans rfl
  ·refine s.cell ?_
   rw[List.getElem?_append_left (by rw[aU iy];omega)];exact(bJ iy u (j:=1) (by omega)).trans rfl)
 obtain⟨N,q⟩:=mn l.length;have o:=Z q;rw[<-q]at F⊢;have z:Hid (∀k,k<N->∃(b:k<l.length),True):=Z (fun k b=>⟨by rw[<-o];exact b,trivial⟩);go_wp2
 go_loopw [6] (fun i wr=>∃(k m:Nat),k<=N/\i=.int .i64 k/\wr=w.drewN m/\Hid (cV (l.drop k) n=cV l n)) (fun i _=>N-(intOf i).toNat)
 case atStart=>exact⟨0,0,by omega,rfl,rfl,rfl⟩
 case round=>
  obtain⟨k,m,b,rfl,rfl,f⟩:=hrel;by_cases G:k<N
  ·obtain⟨r,_⟩:=z k G
   obtain⟨g,rfl,p,x0,x1⟩:=x k r;have e:Hid (l.drop k=l[k]::l.drop (k+1)):=Z (List.drop_eq_getElem_cons r);obtain⟨y,H⟩:=nm (l[k]);rw[H]at x0 x1 e;have y0:(w.drewN m).cell? ⟨g,k*2,none⟩=some (.string y.1):=x0;have L:(w.drewN m).cell? ⟨g,k*2+1,none⟩=some (.int .i64 y.2):=x1;rw[<-o]at p;cases t:(y.1.toList==n.toList)with
   |true=>
    have d:Hid (cV l n=some y.2):=Z (by
     rw[<-f,e,cV,if_pos (by rw[<-ByteArray.toList_eq,<-ByteArray.toList_eq];exact t)])
    go_wp2
    go_ret2;exact⟨by rw[d];rfl,m,rfl⟩
   |false=>
    have d:Hid (cV (l.drop (k+1)) n=cV l n):=Z (by
     rw[<-f,e,cV,if_neg (by rw[<-ByteArray.toList_eq,<-ByteArray.toList_eq,t];decide)])
    go_wp2
    go_roundw
    case rel=>exact⟨k+1,m,by omega,by go_num,rfl,d⟩
    case measure=>simp[intOf];omega
  ·have d:Hid (cV l n=none):=Z (by
    rw[<-f,List.drop_of_length_le (by have:=o.out;omega)];rfl)
   go_wp2
   go_ret2;exact⟨by rw[d];rfl,m,rfl⟩
variable{g:Nat}{v':Value}
theorem CY:(prog.info? 198).map (fun i=>(i.zero,i.size,i.bytes))=some (some (.agg #[.string ByteArray.empty,.int .i64 0]),2,24):=by kernel_rfl
theorem oL.EX{S:gD}(h:oL w B p bx vc vl vn vw S)(A:B<=w.heap.size)(y:ByteArray×Int)
 (z:w1.ownsRow B 198 2 v' (S.labels.length+1) (S.labels.flatMap ph++ph y)) (d:w.grownBy w1 vl.ownBlock):
 dK (w1.setCell (p,1) v') B p p {S with labels:=S.labels++[y]}/\Below B w (w1.setCell (p,1) v'):=by
 have c:=kq (p:=p) (j:=1) (u:=v') d;have C:∀{k:Nat} {cs:Array Value} {t:TypeId} {f:Nat×Nat},w.heap[k]?=some (.cells cs t f)->t≠189->t≠198->¬wH p vl k:=fun i a b m=>by
  rcases m with rfl|m
  ·exact a (eM h.row i)
  ·exact bm h.labels i b m
 have D:∀{e:TypeId} {s:Nat} {v:Value} {n:Nat} {xs:List Value},w.ownsRow B e s v n xs->e≠189->e≠198->∀g,v.ownBlock=some g->¬wH p vl g:=fun l a b g d=>by
  obtain⟨_,cs,i⟩:=bW l d;exact C i a b
 have o:Row w1 p 189 [vc,vl,vn,vw,.int .i64 S.line]:=by
  unfold Row;rw[d.block p h.row.lt (fun e=>bm h.labels h.row (by decide) e.symm)];exact h.row
 have x:(w1.setCell (p,1) v').ownsRow B 198 2 v' (S.labels++[y]).length ((S.labels++[y]).flatMap ph):=by
  have:=dT (j:=1) (u:=v') z o (by decide);rw[List.flatMap_append,List.length_append];simpa using this
 have r:Row (w1.setCell (p,1) v') p 189 [vc,v',vn,vw,.int .i64 S.line]:=o.bc _ _ rfl;have q:∀{e:TypeId} {s:Nat} {v:Value} {n:Nat} {xs:List Value},w.ownsRow B e s v n xs->e≠189->e≠198->(w1.setCell (p,1) v').ownsRow B e s v n xs:=fun l a b=>ak l c (D l a b)
 exact⟨⟨vc,v',vn,vw,r,h.hB,q h.code (by decide) (by decide),bm (q h.code (by decide) (by decide)) r (by decide),x,q h.lines (by decide) (by decide),q h.bu (by decide) (by decide)⟩,f' c h.labels h.hB A⟩
theorem oL.CZ{S:gD}(h:oL w B p bx vc vl vn vw S)(A:B<=w.heap.size)(y:Int)
 (z:w1.ownsRow B 3 1 v' (S.lines.length+1) (S.lines.flatMap jz++jz y)) (d:w.grownBy w1 vn.ownBlock):
 dK (w1.setCell (p,2) v') B p p {S with lines:=S.lines++[y]}/\Below B w (w1.setCell (p,2) v'):=by
 have c:=kq (p:=p) (j:=2) (u:=v') d;have C:∀{k:Nat} {cs:Array Value} {t:TypeId} {f:Nat×Nat},w.heap[k]?=some (.cells cs t f)->t≠189->t≠3->¬wH p vn k:=fun i a b m=>by
  rcases m with rfl|m
  ·exact a (eM h.row i)
  ·exact bm h.lines i b m
 have D:∀{e:TypeId} {s:Nat} {v:Value} {n:Nat} {xs:List Value},w.ownsRow B e s v n xs->e≠189->e≠3->∀g,v.ownBlock=some g->¬wH p vn g:=fun l a b g d=>by
  obtain⟨_,cs,i⟩:=bW l d;exact C i a b
 have o:Row w1 p 189 [vc,vl,vn,vw,.int .i64 S.line]:=by
  unfold Row;rw[d.block p h.row.lt (fun e=>bm h.lines h.row (by decide) e.symm)];exact h.row
 have x:(w1.setCell (p,2) v').ownsRow B 3 1 v' (S.lines++[y]).length ((S.lines++[y]).flatMap jz):=by
  have:=dT (j:=2) (u:=v') z o (by decide);rw[List.flatMap_append,List.length_append];simpa using this
 have r:Row (w1.setCell (p,2) v') p 189 [vc,vl,v',vw,.int .i64 S.line]:=o.bc _ _ rfl;have q:∀{e:TypeId} {s:Nat} {v:Value} {n:Nat} {xs:List Value},w.ownsRow B e s v n xs->e≠189->e≠3->(w1.setCell (p,2) v').ownsRow B e s v n xs:=fun l a b=>ak l c (D l a b)
 exact⟨⟨vc,vl,v',vw,r,h.hB,q h.code (by decide) (by decide),bm (q h.code (by decide) (by decide)) r (by decide),q h.labels (by decide) (by decide),x,q h.bu (by decide) (by decide)⟩,f' c h.lines h.hB A⟩
theorem oL.iT{S:gD}(h:oL w B p bx vc vl vn vw S)(A:B<=w.heap.size)(y:be)
 (z:w1.ownsRow B 184 7 v' (S.code.length+1) (S.code.flatMap dn++dn y)) (d:w.grownBy w1 vc.ownBlock):
 dK (w1.setCell (p,0) v') B p p {S with code:=S.code++[y]}/\Below B w (w1.setCell (p,0) v'):=by
 have c:=kq (p:=p) (j:=0) (u:=v') d;have C:∀{k:Nat} {cs:Array Value} {t:TypeId} {f:Nat×Nat},w.heap[k]?=some (.cells cs t f)->t≠189->t≠184->¬wH p vc k:=fun i a b m=>by
  rcases m with rfl|m
  ·exact a (eM h.row i)
  ·exact bm h.code i b m
 have D:∀{e:TypeId} {s:Nat} {v:Value} {n:Nat} {xs:List Value},w.ownsRow B e s v n xs->e≠189->e≠184->∀g,v.ownBlock=some g->¬wH p vc g:=fun l a b g d=>by
  obtain⟨_,cs,i⟩:=bW l d;exact C i a b
 have r:Row w1 p 189 [vc,vl,vn,vw,.int .i64 S.line]:=by
  unfold Row;rw[d.block p h.row.lt (fun e=>bm h.code h.row (by decide) e.symm)];exact h.row
 have o:(w1.setCell (p,0) v').ownsRow B 184 7 v' (S.code++[y]).length ((S.code++[y]).flatMap dn):=by
  have:=dT (j:=0) (u:=v') z r (by decide);rw[List.flatMap_append,List.length_append];simpa using this
 have x:Row (w1.setCell (p,0) v') p 189 [v',vl,vn,vw,.int .i64 S.line]:=r.bc _ _ rfl;have q:∀{e:TypeId} {s:Nat} {v:Value} {n:Nat} {xs:List Value},w.ownsRow B e s v n xs->e≠189->e≠184->(w1.setCell (p,0) v').ownsRow B e s v n xs:=fun l a b=>ak l c (D l a b)
 exact⟨⟨v',vl,vn,vw,x,h.hB,o,bm o x (by decide),q h.labels (by decide) (by decide),q h.lines (by decide) (by decide),q h.bu (by decide) (by decide)⟩,f' c h.code h.hB A⟩
def oO(S:gD)(B p:Nat)(w:World)(e:Ending)(w':World):Prop:=e=.returned (.pointer none)/\dK w' B p p S/\Below B w w'
def eg(w:World)(g:Nat)(l:List ByteArray):Prop:=∃a,Row w g 9 (l.map Value.string++a)
theorem eg.cell{l:List ByteArray}(h:eg w g l){k:Nat}{x:ByteArray}(a:l[k]?=some x):w.cell? (g,k)=some (.string x):=by
 obtain⟨b,h⟩:=h;refine h.cell ?_;rw[List.getElem?_append_left (by rw[List.length_map];exact(List.getElem?_eq_some_iff.1 a).1),List.getElem?_map,a];rfl
theorem eg.af{w':World}{l:List ByteArray}(h:eg w g l)(c:Ch ag w w'):eg w' g l:=by
 obtain⟨a,h⟩:=h;exact⟨a,h.ch c id⟩
theorem hC(l:List (ByteArray×Int))(n:ByteArray)(r:Int×Bool)(b:rf (cV l n)=r)(v:Value)(B:Nat)(w:World)(h:w.ownsRow B 198 2 v l.length (l.flatMap ph))(a:l.length<=1000000):
 Calls prog 80 #[v,.string n] w (za .i64 r w):=by rw[<-b];exact yH l n v B w h a
theorem va(w0 n:ByteArray)(a2:w0.extract 0 (w0.size-1)=n)(ci:1<=w0.size)(ck:w0.size<=65536)(T:b9 w0 (w0.size-1)=58)(g cap B p:Nat)(S:gD)(w:World)(al:eg w g [w0])(cl:1<=cap)(ad:dK w B p p S)(N:B<=w.heap.size)
 (a3:fZ n=true) (V:cV S.labels n=none) (x:S.labels.length<=1000000) (c3:S.lines.length<=1000000):
 Calls prog 79 #[(p,0),.slice (some (g,0)) 1 cap] w (oO {S with labels:=S.labels++[(n,(S.code.length:Int))],lines:=S.lines++[S.line]} B p w):=by
 have p1:w0.size-1<w0.size:=by omega
 have ch:((w0[w0.size-1].toNat:Int)==58)=true:=by rw[cc,beq_iff_eq];exact T
 have t0:w.cell? (g,0)=some (.string w0):=al.cell rfl;have a4:n.size<=maxLen:=by rw[<-a2];unfold maxLen;simp;omega
 have F:=Z (ks n a4 true a3);have A:=Z (fun v w h=>hC S.labels n (0,false) (by rw[V];rfl) v B w h x);obtain⟨vc,vl,vn,vw,a⟩:=ad;have o:=Z a;have y:w.cell? (p,1)=some vl:=a.row.cell rfl;have Y:=Z x;have a0:=Z c3;go_in
 go_wp2_with (first|(go_at_call 80;(with_reducible refine(A.out _ _ ?_).mono ?_);exact o.out.labels;rintro e w' ⟨rfl,c4,rfl⟩)|(go_at_call 120;(with_reducible refine(F.out _).mono ?_);rintro e w' ⟨rfl,c5,rfl⟩))
 obtain⟨w1,u⟩:=nm (w.drewN (c4+c5));have f:=Z (Ch.dN (D:=ag) u);rw[u];have a:=o.af f;have G:=Z a;obtain⟨r,s,U⟩:=au a.code;have z:=Z U;have c6:w1.cell? (p,0)=some (.slice r S.code.length s):=by rw[<-z];exact a.row.cell rfl
 have y:w1.cell? (p,1)=some vl:=a.row.cell rfl;have I:=a.row.free 1;have j:=a.row.lt;have l:vl.ownBlock≠some p:=bm a.labels a.row (by decide);have O:=a.labels;have L:B<=w1.heap.size:=by have:=f.size;omega
 obtain⟨c1,W,bv,bw,c0⟩:=info_parts CY;have C:=Z W;have cm:=Y.out;go_cut [] (fun wc=>dK wc B p p {S with labels:=S.labels++[(n,(S.code.length:Int))]}/\Below B w1 wc)
 case first=>
  go_region_law (first|(refine step_append_lies _ (by rfl) _ _ _ (by rfl) B 198 c1 _ 2 24 underlying93 C bv bw c0 rfl (by omega) vl S.labels.length (S.labels.flatMap ph) (by rfl) ((O.alloc _).drew) ⟨w1.heap.size,0,none⟩ 1 1 [.string n,.int .i64 S.code.length] (by rfl) (by rfl) (World.news_of_block (cs:=#[.string n,.int .i64 S.code.length]) (t:=198) (fr:=(0,0)) (heap_alloc_new w1 _)) (by simp[Value.oneCell']) (by omega) (by unfold maxLen;omega) (by omega) (by simp;omega) (w1.heap.size+1) (by simp) ?_;intro K H w2 a5 c Q a1;have ce:w2.cell? (p,1)=some vl:=(c.cell_far ⟨p,1,none⟩ (by simp;omega) (Ne.symm l)).trans (by simp[go_sem,World.cell?_alloc_past,j,y]);have cf:w2.frozen? (p,1)=false:=(c.frozen_far ⟨p,1,none⟩ (by simp;omega) (Ne.symm l)).trans (by simp[go_sem,World.frozen?_alloc_past,j,I]);have c9:w2.cell? (p,0)=some (.slice r S.code.length s):=(c.cell_far ⟨p,0,none⟩ (by simp;omega) (Ne.symm l)).trans (by simp[go_sem,World.cell?_alloc_past,j,c6])))
  all_goals
   go_wp2
   go_meet
   exact G.EX L (n,(S.code.length:Int)) a5 (ao (cY c))
 case rest=>
  obtain⟨ab,R⟩:=hcut;have i:=Z R;obtain⟨cA,cC,d,cL,b⟩:=ab;have q:=Z b;obtain⟨w3,am⟩:=nm wc;rw[am]at q i b⊢;have c7:w3.cell? (p,2)=some d:=b.row.cell rfl;have c8:w3.cell? (p,4)=some (.int .i64 S.line):=b.row.cell rfl;have J:=b.row.free 2;have k:=b.row.lt;have m:d.ownBlock≠some p:=bm b.lines b.row (by decide);have P:w3.ownsRow B 3 1 d S.lines.length (S.lines.flatMap jz):=b.lines;have M:B<=w3.heap.size:=by have:=i.size;omega
  obtain⟨c2,X,ap,av,bi⟩:=info_parts lk;have E:=Z X;have cq:=a0.out;go_wp2
  go_region_law (first|(refine step_append_lies _ (by rfl) _ _ _ (by rfl) B 3 c2 _ 1 8 underlying45 E ap av bi rfl (by omega) d S.lines.length (S.lines.flatMap jz) (by rfl) ((P.alloc _).drew) ⟨w3.heap.size,0,none⟩ 1 1 [.int .i64 S.line] (by rfl) (by rfl) (World.news_of_block (cs:=#[.int .i64 S.line]) (t:=3) (fr:=(0,0)) (heap_alloc_new w3 _)) (by simp[Value.oneCell']) (by omega) (by unfold maxLen;omega) (by omega) (by simp;omega) (w3.heap.size+1) (by simp) ?_;intro K H w4 a9 c Q a1;have ce:w4.cell? (p,2)=some d:=(c.cell_far ⟨p,2,none⟩ (by simp;omega) (Ne.symm m)).trans (by simp[go_sem,World.cell?_alloc_past,k,c7]);have cf:w4.frozen? (p,2)=false:=(c.frozen_far ⟨p,2,none⟩ (by simp;omega) (Ne.symm m)).trans (by simp[go_sem,World.frozen?_alloc_past,k,J]);have c9:w4.cell? (p,4)=some (.int .i64 S.line):=(c.cell_far ⟨p,4,none⟩ (by simp;omega) (Ne.symm m)).trans (by simp[go_sem,World.cell?_alloc_past,k,c8])))
  all_goals
   go_wp2
   go_ret;obtain⟨cb,cd⟩:=q.CZ M S.line a9 (ao (cY c));exact⟨rfl,cb,((f.below N (fun _ hb=>False.elim hb)).trans i).trans cd⟩
variable{k:Int}
def jd(w:ByteArray):List ByteArray->Int->Int->Int
 |[],_,x=>x
 |n::l,i,x=>jd w l (i+1) (if(n.data.toList==w.data.toList)=true then 1+i else x)
def C0(op:Int):be:=⟨op,0,0,0,0,0,0⟩
def iU:List Int->List ByteArray->gD->be->Option (gD×be)
 |[],_,S,X=>some (S,X)
 |_::_,[],_,_=>none
 |k::o,s::l,S,X=>match tj k s S X with|none=>none|some (a,b)=>iU o l a b
def rh(o:List Int)(l:List ByteArray):Bool:=decide (l.length=o.length+2)&&(b9 (l.getD (l.length-1) ByteArray.empty) 0==33)
def wJ(o:List Int)(l:List ByteArray):Option (gD×be)->Option gD
 |none=>none
 |some (S,X)=>if rh o l=true then(q9 (l.getD (l.length-1) ByteArray.empty) X).map fun a=>{S with code:=S.code++[a]}else some {S with code:=S.code++[X]}
def pY(S:gD)(l:List ByteArray)(op:Int):Option gD:=
 if op=0 then none
 else if l.length=(gE op).length+1∨rh (gE op) l=true then wJ (gE op) l (iU (gE op) (l.drop 1) S (C0 op))else none
def tp(S:gD)(n:ByteArray):Option gD:=
 if fZ n=true/\cV S.labels n=none then some {S with labels:=S.labels++[(n,(S.code.length:Int))],lines:=S.lines++[S.line]}else none
def ma(S:gD):List ByteArray->Option gD
 |[]=>none
 |w::l=>if b9 w (w.size-1)=58/\l.length=0 then tp S (w.extract 0 (w.size-1))else pY S (w::l) (jd w b' 0 0)
theorem lp:b'.length=58:=by decide+kernel
theorem oL.vb{vc vl vn vw:Value}{S:gD}(h:oL w B p p vc vl vn vw S)(c:Ch ag w w')(d:w.heap.size<=bx):oL w' B p bx vc vl vn vw S:=
 ⟨h.row.ch c id,h.hB,ak h.code c (fun g a e=>e),fun e=>by obtain⟨_,_,b⟩:=bW h.code e;have:=(Array.getElem?_eq_some_iff.1 b).1;omega,ak h.labels c (fun g a e=>e),ak h.lines c (fun g a e=>e),ak h.bu c (fun g a e=>e)⟩
theorem dK.vb{S:gD}(h:dK w B p p S)(c:Ch ag w w')(a:w.heap.size<=bx):dK w' B p bx S:=by
 obtain⟨vc,vl,vn,vw,h⟩:=h;exact⟨vc,vl,vn,vw,h.vb c a⟩
theorem eg.keep{g:Nat}{l:List ByteArray}(h:eg w g l)(k:hH w w'):eg w' g l:=by
 obtain⟨a,h⟩:=h;exact⟨a,k.row h (by decide) (by decide) (by decide)⟩
theorem aq.EY{b:Nat}(h:aq w b X)(n:Int):aq (w.setCell (b,0) (.int .i64 n)) b {X with op:=n}:=Row.bc h _ _ rfl
theorem AY(d:aq w bx X)(c:Ch (aH bx) w w'):hH w w':=
 hH.fj c (fun k x t f b a=>by have e:k=bx:=b;subst e;exact Or.inr (Or.inl (eM d a)))
theorem AZ(op:Int):∀k∈gE op,0<=k/\k<=8:=by
 intro k a;unfold gE at a;have e:∀{b:Bool} {x:Int},k∈(if b=true then [x]else [])->k=x:=fun {b x} h=>by
  cases b<;>simp at h;exact h
 split at a
 ·simp at a;omega
 ·split at a
  ·simp at a;omega
  ·split at a
   ·simp at a;omega
   ·split at a
    ·simp at a;omega
    ·split at a
     ·simp at a;omega
     ·split at a
      ·simp at a;omega
      ·rcases List.mem_append.1 a with h|h
       ·rcases List.mem_append.1 h with h|h
        ·have:=e h;omega
        ·split at h
         ·simp at h;omega
         ·have:=e h;omega
       ·split at h
        ·simp at h;omega
        ·have:=e h;omega
theorem pZ(op:Int):(gE op).length<=3:=by
 unfold gE
 repeat' split
 all_goals simp
theorem mV{o:List Int}{l:List ByteArray}{S:gD}{r:gD×be}(h:iU (k::o) l S X=some r):∃s l' a b,l=s::l'/\tj k s S X=some (a,b)/\iU o l' a b=some r:=by
 cases l with
 |nil=>cases h
 |cons s l'=>
  unfold iU at h;cases c:tj k s S X with
  |none=>rw[c]at h;cases h
  |some p=>
   obtain⟨a,b⟩:=p;rw[c]at h;exact⟨s,l',a,b,rfl,c,h⟩
theorem p0{s:ByteArray}{S a:gD}{b:be}(h:tj k s S X=some (a,b)):a.code=S.code/\a.labels=S.labels/\a.lines=S.lines/\a.line=S.line/\a.bu.length<=S.bu.length+1:=by
 unfold tj at h
 repeat' split at h
 all_goals first
  |(cases h;done)
  |(obtain⟨rfl,rfl⟩:=Prod.mk.inj (Option.some.inj h);simp)
  |(rw[Option.map_eq_some_iff]at h;obtain⟨_,_,h⟩:=h;obtain⟨rfl,rfl⟩:=Prod.mk.inj h;simp)
theorem jB:∀(o:List Int) {l:List ByteArray} {S a:gD} {X b:be},iU o l S X=some (a,b)->a.code=S.code/\a.labels=S.labels/\a.lines=S.lines/\a.line=S.line/\a.bu.length<=S.bu.length+o.length
 |[],l,S,a,X,b,h=>by
  obtain⟨rfl,rfl⟩:=Prod.mk.inj (Option.some.inj h);simp
 |k::o,l,S,a,X,b,h=>by
  obtain⟨s,l',m,n,rfl,i,j⟩:=mV h;obtain⟨a1,a2,a3,c,q⟩:=p0 i;obtain⟨d,e,f,g,r⟩:=jB o j;exact⟨d.trans a1,e.trans a2,f.trans a3,g.trans c,by simp only[List.length_cons];omega⟩
theorem mX{S f:gD}{l:List ByteArray}{op:Int}(h:pY S l op=some f):op≠0/\∃b a d e,iU (gE op) (l.drop 1) S (C0 op)=some (b,a)/\f={b with code:=b.code++[d]}/\
 ((e=true/\l.length=(gE op).length+2/\b9 (l.getD (l.length-1) ByteArray.empty) 0=33/\q9 (l.getD (l.length-1) ByteArray.empty) a=some d)∨(e=false/\l.length=(gE op).length+1/\d=a)):=by
 unfold pY at h;split at h
 ·cases h
 ·rename_i i
  refine⟨i,?_⟩;split at h
  ·rename_i j
   unfold wJ at h;cases g:iU (gE op) (l.drop 1) S (C0 op)with
   |none=>rw[g]at h;cases h
   |some q=>
    obtain⟨b,a⟩:=q;rw[g]at h;dsimp only at h;split at h
    ·rename_i c
     rw[Option.map_eq_some_iff]at h;obtain⟨d,m,rfl⟩:=h;unfold rh at c;rw[Bool.and_eq_true,decide_eq_true_eq,beq_iff_eq]at c;exact⟨b,a,d,true,rfl,rfl,Or.inl ⟨rfl,c.1,c.2,m⟩⟩
    ·rename_i c
     exact⟨b,a,a,false,rfl,(Option.some.inj h).symm,Or.inr ⟨rfl,j.resolve_right c,rfl⟩⟩
  ·cases h
theorem iz:(prog.info? 184).map (fun i=>(i.zero,i.size,i.bytes))=some (some (.agg #[.int .i64 0,.int .i64 0,.int .i64 0,.int .i64 0,.int .u64 0,.int .i64 0,.int .i64 0]),7,56):=by kernel_rfl
theorem A0(l:List ByteArray)(w0:ByteArray)(a4:l[0]?=some w0)(fb:∀x∈l,1<=x.size/\x.size<=65536)(ls:l.length<=100000)(eL:¬(b9 w0 (w0.size-1)=58/\l.length=1))(g cap B p:Nat)(S g8:gD)(w:World)(fd:eg w g l)(ll:l.length<=cap)(G:dK w B p p S)(lc:B<=w.heap.size)
 (h:pY S l (jd w0 b' 0 0)=some g8) (gr:S.code.length<=1000000) (Y:S.bu.length<=1000000):
 Calls prog 79 #[(p,0),.slice (some (g,0)) l.length cap] w (oO g8 B p w):=by
 have t0:w.cell? (g,0)=some (.string w0):=fd.cell a4;have eW:=fb w0 (List.mem_of_getElem? a4);have d:1<=w0.size:=eW.1;have u:w0.size<=65536:=eW.2;have p1:w0.size-1<w0.size:=by omega
 have le:1<=l.length:=by have:=(List.getElem?_eq_some_iff.1 a4).1;omega
 obtain⟨v,dC⟩:=nm (jd w0 b' 0 0);rw[dC]at h;have g5:=Z dC;have i6:=Z h;have k2:=Z fd;have g6:=Z fb;have am:=Z G;have g2:=Z (And.intro gr Y);have n8:=Z a4;obtain⟨F,dr⟩:=mn l.length;have N:=Z dr;rw[<-dr]at ls eL ll le⊢;clear dC h fd fb G gr Y a4 eW dr;have hb:((w0[w0.size-1].toNat:Int)==58)=false∨(((w0[w0.size-1].toNat:Int)==58)=true/\((F:Int)==1)=false):=by
  cases n:((w0[w0.size-1].toNat:Int)==58)with
  |false=>exact Or.inl rfl
  |true=>
   refine Or.inr ⟨rfl,?_⟩;rw[cc,beq_iff_eq]at n;rw[beq_eq_false_iff_ne];intro e;exact eL ⟨n,by omega⟩
 clear eL;go_in
 go_upto_region 2 with fail
 go_cut [29] (fun b wc=>b=.bool false/\w=wc)
 case first=>
  rcases hb with kT|⟨kT,nb⟩
  all_goals
   go_wp2
   go_meet
   exact⟨rfl,rfl⟩
 case rest=>
  obtain⟨rfl,rfl⟩:=hcut;clear hb t0 p1 d u;obtain⟨bx,go⟩:=nm w.heap.size;have E:=Z go;go_upto_block 0 with(first|(go_at_call 122;(with_reducible refine(uZ _).mono ?_);rintro e w2 ⟨rfl,hi,Y⟩;have g4:=Z hi;have c8:=Z Y;clear hi Y))
  have ap:Hid (aq w2 bx (C0 0)):=Z (by
   have r:=Row.new w (aD (C0 0)) 184;rw[E]at r;exact Row.ch r c8 id)
  have ih:Hid (Row w2 (bx+1) 9 (b'.map Value.string)):=Z (by
   have r:=g4.out;rw[World.size_alloc,E]at r;exact r)
  have ab:Hid (Ch ag w w2):=Z (((Ch.refl _ _).alloc _).trans c8);have T:bx<w2.heap.size:=ap.lt;clear g4 c8 go;go_cut [] (fun wc=>aq wc bx (C0 v)/\Ch (aH bx) w2 wc)
  case first=>
   go_wp2
   go_loopw [10] (fun i wr=>∃(k:Nat) (op:Int),k<=58/\i=.int .i64 k/\aq wr bx (C0 op)/\Ch (aH bx) w2 wr/\jd w0 (b'.drop k) k op=v) (fun i _=>58-(intOf i).toNat)
   case atStart=>exact⟨0,0,by omega,rfl,ap,Ch.refl _ _,g5⟩
   case round=>
    obtain⟨k,op,lm,rfl,n,c0,ec⟩:=hrel;have cd:=Z ec;have cL:=Z n;have c9:=Z c0;by_cases eC:k<58
    ·have U:k<b'.length:=by rw[lp];exact eC
     have cb:Hid (b'.drop k=b'[k]::b'.drop (k+1)):=Z (List.drop_eq_getElem_cons U);have y0:wr.cell? ⟨bx+1,k,none⟩=some (.string b'[k]):=(ih.ch c0 (fun e=>by have l0:bx+1=bx:=e;omega)).cell (by rw[List.getElem?_map,List.getElem?_eq_getElem U];rfl);obtain⟨y,i2⟩:=nm (b'[k]);rw[i2]at y0 cb;have f0:=n.free 0;have ge:wr.cell? (bx,0)=some (.int .i64 op):=n.cell rfl;clear i2 ec n c0;cases W:(y.toList==w0.toList)with
     |true=>
      have M:Hid (jd w0 (b'.drop (k+1)) ((k+1:Nat):Int) (1+(k:Int))=v):=Z (by
       have h:=cd.out;rw[cb,jd,if_pos (by rw[<-ByteArray.toList_eq,<-ByteArray.toList_eq];exact W)]at h;exact h)
      go_wp2
      go_roundw
      case rel=>exact⟨k+1,1+(k:Int),by omega,by go_num,cL.EY _,c9.only _ _,M⟩
      case measure=>simp[intOf];omega
     |false=>
      have M:Hid (jd w0 (b'.drop (k+1)) ((k+1:Nat):Int) op=v):=Z (by
       have h:=cd.out;rw[cb,jd,if_neg (by rw[<-ByteArray.toList_eq,<-ByteArray.toList_eq,W];decide)]at h;exact h)
      go_wp2
      go_roundw
      case rel=>exact⟨k+1,op,by omega,by go_num,cL,c9,M⟩
      case measure=>simp[intOf];omega
    ·have M:Hid (op=v):=Z (by
      have h:=cd.out;rw[List.drop_of_length_le (by rw[lp];omega)]at h;exact h)
     clear ec n c0;go_wp2
     go_meet
     exact⟨by rw[<-M];exact cL,c9⟩
  case rest=>
   obtain⟨c4,a0⟩:=hcut;obtain⟨w3,fn⟩:=nm wc;rw[fn]at c4 a0⊢;clear fn T;have k5:=Z c4;have it:Hid (dK w3 B p bx S):=Z ((am.vb ab (by have:=E.out;omega)).ins ap a0);have k3:Hid (eg w3 g l):=Z ((k2.af ab).keep (AY ap a0));have g1:Hid (Below B w w3):=Z ((ab.below lc (fun _ hb=>False.elim hb)).trans (a0.below (by have:=ab.size;omega) (fun b hb=>by have e:b=bx:=hb;have:=E.out;omega)));have ge:w3.cell? (bx,0)=some (.int .i64 v):=c4.cell rfl;clear c4 a0;obtain⟨hm,C,cS,a,kb,H,gf,c1⟩:=mX i6;have cm:=Z H;have k1:=Z gf;have lw:((v:Int)==0)=false:=(by rw[beq_eq_false_iff_ne];exact hm);obtain⟨J,P⟩:=nm (gE v);have io:Hid (∀k∈J,0<=k/\k<=8):=Z (by rw[<-P];exact AZ v);have li:J.length<=3:=(by rw[<-P];exact pZ v);have ci:=Z (fun w=>u' v w);rw[P]at c1 ci;rw[P]at cm;obtain⟨O,bw⟩:=mn J.length;have ch:=Z bw;rw[<-bw,<-N]at c1;rw[<-bw]at li;have al:=Z c1;clear bw c1 H gf hm P g5;go_upto_region 20 with(go_at_call 123;(with_reducible refine(ci.out _).mono ?_);rintro e w4 ⟨p2,rfl,c2,gk⟩;obtain⟨kw,co,rfl⟩:=au c2;rw[<-ch.out]at c2⊢;have ii:=Z c2;have ad:=Z gk;clear c2 gk)
   have jp:Hid (dK w4 B p bx S):=Z (it.af (Ch.bT ad));have g7:Hid (aq w4 bx (C0 v)):=Z (k5.ch (Ch.bT ad) id);have cA:Hid (eg w4 g l):=Z (k3.af (Ch.bT ad));have i4:Hid (Below B w w4):=Z (g1.trans (ad.mono (by have:=g1.size;omega)));clear ge lw ci;obtain⟨L,a9⟩:=nm (l.getD (F-1) ByteArray.empty);have eA:w4.cell? (g,F-1)=some (.string L):=cA.cell (by rw[<-a9,N,List.getD_eq_getElem?_getD,List.getElem?_eq_getElem (by have:=N.out;omega)];rfl);have mv:1<=L.size/\L.size<=65536:=g6 L (by rw[<-a9,N,List.getD_eq_getElem?_getD,List.getElem?_eq_getElem (by have:=N.out;omega)];exact List.getElem_mem _);rw[a9]at al;obtain⟨i0,ms⟩:=mv;have mp:0<L.size:=i0;have k4:=Z a9;clear a9;go_cut [12] (fun m wc=>m=.bool kb/\w4=wc)
   case first=>
    rcases al with⟨d,u,z,_⟩|⟨d,u,_⟩
    ·have cW:((F:Int)==(O:Int)+2)=true:=by rw[beq_iff_eq];omega
     have l0:((L[0].toNat:Int)==33)=true:=(by rw[cc,beq_iff_eq];exact z);have cf:=Z d;clear d u z;go_wp2
     go_meet
     exact⟨by rw[cf],rfl⟩
    ·have cW:((F:Int)==(O:Int)+2)=false:=by rw[beq_eq_false_iff_ne];omega
     have cf:=Z d;clear d u;go_wp2
     go_meet
     exact⟨by rw[cf],rfl⟩
   case rest=>
    obtain⟨rfl,K⟩:=hcut;rw[<-K];clear K;go_upto_region 21 with fail
    go_cut [131] (fun m wc=>m=.bool false/\w4=wc)
    case first=>
     rcases al with⟨d,u,z,_⟩|⟨d,u,_⟩
     ·have cW:((F:Int) !=(O:Int)+1)=true:=by rw[bne_iff_ne];omega
      subst d;clear u z;go_wp2
      go_meet
      exact⟨rfl,rfl⟩
     ·have cW:((F:Int) !=(O:Int)+1)=false:=by rw[bne_eq_false_iff_eq];omega
      clear d u;go_wp2
      go_meet
      exact⟨rfl,rfl⟩
    case rest=>
     obtain⟨rfl,K⟩:=hcut;rw[<-K];clear K;go_upto_block 2 with fail
     clear eA mp;have nC:S.bu.length<=1000000:=g2.2;go_cut [] (fun wc=>dK wc B p bx C/\aq wc bx cS/\Below B w4 wc/\hH w4 wc)
     case first=>
      go_wp2
      go_loopw [13] (fun i wr=>∃(k:Nat) (X:gD) (bi:be),k<=O/\i=.int .i64 k/\dK wr B p bx X/\aq wr bx bi/\Below B w4 wr/\hH w4 wr/\iU (J.drop k) (l.drop (k+1)) X bi=some (C,cS)/\X.bu.length<=S.bu.length+k) (fun i _=>O-(intOf i).toNat)
      case atStart=>exact⟨0,S,C0 v,by omega,rfl,jp,g7,Below.refl _ _,hH.refl _,cm,by omega⟩
      case round=>
       obtain⟨k,X,bi,lm,rfl,G,n,T,V,H,ob⟩:=hrel;by_cases eC:k<O
       ·have U:k<J.length:=by have:=ch.out;omega
        rw[List.drop_eq_getElem_cons U]at H;obtain⟨s,l',g9,gc,ex,c3,hw⟩:=mV H;have hf:k+1<l.length:=by
         have:0<(l.drop (k+1)).length:=(by rw[ex];simp);rw[List.length_drop]at this;omega
        rw[List.drop_eq_getElem_cons hf]at ex;obtain⟨W,rfl⟩:=List.cons.inj ex;obtain⟨a1,a2,a3,kf,na⟩:=p0 c3;have hB:=g6 s (by rw[<-W];exact List.getElem_mem _);have es:=io J[k] (List.getElem_mem _);obtain⟨kd,et⟩:=nm (J[k]);rw[et]at c3 es;have y0:wr.cell? ⟨g,k+1,none⟩=some (.string s):=(cA.keep V).cell (by rw[List.getElem?_eq_getElem hf,W]);obtain⟨i3,mW,on,hl,lt,nw,lv,hn,_⟩:=aE ii (by omega);obtain⟨rfl,rfl⟩:kw=some ⟨i3,0,none⟩/\co=mW:=by injection hl with d _ z;exact⟨d,z⟩
        have p3:wr.cell? ⟨i3,k,none⟩=some (.int .i64 kd):=(V.row hn (by decide) (by decide) (by decide)).cell (by
         rw[List.getElem?_append_left (by rw[List.length_map];exact U),List.getElem?_map,List.getElem?_eq_getElem U,et];rfl)
        have i5:=Z (fun w n G=>yG kd es s hB.2 B p bx X g9 bi gc w c3 n G (by have:=E.out;omega) (by omega) (fun e=>by
         have d:=g7.lt;obtain⟨_,_,_,_,j⟩:=am.out;have:=j.row.lt;have:=E.out;omega))
        have nq:(k:Int)+1<F:=(by have:=N.out;omega);have cq:=Z G;have cQ:=Z n;have c7:=Z T;have ce:=Z V;have k0:=Z hw;have og:IntKind.i64.wrap ((k:Int)+1)=(k:Int)+1:=IntWalk.i64_in _ (by omega);have ok:((k:Int)+1).toNat=k+1:=(by omega);have fn:(0:Int)<=(k:Int)+1:=(by omega);clear H c3 hB es hn hl lt lv G n T V hw W et a1 a2 a3 kf;go_wp2
        go_still_tail 10,(by kernel_rfl)
        change wpList _ _ _ _ _ wr.drew;go_wp2_with (go_at_call 124;(with_reducible refine(i5.out _ ?_ ?_).mono ?_);exact cQ.out;exact cq.out.af ay;rintro e q ⟨rfl,a5,o,A,he⟩;have ck:=Z a5;have av:=Z o;have c5:Hid (Below B wr q):=Z ⟨A.os,A.tape,A.output,A.size,A.block⟩;have i8:Hid (hH wr q):=Z (fun k c t f d u z bv=>he k c t f d u z bv);clear a5 o A he)
        go_roundw
        case rel=>exact⟨k+1,g9,gc,by omega,by go_num,ck,av,c7.trans c5,ce.trans i8,k0,by omega⟩
        case measure=>simp[intOf];omega
       ·have hd:J.drop k=[]:=List.drop_of_length_le (by have:=ch.out;omega)
        rw[hd]at H;obtain⟨rfl,rfl⟩:=Prod.mk.inj (Option.some.inj H);have cq:=Z G;have cQ:=Z n;have c7:=Z T;have ce:=Z V;clear H G n T V hd;go_wp2
        go_meet
        exact⟨cq,cQ,c7,ce⟩
     case rest=>
      obtain⟨eS,fz,dN,en⟩:=hcut;obtain⟨g0,K⟩:=nm wc;rw[K]at eS fz dN en⊢;have cl:=Z eS;have cC:=Z fz;have c6:Hid (Below B w g0):=Z (i4.trans dN);have eA:g0.cell? (g,F-1)=some (.string L):=(cA.keep en).cell (by rw[<-k4,List.getD_eq_getElem?_getD,List.getElem?_eq_getElem (by have:=N.out;omega)];rfl);clear K eS fz dN en;go_upto_if 154 with fail
      go_cut [] (fun wc=>dK wc B p bx C/\aq wc bx a/\Below B w wc)
      case first=>
       rcases al with⟨d,u,z,bv⟩|⟨d,u,z⟩
       ·have i9:=Z (fun w mc md n=>yF L ms i0 cS a bv p bx C.line w mc md n)
        have hv:p≠bx:=fun e=>by
         obtain⟨_,_,_,_,j⟩:=am.out;have:=j.row.lt;have:=E.out;omega
        have lo:g0.cell? (p,4)=some (.int .i64 C.line):=by
         obtain⟨_,_,_,_,j⟩:=cl.out;exact j.row.cell rfl
        have ip:=Z hv;subst d;clear u z bv hv;go_wp2_with (go_at_call 125;(with_reducible refine(i9.out _ ?_ ip.out ?_).mono ?_);exact lo;exact cC.out;rintro e q ⟨rfl,o,gs⟩;have av:=Z o;have g3:=Z gs;clear o gs)
        go_meet
        exact⟨cl.ins cC g3,av,c6.trans (g3.below (by have:=c6.size;omega) (fun b hb=>by have e:b=bx:=hb;have:=E.out;omega))⟩
       ·have M:=Z z
        subst d;clear u z;go_wp2
        go_meet
        exact⟨cl,by rw[M];exact cC,c6⟩
      case rest=>
       obtain⟨a5,o,A⟩:=hcut;obtain⟨q,hF⟩:=nm wc;rw[hF]at a5 o A⊢;obtain⟨vc,vl,vn,vw,j⟩:=a5;have ck:=Z j;have av:=Z o;have c5:=Z A;have x0:q.cell? (bx,0)=some (.int .i64 a.op):=o.cell rfl;have x1:q.cell? (bx,1)=some (.int .i64 a.a):=o.cell rfl;have x2:q.cell? (bx,2)=some (.int .i64 a.b):=o.cell rfl;have x3:q.cell? (bx,3)=some (.int .i64 a.c):=o.cell rfl;have x4:q.cell? (bx,4)=some (.int .u64 a.v):=o.cell rfl;have x5:q.cell? (bx,5)=some (.int .i64 a.m):=o.cell rfl;have x6:q.cell? (bx,6)=some (.int .i64 a.wh):=o.cell rfl;have n0:q.cell? (p,0)=some vc:=j.row.cell rfl;have l1:=j.row.free 0;have hu:=j.row.lt;have R:=o.lt;have i1:vc.ownBlock≠some p:=bm j.code j.row (by decide);have Q:vc.ownBlock≠some bx:=j.ne;have P:q.ownsRow B 184 7 vc C.code.length (C.code.flatMap dn):=j.code;have no:C.code.length<=1000000:=(by rw[(jB _ cm).1];exact g2.1);have lb:B<=q.heap.size:=(by have:=A.size;omega);obtain⟨mS,gt,mA,mC,mL⟩:=info_parts iz;have i7:=Z gt;clear hF j o A gt eA;go_wp2
       have mk:p≠bx:=fun e=>by
        obtain⟨_,_,_,_,j⟩:=am.out;have:=j.row.lt;have:=E.out;omega
       have nx:bx≠p:=Ne.symm mk;go_region_law (first|(refine step_append_lies _ (by rfl) _ _ _ (by rfl) B 184 mS _ 7 56 underlying75 i7 mA mC mL rfl (by omega) vc C.code.length (C.code.flatMap dn) (by rfl) ((P.alloc _).drew) ⟨q.heap.size,0,none⟩ 1 1 [a.op,a.a,a.b,a.c,.int .u64 a.v,a.m,a.wh] (by rfl) (by rfl) (World.news_of_block (cs:=#[a.op,a.a,a.b,a.c,.int .u64 a.v,a.m,a.wh]) (t:=184) (fr:=(0,0)) (heap_alloc_new q _)) (by simp[Value.oneCell']) (by omega) (by unfold maxLen;omega) (by omega) (by simp;omega) (q.heap.size+1) (by simp) ?_;intro ne nd I mb D ni eC;have os:I.cell? (p,0)=some vc:=(D.cell_far ⟨p,0,none⟩ (by simp;omega) (Ne.symm i1)).trans (by simp[go_sem,World.cell?_alloc_past,hu,n0]);have ov:I.frozen? (p,0)=false:=(D.frozen_far ⟨p,0,none⟩ (by simp;omega) (Ne.symm i1)).trans (by simp[go_sem,World.frozen?_alloc_past,hu,l1]);have p8:I.cell? (bx,0)=some (.int .i64 a.op):=(D.cell_far ⟨bx,0,none⟩ (by simp;omega) (Ne.symm Q)).trans (by simp[go_sem,World.cell?_alloc_past,R,x0]);have pa:I.cell? (bx,1)=some (.int .i64 a.a):=(D.cell_far ⟨bx,1,none⟩ (by simp;omega) (Ne.symm Q)).trans (by simp[go_sem,World.cell?_alloc_past,R,x1]);have pc:I.cell? (bx,2)=some (.int .i64 a.b):=(D.cell_far ⟨bx,2,none⟩ (by simp;omega) (Ne.symm Q)).trans (by simp[go_sem,World.cell?_alloc_past,R,x2]);have pi:I.cell? (bx,3)=some (.int .i64 a.c):=(D.cell_far ⟨bx,3,none⟩ (by simp;omega) (Ne.symm Q)).trans (by simp[go_sem,World.cell?_alloc_past,R,x3]);have pk:I.cell? (bx,4)=some (.int .u64 a.v):=(D.cell_far ⟨bx,4,none⟩ (by simp;omega) (Ne.symm Q)).trans (by simp[go_sem,World.cell?_alloc_past,R,x4]);have pl:I.cell? (bx,5)=some (.int .i64 a.m):=(D.cell_far ⟨bx,5,none⟩ (by simp;omega) (Ne.symm Q)).trans (by simp[go_sem,World.cell?_alloc_past,R,x5]);have pm:I.cell? (bx,6)=some (.int .i64 a.wh):=(D.cell_far ⟨bx,6,none⟩ (by simp;omega) (Ne.symm Q)).trans (by simp[go_sem,World.cell?_alloc_past,R,x6])))
       all_goals
        go_wp2
        go_ret;obtain⟨n1,n2⟩:=ck.iT lb a mb (ao (cY D));exact⟨rfl,by rw[k1];exact n1,c5.trans n2⟩
def oP(S:gD):gD:={S with line:=S.line+1}
def jC(S:gD)(b:List ByteArray):Option gD:=match b with
 |[]=>some (oP S)
 |w::l=>match ma S (w::l)with|none=>none|some a=>some (oP a)
def gN:List UInt8->List UInt8->gD->Option gD
 |[],cur,S=>if cur=[]then some S else jC S (lj cur [])
 |c::cs,cur,S=>if(c.toNat:Int)=10 then(match jC S (lj cur [])with|none=>none|some a=>gN cs [] a)else gN cs (cur++[c]) S
def oQ:List (Int×Int×ByteArray)->List (ByteArray×Int)->List be->Option (List be)
 |[],_,C=>some C
 |x::l,L,C=>match cV L x.2.2 with
  |none=>none
  |some at_=>match C[x.2.1.toNat]? with
   |none=>none
   |some X=>if 0<=x.2.1 then oQ l L (C.set x.2.1.toNat {X with v:=IntKind.u64.wrap at_})else none
def DJ(C:List be)(L:List (ByteArray×Int)):Option (List be×List (ByteArray×Int)):=
 if C.length<=2048/\L.all (fun b=>b.2 !=(C.length:Int))=true then some (C,L)else none
def iV(s:ByteArray):Option (List be×List (ByteArray×Int)):=
 if s.size<=65536 then(match gN s.data.toList [] ⟨[],[],[],[],0⟩with
  |none=>none
  |some S=>match oQ S.bu S.labels S.code with|none=>none|some C=>DJ C S.labels)else none
theorem tq:∀(l w:List UInt8),∀x∈lj l w,1<=x.size/\x.size<=w.length+l.length:=by
 have b:∀(w:List UInt8),∀x∈pn w,1<=x.size/\x.size<=w.length:=by
  intro w x a;unfold pn at a;split at a
  ·cases a
  ·rename_i d
   have:x=tk w:=(by simpa using a);subst this;rw[tn];have:=List.length_pos_iff.2 d;omega
 intro l
 induction l with
 |nil=>intro w x a;have:=b w x a;simp only[List.length_nil];omega
 |cons c l ih=>
  intro w x a;unfold lj at a;simp only[List.length_cons];split at a
  ·have:=ih _ x a;simp only[List.length_append,List.length_cons,List.length_nil]at this;omega
  ·split at a
   ·have:=b w x a;omega
   ·rcases List.mem_append.1 a with h|h
    ·have:=b w x h;omega
    ·have:=ih _ x h;simp only[List.length_nil]at this;omega
theorem wK:∀(l w:List UInt8),(lj l w).length<=1+l.length:=by
 have a:∀(w:List UInt8),(pn w).length<=1:=by intro w;unfold pn;split<;>simp
 intro l
 induction l with
 |nil=>intro w;have:=a w;simp only[List.length_nil];exact this
 |cons c l ih=>
  intro w;unfold lj;simp only[List.length_cons];split
  ·have:=ih (w++[c]);omega
  ·split
   ·have:=a w;omega
   ·rw[List.length_append];have:=a w;have:=ih [];omega
theorem jD{S a:gD}{l:List ByteArray}(h:ma S l=some a):a.code.length<=S.code.length+1/\a.labels.length<=S.labels.length+1/\a.lines.length<=S.lines.length+1/\a.bu.length<=S.bu.length+3/\a.line=S.line:=by
 cases l with
 |nil=>cases h
 |cons w l=>
  change(if b9 w (w.size-1)=58/\l.length=0 then tp S (w.extract 0 (w.size-1))else pY S (w::l) (jd w b' 0 0))=some a at h;split at h
  ·unfold tp at h
   split at h
   ·obtain rfl:=Option.some.inj h;simp
   ·cases h
  ·obtain⟨_,e,f,g,d,c,rfl,_⟩:=mX h
   obtain⟨a1,a2,a3,b,i⟩:=jB _ c;have:=pZ (jd w b' 0 0);simp only[List.length_append,List.length_cons,List.length_nil];rw[a1,a2,a3,b];refine⟨by omega,by omega,by omega,by omega,rfl⟩
theorem p4(l:List ByteArray)(u:0<l.length)(k:∀x∈l,1<=x.size/\x.size<=65536)(v:l.length<=100000)(g cap B p:Nat)(S a:gD)(w:World)(m:eg w g l)(d:l.length<=cap)(i:dK w B p p S)(c:B<=w.heap.size)
 (h:ma S l=some a) (n:S.code.length<=1000000) (o:S.bu.length<=1000000) (q:S.labels.length<=1000000) (r:S.lines.length<=1000000):
 Calls prog 79 #[(p,0),.slice (some (g,0)) l.length cap] w (oO a B p w):=by
 cases l with
 |nil=>exact absurd u (by simp)
 |cons w0 l=>
  change(if b9 w0 (w0.size-1)=58/\l.length=0 then tp S (w0.extract 0 (w0.size-1))else pY S (w0::l) (jd w0 b' 0 0))=some a at h;split at h
  ·rename_i b
   obtain⟨s,t⟩:=b;have e:l=[]:=List.length_eq_zero_iff.1 t;subst e;unfold tp at h;split at h
   ·rename_i f
    obtain rfl:=Option.some.inj h;have j:=k w0 (by simp);exact va w0 _ rfl j.1 j.2 s g cap B p S w m (by simpa using d) i c f.1 f.2 q r
   ·cases h
  ·rename_i b
   exact A0 (w0::l) w0 rfl k v (fun e=>b ⟨e.1,by have:=e.2;simp only[List.length_cons]at this;omega⟩) g cap B p S a w m d i c h n o
theorem dK.more{S:gD}(h:dK w B p p S):dK (w.setCell (p,4) (.int .i64 (S.line+1))) B p p (oP S):=by
 obtain⟨vc,vl,vn,vw,h⟩:=h;have a:=h.row;exact⟨vc,vl,vn,vw,a.bc _ _ rfl,h.hB,dT h.code a (by decide),h.ne,dT h.labels a (by decide),dT h.lines a (by decide),dT h.bu a (by decide)⟩
theorem ew(X:be):(dn X).length=7:=rfl
theorem oL.mU{g n cap:Nat}{vl vn vw:Value}{S:gD}{C:List be}(h:oL w B p p (.slice (some (g,0)) n cap) vl vn vw {S with code:=C}){i:Nat}{X:be}(m:C[i]?=some X)(d:n=C.length)(v:Int):
 dK (w.setCell (g,i*7+4) (.int .u64 v)) B p p {S with code:=C.set i {X with v:=v}}/\Below B w (w.setCell (g,i*7+4) (.int .u64 v)):=by
 have r:(Value.slice (some (g,0)) n cap).ownBlock=some g:=rfl;obtain⟨x,cs,j⟩:=bW h.code r;have c:Ch (aH g) w (w.setCell (g,i*7+4) (.int .u64 v)):=ay;have q:∀{e:TypeId} {s:Nat} {v':Value} {n:Nat} {xs:List Value},w.ownsRow B e s v' n xs->184≠e->(w.setCell (g,i*7+4) (.int .u64 v)).ownsRow B e s v' n xs:=fun l o=>ak l c (fun k t e=>by have a:k=g:=e;subst a;exact bm l j o t)
 refine⟨⟨.slice (some (g,0)) n cap,vl,vn,vw,?_⟩,c.below (by have:=h.row.lt;have:=h.hB;omega) (fun b hb=>by have e:b=g:=hb;omega)⟩;have f:=h.code;rw[show({S with code:=C}:gD).code=C from rfl,<-d]at f;have u:=ig (enc:=dn) f ew m 4 (by omega) rfl (v:=.int .u64 v) (y:={X with v:=v}) rfl d;refine⟨h.row.ch c (fun e=>by have a:p=g:=e;subst a;exact absurd (eM h.row j) (by decide)),h.hB,?_,h.ne,q h.labels (by decide),q h.lines (by decide),q h.bu (by decide)⟩;rw[show({S with code:=C.set i {X with v:=v}}:gD).code=C.set i {X with v:=v}from rfl,List.length_set,<-d];exact u
variable{k:Nat}
def C1(r:List be×List (ByteArray×Int))(w:World)(e:Ending)(w':World):Prop:=
 ∃vc vl,e=.returned (.tuple #[vc,vl,.pointer none])/\w'.ownsRow w.heap.size 184 7 vc r.1.length (r.1.flatMap dn)/\w'.ownsRow w.heap.size 198 2 vl r.2.length (r.2.flatMap ph)/\Ch ag w w'
structure ts(k:Nat)(S:gD):Prop where
 c:S.code.length<=k
 l:S.labels.length<=k
 n:S.lines.length<=k
 w:S.bu.length<=3*k
 a0:0<=S.line
 a1:S.line<=k
theorem ts.more{S d:gD}{e:List ByteArray}(h:ts k S)(a:jC S e=some d):ts (k+1) d:=by
 have:=h.c;have:=h.l;have:=h.n;have:=h.w;have:=h.a0;have:=h.a1;cases e with
 |nil=>
  obtain rfl:=Option.some.inj a;exact⟨by show S.code.length<=_;omega,by show S.labels.length<=_;omega,by show S.lines.length<=_;omega,by show S.bu.length<=_;omega,by show 0<=S.line+1;omega,by show S.line+1<=_;omega⟩
 |cons w l=>
  unfold jC at a;dsimp only at a;cases c:ma S (w::l)with
  |none=>rw[c]at a;cases a
  |some b=>
   rw[c]at a;obtain rfl:=Option.some.inj a;obtain⟨a1,a2,a3,f,g⟩:=jD c;exact⟨by show b.code.length<=_;omega,by show b.labels.length<=_;omega,by show b.lines.length<=_;omega,by show b.bu.length<=_;omega,by show 0<=b.line+1;omega,by show b.line+1<=_;omega⟩
theorem ts.mono{a:Nat}{S:gD}(h:ts k S)(b:k<=a):ts a S:=by
 have:=h.c;have:=h.l;have:=h.n;have:=h.w;have:=h.a0;have:=h.a1;exact⟨by omega,by omega,by omega,by omega,by omega,by omega⟩
def ga(s:ByteArray)(f k:Nat):List UInt8:=(s.data.toList.drop f).take (k-f)
theorem oR(s:ByteArray)(k:Nat):ga s k k=[]:=by unfold ga;rw[Nat.sub_self];rfl
theorem yI(s:ByteArray)(f k:Nat)(b:f<=k)(a:k<s.size):ga s f (k+1)=ga s f k++[s[k]]:=by
 unfold ga;rw[show k+1-f=(k-f)+1 from by omega,List.take_add_one,List.getElem?_drop,show f+(k-f)=k from by omega,List.getElem?_eq_getElem (by simpa using a)];rfl
theorem tu(s:ByteArray)(f k:Nat)(a:f<=k)(b:k<=s.size):e7 (s.extract f k)=lj (ga s f k) []:=by
 unfold e7 ga;rw[ByteArray.data_extract,Array.toList_extract,List.extract_eq_take_drop]
theorem lq(s:ByteArray)(f k:Nat):(ga s f k).length<=k-f:=by unfold ga;rw[List.length_take];omega
theorem C2(s:ByteArray)(f k:Nat)(a:f<k)(b:k<=s.size):ga s f k≠[]:=by
 intro h;have:(ga s f k).length=k-f:=by unfold ga;rw[List.length_take,List.length_drop];simp;omega
 rw[h]at this;simp at this;omega
theorem below_drewN{w':World}(h:Below B w w')(n:Nat):Below B w (w'.drewN n):=⟨h.os,h.tape,h.output,h.size,h.block⟩
theorem tv{v:Value}{a:List ByteArray}(h:w.ownsRow B 9 1 v a.length (a.map Value.string))(b:0<a.length):∃g cap,v=.slice (some ⟨g,0,none⟩) a.length cap/\a.length<=cap/\eg w g a:=by
 obtain⟨g,cap,f,d,i,c,j,e,_⟩:=aE h b;exact⟨g,cap,d,c,f,e⟩
theorem me(s:ByteArray)(r:List be×List (ByteArray×Int))(h:iV s=some r)(w:World):Calls prog 37 #[.string s] w (C1 r w):=by
 unfold iV at h;split at h
 ·rename_i mp
  cases z:gN s.data.toList [] ⟨[],[],[],[],0⟩with
  |none=>rw[z]at h;cases h
  |some a=>
   rw[z]at h;dsimp only at h;cases a9:oQ a.bu a.labels a.code with
   |none=>rw[a9]at h;cases h
   |some ad=>
    rw[a9]at h;dsimp only at h;have i3:=Z z;have i4:=Z a9;have i5:=Z h;clear h z a9;have ms:(s.size:Int)<=65536:=(by omega);obtain⟨B,eS⟩:=nm w.heap.size;have R:=Z eS;go_in
    go_upto_block 0 with fail
    obtain⟨w0,cW⟩:=nm (w.alloc (.cells #[.slice none 0 0,.slice none 0 0,.slice none 0 0,.slice none 0 0,.int .i64 0] 189));have ip:Hid (dK w0 B B B ⟨[],[],[],[],0⟩):=Z (by
     have r:=Row.new w #[.slice none 0 0,.slice none 0 0,.slice none 0 0,.slice none 0 0,.int .i64 0] 189;rw[cW,eS]at r;exact⟨_,_,_,_,r,Nat.le_refl _,World.ownsRow_nil _ _ _ _,(fun e=>by cases e),World.ownsRow_nil _ _ _ _,World.ownsRow_nil _ _ _ _,World.ownsRow_nil _ _ _ _⟩)
    have i7:Hid (Below B w w0):=Z (by rw[<-cW];exact(Below.refl _ _).alloc (by omega) _);rw[cW];clear cW eS;go_cut [] (fun wc=>dK wc B B B a/\Below B w wc/\ts 65537 a)
    case first=>
     go_wp2
     go_loopw [6,7] (fun fr i wr=>∃(f k:Nat) (S:gD),fr=.int .i64 f/\i=.int .i64 k/\dK wr B B B S/\Below B w wr/\((k<=s.size/\f<=k/\ts k S/\gN (s.data.toList.drop k) (ga s f k) S=some a)∨(k=s.size+1/\ts k S/\S=a))) (fun _ i _=>s.size+1-(intOf i).toNat)
     case atStart=>exact⟨0,0,_,rfl,rfl,ip,i7,Or.inl ⟨by omega,by omega,⟨by simp,by simp,by simp,by simp,by simp,by simp⟩,by rw[oR];exact i3⟩⟩
     case round=>
      obtain⟨f,k,S,rfl,rfl,c,p,hrel⟩:=hrel;rcases hrel with⟨bx,a1,q,d⟩|⟨rfl,q,rfl⟩
      ·have Q:=Z q
       have c1:=Z c;have P:=Z p;by_cases ci:k<s.size
       ·have cs:Hid (s.data.toList.drop k=s[k]::s.data.toList.drop (k+1)):=drop_cons s k ci
        by_cases ab:(s[k].toNat:Int)=10
        ·rw[cs,gN,if_pos ab]at d
         have k5:((s[k].toNat:Int) !=10)=false:=(by rw[ab];rfl);have kw:((k:Int)==s.size)=false:=(by rw[beq_eq_false_iff_ne];omega);cases F:jC S (lj (ga s f k) [])with
         |none=>rw[F]at d;cases d
         |some l=>
          rw[F]at d;dsimp only at d;have I:Hid ((k+1<=s.size/\(k+1)<=(k+1)/\ts (k+1) l/\gN (s.data.toList.drop (k+1)) (ga s (k+1) (k+1)) l=some a)∨(k+1=s.size+1/\ts (k+1) l/\l=a)):=Z (Or.inl ⟨by omega,Nat.le_refl _,q.more F,by rw[oR];exact d⟩);have al:=Z (tu s f k a1 bx);obtain⟨t,ck⟩:=nm (s.extract f k);have g4:t.size<=65536:=(by rw[<-ck];simp;omega);have V:=Z (fun w=>oM t g4 w);rw[ck]at al;rw[al]at V;have c7:Hid (∀x∈lj (ga s f k) [],1<=x.size/\x.size<=65536):=Z (fun x a4=>by
           have z:=tq _ _ x a4;have a9:=lq s f k;simp only[List.length_nil]at z;omega)
          have c3:Hid ((lj (ga s f k) []).length<=65537):=Z (by
           have z:=wK (ga s f k) [];have a9:=lq s f k;omega)
          have A:Hid (k<=65536):=Z (by omega);obtain⟨O,cl⟩:=nm (lj (ga s f k) []);rw[cl]at V c7 c3 F;have c2:=Z F;have l0:t.size<=maxLen:=(by unfold maxLen;omega);clear cl d q c p F ab;cases O with
          |nil=>
           have am:Hid (l=oP S):=Z (Option.some.inj c2).symm;go_upto_region 15 with(go_at_call 78;(with_reducible refine(V.out _).mono ?_);rintro e w2 ⟨v2,rfl,L,K⟩;obtain⟨a2,eA,rfl⟩:=au L;have H:=Z K;clear L K;simp only[List.length_nil])
           have u:Hid (dK w2 B B B S):=Z (c1.out.af (Ch.bT H));have T:Hid (Below B w w2):=Z (P.out.trans (H.mono (by have:=P.out.size;have:=R.out;omega)));have g9:w2.cell? (B,4)=some (.int .i64 S.line):=by
            obtain⟨_,_,_,_,b⟩:=u.out;exact b.row.cell rfl
           have eL:w2.frozen? (B,4)=false:=by
            obtain⟨_,_,_,_,b⟩:=u.out;exact b.row.free 4
           have gf:=Q.out.a0;have gk:=Q.out.a1;have lo:=A.out;go_wp2
           go_roundw
           case rel=>exact⟨k+1,k+1,l,by go_num,by go_num,by rw[am];exact u.more,T.setCell (by simp) _,I⟩
           case measure=>simp[intOf];omega
          |cons x O=>
           have y:=c2.out;unfold jC at y;dsimp only at y;cases M:ma S (x::O)with
           |none=>rw[M]at y;cases y
           |some J=>
            rw[M]at y;have am:Hid (l=oP J):=Z (Option.some.inj y).symm;have N:=Q.out;have c4:=Z (jD M).2.2.2.2;have c6:=Z (fun g cap w g5 fn c eW=>p4 (x::O) (by simp) c7 (by have:=c3.out;omega) g cap B B S J w g5 fn c eW M (by have:=N.c;have:=A.out;omega) (by have:=N.w;have:=A.out;omega) (by have:=N.l;have:=A.out;omega) (by have:=N.n;have:=A.out;omega));obtain⟨D,E⟩:=mn ((x::O).length);have U:=Z E;have k3:0<D:=(by rw[E];simp);have k4:(0:Int)<D:=(by omega);rw[<-E]at c6;clear M y N E;go_wp2_with fail
            with_reducible refine(V.out _).mono ?_
            rintro e w2 ⟨v2,rfl,L,K⟩;obtain⟨k2,eA,rfl,cf,G⟩:=tv L (by simp);have en:=Z cf;have c8:=Z G;have H:=Z K;rw[<-U];have u:Hid (dK w2 B B B S):=Z (c1.out.af (Ch.bT H));have T:Hid (Below B w w2):=Z (P.out.trans (H.mono (by have:=P.out.size;have:=R.out;omega)));clear L K cf G;go_wp2_with fail
            with_reducible refine(c6.out _ _ _ c8.out (by have:=en.out;rw[U.out];exact this) u.out (by have:=T.out.size;have:=R.out;omega)).mono ?_
            rintro e w3 ⟨rfl,a3,ce⟩;have et:=Z a3;have ec:=Z (T.trans ce);have g9:w3.cell? (B,4)=some (.int .i64 J.line):=by
             obtain⟨_,_,_,_,b⟩:=a3;exact b.row.cell rfl
            have eL:w3.frozen? (B,4)=false:=by
             obtain⟨_,_,_,_,b⟩:=a3;exact b.row.free 4
            have gf:0<=J.line:=(by rw[c4];exact Q.out.a0);have gk:J.line<=65536:=(by rw[c4];have:=Q.out.a1;have:=A.out;omega);clear a3 ce;go_wp2
            go_roundw
            case rel=>exact⟨k+1,k+1,l,by go_num,by go_num,by rw[am];exact et.more,ec.setCell (by simp) _,by first|exact I|exact I.imp id (fun h=>⟨h.1,h.2.1,rfl⟩)⟩
            case measure=>simp[intOf];omega
        ·have I:Hid ((k+1<=s.size/\f<=k+1/\ts (k+1) S/\gN (s.data.toList.drop (k+1)) (ga s f (k+1)) S=some a)∨(k+1=s.size+1/\ts (k+1) S/\S=a)):=Z (Or.inl ⟨by omega,by omega,q.mono (by omega),by
          rw[cs,gN,if_neg ab]at d;rw[yI s f k a1 ci];exact d⟩)
         have k5:((s[k].toNat:Int) !=10)=true:=(by simpa using ab);clear ab q c p d;go_wp2
         go_roundw
         case rel=>exact⟨f,k+1,S,rfl,by go_num,c1.out,P.out,I⟩
         case measure=>simp[intOf];omega
       ·have hv:k=s.size:=by omega
        have cs:Hid (s.data.toList.drop k=[]):=iv s k (by omega);rw[cs,gN]at d;have kw:((k:Int)==s.size)=true:=(by rw[beq_iff_eq];omega);by_cases g0:f=k
        ·have I:Hid ((k+1<=s.size/\f<=k+1/\ts (k+1) S/\gN (s.data.toList.drop (k+1)) (ga s f (k+1)) S=some a)∨(k+1=s.size+1/\ts (k+1) S/\S=a)):=Z (Or.inr ⟨by omega,q.mono (by omega),by
          rw[g0,oR,if_pos rfl]at d;exact Option.some.inj d⟩)
         have kf:((f:Int)==(k:Int))=true:=(by rw[beq_iff_eq];omega);clear hv q c p d g0;go_wp2
         go_roundw
         case rel=>exact⟨f,k+1,S,rfl,by go_num,c1.out,P.out,I⟩
         case measure=>simp[intOf];omega
        ·rw[if_neg (C2 s f k (by omega) bx)]at d
         cases F:jC S (lj (ga s f k) [])with
         |none=>rw[F]at d;cases d
         |some l=>
          rw[F]at d;obtain rfl:=Option.some.inj d;have I:Hid ((k+1<=s.size/\(k+1)<=(k+1)/\ts (k+1) l/\gN (s.data.toList.drop (k+1)) (ga s (k+1) (k+1)) l=some l)∨(k+1=s.size+1/\ts (k+1) l/\l=l)):=Z (Or.inr ⟨by omega,q.more F,rfl⟩);have kf:((f:Int)==(k:Int))=false:=(by rw[beq_eq_false_iff_ne];omega);clear hv;have al:=Z (tu s f k a1 bx);obtain⟨t,ck⟩:=nm (s.extract f k);have g4:t.size<=65536:=(by rw[<-ck];simp;omega);have V:=Z (fun w=>oM t g4 w);rw[ck]at al;rw[al]at V;have c7:Hid (∀x∈lj (ga s f k) [],1<=x.size/\x.size<=65536):=Z (fun x a4=>by
           have z:=tq _ _ x a4;have a9:=lq s f k;simp only[List.length_nil]at z;omega)
          have c3:Hid ((lj (ga s f k) []).length<=65537):=Z (by
           have z:=wK (ga s f k) [];have a9:=lq s f k;omega)
          have A:Hid (k<=65536):=Z (by omega);obtain⟨O,cl⟩:=nm (lj (ga s f k) []);rw[cl]at V c7 c3 F;have c2:=Z F;have l0:t.size<=maxLen:=(by unfold maxLen;omega);clear cl d q c p F g0;cases O with
          |nil=>
           have am:Hid (l=oP S):=Z (Option.some.inj c2).symm;go_upto_region 15 with(go_at_call 78;(with_reducible refine(V.out _).mono ?_);rintro e w2 ⟨v2,rfl,L,K⟩;obtain⟨a2,eA,rfl⟩:=au L;have H:=Z K;clear L K;simp only[List.length_nil])
           have u:Hid (dK w2 B B B S):=Z (c1.out.af (Ch.bT H));have T:Hid (Below B w w2):=Z (P.out.trans (H.mono (by have:=P.out.size;have:=R.out;omega)));have g9:w2.cell? (B,4)=some (.int .i64 S.line):=by
            obtain⟨_,_,_,_,b⟩:=u.out;exact b.row.cell rfl
           have eL:w2.frozen? (B,4)=false:=by
            obtain⟨_,_,_,_,b⟩:=u.out;exact b.row.free 4
           have gf:=Q.out.a0;have gk:=Q.out.a1;have lo:=A.out;go_wp2
           go_roundw
           case rel=>exact⟨k+1,k+1,l,by go_num,by go_num,by rw[am];exact u.more,T.setCell (by simp) _,I⟩
           case measure=>simp[intOf];omega
          |cons x O=>
           have y:=c2.out;unfold jC at y;dsimp only at y;cases M:ma S (x::O)with
           |none=>rw[M]at y;cases y
           |some J=>
            rw[M]at y;have am:Hid (l=oP J):=Z (Option.some.inj y).symm;have N:=Q.out;have c4:=Z (jD M).2.2.2.2;have c6:=Z (fun g cap w g5 fn c eW=>p4 (x::O) (by simp) c7 (by have:=c3.out;omega) g cap B B S J w g5 fn c eW M (by have:=N.c;have:=A.out;omega) (by have:=N.w;have:=A.out;omega) (by have:=N.l;have:=A.out;omega) (by have:=N.n;have:=A.out;omega));obtain⟨D,E⟩:=mn ((x::O).length);have U:=Z E;have k3:0<D:=(by rw[E];simp);have k4:(0:Int)<D:=(by omega);rw[<-E]at c6;clear M y N E;go_wp2_with fail
            with_reducible refine(V.out _).mono ?_
            rintro e w2 ⟨v2,rfl,L,K⟩;obtain⟨k2,eA,rfl,cf,G⟩:=tv L (by simp);have en:=Z cf;have c8:=Z G;have H:=Z K;rw[<-U];have u:Hid (dK w2 B B B S):=Z (c1.out.af (Ch.bT H));have T:Hid (Below B w w2):=Z (P.out.trans (H.mono (by have:=P.out.size;have:=R.out;omega)));clear L K cf G;go_wp2_with fail
            with_reducible refine(c6.out _ _ _ c8.out (by have:=en.out;rw[U.out];exact this) u.out (by have:=T.out.size;have:=R.out;omega)).mono ?_
            rintro e w3 ⟨rfl,a3,ce⟩;have et:=Z a3;have ec:=Z (T.trans ce);have g9:w3.cell? (B,4)=some (.int .i64 J.line):=by
             obtain⟨_,_,_,_,b⟩:=a3;exact b.row.cell rfl
            have eL:w3.frozen? (B,4)=false:=by
             obtain⟨_,_,_,_,b⟩:=a3;exact b.row.free 4
            have gf:0<=J.line:=(by rw[c4];exact Q.out.a0);have gk:J.line<=65536:=(by rw[c4];have:=Q.out.a1;have:=A.out;omega);clear a3 ce;go_wp2
            go_roundw
            case rel=>exact⟨k+1,k+1,l,by go_num,by go_num,by rw[am];exact et.more,ec.setCell (by simp) _,by first|exact I|exact I.imp id (fun h=>⟨h.1,h.2.1,rfl⟩)⟩
            case measure=>simp[intOf];omega
      ·have ex:=Z c
       have cq:=Z p;have cC:=Z q;clear c p q;go_wp2
       go_meet
       exact⟨ex,cq,cC.mono (by omega)⟩
    case rest=>
     obtain⟨c,p,q⟩:=hcut;have cq:=Z p;have cC:=Z q;have lb:a.bu.length<=200000:=(by have:=q.w;omega);have gt:=Z c;obtain⟨w1,hw⟩:=nm wc;rw[hw]at gt cq⊢;clear c p q hw;obtain⟨D,E⟩:=mn a.bu.length;have U:=Z E;rw[<-E]at lb;clear E;go_upto_block 2 with fail
     go_cut [] (fun wc=>dK wc B B B {a with code:=ad}/\Below B w wc/\ad.length=a.code.length)
     case first=>
      go_wp2
      go_loopw [10] (fun i wr=>∃(k:Nat) (C:List be),k<=D/\i=.int .i64 k/\dK wr B B B {a with code:=C}/\Below B w wr/\oQ (a.bu.drop k) a.labels C=some ad/\C.length=a.code.length) (fun i _=>D-(intOf i).toNat)
      case atStart=>exact⟨0,a.code,by omega,rfl,gt,cq,i4,rfl⟩
      case round=>
       obtain⟨k,C,bx,rfl,c,p,o,cQ⟩:=hrel;have ex:=Z c;have go:=Z p;have gr:=Z cQ;obtain⟨vc,vl,vn,vw,b⟩:=c;have cA:=Z b;have i1:wr.cell? (B,3)=some vw:=b.row.cell rfl;have g3:wr.ownsRow B 196 3 vw D (a.bu.flatMap oK):=(by rw[U];exact b.bu);have io:=Z g3;obtain⟨k0,eC,rfl⟩:=au g3;clear g3 b p cQ;by_cases ci:k<D
       ·have c0:k<a.bu.length:=by have:=U.out;omega
        rw[List.drop_eq_getElem_cons c0]at o;obtain⟨x,a4⟩:=nm (a.bu[k]);have g8:a.bu[k]?=some x:=(by rw[List.getElem?_eq_getElem c0,a4]);rw[a4,oQ]at o;cases a1:cV a.labels x.2.2 with
        |none=>rw[a1]at o;cases o
        |some at_=>
         rw[a1]at o;dsimp only at o;obtain⟨x0,ll,gc⟩:=x;dsimp only at o a1;cases bw:C[ll.toNat]? with
         |none=>rw[bw]at o;cases o
         |some X=>
          rw[bw]at o;dsimp only at o;split at o
          ·rename_i hm
           obtain⟨av,rfl⟩:=Int.eq_ofNat_of_zero_le hm;rw[Int.toNat_natCast]at bw o;have mb:av<C.length:=(List.getElem?_eq_some_iff.1 bw).1;have he:=Z bw;have it:=Z o;obtain⟨bv,k1,lc,i0,_,mv,_,g7,_⟩:=aE io (by omega);obtain⟨rfl,rfl⟩:k0=some ⟨bv,0,none⟩/\eC=k1:=by injection i0 with z _ Y;exact⟨z,Y⟩
           have hB:wr.cell? ⟨bv,k*3+1,none⟩=some (.int .i64 av):=g7.cell (by
            rw[List.getElem?_append_left (by rw[aU (k:=3) (fun _=>rfl)];omega)];exact(bJ (k:=3) (enc:=oK) (fun _=>rfl) g8 (j:=1) (by omega)).trans rfl)
           have l1:wr.cell? ⟨bv,k*3+2,none⟩=some (.string gc):=g7.cell (by
            rw[List.getElem?_append_left (by rw[aU (k:=3) (fun _=>rfl)];omega)];exact(bJ (k:=3) (enc:=oK) (fun _=>rfl) g8 (j:=2) (by omega)).trans rfl)
           have a5:wr.cell? (B,0)=some vc:=cA.row.cell rfl;have dr:wr.cell? (B,1)=some vl:=cA.row.cell rfl;have i9:Hid (∀n,Calls prog 80 #[vl,.string gc] (wr.drewN n) (fun e w'=>e=.returned (.tuple #[at_,.bool true])/\∃m,w'=(wr.drewN n).drewN m)):=
            Z (fun n=>hC a.labels gc (at_,true) (by rw[a1];rfl) vl B (wr.drewN n) cA.labels (by have:=cC.l;omega))
           have md:(k:Int)<D:=(by omega);clear o a1 i0 g7 g8 a4 hm c0 bw;go_wp2
           go_quiet ((go_at_call 80;exact Calls.quiet_of (i9 _)))
           obtain⟨w2,G⟩:=nm (wr.drewN nq);have c8:Hid (Below B w w2):=Z (by rw[<-G];exact below_drewN go nq);have u:Hid (oL w2 B B B vc vl vn (.slice (some (bv,0)) D eC) {a with code:=C}):=Z (by rw[<-G];exact cA.af ay);have ge:w2.cell? ⟨bv,k*3+1,none⟩=some (.int .i64 av):=(by rw[<-G];exact hB);have y0:w2.cell? (B,0)=some vc:=(by rw[<-G];exact a5);have mC:w2.cell? (B,3)=some (.slice (some (bv,0)) D eC):=(by rw[<-G];exact i1);rw[G];obtain⟨hl,hf,mA,ch,_,hn,_,fz,_⟩:=aE u.code (by show 0<C.length;omega);have cd:Hid (vc=.slice (some (hl,0)) C.length hf):=Z ch;obtain⟨bi,fd⟩:=mn C.length;have c5:=Z fd;have mc:(av:Int)<bi:=(by omega);have mL:w2.cell? (hl,av*7+4)=some (.int .u64 X.v):=fz.cell (by
            rw[List.getElem?_append_left (by show _<(C.flatMap dn).length;rw[aU ew];omega)];exact(bJ ew he (j:=4) (by omega)).trans rfl)
           have f4:=fz.free (av*7+4);have l':bi<=hf:=(by rw[fd];exact hn);rw[cd,<-c5]at y0 u;clear G hB l1 a5 dr i1 ch hn fz fd;go_wp2
           go_still_tail 14,(by kernel_rfl)
           change wpList _ _ _ _ _ w2.drew;go_wp2
           go_roundw
           obtain⟨i2,le⟩:=oL.mU u he c5 (IntKind.u64.wrap at_)
           case rel=>
            refine⟨k+1,C.set av {X with v:=IntKind.u64.wrap at_},by omega,by go_num,?_,?_,it,by rw[List.length_set];exact gr⟩
            ·first|exact i2|exact i2.af ay
            ·have a0:=c8.trans le
             exact⟨a0.os,a0.tape,a0.output,a0.size,a0.block⟩
           case measure=>simp[intOf];omega
          ·cases o
       ·have hd:a.bu.drop k=[]:=List.drop_of_length_le (by have:=U.out;omega)
        rw[hd]at o;have al:Hid (C=ad):=Z (Option.some.inj o);clear o hd;go_wp2
        go_meet
        rw[<-al];exact⟨ex,go,gr⟩
     case rest=>
      obtain⟨c,p,cQ⟩:=hcut;obtain⟨w4,hF⟩:=nm wc;rw[hF]at c p⊢;have Y:=i5.out;unfold DJ at Y;split at Y
      ·rename_i hd
       obtain⟨kb,hu⟩:=hd;obtain rfl:=Option.some.inj Y;have lt:=Z c;have i8:=Z p;obtain⟨vc,vl,vn,vw,b⟩:=c;have ls:=Z b;have g1:w4.ownsRow B 184 7 vc ad.length (ad.flatMap dn):=b.code;have g2:=b.labels;have a5:w4.cell? (B,0)=some vc:=b.row.cell rfl;have dr:w4.cell? (B,1)=some vl:=b.row.cell rfl;have ii:=Z g1;have gs:=Z g2;obtain⟨ac,hi,rfl⟩:=au g1;obtain⟨c9,cb,rfl⟩:=au g2;obtain⟨bi,cd⟩:=mn ad.length;obtain⟨W,fb⟩:=mn a.labels.length;have c5:=Z cd;have es:=Z fb;have lv:W<=65537:=(by have:=cC.l;omega);rw[<-cd]at a5 kb;have cm:w4.cell? (B,1)=some (.slice c9 W cb):=(by rw[fb];exact dr);have i6:Hid (∀k,k<W->∃(cL:Nat) (at_:Int),c9=some ⟨cL,0,none⟩/\W<=cb/\(at_==(bi:Int))=false/\w4.cell? ⟨cL,k*2+1,none⟩=some (.int .i64 at_)):=Z (fun k bx=>by
        have c0:k<a.labels.length:=(by have:=es.out;omega);obtain⟨g,cap,lc,kd,_,ab,_,kT,_⟩:=aE gs (by show 0<a.labels.length;omega);have a4:a.labels[k]?=some a.labels[k]:=List.getElem?_eq_getElem c0;obtain⟨rfl,rfl⟩:c9=some ⟨g,0,none⟩/\cb=cap:=by injection kd with z _ Y;exact⟨z,Y⟩
        refine⟨g,a.labels[k].2,rfl,by have:=es.out;rw[this];exact ab,?_,?_⟩
        ·have:=List.all_eq_true.1 hu _ (List.getElem_mem c0)
         rw[<-c5]at this;rw[bne_iff_ne]at this;rw[beq_eq_false_iff_ne];exact this
        ·refine kT.cell ?_
         rw[List.getElem?_append_left (by show _<(a.labels.flatMap ph).length;rw[aU iy];omega)];exact(bJ iy a4 (j:=1) (by omega)).trans rfl)
       clear hF b g1 g2 cd fb dr p cQ Y hu;go_upto_block 4 with fail
       go_cut [] (fun wc=>∃m,wc=w4.drewN m)
       case first=>
        go_wp2
        go_loopw [13] (fun i wr=>∃(k m:Nat),k<=W/\i=.int .i64 k/\wr=w4.drewN m) (fun i _=>W-(intOf i).toNat)
        case atStart=>exact⟨0,0,by omega,rfl,rfl⟩
        case round=>
         obtain⟨k,m,bx,rfl,rfl⟩:=hrel;obtain⟨dC,ap⟩:=nm (w4.drewN m);have hb:=Z ap;have y0:dC.cell? (B,0)=some (.slice ac bi hi):=(by rw[<-ap];exact a5);have ge:dC.cell? (B,1)=some (.slice c9 W cb):=(by rw[<-ap];exact cm);rw[ap];by_cases ci:k<W
         ·obtain⟨cL,at_,rfl,mk,lw,ch⟩:=i6 k ci
          have lm:dC.cell? ⟨cL,k*2+1,none⟩=some (.int .i64 at_):=(by rw[<-ap];exact ch);clear ap ch a5 cm;go_wp2
          go_quiet (fail)
          obtain⟨li,g6⟩:=nm (dC.drewN nq);have jp:Hid (li=w4.drewN (m+nq)):=Z (by rw[<-g6,<-hb,World.drewN_drewN]);rw[g6];clear g6 y0 ge lm;go_wp2
          go_roundw
          case rel=>exact⟨k+1,m+nq,by omega,by go_num,jp⟩
          case measure=>simp[intOf];omega
         ·clear ap a5 cm
          go_wp2
          go_meet
          exact⟨m,hb.symm⟩
       case rest=>
        obtain⟨m,cS⟩:=hcut;have ih:=Z cS;have y0:wc.cell? (B,0)=some (.slice ac bi hi):=(by rw[cS];exact a5);have ge:wc.cell? (B,1)=some (.slice c9 W cb):=(by rw[cS];exact cm);clear cS a5 cm;go_wp2
        go_quiet (fail)
        go_wp2
        go_ret3;have dN:Ch ag w4 (wc.drewN nq):=(by rw[ih];exact ay);refine⟨_,_,rfl,?_,?_,?_⟩
        ·have a0:=ak ii dN (fun _ _ e=>e)
         rw[c5,R];exact a0
        ·have a0:=ak gs dN (fun _ _ e=>e)
         rw[es,R];exact a0
        ·exact(Ch.bT (by rw[R];exact i8)).trans dN
      ·cases Y
 ·cases h
