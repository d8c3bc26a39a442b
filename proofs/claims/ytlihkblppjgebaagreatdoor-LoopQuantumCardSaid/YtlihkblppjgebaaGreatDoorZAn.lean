import Derived.Laws.MakeOwn
import Derived.RegionTactic
import Derived.ChangeAlike
import Derived.Test.YtlihkblppjgebaaGreatDoorZAl
set_option linter.all false
set_option maxRecDepth 100000
set_option maxHeartbeats 0
namespace Go.Proofs.YtlihkblppjgebaaGreatDoor
open Go.RowKit Go.Proofs.Tryz
variable{i:Nat}{w:World}{χ:Nat->a'}{L:cU}{Y:Var}{C:KC}{K:KS}
theorem gM{x:aC}(a:i<K.wk.length):(K.bj i x).W i=x:=KS.Cs (by show(K.wk.set i x)[i]?=_;rw[List.getElem?_set_self a])
theorem pK(i:Nat)(x y:aC):(K.bj i x).bj i y=K.bj i y:=by unfold KS.bj;simp
theorem Em(c:cJ)(f:cP)(a:i<K.wk.length):∃g,(K.cI c f).W i={K.W i with f:=g}:=by
 cases c with
 |own j=>
  show∃g,(K.bj j _).W i=_
  by_cases e:j=i
  ·subst e;exact⟨f,gM a⟩
  ·refine⟨(K.W i).f,?_⟩
   rw[KS.Cs (x:=K.W i) (by show(K.wk.set j _)[i]?=_;rw[List.getElem?_set_ne e];exact KS.ha a)]
 |ai id k=>exact⟨(K.W i).f,rfl⟩
theorem xJ(a:i<K.wk.length)(c:cJ)(f:cP):((K.cI c f).W i).hand=(K.W i).hand:=by
 obtain⟨g,h⟩:=Em c f a;rw[h]
theorem ae.FY(h:ae w χ L Y C K)(a:i<K.wk.length)(s d l:Int):∃aY Y',dD χ L Y C K (K.bj i {K.W i with slot:=s,hand:=d,left:=l}) w aY Y' (((w.setCell (L.wb,i*38) (.int .u64 s)).setCell (L.wb,i*38+1) (.int .u64 d)).setCell (L.wb,i*38+3) (.int .i64 l)):=by
 obtain⟨dZ,Y1,b⟩:=h.wj a s;obtain⟨m,k,c⟩:=b.at_.jT (i:=i) (by rw[bG];exact a) d;obtain⟨j,f,g⟩:=c.at_.wm (i:=i) (by rw[bG,bG];exact a) l;refine⟨j,f,?_⟩;have e:=(b.trans (Gr.of_eq rfl) c).trans (Gr.of_eq rfl) g;rw[pK,pK,gM (by rw[bG];exact a),gM a]at e;exact e
theorem Ad(i:Nat)(M:i<K.wk.length)(c:cJ)(b o:Nat)(J:aj K c)(N:aR L Y c b o)(O:∀k,k<32->aK ((K.F c).r k))(a d f j g l:Int)(I:0<=a/\a<32)(h:ae w χ L Y C K):
 Calls prog 166 #[(L.mb,0),(L.wb,i*38),(b,o),.agg #[.int .i64 30,a,d,f,.int .u64 j,g,l]] w (dk (.tuple #[]) χ L Y C K (b0 K i c ⟨30,a,d,f,j,g,l⟩) w):=by
 have Q:=Z h;have t:=Z J;have v:=Z N;have F:=Z M;obtain⟨w0,P,R,x,m⟩:=h.pre 30 a d f j g l;obtain⟨V,W⟩:=I;obtain⟨s,B⟩:∃y,(K.F c).r a.toNat=y:=⟨_,rfl⟩;have p:=Z B;have n:=Z (O a.toNat (by omega));rw[B]at n;obtain⟨T,U⟩:=n.out;obtain⟨t0,t1,t2,t3,t4,t5,t6⟩:=m.1.c7;have r:=x.at_.aA t v a.toNat (by omega);rw[p]at r;have E:Hid (b0 K i c ⟨30,a,d,f,j,g,l⟩=eK K i s):=Z (by unfold b0;dsimp only;rw[if_pos rfl,p]);go_in
 go_wp2
 try rw[P]
 go_quiet (fail)
 obtain⟨w1,A⟩:=nm (w0.drewN nq);have u:Hid (Ch ag w0 w1):=Z (by rw[<-A];exact ay);rw[A];have q:=Z (x.af u);have z:Hid (aj K c/\aR L Y c b o):=Z ⟨t,v⟩;have D:=Z ((Nx.af u).row m.1 m.2);obtain⟨t0,t1,t2,t3,t4,t5,t6⟩:=D.1.c7;have r:=q.at_.aA z.1 z.2 a.toNat (by omega);rw[show((K:KS).F c).r a.toNat=s from p.out]at r;go_wp2_with fail
 refine(pJ i F s n q.at_).mono ?_;rintro e w2 ⟨rfl,X,S,H⟩;have G:=Z (q.trans (Gr.refl _) H);go_wp2
 go_end0
 rw[E];exact⟨rfl,_,_,G⟩
theorem Ae(i:Nat)(V:i<K.wk.length)(c:cJ)(b o:Nat)(U:aj K c)(W:aR L Y c b o)(X:∀k,k<32->aK ((K.F c).r k))(a p q s r t:Int)(T:0<=a/\a<32)(J:aK (K.W i).hand)(h:ae w χ L Y C K):
 Calls prog 166 #[(L.mb,0),(L.wb,i*38),(b,o),.agg #[.int .i64 33,a,p,q,.int .u64 s,r,t]] w (dk (.tuple #[]) χ L Y C K (b0 K i c ⟨33,a,p,q,s,r,t⟩) w):=by
 have a2:=Z h;have z:=Z U;have A:=Z W;have u:=Z V;obtain⟨w0,M,a3,D,f⟩:=h.pre 33 a p q s r t;obtain⟨al,am⟩:=T;obtain⟨O,N⟩:∃y,(K.F c).r a.toNat=y:=⟨_,rfl⟩;have B:=Z N;have H:=Z (X a.toNat (by omega));rw[N]at H;obtain⟨ab,ad⟩:=H.out;obtain⟨t0,t1,t2,t3,t4,t5,t6⟩:=f.1.c7;have n:=D.at_.aA z A a.toNat (by omega);rw[B]at n;obtain⟨hd,I⟩:=nm ((K.W i).hand);have j:=Z I;rw[I]at J;have P:=Z J;by_cases F:hd=0
 ·subst F
  have E:Hid (b0 K i c ⟨33,a,p,q,s,r,t⟩=K):=Z (by unfold b0;dsimp only;rw[if_neg (by decide),if_pos rfl,if_neg (by rw[j.out];simp)]);go_in
  go_wp2
  try rw[M]
  go_quiet (fail)
  obtain⟨w1,m⟩:=nm (w0.drewN nq);have g:Hid (Ch ag w0 w1):=Z (by rw[<-m];exact ay);rw[m];have d:=Z (D.af g);have l:Hid (aj K c/\aR L Y c b o):=Z ⟨z,A⟩;have x:=Z ((Nx.af g).row f.1 f.2);obtain⟨t0,t1,t2,t3,t4,t5,t6⟩:=x.1.c7;have n:=d.at_.aA l.1 l.2 a.toNat (by omega);rw[show((K:KS).F c).r a.toNat=O from B.out]at n;have G:=d.at_.fD u;rw[j]at G;go_wp2
  go_end0
  rw[E];exact⟨rfl,_,_,d⟩
 ·have hb:(hd==0)=false:=by rw[beq_eq_false_iff_ne];exact F
  have E:Hid (b0 K i c ⟨33,a,p,q,s,r,t⟩=(cr K hd).bj i {(cr K hd).W i with hand:=0}):=Z (by unfold b0;dsimp only;rw[if_neg (by decide),if_pos rfl,if_pos (by rw[j.out];exact F),j]);go_in
  go_wp2
  try rw[M]
  go_quiet (fail)
  obtain⟨w1,m⟩:=nm (w0.drewN nq);have g:Hid (Ch ag w0 w1):=Z (by rw[<-m];exact ay);rw[m];have d:=Z (D.af g);have l:Hid (aj K c/\aR L Y c b o):=Z ⟨z,A⟩;have x:=Z ((Nx.af g).row f.1 f.2);obtain⟨t0,t1,t2,t3,t4,t5,t6⟩:=x.1.c7;have n:=d.at_.aA l.1 l.2 a.toNat (by omega);rw[show((K:KS).F c).r a.toNat=O from B.out]at n;have G:=d.at_.fD u;rw[j]at G;go_wp2_with fail
  refine(fh hd P d.at_).mono ?_;rintro e w2 ⟨rfl,ap,a4,R⟩;have v:=Z (d.trans (Gr.refl _) R);have a9:=v.at_.fD (i:=i) (by exact u);have a5:=v.at_.uq (i*38+1);have S:=Z (v.at_.jT (i:=i) (by exact u) 0);go_wp2
  go_end0
  rw[E];obtain⟨a1,Q,a0⟩:=S.out;exact⟨rfl,a1,Q,v.trans (Gr.of_eq rfl) a0⟩
theorem Af(i:Nat)(bw:i<K.wk.length)(c:cJ)(b o:Nat)(bi:aj K c)(bx:aR L Y c b o)(bZ:∀k,k<32->aK ((K.F c).r k))(a F G I H J:Int)(bd:0<=a/\a<32)(h:ae w χ L Y C K):
 Calls prog 166 #[(L.mb,0),(L.wb,i*38),(b,o),.agg #[.int .i64 34,a,F,G,.int .u64 I,H,J]] w (dk (.tuple #[]) χ L Y C K (b0 K i c ⟨34,a,F,G,I,H,J⟩) w):=by
 have c6:=Z h;have j:=Z bi;have n:=Z bx;have m:=Z bw;obtain⟨w0,a5,c8,R,t⟩:=h.pre 34 a F G I H J;obtain⟨cs,ct⟩:=bd;obtain⟨ad,ab⟩:∃y,(K.F c).r a.toNat=y:=⟨_,rfl⟩;have Q:=Z ab;have a1:=Z (bZ a.toNat (by omega));rw[ab]at a1;obtain⟨cm,cq⟩:=a1.out;obtain⟨t0,t1,t2,t3,t4,t5,t6⟩:=t.1.c7;have D:=R.at_.aA j n a.toNat (by omega);rw[Q]at D;obtain⟨hd,bv⟩:=nm ((K.W i).hand);have al:=Z bv;have O:Hid (((K.ax c a.toNat 0).W i).hand=hd):=Z ((xJ m c _).trans al);have v:Hid ((K.ax c a.toNat 0).wk.length=K.wk.length):=Z (br _ _);have M:Hid (Gr K (K.ax c a.toNat 0)):=Z (bA j _);by_cases U:hd=0
 ·subst U
  obtain⟨p,bX⟩:=nm (gS K.ring);have X:Hid (gS (K.ax c a.toNat 0).ring=p):=Z (by rw[<-bX];congr 1;exact xI _ _);obtain⟨pv,ch,c1⟩:=p;obtain⟨l,T⟩:=mn (({K.ax c a.toNat 0 with ring:=c1}:KS));have W:=Z T;have N:Hid (Gr K l):=Z (by rw[T];exact M.trans (Gr.of_eq rfl));have x:Hid (l.wk.length=K.wk.length):=Z (by rw[T];exact v);have a3:Hid ((l.bj i {l.W i with hand:=pv}).wk.length=K.wk.length):=Z ((bG _ _).trans x);have a2:Hid (((l.bj i {l.W i with hand:=pv}).W i).hand=pv):=Z (by rw[gM (by rw[x];exact m)]);have E:Hid (b0 K i c ⟨34,a,F,G,I,H,J⟩=(l.bj i {l.W i with hand:=pv}).ax c a.toNat pv):=Z (by unfold b0;dsimp only;rw[if_neg (by decide),if_neg (by decide),if_pos rfl,if_pos O.out,X,<-W,a2]);go_in
  go_wp2
  try rw[a5]
  go_quiet (fail)
  obtain⟨w1,A⟩:=nm (w0.drewN nq);have u:Hid (Ch ag w0 w1):=Z (by rw[<-A];exact ay);rw[A];have f:=Z (R.af u);have d:Hid (aj K c/\aR L Y c b o):=Z ⟨j,n⟩;have P:=Z ((Nx.af u).row t.1 t.2);obtain⟨t0,t1,t2,t3,t4,t5,t6⟩:=P.1.c7;have D:=f.at_.aA d.1 d.2 a.toNat (by omega);rw[show((K:KS).F c).r a.toNat=ad from Q.out]at D;have aP:=f.at_.hy d.1 d.2 (o+1+a.toNat);obtain⟨c4,ap,z⟩:=f.at_.a7 d.1 d.2 a.toNat (by omega) 0;obtain⟨w2,B⟩:=nm (w1.setCell (b,o+1+a.toNat) (.int .u64 0));rw[B]at z;have g:=Z (f.trans (Gr.refl _) z);have am:=Z (g.cur j n M v);have V:=g.at_.fD (i:=i) (by rw[v];exact m);rw[O]at V;have k2:=g.at_.nX;have a0:=Z (xC g.at_);rw[X]at a0;go_wp2_with fail
  try rw[B]
  refine a0.mono ?_;rintro e c3 ⟨rfl,cA,ca,S⟩;try dsimp only at S
  rw[<-W]at S;have q:=Z (g.trans M S);have c9:=Z (q.cur j n N x);have c7:=Z (q.nx.trans (Nx.refl _ _));have cl:=q.at_.fD (i:=i) (by rw[x];exact m);have cd:=q.at_.uq (i*38+1);obtain⟨cC,cb,a4⟩:=q.at_.jT (i:=i) (by rw[x];exact m) pv;obtain⟨w4,a9⟩:=nm (c3.setCell (L.wb,i*38+1) (.int .u64 pv));rw[a9]at a4;have r:=Z (q.trans N a4);have s:=Z (r.cur j n (N.trans (Gr.of_eq rfl)) a3);have c2:=r.at_.fD (i:=i) (by rw[a3];exact m);rw[a2]at c2;have ci:=r.at_.aA s.1 s.2 a.toNat (by omega);have ce:=r.at_.hy s.1 s.2 (o+1+a.toNat);have bb:=Z (r.at_.a7 s.1 s.2 a.toNat (by omega) pv);go_wp2
  try rw[a9]
  go_end0
  rw[E];obtain⟨c5,av,c0⟩:=bb.out;exact⟨rfl,c5,av,r.trans (N.trans (Gr.of_eq rfl)) c0⟩
 ·have hb:(hd==0)=false:=by rw[beq_eq_false_iff_ne];exact U
  have E:Hid (b0 K i c ⟨34,a,F,G,I,H,J⟩=K.ax c a.toNat 0):=Z (by unfold b0;dsimp only;rw[if_neg (by decide),if_neg (by decide),if_pos rfl,if_neg (by rw[O.out];exact U)]);go_in
  go_wp2
  try rw[a5]
  go_quiet (fail)
  obtain⟨w1,A⟩:=nm (w0.drewN nq);have u:Hid (Ch ag w0 w1):=Z (by rw[<-A];exact ay);rw[A];have f:=Z (R.af u);have d:Hid (aj K c/\aR L Y c b o):=Z ⟨j,n⟩;have P:=Z ((Nx.af u).row t.1 t.2);obtain⟨t0,t1,t2,t3,t4,t5,t6⟩:=P.1.c7;have D:=f.at_.aA d.1 d.2 a.toNat (by omega);rw[show((K:KS).F c).r a.toNat=ad from Q.out]at D;have aP:=f.at_.hy d.1 d.2 (o+1+a.toNat);obtain⟨c4,ap,z⟩:=f.at_.a7 d.1 d.2 a.toNat (by omega) 0;obtain⟨w2,B⟩:=nm (w1.setCell (b,o+1+a.toNat) (.int .u64 0));rw[B]at z;have g:=Z (f.trans (Gr.refl _) z);have am:=Z (g.cur j n M v);have V:=g.at_.fD (i:=i) (by rw[v];exact m);rw[O]at V;go_wp2
  try rw[B]
  go_end0
  rw[E];exact⟨rfl,_,_,g⟩
theorem Ag(i:Nat)(bb:i<K.wk.length)(c:cJ)(b o:Nat)(aP:aj K c)(bd:aR L Y c b o)(bi:∀k,k<32->aK ((K.F c).r k))(a B F H G I:Int)(av:0<=a/\a<32)(a3:aK (K.W i).hand)(h:ae w χ L Y C K):
 Calls prog 166 #[(L.mb,0),(L.wb,i*38),(b,o),.agg #[.int .i64 35,a,B,F,.int .u64 H,G,I]] w (dk (.tuple #[]) χ L Y C K (b0 K i c ⟨35,a,B,F,H,G,I⟩) w):=by
 have bX:=Z h;have J:=Z aP;have M:=Z bd;have f:=Z bb;obtain⟨w0,U,bZ,O,p⟩:=h.pre 35 a B F H G I;obtain⟨c7,c8⟩:=av;obtain⟨V,a5⟩:∃y,(K.F c).r a.toNat=y:=⟨_,rfl⟩;have q:=Z a5;have a0:=Z (bi a.toNat (by omega));rw[a5]at a0;obtain⟨c5,c6⟩:=a0.out;obtain⟨t0,t1,t2,t3,t4,t5,t6⟩:=p.1.c7;have r:=O.at_.aA J M a.toNat (by omega);rw[q]at r;obtain⟨hd,a2⟩:=nm ((K.W i).hand);have l:=Z a2;obtain⟨a9,bv⟩:=nm ((K.W i).slot);have t:=Z bv;rw[a2]at a3;have ad:=Z a3;by_cases R:hd=0
 ·subst R
  have E:Hid (b0 K i c ⟨35,a,B,F,H,G,I⟩=K):=Z (by unfold b0;dsimp only;rw[if_neg (by decide),if_neg (by decide),if_neg (by decide),if_pos rfl,if_neg (by rw[q.out,l,t];simp)]);go_in
  go_wp2
  try rw[U]
  go_quiet (fail)
  obtain⟨w1,n⟩:=nm (w0.drewN nq);have j:Hid (Ch ag w0 w1):=Z (by rw[<-n];exact ay);rw[n];have d:=Z (O.af j);have m:Hid (aj K c/\aR L Y c b o):=Z ⟨J,M⟩;have x:=Z ((Nx.af j).row p.1 p.2);obtain⟨t0,t1,t2,t3,t4,t5,t6⟩:=x.1.c7;have r:=d.at_.aA m.1 m.2 a.toNat (by omega);rw[show((K:KS).F c).r a.toNat=V from q.out]at r;have s:=d.at_.fD f;rw[l]at s;have u:=d.at_.mK f;rw[t]at u;go_wp2
  go_quiet (fail)
  generalize A:w1.drewN _=w2;have z:=Z (Ch.dN (D:=ag) A);have g:=Z (d.af z);go_wp2
  go_end0
  rw[E];exact⟨rfl,_,_,g⟩
 ·have hb:(hd==0)=false:=by rw[beq_eq_false_iff_ne];exact R
  by_cases S:V=hd
  ·by_cases P:a9=0
   ·obtain rfl:=S.symm
    subst P;have hb:(hd==0)=false:=(by rw[beq_eq_false_iff_ne];exact R);obtain⟨N,T⟩:=mn (K.bj i {K.W i with slot:=hd,hand:=0,left:=24});have W:=Z T;have ab:Hid (Gr K N):=Z (by rw[T];exact Gr.of_eq rfl);have al:Hid (N.wk.length=K.wk.length):=Z (by rw[T];exact bG _ _);have X:Hid ((N.W i).slot=hd):=Z (by rw[T,gM f]);have E:Hid (b0 K i c ⟨35,a,B,F,H,G,I⟩={N with table:=(j4 N.table hd 2).2}):=Z (by unfold b0;dsimp only;rw[if_neg (by decide),if_neg (by decide),if_neg (by decide),if_pos rfl,if_pos ⟨by rw[l.out];exact R,by rw[q,l],t⟩,l,<-W,X]);go_in
    go_wp2
    try rw[U]
    go_quiet (fail)
    obtain⟨w1,n⟩:=nm (w0.drewN nq);have j:Hid (Ch ag w0 w1):=Z (by rw[<-n];exact ay);rw[n];have d:=Z (O.af j);have m:Hid (aj K c/\aR L Y c b o):=Z ⟨J,M⟩;have x:=Z ((Nx.af j).row p.1 p.2);obtain⟨t0,t1,t2,t3,t4,t5,t6⟩:=x.1.c7;have r:=d.at_.aA m.1 m.2 a.toNat (by omega);rw[show((K:KS).F c).r a.toNat=hd from q.out]at r;have s:=d.at_.fD f;rw[l]at s;have u:=d.at_.mK f;rw[t]at u;go_wp2
    go_quiet (fail)
    generalize A:w1.drewN _=w2;have z:=Z (Ch.dN (D:=ag) A);have g:=Z (d.af z);have s:=g.at_.fD f;rw[l]at s;have u:=g.at_.mK f;have c4:=g.at_.Dy f;have f0:=g.at_.uq (i*38);have f1:=g.at_.uq (i*38+1);have f3:=g.at_.uq (i*38+3);obtain⟨bx,a4⟩:=nm (((w2.setCell (L.wb,i*38) (.int .u64 hd)).setCell (L.wb,i*38+1) (.int .u64 0)).setCell (L.wb,i*38+3) (.int .i64 24));have a1:=g.at_.FY f hd 0 24;rw[a4,<-W]at a1;obtain⟨c9,c0,P⟩:=a1;have Q:=Z (g.trans (Gr.refl _) P);have k3:=Q.at_.ee;have bw:=Q.at_.mK (i:=i) (by rw[al];exact f);rw[X]at bw;go_wp2
    try rw[a4]
    go_still_tail 8,(by kernel_rfl)
    change wpList _ _ _ _ _ bx.drew;go_wp2_with fail
    refine(qI hd 2 ad Q.at_.drew).mono ?_;rintro e w4 ⟨⟨v,rfl,_⟩,ca,c1,ap⟩;have am:=Z ((Q.af ay).trans ab ap);go_wp2
    go_end0
    rw[E];exact⟨rfl,_,_,am⟩
   ·obtain rfl:=S.symm
    have c3:(a9==0)=false:=(by rw[beq_eq_false_iff_ne];exact P);have E:Hid (b0 K i c ⟨35,a,B,F,H,G,I⟩=K):=Z (by unfold b0;dsimp only;rw[if_neg (by decide),if_neg (by decide),if_neg (by decide),if_pos rfl,if_neg (by rw[q.out,l,t];exact fun e=>P e.2.2)]);go_in
    go_wp2
    try rw[U]
    go_quiet (fail)
    obtain⟨w1,n⟩:=nm (w0.drewN nq);have j:Hid (Ch ag w0 w1):=Z (by rw[<-n];exact ay);rw[n];have d:=Z (O.af j);have m:Hid (aj K c/\aR L Y c b o):=Z ⟨J,M⟩;have x:=Z ((Nx.af j).row p.1 p.2);obtain⟨t0,t1,t2,t3,t4,t5,t6⟩:=x.1.c7;have r:=d.at_.aA m.1 m.2 a.toNat (by omega);rw[show((K:KS).F c).r a.toNat=hd from q.out]at r;have s:=d.at_.fD f;rw[l]at s;have u:=d.at_.mK f;rw[t]at u;go_wp2
    go_quiet (fail)
    generalize A:w1.drewN _=w2;have z:=Z (Ch.dN (D:=ag) A);have g:=Z (d.af z);go_wp2
    go_end0
    rw[E];exact⟨rfl,_,_,g⟩
  ·have c2:(V==hd)=false:=by rw[beq_eq_false_iff_ne];exact S
   have E:Hid (b0 K i c ⟨35,a,B,F,H,G,I⟩=K):=Z (by unfold b0;dsimp only;rw[if_neg (by decide),if_neg (by decide),if_neg (by decide),if_pos rfl,if_neg (by rw[q.out,l,t];exact fun e=>S e.2.1)]);go_in
   go_wp2
   try rw[U]
   go_quiet (fail)
   obtain⟨w1,n⟩:=nm (w0.drewN nq);have j:Hid (Ch ag w0 w1):=Z (by rw[<-n];exact ay);rw[n];have d:=Z (O.af j);have m:Hid (aj K c/\aR L Y c b o):=Z ⟨J,M⟩;have x:=Z ((Nx.af j).row p.1 p.2);obtain⟨t0,t1,t2,t3,t4,t5,t6⟩:=x.1.c7;have r:=d.at_.aA m.1 m.2 a.toNat (by omega);rw[show((K:KS).F c).r a.toNat=V from q.out]at r;have s:=d.at_.fD f;rw[l]at s;have u:=d.at_.mK f;rw[t]at u;go_wp2
   go_quiet (fail)
   generalize A:w1.drewN _=w2;have z:=Z (Ch.dN (D:=ag) A);have g:=Z (d.af z);go_wp2
   go_end0
   rw[E];exact⟨rfl,_,_,g⟩
variable{c:cJ}{b o:Nat}
open Classical in
theorem Ch.cut{D E:Nat->Prop}{w w':World}(h:Ch (D8 E D) w w'):∃w1,Ch E w w1/\Ch D w1 w'/\Ch D w' w1:=by
 refine⟨{w' with heap:=w'.heap.mapIdx fun k o=>if D k then(w.heap[k]?).getD o else o},⟨h.os,h.tape,h.output,?_,?_⟩,⟨rfl,rfl,rfl,?_,?_⟩,⟨rfl,rfl,rfl,?_,?_⟩⟩
 ·rw[Array.size_mapIdx];exact h.size
 ·intro k a d
  show(w'.heap.mapIdx _)[k]?=_
  rw[Array.getElem?_mapIdx];have f:k<w'.heap.size:=Nat.lt_of_lt_of_le a h.size;by_cases hd:D k
  ·rw[Array.getElem?_eq_getElem f]
   simp[hd,Array.getElem?_eq_getElem a]
  ·rw[h.same k a (fun e=>e.elim d hd),Array.getElem?_eq_getElem a]
   simp[hd]
 ·rw[Array.size_mapIdx];exact Nat.le_refl _
 ·intro k a hd
  show _=(w'.heap.mapIdx _)[k]?
  rw[Array.getElem?_mapIdx];cases w'.heap[k]?<;>simp[hd]
 ·rw[Array.size_mapIdx];exact Nat.le_refl _
 ·intro k a hd
  show(w'.heap.mapIdx _)[k]?=_
  rw[Array.getElem?_mapIdx];cases w'.heap[k]?<;>simp[hd]
variable{w':World}
theorem ae.FZ(h:ae w χ L Y C K)(a:aj K c)(e:aR L Y c b o):∃pre post v,aJ w b o (qL c) pre post v (K.F c)/\(χ b=.wk∨∃id k,χ b=.fr id k)/\∀g,v.ownBlock=some g->χ g=.back:=by
 cases c with
 |own i=>
  obtain⟨rfl,rfl⟩:=e;obtain⟨pre,post,j,_⟩:=h.ur a;exact⟨_,_,_,j,Or.inl (h.wk (by simp)).k,fun g l=>(h.wk (by simp)).kb i _ (KS.ha a) g l⟩
 |ai id k=>
  obtain⟨rfl,rfl⟩:=e;obtain⟨t,f,d⟩:=a;have hF:=h.fr id t k _ f (List.getElem?_eq_getElem d) (by simp);refine⟨[],(t.l[k]).post,Y.bv id k,?_,Or.inr ⟨id,k,hF.kf⟩,hF.kb⟩;rw[show K.F (.ai id k)=(t.l[k]).f from by
   show((K.T id).l.getD k default).f=_
   rw[KS.dm f,List.getD_eq_getElem?_getD,List.getElem?_eq_getElem d];rfl]
  exact hF.is
theorem xK(K:KS)(c:cJ)(f:cP)(S:aI):({K with mem:=S}:KS).cI c f={K.cI c f with mem:=S}:=by cases c<;>rfl
theorem ae.Cx(h:ae w χ L Y C K)(l:aj K c)(D:aR L Y c b o){pre post:List Value}{v v':Value}{f:cP}{S:aI}(u:aJ w b o (qL c) pre post v (K.F c))(m:χ b=.wk∨∃id k,χ b=.fr id k)(E:∀g,v.ownBlock=some g->χ g=.back)
 (x:aJ w' b o (qL c) pre post v' f) (n:aS w v v') (B:aO w' L.m L.c L.d S) (t:Ch (D8 (aH b) (cK L.m L.c)) w w'):∃aY Y',dD χ L Y C K (({K with mem:=S}:KS).cI c f) w aY Y' w':=by
 obtain⟨w1,q,r,s⟩:=t.cut;have a:=h.mem (by simp);have hb:¬cK L.m L.c b:=fun e=>by
  rcases e with rfl|rfl
  ·rcases m with e|⟨_,_,e⟩<;>rw[a.k1]at e<;>cases e
  ·rcases m with e|⟨_,_,e⟩<;>rw[a.k2]at e<;>cases e
 have y:aJ w1 b o (qL c) pre post v' f:=x.ch s hb (fun g z e=>by
  rcases n g z with j|j
  ·have d:=E g j
   rcases e with rfl|rfl
   ·rw[a.k1]at d;cases d
   ·rw[a.k2]at d;cases d
  ·rcases e with rfl|rfl
   ·have:=a.is.head.lt;omega
   ·have:=a.is.cells.lt;omega)
 obtain⟨dZ,Y1,p⟩:=h.z1 l D u y n q;have F:=p.at_.mH B r (fun i A=>ff A);rw[xK];exact⟨dZ,Y1,p.trans (bA l f) F⟩
section
variable{b:Nat}
section
variable{w w1 w2:World}{χ aY:Nat->a'}{L:cU}{Y Y':Var}{C:KC}{K K':KS}
theorem ae.plain(h:ae w1 χ L Y C K)(hb:χ b=.no)(c:Ch (aH b) w1 w2):ae w2 χ L Y C K:=by
 have s:eT [.no] χ χ (aH b) w1 w2:=eT.one c (fun i e=>by rw[show i=b from e];simp[hb]) h.small;have k:=h.step s (by simp);exact {head:=fun _=>k.head (by simp),mem:=fun _=>k.mem (by simp),al:=fun _=>k.al (by simp),b2:=fun _=>k.b2 (by simp),ring:=fun _=>k.ring (by simp),q:=fun _=>k.q (by simp),cZ:=fun _=>k.cZ (by simp),obj:=fun _=>k.obj (by simp),wk:=fun _=>k.wk (by simp),tm:=fun _=>k.tm (by simp),th:=fun i t h _=>k.th i t h (by simp),tl:=fun i t h _=>k.tl i t h (by simp),fr:=fun i t j f a d _=>k.fr i t j f a d (by simp),out:=fun _=>k.out (by simp),code:=fun _=>k.code (by simp),small:=k.small}
theorem dD.plain(m:dD χ L Y C K K' w aY Y' w1)(hb:aY b=.no)(f:w.heap.size<=b)(c:Ch (aH b) w1 w2):dD χ L Y C K K' w aY Y' w2:=
 ⟨m.at_.plain hb c,⟨⟨c.os.trans m.nx.ch.os,c.tape.trans m.nx.ch.tape,c.output.trans m.nx.ch.output,Nat.le_trans m.nx.ch.size c.size,fun k a d=>(c.same k (Nat.lt_of_lt_of_le a m.nx.ch.size) (fun e=>by rw[show k=b from e]at a;omega)).trans (m.nx.ch.same k a d)⟩,m.nx.same⟩,m.yk⟩
end
end
variable{l:List be}{pc:Int}
theorem oc(a:0<=pc)(b:pc<l.length):l[pc.toNat]?=some (fB l pc):=by
 unfold fB;rw[if_pos ⟨a,b⟩,List.getD_eq_getElem?_getD,List.getElem?_eq_getElem (by omega)];rfl
theorem lX(h:¬(0<=pc/\pc<l.length)):fB l pc=⟨0,0,0,0,0,0,0⟩:=by unfold fB;rw[if_neg h]
theorem F0(c:cJ)(b o:Nat)(n:aj K c)(s:aR L Y c b o)(H:∀k,k<32->aK ((K.F c).r k))(A:(K.F c).back.length<=8)(J:∀x∈C.dH,aK x.v)(M:C.dH.length<=2048)(h:ae w χ L Y C K):
 Calls prog 137 #[(b,o),.slice L.lc C.dH.length L.Dt,.iface 103 (.pointer (some (L.m,0)))] w
  (zz (cB C K c).2.1 (fun w'=>∃aY Y',dD χ L Y C K (cB C K c).2.2 w aY Y' w')):=by
 obtain⟨pre,post,v,q,r,y⟩:=h.FZ n s;have a:=h.mem (by simp);have p:=h.code (by simp);have m:b≠L.m/\b≠L.c/\b≠L.d:=by
  refine⟨?_,?_,?_⟩<;>intro e<;>subst e<;>rcases r with e|⟨_,_,e⟩
  ·rw[a.k1]at e;cases e
  ·rw[a.k1]at e;cases e
  ·rw[a.k2]at e;cases e
  ·rw[a.k2]at e;cases e
  ·rw[a.k3]at e;cases e
  ·rw[a.k3]at e;cases e
 have I:=rQ (zA L.m L.c L.d) K.mem (Z trivial) b o (qL c) (kY c) pre post v (K.F c) C.dH L.lc C.dH.length L.Dt rfl p.m4 (by omega) A H J w q
  (fun t=>by obtain⟨g,f,d,_⟩:=p.cg (by intro e;rw[e]at t;exact absurd t (by simp));exact⟨g,0,f,fun j u E=>by rw[Nat.zero_add];exact d.cell j u E⟩) a.is
  (fun S w w' O f1 P f2 f _ _ _ d=>aO.ch f d (fun e=>m.1 (Eq.symm e)) (fun e=>m.2.1 (Eq.symm e)) (fun e=>m.2.2 (Eq.symm e)))
  (fun e=>by rcases e with e|e;exact m.1 e;exact m.2.1 e)
  (fun i N e=>by rcases e with rfl|rfl;have:=a.is.head.lt;omega;have:=a.is.cells.lt;omega)
  (fun g D e=>by
   have d:=y g D;rcases e with rfl|rfl
   ·rw[a.k1]at d;cases d
   ·rw[a.k2]at d;cases d)
 refine I.mono ?_;rintro e w' ⟨f,⟨v',B,F⟩,G,z⟩;exact⟨f,h.Cx n s q r y B F G z⟩
theorem xL(x:be):aL x=.agg #[x.op,x.a,x.b,x.c,.int .u64 x.v,x.m,x.wh]:=rfl
theorem pL(c:cJ)(b o:Nat)(c4:aj K c)(c5:aR L Y c b o)(dp:∀k,k<32->aK ((K.F c).r k))(cQ:(K.F c).back.length<=8)(dN:∀x∈C.dH,aK x.v)(cl:C.dH.length<=2048)(h:ae w χ L Y C K):
 Calls prog 132 #[(L.mb,0),(b,o)] w (dk (.tuple #[aL (cB C K c).1,.int .i64 (cB C K c).2.1]) χ L Y C K (cB C K c).2.2 w):=by
 have A:=Z h;have I:=Z c4;have M:=Z c5;have P:=Z (fun w (h:ae w χ L Y C K)=>F0 c b o c4 c5 dp cQ dN cl h);have ci:=h.code (by simp);have fd:=Z ci;obtain⟨pc,c6⟩:=nm ((K.F c).pc);have O:=Z c6;obtain⟨N,c1⟩:=nm C.dH.length;have p:=Z c1;have g4:N<=2048:=by rw[<-c1];exact cl
 have e4:=h.uu c4 c5;rw[c6]at e4;have k0:=h.c0;rw[c1]at k0;have R:=h.cO;have ct:(cB C K c).1=fB C.dH pc:=by unfold cB;rw[c6]
 obtain⟨s,dC⟩:=nm (cB C K c);rw[dC]at P ct⊢;obtain⟨x,n,K'⟩:=s;rw[c1]at P;have c3:=Z ct;have cW:C.dH≠[]->∃g,L.lc=some ⟨g,0,none⟩/\fN w g C.dH:=fun di=>by obtain⟨g,a9,cL,_⟩:=ci.cg di;exact⟨g,a9,cL⟩
 have cA:=Z cW;by_cases cF:pc<0
 ·have Q:¬0<=pc:=by omega
  have cq:decide (0<=pc)=false:=by simpa using cF
  have c8:x=⟨0,0,0,0,0,0,0⟩:=by have:=c3.out;dsimp only at this;rw[this];exact lX (fun e=>by have a5:=e.2;rw[p]at a5;omega)
  subst c8;obtain⟨w1,j⟩:=nm ((w.alloc (.cells #[.int .i64 0,.int .i64 0,.int .i64 0,.int .i64 0,.int .u64 0,.int .i64 0,.int .i64 0] 184)).alloc (.cells #[.int .i64 0,.int .i64 0,.int .i64 0,.int .i64 0,.int .u64 0,.int .i64 0,.int .i64 0] 184));have J:Hid (Ch ag w w1):=Z (by rw[<-j];exact ay);have r:=Z (A.gU J);have S:Hid (Row w1 w.heap.size 184 [.int .i64 0,.int .i64 0,.int .i64 0,.int .i64 0,.int .u64 0,.int .i64 0,.int .i64 0]):=Z (by rw[<-j];exact(Row.new w _ _).alloc _);have T:Hid (Row w1 (w.heap.size+1) 184 [.int .i64 0,.int .i64 0,.int .i64 0,.int .i64 0,.int .u64 0,.int .i64 0,.int .i64 0]):=Z (by
   rw[<-j];have:=Row.new (w.alloc (.cells #[.int .i64 0,.int .i64 0,.int .i64 0,.int .i64 0,.int .u64 0,.int .i64 0,.int .i64 0] 184)) #[.int .i64 0,.int .i64 0,.int .i64 0,.int .i64 0,.int .u64 0,.int .i64 0,.int .i64 0] 184
   rwa [World.size_alloc]at this)
  have p1:=r.at_.uu I M;rw[O]at p1;have k1:=r.at_.c0;rw[p]at k1;go_in
  go_upto_region 2 with fail
  try rw[j]
  go_quiet (fail)
  obtain⟨w2,B⟩:=nm (w1.drewN nq);have q:=Z (Ch.dN (D:=ag) B);rw[B];have i:=Z (r.af q);have F:=Z (S.ch q id);have f:=Z (T.ch q id);have p1:=i.at_.uu I M;rw[O]at p1;have k1:=i.at_.c0;rw[p]at k1;have R:=i.at_.cO;go_wp2
  go_region_held3 (fun w'=>w'.cell? (L.mb,0)=some (.slice L.lc N L.Dt)/\w'.cell? (L.mb,1007)=some (.pointer (some (L.m,0)))) (go_keep) ((go_at_call 137;refine(P _ i.at_.drew).mono ?_;rintro e E ⟨⟨u,rfl,cs⟩,bZ,X,y⟩;have t:=Z ((i.af ay).trans (Gr.refl _) y);have a:=Z (((Nx.af (Ch.refl _ w2).drew).trans y.nx).row F (A.fresh (Nat.le_refl _)));have d:=Z (((Nx.af (Ch.refl _ w2).drew).trans y.nx).row f (A.fresh (Nat.le_succ _)));have k1:=t.at_.c0;rw[p]at k1;have R:=t.at_.cO))
  all_goals
   have x0:=d.1.c1;have a0:=a.1.c1;have f0:=a.1.free 0;have x1:=d.1.k 1 rfl;have a1:=a.1.k 1 rfl;have f1:=a.1.free 1;have x2:=d.1.k 2 rfl;have a2:=a.1.k 2 rfl;have f2:=a.1.free 2;have x3:=d.1.k 3 rfl;have a3:=a.1.k 3 rfl;have f3:=a.1.free 3;have x4:=d.1.k 4 rfl;have a4:=a.1.k 4 rfl;have f4:=a.1.free 4;have x5:=d.1.k 5 rfl;have ce:=a.1.k 5 rfl;have f5:=a.1.free 5;have x6:=d.1.k 6 rfl;have ch:=a.1.k 6 rfl;have f6:=a.1.free 6;go_wp2
   obtain⟨w4,z⟩:=nm ((((((((E.setCell ⟨w.heap.size,0,none⟩ (.int .i64 0)).setCell ⟨w.heap.size,1,none⟩ (.int .i64 0)).setCell ⟨w.heap.size,2,none⟩ (.int .i64 0)).setCell ⟨w.heap.size,3,none⟩ (.int .i64 0)).setCell ⟨w.heap.size,4,none⟩ (.int .u64 0)).setCell ⟨w.heap.size,5,none⟩ (.int .i64 0)).setCell ⟨w.heap.size,6,none⟩ (.int .i64 0)));have V:Hid (Row w4 w.heap.size 184 [.int .i64 0,.int .i64 0,.int .i64 0,.int .i64 0,.int .u64 0,.int .i64 0,.int .i64 0]):=Z (by rw[<-z];exact(((((((a.1.set 0 _).set 1 _).set 2 _).set 3 _).set 4 _).set 5 _).set 6 _));have U:Hid (Ch (aH w.heap.size) E w4):=Z (by rw[<-z];exact ay);rw[z];have W:=t.plain a.2 (Nat.le_refl _) U;obtain⟨y0,bd,bi,bv,bw,bx,bX⟩:=V.c7;refine bodyPost_ret (v:=.tuple #[aL ⟨0,0,0,0,0,0,0⟩,n]) ?_ rfl ?_
   ·simp[results,Tryz.f132,go_sem,y0,bd,bi,bv,bw,bx,bX,aL,aD]
   ·exact⟨rfl,bZ,X,W⟩
 ·by_cases a9:pc<N
  ·have Q:0<=pc:=by omega
   have cq:decide (0<=pc)=true:=(by simpa using Q);have cS:decide (pc<(N:Int))=true:=(by simpa using a9);have c2:C.dH[pc.toNat]?=some x:=(by have:=c3.out;dsimp only at this;rw[this];exact oc Q (by rw[p];exact a9));obtain⟨g,cm,dr⟩:=cA (by intro e;rw[e]at c2;cases c2);have cC:=Z dr;rw[cm]at k0 P;have c0:=Z cm;obtain⟨m,rfl⟩:=Int.eq_ofNat_of_zero_le Q;rw[Int.toNat_natCast]at c2;obtain⟨eG,eI,eL,eS,eW,e',fb⟩:=eU C.dH m x c2;have H:=Z (And.intro eG (And.intro eI (And.intro eL (And.intro eS (And.intro eW (And.intro e' fb))))));obtain⟨av,ad,al,am,aP,ap,bb⟩:=x;obtain⟨w1,j⟩:=nm ((w.alloc (.cells #[.int .i64 0,.int .i64 0,.int .i64 0,.int .i64 0,.int .u64 0,.int .i64 0,.int .i64 0] 184)).alloc (.cells #[.int .i64 0,.int .i64 0,.int .i64 0,.int .i64 0,.int .u64 0,.int .i64 0,.int .i64 0] 184));have J:Hid (Ch ag w w1):=Z (by rw[<-j];exact ay);have r:=Z (A.gU J);have S:Hid (Row w1 w.heap.size 184 [.int .i64 0,.int .i64 0,.int .i64 0,.int .i64 0,.int .u64 0,.int .i64 0,.int .i64 0]):=Z (by rw[<-j];exact(Row.new w _ _).alloc _);have T:Hid (Row w1 (w.heap.size+1) 184 [.int .i64 0,.int .i64 0,.int .i64 0,.int .i64 0,.int .u64 0,.int .i64 0,.int .i64 0]):=Z (by
    rw[<-j];have:=Row.new (w.alloc (.cells #[.int .i64 0,.int .i64 0,.int .i64 0,.int .i64 0,.int .u64 0,.int .i64 0,.int .i64 0] 184)) #[.int .i64 0,.int .i64 0,.int .i64 0,.int .i64 0,.int .u64 0,.int .i64 0,.int .i64 0] 184
    rwa [World.size_alloc]at this)
   have p1:=r.at_.uu I M;rw[O]at p1;have k1:=r.at_.c0;rw[p,c0]at k1;go_in
   go_upto_region 2 with fail
   try rw[j]
   go_quiet (fail)
   obtain⟨w2,B⟩:=nm (w1.drewN nq);have q:=Z (Ch.dN (D:=ag) B);rw[B];have i:=Z (r.af q);have F:=Z (S.ch q id);have f:=Z (T.ch q id);have p1:=i.at_.uu I M;rw[O]at p1;have k1:=i.at_.c0;rw[p,c0]at k1;have G:=Z (cC.ch (J.trans q) id);have en:=G.cell _ _ H.1;have es:=G.cell _ _ H.2.1;have et:=G.cell _ _ H.2.2.1;have ex:=G.cell _ _ H.2.2.2.1;have ey:=G.cell _ _ H.2.2.2.2.1;have eA:=G.cell _ _ H.2.2.2.2.2.1;have eC:=G.cell _ _ H.2.2.2.2.2.2;have fk:=f.c1;have fO:=f.free 0;have fn:=f.k 1 rfl;have fT:=f.free 1;have fr:=f.k 2 rfl;have a5:=f.free 2;have fz:=f.k 3 rfl;have g0:=f.free 3;have fK:=f.k 4 rfl;have g1:=f.free 4;have fL:=f.k 5 rfl;have g2:=f.free 5;have fM:=f.k 6 rfl;have g3:=f.free 6;dsimp only at en es et ex ey eA eC;go_wp2
   go_still_tail 11,(by kernel_rfl)
   change wpList _ _ _ _ _ w2.drew;go_upto_region 4 with fail
   obtain⟨ab,c7⟩:∃ab,((((((((w2.setCell ⟨w.heap.size+1,0,none⟩ (.int .i64 av)).setCell ⟨w.heap.size+1,1,none⟩ (.int .i64 ad)).setCell ⟨w.heap.size+1,2,none⟩ (.int .i64 al)).setCell ⟨w.heap.size+1,3,none⟩ (.int .i64 am)).setCell ⟨w.heap.size+1,4,none⟩ (.int .u64 aP)).setCell ⟨w.heap.size+1,5,none⟩ (.int .i64 ap)).setCell ⟨w.heap.size+1,6,none⟩ (.int .i64 bb))).drew=ab:=⟨_,rfl⟩;have cb:Hid (Ch (aH (w.heap.size+1)) w2 ab):=Z (by rw[<-c7];exact ay);have ca:Hid (Row ab (w.heap.size+1) 184 [av,ad,al,am,.int .u64 aP,ap,bb]):=Z (by rw[<-c7];exact((((((((f.set 0 _).set 1 _).set 2 _).set 3 _).set 4 _).set 5 _).set 6 _)).drew);rw[c7];have cd:=Z (i.plain (A.fresh (Nat.le_succ _)) (Nat.le_succ _) cb);have c9:=Z (F.ch cb (fun e=>by have a5:w.heap.size=w.heap.size+1:=e;omega));obtain⟨w2,B⟩:∃w2,ab=w2:=⟨_,rfl⟩;rw[B]at cd c9 ca⊢;have i:=cd;have F:=c9;have f:=ca;have k1:=i.at_.c0;rw[p,c0]at k1;have R:=i.at_.cO;go_wp2
   go_region_held3 (fun w'=>w'.cell? (L.mb,0)=some (.slice (some ⟨g,0,none⟩) N L.Dt)/\w'.cell? (L.mb,1007)=some (.pointer (some (L.m,0)))) (go_keep) ((go_at_call 137;refine(P _ i.at_.drew).mono ?_;rintro e E ⟨⟨u,rfl,cs⟩,bZ,X,y⟩;have t:=Z ((i.af ay).trans (Gr.refl _) y);have a:=Z (((Nx.af (Ch.refl _ w2).drew).trans y.nx).row F (A.fresh (Nat.le_refl _)));have d:=Z (((Nx.af (Ch.refl _ w2).drew).trans y.nx).row f (A.fresh (Nat.le_succ _)));have k1:=t.at_.c0;rw[p,c0]at k1;have R:=t.at_.cO))
   all_goals
    have x0:=d.1.c1;have a0:=a.1.c1;have f0:=a.1.free 0;have x1:=d.1.k 1 rfl;have a1:=a.1.k 1 rfl;have f1:=a.1.free 1;have x2:=d.1.k 2 rfl;have a2:=a.1.k 2 rfl;have f2:=a.1.free 2;have x3:=d.1.k 3 rfl;have a3:=a.1.k 3 rfl;have f3:=a.1.free 3;have x4:=d.1.k 4 rfl;have a4:=a.1.k 4 rfl;have f4:=a.1.free 4;have x5:=d.1.k 5 rfl;have ce:=a.1.k 5 rfl;have f5:=a.1.free 5;have x6:=d.1.k 6 rfl;have ch:=a.1.k 6 rfl;have f6:=a.1.free 6;go_wp2
    obtain⟨w4,z⟩:=nm ((((((((E.setCell ⟨w.heap.size,0,none⟩ (.int .i64 av)).setCell ⟨w.heap.size,1,none⟩ (.int .i64 ad)).setCell ⟨w.heap.size,2,none⟩ (.int .i64 al)).setCell ⟨w.heap.size,3,none⟩ (.int .i64 am)).setCell ⟨w.heap.size,4,none⟩ (.int .u64 aP)).setCell ⟨w.heap.size,5,none⟩ (.int .i64 ap)).setCell ⟨w.heap.size,6,none⟩ (.int .i64 bb)));have V:Hid (Row w4 w.heap.size 184 [av,ad,al,am,.int .u64 aP,ap,bb]):=Z (by rw[<-z];exact(((((((a.1.set 0 _).set 1 _).set 2 _).set 3 _).set 4 _).set 5 _).set 6 _));have U:Hid (Ch (aH w.heap.size) E w4):=Z (by rw[<-z];exact ay);rw[z];have W:=t.plain a.2 (Nat.le_refl _) U;obtain⟨y0,bd,bi,bv,bw,bx,bX⟩:=V.c7;refine bodyPost_ret (v:=.tuple #[aL ⟨av,ad,al,am,aP,ap,bb⟩,n]) ?_ rfl ?_
    ·simp[results,Tryz.f132,go_sem,y0,bd,bi,bv,bw,bx,bX,aL,aD]
    ·exact⟨rfl,bZ,X,W⟩
  ·have Q:0<=pc:=by omega
   have cq:decide (0<=pc)=true:=(by simpa using Q);have cS:decide (pc<(N:Int))=false:=(by simpa using a9);have c8:x=⟨0,0,0,0,0,0,0⟩:=(by have:=c3.out;dsimp only at this;rw[this];exact lX (fun e=>by have a5:=e.2;rw[p]at a5;omega));subst c8;obtain⟨w1,j⟩:=nm ((w.alloc (.cells #[.int .i64 0,.int .i64 0,.int .i64 0,.int .i64 0,.int .u64 0,.int .i64 0,.int .i64 0] 184)).alloc (.cells #[.int .i64 0,.int .i64 0,.int .i64 0,.int .i64 0,.int .u64 0,.int .i64 0,.int .i64 0] 184));have J:Hid (Ch ag w w1):=Z (by rw[<-j];exact ay);have r:=Z (A.gU J);have S:Hid (Row w1 w.heap.size 184 [.int .i64 0,.int .i64 0,.int .i64 0,.int .i64 0,.int .u64 0,.int .i64 0,.int .i64 0]):=Z (by rw[<-j];exact(Row.new w _ _).alloc _);have T:Hid (Row w1 (w.heap.size+1) 184 [.int .i64 0,.int .i64 0,.int .i64 0,.int .i64 0,.int .u64 0,.int .i64 0,.int .i64 0]):=Z (by
    rw[<-j];have:=Row.new (w.alloc (.cells #[.int .i64 0,.int .i64 0,.int .i64 0,.int .i64 0,.int .u64 0,.int .i64 0,.int .i64 0] 184)) #[.int .i64 0,.int .i64 0,.int .i64 0,.int .i64 0,.int .u64 0,.int .i64 0,.int .i64 0] 184
    rwa [World.size_alloc]at this)
   have p1:=r.at_.uu I M;rw[O]at p1;have k1:=r.at_.c0;rw[p]at k1;go_in
   go_upto_region 2 with fail
   try rw[j]
   go_quiet (fail)
   obtain⟨w2,B⟩:=nm (w1.drewN nq);have q:=Z (Ch.dN (D:=ag) B);rw[B];have i:=Z (r.af q);have F:=Z (S.ch q id);have f:=Z (T.ch q id);have p1:=i.at_.uu I M;rw[O]at p1;have k1:=i.at_.c0;rw[p]at k1;have R:=i.at_.cO;go_wp2
   go_region_held3 (fun w'=>w'.cell? (L.mb,0)=some (.slice L.lc N L.Dt)/\w'.cell? (L.mb,1007)=some (.pointer (some (L.m,0)))) (go_keep) ((go_at_call 137;refine(P _ i.at_.drew).mono ?_;rintro e E ⟨⟨u,rfl,cs⟩,bZ,X,y⟩;have t:=Z ((i.af ay).trans (Gr.refl _) y);have a:=Z (((Nx.af (Ch.refl _ w2).drew).trans y.nx).row F (A.fresh (Nat.le_refl _)));have d:=Z (((Nx.af (Ch.refl _ w2).drew).trans y.nx).row f (A.fresh (Nat.le_succ _)));have k1:=t.at_.c0;rw[p]at k1;have R:=t.at_.cO))
   all_goals
    have x0:=d.1.c1;have a0:=a.1.c1;have f0:=a.1.free 0;have x1:=d.1.k 1 rfl;have a1:=a.1.k 1 rfl;have f1:=a.1.free 1;have x2:=d.1.k 2 rfl;have a2:=a.1.k 2 rfl;have f2:=a.1.free 2;have x3:=d.1.k 3 rfl;have a3:=a.1.k 3 rfl;have f3:=a.1.free 3;have x4:=d.1.k 4 rfl;have a4:=a.1.k 4 rfl;have f4:=a.1.free 4;have x5:=d.1.k 5 rfl;have ce:=a.1.k 5 rfl;have f5:=a.1.free 5;have x6:=d.1.k 6 rfl;have ch:=a.1.k 6 rfl;have f6:=a.1.free 6;go_wp2
    obtain⟨w4,z⟩:=nm ((((((((E.setCell ⟨w.heap.size,0,none⟩ (.int .i64 0)).setCell ⟨w.heap.size,1,none⟩ (.int .i64 0)).setCell ⟨w.heap.size,2,none⟩ (.int .i64 0)).setCell ⟨w.heap.size,3,none⟩ (.int .i64 0)).setCell ⟨w.heap.size,4,none⟩ (.int .u64 0)).setCell ⟨w.heap.size,5,none⟩ (.int .i64 0)).setCell ⟨w.heap.size,6,none⟩ (.int .i64 0)));have V:Hid (Row w4 w.heap.size 184 [.int .i64 0,.int .i64 0,.int .i64 0,.int .i64 0,.int .u64 0,.int .i64 0,.int .i64 0]):=Z (by rw[<-z];exact(((((((a.1.set 0 _).set 1 _).set 2 _).set 3 _).set 4 _).set 5 _).set 6 _));have U:Hid (Ch (aH w.heap.size) E w4):=Z (by rw[<-z];exact ay);rw[z];have W:=t.plain a.2 (Nat.le_refl _) U;obtain⟨y0,bd,bi,bv,bw,bx,bX⟩:=V.c7;refine bodyPost_ret (v:=.tuple #[aL ⟨0,0,0,0,0,0,0⟩,n]) ?_ rfl ?_
    ·simp[results,Tryz.f132,go_sem,y0,bd,bi,bv,bw,bx,bX,aL,aD]
    ·exact⟨rfl,bZ,X,W⟩
variable{p:KS}
theorem xM(id:Int)(i:Nat)(c:cJ)(b o:Nat)(n a d f j g k:Int)(r:n=24∨n=28∨n=51∨n=53∨n=55∨n=56∨n=57∨n=58){p:Int×KS}(v:aB C K i id c ⟨n,a,d,f,j,g,k⟩=p)
 (x:∀w,ae w χ L Y C K->Calls prog 164 #[(L.mb,0),(L.wb,i*38),(Y.bI id,0),(b,o),aL ⟨n,a,d,f,j,g,k⟩] w (dO p χ L Y C K w)) (h:ae w χ L Y C K):
 Calls prog 133 #[(L.mb,0),(L.wb,i*38),(Y.bI id,0),(b,o),aL ⟨n,a,d,f,j,g,k⟩] w (dO (az C K i (some id) c ⟨n,a,d,f,j,g,k⟩) χ L Y C K w):=by
 have l:=Z x;unfold aL aD at l⊢;dsimp only at l⊢;obtain⟨w0,z,F,q,s⟩:=h.pre n a d f j g k;obtain⟨t0,t1,t2,t3,t4,t5,t6⟩:=s.1.c7;obtain⟨tb,y⟩:=nm (Y.bI id);rw[y]at l⊢;have E:Hid (az C K i (some id) c ⟨n,a,d,f,j,g,k⟩=p):=Z (by rw[<-v];unfold az;dsimp only;rw[if_pos r]);rcases r with rfl|rfl|rfl|rfl|rfl|rfl|rfl|rfl
 all_goals
  go_in
  go_wp2_with fail
  try rw[z]
  refine(l _ q.at_).mono ?_;rintro e w2 ⟨rfl,D,t,u,A,B⟩;have m:=Z (And.intro u (And.intro A B));go_wp2
  go_ret;rw[E];exact⟨rfl,D,t,m.1,q.nx.trans m.2.1,m.2.2⟩
theorem xN(A:Value)(idO:Option Int)(i:Nat)(c:cJ)(b o:Nat)(n a d f j g k:Int)(r:n=31∨n=32){p:Int×KS}(v:bf K i c ⟨n,a,d,f,j,g,k⟩=p)
 (x:∀w,ae w χ L Y C K->Calls prog 165 #[(L.mb,0),(L.wb,i*38),(b,o),aL ⟨n,a,d,f,j,g,k⟩] w (dO p χ L Y C K w)) (h:ae w χ L Y C K):
 Calls prog 133 #[(L.mb,0),(L.wb,i*38),A,(b,o),aL ⟨n,a,d,f,j,g,k⟩] w (dO (az C K i idO c ⟨n,a,d,f,j,g,k⟩) χ L Y C K w):=by
 have m:=Z x;unfold aL aD at m⊢;dsimp only at m⊢;obtain⟨w0,y,F,q,s⟩:=h.pre n a d f j g k;obtain⟨t0,t1,t2,t3,t4,t5,t6⟩:=s.1.c7;have E:Hid (az C K i idO c ⟨n,a,d,f,j,g,k⟩=p):=Z (by rw[<-v];unfold az;dsimp only;rw[if_neg (by omega),if_pos r]);rcases r with rfl|rfl
 all_goals
  go_in
  go_wp2_with fail
  try rw[y]
  refine(m _ q.at_).mono ?_;rintro e w2 ⟨rfl,D,t,u,z,B⟩;have l:=Z (And.intro u (And.intro z B));go_wp2
  go_ret;rw[E];exact⟨rfl,D,t,l.1,q.nx.trans l.2.1,l.2.2⟩
theorem xO(z:Value)(idO:Option Int)(i:Nat)(c:cJ)(b o:Nat)(n a d f j g k:Int)(r:n=30∨n=33∨n=34∨n=35)(v:b0 K i c ⟨n,a,d,f,j,g,k⟩=p)
 (x:∀w,ae w χ L Y C K->Calls prog 166 #[(L.mb,0),(L.wb,i*38),(b,o),aL ⟨n,a,d,f,j,g,k⟩] w (dk (.tuple #[]) χ L Y C K p w)) (h:ae w χ L Y C K):
 Calls prog 133 #[(L.mb,0),(L.wb,i*38),z,(b,o),aL ⟨n,a,d,f,j,g,k⟩] w (dO (az C K i idO c ⟨n,a,d,f,j,g,k⟩) χ L Y C K w):=by
 have l:=Z x;unfold aL aD at l⊢;dsimp only at l⊢;obtain⟨w0,y,B,q,s⟩:=h.pre n a d f j g k;obtain⟨t0,t1,t2,t3,t4,t5,t6⟩:=s.1.c7;have E:Hid (az C K i idO c ⟨n,a,d,f,j,g,k⟩=(0,p)):=Z (by rw[<-v];unfold az;dsimp only;rw[if_neg (by omega),if_neg (by omega),if_neg (by omega),if_pos r]);rcases r with rfl|rfl|rfl|rfl
 all_goals
  go_in
  go_wp2_with fail
  try rw[y]
  refine(l _ q.at_).mono ?_;rintro e w2 ⟨rfl,A,t,u⟩;have m:=Z (q.trans (Gr.refl _) u);go_wp2
  go_ret;rw[E];exact⟨rfl,A,t,m.at_,m.nx,fun _=>m.yk⟩
theorem xP(z:Value)(idO:Option Int)(i:Nat)(c:cJ)(b o:Nat)(n a d f j g k:Int)(r:n=43∨n=44∨n=45∨n=46)(v:bh K c ⟨n,a,d,f,j,g,k⟩=p)
 (x:∀w,ae w χ L Y C K->Calls prog 167 #[(L.mb,0),(b,o),aL ⟨n,a,d,f,j,g,k⟩] w (dk (.tuple #[]) χ L Y C K p w)) (h:ae w χ L Y C K):
 Calls prog 133 #[(L.mb,0),(L.wb,i*38),z,(b,o),aL ⟨n,a,d,f,j,g,k⟩] w (dO (az C K i idO c ⟨n,a,d,f,j,g,k⟩) χ L Y C K w):=by
 have l:=Z x;unfold aL aD at l⊢;dsimp only at l⊢;obtain⟨w0,y,B,q,s⟩:=h.pre n a d f j g k;obtain⟨t0,t1,t2,t3,t4,t5,t6⟩:=s.1.c7;have E:Hid (az C K i idO c ⟨n,a,d,f,j,g,k⟩=(0,p)):=Z (by rw[<-v];unfold az;dsimp only;rw[if_neg (by omega),if_neg (by omega),if_neg (by omega),if_neg (by omega),if_pos r]);rcases r with rfl|rfl|rfl|rfl
 all_goals
  go_in
  go_wp2_with fail
  try rw[y]
  refine(l _ q.at_).mono ?_;rintro e w2 ⟨rfl,A,t,u⟩;have m:=Z (q.trans (Gr.refl _) u);go_wp2
  go_ret;rw[E];exact⟨rfl,A,t,m.at_,m.nx,fun _=>m.yk⟩
theorem xQ(z:Value)(idO:Option Int)(i:Nat)(c:cJ)(b o:Nat)(n a d f j g k:Int)(r:n=48∨n=52∨n=54∨n=49∨n=50)(v:bD C K i c ⟨n,a,d,f,j,g,k⟩=p)
 (x:∀w,ae w χ L Y C K->Calls prog 168 #[(L.mb,0),(L.wb,i*38),(b,o),aL ⟨n,a,d,f,j,g,k⟩] w (dk (.tuple #[]) χ L Y C K p w)) (h:ae w χ L Y C K):
 Calls prog 133 #[(L.mb,0),(L.wb,i*38),z,(b,o),aL ⟨n,a,d,f,j,g,k⟩] w (dO (az C K i idO c ⟨n,a,d,f,j,g,k⟩) χ L Y C K w):=by
 have l:=Z x;unfold aL aD at l⊢;dsimp only at l⊢;obtain⟨w0,y,B,q,s⟩:=h.pre n a d f j g k;obtain⟨t0,t1,t2,t3,t4,t5,t6⟩:=s.1.c7;have E:Hid (az C K i idO c ⟨n,a,d,f,j,g,k⟩=(0,p)):=Z (by rw[<-v];unfold az;dsimp only;rw[if_neg (by omega),if_neg (by omega),if_neg (by omega),if_neg (by omega),if_neg (by omega),if_pos r]);rcases r with rfl|rfl|rfl|rfl|rfl
 all_goals
  go_in
  go_wp2_with fail
  try rw[y]
  refine(l _ q.at_).mono ?_;rintro e w2 ⟨rfl,A,t,u⟩;have m:=Z (q.trans (Gr.refl _) u);go_wp2
  go_ret;rw[E];exact⟨rfl,A,t,m.at_,m.nx,fun _=>m.yk⟩
theorem xR(z:Value)(idO:Option Int)(i:Nat)(c:cJ)(b o:Nat)(n a d f j g k:Int)(r:n=25∨n=26∨n=27)(v:bl K i c ⟨n,a,d,f,j,g,k⟩=p)
 (x:∀w,ae w χ L Y C K->Calls prog 169 #[(L.mb,0),(L.wb,i*38),(b,o),aL ⟨n,a,d,f,j,g,k⟩] w (dk (.tuple #[]) χ L Y C K p w)) (h:ae w χ L Y C K):
 Calls prog 133 #[(L.mb,0),(L.wb,i*38),z,(b,o),aL ⟨n,a,d,f,j,g,k⟩] w (dO (az C K i idO c ⟨n,a,d,f,j,g,k⟩) χ L Y C K w):=by
 have l:=Z x;unfold aL aD at l⊢;dsimp only at l⊢;obtain⟨w0,y,B,q,s⟩:=h.pre n a d f j g k;obtain⟨t0,t1,t2,t3,t4,t5,t6⟩:=s.1.c7;have E:Hid (az C K i idO c ⟨n,a,d,f,j,g,k⟩=(0,p)):=Z (by rw[<-v];unfold az;dsimp only;rw[if_neg (by omega),if_neg (by omega),if_neg (by omega),if_neg (by omega),if_neg (by omega),if_neg (by omega),if_pos r]);rcases r with rfl|rfl|rfl
 all_goals
  go_in
  go_wp2_with fail
  try rw[y]
  refine(l _ q.at_).mono ?_;rintro e w2 ⟨rfl,A,t,u⟩;have m:=Z (q.trans (Gr.refl _) u);go_wp2
  go_ret;rw[E];exact⟨rfl,A,t,m.at_,m.nx,fun _=>m.yk⟩
theorem xS(i:Nat)(c:cJ)(b o:Nat)(n a d e g f j:Int)(l:n=24∨n=28∨n=51∨n=53∨n=55∨n=56∨n=57∨n=58)(h:ae w χ L Y C K):
 Calls prog 133 #[(L.mb,0),(L.wb,i*38),.pointer none,(b,o),aL ⟨n,a,d,e,g,f,j⟩] w (dO (az C K i none c ⟨n,a,d,e,g,f,j⟩) χ L Y C K w):=by
 unfold aL aD;dsimp only;obtain⟨w0,q,r,k,m⟩:=h.pre n a d e g f j;obtain⟨t0,t1,t2,t3,t4,t5,t6⟩:=m.1.c7;have E:Hid (az C K i none c ⟨n,a,d,e,g,f,j⟩=(0,K)):=Z (by unfold az;exact if_pos l);rcases l with rfl|rfl|rfl|rfl|rfl|rfl|rfl|rfl
 all_goals
  go_in
  go_wp2
  try rw[q]
  go_ret;rw[E];exact⟨rfl,χ,Y,k.at_,k.nx,fun _=>k.yk⟩
theorem x'(i:Nat)(c7:i<K.wk.length)(c:cJ)(b o:Nat)(c5:aj K c)(c9:aR L Y c b o)(a5:∀k,k<32->aK ((K.F c).r k))(a g j R Q S:Int)(c2:0<=a/\a<32)(hb:0<=g/\g<32)(c6:0<=j/\j<32)(ct:C.bs.length<=2048)(c3:K.blocks.Ok)(c4:(df K.blocks K.mem 1).2.1.Ok)(bi:∀c8 id,(dh K.table c8).1=some id->aw K.ai id=none)(ca:aK (bQ K (wrap64 ((K.F c).r g.toNat)) ((K.F c).r j.toNat)).1)(h:ae w χ L Y C K):
 Calls prog 168 #[(L.mb,0),(L.wb,i*38),(b,o),.agg #[.int .i64 48,a,g,j,.int .u64 R,Q,S]] w (dk (.tuple #[]) χ L Y C K (bD C K i c ⟨48,a,g,j,R,Q,S⟩) w):=by
 have cl:=Z h;have t:=Z c5;have u:=Z c9;have c0:=Z c7;obtain⟨w0,ab,cm,N,D⟩:=h.pre 48 a g j R Q S;obtain⟨dp,dr⟩:=c2;obtain⟨ad,bw⟩:∃y,(K.F c).r a.toNat=y:=⟨_,rfl⟩;have a3:=Z bw;have ap:=Z (a5 a.toNat (by omega));rw[bw]at ap;obtain⟨cF,cL⟩:=ap.out;obtain⟨dC,dN⟩:=hb;obtain⟨l,bx⟩:∃y,(K.F c).r g.toNat=y:=⟨_,rfl⟩;have z:=Z bx;have av:=Z (a5 g.toNat (by omega));rw[bx]at av;obtain⟨cQ,cS⟩:=av.out;obtain⟨e4,en⟩:=c6;obtain⟨J,bX⟩:∃y,(K.F c).r j.toNat=y:=⟨_,rfl⟩;have F:=Z bX;have aP:=Z (a5 j.toNat (by omega));rw[bX]at aP;obtain⟨cW,di⟩:=aP.out;obtain⟨t0,t1,t2,t3,t4,t5,t6⟩:=D.1.c7;have r:=N.at_.aA t u a.toNat (by omega);rw[a3]at r;have H:=N.at_.aA t u g.toNat (by omega);rw[z]at H;have I:=N.at_.aA t u j.toNat (by omega);rw[F]at I;obtain⟨n,a4⟩:=nm C.bs.length;have M:=Z a4;have cC:(n:Int)<=2048:=by omega
 by_cases G:l<(n:Int)
 ·have cb:wrap64 l=l:=by unfold wrap64;omega
  have cA:IntKind.i64.wrap l=l:=IntWalk.i64_in _ (by omega);have V:=Z (fun w h=>xH (K:=K) (w:=w) (χ:=χ) (L:=L) (Y:=Y) (C:=C) (wrap64 l) J c3 c4 bi h);have m:=Z (And.intro (k6 (K:=K) (wrap64 l) J bi) (n9 (K:=K) (wrap64 l) J));have a9:=ca;rw[z,F]at a9;obtain⟨p,bv⟩:=nm (bQ K (wrap64 l) J);have al:=Z bv;rw[bv]at V m a9;rw[cb]at V;obtain⟨P,K'⟩:=p;have am:=Z a9;have G:=(show l<(C.bs.length:Int)by rw[a4];exact G);rw[a4]at G;have cq:=Z G;obtain⟨cd,ce⟩:=am.out;dsimp only at cd ce V m;by_cases B:P=0
  ·subst B
   have E:Hid (bD C K i c ⟨48,a,g,j,R,Q,S⟩=K'.ax c a.toNat 0):=Z (by unfold bD;dsimp only;rw[if_pos rfl,z,F,M,if_pos G,al];rfl);go_in
   go_wp2
   try rw[ab]
   go_quiet (fail)
   obtain⟨w1,A⟩:=nm (w0.drewN nq);have x:Hid (Ch ag w0 w1):=Z (by rw[<-A];exact ay);rw[A];have f:=Z (N.af x);have d:Hid (aj K c/\aR L Y c b o):=Z ⟨t,u⟩;have s:=Z ((Nx.af x).row D.1 D.2);obtain⟨t0,t1,t2,t3,t4,t5,t6⟩:=s.1.c7;have r:=f.at_.aA d.1 d.2 a.toNat (by omega);rw[show((K:KS).F c).r a.toNat=ad from a3.out]at r;have H:=f.at_.aA d.1 d.2 g.toNat (by omega);rw[show((K:KS).F c).r g.toNat=l from z.out]at H;have I:=f.at_.aA d.1 d.2 j.toNat (by omega);rw[show((K:KS).F c).r j.toNat=J from F.out]at I;have k1:=f.at_.c3;rw[M]at k1;go_wp2_with fail
   go_wp2
   go_still_tail 10,(by kernel_rfl)
   change wpList _ _ _ _ _ w1.drew;go_wp2_with fail
   refine(V _ f.at_.drew).mono ?_;rintro e w2 ⟨rfl,ci,c1,a0⟩;have q:=Z ((f.af ay).trans (Gr.refl _) a0);have U:=Z (((Nx.af (Ch.refl _ w1).drew).trans a0.nx).row s.1 s.2);have v:=Z (q.cur t u (m.1) (by rw[m.2]));obtain⟨t0,t1,t2,t3,t4,t5,t6⟩:=U.1.c7;have r:=q.at_.aA v.1 v.2 a.toNat (by omega);have bb:=q.at_.hy v.1 v.2 (o+1+a.toNat);have a1:=Z (q.at_.drew.a7 v.1 v.2 a.toNat (by omega) 0);have T:Hid (Gr K _):=Z (m.1);go_wp2
   go_still_tail 6,(by kernel_rfl)
   change wpList _ _ _ _ _ w2.drew;go_wp2
   go_end0
   rw[E];obtain⟨a2,X,B⟩:=a1.out;exact⟨rfl,a2,X,(q.af ay).trans T B⟩
  ·have E:Hid (bD C K i c ⟨48,a,g,j,R,Q,S⟩=(ep K' i P).ax c a.toNat P):=Z (by unfold bD;dsimp only;rw[if_pos rfl,z,F,M,if_pos G,al];rw[if_pos B])
   go_in
   go_wp2
   try rw[ab]
   go_quiet (fail)
   obtain⟨w1,A⟩:=nm (w0.drewN nq);have x:Hid (Ch ag w0 w1):=Z (by rw[<-A];exact ay);rw[A];have f:=Z (N.af x);have d:Hid (aj K c/\aR L Y c b o):=Z ⟨t,u⟩;have s:=Z ((Nx.af x).row D.1 D.2);obtain⟨t0,t1,t2,t3,t4,t5,t6⟩:=s.1.c7;have r:=f.at_.aA d.1 d.2 a.toNat (by omega);rw[show((K:KS).F c).r a.toNat=ad from a3.out]at r;have H:=f.at_.aA d.1 d.2 g.toNat (by omega);rw[show((K:KS).F c).r g.toNat=l from z.out]at H;have I:=f.at_.aA d.1 d.2 j.toNat (by omega);rw[show((K:KS).F c).r j.toNat=J from F.out]at I;have k1:=f.at_.c3;rw[M]at k1;go_wp2_with fail
   go_wp2
   go_still_tail 10,(by kernel_rfl)
   change wpList _ _ _ _ _ w1.drew;go_wp2_with fail
   refine(V _ f.at_.drew).mono ?_;rintro e w2 ⟨rfl,ci,c1,a0⟩;have q:=Z ((f.af ay).trans (Gr.refl _) a0);have U:=Z (((Nx.af (Ch.refl _ w1).drew).trans a0.nx).row s.1 s.2);have v:=Z (q.cur t u (m.1) (by rw[m.2]));obtain⟨t0,t1,t2,t3,t4,t5,t6⟩:=U.1.c7;have r:=q.at_.aA v.1 v.2 a.toNat (by omega);go_wp2_with fail
   refine(lU (K:=K') i (by rw[m.2];exact c0) P am q.at_).mono ?_;rintro e ch ⟨rfl,es,cs,bd⟩;have W:=Z (q.trans (m.1) bd);have bZ:=Z (bd.nx.row U.1 U.2);have O:=Z (W.cur t u (m.1.trans (dV _ _ _)) (by rw[fE,m.2]));obtain⟨t0,t1,t2,t3,t4,t5,t6⟩:=bZ.1.c7;have r:=W.at_.aA O.1 O.2 a.toNat (by omega);have bb:=W.at_.hy O.1 O.2 (o+1+a.toNat);have a1:=Z (W.at_.drew.a7 O.1 O.2 a.toNat (by omega) P);have T:Hid (Gr K _):=Z (m.1.trans (dV K' i P));go_wp2
   go_still_tail 6,(by kernel_rfl)
   change wpList _ _ _ _ _ ch.drew;go_wp2
   go_end0
   rw[E];obtain⟨a2,X,B⟩:=a1.out;exact⟨rfl,a2,X,(W.af ay).trans T B⟩
 ·have E:Hid (bD C K i c ⟨48,a,g,j,R,Q,S⟩=K.ax c a.toNat 0):=Z (by unfold bD;dsimp only;rw[if_pos rfl,z,M,if_neg G])
  go_in
  go_wp2
  try rw[ab]
  go_quiet (fail)
  obtain⟨w1,A⟩:=nm (w0.drewN nq);have x:Hid (Ch ag w0 w1):=Z (by rw[<-A];exact ay);rw[A];have f:=Z (N.af x);have d:Hid (aj K c/\aR L Y c b o):=Z ⟨t,u⟩;have s:=Z ((Nx.af x).row D.1 D.2);obtain⟨t0,t1,t2,t3,t4,t5,t6⟩:=s.1.c7;have r:=f.at_.aA d.1 d.2 a.toNat (by omega);rw[show((K:KS).F c).r a.toNat=ad from a3.out]at r;have H:=f.at_.aA d.1 d.2 g.toNat (by omega);rw[show((K:KS).F c).r g.toNat=l from z.out]at H;have I:=f.at_.aA d.1 d.2 j.toNat (by omega);rw[show((K:KS).F c).r j.toNat=J from F.out]at I;have k1:=f.at_.c3;rw[M]at k1;go_wp2_with fail
  have bb:=f.at_.hy d.1 d.2 (o+1+a.toNat);have a1:=Z (f.at_.drew.a7 d.1 d.2 a.toNat (by omega) 0);have T:Hid (Gr K _):=Z (Gr.refl K);go_wp2
  go_still_tail 6,(by kernel_rfl)
  change wpList _ _ _ _ _ w1.drew;go_wp2
  go_end0
  rw[E];obtain⟨a2,X,B⟩:=a1.out;exact⟨rfl,a2,X,(f.af ay).trans T B⟩
theorem sE(i:Nat)(bb:i<K.wk.length)(c:cJ)(b o:Nat)(ap:aj K c)(bd:aR L Y c b o)(a3:∀k,k<32->aK ((K.F c).r k))(a f g d j l:Int)(am:0<=a/\a<32)(bi:aK d)(h:ae w χ L Y C K):
 Calls prog 165 #[(L.mb,0),(L.wb,i*38),(b,o),.agg #[.int .i64 31,a,f,g,.int .u64 d,j,l]] w (dO (bf K i c ⟨31,a,f,g,d,j,l⟩) χ L Y C K w):=by
 have bx:=Z h;have B:=Z ap;have D:=Z bd;have V:=Z bb;obtain⟨w0,a4,T,J,s⟩:=h.pre 31 a f g d j l;obtain⟨c2,c3⟩:=am;obtain⟨F,a5⟩:∃y,(K.F c).r a.toNat=y:=⟨_,rfl⟩;have u:=Z a5;have I:=Z (a3 a.toNat (by omega));rw[a5]at I;obtain⟨c0,c1⟩:=I.out;obtain⟨t0,t1,t2,t3,t4,t5,t6⟩:=s.1.c7;have A:=J.at_.aA B D a.toNat (by omega);rw[u]at A;obtain⟨a0,O⟩:=nm (dE (K.F c).r ⟨31,a,f,g,d,j,l⟩);have S:=Z O;have a1:=lM (x:=⟨31,a,f,g,d,j,l⟩) a3 bi;rw[O]at a1;have ab:=Z a1;have U:Hid (∀w1:World,Ch ag w w1->fq w1 b o (K.F c).pc (K.F c).r):=Z (fun w1 av=>by obtain⟨pre,post,v,aP⟩:=(h.af av).cur B D;exact aP.fr);have q:=Z (fun w h=>kD b o (K.F c).pc (K.F c).r ⟨31,a,f,g,d,j,l⟩ w h);rw[O]at q;unfold aL at q;try dsimp only at q
 obtain⟨p,a2⟩:=nm (K.mem.acc 1 a0 0 F);have W:=Z a2;have H:=Z (fun w h=>Ee (K:=K) (w:=w) (χ:=χ) (L:=L) (Y:=Y) (C:=C) a0 F ab I h);rw[a2]at H;obtain⟨r,R⟩:=p;cases r with
 |none=>
  have E:Hid (bf K i c ⟨31,a,f,g,d,j,l⟩=(2,{K with mem:=R})):=Z (by unfold bf;dsimp only;rw[if_pos rfl,S,u,W];rfl);go_in
  go_wp2
  try rw[a4]
  go_region_held3 (fun w'=>w'.cell? ⟨w.heap.size,0,none⟩=some (.int .i64 31)/\w'.cell? ⟨w.heap.size,1,none⟩=some (.int .i64 a)/\w'.cell? ⟨w.heap.size,2,none⟩=some (.int .i64 f)/\w'.cell? ⟨w.heap.size,3,none⟩=some (.int .i64 g)/\w'.cell? ⟨w.heap.size,4,none⟩=some (.int .u64 d)/\w'.cell? ⟨w.heap.size,5,none⟩=some (.int .i64 j)/\w'.cell? ⟨w.heap.size,6,none⟩=some (.int .i64 l)/\w'.cell? (b,o+1+a.toNat)=some (.int .u64 F)) (go_keep) ((go_at_call 140;refine(q w0.drew (U _ T.drew)).mono ?_;rintro e w1 ⟨rfl,P⟩;have t:Hid (Ch ag w0 w1):=Z (Ch.trans ay P);have m:=Z (J.af t);have z:Hid (aj K c/\aR L Y c b o):=Z ⟨B,D⟩;have G:=Z ((Nx.af t).row s.1 s.2);obtain⟨t0,t1,t2,t3,t4,t5,t6⟩:=G.1.c7;have A:=m.at_.aA z.1 z.2 a.toNat (by omega);rw[u]at A))
  all_goals
   have k1:=m.at_.cO;go_wp2_with fail
   refine(H _ m.at_).mono ?_;rintro e w2 ⟨⟨v,rfl,Q⟩,a9,X,N⟩;obtain⟨tt,c4,rfl⟩:=Q;have n:=Z (m.trans (Gr.refl _) N);go_wp2
   go_ret;rw[E];exact⟨rfl,a9,X,n.at_,n.nx,fun _=>n.yk⟩
 |some r=>
  have E:Hid (bf K i c ⟨31,a,f,g,d,j,l⟩=(0,({K with mem:=R}:KS).bj i {({K with mem:=R}:KS).W i with hand:=0})):=Z (by unfold bf;dsimp only;rw[if_pos rfl,S,u,W];rfl);go_in
  go_wp2
  try rw[a4]
  go_region_held3 (fun w'=>w'.cell? ⟨w.heap.size,0,none⟩=some (.int .i64 31)/\w'.cell? ⟨w.heap.size,1,none⟩=some (.int .i64 a)/\w'.cell? ⟨w.heap.size,2,none⟩=some (.int .i64 f)/\w'.cell? ⟨w.heap.size,3,none⟩=some (.int .i64 g)/\w'.cell? ⟨w.heap.size,4,none⟩=some (.int .u64 d)/\w'.cell? ⟨w.heap.size,5,none⟩=some (.int .i64 j)/\w'.cell? ⟨w.heap.size,6,none⟩=some (.int .i64 l)/\w'.cell? (b,o+1+a.toNat)=some (.int .u64 F)) (go_keep) ((go_at_call 140;refine(q w0.drew (U _ T.drew)).mono ?_;rintro e w1 ⟨rfl,P⟩;have t:Hid (Ch ag w0 w1):=Z (Ch.trans ay P);have m:=Z (J.af t);have z:Hid (aj K c/\aR L Y c b o):=Z ⟨B,D⟩;have G:=Z ((Nx.af t).row s.1 s.2);obtain⟨t0,t1,t2,t3,t4,t5,t6⟩:=G.1.c7;have A:=m.at_.aA z.1 z.2 a.toNat (by omega);rw[u]at A))
  all_goals
   have k1:=m.at_.cO;go_wp2_with fail
   refine(H _ m.at_).mono ?_;rintro e w2 ⟨⟨v,rfl,Q⟩,a9,X,N⟩;obtain rfl:v=.nilIface:=Q;have n:=Z (m.trans (Gr.refl _) N);have bZ:=n.at_.fD (i:=i) (by exact V);have bX:=n.at_.uq (i*38+1);have al:=Z (n.at_.jT (i:=i) (by exact V) 0);go_wp2
   go_ret;rw[E];obtain⟨bw,ad,bv⟩:=al.out;have M:=n.trans (Gr.of_eq rfl) bv;exact⟨rfl,bw,ad,M.at_,M.nx,fun _=>M.yk⟩
theorem sF(i:Nat)(dr:i<K.wk.length)(c:cJ)(b o:Nat)(cS:aj K c)(dC:aR L Y c b o)(al:∀k,k<32->aK ((K.F c).r k))(a t d n u z:Int)(cQ:0<=a/\a<32)(di:0<=d/\d<32)(dN:aK n)(c9:∀v,(K.mem.acc 4 (dE (K.F c).r ⟨32,a,t,d,n,u,z⟩) ((K.F c).r a.toNat) ((K.F c).r d.toNat)).1=some v->aK v)(h:ae w χ L Y C K):
 Calls prog 165 #[(L.mb,0),(L.wb,i*38),(b,o),.agg #[.int .i64 32,a,t,d,.int .u64 n,u,z]] w (dO (bf K i c ⟨32,a,t,d,n,u,z⟩) χ L Y C K w):=by
 have ex:=Z h;have q:=Z cS;have B:=Z dC;have ci:=Z dr;obtain⟨w0,c0,ap,T,Q⟩:=h.pre 32 a t d n u z;obtain⟨eL,eS⟩:=cQ;obtain⟨O,cb⟩:∃y,(K.F c).r a.toNat=y:=⟨_,rfl⟩;have M:=Z cb;have c4:=Z (al a.toNat (by omega));rw[cb]at c4;obtain⟨ey,eA⟩:=c4.out;obtain⟨eW,e'⟩:=di;obtain⟨P,cd⟩:∃y,(K.F c).r d.toNat=y:=⟨_,rfl⟩;have D:=Z cd;have bi:=Z (al d.toNat (by omega));rw[cd]at bi;obtain⟨eC,eG⟩:=bi.out;obtain⟨t0,t1,t2,t3,t4,t5,t6⟩:=Q.1.c7;have G:=T.at_.aA q B a.toNat (by omega);rw[M]at G;have s:=T.at_.aA q B d.toNat (by omega);rw[D]at s;obtain⟨V,bx⟩:=nm (dE (K.F c).r ⟨32,a,t,d,n,u,z⟩);have a3:=Z bx;have c8:=lM (x:=⟨32,a,t,d,n,u,z⟩) al dN;rw[bx]at c8;have am:=Z c8;have av:Hid (∀w1:World,Ch ag w w1->fq w1 b o (K.F c).pc (K.F c).r):=Z (fun w1 cW=>by obtain⟨pre,post,v,dp⟩:=(h.af cW).cur q B;exact dp.fr);have S:=Z (fun w h=>kD b o (K.F c).pc (K.F c).r ⟨32,a,t,d,n,u,z⟩ w h);rw[bx]at S;unfold aL at S;try dsimp only at S
 obtain⟨p,bZ⟩:=nm (K.mem.acc 4 V O P);have bb:=Z bZ;have a9:=Z (fun w h=>G0 (K:=K) (w:=w) (χ:=χ) (L:=L) (Y:=Y) (C:=C) V O P am bi h);rw[a3,M,D,bZ]at c9;rw[bZ]at a9;have cm:=Z c9;have cq:=Z al;obtain⟨r,H⟩:=p;cases r with
 |none=>
  have E:Hid (bf K i c ⟨32,a,t,d,n,u,z⟩=(2,{K with mem:=H})):=Z (by unfold bf;dsimp only;rw[if_neg (by decide),a3,M,D,bb]);go_in
  go_wp2
  try rw[c0]
  go_region_held3 (fun w'=>w'.cell? ⟨w.heap.size,0,none⟩=some (.int .i64 32)/\w'.cell? ⟨w.heap.size,1,none⟩=some (.int .i64 a)/\w'.cell? ⟨w.heap.size,2,none⟩=some (.int .i64 t)/\w'.cell? ⟨w.heap.size,3,none⟩=some (.int .i64 d)/\w'.cell? ⟨w.heap.size,4,none⟩=some (.int .u64 n)/\w'.cell? ⟨w.heap.size,5,none⟩=some (.int .i64 u)/\w'.cell? ⟨w.heap.size,6,none⟩=some (.int .i64 z)/\w'.cell? (b,o+1+a.toNat)=some (.int .u64 O)) (go_keep) ((go_at_call 140;refine(S w0.drew (av _ ap.drew)).mono ?_;rintro e w1 ⟨rfl,a0⟩;have J:Hid (Ch ag w0 w1):=Z (Ch.trans ay a0);have j:=Z (T.af J);have m:Hid (aj K c/\aR L Y c b o):=Z ⟨q,B⟩;have A:=Z ((Nx.af J).row Q.1 Q.2);obtain⟨t0,t1,t2,t3,t4,t5,t6⟩:=A.1.c7;have G:=j.at_.aA m.1 m.2 a.toNat (by omega);rw[M]at G))
  all_goals
   have k1:=j.at_.cO;have s:=j.at_.aA m.1 m.2 d.toNat (by omega);rw[D]at s;go_wp2
   go_region_held3 (fun w'=>w'.cell? (L.mb,1007)=some (.pointer (some (L.m,0)))/\w'.cell? ⟨w.heap.size,3,none⟩=some (.int .i64 d)/\w'.cell? (b,o+1+d.toNat)=some (.int .u64 P)) (go_keep) ((go_at_call 204;refine(a9 _ j.at_.drew).mono ?_;rintro e w2 ⟨⟨v,rfl,e4⟩,ce,c5,N⟩;obtain⟨tt,fb,rfl⟩:=e4;have f:=Z ((j.af ay).trans (Gr.refl _) N);have I:=Z (((Nx.af (Ch.refl _ w1).drew).trans N.nx).row A.1 A.2);have g:=Z (f.cur q B (Gr.of_eq rfl) rfl);have k1:=f.at_.cO;have t1:=I.1.k 1 rfl;have t3:=I.1.k 3 rfl;have G:=f.at_.aA g.1 g.2 a.toNat (by omega);have s:=f.at_.aA g.1 g.2 d.toNat (by omega);rw[show(({K with mem:=H}:KS).F c).r d.toNat=P from D.out]at s))
   all_goals
    go_wp2
    go_ret;rw[E];exact⟨rfl,_,_,f.at_,f.nx,fun _=>f.yk⟩
 |some F=>
  have cl:Hid (aK F):=Z (cm F rfl);obtain⟨K1,ad⟩:=mn (({K with mem:=H}:KS).ax c a.toNat F);have a5:=Z ad;have aP:Hid (Gr K K1):=Z (by rw[ad];exact(Gr.of_eq (K:=K) (K':={K with mem:=H}) rfl).trans (bA (q.gr (K':={K with mem:=H}) (Gr.of_eq rfl) rfl) _));have bv:Hid (K1.wk.length=K.wk.length):=Z (by rw[ad];exact(br _ _));have ct:Hid (aK ((K1.F c).r 16)):=Z (by
   rw[ad];have cC:((({K with mem:=H}:KS).ax c a.toNat F).F c).r 16=fW (K.F c).r a.toNat F 16:=by
    show((KS.cI _ c _).F c).r 16=_
    rw[Eh (q.gr (K':={K with mem:=H}) (Gr.of_eq rfl) rfl)];rfl
   rw[cC];unfold fW;split
   ·exact cl
   ·exact cq 16 (by omega))
  obtain⟨c2,ca⟩:=nm ((K1.F c).r 16);have bd:=Z ca;have cs:Hid (aK c2):=Z (by rw[<-ca];exact ct);obtain⟨wi,en⟩:=nm (K1.mem.wid V);have ab:=Z en;obtain⟨c7,R⟩:=nm (hk wi O);have a4:=Z R;by_cases bX:F=c7
  ·subst bX
   have E:Hid (bf K i c ⟨32,a,t,d,n,u,z⟩=(0,eK K1 i c2)):=Z (by unfold bf;dsimp only;rw[if_neg (by decide),a3,M,D,bb];dsimp only;rw[<-a5,ab,a4,if_pos rfl,bd]);go_in
   go_wp2
   try rw[c0]
   go_region_held3 (fun w'=>w'.cell? ⟨w.heap.size,0,none⟩=some (.int .i64 32)/\w'.cell? ⟨w.heap.size,1,none⟩=some (.int .i64 a)/\w'.cell? ⟨w.heap.size,2,none⟩=some (.int .i64 t)/\w'.cell? ⟨w.heap.size,3,none⟩=some (.int .i64 d)/\w'.cell? ⟨w.heap.size,4,none⟩=some (.int .u64 n)/\w'.cell? ⟨w.heap.size,5,none⟩=some (.int .i64 u)/\w'.cell? ⟨w.heap.size,6,none⟩=some (.int .i64 z)/\w'.cell? (b,o+1+a.toNat)=some (.int .u64 O)) (go_keep) ((go_at_call 140;refine(S w0.drew (av _ ap.drew)).mono ?_;rintro e w1 ⟨rfl,a0⟩;have J:Hid (Ch ag w0 w1):=Z (Ch.trans ay a0);have j:=Z (T.af J);have m:Hid (aj K c/\aR L Y c b o):=Z ⟨q,B⟩;have A:=Z ((Nx.af J).row Q.1 Q.2);obtain⟨t0,t1,t2,t3,t4,t5,t6⟩:=A.1.c7;have G:=j.at_.aA m.1 m.2 a.toNat (by omega);rw[M]at G))
   all_goals
    have k1:=j.at_.cO;have s:=j.at_.aA m.1 m.2 d.toNat (by omega);rw[D]at s;go_wp2
    go_region_held3 (fun w'=>w'.cell? (L.mb,1007)=some (.pointer (some (L.m,0)))/\w'.cell? ⟨w.heap.size,3,none⟩=some (.int .i64 d)/\w'.cell? (b,o+1+d.toNat)=some (.int .u64 P)) (go_keep) ((go_at_call 204;refine(a9 _ j.at_.drew).mono ?_;rintro e w2 ⟨rfl,ce,c5,N⟩;have f:=Z ((j.af ay).trans (Gr.refl _) N);have I:=Z (((Nx.af (Ch.refl _ w1).drew).trans N.nx).row A.1 A.2);have g:=Z (f.cur q B (Gr.of_eq rfl) rfl);have k1:=f.at_.cO;have t1:=I.1.k 1 rfl;have t3:=I.1.k 3 rfl;have G:=f.at_.aA g.1 g.2 a.toNat (by omega);have s:=f.at_.aA g.1 g.2 d.toNat (by omega);rw[show(({K with mem:=H}:KS).F c).r d.toNat=P from D.out]at s))
    all_goals
     have cF:=f.at_.hy g.1 g.2 (o+1+a.toNat);have X:=f.at_.drew.a7 g.1 g.2 a.toNat (by omega) F;rw[<-a5]at X;obtain⟨ch,c6,W⟩:=X;obtain⟨c3,a1⟩:=nm (w2.drew.setCell (b,o+1+a.toNat) (.int .u64 F));rw[a1]at W;have l:=Z ((f.af ay).trans (Gr.of_eq rfl) W);have U:=Z (l.cur q B aP bv);have k3:=l.at_.cO;have c1:=l.at_.aA U.1 U.2 16 (by omega);rw[bd]at c1;go_wp2
     go_still_tail 6,(by kernel_rfl)
     change wpList _ _ _ _ _ w2.drew;go_wp2_with fail
     try rw[a1]
     have a2:=zW V am l.at_;rw[ab]at a2;refine a2.mono ?_;rintro e w4 ⟨rfl,rfl⟩;go_wp2_with fail
     have R:=ky wi O c3;rw[a4]at R;refine R.mono ?_;rintro e es ⟨rfl,rfl⟩;go_wp2_with fail
     refine(pJ (K:=K1) i (by rw[bv];exact ci) c2 cs l.at_).mono ?_;rintro e eI ⟨rfl,et,cA,cL⟩;have bw:=Z (l.trans aP cL);go_wp2
     go_ret;rw[E];exact⟨rfl,et,cA,bw.at_,bw.nx,fun _=>bw.yk⟩
  ·have E:Hid (bf K i c ⟨32,a,t,d,n,u,z⟩=(0,K1)):=Z (by unfold bf;dsimp only;rw[if_neg (by decide),a3,M,D,bb];dsimp only;rw[<-a5,ab,a4,if_neg bX])
   go_in
   go_wp2
   try rw[c0]
   go_region_held3 (fun w'=>w'.cell? ⟨w.heap.size,0,none⟩=some (.int .i64 32)/\w'.cell? ⟨w.heap.size,1,none⟩=some (.int .i64 a)/\w'.cell? ⟨w.heap.size,2,none⟩=some (.int .i64 t)/\w'.cell? ⟨w.heap.size,3,none⟩=some (.int .i64 d)/\w'.cell? ⟨w.heap.size,4,none⟩=some (.int .u64 n)/\w'.cell? ⟨w.heap.size,5,none⟩=some (.int .i64 u)/\w'.cell? ⟨w.heap.size,6,none⟩=some (.int .i64 z)/\w'.cell? (b,o+1+a.toNat)=some (.int .u64 O)) (go_keep) ((go_at_call 140;refine(S w0.drew (av _ ap.drew)).mono ?_;rintro e w1 ⟨rfl,a0⟩;have J:Hid (Ch ag w0 w1):=Z (Ch.trans ay a0);have j:=Z (T.af J);have m:Hid (aj K c/\aR L Y c b o):=Z ⟨q,B⟩;have A:=Z ((Nx.af J).row Q.1 Q.2);obtain⟨t0,t1,t2,t3,t4,t5,t6⟩:=A.1.c7;have G:=j.at_.aA m.1 m.2 a.toNat (by omega);rw[M]at G))
   all_goals
    have k1:=j.at_.cO;have s:=j.at_.aA m.1 m.2 d.toNat (by omega);rw[D]at s;go_wp2
    go_region_held3 (fun w'=>w'.cell? (L.mb,1007)=some (.pointer (some (L.m,0)))/\w'.cell? ⟨w.heap.size,3,none⟩=some (.int .i64 d)/\w'.cell? (b,o+1+d.toNat)=some (.int .u64 P)) (go_keep) ((go_at_call 204;refine(a9 _ j.at_.drew).mono ?_;rintro e w2 ⟨rfl,ce,c5,N⟩;have f:=Z ((j.af ay).trans (Gr.refl _) N);have I:=Z (((Nx.af (Ch.refl _ w1).drew).trans N.nx).row A.1 A.2);have g:=Z (f.cur q B (Gr.of_eq rfl) rfl);have k1:=f.at_.cO;have t1:=I.1.k 1 rfl;have t3:=I.1.k 3 rfl;have G:=f.at_.aA g.1 g.2 a.toNat (by omega);have s:=f.at_.aA g.1 g.2 d.toNat (by omega);rw[show(({K with mem:=H}:KS).F c).r d.toNat=P from D.out]at s))
    all_goals
     have cF:=f.at_.hy g.1 g.2 (o+1+a.toNat);have X:=f.at_.drew.a7 g.1 g.2 a.toNat (by omega) F;rw[<-a5]at X;obtain⟨ch,c6,W⟩:=X;obtain⟨c3,a1⟩:=nm (w2.drew.setCell (b,o+1+a.toNat) (.int .u64 F));rw[a1]at W;have l:=Z ((f.af ay).trans (Gr.of_eq rfl) W);have U:=Z (l.cur q B aP bv);have k3:=l.at_.cO;have c1:=l.at_.aA U.1 U.2 16 (by omega);rw[bd]at c1;go_wp2
     go_still_tail 6,(by kernel_rfl)
     change wpList _ _ _ _ _ w2.drew;go_wp2_with fail
     try rw[a1]
     have a2:=zW V am l.at_;rw[ab]at a2;refine a2.mono ?_;rintro e w4 ⟨rfl,rfl⟩;go_wp2_with fail
     have R:=ky wi O c3;rw[a4]at R;refine R.mono ?_;rintro e es ⟨rfl,rfl⟩;have hb:(F==c7)=false:=(by rw[beq_eq_false_iff_ne];exact bX);go_wp2
     go_ret;rw[E];exact⟨rfl,ch,c6,l.at_,l.nx,fun _=>l.yk⟩
def F5(l:List Value)(w:World)(p:Value)(wc:World):Prop:=∃a,p=.pointer (some ⟨a,0,none⟩)/\Row wc a 82 l/\Ch ag w wc/\w.heap.size<=a
theorem jV(id:Int)(c:cJ)(b o:Nat)(P:aj K c)(a3:aR L Y c b o)(g f l m n d a:Int)(c3:i' g=true->0<=f/\f<32)(hb:K.out.length<=900000)(h:ae w χ L Y C K):
 Calls prog 134 #[(L.mb,0),.int .u64 id,(b,o),.agg #[g,f,l,m,.int .u64 n,d,a]] w (dk (.tuple #[]) χ L Y C K (dc K id c ⟨g,f,l,m,n,d,a⟩) w):=by
 have am:=Z P;have bb:=Z a3;have H:=Z hb;obtain⟨w0,G,ap,O,J⟩:=h.sh g f l m n d a;obtain⟨t0,t1⟩:=J.c2;have t5:=J.k 5 rfl;have t6:=J.k 6 rfl;have al:=Z c3;obtain⟨k,a4⟩:∃y,(K.F c).r 0=y:=⟨_,rfl⟩;have A:=Z a4;have Q:=O.at_.aA P a3 0 (by omega);rw[a4]at Q;by_cases q:d=0
 ·have E:Hid (dc K id c ⟨g,f,l,m,n,d,a⟩=K):=Z (by unfold dc;rw[if_pos q])
  subst q;go_in
  go_wp2
  try rw[G]
  refine bodyPost_ret (results_none rfl _ _ _) rfl ?_;rw[E];exact⟨rfl,_,_,O⟩
 ·have cd:(d==0)=false:=by rw[beq_eq_false_iff_ne];exact q
  go_in
  go_wp2
  try rw[G]
  go_cut [8] (fun p wc=>F5 [.int .i64 5,.int .i64 0,.int .i64 0,.int .u64 id,d,.int .u64 0,.int .u64 0,.int .u64 0,.int .u64 0,.int .u64 k,.int .u64 0] w0 p wc)
  case first=>
   have ch:=World.new_ne w0 ⟨w.heap.size,5,none⟩ t5;have ci:=World.new_ne w0 ⟨b,o+1+0,none⟩ Q;have cl:b≠w0.heap.size:=Nat.ne_of_lt (aQ Q);have cm:w.heap.size≠w0.heap.size:=Nat.ne_of_lt (aQ t5);go_region_held3 (fun w'=>w'.cell? (w.heap.size,5)=some (.int .i64 d)/\w'.cell? (b,o+1+0)=some (.int .u64 k)) (go_keep) (fail)
   all_goals(go_wp2_with fail;go_meet)
   all_goals exact⟨w0.heap.size,rfl,(Row.new w0 _ _).drew,ay,Nat.le_refl _⟩
  case rest=>
   obtain⟨D,rfl,c8,P,hle⟩:=hcut;have N:=Z c8;have a0:=Z P;have V:=Z (O.af a0);have M:=Z (J.ch a0 (fun h=>h));have c4:w.heap.size<=D:=Nat.le_trans ap.size hle;have av:=Z c4;have ce:b≠D:=(fun e=>by have W:=aQ Q;dsimp only at W;omega);have c5:w.heap.size≠D:=(fun e=>by have W:=aQ t0;dsimp only at W;omega);have aP:Hid (χ D=.no):=Z (O.at_.fresh hle);have t0:=M.c1;have U:=Z (z7 g wc);obtain⟨ca,a5⟩:=nm (i' g);rw[a5]at U;have T:=Z a5;obtain⟨ab,v⟩:∃p,(a==0)=p:=⟨_,rfl⟩;obtain⟨p1,c6⟩:∃p,(a==1)=p:=⟨_,rfl⟩;have cb:=Z v;have F:=Z c6;cases ca
   ·have r:Hid ((if i' g=true then(K.F c).r f.toNat else 0)=0):=Z (by rw[if_neg (by rw[T.out];simp)])
    go_wp2_with fail
    refine U.mono ?_;rintro e w2 ⟨rfl,rfl⟩;go_upto_region 5 with fail
    have j:=V;have S:=N;have R:=M;have B:Hid (((0:Int)==0)=true):=Z rfl;obtain⟨bd,bi,bv,bw,bx,bX,bZ,c0,c1,c2,a2⟩:=S.BJ;have t6:=R.k 6 rfl;cases ab
    ·cases p1
     ·have I:¬(a=0∨((a==1)=(0==(0:Int)))):=fun e=>e.elim (fun e=>by rw[beq_eq_false_iff_ne]at v;exact v e) (fun e=>by rw[F,B]at e;cases e)
      have E:Hid (dc K id c ⟨g,f,l,m,n,d,a⟩=K):=Z (by unfold dc;dsimp only;rw[if_neg q,r,A,if_neg (I)]);go_wp2
      go_end0
      rw[E];exact⟨rfl,_,_,j⟩
     ·have x:a=0∨((a==1)=(0==(0:Int))):=Or.inr (by rw[F,B])
      have E:Hid (dc K id c ⟨g,f,l,m,n,d,a⟩=tell K ⟨5,0,0,id,d,0,0,0,0,k,0⟩):=Z (by unfold dc;dsimp only;rw[if_neg q,r,A,if_pos (x)]);go_wp2_with fail
      refine(dI 5 0 0 id d 0 0 0 0 k 0 H j.at_).mono ?_;rintro e w4 ⟨rfl,z,t,u⟩;have s:=Z (j.trans (Gr.refl _) u);go_wp2
      go_end0
      rw[E];exact⟨rfl,z,t,s⟩
    ·have G:a=0:=by simpa using v
     have x:a=0∨((a==1)=(0==(0:Int))):=Or.inl G;have E:Hid (dc K id c ⟨g,f,l,m,n,d,a⟩=tell K ⟨5,0,0,id,d,0,0,0,0,k,0⟩):=Z (by unfold dc;dsimp only;rw[if_neg q,r,A,if_pos (x)]);go_wp2_with fail
     refine(dI 5 0 0 id d 0 0 0 0 k 0 H j.at_).mono ?_;rintro e w4 ⟨rfl,z,t,u⟩;have s:=Z (j.trans (Gr.refl _) u);go_wp2
     go_end0
     rw[E];exact⟨rfl,z,t,s⟩
   ·obtain⟨cq,cs⟩:=al T
    obtain⟨i,a9⟩:∃y,(K.F c).r f.toNat=y:=⟨_,rfl⟩;have r:Hid ((if i' g=true then(K.F c).r f.toNat else 0)=i):=Z (by rw[if_pos T.out];exact a9);have c9:=V.at_.aA am bb f.toNat (by omega);rw[a9]at c9;have t1:=M.k 1 rfl;have a2:=N.k 10 rfl;have g10:=N.free 10;go_wp2_with fail
    refine U.mono ?_;rintro e w2 ⟨rfl,rfl⟩;go_wp2
    go_still_tail 8,(by kernel_rfl)
    change wpList _ _ _ _ _ wc.drew;go_upto_region 5 with fail
    obtain⟨ad,X⟩:=nm ((wc.setCell (D,10) (.int .u64 i)).drew);have a1:Hid (Ch (aH D) wc ad):=Z (by rw[<-X];exact ay);have S:Hid (Row ad D 82 [.int .i64 5,.int .i64 0,.int .i64 0,.int .u64 id,d,.int .u64 0,.int .u64 0,.int .u64 0,.int .u64 0,.int .u64 k,.int .u64 i]):=Z (by rw[<-X];exact(N.set 10 _).drew);have j:=Z (V.plain aP av a1);have R:=Z (M.ch a1 (fun e=>c5 e));rw[X];obtain⟨p2,c7⟩:∃p,(i==(0:Int))=p:=⟨_,rfl⟩;have B:=Z c7;obtain⟨bd,bi,bv,bw,bx,bX,bZ,c0,c1,c2,a2⟩:=S.BJ;have t6:=R.k 6 rfl;cases ab
    ·cases p1<;>cases p2
     ·have x:a=0∨((a==1)=(i==(0:Int))):=Or.inr (by rw[F,B])
      have E:Hid (dc K id c ⟨g,f,l,m,n,d,a⟩=tell K ⟨5,0,0,id,d,0,0,0,0,k,i⟩):=Z (by unfold dc;dsimp only;rw[if_neg q,r,A,if_pos (x)]);go_wp2_with fail
      refine(dI 5 0 0 id d 0 0 0 0 k i H j.at_).mono ?_;rintro e w4 ⟨rfl,z,t,u⟩;have s:=Z (j.trans (Gr.refl _) u);go_wp2
      go_end0
      rw[E];exact⟨rfl,z,t,s⟩
     ·have I:¬(a=0∨((a==1)=(i==(0:Int)))):=fun e=>e.elim (fun e=>by rw[beq_eq_false_iff_ne]at v;exact v e) (fun e=>by rw[F,B]at e;cases e)
      have E:Hid (dc K id c ⟨g,f,l,m,n,d,a⟩=K):=Z (by unfold dc;dsimp only;rw[if_neg q,r,A,if_neg (I)]);go_wp2
      go_end0
      rw[E];exact⟨rfl,_,_,j⟩
     ·have I:¬(a=0∨((a==1)=(i==(0:Int)))):=fun e=>e.elim (fun e=>by rw[beq_eq_false_iff_ne]at v;exact v e) (fun e=>by rw[F,B]at e;cases e)
      have E:Hid (dc K id c ⟨g,f,l,m,n,d,a⟩=K):=Z (by unfold dc;dsimp only;rw[if_neg q,r,A,if_neg (I)]);go_wp2
      go_end0
      rw[E];exact⟨rfl,_,_,j⟩
     ·have x:a=0∨((a==1)=(i==(0:Int))):=Or.inr (by rw[F,B])
      have E:Hid (dc K id c ⟨g,f,l,m,n,d,a⟩=tell K ⟨5,0,0,id,d,0,0,0,0,k,i⟩):=Z (by unfold dc;dsimp only;rw[if_neg q,r,A,if_pos (x)]);go_wp2_with fail
      refine(dI 5 0 0 id d 0 0 0 0 k i H j.at_).mono ?_;rintro e w4 ⟨rfl,z,t,u⟩;have s:=Z (j.trans (Gr.refl _) u);go_wp2
      go_end0
      rw[E];exact⟨rfl,z,t,s⟩
    ·have G:a=0:=by simpa using v
     have x:a=0∨((a==1)=(i==(0:Int))):=Or.inl G;have E:Hid (dc K id c ⟨g,f,l,m,n,d,a⟩=tell K ⟨5,0,0,id,d,0,0,0,0,k,i⟩):=Z (by unfold dc;dsimp only;rw[if_neg q,r,A,if_pos (x)]);go_wp2_with fail
     refine(dI 5 0 0 id d 0 0 0 0 k i H j.at_).mono ?_;rintro e w4 ⟨rfl,z,t,u⟩;have s:=Z (j.trans (Gr.refl _) u);go_wp2
     go_end0
     rw[E];exact⟨rfl,z,t,s⟩
theorem ae.wu(h:ae w χ L Y C K){q:Nat}{r:bB}(c:C.calls[q]?=some r):∃g,L.ll=some ⟨g,0,none⟩/\w.cell? ⟨g,q*6,none⟩=some (.int .i64 r.num)/\w.cell? ⟨g,q*6+1,none⟩=some (.int .i64 r.at_)/\w.cell? ⟨g,q*6+2,none⟩=some (.int .i64 r.k0)/\w.cell? ⟨g,q*6+3,none⟩=some (.int .i64 r.k1)/\w.cell? ⟨g,q*6+4,none⟩=some (.int .i64 r.k2)/\w.cell? ⟨g,q*6+5,none⟩=some (.int .i64 r.k3):=by
 obtain⟨g,m,d,f,_⟩:=(h.code (by simp)).calls (by intro e;rw[e]at c;cases c);have l:=(List.getElem?_eq_some_iff.1 c).1;have a:∀j v,j<6->r.cells[j]?=some v->w.cell? ⟨g,q*6+j,none⟩=some v:=fun j v i k=>f.cell (by
  rw[List.getElem?_append_left (by rw[aU (enc:=bB.cells) bB.len];omega)];exact(bJ bB.len c i).trans k)
 exact⟨g,d,a 0 _ (by omega) rfl,a 1 _ (by omega) rfl,a 2 _ (by omega) rfl,a 3 _ (by omega) rfl,a 4 _ (by omega) rfl,a 5 _ (by omega) rfl⟩
theorem gB(k a:Int)(l:List (Int×Int)):cw C K ((k,a)::l)=if k=0 then cw C K l else if k=7 then(if IntKind.u64.wrap C.cells<=a then 22 else cw C K l)else if(gp K.cT a k).isNone then 22 else cw C K l:=rfl
variable{k0 k1 k2 k3 a0 a1 a2 a3 kd:Int}{t:TypeId}
theorem Ax(a b c d:Int)(W:World):(Instr.index 156 (.agg #[a,.int .i64 b,c,d]) (.int .i64 0)).run prog W=.ok (.int .i64 a) W:=by kernel_rfl
theorem F6(hb:Row w b t [.int .u64 a0,.int .u64 a1,.int .u64 a2,.int .u64 a3])(d:cw C K ([(k0,a0),(k1,a1),(k2,a2),(k3,a3)].drop 0)=kd):∃c a l,(Instr.index 156 (.agg #[k0,k1,k2,k3]) (.int .i64 0)).run prog w=.ok (.int .i64 c) w/\w.cell? (b,0)=some (.int .u64 a)/\cw C K ((c,a)::l)=kd/\l=[(k0,a0),(k1,a1),(k2,a2),(k3,a3)].drop (0+1):=⟨k0,a0,_,Ax _ _ _ _ _,hb.cell (i:=0) rfl,d,rfl⟩
theorem Ay(a b c d:Int)(W:World):(Instr.index 156 (.agg #[a,.int .i64 b,c,d]) (.int .i64 1)).run prog W=.ok (.int .i64 b) W:=by kernel_rfl
theorem F7(hb:Row w b t [.int .u64 a0,.int .u64 a1,.int .u64 a2,.int .u64 a3])(d:cw C K ([(k0,a0),(k1,a1),(k2,a2),(k3,a3)].drop 1)=kd):∃c a l,(Instr.index 156 (.agg #[k0,k1,k2,k3]) (.int .i64 1)).run prog w=.ok (.int .i64 c) w/\w.cell? (b,1)=some (.int .u64 a)/\cw C K ((c,a)::l)=kd/\l=[(k0,a0),(k1,a1),(k2,a2),(k3,a3)].drop (1+1):=⟨k1,a1,_,Ay _ _ _ _ _,hb.cell (i:=1) rfl,d,rfl⟩
theorem Az(a b c d:Int)(W:World):(Instr.index 156 (.agg #[a,.int .i64 b,c,d]) (.int .i64 2)).run prog W=.ok (.int .i64 c) W:=by kernel_rfl
theorem F8(hb:Row w b t [.int .u64 a0,.int .u64 a1,.int .u64 a2,.int .u64 a3])(d:cw C K ([(k0,a0),(k1,a1),(k2,a2),(k3,a3)].drop 2)=kd):∃c a l,(Instr.index 156 (.agg #[k0,k1,k2,k3]) (.int .i64 2)).run prog w=.ok (.int .i64 c) w/\w.cell? (b,2)=some (.int .u64 a)/\cw C K ((c,a)::l)=kd/\l=[(k0,a0),(k1,a1),(k2,a2),(k3,a3)].drop (2+1):=⟨k2,a2,_,Az _ _ _ _ _,hb.cell (i:=2) rfl,d,rfl⟩
theorem AA(a b c d:Int)(W:World):(Instr.index 156 (.agg #[a,.int .i64 b,c,d]) (.int .i64 3)).run prog W=.ok (.int .i64 d) W:=by kernel_rfl
theorem F9(hb:Row w b t [.int .u64 a0,.int .u64 a1,.int .u64 a2,.int .u64 a3])(d:cw C K ([(k0,a0),(k1,a1),(k2,a2),(k3,a3)].drop 3)=kd):∃c a l,(Instr.index 156 (.agg #[k0,k1,k2,k3]) (.int .i64 3)).run prog w=.ok (.int .i64 c) w/\w.cell? (b,3)=some (.int .u64 a)/\cw C K ((c,a)::l)=kd/\l=[(k0,a0),(k1,a1),(k2,a2),(k3,a3)].drop (3+1):=⟨k3,a3,_,AA _ _ _ _ _,hb.cell (i:=3) rfl,d,rfl⟩
theorem qY(id:Int)(t:Thread)(a9:aw K.ai id=some t)(cQ:0<t.l.length)(di:t.l.length<=8)(num:Int)(cS:0<=num)(a0 a1 a2 a3:Int)(cq:0<=C.wide/\C.wide<=256/\0<=C.narrow/\C.narrow<=256)(dp:∀r∈C.rows,0<=r/\r<=C.calls.length)(ct:C.calls.length<=2048)(h:ae w χ L Y C K):
 Calls prog 180 #[(L.mb,0),(Y.bI id,0),num,.agg #[.int .u64 a0,.int .u64 a1,.int .u64 a2,.int .u64 a3]] w (ds (.int .u64 (cM C K id num a0 a1 a2 a3)) w):=by
 have hlen:=(h.head (by simp)).rows;have bi:Hid (K.T id=t):=Z (KS.dm a9);obtain⟨gf,eC,cC,fb,_⟩:=h.hV a9 cQ;have O:=h.DB a9;rw[cC]at O;obtain⟨F,c4⟩:=nm t.l.length;have bd:=Z c4;rw[c4]at O di;obtain⟨tb,dr⟩:=nm (Y.bI id);rw[dr]at O⊢;obtain⟨w0,A⟩:=nm (w.alloc (.cells #[.int .u64 a0,.int .u64 a1,.int .u64 a2,.int .u64 a3] 80));have p:=Z (Ch.al (D:=ag) A);have G:Hid (ae w0 χ L Y C K):=Z (h.af p);have ap:=Z (Row.al A);have fL:=p.k O;by_cases bx:1000<=num
 ·have E:Hid (cM C K id num a0 a1 a2 a3=38):=Z (by unfold cM;rw[if_pos (Or.inl bx)])
  go_in
  go_wp2
  try rw[A]
  go_ret;rw[E];exact⟨rfl,p⟩
 ·obtain⟨m,rfl⟩:=Int.eq_ofNat_of_zero_le cS
  have cF:m<C.rows.length:=by omega
  obtain⟨r,a5⟩:∃r,C.rows[m]?=some r:=⟨_,List.getElem?_eq_getElem cF⟩;have fn:=dp r (List.mem_of_getElem? a5);have S:Hid (C.rows.getD (m:Int).toNat 0=r):=Z (by rw[Int.toNat_natCast,List.getD_eq_getElem?_getD,a5];rfl);have bw:=G.Ec a5;have fd:(m:Int)<1000:=by omega
  by_cases ad:r=0
  ·subst ad
   have E:Hid (cM C K id m a0 a1 a2 a3=38):=Z (by unfold cM;rw[if_pos (Or.inr S.out)]);go_in
   go_wp2
   try rw[A]
   go_ret;rw[E];exact⟨rfl,p⟩
  ·have fr:(r==0)=false:=by rw[beq_eq_false_iff_ne];exact ad
   have c5:¬(1000<=(m:Int)∨C.rows.getD (m:Int).toNat 0=0):=(fun e=>e.elim bx (fun e=>ad (S.symm.trans e)));by_cases V:7<=F/\(m:Int)≠2
   ·have E:Hid (cM C K id m a0 a1 a2 a3=11):=Z (by unfold cM;rw[if_neg c5,bi,bd,if_pos V])
    obtain⟨bX,cl⟩:=V;have bZ:(7:Int)<=(F:Int):=(by omega);have eL:((m:Int)==2)=false:=(by rw[beq_eq_false_iff_ne];exact cl);go_in
    go_wp2
    try rw[A]
    go_ret;rw[E];exact⟨rfl,p⟩
   ·have cs:F<7∨7<=F/\m=2:=by omega
    obtain⟨q,rfl⟩:∃q:Nat,r=(q:Int)+1:=⟨(r-1).toNat,by omega⟩;obtain⟨c,g⟩:∃c,C.calls[q]?=some c:=⟨_,List.getElem?_eq_getElem (by omega)⟩;have cb:Hid (C.calls.getD (C.rows.getD (m:Int).toNat 0-1).toNat default=c):=Z (by rw[S,show((q:Int)+1-1).toNat=q by omega,List.getD_eq_getElem?_getD,g];rfl);have E:Hid (cM C K id (m:Int) a0 a1 a2 a3=cw C K [(c.k0,a0),(c.k1,a1),(c.k2,a2),(c.k3,a3)]):=Z (by unfold cM;rw[if_neg c5,bi,bd,if_neg V];dsimp only;rw[cb]);obtain⟨eI,c2,en,es,c7,c8,c9,ca⟩:=G.wu g;have ex:=Z (And.intro c2 (And.intro c7 (And.intro c8 (And.intro c9 ca))));obtain⟨eG,eA,k0,k1,k2,k3⟩:=c;dsimp only at en es c7 c8 c9 ca E;have bv:=G.c2;rw[c2]at bv;obtain⟨ce,cm⟩:=nm C.calls.length;have fk:(q:Int)<(ce:Int):=(by have:=(List.getElem?_eq_some_iff.1 g).1;omega);rw[cm]at bv ct;have fz:IntKind.i64.wrap ((q:Int)+1-1)=q:=(by rw[show(q:Int)+1-1=q by omega];exact IntWalk.i64_in _ (by omega));have fK:(q:Int)+1-1=q:=(by omega);have aP:=Z (fun w (h:ae w χ L Y C K)=>n4 h cq);have c1:0<=C.cells/\C.cells<=512:=(by unfold KC.cells;omega);obtain⟨U,c0⟩:=nm C.cells;rw[c0]at aP c1;obtain⟨eS,eW⟩:=c1;have J:Hid (IntKind.u64.wrap U=U):=Z (by unfold IntKind.wrap IntKind.bits IntKind.signed;simp;omega);have av:=Z c0;obtain⟨kd,M⟩:=nm (cw C K [(k0,a0),(k1,a1),(k2,a2),(k3,a3)]);rw[M]at E;have cd:=Z M;rcases cs with bX|⟨bX,rfl⟩
    all_goals
     try have bw:w0.cell? (L.mb,9)=_:=bw
     try have bZ:(F:Int)<7:=by omega
     try have bZ:(7:Int)<=(F:Int):=by omega
     go_in
     go_wp2
     try rw[A]
     go_quiet (fail)
     obtain⟨w1,c6⟩:=nm (w0.drewN nq);have P:Hid (Ch ag w0 w1):=Z (by rw[<-c6];exact ay);rw[c6];have ey:=Z (G.af P);have et:=Z (ap.ch P (fun h=>h));go_wp2
     go_loopg [49] 5 (fun gk u wr=>∃k:Nat,k<=4/\gk=4-k+1/\u=.int .i64 k/\Hid (Ch ag w0 wr/\cw C K ([(k0,a0),(k1,a1),(k2,a2),(k3,a3)].drop k)=kd))
     case atStart=>exact⟨0,by omega,by omega,rfl,P,cd⟩
     case round=>
      obtain⟨k,e',rfl,rfl,f⟩:=hrel;have z:=Z (G.af f.1);have I:=Z (ap.ch f.1 (fun h=>h));have bb:=Z (fun n=>aP _ (z.drewN n));have co:=z.iq;obtain⟨am,cW⟩:=mn (k+1);obtain⟨al,cL⟩:=mn (4-k);have a:=Z (And.intro cW cL);obtain rfl|rfl|rfl|rfl|rfl:k=0∨k=1∨k=2∨k=3∨k=4:=by omega
      rotate_right
      ·have M:kd=0:=f.2.symm
       go_wp2
       go_ret;rw[E,M];exact⟨rfl,p.trans f.1⟩
      all_goals
       first
        |obtain⟨d,o,l,a4,x,s,N⟩:=F6 (k0:=k0) (k1:=k1) (k2:=k2) (k3:=k3) I f.2
        |obtain⟨d,o,l,a4,x,s,N⟩:=F7 (k0:=k0) (k1:=k1) (k2:=k2) (k3:=k3) I f.2
        |obtain⟨d,o,l,a4,x,s,N⟩:=F8 (k0:=k0) (k1:=k1) (k2:=k2) (k3:=k3) I f.2
        |obtain⟨d,o,l,a4,x,s,N⟩:=F9 (k0:=k0) (k1:=k1) (k2:=k2) (k3:=k3) I f.2
       have R:=Z N;by_cases y:d=0
       ·have g:cw C K l=kd:=by rw[<-s];exact(show cw C K ((d,o)::_)=_ by rw[gB,if_pos y]).symm
        have j:=Z g;have dN:(d==0)=true:=(by rw[beq_iff_eq];exact y);go_wp2
        go_roundg (al)
        case measure=>have:=a.out;omega
        case rel=>exact⟨am,by have:=a.out;omega,by have:=a.out;omega,by rw[a.1];rfl,f.1,by rw[a.1];exact R▸j⟩
       ·have dN:(d==0)=false:=by rw[beq_eq_false_iff_ne];exact y
        by_cases B:d=7
        ·have e4:(d==7)=true:=by rw[beq_iff_eq];exact B
         by_cases c3:U<=o
         ·have g:kd=22:=by rw[<-s,gB,if_neg y,if_pos B,if_pos (by rw[av.out,J];exact c3)]
          have j:=Z g;have cA:=J.out;go_wp2
          go_quiet ((go_at_call 112;exact Calls.quiet_of (bb _)))
          generalize ab:wr.drewN _=H;have i:=Z (Ch.dN (D:=ag) ab);go_wp2
          go_ret;rw[E,j];exact⟨rfl,(p.trans f.1).trans i⟩
         ·have g:cw C K l=kd:=by rw[<-s];exact(show cw C K ((d,o)::_)=_ by rw[gB,if_neg y,if_pos B,if_neg (by rw[av.out,J];exact c3)]).symm
          have j:=Z g;have cA:=J.out;go_wp2
          go_quiet ((go_at_call 112;exact Calls.quiet_of (bb _)))
          generalize ab:wr.drewN _=H;have i:=Z (Ch.dN (D:=ag) ab);go_wp2
          go_roundg (al)
          case measure=>have:=a.out;omega
          case rel=>exact⟨am,by have:=a.out;omega,by have:=a.out;omega,by rw[a.1];rfl,f.1.trans i,by rw[a.1];exact R▸j⟩
        ·have e4:(d==7)=false:=by rw[beq_eq_false_iff_ne];exact B
         have Q:=Z (fun w h=>zX (K:=K) (w:=w) (χ:=χ) (L:=L) (Y:=Y) (C:=C) o d h);obtain⟨ci,X⟩:=nm (gp K.cT o d);rw[X]at Q;cases ci with
         |none=>
          have g:kd=22:=(by rw[<-s,gB,if_neg y,if_neg B,X];rfl);have j:=Z g;go_wp2
          go_region_held3 (And.intro co x) (go_keep) ((go_at_call 181;refine(Q _ z.drew).mono ?_;rintro e H ⟨⟨v,rfl,dC⟩,W⟩;obtain⟨tt,fM,rfl⟩:=dC;have i:Hid (Ch ag wr H):=Z (Ch.trans ay W);have T:=Z (z.af i);have ch:=i.k x;have co:=T.iq))
          all_goals
           go_wp2
           go_ret;rw[E,j];exact⟨rfl,(p.trans f.1).trans i⟩
         |some v=>
          have g:cw C K l=kd:=(by rw[<-s];exact(show cw C K ((d,o)::_)=_ by rw[gB,if_neg y,if_neg B,X];rfl).symm);have j:=Z g;go_wp2
          go_region_held3 (And.intro co x) (go_keep) ((go_at_call 181;refine(Q _ z.drew).mono ?_;rintro e H ⟨rfl,W⟩;have i:Hid (Ch ag wr H):=Z (Ch.trans ay W);have T:=Z (z.af i);have ch:=i.k x;have co:=T.iq))
          all_goals
           go_wp2
           go_roundg (al)
           case measure=>have:=a.out;omega
           case rel=>exact⟨am,by have:=a.out;omega,by have:=a.out;omega,by rw[a.1];rfl,f.1.trans i,by rw[a.1];exact R▸j⟩
theorem iu{α:Type}{enc:α->List Value}{k:Nat}(a:∀x,(enc x).length=k)(m:0<k)(x:α)(z:Array Value)(g:z.toList=enc x)(c:Nat):(madeCells z (c*k)).toList=(List.replicate c x).flatMap enc:=by
 have d:z.size=k:=by rw[<-Array.length_toList,g,a]
 apply List.ext_getElem?;intro i;by_cases f:i<c*k
 ·have e:i=(i/k)*k+i%k:=by rw[Nat.mul_comm];exact(Nat.div_add_mod i k).symm
  have l:i/k<c:=Nat.div_lt_of_lt_mul (by rw[Nat.mul_comm];exact f);have b:i%k<k:=Nat.mod_lt _ m;have h:((List.replicate c x).flatMap enc)[i]?=(enc x)[i%k]?:=by
   conv=>lhs;rw[e]
   exact bJ a (by simp[l]) b
  rw[h,<-g];have j:(madeCells z (c*k))[i]?=z[i%k]?:=by
   unfold madeCells;rw[Array.getElem?_map,Array.getElem?_range,if_pos f];simp only[Option.map_some,d];rw[getElem!_pos z (i%k) (by rw[d];exact b),Array.getElem?_eq_getElem (by rw[d];exact b)]
  simpa using j
 ·rw[List.getElem?_eq_none (by simp[size_madeCells];omega),List.getElem?_eq_none (by rw[aU a,List.length_replicate];omega)]
theorem oE(z:Value)(c:Nat):(madeCells #[z] c).toList=List.replicate c z:=by
 have:=iu (enc:=fun v:Value=>[v]) (k:=1) (fun _=>rfl) (by omega) z #[z] rfl c;rw[Nat.mul_one]at this;rw[this];simp[List.flatMap_replicate]
theorem AN:(prog.info? 210).map (fun i=>(i.zero,i.size,i.bytes))=some (some (.agg #[.int .u64 0,.bool false,.bool false,.int .u64 0,.int .i64 0,.int .u64 0,.int .u64 0,.int .u64 0,.bool false,.bool false]),10,64):=by kernel_rfl
theorem s':(prog.info? 237).map (fun i=>(i.zero,i.size,i.bytes))=some (some (.agg #[.int .u64 0,.int .u64 0,.int .i64 0,.int .u64 0]),4,32):=by kernel_rfl
theorem CQ:(prog.info? 217).map (fun i=>(i.zero,i.size,i.bytes))=some (some (.agg #[.pointer none,.pointer none]),2,16):=by kernel_rfl
theorem EK:(prog.info? 5).map (fun i=>(i.zero,i.size,i.bytes))=some (some (.int .u8 0),1,1):=by kernel_rfl
def aF.zero:aF:=⟨0,false,false,iD.zero⟩
def bq.zero:bq:=⟨0,0,0,0⟩
theorem q5(w:World):Calls prog 65 #[.int .i64 64] w (fun e w'=>e=.returned (.tuple #[(w.heap.size+1,0),.nilIface])/\aW w' (w.heap.size+1) w.heap.size (List.replicate 64 aF.zero)/\Ch ag w w'):=by
 obtain⟨b,d,i,j,k⟩:=info_parts AN;have g:=run_make (P:=prog) w 206 210 b _ underlying206 d i .i64 .i64 64 64 (by omega) (by omega) (by rw[k];decide) (by omega);obtain⟨cs,a⟩:=nm (madeCells (Value.agg #[.int .u64 0,.bool false,.bool false,.int .u64 0,.int .i64 0,.int .u64 0,.int .u64 0,.int .u64 0,.bool false,.bool false]).cells ((64:Int).toNat*b.size));rw[a]at g;rw[j]at a;have c:=Z a;go_wp2
 go_ret2;have f:=iu (enc:=aF.cells) aF.len (by omega) aF.zero #[.int .u64 0,.bool false,.bool false,.int .u64 0,.int .i64 0,.int .u64 0,.int .u64 0,.int .u64 0,.bool false,.bool false] rfl 64;have h:Row (w.alloc (.cells cs 210)) w.heap.size 210 ((List.replicate 64 aF.zero).flatMap aF.cells):=by
  have:=Row.new w cs 210;rw[<-c]at this⊢;rw[<-f];exact this
 refine⟨by simp,⟨?_,h.alloc _,by simp⟩,ay⟩;have:=Row.new (w.alloc (.cells cs 210)) #[.slice (some (w.heap.size,0)) 64 64] 208;rw[World.size_alloc]at this;exact this
theorem oF(w:World):Calls prog 66 #[.int .i64 64] w (fun e w'=>e=.returned (.tuple #[(w.heap.size+1,0),.nilIface])/\bP w' (w.heap.size+1) w.heap.size (List.replicate 64 bq.zero)/\Ch ag w w'):=by
 obtain⟨b,d,i,j,k⟩:=info_parts s';have g:=run_make (P:=prog) w 233 237 b _ underlying233 d i .i64 .i64 64 64 (by omega) (by omega) (by rw[k];decide) (by omega);obtain⟨cs,a⟩:=nm (madeCells (Value.agg #[.int .u64 0,.int .u64 0,.int .i64 0,.int .u64 0]).cells ((64:Int).toNat*b.size));rw[a]at g;rw[j]at a;have c:=Z a;go_wp2
 go_ret2;have f:=iu (enc:=bq.cells) bq.len (by omega) bq.zero #[.int .u64 0,.int .u64 0,.int .i64 0,.int .u64 0] rfl 64;have h:Row (w.alloc (.cells cs 237)) w.heap.size 237 ((List.replicate 64 bq.zero).flatMap bq.cells):=by
  have:=Row.new w cs 237;rw[<-c]at this⊢;rw[<-f];exact this
 refine⟨by simp,⟨?_,h.alloc _,by simp⟩,ay⟩;have:=Row.new (w.alloc (.cells cs 237)) #[.slice (some (w.heap.size,0)) 64 64] 235;rw[World.size_alloc]at this;exact this
theorem ta(w:World):Calls prog 63 #[.int .i64 64] w (fun e w'=>e=.returned (.tuple #[(w.heap.size+1,0),.nilIface])/\eP w' (w.heap.size+1) w.heap.size []/\Ch ag w w'):=by
 obtain⟨b,d,h,i,j⟩:=info_parts g';have f:=run_make (P:=prog) w 29 39 b _ underlying29 d h .i64 .i64 64 64 (by omega) (by omega) (by rw[j];decide) (by omega);obtain⟨cs,a⟩:=nm (madeCells (Value.int .u64 0).cells ((64:Int).toNat*b.size));rw[a]at f;rw[i]at a;have c:=Z a;go_wp2
 go_ret2;have g:Row (w.alloc (.cells cs 39)) w.heap.size 39 ((List.replicate 64 (0:Int)).map (Value.int .u64)):=by
  have:=Row.new w cs 39;rw[<-c]at this⊢;rw[List.map_replicate,<-oE (.int .u64 0) 64];exact this
 refine⟨by simp,⟨List.replicate 64 0,0,⟨?_,g.alloc _,by simp,by omega,by simp⟩,by simp⟩,ay⟩;have:=Row.new (w.alloc (.cells cs 39)) #[.slice (some (w.heap.size,0)) 64 64,.int .i64 0,.int .i64 0] 229;rw[World.size_alloc]at this;exact this
theorem q6(m fr tt:Nat)(h:fr<=tt)(c:tt<=1000000)(w:World):Calls prog 111 #[(m,0),.int .i64 fr,.int .i64 tt] w (fun e w'=>e=.returned (.tuple #[(w.heap.size,0),.nilIface])/\aT w' w.heap.size m (.slice none 0 0) ⟨fr,tt,[]⟩/\Ch ag w w'):=by
 have a:(fr:Int)<=(tt:Int):=by omega
 have b:¬(tt:Int)<(fr:Int):=by omega
 go_wp2
 go_ret2;exact⟨rfl,⟨Row.new w #[(m,0),.int .i64 fr,.int .i64 tt,.slice none 0 0] 314,rfl,Or.inl ⟨rfl,rfl⟩⟩,ay⟩
theorem pf(w:World):Calls prog 64 #[.int .i64 8] w (fun e w'=>∃qb lb mb,e=.returned (.tuple #[.pointer (some ⟨qb,0,none⟩),.nilIface])/\iE w' qb lb mb (List.replicate 8 [])/\w.heap.size<=qb/\w.heap.size<=lb/\w.heap.size<=mb/\Ch ag w w'):=by
 obtain⟨d,g,n,o,p⟩:=info_parts CQ;have j:=run_make (P:=prog) w 211 217 d _ underlying211 g n .i64 .i64 8 8 (by omega) (by omega) (by rw[p];decide) (by omega);obtain⟨cs,a⟩:=nm (madeCells (Value.agg #[.pointer none,.pointer none]).cells ((8:Int).toNat*d.size));rw[a]at j;rw[o]at a;have f:=Z a;have q:= @run_makeMap prog;go_wp2
 go_ret2;have i:=iu (enc:=fun _:Unit=>[Value.pointer none,Value.pointer none]) (k:=2) (fun _=>rfl) (by omega) () #[.pointer none,.pointer none] rfl 8;have m:Row (w.alloc (.cells cs 217)) w.heap.size 217 ((List.replicate 8 ([]:List Sl)).flatMap bV):=by
  have:=Row.new w cs 217;rw[<-f]at this⊢;rw[show(List.replicate 8 ([]:List Sl)).flatMap bV=(List.replicate 8 ()).flatMap (fun _:Unit=>[Value.pointer none,Value.pointer none])from rfl,<-i];exact this
 have b:∀(k:Nat) (l:List Sl),(List.replicate 8 ([]:List Sl))[k]?=some l->l=[]:=fun k l h=>by
  have:=List.mem_of_getElem? h;simpa using this
 refine⟨w.heap.size+2,w.heap.size,w.heap.size+1,by simp,⟨?_,(m.alloc _).alloc _,by simp,?_,⟨[],⟨#[],0,?_,rfl⟩,List.nodup_nil,fun id=>rfl⟩,by simp,by simp,?_⟩,by omega,by omega,by omega,ay⟩
 ·have:=Row.new ((w.alloc (.cells cs 217)).alloc (.map #[] 0)) #[.slice (some (w.heap.size,0)) 8 8,.map (some (w.heap.size+1))] 214
  rw[World.size_alloc,World.size_alloc]at this;exact this
 ·intro k l h;rw[b k l h];trivial
 ·rw[Below.heap_alloc _ _ _ (by simp)]
  have:=heap_alloc_new (w.alloc (.cells cs 217)) (.map #[] 0);rw[World.size_alloc]at this;exact this
 ·intro k l h s c;rw[b k l h]at c;cases c
def aI.new(n:Nat):aI:=⟨List.replicate n 0,List.replicate n 0⟩
theorem aO.new{w:World}{m c d n:Nat}(f:n<=65536)(a:Row w m 310 [.slice (some (c,0)) n n,.slice (some (d,0)) n n,.int .i64 0,.int .i64 0])
 (b:Row w c 39 (List.replicate n (.int .u64 0))) (e:Row w d 5 (List.replicate n (.int .u8 0))):aO w m c d (aI.new n) where
 hd:=⟨_,_,by unfold aI.new;simpa using a⟩
 cells:=by unfold aI.new;simpa using b
 width:=by unfold aI.new;simpa using e
 len:=by simp[aI.new]
 qg:=by simpa[aI.new]using f
 ok:=fun i x h=>by
  have:=List.mem_of_getElem? h;simp[aI.new]at this;omega
 u64:=fun i x h=>by
  have:=List.mem_of_getElem? h;simp[aI.new]at this;rw[this.2];exact⟨by decide,by decide⟩
def EL(n:Nat)(w:World)(e:Ending)(w':World):Prop:=∃m c d,e=.returned (.tuple #[.pointer (some ⟨m,0,none⟩),.nilIface])/\aO w' m c d (aI.new n)/\w.heap.size<=m/\w.heap.size<=c/\w.heap.size<=d/\Ch ag w w'
theorem uP(n:Nat)(x:1<=n)(k:n<=65536)(w:World):Calls prog 108 #[.int .i64 n] w (EL n w):=by
 obtain⟨i,o,t,u,v⟩:=info_parts g';obtain⟨j,p,q,r,s⟩:=info_parts EK;have g:=fun w=>run_make (P:=prog) w 29 39 i _ underlying29 o t .i64 .i64 (n:Int) (n:Int) (by omega) (by omega) (by rw[v];omega) (by omega)
 have h:=fun w=>run_make (P:=prog) w 308 5 j _ underlying308 p q .i64 .i64 (n:Int) (n:Int) (by omega) (by omega) (by rw[s];omega) (by omega)
 simp only[Int.toNat_natCast]at g h;obtain⟨cs,e⟩:=nm (madeCells (Value.int .u64 0).cells (n*i.size));obtain⟨a,f⟩:=nm (madeCells (Value.int .u8 0).cells (n*j.size));have l:cs.toList=List.replicate n (.int .u64 0):=by
  rw[<-e,u,Nat.mul_one];exact oE (.int .u64 0) n
 have m:a.toList=List.replicate n (.int .u8 0):=by
  rw[<-f,r,Nat.mul_one];exact oE (.int .u8 0) n
 simp only[e]at g;simp only[f]at h;have b:=Z l;have c:=Z m;have y:(1:Int)<=n:=by omega
 have z:(n:Int)<=65536:=by omega
 have d:=Z k;go_wp2
 go_region
 all_goals
  go_wp2
  go_ret2
 ·refine⟨w.heap.size+1+1,w.heap.size,w.heap.size+1,rfl,aO.new d ?_ ?_ ?_,by omega,by omega,by omega,ay⟩
  ·have:=Row.new ((w.alloc (.cells cs 39)).alloc (.cells a 5)) #[.slice (some ⟨w.heap.size,0,none⟩) n n,.slice (some ⟨w.heap.size+1,0,none⟩) n n,.int .i64 0,.int .i64 0] 310
   rw[World.size_alloc,World.size_alloc]at this;exact this
  ·have:=Row.new w cs 39
   rw[b]at this;exact(this.alloc _).alloc _
  ·have:=Row.new (w.alloc (.cells cs 39)) a 5
   rw[c,World.size_alloc]at this;exact this.alloc _
 ·refine⟨w.heap.size+1+1,w.heap.size+1,w.heap.size,rfl,aO.new d ?_ ?_ ?_,by omega,by omega,by omega,ay⟩
  ·have:=Row.new ((w.alloc (.cells a 5)).alloc (.cells cs 39)) #[.slice (some ⟨w.heap.size+1,0,none⟩) n n,.slice (some ⟨w.heap.size,0,none⟩) n n,.int .i64 0,.int .i64 0] 310
   rw[World.size_alloc,World.size_alloc]at this;exact this
  ·have:=Row.new (w.alloc (.cells a 5)) cs 39
   rw[b,World.size_alloc]at this;exact this.alloc _
  ·have:=Row.new w a 5
   rw[c]at this;exact(this.alloc _).alloc _
variable{n:Int}{k:Nat}{r:Bool}
theorem uQ(N:Nat)(a:Option Addr)(c:Nat)(cg:Bool)(d:2048<N)(w:World):
 Calls prog 145 #[.slice a N c,.bool cg] w (fun e w'=>∃t x,e=.returned (.iface 247 (.pointer (some (w.heap.size,0))))/\w.alloc (.cells #[.string ⟨#[99,111,100,101]⟩,.int .i64 0,.iface t x] 249)=w'):=by
 have b:(2048:Int)<(N:Int):=by omega
 go_in
 go_wp2_with (go_at_call 101;refine(bo _ _ _ _).mono ?_;rintro e w' ⟨rfl,rfl⟩)
 go_ret;exact⟨_,_,rfl,rfl⟩
theorem q7(N:Nat)(a:Option Addr)(c:Nat)(cg:Bool)(y:2048<N)(w:World)
 (v:w.cell? (0,0)=some (.iface 390 (.agg #[(4,85)]))):
 Calls prog 102 #[.slice a N c,.bool cg] w (tc false w):=by
 obtain⟨w1,s⟩:=nm (w.alloc (.cells #[.pointer none] 247));have d:=Z (Ch.al (D:=ag) s);have g:=Z (Row.al s);have l:Hid (w1.cell? (0,0)=some (.iface 390 (.agg #[(4,85)]))):=Z (d.k v);have u:=Z (uQ N a c cg y w1);go_in
 go_wp2_with (first|(go_at_call 145;refine u.mono ?_;rintro e w2 ⟨t,x,rfl,z⟩;have m:=Z z))
 have b:Hid (Ch ag w1 w2):=Z (by rw[<-m];exact ay);have h:Hid (Row w2 w1.heap.size 249 [.string ⟨#[99,111,100,101]⟩,.int .i64 0,.iface t x]):=Z (by rw[<-m];exact Row.new w1 _ _);refine(wz ⟨w1.heap.size,0,none⟩ w.heap.size (.pointer none) w2 ((b.cell (aQ l) id).trans l) ((g.ch b id).cell (i:=0) rfl) ((g.ch b id).free 0)).mono ?_;rintro e A ⟨rfl,C,o⟩;have f:=Z o;have E:w.heap.size<w1.heap.size:=g.lt;have B:A.cell? (w1.heap.size,1)=some (.int .i64 0):=(o.cell (p:=⟨w1.heap.size,1,none⟩) h.lt (fun e=>by have:w1.heap.size=w.heap.size:=e;omega)).trans (h.cell (i:=1) rfl);go_wp2_with (go_at_call 101;refine(bo _ _ _ _).mono ?_;rintro e w' ⟨rfl,rfl⟩)
 go_ret;refine⟨⟨_,rfl,ar.mk _ _⟩,Ch.alloc ?_ _⟩;exact⟨f.os.trans (d.trans b).os,f.tape.trans (d.trans b).tape,f.out.output.trans (d.trans b).output,Nat.le_trans (d.trans b).size f.size,fun j q hd=>(f.same j (Nat.lt_of_lt_of_le q (d.trans b).size) (fun e=>by have:j=w.heap.size:=e;omega)).trans ((d.trans b).same j q hd)⟩
theorem Ch.fresh{D:Nat->Prop}{w a b:World}(c:Ch ag w a)(d:Ch D a b)(f:∀i,i<w.heap.size->¬D i):Ch ag w b:=
 ⟨d.os.trans c.os,d.tape.trans c.tape,d.output.trans c.output,Nat.le_trans c.size d.size,fun j e hd=>(d.same j (Nat.lt_of_lt_of_le e c.size) (f j e)).trans (c.same j e hd)⟩
def jw(l:List be)(cg:Bool):Bool:=decide (l.length<=2048)&&(gQ l.length cg l 0).isNone
theorem lh(l:List be)(a:Option Addr)(c:Nat)(cg:Bool)(e:l.length<=c)(w:World)(f:l≠[]->∃g,a=some ⟨g,0,none⟩/\fN w g l)
 (d:w.cell? (0,0)=some (.iface 390 (.agg #[(4,85)]))):
 Calls prog 102 #[.slice a l.length c,.bool cg] w (tc (jw l cg) w):=by
 unfold jw;by_cases b:l.length<=2048
 ·rw[decide_eq_true b,Bool.true_and];exact td l a c cg b e w f d
 ·rw[decide_eq_false b,Bool.false_and];exact q7 _ a c cg (by omega) w d
def jg(k:Int):Bool:=decide (0<=k/\k<=7)
def gC(n:Int)(s:List Bool)(r:bB):Bool:=(decide (1<=r.num/\r.num<=999)&& !(s.getD r.num.toNat false)&&decide (0<=r.at_/\r.at_<n))&&(jg r.k0&&jg r.k1&&jg r.k2&&jg r.k3)
def jx(n:Int):List bB->List Bool->Bool
 |[],_=>true
 |r::l,s=>gC n s r&&jx n l (s.set r.num.toNat true)
def fG(l:List be)(loop:Int)(calls:List bB):Bool:=decide (l.length≠0)&&jw l true&&decide (0<=loop/\loop<l.length)&&jx l.length calls (List.replicate 1000 false)
def fH(n:Int)(calls:List bB)(k:Nat)(s:List Bool)(r:Bool):Prop:=s.length=1000/\jx n (calls.drop k) s=r
theorem fH.next{calls:List bB}{s:List Bool}{X:bB}(h:fH n calls k s r)(a:calls[k]?=some X)(d:gC n s X=true):fH n calls (k+1) (s.set X.num.toNat true) r:=by
 refine⟨by simpa using h.1,?_⟩;obtain⟨c,b⟩:=List.getElem?_eq_some_iff.1 a;rw[<-h.2,List.drop_eq_getElem_cons c,b,jx,d,Bool.true_and]
theorem fH.bad{calls:List bB}{s:List Bool}{X:bB}(h:fH n calls k s r)(a:calls[k]?=some X)(d:gC n s X=false):r=false:=by
 obtain⟨c,b⟩:=List.getElem?_eq_some_iff.1 a;rw[<-h.2,List.drop_eq_getElem_cons c,b,jx,d,Bool.false_and]
theorem fH.all{calls:List bB}{s:List Bool}(h:fH n calls k s r)(a:calls.length<=k):r=true:=by
 rw[<-h.2,List.drop_eq_nil_of_le a];rfl
theorem G9(a b c d:Int):([a,b,c,d].drop 0).all jg=(jg a&&([a,b,c,d].drop 1).all jg):=rfl
theorem G'(a b c d:Int):([a,b,c,d].drop 1).all jg=(jg b&&([a,b,c,d].drop 2).all jg):=rfl
theorem Ha(a b c d:Int):([a,b,c,d].drop 2).all jg=(jg c&&([a,b,c,d].drop 3).all jg):=rfl
theorem Hb(a b c d:Int):([a,b,c,d].drop 3).all jg=(jg d&&([a,b,c,d].drop 4).all jg):=rfl
theorem EM(a b c d:Int)(W:World):(Instr.index 156 (.agg #[a,b,c,d]) (.int .i64 0)).run prog W=.ok (.int .i64 a) W:=by kernel_rfl
theorem EN(a b c d:Int)(W:World):(Instr.index 156 (.agg #[a,b,c,d]) (.int .i64 1)).run prog W=.ok (.int .i64 b) W:=by kernel_rfl
theorem EO(a b c d:Int)(W:World):(Instr.index 156 (.agg #[a,b,c,d]) (.int .i64 2)).run prog W=.ok (.int .i64 c) W:=by kernel_rfl
theorem EP(a b c d:Int)(W:World):(Instr.index 156 (.agg #[a,b,c,d]) (.int .i64 3)).run prog W=.ok (.int .i64 d) W:=by kernel_rfl
theorem mQ(l:List be)(S:Option Addr)(a3:Nat)(loop:Int)(calls:List bB)(aP:Option Addr)(c6:Nat)(cq:l.length<=a3)(eI:calls.length<=100000)(w:World)(a1:l≠[]->∃g,S=some ⟨g,0,none⟩/\fN w g l)
 (ct:calls≠[]->∃g R,aP=some ⟨g,0,none⟩/\Row w g 158 (calls.flatMap bB.cells++R))
 (a0:w.cell? (0,0)=some (.iface 390 (.agg #[(4,85)]))):
 Calls prog 60 #[.agg #[.slice S l.length a3,loop,.slice aP calls.length c6]] w (tc (fG l loop calls) w):=by
 obtain⟨w1,c5⟩:=nm (w.alloc (.cells #[.slice S l.length a3,loop,.slice aP calls.length c6] 90));have I:=Z (Ch.al (D:=ag) c5);have en:Hid (l≠[]->∃g,S=some ⟨g,0,none⟩/\fN w1 g l):=Z (fun h=>by obtain⟨g,e,a0⟩:=a1 h;exact⟨g,e,a0.ch I id⟩);have e4:Hid (calls≠[]->∃g R,aP=some ⟨g,0,none⟩/\Row w1 g 158 (calls.flatMap bB.cells++R)):=Z (fun h=>by obtain⟨g,R,e,a0⟩:=ct h;exact⟨g,R,e,a0.ch I id⟩);have cb:Hid (w1.cell? (0,0)=some (.iface 390 (.agg #[(4,85)]))):=Z (I.k a0);have U:=Z (lh l S a3 true cq w1 en cb);have ab:=Z (Row.al c5);obtain⟨N,al⟩:=mn l.length;obtain⟨M,bb⟩:=mn calls.length;obtain⟨kk,bZ⟩:=nm (fG l loop calls);obtain⟨u,c4⟩:=nm (jw l true);obtain⟨q,c0⟩:=nm (jx N calls (List.replicate 1000 false));have K:Hid (kk=(decide (N≠0)&&u&&decide (0<=loop/\loop<N)&&q)):=Z (by rw[<-bZ,al,<-c4,<-c0,al];rfl);have dC:Hid (fH N calls 0 (List.replicate 1000 false) q):=Z ⟨by simp,by rw[List.drop_zero];exact c0⟩;have bw:=Z bb;rw[c4]at U;rw[bZ];rw[<-al,<-bb]at ab c5⊢;rw[<-al]at U;rw[<-bb]at eI;clear a1 ct a0 cq al bb bZ c4 c0;obtain⟨t0,t1,t2⟩:=ab.c3;by_cases cl:N=0
 ·have E:Hid (kk=false):=Z (by rw[K.out,decide_eq_false (by omega)];rfl)
  subst cl;go_in
  go_wp2_with (go_at_call 101;refine(bo _ _ _ _).mono ?_;rintro e w' ⟨rfl,rfl⟩)
  go_ret;rw[E];exact⟨⟨_,rfl,ar.mk _ _⟩,I.alloc _⟩
 have fk:(N==0)=false:=by simpa using cl
 cases u
 ·have E:Hid (kk=false):=Z (by rw[K.out,Bool.and_false];rfl)
  go_in
  go_wp2_with (go_at_call 102;refine U.mono ?_;rintro e w2 ⟨⟨y,rfl,C⟩,A⟩;obtain⟨tt,fd,rfl⟩:ar y:=C;have J:=Z A;clear A)
  go_ret;rw[E];exact⟨⟨_,rfl,ar.mk _ _⟩,I.trans J⟩
 by_cases H:¬(0<=loop/\loop<(N:Int))
 ·have E:Hid (kk=false):=Z (by rw[K.out,decide_eq_false H,Bool.and_false];rfl)
  have ap:decide (0<=loop/\loop<(N:Int))=false:=decide_eq_false H;have V:=Z (fun w=>l6 loop N w);rw[ap]at V;clear ap H;go_in
  go_wp2_with (first|(go_at_call 102;refine U.mono ?_;rintro e w2 ⟨⟨y,rfl,C⟩,A⟩;obtain rfl:y=.nilIface:=C;have J:=Z A;have W:=ab.ch A id;obtain⟨cW,di⟩:=W.c2;clear A W t0 t1 t2)|(go_at_call 103;refine(V _).mono ?_;rintro e c7 ⟨⟨y,rfl,C⟩,Y⟩;have a4:=Z Y;obtain⟨tt,fd,rfl⟩:ar y:=C;clear Y))
  go_ret;rw[E];exact⟨⟨_,rfl,ar.mk _ _⟩,(I.trans J).trans a4⟩
 have H:=Decidable.not_not.1 H;have E:Hid (kk=q):=Z (by rw[K.out,decide_eq_true (by omega),decide_eq_true H];simp);have ap:decide (0<=loop/\loop<(N:Int))=true:=decide_eq_true H;have V:=Z (fun w=>l6 loop N w);rw[ap]at V;clear ap H K;go_in
 go_wp2_with (first|(go_at_call 102;refine U.mono ?_;rintro e w2 ⟨⟨y,rfl,C⟩,A⟩;obtain rfl:y=.nilIface:=C;have J:=Z A;have W:=Z (ab.ch A id);obtain⟨cW,di,e'⟩:=W.c3;clear A t0 t1 t2)|(go_at_call 103;refine(V _).mono ?_;rintro e c7 ⟨⟨y,rfl,C⟩,Y⟩;have a4:=Z Y;obtain rfl:y=.nilIface:=C;have bx:=Z (W.ch Y id);have ce:=Z (bx.alloc (.cells Tryz.zeroCells252 252));obtain⟨cL,cQ,cS⟩:=ce.c3;clear Y cW di e'))
 have dp:Hid (Tryz.zeroCells252.toList=(List.replicate 1000 false).map Value.bool):=Z (by kernel_rfl);obtain⟨w4,a2⟩:=nm (c7.alloc (.cells Tryz.zeroCells252 252));obtain⟨o,av⟩:=nm c7.heap.size;have cd:Hid (Row w4 o 252 ((List.replicate 1000 false).map Value.bool)):=Z (by rw[<-a2,<-av,<-dp];exact Row.new _ _ _);have bv:Hid (Ch ag w w4):=Z (by rw[<-a2];exact((I.trans J).trans a4).alloc _);have T:Hid (w.heap.size<o/\w1.heap.size<=o/\o<w4.heap.size):=Z (by
  refine⟨by rw[<-av];exact bx.lt,by rw[<-av];exact(J.trans a4).size,cd.lt⟩)
 have c9:Hid (Ch ag w1 w4):=Z (by rw[<-a2];exact(J.trans a4).alloc _);have ch:Hid (Row w4 w.heap.size 90 [.slice S N a3,loop,.slice aP M c6]):=Z (ab.ch c9 id);rw[a2,av];rw[a2]at cL cQ cS;clear ce bx W V U cb a2 av cL cQ cS;go_loopg [34] (M+1) (fun gk i wr=>∃(k:Nat) (s:List Bool),k<=M/\gk=M-k+1/\i=.int .i64 k/\Hid (fH N calls k s q)/\Hid (Row wr o 252 (s.map Value.bool))/\Hid (Ch (aH o) w4 wr))
 case atStart=>exact⟨0,_,by omega,by omega,rfl,dC,cd,Z ay⟩
 case round=>
  obtain⟨k,s,cs,rfl,rfl,t,a9,L⟩:=hrel;by_cases cA:k<M
  ·obtain⟨X,am⟩:∃X,calls[k]?=some X:=⟨_,List.getElem?_eq_getElem (by rw[<-bw];exact cA)⟩
   have d:=Z am;obtain⟨g,R,rfl,c3⟩:=e4 (by intro e;rw[e]at am;cases am);have cF:=c3.ch (c9) id;have cC:Hid (Row wr g 158 (calls.flatMap bB.cells++R)):=Z (cF.ch L (fun e=>by have P:g=o:=e;have cm:=c3.lt;have ad:=T.2.1;omega));have Q:∀j v,j<6->X.cells[j]?=some v->wr.cell? ⟨g,k*6+j,none⟩=some v:=fun j v bd eS=>cC.out.cell (by
    rw[List.getElem?_append_left (by
     have P:=List.length_flatMap (f:=bB.cells) (l:=calls);have cm:(calls.flatMap bB.cells).length=calls.length*6:=by
      rw[P];simp only[bB.len];rw[List.map_const',List.sum_replicate_nat]
     rw[cm,<-bw];have:(k+1)*6<=M*6:=Nat.mul_le_mul_right _ cA;omega)]
    exact(bJ bB.len am bd).trans eS)
   obtain⟨num,at_,k0,k1,k2,k3⟩:=X;have ci:=Q 0 _ (by omega) rfl;have et:=Q 1 _ (by omega) rfl;have ex:=Q 2 _ (by omega) rfl;have ey:=Q 3 _ (by omega) rfl;have eA:=Q 4 _ (by omega) rfl;have eC:=Q 5 _ (by omega) rfl;rw[Nat.add_zero]at ci;have eW:wr.cell? ⟨w.heap.size,0,none⟩=some (.slice S N a3):=(ch.ch L (fun e=>by have P:w.heap.size=o:=e;have ad:=T.1;omega)).cell (i:=0) rfl;have cs:(k:Int)<M:=(by omega);have eL:g<wr.heap.size/\w.heap.size<wr.heap.size/\o<wr.heap.size:=⟨cC.out.lt,(ch.ch L (fun e=>by have P:w.heap.size=o:=e;have ad:=T.1;omega)).lt,a9.lt⟩;obtain⟨fL,fM,fO⟩:=eL;clear Q am c3 cF;have F:Hid (Ch ag w wr):=Z (bv.fresh L (fun b hb e=>by have P:b=o:=e;have ad:=T.1;omega));by_cases fT:num<1
   ·have B:Hid (gC N s ⟨num,at_,k0,k1,k2,k3⟩=false):=Z (by unfold gC;dsimp only;rw[decide_eq_false (by omega)];rfl)
    have a:Hid (kk=false):=Z (E.trans (t.bad d B));clear d;go_wp2_with (go_at_call 101;refine(bo _ _ _ _).mono ?_;rintro e w' ⟨rfl,rfl⟩)
    go_ret;rw[a];exact⟨⟨_,rfl,ar.mk _ _⟩,(F.alloc _).alloc _⟩
   by_cases g0:999<num
   ·have B:Hid (gC N s ⟨num,at_,k0,k1,k2,k3⟩=false):=Z (by unfold gC;dsimp only;rw[decide_eq_false (by omega)];rfl)
    have a:Hid (kk=false):=Z (E.trans (t.bad d B));clear d;go_wp2_with (go_at_call 101;refine(bo _ _ _ _).mono ?_;rintro e w' ⟨rfl,rfl⟩)
    go_ret;rw[a];exact⟨⟨_,rfl,ar.mk _ _⟩,(F.alloc _).alloc _⟩
   obtain⟨m,rfl⟩:∃m:Nat,num=m:=⟨num.toNat,by omega⟩;have fK:(m:Int)<1000:=(by omega);have fz:m<1000:=(by omega);have fr:(0:Int)<=m:=(by omega);obtain⟨b,hb⟩:∃b,s[m]?=some b:=⟨_,List.getElem?_eq_getElem (by rw[t.1];omega)⟩;have eG:wr.cell? (o,m)=some (.bool b):=a9.cell (by rw[List.getElem?_map,hb];rfl);have a5:Hid (s.getD (m:Int).toNat false=b):=Z (by rw[Int.toNat_natCast,List.getD_eq_getElem?_getD,hb];rfl);clear hb;have bd:decide (1<=(m:Int)/\(m:Int)<=999)=true:=decide_eq_true (by omega);have c:=Z bd;clear bd;cases b
   rotate_left
   ·have B:Hid (gC N s ⟨m,at_,k0,k1,k2,k3⟩=false):=Z (by unfold gC;dsimp only;rw[c,a5];rfl)
    have a:Hid (kk=false):=Z (E.trans (t.bad d B));clear d;go_wp2_with (go_at_call 101;refine(bo _ _ _ _).mono ?_;rintro e w' ⟨rfl,rfl⟩)
    go_ret;rw[a];exact⟨⟨_,rfl,ar.mk _ _⟩,(F.alloc _).alloc _⟩
   by_cases g1:at_<0
   ·have B:Hid (gC N s ⟨m,at_,k0,k1,k2,k3⟩=false):=Z (by unfold gC;dsimp only;rw[c,a5,decide_eq_false (p:=0<=at_/\at_<(N:Int)) (by omega)];rfl)
    have a:Hid (kk=false):=Z (E.trans (t.bad d B));clear d;go_wp2_with (go_at_call 101;refine(bo _ _ _ _).mono ?_;rintro e w' ⟨rfl,rfl⟩)
    go_ret;rw[a];exact⟨⟨_,rfl,ar.mk _ _⟩,(F.alloc _).alloc _⟩
   by_cases g2:(N:Int)<=at_
   ·have B:Hid (gC N s ⟨m,at_,k0,k1,k2,k3⟩=false):=Z (by unfold gC;dsimp only;rw[c,a5,decide_eq_false (p:=0<=at_/\at_<(N:Int)) (by omega)];rfl)
    have a:Hid (kk=false):=Z (E.trans (t.bad d B));clear d;go_wp2_with (go_at_call 101;refine(bo _ _ _ _).mono ?_;rintro e w' ⟨rfl,rfl⟩)
    go_ret;rw[a];exact⟨⟨_,rfl,ar.mk _ _⟩,(F.alloc _).alloc _⟩
   have z:Hid (gC N s ⟨m,at_,k0,k1,k2,k3⟩=[k0,k1,k2,k3].all jg):=Z (by unfold gC;dsimp only;rw[c,a5,decide_eq_true (p:=0<=at_/\at_<(N:Int)) (by omega)];simp[Bool.and_assoc]);clear c a5;have fb:=a9.free m;go_wp2
   obtain⟨c8,bi⟩:=mn (((wr.setCell (o,m) (.bool true)).alloc (.cells #[.int .i64 m,at_,k0,k1,k2,k3] 158)));have ca:Hid (Ch (aH o) w4 c8):=Z (by rw[bi];exact(L.only _ _).alloc _);have es:Hid (Row c8 o 252 ((s.set m true).map Value.bool)):=Z (by rw[bi,List.map_set];exact(a9.set _ _).alloc _);have G:Hid (Ch ag w c8):=Z (bv.fresh ca (fun b hb e=>by have P:b=o:=e;have ad:=T.1;omega));rw[<-bi];clear bi ci et ex ey eA eC eW eG fb a9 L F;obtain⟨r,a1⟩:=nm ([k0,k1,k2,k3].all jg);rw[a1]at z;have dN:Hid (([k0,k1,k2,k3].drop 0).all jg=r):=Z a1;clear a1;go_loop [74] (fun s=>∃j:Nat,s=.int .i64 j/\j<=4/\Hid (([k0,k1,k2,k3].drop j).all jg=r)) (fun s=>4-(intOf s).toNat)
   case atStart=>exact⟨0,rfl,by omega,dN⟩
   case round=>
    obtain⟨j,rfl,fn,c⟩:=hrel;obtain rfl|rfl|rfl|rfl|rfl:j=0∨j=1∨j=2∨j=3∨j=4:=by omega
    ·have bX:=EM k0 k1 k2 k3
     by_cases c1:k0<0
     ·have x:Hid (r=false):=Z (by rw[<-c,G9,show jg k0=false from decide_eq_false (show¬(0<=k0/\k0<=7)by omega)];rfl)
      have a:Hid (kk=false):=Z (E.trans (t.bad d (z.trans x)));go_wp2_with (go_at_call 101;refine(bo _ _ _ _).mono ?_;rintro e w' ⟨rfl,rfl⟩)
      go_ret;rw[a];exact⟨⟨_,rfl,ar.mk _ _⟩,G.alloc _⟩
     by_cases c2:7<k0
     ·have x:Hid (r=false):=Z (by rw[<-c,G9,show jg k0=false from decide_eq_false (show¬(0<=k0/\k0<=7)by omega)];rfl)
      have a:Hid (kk=false):=Z (E.trans (t.bad d (z.trans x)));go_wp2_with (go_at_call 101;refine(bo _ _ _ _).mono ?_;rintro e w' ⟨rfl,rfl⟩)
      go_ret;rw[a];exact⟨⟨_,rfl,ar.mk _ _⟩,G.alloc _⟩
     have O:Hid (([k0,k1,k2,k3].drop 1).all jg=r):=Z (by rw[<-c,G9,show jg k0=true from decide_eq_true (show(0<=k0/\k0<=7)by omega)];rfl);go_wp2
     go_round
     case rel=>exact⟨1,rfl,by omega,O⟩
     case measure=>simp[intOf]
    ·have bX:=EN k0 k1 k2 k3
     by_cases c1:k1<0
     ·have x:Hid (r=false):=Z (by rw[<-c,G',show jg k1=false from decide_eq_false (show¬(0<=k1/\k1<=7)by omega)];rfl)
      have a:Hid (kk=false):=Z (E.trans (t.bad d (z.trans x)));go_wp2_with (go_at_call 101;refine(bo _ _ _ _).mono ?_;rintro e w' ⟨rfl,rfl⟩)
      go_ret;rw[a];exact⟨⟨_,rfl,ar.mk _ _⟩,G.alloc _⟩
     by_cases c2:7<k1
     ·have x:Hid (r=false):=Z (by rw[<-c,G',show jg k1=false from decide_eq_false (show¬(0<=k1/\k1<=7)by omega)];rfl)
      have a:Hid (kk=false):=Z (E.trans (t.bad d (z.trans x)));go_wp2_with (go_at_call 101;refine(bo _ _ _ _).mono ?_;rintro e w' ⟨rfl,rfl⟩)
      go_ret;rw[a];exact⟨⟨_,rfl,ar.mk _ _⟩,G.alloc _⟩
     have O:Hid (([k0,k1,k2,k3].drop 2).all jg=r):=Z (by rw[<-c,G',show jg k1=true from decide_eq_true (show(0<=k1/\k1<=7)by omega)];rfl);go_wp2
     go_round
     case rel=>exact⟨2,rfl,by omega,O⟩
     case measure=>simp[intOf]
    ·have bX:=EO k0 k1 k2 k3
     by_cases c1:k2<0
     ·have x:Hid (r=false):=Z (by rw[<-c,Ha,show jg k2=false from decide_eq_false (show¬(0<=k2/\k2<=7)by omega)];rfl)
      have a:Hid (kk=false):=Z (E.trans (t.bad d (z.trans x)));go_wp2_with (go_at_call 101;refine(bo _ _ _ _).mono ?_;rintro e w' ⟨rfl,rfl⟩)
      go_ret;rw[a];exact⟨⟨_,rfl,ar.mk _ _⟩,G.alloc _⟩
     by_cases c2:7<k2
     ·have x:Hid (r=false):=Z (by rw[<-c,Ha,show jg k2=false from decide_eq_false (show¬(0<=k2/\k2<=7)by omega)];rfl)
      have a:Hid (kk=false):=Z (E.trans (t.bad d (z.trans x)));go_wp2_with (go_at_call 101;refine(bo _ _ _ _).mono ?_;rintro e w' ⟨rfl,rfl⟩)
      go_ret;rw[a];exact⟨⟨_,rfl,ar.mk _ _⟩,G.alloc _⟩
     have O:Hid (([k0,k1,k2,k3].drop 3).all jg=r):=Z (by rw[<-c,Ha,show jg k2=true from decide_eq_true (show(0<=k2/\k2<=7)by omega)];rfl);go_wp2
     go_round
     case rel=>exact⟨3,rfl,by omega,O⟩
     case measure=>simp[intOf]
    ·have bX:=EP k0 k1 k2 k3
     by_cases c1:k3<0
     ·have x:Hid (r=false):=Z (by rw[<-c,Hb,show jg k3=false from decide_eq_false (show¬(0<=k3/\k3<=7)by omega)];rfl)
      have a:Hid (kk=false):=Z (E.trans (t.bad d (z.trans x)));go_wp2_with (go_at_call 101;refine(bo _ _ _ _).mono ?_;rintro e w' ⟨rfl,rfl⟩)
      go_ret;rw[a];exact⟨⟨_,rfl,ar.mk _ _⟩,G.alloc _⟩
     by_cases c2:7<k3
     ·have x:Hid (r=false):=Z (by rw[<-c,Hb,show jg k3=false from decide_eq_false (show¬(0<=k3/\k3<=7)by omega)];rfl)
      have a:Hid (kk=false):=Z (E.trans (t.bad d (z.trans x)));go_wp2_with (go_at_call 101;refine(bo _ _ _ _).mono ?_;rintro e w' ⟨rfl,rfl⟩)
      go_ret;rw[a];exact⟨⟨_,rfl,ar.mk _ _⟩,G.alloc _⟩
     have O:Hid (([k0,k1,k2,k3].drop 4).all jg=r):=Z (by rw[<-c,Hb,show jg k3=true from decide_eq_true (show(0<=k3/\k3<=7)by omega)];rfl);go_wp2
     go_round
     case rel=>exact⟨4,rfl,by omega,O⟩
     case measure=>simp[intOf]
    ·have dr:Hid (gC N s ⟨m,at_,k0,k1,k2,k3⟩=true):=Z (z.trans c.symm)
     go_wp2
     go_roundg (M-k)
     case measure=>omega
     case rel=>exact⟨k+1,_,by omega,by omega,by go_num,Z (t.next d dr),es,ca⟩
  ·skip
   have a:Hid (kk=true):=Z (E.trans (t.all (by rw[<-bw];omega)));have F:Hid (Ch ag w wr):=Z (bv.fresh L (fun b hb e=>by have P:b=o:=e;have ad:=T.1;omega));have cs:¬(k:Int)<M:=(by omega);go_wp2
   go_ret;rw[a];exact⟨⟨_,rfl,rfl⟩,F⟩
def eQ(l:List be)(en wi na:Int):Bool:=
 decide (0<=wi/\0<=na/\wi<=256/\na<=256-wi/\l.length≠0)&&jw l false&&decide (0<=en/\en<l.length)
theorem mR(l:List be)(a:Option Addr)(c:Nat)(en wi na:Int)(C:l.length<=c)(w:World)(H:l≠[]->∃g,a=some ⟨g,0,none⟩/\fN w g l)
 (n:w.cell? (0,0)=some (.iface 390 (.agg #[(4,85)]))):
 Calls prog 61 #[.agg #[.slice a l.length c,en,wi,na]] w (tc (eQ l en wi na) w):=by
 obtain⟨w1,z⟩:=nm (w.alloc (.cells #[.slice a l.length c,en,wi,na] 77));have b:=Z (Ch.al (D:=ag) z);have M:Hid (l≠[]->∃g,a=some ⟨g,0,none⟩/\fN w1 g l):=Z (fun h=>by obtain⟨g,e,n⟩:=H h;exact⟨g,e,n.ch b id⟩);have L:Hid (w1.cell? (0,0)=some (.iface 390 (.agg #[(4,85)]))):=Z (b.k n);have j:=Z (lh l a c false C w1 M L);have q:=Z (Row.al z);obtain⟨N,t⟩:=mn l.length;obtain⟨k,v⟩:=nm (eQ l en wi na);obtain⟨u,x⟩:=nm (jw l false);have G:k=(decide (0<=wi/\0<=na/\wi<=256/\na<=256-wi/\N≠0)&&u&&decide (0<=en/\en<N)):=by rw[<-v,t,<-x];rfl
 rw[x]at j;rw[v];rw[<-t]at j q z⊢;clear H n C t v x;obtain⟨t0,t1,t2,t3⟩:=q.c4;have K:Hid (k=(decide (0<=wi/\0<=na/\wi<=256/\na<=256-wi/\N≠0)&&u&&decide (0<=en/\en<N))):=Z G;clear G;have P:wi<0∨(¬wi<0/\na<0)∨(¬wi<0/\¬na<0/\256<wi)∨(¬wi<0/\¬na<0/\¬256<wi/\256-wi<na)∨(¬wi<0/\¬na<0/\¬256<wi/\¬256-wi<na/\N=0)∨(¬wi<0/\¬na<0/\¬256<wi/\¬256-wi<na/\N≠0):=by omega
 rcases P with i|⟨i,m⟩|⟨i,m,r⟩|⟨i,m,r,B⟩|⟨i,m,r,B,s⟩|⟨i,m,r,B,s⟩
 ·have E:Hid (k=false):=Z (by rw[K.out,decide_eq_false (by omega)];rfl)
  go_in
  go_wp2_with (go_at_call 101;refine(bo _ _ _ _).mono ?_;rintro e w' ⟨rfl,rfl⟩)
  go_ret;rw[E];exact⟨⟨_,rfl,ar.mk _ _⟩,b.alloc _⟩
 ·have E:Hid (k=false):=Z (by rw[K.out,decide_eq_false (by omega)];rfl)
  go_in
  go_wp2_with (go_at_call 101;refine(bo _ _ _ _).mono ?_;rintro e w' ⟨rfl,rfl⟩)
  go_ret;rw[E];exact⟨⟨_,rfl,ar.mk _ _⟩,b.alloc _⟩
 ·have E:Hid (k=false):=Z (by rw[K.out,decide_eq_false (by omega)];rfl)
  go_in
  go_wp2_with (go_at_call 101;refine(bo _ _ _ _).mono ?_;rintro e w' ⟨rfl,rfl⟩)
  go_ret;rw[E];exact⟨⟨_,rfl,ar.mk _ _⟩,b.alloc _⟩
 ·have E:Hid (k=false):=Z (by rw[K.out,decide_eq_false (by omega)];rfl)
  have I:IntKind.i64.wrap (256-wi)=256-wi:=IntWalk.i64_in _ (by omega);go_in
  go_wp2_with (go_at_call 101;refine(bo _ _ _ _).mono ?_;rintro e w' ⟨rfl,rfl⟩)
  go_ret;rw[E];exact⟨⟨_,rfl,ar.mk _ _⟩,b.alloc _⟩
 ·have E:Hid (k=false):=Z (by rw[K.out,decide_eq_false (by omega)];rfl)
  have I:IntKind.i64.wrap (256-wi)=256-wi:=IntWalk.i64_in _ (by omega);subst s;go_in
  go_wp2_with (go_at_call 101;refine(bo _ _ _ _).mono ?_;rintro e w' ⟨rfl,rfl⟩)
  go_ret;rw[E];exact⟨⟨_,rfl,ar.mk _ _⟩,b.alloc _⟩
 ·have I:IntKind.i64.wrap (256-wi)=256-wi:=IntWalk.i64_in _ (by omega)
  have E:Hid (k=(u&&decide (0<=en/\en<N))):=Z (by rw[K.out,decide_eq_true (by omega),Bool.true_and]);have Q:(N==0)=false:=by simpa using s
  cases u
  ·have p:Hid (k=false):=Z (by rw[E];rfl)
   go_in
   go_wp2_with (go_at_call 102;refine j.mono ?_;rintro e w2 ⟨⟨y,rfl,f⟩,d⟩;obtain⟨tt,U,rfl⟩:ar y:=f;have o:=Z d;clear d)
   go_ret;rw[p];exact⟨⟨_,rfl,ar.mk _ _⟩,b.trans o⟩
  ·have p:Hid (k=decide (0<=en/\en<N)):=Z (by rw[E,Bool.true_and])
   go_in
   go_wp2_with (first|(go_at_call 102;refine j.mono ?_;rintro e w2 ⟨⟨y,rfl,f⟩,d⟩;obtain rfl:y=.nilIface:=f;have o:=Z d;have A:=q.ch d id;obtain⟨R,S⟩:=A.c2;clear d A t0 t1 t2 t3)|(go_at_call 103;refine(l6 _ _ _).mono ?_;rintro e T ⟨⟨y,rfl,f⟩,F⟩;have J:=Z F;have O:=Z f;clear F f))
   go_ret;rw[p];exact⟨⟨_,rfl,O⟩,(b.trans o).trans J⟩
def hD(χ:Nat->a'):Prop:=∀i,χ i≠ .out
theorem ae.Ge(h:ae w χ L Y C K){id:Int}(E:aw K.ai id=none){f:Frame}{bv:Value}{fb g tb:Nat}(H:aJ w fb 0 127 [] f.post bv f.f)(G:bv.ownBlock=none)
 (I:w.ownsRow 0 125 1 (.slice (some (g,0)) 1 1) 1 [bk fb]) (J:Row w tb 124 [.int .u64 id,.slice (some (g,0)) 1 1,.int .u64 0]) (o:χ fb=.no) (p:χ g=.no) (r:χ tb=.no) (R:g≠fb) (V:tb≠fb) (S:g≠tb)
 (T:bS w' L.tm .u64 bk (cn (K.ai.map fun x=>(x.1,Y.bI x.1)) id tb)) (c:Ch (aH L.tm) w w'):
 ∃aY Y',ae w' aY L Y' C {K with ai:=cn K.ai id ⟨id,[f],0⟩}/\(∀i,i<w.heap.size->χ i≠ .no->aY i=χ i)/\(∀i,aY i≠ .no->χ i≠ .no∨i=fb∨i=g∨i=tb)/\Yk K Y Y'/\(hD χ->hD aY):=by
 have B:=h.tm (by simp);have s:eT [.tm] χ χ (aH L.tm) w w':=eT.one c (fun i d=>by rw[show i=L.tm from d];simp[B.k]) h.small;have base:=h.step s (by simp);obtain⟨aY,A⟩:∃aY:Nat->a',aY=fun i=>if i=fb then .fr id 0 else if i=g then .tl id else if i=tb then .th id else χ i:=⟨_,rfl⟩
 have a:∀{i:Nat} {k:a'},χ i=k->k≠ .no->aY i=k:=fun {i k} d y=>by
  rw[A];dsimp only;rw[if_neg (fun e=>y (by rw[<-d,e,o])),if_neg (fun e=>y (by rw[<-d,e,p])),if_neg (fun e=>y (by rw[<-d,e,r]))];exact d
 have F:∀{i},χ i=.no->i≠L.tm:=fun {i} d e=>by rw[e,B.k]at d;cases d
 have M:MB [.tm] w' aY L Y C K:={
  head:=fun m=>⟨(base.head (by simp)).row,(base.head (by simp)).rows,a (base.head (by simp)).k (by simp)⟩
  mem:=fun m=>⟨(base.mem (by simp)).is,a (base.mem (by simp)).k1 (by simp),a (base.mem (by simp)).k2 (by simp),a (base.mem (by simp)).k3 (by simp)⟩
  al:=fun m=>⟨(base.al (by simp)).is,a (base.al (by simp)).k1 (by simp),fun q l=>a ((base.al (by simp)).k2 q l) (by simp)⟩
  b2:=fun m=>⟨(base.b2 (by simp)).is,a (base.b2 (by simp)).k1 (by simp),a (base.b2 (by simp)).k2 (by simp),a (base.b2 (by simp)).k3 (by simp),a (base.b2 (by simp)).k4 (by simp),fun q l=>a ((base.b2 (by simp)).k5 q l) (by simp)⟩
  ring:=fun m=>⟨(base.ring (by simp)).is,a (base.ring (by simp)).k1 (by simp),a (base.ring (by simp)).k2 (by simp)⟩
  q:=fun m=>⟨(base.q (by simp)).is,(base.q (by simp)).b1,fun i d=>a ((base.q (by simp)).k i d) (by simp)⟩
  cZ:=fun m=>⟨(base.cZ (by simp)).is,a (base.cZ (by simp)).k1 (by simp),a (base.cZ (by simp)).k2 (by simp)⟩
  obj:=fun m=>⟨(base.obj (by simp)).is,a (base.obj (by simp)).k1 (by simp),a (base.obj (by simp)).k2 (by simp)⟩
  tm:=fun m=>absurd (by simp) m
  th:=fun j u n m=>⟨(base.th j u n (by simp)).is,a (base.th j u n (by simp)).k (by simp)⟩
  tl:=fun j u n m=>⟨(base.tl j u n (by simp)).is,fun q l=>a ((base.tl j u n (by simp)).k q l) (by simp)⟩
  fr:=fun j u k D n y m=>⟨(base.fr j u k D n y (by simp)).is,a (base.fr j u k D n y (by simp)).kf (by simp),fun q l=>a ((base.fr j u k D n y (by simp)).kb q l) (by simp)⟩
  wk:=fun m=>⟨(base.wk (by simp)).is,a (base.wk (by simp)).k (by simp),(base.wk (by simp)).back,fun i x z q l=>a ((base.wk (by simp)).kb i x z q l) (by simp),(base.wk (by simp)).n⟩
  out:=fun m=>⟨(base.out (by simp)).is,fun q l=>a ((base.out (by simp)).k q l) (by simp)⟩
  code:=fun m=>{
   m4:=(base.code (by simp)).m4
   jo:=(base.code (by simp)).jo
   m5:=(base.code (by simp)).m5
   cg:=fun z=>by obtain⟨q,o,p,r⟩:=(base.code (by simp)).cg z;exact⟨q,o,p,a r (by simp)⟩
   prog:=fun z=>by obtain⟨q,o,p,r⟩:=(base.code (by simp)).prog z;exact⟨q,o,p,a r (by simp)⟩
   calls:=fun z=>by obtain⟨q,j,o,p,r⟩:=(base.code (by simp)).calls z;exact⟨q,j,o,p,a r (by simp)⟩}
  small:=fun i d=>by
   rw[A]at d;dsimp only at d;split at d
   ·rename_i e;rw[e];exact Nat.lt_of_lt_of_le H.row.lt c.size
   ·split at d
    ·rename_i e;rw[e];exact Nat.lt_of_lt_of_le (cE I (g:=g) rfl) c.size
    ·split at d
     ·rename_i e;rw[e];exact Nat.lt_of_lt_of_le J.lt c.size
     ·exact base.small i d}
 have P:=H.ch c (fun e=>F o e) (fun q l=>by rw[G]at l;cases l);have Q:=ak I c (fun q l e=>F p (by
  have:g=q:=by simpa[Value.ownBlock]using l
  rw[this];exact e))
 have U:=J.ch c (fun e=>F r e);have O:hD χ->hD aY:=fun N i=>by
  rw[A];dsimp only;split
  ·intro e;cases e
  ·split
   ·intro e;cases e
   ·split
    ·intro e;cases e
    ·exact N i
 refine⟨aY,_,M.FH (t:=⟨id,[f],0⟩) (f:=f) (v:=.slice (some (g,0)) 1 1) (bv':=bv) (b:=tb) (fbk:=fb) E rfl ⟨?_,a B.k (by simp),B.nd.put _ _⟩ ⟨U,?_⟩ ⟨by simpa using Q,?_⟩ ⟨P,?_,fun q l=>by rw[G]at l;cases l⟩,fun i d m=>a rfl m,?_,?_,O⟩
 ·rw[<-su _ _ _ _ _ E];exact T
 ·rw[A];dsimp only;rw[if_neg V,if_neg (fun e=>S e.symm),if_pos rfl]
 ·intro q l
  have:g=q:=by simpa[Value.ownBlock]using l
  rw[<-this,A];dsimp only;rw[if_neg R,if_pos rfl]
 ·rw[A];dsimp only;rw[if_pos rfl]
 ·intro i d
  rw[A]at d;dsimp only at d;split at d
  ·rename_i e;exact Or.inr (Or.inl e)
  ·split at d
   ·rename_i e;exact Or.inr (Or.inr (Or.inl e))
   ·split at d
    ·rename_i e;exact Or.inr (Or.inr (Or.inr e))
    ·exact Or.inl d
 ·intro j u n
  have e:j≠id:=fun e=>by rw[e,E]at n;cases n
  exact⟨if_neg e,fun k _=>if_neg e⟩
def Gf(x:Option Nat)(χ:Nat->a')(L:cU)(Y:Var)(C:KC)(K K':KS)(w:World)(e:Ending)(w':World):Prop:=
 (match x with
  |some a=>e=.returned (.tuple #[.int .i64 a,.nilIface])
  |none=>∃u,e=.returned (.tuple #[.int .i64 0,u])/\ar u)/\∃aY Y',dD χ L Y C K K' w aY Y' w'/\(hD χ->hD aY)
def Gg(x:Option Int)(χ:Nat->a')(L:cU)(Y:Var)(C:KC)(K K':KS)(w:World)(e:Ending)(w':World):Prop:=
 (match x with
  |some a=>e=.returned (.tuple #[.int .u64 a,.nilIface])
  |none=>∃v,e=.returned (.tuple #[.int .u64 0,v])/\ar v)/\∃aY Y',dD χ L Y C K K' w aY Y' w'/\(hD χ->hD aY)
def DK(ok:Bool)(χ:Nat->a')(L:cU)(Y:Var)(C:KC)(K K':KS)(w:World)(e:Ending)(w':World):Prop:=(∃v,e=.returned v/\(if ok then v=.nilIface else ar v))/\∃aY Y',dD χ L Y C K K' w aY Y' w'/\(hD χ->hD aY)
def Gh(v:Value)(χ:Nat->a')(L:cU)(Y:Var)(C:KC)(K K':KS)(w:World)(e:Ending)(w':World):Prop:=e=.returned v/\∃aY Y',dD χ L Y C K K' w aY Y' w'/\(hD χ->hD aY)
theorem p5{χ:Nat->a'}{o:Option Nat}:hD χ->hD (cN χ o .al):=fun h i=>by
 unfold cN;split
 ·intro e;cases e
 ·exact h i
theorem EZ(n:Nat)(f:n<=1000000)(g:K.blocks.Ok)(h:ae w χ L Y C K):Calls prog 113 #[(L.ab,0),.int .i64 n,.int .i64 64] w (Gf (df K.blocks K.mem n).1 χ L Y C K {K with blocks:=(df K.blocks K.mem n).2.1,mem:=(df K.blocks K.mem n).2.2} w):=
 (kJ L.ab L.m L.c L.d Y.av K.blocks K.mem g n f w (h.al (by simp)).is (h.mem (by simp)).is).mono fun _ _ ⟨a,⟨v,b,c⟩,d,e⟩=>⟨a,_,_,h.Cp b c d e,p5⟩
theorem E0(a:Int)(g:K.blocks.Ok)(h:ae w χ L Y C K):Calls prog 115 #[(L.ab,0),a] w (DK (m1 K.blocks K.mem a).1 χ L Y C K (jm K a) w):=
 (kK L.ab L.m L.c L.d Y.av K.blocks K.mem g a w (h.al (by simp)).is (h.mem (by simp)).is).mono fun _ _ ⟨b,⟨v,c,d⟩,e,f⟩=>⟨b,_,_,h.Cp c d e f,p5⟩
theorem p6(home:Int)(h:ae w χ L Y C K):Calls prog 114 #[(L.tb,0),.int .u64 home] w (Gg (dh K.table home).1 χ L Y C K {K with table:=(dh K.table home).2} w):=
 (mE L.tb L.tg K.table home w (h.cZ (by simp)).is).mono fun _ _ ⟨a,b,c⟩=>⟨a,_,_,h.mI b c,fun h=>h⟩
theorem yL(v:Int)(h:ae w χ L Y C K):Calls prog 69 #[(L.rb,0),.int .u64 v] w (DK (hG K.ring v).1 χ L Y C K {K with ring:=(hG K.ring v).2} w):=
 (mF L.rb L.rg K.ring v w (h.ring (by simp)).is).mono fun _ _ ⟨a,b,c⟩=>⟨a,_,_,h.uj b c,fun h=>h⟩
theorem vd(place c:Int)(a1:K.blocks.Ok)(a2:(df K.blocks K.mem 1).2.1.Ok)(bb:∀N id,(dh K.table N).1=some id->aw K.ai id=none)(h:ae w χ L Y C K):
 Calls prog 68 #[(L.mb,0),place,.int .u64 c] w (Gh (.int .u64 (bQ K place c).1) χ L Y C K (bQ K place c).2 w):=by
 have cQ:=Z h;have B:=h.pd;have M:=Z (EZ 1 (by omega) a1 h);obtain⟨p,O⟩:=nm (df K.blocks K.mem 1);have hle:∀a,p.1=some a->a<=140000:=fun a aP=>ng a1 (by rw[O];exact aP)
 rw[O]at M a2;obtain⟨ch,B1,al⟩:=p;have S:=Z O;have c2:=Z a2;have c6:=Z bb;clear h O a1 a2 bb;cases ch with
 |none=>
  have E:Hid (bQ K place c=(0,{K with blocks:=B1,mem:=al})):=Z (by unfold bQ;rw[S]);clear hle;go_in
  go_wp2_with fail
  refine M.mono ?_;rintro e w1 ⟨⟨u,rfl,a4⟩,dZ,Y1,b,J⟩;have A:=Z J;obtain⟨tt,cF,rfl⟩:=a4;have y:=Z b;clear b B;go_wp2
  go_ret;rw[E];exact⟨rfl,dZ,Y1,y,A⟩
 |some a=>
  have aP:=hle a rfl;have di:IntKind.u64.wrap (a:Int)=a:=by unfold IntKind.wrap IntKind.bits IntKind.signed;simp;omega
  obtain⟨K1,a0⟩:=mn (({K with blocks:=B1,mem:=al}:KS));have j:=Z a0;have cW:(a:Int)<=140000:=by omega
  obtain⟨q,bi⟩:=nm (dh K1.table (a:Int));obtain⟨ce,r⟩:=q;have z:=Z bi;have c3:Hid (K1.blocks.Ok):=Z (by rw[a0];exact c2);clear hle a0 bi;cases ce with
  |none=>
   have E:Hid (bQ K place c=(0,jm {K1 with table:=r} a)):=Z (by
    have:=z.out;rw[j]at this⊢;unfold bQ;rw[S];dsimp only;rw[show dh K.table (a:Int)=(none,r)from this])
   go_in
   go_wp2_with fail
   refine M.mono ?_;rintro e w1 ⟨rfl,dZ,Y1,b,J⟩;have A:=Z J;rw[<-j]at b;have y:=Z b;have V:=b.at_.ee;have n:=p6 (a:Int) b.at_;rw[z]at n;have Q:=Z n;clear b B n;go_wp2_with fail
   refine Q.mono ?_;rintro e w2 ⟨⟨u,rfl,a4⟩,x,am,m,a5⟩;have U:=Z a5;obtain⟨tt,cF,rfl⟩:=a4;have k:=Z (y.trans (Gr.of_eq (by rw[j])) m);have B:=m.at_.pd;clear m V;go_wp2_with fail
   refine(E0 (a:Int) (by exact c3) k.at_).mono ?_;rintro e dr ⟨⟨v,rfl,_⟩,cL,cd,ap,cA⟩;have cb:=Z cA;have c1:=Z (k.trans (Gr.of_eq (by rw[j])) ap);clear ap B;go_wp2
   go_ret;rw[E];exact⟨rfl,cL,cd,c1,fun h=>cb (U (A h))⟩
  |some id=>
   have bd:aw K.ai id=none:=c6 (a:Int) id (by have:=z.out;rw[j]at this;rw[show dh K.table (a:Int)=(some id,r)from this]);have c7:=Z bd;have E:Hid (bQ K place c=(id,{K1 with table:=r,ai:=cn K.ai id ⟨id,[jb place c],0⟩})):=Z (by
    have:=z.out;rw[j]at this⊢;unfold bQ;rw[S];dsimp only;rw[show dh K.table (a:Int)=(some id,r)from this];rfl)
   clear bd;go_in
   go_wp2_with fail
   refine M.mono ?_;rintro e w1 ⟨rfl,dZ,Y1,b,J⟩;have A:=Z J;rw[<-j]at b;have y:=Z b;have V:=b.at_.ee;have n:=p6 (a:Int) b.at_;rw[z]at n;have Q:=Z n;clear b B n;go_wp2_with fail
   refine Q.mono ?_;rintro e w2 ⟨rfl,x,am,m,a5⟩;have U:=Z a5;have k:=Z (y.trans (Gr.of_eq (by rw[j])) m);have W:=m.at_.hN;have c0:=Z W;clear W;go_upto_region 11 with fail
   obtain⟨d,I⟩:=nm (w2.alloc (.cells #[place,.int .u64 c,.int .u64 0,.int .u64 0,.int .u64 0,.int .u64 0,.int .u64 0,.int .u64 0,.int .u64 0,.int .u64 0,.int .u64 0,.int .u64 0,.int .u64 0,.int .u64 0,.int .u64 0,.int .u64 0,.int .u64 0,.int .u64 0,.int .u64 0,.int .u64 0,.int .u64 0,.int .u64 0,.int .u64 0,.int .u64 0,.int .u64 0,.int .u64 0,.int .u64 0,.int .u64 0,.int .u64 0,.int .u64 0,.int .u64 0,.int .u64 0,.int .u64 0,.slice none 0 0,.bool false,.int .i64 0] 127));have ab:=Z (Ch.al (D:=ag) I);have ad:Hid (aJ d w2.heap.size 0 127 [] (jb place c).post (.slice none 0 0) (jb place c).f):=Z ⟨by
    have bw:=Row.new w2 #[place,.int .u64 c,.int .u64 0,.int .u64 0,.int .u64 0,.int .u64 0,.int .u64 0,.int .u64 0,.int .u64 0,.int .u64 0,.int .u64 0,.int .u64 0,.int .u64 0,.int .u64 0,.int .u64 0,.int .u64 0,.int .u64 0,.int .u64 0,.int .u64 0,.int .u64 0,.int .u64 0,.int .u64 0,.int .u64 0,.int .u64 0,.int .u64 0,.int .u64 0,.int .u64 0,.int .u64 0,.int .u64 0,.int .u64 0,.int .u64 0,.int .u64 0,.int .u64 0,.slice none 0 0,.bool false,.int .i64 0] 127;rw[I]at bw;exact bw,rfl,cv.nil _⟩
   have l:Hid (d.heap.size=w2.heap.size+1):=Z (by rw[<-I];simp);rw[I];clear I m V;have W:=(ab.cell (aQ c0.out) (fun h=>h)).trans c0.out;obtain⟨fb,a3⟩:=mn w2.heap.size;rw[<-a3]at ad l⊢;have o:=Z a3;clear a3;obtain⟨w4,t⟩:=nm ((d.alloc (.cells #[(fb,0)] 125)).alloc (.cells #[.int .u64 id,.slice (some (d.heap.size,0)) 1 1,.int .u64 0] 124));have a9:Hid (Ch ag w2 w4):=Z (by rw[<-t];exact(ab.alloc _).alloc _);have R:Hid (ae w4 x L am C {K1 with table:=r}):=Z (k.at_.af a9);have c8:Hid (Row w4 d.heap.size 125 [bk fb]):=Z (by rw[<-t];exact(Row.new d _ _).alloc _);have c9:Hid (Row w4 (d.heap.size+1) 124 [.int .u64 id,.slice (some (d.heap.size,0)) 1 1,.int .u64 0]):=Z (by
    rw[<-t];have:=Row.new (d.alloc (.cells #[(fb,0)] 125)) #[.int .u64 id,.slice (some (d.heap.size,0)) 1 1,.int .u64 0] 124;rw[World.size_alloc]at this;exact this)
   have c5:Hid (aJ w4 fb 0 127 [] (jb place c).post (.slice none 0 0) (jb place c).f):=Z (by
    rw[<-t];exact ad.ch (((Ch.refl ag _).alloc _).alloc _) (fun h=>h) (fun _ _ h=>h))
   obtain⟨cC,bX,av,X⟩:=fu (P:=prog) (T:=110) (K:=39) (E:=121) (enc:=bk) underlying110 underlying39 (R.tm (by simp)).is id (d.heap.size+1);have H:∀i,w2.heap.size<=i->x i=.no:=fun i s=>by
    cases F:x i with
    |no=>rfl
    |_=>exact absurd (k.at_.small i (by rw[F];simp)) (by omega)
   have cS:=Z H;have bx:=R.Ge (id:=id) (f:=jb place c) (bv:=.slice none 0 0) (fb:=fb) (g:=d.heap.size) (tb:=d.heap.size+1) (w':=cC) (by rw[j];exact c7) c5 rfl
    ⟨rfl,Or.inr ⟨d.heap.size,1,#[bk fb],rfl,Nat.zero_le _,c8,Nat.le_refl _,by unfold maxLen;omega,rfl,rfl⟩⟩ c9 (H _ (by rw[o];exact Nat.le_refl _)) (H _ (by rw[l,o];omega)) (H _ (by rw[l,o];omega)) (by rw[l];omega) (by rw[l];omega) (by omega) av X
   have ca:=Z bx;have c4:=Z X;simp only[bk]at bX;rw[<-t]at bX;clear bx av X t H;go_wp2
   go_ret;rw[E];obtain⟨aY,Y',N,cs,cm,ct,cq⟩:=ca.out;have bZ:K1.ai=K.ai:=(by rw[j]);simp only[bZ]at N;refine⟨rfl,aY,Y',⟨N,?_,?_⟩,fun h=>cq (U (A h))⟩
   ·have G:Nx χ x w w4:=k.nx.trans (Nx.af a9)
    have ci:=(R.tm (by simp)).k;have dp:w.heap.size<=w2.heap.size:=k.nx.ch.size;refine⟨G.ch.join c4 (fun i s e=>by rw[<-G.same i s,show i=L.tm from e,ci];simp),fun i s=> ?_⟩;cases F:x i with
    |no=>
     rw[<-G.same i s,F];cases cl:aY i with
     |no=>rfl
     |_=>
      exfalso;rcases cm i (by rw[cl];simp)with e|e|e|e
      ·exact e F
      ·rw[o]at e;omega
      ·rw[l,o]at e;omega
      ·rw[l,o]at e;omega
    |_=>rw[cs i (Nat.lt_of_lt_of_le s G.ch.size) (by rw[F];simp),G.same i s]
   ·exact k.yk.trans (Gr.of_eq bZ) ct
theorem Di:(prog.info? 48).map (fun i=>(i.zero,i.size,i.bytes))=some (some (.agg #[.int .u64 0,.int .i64 0,.int .u64 0,.int .u64 0,.int .u64 0,.bool false,.bool false]),7,48):=by kernel_rfl
def rz(l:List aF):List iD:=(l.filter aF.taken).map aF.t
theorem jY{l:List aF}{k:Nat}{r:aF}(h:l[k]?=some r):rz (l.take (k+1))=rz (l.take k)++(if r.taken then [r.t]else []):=by
 rw[List.take_succ,h];unfold rz;rw[List.filter_append,List.map_append];cases a:r.taken<;>simp[a]
def BA(l:List iD)(w:World)(e:Ending)(w':World):Prop:=∃v,e=.returned v/\w'.ownsRow w.heap.size 48 7 v l.length (l.flatMap iD.cells)/\Ch ag w w'
theorem vv(b g:Nat)(l:List aF)(w:World)(h:aW w b g l):Calls prog 44 #[(b,0)] w (BA (rz l) w):=by
 obtain⟨J,q,G,H,I⟩:=info_parts Di;have z:=Z q;have c:=Z h;have V:=h.head.c1;clear q h;go_wp2
 go_loopw [3,10] (fun K m wr=>∃k n:Nat,k<=64/\n<=k/\m=.int .i64 k/\n=(rz (l.take k)).length/\Ch ag w wr/\wr.ownsRow w.heap.size 48 7 K n ((rz (l.take k)).flatMap iD.cells)) (fun _ m _=>64-(intOf m).toNat)
 case atStart=>exact⟨0,0,by omega,by omega,rfl,rfl,Ch.refl _ _,⟨by simp[rz],Or.inl ⟨rfl,rfl⟩⟩⟩
 case round=>
  obtain⟨k,n,a0,a3,rfl,s,e,f⟩:=hrel;have a:=Z (And.intro e (And.intro f s));obtain⟨U,X,rfl⟩:=au f;have W:=((c.ch e (fun h=>h) (fun h=>h)).head).cell (i:=0) rfl;clear e f s;by_cases D:k<64
  ·obtain⟨r,j⟩:∃r,l[k]?=some r:=⟨_,List.getElem?_eq_getElem (by rw[c.len];exact D)⟩
   have d:=Z j;obtain⟨times,taken,a4,⟨tid,state,home,value,v,loose,x⟩⟩:=r;obtain⟨y0,L,M,N,O,P,Q,R,S,T,fr,a2⟩:=(c.ch a.1 (fun h=>h) (fun h=>h)).cells j;dsimp only at L N O P Q R S T;have a1:(k:Int)<64:=(by omega);clear fr j y0 M;cases taken with
   |false=>
    go_wp2
    go_roundw
    case rel=>exact⟨k+1,n,by omega,by omega,by go_num,by rw[jY d];simpa using a.out.2.2,a.1,by rw[jY d];simpa using a.out.2.1⟩
    case measure=>simp[intOf];omega
   |true=>
    have F:=a.1.size;go_wp2_with (at_builtin;refine wpList_append_lies _ rfl _ _ _ rfl w.heap.size 48 J _ 7 48 underlying43 z G H I rfl (by omega) _ n ((rz (l.take k)).flatMap iD.cells) rfl (a.2.1.alloc _) ⟨wr.heap.size,0,none⟩ 1 1 [.int .u64 tid,state,.int .u64 home,.int .u64 value,.int .u64 v,.bool loose,.bool x] rfl rfl (World.news_of_block (cs:=#[.int .u64 tid,state,.int .u64 home,.int .u64 value,.int .u64 v,.bool loose,.bool x]) (t:=48) (fr:=(0,0)) (heap_alloc_new wr _)) (by simp[Value.oneCell']) (by omega) (by unfold maxLen;omega) (by omega) (by simp;omega) (wr.heap.size+1) (by simp) ?_)
    intro Y cap a5 u p C E;have o:=ao p;have A:=Z u;have y:=Z (eX a.1 a.2.1 (Nat.le_refl _) o);clear p o u C E F;go_wp2
    go_roundw
    case rel=>exact⟨k+1,n+1,by omega,by omega,by go_num,by rw[jY d];simpa using a.out.2.2,y,by rw[jY d,List.flatMap_append];simpa[iD.cells]using A.out⟩
    case measure=>simp[intOf];omega
  ·obtain rfl:k=64:=by omega
   go_wp2
   go_ret;refine⟨_,rfl,?_,a.1⟩;have B:=a.2.1;rw[a.2.2,List.take_of_length_le (by rw[c.len];omega)]at B
   rwa [a.2.2,List.take_of_length_le (by rw[c.len];omega)]
theorem o8{w:World}{χ:Nat->a'}{L:cU}{Y:Var}{C:KC}{K:KS}(h:ae w χ L Y C K):Calls prog 15 #[(L.mb,0)] w (BA (rz K.table) w):=by
 have c:=h.ee;have b:=Z (vv L.tb L.tg K.table w (h.cZ (by simp)).is);go_in
 go_wp2_with (go_at_call 44;refine b.mono ?_;rintro e w' ⟨v,rfl,f,d⟩;have a:=Z (And.intro f d))
 go_ret;exact⟨v,rfl,a.1,a.2⟩
