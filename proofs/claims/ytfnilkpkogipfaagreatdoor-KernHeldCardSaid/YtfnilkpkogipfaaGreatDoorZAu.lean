import Derived.Test.YtfnilkpkogipfaaGreatDoorZAr
set_option linter.all false
set_option maxRecDepth 100000
set_option maxHeartbeats 8000000
namespace Go.Proofs.YtfnilkpkogipfaaGreatDoor
open Go.RowKit Go.Proofs.Tryz
section
section
variable{w:World}{χ:Nat->a4}{L:cw}{Y:Var}{C:KC}{K:KS}
theorem wH(i:Nat)(N:i<K.wk.length)(c:bK)(b l:Nat)(M:aj K c)(O:aP L Y c b l)(A:∀k,k<32->aH ((K.F c).r k))(a d o q p r:Int)(V:0<=a/\a<32)(hb:0<=d/\d<32)(h:ae w χ L Y C K):
 Calls prog 166 #[(L.mb,0),(L.wb,i*38),(b,l),.agg #[.int .i64 49,a,d,o,.int .u64 q,p,r]] w (de (.tuple #[]) χ L Y C K (bu C K i c ⟨49,a,d,o,q,p,r⟩) w):=by
 have H:=Z h;have t:=Z M;have u:=Z O;have a3:=Z N;obtain⟨Q,P,a2,z,s⟩:=h.pre 49 a d o q p r;obtain⟨bv,bw⟩:=V;obtain⟨a0,D⟩:∃y,(K.F c).r a.toNat=y:=⟨_,rfl⟩;have J:=Z D;have I:=Z (A a.toNat (by omega));rw[D]at I;obtain⟨am,ap⟩:=I.out;clear D;obtain⟨c0,c1⟩:=hb;obtain⟨g,F⟩:∃y,(K.F c).r d.toNat=y:=⟨_,rfl⟩;have x:=Z F;have v:=Z (A d.toNat (by omega));rw[F]at v;obtain⟨av,bi⟩:=v.out;clear F;obtain⟨t0,t1,t2,t3,t4,t5,t6⟩:=s.1.c7;have m:=z.at_.az t u a.toNat (by omega);rw[J]at m;have n:=z.at_.az t u d.toNat (by omega);rw[x]at n;clear h M O A N;have E:Hid (bu C K i c ⟨49,a,d,o,q,p,r⟩=K.au c a.toNat (dV K.table g)):=Z (by unfold bu;dsimp only;rw[if_neg (by decide),if_neg (by decide),if_neg (by decide),if_pos rfl,x,show IntKind.u64.wrap (dV K.table g)=dV K.table g from by have:=nA K.table g;unfold IntKind.wrap IntKind.bits IntKind.signed;simp;omega]);go_enter func166,ntmps166
 go_wp2_with fail
 try rw[P]
 clear P;go_quiet (fail)
 obtain⟨w1,B⟩:=nm (Q.drewN nq);have G:Hid (Ch ag Q w1):=Z (by rw[<-B];exact(Ch.refl _ _).drewN nq);rw[B];clear B;have j:=Z (z.af G);have f:Hid (aj K c/\aP L Y c b l):=Z ⟨t,u⟩;have S:=Z ((Nx.af G).row s.1 s.2);clear t0 t1 t2 t3 t4 t5 t6 m n;obtain⟨t0,t1,t2,t3,t4,t5,t6⟩:=S.1.c7;have m:=j.at_.az f.1 f.2 a.toNat (by omega);rw[show((K:KS).F c).r a.toNat=a0 from J.out]at m;have n:=j.at_.az f.1 f.2 d.toNat (by omega);rw[show((K:KS).F c).r d.toNat=g from x.out]at n;have k1:=j.at_.eh;go_wp2_with fail
 refine(ti g v j.at_).mono ?_;rintro e w2 ⟨rfl,rfl⟩;have W:=nA K.table g;obtain⟨ad,al⟩:=W;have ab:=j.at_.g1 f.1 f.2 (l+1+a.toNat);have U:=Z (j.at_.drew.a6 f.1 f.2 a.toNat (by omega) (dV K.table g));have R:Hid (Gr K _):=Z (Gr.refl K);go_wp2_with fail
 go_still_tail 6,(by kernel_rfl)
 change wpList _ _ _ _ _ w1.drew;go_wp2_with fail
 go_end0
 rw[E];obtain⟨a1,T,X⟩:=U.out;exact⟨rfl,a1,T,(j.af (Ch.refl _ _).drew).trans R X⟩
theorem wI(i:Nat)(U:i<K.wk.length)(c:bK)(b p:Nat)(S:aj K c)(V:aP L Y c b p)(G:∀k,k<32->aH ((K.F c).r k))(a d q s r t:Int)(bi:0<=a/\a<32)(hb:0<=d/\d<32)(h:ae w χ L Y C K):
 Calls prog 166 #[(L.mb,0),(L.wb,i*38),(b,p),.agg #[.int .i64 50,a,d,q,.int .u64 s,r,t]] w (de (.tuple #[]) χ L Y C K (bu C K i c ⟨50,a,d,q,s,r,t⟩) w):=by
 have H:=Z h;have x:=Z S;have z:=Z V;have c2:=Z U;obtain⟨a0,W,c1,F,u⟩:=h.pre 50 a d q s r t;obtain⟨c8,c9⟩:=bi;obtain⟨a2,M⟩:∃y,(K.F c).r a.toNat=y:=⟨_,rfl⟩;have B:=Z M;have R:=Z (G a.toNat (by omega));rw[M]at R;obtain⟨c4,c5⟩:=R.out;clear M;obtain⟨cb,cd⟩:=hb;obtain⟨O,N⟩:∃y,(K.F c).r d.toNat=y:=⟨_,rfl⟩;have D:=Z N;have A:=Z (G d.toNat (by omega));rw[N]at A;obtain⟨c6,c7⟩:=A.out;clear N;obtain⟨t0,t1,t2,t3,t4,t5,t6⟩:=u.1.c7;have f:=F.at_.az x z a.toNat (by omega);rw[B]at f;have m:=F.at_.az x z d.toNat (by omega);rw[D]at m;obtain⟨bw,I⟩:=nm (fq K.table O);have am:=Z I;have n:=Z (fun w h=>kv (K:=K) (w:=w) (χ:=χ) (L:=L) (Y:=Y) (C:=C) O A h);rw[I]at n;clear I;obtain⟨⟨ce,cf,a3,ch,ci,ck,cl⟩,cm⟩:=bw;unfold lV.val at n;dsimp only at n;clear h S V G U;have E:Hid (bu C K i c ⟨50,a,d,q,s,r,t⟩=K.au c a.toNat a3):=Z (by unfold bu;dsimp only;rw[if_neg (by decide),if_neg (by decide),if_neg (by decide),if_neg (by decide),if_pos rfl,D,am]);go_enter func166,ntmps166
 go_wp2_with fail
 try rw[W]
 clear W;go_quiet (fail)
 obtain⟨w1,J⟩:=nm (a0.drewN nq);have P:Hid (Ch ag a0 w1):=Z (by rw[<-J];exact(Ch.refl _ _).drewN nq);rw[J];clear J;have j:=Z (F.af P);have l:Hid (aj K c/\aP L Y c b p):=Z ⟨x,z⟩;have v:=Z ((Nx.af P).row u.1 u.2);clear t0 t1 t2 t3 t4 t5 t6 f m;obtain⟨t0,t1,t2,t3,t4,t5,t6⟩:=v.1.c7;have f:=j.at_.az l.1 l.2 a.toNat (by omega);rw[show((K:KS).F c).r a.toNat=a2 from B.out]at f;have m:=j.at_.az l.1 l.2 d.toNat (by omega);rw[show((K:KS).F c).r d.toNat=O from D.out]at m;have k1:=j.at_.eh;go_wp2_with fail
 refine(n _ j.at_).mono ?_;rintro e w2 ⟨rfl,T⟩;have al:=Z T;clear T;go_upto_region 23 with fail
 generalize X:w2.alloc _=a1;have Q:Hid (Ch ag w1 a1):=Z (by rw[<-X];exact al.alloc _);clear X;have o:=Z (j.af Q);have ad:=Z ((Nx.af Q).row v.1 v.2);have g:=l;clear t0 t1 t2 t3 t4 t5 t6 f m;obtain⟨t0,t1,t2,t3,t4,t5,t6⟩:=ad.1.c7;have f:=o.at_.az g.1 g.2 a.toNat (by omega);rw[show((K:KS).F c).r a.toNat=a2 from B.out]at f;have c3:=o.at_.g1 g.1 g.2 (p+1+a.toNat);have av:=Z (o.at_.drew.a6 g.1 g.2 a.toNat (by omega) a3);have ab:Hid (Gr K _):=Z (Gr.refl K);go_wp2_with fail
 go_still_tail 6,(by kernel_rfl)
 change wpList _ _ _ _ _ a1.drew;go_wp2_with fail
 go_end0
 rw[E];obtain⟨c0,ap,bv⟩:=av.out;exact⟨rfl,c0,ap,(o.af (Ch.refl _ _).drew).trans ab bv⟩
theorem wJ(i:Nat)(c0:i<K.wk.length)(c:bK)(b z:Nat)(bw:aj K c)(c1:aP L Y c b z)(a2:∀k,k<32->aH ((K.F c).r k))(a f J N M O:Int)(c5:0<=a/\a<32)(hb:0<=f/\f<32)(c6:K.blocks.Ok)(h:ae w χ L Y C K):
 Calls prog 166 #[(L.mb,0),(L.wb,i*38),(b,z),.agg #[.int .i64 54,a,f,J,.int .u64 N,M,O]] w (de (.tuple #[]) χ L Y C K (bu C K i c ⟨54,a,f,J,N,M,O⟩) w):=by
 have H:=Z h;have p:=Z bw;have q:=Z c1;have ce:=Z c0;obtain⟨S,R,cd,Q,A⟩:=h.pre 54 a f J N M O;obtain⟨cm,cq⟩:=c5;obtain⟨T,ad⟩:∃y,(K.F c).r a.toNat=y:=⟨_,rfl⟩;have F:=Z ad;have bv:=Z (a2 a.toNat (by omega));rw[ad]at bv;obtain⟨ch,ci⟩:=bv.out;clear ad;obtain⟨cs,cA⟩:=hb;obtain⟨t,al⟩:∃y,(K.F c).r f.toNat=y:=⟨_,rfl⟩;have G:=Z al;have P:=Z (a2 f.toNat (by omega));rw[al]at P;obtain⟨ck,cl⟩:=P.out;clear al;obtain⟨t0,t1,t2,t3,t4,t5,t6⟩:=A.1.c7;have d:=Q.at_.az p q a.toNat (by omega);rw[F]at d;have n:=Q.at_.az p q f.toNat (by omega);rw[G]at n;obtain⟨c7,a3⟩:=nm (fs K.table t);have bi:=Z a3;have W:=Z (fun w h=>yG (K:=K) (w:=w) (χ:=χ) (L:=L) (Y:=Y) (C:=C) t P h);rw[a3]at W;clear a3;obtain⟨cC,U,ap,c9,x⟩:=c7;clear h bw c1 a2 c0;cases c9
 ·have E:Hid (bu C K i c ⟨54,a,f,J,N,M,O⟩=({K with table:=x}:KS).au c a.toNat U):=Z (by unfold bu;dsimp only;rw[if_neg (by decide),if_neg (by decide),if_pos rfl,G,bi];rfl)
  go_enter func166,ntmps166
  go_wp2_with fail
  try rw[R]
  clear R;go_quiet (fail)
  obtain⟨w1,s⟩:=nm (S.drewN nq);have D:Hid (Ch ag S w1):=Z (by rw[<-s];exact(Ch.refl _ _).drewN nq);rw[s];clear s;have g:=Z (Q.af D);have l:Hid (aj K c/\aP L Y c b z):=Z ⟨p,q⟩;have o:=Z ((Nx.af D).row A.1 A.2);clear t0 t1 t2 t3 t4 t5 t6 d n;obtain⟨t0,t1,t2,t3,t4,t5,t6⟩:=o.1.c7;have d:=g.at_.az l.1 l.2 a.toNat (by omega);rw[show((K:KS).F c).r a.toNat=T from F.out]at d;have n:=g.at_.az l.1 l.2 f.toNat (by omega);rw[show((K:KS).F c).r f.toNat=t from G.out]at n;have k1:=g.at_.eh;go_wp2_with fail
  refine(W _ g.at_).mono ?_;rintro e w2 ⟨⟨v,rfl,ab⟩,cb,c3,r⟩;clear ab;have j:=Z (g.trans (Gr.refl _) r);have B:=Z (r.nx.row o.1 o.2);have m:=Z (j.cur p q (Gr.of_eq rfl) (rfl));clear r;clear t0 t1 t2 t3 t4 t5 t6 d n;obtain⟨t0,t1,t2,t3,t4,t5,t6⟩:=B.1.c7;have d:=j.at_.az m.1 m.2 a.toNat (by omega);rw[show(({K with table:=x}:KS).F c).r a.toNat=T from F.out]at d;have c4:=j.at_.g1 m.1 m.2 (z+1+a.toNat);have a1:=Z (j.at_.drew.a6 m.1 m.2 a.toNat (by omega) U);have V:Hid (Gr K _):=Z (Gr.of_eq rfl);go_wp2_with fail
  go_still_tail 6,(by kernel_rfl)
  change wpList _ _ _ _ _ w2.drew;go_wp2_with fail
  go_end0
  rw[E];obtain⟨av,X,am⟩:=a1.out;exact⟨rfl,av,X,(j.af (Ch.refl _ _).drew).trans V am⟩
 ·have E:Hid (bu C K i c ⟨54,a,f,J,N,M,O⟩=(ef {K with table:=x} t ap).au c a.toNat U):=Z (by unfold bu;dsimp only;rw[if_neg (by decide),if_neg (by decide),if_pos rfl,G,bi];rfl)
  go_enter func166,ntmps166
  go_wp2_with fail
  try rw[R]
  clear R;go_quiet (fail)
  obtain⟨w1,s⟩:=nm (S.drewN nq);have D:Hid (Ch ag S w1):=Z (by rw[<-s];exact(Ch.refl _ _).drewN nq);rw[s];clear s;have g:=Z (Q.af D);have l:Hid (aj K c/\aP L Y c b z):=Z ⟨p,q⟩;have o:=Z ((Nx.af D).row A.1 A.2);clear t0 t1 t2 t3 t4 t5 t6 d n;obtain⟨t0,t1,t2,t3,t4,t5,t6⟩:=o.1.c7;have d:=g.at_.az l.1 l.2 a.toNat (by omega);rw[show((K:KS).F c).r a.toNat=T from F.out]at d;have n:=g.at_.az l.1 l.2 f.toNat (by omega);rw[show((K:KS).F c).r f.toNat=t from G.out]at n;have k1:=g.at_.eh;go_wp2_with fail
  refine(W _ g.at_).mono ?_;rintro e w2 ⟨⟨v,rfl,ab⟩,cb,c3,r⟩;clear ab;have j:=Z (g.trans (Gr.refl _) r);have B:=Z (r.nx.row o.1 o.2);have m:=Z (j.cur p q (Gr.of_eq rfl) (rfl));clear r;clear t0 t1 t2 t3 t4 t5 t6 d n;obtain⟨t0,t1,t2,t3,t4,t5,t6⟩:=B.1.c7;have d:=j.at_.az m.1 m.2 a.toNat (by omega);rw[show(({K with table:=x}:KS).F c).r a.toNat=T from F.out]at d;go_wp2_with fail
  refine(lu (K:={K with table:=x}) t ap P (by exact c6) j.at_).mono ?_;rintro e c8 ⟨rfl,cL,cf,a0⟩;have I:=Z (j.trans (Gr.of_eq rfl) a0);have c2:=Z (a0.nx.row B.1 B.2);have u:=Z (I.cur p q (Gr.of_eq (gO _ _ _)) (by rw[kB]));clear a0;clear t0 t1 t2 t3 t4 t5 t6 d;obtain⟨t0,t1,t2,t3,t4,t5,t6⟩:=c2.1.c7;have d:=I.at_.az u.1 u.2 a.toNat (by omega);have c4:=I.at_.g1 u.1 u.2 (z+1+a.toNat);have a1:=Z (I.at_.drew.a6 u.1 u.2 a.toNat (by omega) U);have V:Hid (Gr K _):=Z (Gr.of_eq (gO {K with table:=x} t ap));go_wp2_with fail
  go_still_tail 6,(by kernel_rfl)
  change wpList _ _ _ _ _ c8.drew;go_wp2_with fail
  go_end0
  rw[E];obtain⟨av,X,am⟩:=a1.out;exact⟨rfl,av,X,(I.af (Ch.refl _ _).drew).trans V am⟩
theorem wK(i:Nat)(cm:i<K.wk.length)(c:bK)(b P:Nat)(cl:aj K c)(cq:aP L Y c b P)(c6:∀k,k<32->aH ((K.F c).r k))(a g ad am al ap:Int)(cQ:0<=a/\a<32)(hb:0<=g/\g<32)(cS:K.blocks.Ok)(h:ae w χ L Y C K):
 Calls prog 166 #[(L.mb,0),(L.wb,i*38),(b,P),.agg #[.int .i64 52,a,g,ad,.int .u64 am,al,ap]] w (de (.tuple #[]) χ L Y C K (bu C K i c ⟨52,a,g,ad,am,al,ap⟩) w):=by
 have H:=Z h;have G:=Z cl;have I:=Z cq;have es:=Z cm;obtain⟨bv,bi,en,av,Q⟩:=h.pre 52 a g ad am al ap;obtain⟨eS,eW⟩:=cQ;obtain⟨f,c9⟩:∃y,(K.F c).r a.toNat=y:=⟨_,rfl⟩;have o:=Z c9;have W:=Z (c6 a.toNat (by omega));rw[c9]at W;obtain⟨ex,eA⟩:=W.out;clear c9;obtain⟨fb,fd⟩:=hb;obtain⟨cs,cb⟩:∃y,(K.F c).r g.toNat=y:=⟨_,rfl⟩;have c1:=Z cb;have ci:=Z (c6 g.toNat (by omega));rw[cb]at ci;obtain⟨eC,eL⟩:=ci.out;clear cb;obtain⟨t0,t1,t2,t3,t4,t5,t6⟩:=Q.1.c7;have d:=av.at_.az G I a.toNat (by omega);rw[o]at d;have s:=av.at_.az G I g.toNat (by omega);rw[c1]at s;obtain⟨dr,c7⟩:=nm (fq K.table f);have ch:=Z c7;have V:=Z (fun w h=>kv (K:=K) (w:=w) (χ:=χ) (L:=L) (Y:=Y) (C:=C) f W h);rw[c7]at V;clear c7;obtain⟨⟨t,u,m,x,z,A,B⟩,fr⟩:=dr;unfold lV.val at V;dsimp only at V;obtain⟨cW,c5⟩:=nm (eZ K.table f);have cf:=Z c5;have c0:=Z (fun w h=>v9 (K:=K) (w:=w) (χ:=χ) (L:=L) (Y:=Y) (C:=C) f W h);rw[c5]at c0;clear c5;obtain⟨ok,O⟩:=cW;clear h cl cq c6 cm;cases ok
 ·have E:Hid (bu C K i c ⟨52,a,g,ad,am,al,ap⟩=({K with table:=O}:KS).au c a.toNat f):=Z (by unfold bu;dsimp only;rw[if_neg (by decide),if_pos rfl,o,ch,cf];rfl)
  go_enter func166,ntmps166
  go_wp2_with fail
  try rw[bi]
  clear bi;go_quiet (fail)
  obtain⟨w1,J⟩:=nm (bv.drewN nq);have S:Hid (Ch ag bv w1):=Z (by rw[<-J];exact(Ch.refl _ _).drewN nq);rw[J];clear J;have j:=Z (av.af S);have l:Hid (aj K c/\aP L Y c b P):=Z ⟨G,I⟩;have D:=Z ((Nx.af S).row Q.1 Q.2);clear t0 t1 t2 t3 t4 t5 t6 d s;obtain⟨t0,t1,t2,t3,t4,t5,t6⟩:=D.1.c7;have d:=j.at_.az l.1 l.2 a.toNat (by omega);rw[show((K:KS).F c).r a.toNat=f from o.out]at d;have s:=j.at_.az l.1 l.2 g.toNat (by omega);rw[show((K:KS).F c).r g.toNat=cs from c1.out]at s;have k1:=j.at_.eh;go_wp2_with fail
  refine(V _ j.at_).mono ?_;rintro e w2 ⟨rfl,a3⟩;have T:=Z a3;clear a3;go_upto_region 11 with fail
  have X:Hid (Row (w2.alloc (.cells #[.int .u64 t,u,.int .u64 m,.int .u64 x,.int .u64 z,.bool A,.bool B] 101)) w2.heap.size 101 [.int .u64 t,u,.int .u64 m,.int .u64 x,.int .u64 z,.bool A,.bool B]):=Z (Row.new w2 _ _);obtain⟨ab,M⟩:=nm (w2.alloc (.cells #[.int .u64 t,u,.int .u64 m,.int .u64 x,.int .u64 z,.bool A,.bool B] 101));rw[M]at X⊢;have U:Hid (Ch ag w1 ab):=Z (by rw[<-M];exact T.alloc _);clear M;have p:=Z (j.af U);have F:=Z ((Nx.af U).row D.1 D.2);have a2:=l;have a0:Hid (Row ab w2.heap.size 101 [.int .u64 t,u,.int .u64 m,.int .u64 x,.int .u64 z,.bool A,.bool B]/\χ w2.heap.size=.no):=Z ⟨X,j.at_.fresh T.size⟩;clear k1;clear t0 t1 t2 t3 t4 t5 t6 d s;obtain⟨t0,t1,t2,t3,t4,t5,t6⟩:=F.1.c7;have d:=p.at_.az a2.1 a2.2 a.toNat (by omega);rw[show((K:KS).F c).r a.toNat=f from o.out]at d;have k1:=p.at_.eh;go_wp2_with fail
  refine(c0 _ p.at_).mono ?_;rintro e w4 ⟨⟨v,rfl,c8⟩,ec,cC,r⟩;obtain⟨tt,fn,rfl⟩:=c8;have ck:=Z (r.nx.row a0.1 a0.2);have n:=Z (p.trans (Gr.refl _) r);have R:=Z (r.nx.row F.1 F.2);have q:=Z (n.cur G I (Gr.of_eq rfl) (rfl));clear r;clear t0 t1 t2 t3 t4 t5 t6 d k1;obtain⟨t0,t1,t2,t3,t4,t5,t6⟩:=R.1.c7;have d:=n.at_.az q.1 q.2 a.toNat (by omega);rw[show(({K with table:=O}:KS).F c).r a.toNat=f from o.out]at d;have cL:=n.at_.g1 q.1 q.2 (P+1+a.toNat);have c4:=Z (n.at_.drew.a6 q.1 q.2 a.toNat (by omega) f);have bw:Hid (Gr K _):=Z (Gr.of_eq rfl);go_wp2_with fail
  go_still_tail 6,(by kernel_rfl)
  change wpList _ _ _ _ _ w4.drew;go_wp2_with fail
  go_end0
  rw[E];obtain⟨ce,c2,cd⟩:=c4.out;exact⟨rfl,ce,c2,(n.af (Ch.refl _ _).drew).trans bw cd⟩
 ·have E:Hid (bu C K i c ⟨52,a,g,ad,am,al,ap⟩=(ef {K with table:=O} f m).au c a.toNat f):=Z (by unfold bu;dsimp only;rw[if_neg (by decide),if_pos rfl,o,ch,cf];rfl)
  go_enter func166,ntmps166
  go_wp2_with fail
  try rw[bi]
  clear bi;go_quiet (fail)
  obtain⟨w1,J⟩:=nm (bv.drewN nq);have S:Hid (Ch ag bv w1):=Z (by rw[<-J];exact(Ch.refl _ _).drewN nq);rw[J];clear J;have j:=Z (av.af S);have l:Hid (aj K c/\aP L Y c b P):=Z ⟨G,I⟩;have D:=Z ((Nx.af S).row Q.1 Q.2);clear t0 t1 t2 t3 t4 t5 t6 d s;obtain⟨t0,t1,t2,t3,t4,t5,t6⟩:=D.1.c7;have d:=j.at_.az l.1 l.2 a.toNat (by omega);rw[show((K:KS).F c).r a.toNat=f from o.out]at d;have s:=j.at_.az l.1 l.2 g.toNat (by omega);rw[show((K:KS).F c).r g.toNat=cs from c1.out]at s;have k1:=j.at_.eh;go_wp2_with fail
  refine(V _ j.at_).mono ?_;rintro e w2 ⟨rfl,a3⟩;have T:=Z a3;clear a3;go_upto_region 11 with fail
  have X:Hid (Row (w2.alloc (.cells #[.int .u64 t,u,.int .u64 m,.int .u64 x,.int .u64 z,.bool A,.bool B] 101)) w2.heap.size 101 [.int .u64 t,u,.int .u64 m,.int .u64 x,.int .u64 z,.bool A,.bool B]):=Z (Row.new w2 _ _);obtain⟨ab,M⟩:=nm (w2.alloc (.cells #[.int .u64 t,u,.int .u64 m,.int .u64 x,.int .u64 z,.bool A,.bool B] 101));rw[M]at X⊢;have U:Hid (Ch ag w1 ab):=Z (by rw[<-M];exact T.alloc _);clear M;have p:=Z (j.af U);have F:=Z ((Nx.af U).row D.1 D.2);have a2:=l;have a0:Hid (Row ab w2.heap.size 101 [.int .u64 t,u,.int .u64 m,.int .u64 x,.int .u64 z,.bool A,.bool B]/\χ w2.heap.size=.no):=Z ⟨X,j.at_.fresh T.size⟩;clear k1;clear t0 t1 t2 t3 t4 t5 t6 d s;obtain⟨t0,t1,t2,t3,t4,t5,t6⟩:=F.1.c7;have d:=p.at_.az a2.1 a2.2 a.toNat (by omega);rw[show((K:KS).F c).r a.toNat=f from o.out]at d;have k1:=p.at_.eh;go_wp2_with fail
  refine(c0 _ p.at_).mono ?_;rintro e w4 ⟨⟨v,rfl,c8⟩,ec,cC,r⟩;obtain rfl:v=.nilIface:=c8;have ck:=Z (r.nx.row a0.1 a0.2);have n:=Z (p.trans (Gr.refl _) r);have R:=Z (r.nx.row F.1 F.2);have q:=Z (n.cur G I (Gr.of_eq rfl) (rfl));clear r;clear t0 t1 t2 t3 t4 t5 t6 d k1;obtain⟨t0,t1,t2,t3,t4,t5,t6⟩:=R.1.c7;have d:=n.at_.az q.1 q.2 a.toNat (by omega);rw[show(({K with table:=O}:KS).F c).r a.toNat=f from o.out]at d;have dN:=ck.1.k 2 rfl;go_wp2_with fail
  refine(lu (K:={K with table:=O}) f m W (by exact cS) n.at_).mono ?_;rintro e dC ⟨rfl,fz,et,c3⟩;have a1:=Z (n.trans (Gr.of_eq rfl) c3);have cA:=Z (c3.nx.row R.1 R.2);have N:=Z (a1.cur G I (Gr.of_eq (gO _ _ _)) (by rw[kB]));clear c3;clear t0 t1 t2 t3 t4 t5 t6 d dN;obtain⟨t0,t1,t2,t3,t4,t5,t6⟩:=cA.1.c7;have d:=a1.at_.az N.1 N.2 a.toNat (by omega);have cL:=a1.at_.g1 N.1 N.2 (P+1+a.toNat);have c4:=Z (a1.at_.drew.a6 N.1 N.2 a.toNat (by omega) f);have bw:Hid (Gr K _):=Z (Gr.of_eq (gO {K with table:=O} f m));go_wp2_with fail
  go_still_tail 6,(by kernel_rfl)
  change wpList _ _ _ _ _ dC.drew;go_wp2_with fail
  go_end0
  rw[E];obtain⟨ce,c2,cd⟩:=c4.out;exact⟨rfl,ce,c2,(a1.af (Ch.refl _ _).drew).trans bw cd⟩
end
end
section
section
variable{w:World}{χ:Nat->a4}{L:cw}{Y:Var}{C:KC}{K:KS}
theorem wL(i:Nat)(c2:i<K.wk.length)(c:bK)(b F:Nat)(c1:aj K c)(c3:aP L Y c b F)(al:∀k,k<32->aH ((K.F c).r k))(a g j V U W:Int)(cq:0<=a/\a<32)(hb:0<=g/\g<32)(cs:0<=j/\j<32)(ec:C.bn.length<=2048)(bw:K.blocks.Ok)(c0:(c' K.blocks K.mem 1).2.1.Ok)(av:∀cA id,(db K.table cA).1=some id->aw K.ai id=none)(c5:aH (bF K (wrap64 ((K.F c).r g.toNat)) ((K.F c).r j.toNat)).1)(h:ae w χ L Y C K):
 Calls prog 166 #[(L.mb,0),(L.wb,i*38),(b,F),.agg #[.int .i64 48,a,g,j,.int .u64 V,U,W]] w (de (.tuple #[]) χ L Y C K (bu C K i c ⟨48,a,g,j,V,U,W⟩) w):=by
 have H:=Z h;have v:=Z c1;have x:=Z c3;have cl:=Z c2;obtain⟨T,R,dr,P,G⟩:=h.pre 48 a g j V U W;obtain⟨eW,fb⟩:=cq;obtain⟨c9,c6⟩:∃y,(K.F c).r a.toNat=y:=⟨_,rfl⟩;have ap:=Z c6;have ce:=Z (al a.toNat (by omega));rw[c6]at ce;obtain⟨et,ex⟩:=ce.out;clear c6;obtain⟨fd,fn⟩:=hb;obtain⟨m,c7⟩:∃y,(K.F c).r g.toNat=y:=⟨_,rfl⟩;have B:=Z c7;have cf:=Z (al g.toNat (by omega));rw[c7]at cf;obtain⟨eA,eC⟩:=cf.out;clear c7;obtain⟨fr,fz⟩:=cs;obtain⟨N,c8⟩:∃y,(K.F c).r j.toNat=y:=⟨_,rfl⟩;have I:=Z c8;have ch:=Z (al j.toNat (by omega));rw[c8]at ch;obtain⟨eL,eS⟩:=ch.out;clear c8;obtain⟨t0,t1,t2,t3,t4,t5,t6⟩:=G.1.c7;have l:=P.at_.az v x a.toNat (by omega);rw[ap]at l;have q:=P.at_.az v x g.toNat (by omega);rw[B]at q;have r:=P.at_.az v x j.toNat (by omega);rw[I]at r;obtain⟨n,ad⟩:=nm C.bn.length;have O:=Z ad;have es:(n:Int)<=2048:=by omega
 by_cases M:m<(n:Int)
 ·have cC:wrap64 m=m:=by unfold wrap64;omega
  have en:IntKind.i64.wrap m=m:=IntWalk.i64_in _ (by omega);have a1:=Z (fun w h=>wj (K:=K) (w:=w) (χ:=χ) (L:=L) (Y:=Y) (C:=C) (wrap64 m) N bw c0 av h);have o:=Z (And.intro (kC (K:=K) (wrap64 m) N av) (nB (K:=K) (wrap64 m) N));have bi:=c5;rw[B,I]at bi;obtain⟨p,c4⟩:=nm (bF K (wrap64 m) N);have cb:=Z c4;rw[c4]at a1 o bi;rw[cC]at a1;obtain⟨S,K'⟩:=p;have cd:=Z bi;have M:=(show m<(C.bn.length:Int)by rw[ad];exact M);rw[ad]at M;have dC:=Z M;obtain⟨cL,cQ⟩:=cd.out;dsimp only at cL cQ a1 o;clear h c1 c3 al c2 av bw c0 c5 bi ad c4;by_cases D:S=0
  ·subst D
   have E:Hid (bu C K i c ⟨48,a,g,j,V,U,W⟩=K'.au c a.toNat 0):=Z (by unfold bu;dsimp only;rw[if_pos rfl,B,I,O,if_pos M,cb];rfl);go_enter func166,ntmps166
   go_wp2_with fail
   try rw[R]
   clear R;go_quiet (fail)
   obtain⟨w1,s⟩:=nm (T.drewN nq);have A:Hid (Ch ag T w1):=Z (by rw[<-s];exact(Ch.refl _ _).drewN nq);rw[s];clear s;have f:=Z (P.af A);have d:Hid (aj K c/\aP L Y c b F):=Z ⟨v,x⟩;have u:=Z ((Nx.af A).row G.1 G.2);clear t0 t1 t2 t3 t4 t5 t6 l q r;obtain⟨t0,t1,t2,t3,t4,t5,t6⟩:=u.1.c7;have l:=f.at_.az d.1 d.2 a.toNat (by omega);rw[show((K:KS).F c).r a.toNat=c9 from ap.out]at l;have q:=f.at_.az d.1 d.2 g.toNat (by omega);rw[show((K:KS).F c).r g.toNat=m from B.out]at q;have r:=f.at_.az d.1 d.2 j.toNat (by omega);rw[show((K:KS).F c).r j.toNat=N from I.out]at r;have k1:=f.at_.c3;rw[O]at k1;go_wp2_with fail
   go_wp2_with fail
   go_still_tail 10,(by kernel_rfl)
   change wpList _ _ _ _ _ w1.drew;go_wp2_with fail
   refine(a1 _ f.at_.drew).mono ?_;rintro e w2 ⟨rfl,cW,cm,J⟩;have t:=Z ((f.af (Ch.refl _ _).drew).trans (Gr.refl _) J);have a0:=Z (((Nx.af (Ch.refl _ w1).drew).trans J.nx).row u.1 u.2);have z:=Z (t.cur v x (o.1) (by rw[o.2]));clear J;clear t0 t1 t2 t3 t4 t5 t6 l q r k1;obtain⟨t0,t1,t2,t3,t4,t5,t6⟩:=a0.1.c7;have l:=t.at_.az z.1 z.2 a.toNat (by omega);have ci:=t.at_.g1 z.1 z.2 (F+1+a.toNat);have ab:=Z (t.at_.drew.a6 z.1 z.2 a.toNat (by omega) 0);have X:Hid (Gr K _):=Z (o.1);go_wp2_with fail
   go_still_tail 6,(by kernel_rfl)
   change wpList _ _ _ _ _ w2.drew;go_wp2_with fail
   go_end0
   rw[E];obtain⟨am,a3,D⟩:=ab.out;exact⟨rfl,am,a3,(t.af (Ch.refl _ _).drew).trans X D⟩
  ·have E:Hid (bu C K i c ⟨48,a,g,j,V,U,W⟩=(eg K' i S).au c a.toNat S):=Z (by unfold bu;dsimp only;rw[if_pos rfl,B,I,O,if_pos M,cb];rw[if_pos D])
   go_enter func166,ntmps166
   go_wp2_with fail
   try rw[R]
   clear R;go_quiet (fail)
   obtain⟨w1,s⟩:=nm (T.drewN nq);have A:Hid (Ch ag T w1):=Z (by rw[<-s];exact(Ch.refl _ _).drewN nq);rw[s];clear s;have f:=Z (P.af A);have d:Hid (aj K c/\aP L Y c b F):=Z ⟨v,x⟩;have u:=Z ((Nx.af A).row G.1 G.2);clear t0 t1 t2 t3 t4 t5 t6 l q r;obtain⟨t0,t1,t2,t3,t4,t5,t6⟩:=u.1.c7;have l:=f.at_.az d.1 d.2 a.toNat (by omega);rw[show((K:KS).F c).r a.toNat=c9 from ap.out]at l;have q:=f.at_.az d.1 d.2 g.toNat (by omega);rw[show((K:KS).F c).r g.toNat=m from B.out]at q;have r:=f.at_.az d.1 d.2 j.toNat (by omega);rw[show((K:KS).F c).r j.toNat=N from I.out]at r;have k1:=f.at_.c3;rw[O]at k1;go_wp2_with fail
   go_wp2_with fail
   go_still_tail 10,(by kernel_rfl)
   change wpList _ _ _ _ _ w1.drew;go_wp2_with fail
   refine(a1 _ f.at_.drew).mono ?_;rintro e w2 ⟨rfl,cW,cm,J⟩;have t:=Z ((f.af (Ch.refl _ _).drew).trans (Gr.refl _) J);have a0:=Z (((Nx.af (Ch.refl _ w1).drew).trans J.nx).row u.1 u.2);have z:=Z (t.cur v x (o.1) (by rw[o.2]));clear J;clear t0 t1 t2 t3 t4 t5 t6 l q r k1;obtain⟨t0,t1,t2,t3,t4,t5,t6⟩:=a0.1.c7;have l:=t.at_.az z.1 z.2 a.toNat (by omega);go_wp2_with fail
   refine(lr (K:=K') i (by rw[o.2];exact cl) S cd t.at_).mono ?_;rintro e cS ⟨rfl,gc,dN,bv⟩;have a2:=Z (t.trans (o.1) bv);have ck:=Z (bv.nx.row a0.1 a0.2);have Q:=Z (a2.cur v x (o.1.trans (dO _ _ _)) (by rw[fw,o.2]));clear bv;clear t0 t1 t2 t3 t4 t5 t6 l;obtain⟨t0,t1,t2,t3,t4,t5,t6⟩:=ck.1.c7;have l:=a2.at_.az Q.1 Q.2 a.toNat (by omega);have ci:=a2.at_.g1 Q.1 Q.2 (F+1+a.toNat);have ab:=Z (a2.at_.drew.a6 Q.1 Q.2 a.toNat (by omega) S);have X:Hid (Gr K _):=Z (o.1.trans (dO K' i S));go_wp2_with fail
   go_still_tail 6,(by kernel_rfl)
   change wpList _ _ _ _ _ cS.drew;go_wp2_with fail
   go_end0
   rw[E];obtain⟨am,a3,D⟩:=ab.out;exact⟨rfl,am,a3,(a2.af (Ch.refl _ _).drew).trans X D⟩
 ·have E:Hid (bu C K i c ⟨48,a,g,j,V,U,W⟩=K.au c a.toNat 0):=Z (by unfold bu;dsimp only;rw[if_pos rfl,B,O,if_neg M])
  clear h c1 c3 al c2 av bw c0 c5 ad;go_enter func166,ntmps166
  go_wp2_with fail
  try rw[R]
  clear R;go_quiet (fail)
  obtain⟨w1,s⟩:=nm (T.drewN nq);have A:Hid (Ch ag T w1):=Z (by rw[<-s];exact(Ch.refl _ _).drewN nq);rw[s];clear s;have f:=Z (P.af A);have d:Hid (aj K c/\aP L Y c b F):=Z ⟨v,x⟩;have u:=Z ((Nx.af A).row G.1 G.2);clear t0 t1 t2 t3 t4 t5 t6 l q r;obtain⟨t0,t1,t2,t3,t4,t5,t6⟩:=u.1.c7;have l:=f.at_.az d.1 d.2 a.toNat (by omega);rw[show((K:KS).F c).r a.toNat=c9 from ap.out]at l;have q:=f.at_.az d.1 d.2 g.toNat (by omega);rw[show((K:KS).F c).r g.toNat=m from B.out]at q;have r:=f.at_.az d.1 d.2 j.toNat (by omega);rw[show((K:KS).F c).r j.toNat=N from I.out]at r;have k1:=f.at_.c3;rw[O]at k1;go_wp2_with fail
  have ci:=f.at_.g1 d.1 d.2 (F+1+a.toNat);have ab:=Z (f.at_.drew.a6 d.1 d.2 a.toNat (by omega) 0);have X:Hid (Gr K _):=Z (Gr.refl K);go_wp2_with fail
  go_still_tail 6,(by kernel_rfl)
  change wpList _ _ _ _ _ w1.drew;go_wp2_with fail
  go_end0
  rw[E];obtain⟨am,a3,D⟩:=ab.out;exact⟨rfl,am,a3,(f.af (Ch.refl _ _).drew).trans X D⟩
end
end
end Go.Proofs.YtfnilkpkogipfaaGreatDoor
