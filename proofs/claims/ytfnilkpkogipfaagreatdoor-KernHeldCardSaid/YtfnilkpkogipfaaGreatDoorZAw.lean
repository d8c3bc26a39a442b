import Derived.Test.YtfnilkpkogipfaaGreatDoorZAt
import Derived.Test.YtfnilkpkogipfaaGreatDoorZAu
import Derived.Test.YtfnilkpkogipfaaGreatDoorZAv
set_option linter.all false
set_option maxRecDepth 100000
set_option maxHeartbeats 8000000
namespace Go.Proofs.YtfnilkpkogipfaaGreatDoor
open Go.RowKit Go.Proofs.Tryz
section
section
variable{w:World}{χ:Nat->a4}{L:cw}{Y:Var}{C:KC}{K:KS}
theorem rS(i:Nat)(av:i<K.wk.length)(c:bK)(b q:Nat)(ap:aj K c)(bi:aP L Y c b q)(V:∀k,k<32->aH ((K.F c).r k))(a f g d j l:Int)(c2:0<=a/\a<32)(c5:aH d)(h:ae w χ L Y C K):
 Calls prog 163 #[(L.mb,0),(L.wb,i*38),(b,q),.agg #[.int .i64 31,a,f,g,.int .u64 d,j,l]] w (dG (bb K i c ⟨31,a,f,g,d,j,l⟩) χ L Y C K w):=by
 have H:=Z h;have F:=Z ap;have G:=Z bi;have ab:=Z av;obtain⟨M,J,a2,R,t⟩:=h.pre 31 a f g d j l;obtain⟨ce,cf⟩:=c2;obtain⟨N,X⟩:∃y,(K.F c).r a.toNat=y:=⟨_,rfl⟩;have z:=Z X;have Q:=Z (V a.toNat (by omega));rw[X]at Q;obtain⟨cb,cd⟩:=Q.out;clear X;obtain⟨t0,t1,t2,t3,t4,t5,t6⟩:=t.1.c7;have n:=R.at_.az F G a.toNat (by omega);rw[z]at n;obtain⟨am,I⟩:=nm (du (K.F c).r ⟨31,a,f,g,d,j,l⟩);have a1:=Z I;have T:=lg (x:=⟨31,a,f,g,d,j,l⟩) V c5;rw[I]at T;have bw:=Z T;have a3:Hid (∀w1:World,Ch ag w w1->fj w1 b q (K.F c).pc (K.F c).r):=Z (fun w1 c3=>by obtain⟨pre,post,v,c4⟩:=(h.af c3).cur F G;exact c4.fr);have s:=Z (fun w h=>ke b q (K.F c).pc (K.F c).r ⟨31,a,f,g,d,j,l⟩ w h);rw[I]at s;unfold aI at s;try dsimp only at s
 clear I T;obtain⟨p,U⟩:=nm (K.mem.acc 1 am 0 N);have ad:=Z U;have P:=Z (fun w h=>CC (K:=K) (w:=w) (χ:=χ) (L:=L) (Y:=Y) (C:=C) am N bw Q h);rw[U]at P;clear U;obtain⟨r,a0⟩:=p;clear h ap bi V av;cases r with
 |none=>
  have E:Hid (bb K i c ⟨31,a,f,g,d,j,l⟩=(2,{K with mem:=a0})):=Z (by unfold bb;dsimp only;rw[if_pos rfl,a1,z,ad];rfl);go_enter func163,ntmps163
  go_wp2_with fail
  try rw[J]
  go_region_held3 (fun w'=>w'.cell? ⟨w.heap.size,0,none⟩=some (.int .i64 31)/\w'.cell? ⟨w.heap.size,1,none⟩=some (.int .i64 a)/\w'.cell? ⟨w.heap.size,2,none⟩=some (.int .i64 f)/\w'.cell? ⟨w.heap.size,3,none⟩=some (.int .i64 g)/\w'.cell? ⟨w.heap.size,4,none⟩=some (.int .u64 d)/\w'.cell? ⟨w.heap.size,5,none⟩=some (.int .i64 j)/\w'.cell? ⟨w.heap.size,6,none⟩=some (.int .i64 l)/\w'.cell? (b,q+1+a.toNat)=some (.int .u64 N)) (go_keep) ((go_at_call 116;refine(s M.drew (a3 _ a2.drew)).mono ?_;rintro e w1 ⟨rfl,D⟩;have u:Hid (Ch ag M w1):=Z (Ch.trans (Ch.refl _ _).drew D);have m:=Z (R.af u);have A:Hid (aj K c/\aP L Y c b q):=Z ⟨F,G⟩;have O:=Z ((Nx.af u).row t.1 t.2);clear D t0 t1 t2 t3 t4 t5 t6 n;obtain⟨t0,t1,t2,t3,t4,t5,t6⟩:=O.1.c7;have n:=m.at_.az A.1 A.2 a.toNat (by omega);rw[z]at n))
  clear J
  all_goals
   have k1:=m.at_.cP;go_wp2_with fail
   refine(P _ m.at_).mono ?_;rintro e w2 ⟨⟨v,rfl,W⟩,bv,al,B⟩;obtain⟨tt,ch,rfl⟩:=W;have o:=Z (m.trans (Gr.refl _) B);clear B k1 n t0 t1 t2 t3 t4 t5 t6;go_wp2_with fail
   go_ret;rw[E];exact⟨rfl,bv,al,o.at_,o.nx,fun _=>o.yk⟩
 |some r=>
  have E:Hid (bb K i c ⟨31,a,f,g,d,j,l⟩=(0,({K with mem:=a0}:KS).be i {({K with mem:=a0}:KS).W i with hand:=0})):=Z (by unfold bb;dsimp only;rw[if_pos rfl,a1,z,ad];rfl);go_enter func163,ntmps163
  go_wp2_with fail
  try rw[J]
  go_region_held3 (fun w'=>w'.cell? ⟨w.heap.size,0,none⟩=some (.int .i64 31)/\w'.cell? ⟨w.heap.size,1,none⟩=some (.int .i64 a)/\w'.cell? ⟨w.heap.size,2,none⟩=some (.int .i64 f)/\w'.cell? ⟨w.heap.size,3,none⟩=some (.int .i64 g)/\w'.cell? ⟨w.heap.size,4,none⟩=some (.int .u64 d)/\w'.cell? ⟨w.heap.size,5,none⟩=some (.int .i64 j)/\w'.cell? ⟨w.heap.size,6,none⟩=some (.int .i64 l)/\w'.cell? (b,q+1+a.toNat)=some (.int .u64 N)) (go_keep) ((go_at_call 116;refine(s M.drew (a3 _ a2.drew)).mono ?_;rintro e w1 ⟨rfl,D⟩;have u:Hid (Ch ag M w1):=Z (Ch.trans (Ch.refl _ _).drew D);have m:=Z (R.af u);have A:Hid (aj K c/\aP L Y c b q):=Z ⟨F,G⟩;have O:=Z ((Nx.af u).row t.1 t.2);clear D t0 t1 t2 t3 t4 t5 t6 n;obtain⟨t0,t1,t2,t3,t4,t5,t6⟩:=O.1.c7;have n:=m.at_.az A.1 A.2 a.toNat (by omega);rw[z]at n))
  clear J
  all_goals
   have k1:=m.at_.cP;go_wp2_with fail
   refine(P _ m.at_).mono ?_;rintro e w2 ⟨⟨v,rfl,W⟩,bv,al,B⟩;obtain rfl:v=.nilIface:=W;have o:=Z (m.trans (Gr.refl _) B);clear B k1 n t0 t1 t2 t3 t4 t5 t6;have c9:=o.at_.e7 (i:=i) (by exact ab);have c8:=o.at_.tn (i*38+1);have c1:=Z (o.at_.jx (i:=i) (by exact ab) 0);go_wp2_with fail
   go_ret;rw[E];obtain⟨c7,c0,c6⟩:=c1.out;have S:=o.trans (Gr.of_eq rfl) c6;exact⟨rfl,c7,c0,S.at_,S.nx,fun _=>S.yk⟩
theorem rT(i:Nat)(dC:i<K.wk.length)(c:bK)(b n:Nat)(dr:aj K c)(dN:aP L Y c b n)(am:∀k,k<32->aH ((K.F c).r k))(a u d s z A:Int)(fd:0<=a/\a<32)(fr:0<=d/\d<32)(gc:aH s)(ch:∀v,(K.mem.acc 4 (du (K.F c).r ⟨32,a,u,d,s,z,A⟩) ((K.F c).r a.toNat) ((K.F c).r d.toNat)).1=some v->aH v)(h:ae w χ L Y C K):
 Calls prog 163 #[(L.mb,0),(L.wb,i*38),(b,n),.agg #[.int .i64 32,a,u,d,.int .u64 s,z,A]] w (dG (bb K i c ⟨32,a,u,d,s,z,A⟩) χ L Y C K w):=by
 have H:=Z h;have t:=Z dr;have D:=Z dN;have et:=Z dC;obtain⟨a1,a0,c3,a2,T⟩:=h.pre 32 a u d s z A;obtain⟨hf,hi⟩:=fd;obtain⟨R,ck⟩:∃y,(K.F c).r a.toNat=y:=⟨_,rfl⟩;have P:=Z ck;have cC:=Z (am a.toNat (by omega));rw[ck]at cC;obtain⟨go,gr⟩:=cC.out;clear ck;obtain⟨hl,hm⟩:=fr;obtain⟨S,cl⟩:∃y,(K.F c).r d.toNat=y:=⟨_,rfl⟩;have F:=Z cl;have c8:=Z (am d.toNat (by omega));rw[cl]at c8;obtain⟨gs,gt⟩:=c8.out;clear cl;obtain⟨t0,t1,t2,t3,t4,t5,t6⟩:=T.1.c7;have l:=a2.at_.az t D a.toNat (by omega);rw[P]at l;have j:=a2.at_.az t D d.toNat (by omega);rw[F]at j;obtain⟨ab,c0⟩:=nm (du (K.F c).r ⟨32,a,u,d,s,z,A⟩);have ap:=Z c0;have ce:=lg (x:=⟨32,a,u,d,s,z,A⟩) am gc;rw[c0]at ce;have c2:=Z ce;have c4:Hid (∀w1:World,Ch ag w w1->fj w1 b n (K.F c).pc (K.F c).r):=Z (fun w1 fn=>by obtain⟨pre,post,v,fz⟩:=(h.af fn).cur t D;exact fz.fr);have X:=Z (fun w h=>ke b n (K.F c).pc (K.F c).r ⟨32,a,u,d,s,z,A⟩ w h);rw[c0]at X;unfold aI at X;try dsimp only at X
 clear c0 ce;obtain⟨p,c1⟩:=nm (K.mem.acc 4 ab R S);have c6:=Z c1;have bv:=Z (fun w h=>EP (K:=K) (w:=w) (χ:=χ) (L:=L) (Y:=Y) (C:=C) ab R S c2 c8 h);rw[ap,P,F,c1]at ch;rw[c1]at bv;have eA:=Z ch;have eC:=Z am;clear c1 ch;obtain⟨r,M⟩:=p;clear h dr dN am dC;cases r with
 |none=>
  have E:Hid (bb K i c ⟨32,a,u,d,s,z,A⟩=(2,{K with mem:=M})):=Z (by unfold bb;dsimp only;rw[if_neg (by decide),ap,P,F,c6]);go_enter func163,ntmps163
  go_wp2_with fail
  try rw[a0]
  go_region_held3 (fun w'=>w'.cell? ⟨w.heap.size,0,none⟩=some (.int .i64 32)/\w'.cell? ⟨w.heap.size,1,none⟩=some (.int .i64 a)/\w'.cell? ⟨w.heap.size,2,none⟩=some (.int .i64 u)/\w'.cell? ⟨w.heap.size,3,none⟩=some (.int .i64 d)/\w'.cell? ⟨w.heap.size,4,none⟩=some (.int .u64 s)/\w'.cell? ⟨w.heap.size,5,none⟩=some (.int .i64 z)/\w'.cell? ⟨w.heap.size,6,none⟩=some (.int .i64 A)/\w'.cell? (b,n+1+a.toNat)=some (.int .u64 R)) (go_keep) ((go_at_call 116;refine(X a1.drew (c4 _ c3.drew)).mono ?_;rintro e w1 ⟨rfl,Q⟩;have O:Hid (Ch ag a1 w1):=Z (Ch.trans (Ch.refl _ _).drew Q);have m:=Z (a2.af O);have q:Hid (aj K c/\aP L Y c b n):=Z ⟨t,D⟩;have B:=Z ((Nx.af O).row T.1 T.2);clear Q t0 t1 t2 t3 t4 t5 t6 l j;obtain⟨t0,t1,t2,t3,t4,t5,t6⟩:=B.1.c7;have l:=m.at_.az q.1 q.2 a.toNat (by omega);rw[P]at l))
  clear a0
  all_goals
   have k1:=m.at_.cP;have j:=m.at_.az q.1 q.2 d.toNat (by omega);rw[F]at j;go_wp2_with fail
   go_region_held3 (fun w'=>w'.cell? (L.mb,1007)=some (.pointer (some (L.m,0)))/\w'.cell? ⟨w.heap.size,3,none⟩=some (.int .i64 d)/\w'.cell? (b,n+1+d.toNat)=some (.int .u64 S)) (go_keep) ((go_at_call 189;refine(bv _ m.at_.drew).mono ?_;rintro e w2 ⟨⟨v,rfl,ge⟩,en,cL,G⟩;obtain⟨tt,hn,rfl⟩:=ge;have f:=Z ((m.af (Ch.refl _ _).drew).trans (Gr.refl _) G);have N:=Z (((Nx.af (Ch.refl _ w1).drew).trans G.nx).row B.1 B.2);have g:=Z (f.cur t D (Gr.of_eq rfl) rfl);clear G t0 t1 t2 t3 t4 t5 t6 l j k1;have k1:=f.at_.cP;have t1:=N.1.k 1 rfl;have t3:=N.1.k 3 rfl;have l:=f.at_.az g.1 g.2 a.toNat (by omega);have j:=f.at_.az g.1 g.2 d.toNat (by omega);rw[show(({K with mem:=M}:KS).F c).r d.toNat=S from F.out]at j))
   all_goals
    clear l j k1;go_wp2_with fail
    go_ret;rw[E];exact⟨rfl,_,_,f.at_,f.nx,fun _=>f.yk⟩
 |some I=>
  have ex:Hid (aH I):=Z (eA I rfl);obtain⟨K1,ad⟩:=mn (({K with mem:=M}:KS).au c a.toNat I);have bi:=Z ad;have c5:Hid (Gr K K1):=Z (by rw[ad];exact(Gr.of_eq (K:=K) (K':={K with mem:=M}) rfl).trans (bs (t.gr (K':={K with mem:=M}) (Gr.of_eq rfl) rfl) _));have c9:Hid (K1.wk.length=K.wk.length):=Z (by rw[ad];exact(bm _ _));have eS:Hid (aH ((K1.F c).r 16)):=Z (by
   rw[ad];have fb:((({K with mem:=M}:KS).au c a.toNat I).F c).r 16=fO (K.F c).r a.toNat I 16:=by
    show((KS.cH _ c _).F c).r 16=_
    rw[CG (t.gr (K':={K with mem:=M}) (Gr.of_eq rfl) rfl)];rfl
   rw[fb];unfold fO;split
   ·exact ex
   ·exact eC 16 (by omega))
  obtain⟨cq,ci⟩:=nm ((K1.F c).r 16);have c7:=Z ci;have eL:Hid (aH cq):=Z (by rw[<-ci];exact eS);obtain⟨cA,ec⟩:=nm (K1.mem.wid ab);have bw:=Z ec;obtain⟨cS,J⟩:=nm (gT cA R);have av:=Z J;clear ad ci ec J;by_cases cf:I=cS
  ·subst cf
   have E:Hid (bb K i c ⟨32,a,u,d,s,z,A⟩=(0,eB K1 i cq)):=Z (by unfold bb;dsimp only;rw[if_neg (by decide),ap,P,F,c6];dsimp only;rw[<-bi,bw,av,if_pos rfl,c7]);go_enter func163,ntmps163
   go_wp2_with fail
   try rw[a0]
   go_region_held3 (fun w'=>w'.cell? ⟨w.heap.size,0,none⟩=some (.int .i64 32)/\w'.cell? ⟨w.heap.size,1,none⟩=some (.int .i64 a)/\w'.cell? ⟨w.heap.size,2,none⟩=some (.int .i64 u)/\w'.cell? ⟨w.heap.size,3,none⟩=some (.int .i64 d)/\w'.cell? ⟨w.heap.size,4,none⟩=some (.int .u64 s)/\w'.cell? ⟨w.heap.size,5,none⟩=some (.int .i64 z)/\w'.cell? ⟨w.heap.size,6,none⟩=some (.int .i64 A)/\w'.cell? (b,n+1+a.toNat)=some (.int .u64 R)) (go_keep) ((go_at_call 116;refine(X a1.drew (c4 _ c3.drew)).mono ?_;rintro e w1 ⟨rfl,Q⟩;have O:Hid (Ch ag a1 w1):=Z (Ch.trans (Ch.refl _ _).drew Q);have m:=Z (a2.af O);have q:Hid (aj K c/\aP L Y c b n):=Z ⟨t,D⟩;have B:=Z ((Nx.af O).row T.1 T.2);clear Q t0 t1 t2 t3 t4 t5 t6 l j;obtain⟨t0,t1,t2,t3,t4,t5,t6⟩:=B.1.c7;have l:=m.at_.az q.1 q.2 a.toNat (by omega);rw[P]at l))
   clear a0
   all_goals
    have k1:=m.at_.cP;have j:=m.at_.az q.1 q.2 d.toNat (by omega);rw[F]at j;go_wp2_with fail
    go_region_held3 (fun w'=>w'.cell? (L.mb,1007)=some (.pointer (some (L.m,0)))/\w'.cell? ⟨w.heap.size,3,none⟩=some (.int .i64 d)/\w'.cell? (b,n+1+d.toNat)=some (.int .u64 S)) (go_keep) ((go_at_call 189;refine(bv _ m.at_.drew).mono ?_;rintro e w2 ⟨rfl,en,cL,G⟩;have f:=Z ((m.af (Ch.refl _ _).drew).trans (Gr.refl _) G);have N:=Z (((Nx.af (Ch.refl _ w1).drew).trans G.nx).row B.1 B.2);have g:=Z (f.cur t D (Gr.of_eq rfl) rfl);clear G t0 t1 t2 t3 t4 t5 t6 l j k1;have k1:=f.at_.cP;have t1:=N.1.k 1 rfl;have t3:=N.1.k 3 rfl;have l:=f.at_.az g.1 g.2 a.toNat (by omega);have j:=f.at_.az g.1 g.2 d.toNat (by omega);rw[show(({K with mem:=M}:KS).F c).r d.toNat=S from F.out]at j))
    all_goals
     have cd:=f.at_.g1 g.1 g.2 (n+1+a.toNat);have al:=f.at_.drew.a6 g.1 g.2 a.toNat (by omega) I;rw[<-bi]at al;obtain⟨es,cQ,U⟩:=al;obtain⟨cs,V⟩:=nm (w2.drew.setCell (b,n+1+a.toNat) (.int .u64 I));rw[V]at U;have o:=Z ((f.af (Ch.refl _ _).drew).trans (Gr.of_eq rfl) U);have a3:=Z (o.cur t D c5 c9);clear U;have k3:=o.at_.cP;have cm:=o.at_.az a3.1 a3.2 16 (by omega);rw[c7]at cm;go_wp2_with fail
     go_still_tail 6,(by kernel_rfl)
     change wpList _ _ _ _ _ w2.drew;go_wp2_with fail
     try rw[V]
     clear V l j k1 cd t1 t3;have W:=yI ab c2 o.at_;rw[bw]at W;refine W.mono ?_;rintro e w4 ⟨rfl,rfl⟩;clear W;go_wp2_with fail
     have J:=j8 cA R cs;rw[av]at J;refine J.mono ?_;rintro e gf ⟨rfl,rfl⟩;clear J;go_wp2_with fail
     refine(o7 (K:=K1) i (by rw[c9];exact et) cq eL o.at_).mono ?_;rintro e he ⟨rfl,gk,eW,cW⟩;have cb:=Z (o.trans c5 cW);clear cW;go_wp2_with fail
     go_ret;rw[E];exact⟨rfl,gk,eW,cb.at_,cb.nx,fun _=>cb.yk⟩
  ·have E:Hid (bb K i c ⟨32,a,u,d,s,z,A⟩=(0,K1)):=Z (by unfold bb;dsimp only;rw[if_neg (by decide),ap,P,F,c6];dsimp only;rw[<-bi,bw,av,if_neg cf])
   go_enter func163,ntmps163
   go_wp2_with fail
   try rw[a0]
   go_region_held3 (fun w'=>w'.cell? ⟨w.heap.size,0,none⟩=some (.int .i64 32)/\w'.cell? ⟨w.heap.size,1,none⟩=some (.int .i64 a)/\w'.cell? ⟨w.heap.size,2,none⟩=some (.int .i64 u)/\w'.cell? ⟨w.heap.size,3,none⟩=some (.int .i64 d)/\w'.cell? ⟨w.heap.size,4,none⟩=some (.int .u64 s)/\w'.cell? ⟨w.heap.size,5,none⟩=some (.int .i64 z)/\w'.cell? ⟨w.heap.size,6,none⟩=some (.int .i64 A)/\w'.cell? (b,n+1+a.toNat)=some (.int .u64 R)) (go_keep) ((go_at_call 116;refine(X a1.drew (c4 _ c3.drew)).mono ?_;rintro e w1 ⟨rfl,Q⟩;have O:Hid (Ch ag a1 w1):=Z (Ch.trans (Ch.refl _ _).drew Q);have m:=Z (a2.af O);have q:Hid (aj K c/\aP L Y c b n):=Z ⟨t,D⟩;have B:=Z ((Nx.af O).row T.1 T.2);clear Q t0 t1 t2 t3 t4 t5 t6 l j;obtain⟨t0,t1,t2,t3,t4,t5,t6⟩:=B.1.c7;have l:=m.at_.az q.1 q.2 a.toNat (by omega);rw[P]at l))
   clear a0
   all_goals
    have k1:=m.at_.cP;have j:=m.at_.az q.1 q.2 d.toNat (by omega);rw[F]at j;go_wp2_with fail
    go_region_held3 (fun w'=>w'.cell? (L.mb,1007)=some (.pointer (some (L.m,0)))/\w'.cell? ⟨w.heap.size,3,none⟩=some (.int .i64 d)/\w'.cell? (b,n+1+d.toNat)=some (.int .u64 S)) (go_keep) ((go_at_call 189;refine(bv _ m.at_.drew).mono ?_;rintro e w2 ⟨rfl,en,cL,G⟩;have f:=Z ((m.af (Ch.refl _ _).drew).trans (Gr.refl _) G);have N:=Z (((Nx.af (Ch.refl _ w1).drew).trans G.nx).row B.1 B.2);have g:=Z (f.cur t D (Gr.of_eq rfl) rfl);clear G t0 t1 t2 t3 t4 t5 t6 l j k1;have k1:=f.at_.cP;have t1:=N.1.k 1 rfl;have t3:=N.1.k 3 rfl;have l:=f.at_.az g.1 g.2 a.toNat (by omega);have j:=f.at_.az g.1 g.2 d.toNat (by omega);rw[show(({K with mem:=M}:KS).F c).r d.toNat=S from F.out]at j))
    all_goals
     have cd:=f.at_.g1 g.1 g.2 (n+1+a.toNat);have al:=f.at_.drew.a6 g.1 g.2 a.toNat (by omega) I;rw[<-bi]at al;obtain⟨es,cQ,U⟩:=al;obtain⟨cs,V⟩:=nm (w2.drew.setCell (b,n+1+a.toNat) (.int .u64 I));rw[V]at U;have o:=Z ((f.af (Ch.refl _ _).drew).trans (Gr.of_eq rfl) U);have a3:=Z (o.cur t D c5 c9);clear U;have k3:=o.at_.cP;have cm:=o.at_.az a3.1 a3.2 16 (by omega);rw[c7]at cm;go_wp2_with fail
     go_still_tail 6,(by kernel_rfl)
     change wpList _ _ _ _ _ w2.drew;go_wp2_with fail
     try rw[V]
     clear V l j k1 cd t1 t3;have W:=yI ab c2 o.at_;rw[bw]at W;refine W.mono ?_;rintro e w4 ⟨rfl,rfl⟩;clear W;go_wp2_with fail
     have J:=j8 cA R cs;rw[av]at J;refine J.mono ?_;rintro e gf ⟨rfl,rfl⟩;clear J;have hb:(I==cS)=false:=by rw[beq_eq_false_iff_ne];exact cf
     go_wp2_with fail
     go_ret;rw[E];exact⟨rfl,es,cQ,o.at_,o.nx,fun _=>o.yk⟩
end
end
section
section
variable{w:World}{χ:Nat->a4}{L:cw}{Y:Var}{C:KC}{K:KS}
theorem wM{x:Int}(a:0<=x)(b:x<=100):wrap64 x=x:=by unfold wrap64;omega
def mH(v:Int)(w:World)(e:Ending)(w':World):Prop:=e=.returned (.int .u64 v)/\Ch ag w w'
theorem y1{x:Int}{n:Nat}(d:1<=n)(e:n<=64)(c:0<=x):∃m,x%(n:Int)=m/\0<=m/\m<=100/\wrap64 (x%(n:Int))=m/\x.tmod (n:Int)=m:=by
 have a:=Int.emod_nonneg x (b:=(n:Int)) (by omega);have b:=Int.emod_lt_of_pos x (b:=(n:Int)) (by omega);exact⟨_,rfl,a,by omega,wM a (by omega),Int.tmod_eq_emod_of_nonneg c⟩
theorem y2(i:Nat)(D:i<K.wk.length)(id:Int)(c:bK)(b J:Nat)(B:aj K c)(E:aP L Y c b J)(G:∀k,k<32->aH ((K.F c).r k))(n l d o r q s:Int)(u:n=23∨n=41∨n=37∨n=40∨n=42∨n=29∨n=38∨n=39∨n=47)(hb:0<=d/\d<32)(X:0<=K.w/\K.w<K.wk.length)(S:C.bn.length<=2048)(h:ae w χ L Y C K):
 Calls prog 168 #[(L.mb,0),(L.wb,i*38),.int .u64 id,(b,J),aI ⟨n,l,d,o,r,q,s⟩] w (mH (hL C K i id c ⟨n,l,d,o,r,q,s⟩) w):=by
 unfold aI aC;dsimp only;obtain⟨am,I,N,P,M⟩:=h.rA n l d o r q s;have a:Hid (ae am χ L Y C K):=Z P.at_;obtain⟨t0,t1,t2,t3,t4,t5,t6⟩:=M.c7;obtain⟨cf,ch⟩:=hb;have al:=a.az B E d.toNat (by omega);obtain⟨f,j⟩:∃y,(K.F c).r d.toNat=y:=⟨_,rfl⟩;have ap:=Z j;have H:=G d.toNat (by omega);rw[j]at al H;obtain⟨W,c8⟩:=H;obtain⟨a0,c9⟩:=X;have c6:=(a.wk (by simp)).n;have a2:IntKind.u64.wrap (K.wk.length:Int)=K.wk.length:=by unfold IntKind.wrap IntKind.bits IntKind.signed;simp;omega
 have a1:IntKind.u64.wrap K.w=K.w:=by unfold IntKind.wrap IntKind.bits IntKind.signed;simp;omega
 have k1:=a.jH;have k2:=a.p7;have k3:=a.BV;have cb:=a.e7 D;have cd:=a.Eu;have a3:=a.c3;obtain⟨ab,c3,c0,c1,V,c2⟩:=y1 (x:=K.w) (n:=K.wk.length) (by omega) (by omega) a0;obtain⟨ad,c4,bi,bv,T,bw⟩:=y1 (x:=f) (n:=K.wk.length) (by omega) (by omega) W;have O:=Z (fun(m:Int) (h:0<=m/\m<=100) p w=>o5 m h.1 h.2 p w);obtain⟨R,A⟩:=k6 f 8 (by omega);obtain⟨g,t⟩:=nm (bc f ((8:Nat):Int));have v:=Z (mV f 8 (by omega) (by omega));rw[t]at v R A;have av:g<8:=by omega
 have z:Hid (∀n,n=23∨n=41∨n=37∨n=40∨n=42∨n=29∨n=38∨n=39∨n=47->hL C K i id c ⟨n,l,d,o,r,q,s⟩=if n=23 then 1+2*g else if n=41 then K.clock.now else if n=37 then id else if n=40 then(K.wk.length:Int)else if n=42 then K.draw else if n=29 then(K.W i).hand else if n=38 then gY ab else if n=39 then gY ad else if f<C.bn.length then 1 else 0):=Z (by
  have Q:IntKind.u64.wrap (1+2*bc f 8)=1+2*g:=by rw[show bc f 8=g from t];unfold IntKind.wrap IntKind.bits IntKind.signed;simp;omega
  intro n u;rcases u with rfl|rfl|rfl|rfl|rfl|rfl|rfl|rfl|rfl<;>simp[hL,j,a2,a1,Q,V,T])
 have c7:(K.wk.length:Int)<=64:=by omega
 have c5:(1:Int)<=K.wk.length:=by omega
 have U:(C.bn.length:Int)<=2048:=by omega
 obtain⟨ce,F⟩:∃n,C.bn.length=n:=⟨_,rfl⟩;rw[F]at a3 U z;clear h B E G D j t A F S;rcases u with rfl|rfl|rfl|rfl|rfl|rfl|rfl|rfl|rfl
 all_goals
  go_enter func168,ntmps168
  go_wp2_with fail
  try rw[I]
  clear I;go_quiet (fail)
  go_wp2_with (first|(go_at_call 149;refine(v _).mono ?_;rintro e w' ⟨rfl,rfl⟩)|(go_at_call 63;refine(CD (a.drewN _)).mono ?_;rintro e w' ⟨rfl,rfl⟩)|(go_at_call 80;refine(O _ (by exact⟨by assumption,by assumption⟩) _ _).mono ?_;rintro e w' ⟨rfl,rfl⟩)|fail)
  all_goals
   go_ret;rw[z.out]
   ·refine⟨?_,N.drewN _⟩
    first|rfl|(simp;done)|(simp;omega)
   ·decide
end
end
section
section
variable{w:World}{χ:Nat->a4}{L:cw}{Y:Var}{C:KC}{K:KS}
theorem wN(i:Nat)(c:bK)(b o:Nat)(t:aj K c)(u:aP L Y c b o)(n a d f j g k:Int)(H:0<=a/\a<32)(I:n=23∨n=41∨n=37∨n=40∨n=42∨n=29∨n=38∨n=39∨n=47)
 (z:∀w,ae w χ L Y C K->Calls prog 168 #[(L.mb,0),(L.wb,i*38),.int .u64 0,(b,o),aI ⟨n,a,d,f,j,g,k⟩] w (mH (hL C K i 0 c ⟨n,a,d,f,j,g,k⟩) w)) (h:ae w χ L Y C K):
 Calls prog 142 #[(L.mb,0),(L.wb,i*38),.pointer none,(b,o),aI ⟨n,a,d,f,j,g,k⟩] w (dG (ay C K i none c ⟨n,a,d,f,j,g,k⟩) χ L Y C K w):=by
 have l:=Z z;have q:=Z t;have r:=Z u;unfold aI aC at l⊢;dsimp only at l⊢;obtain⟨O,B,Q,x,p⟩:=h.pre n a d f j g k;obtain⟨t0,t1,t2,t3,t4,t5,t6⟩:=p.1.c7;have E:Hid (ay C K i none c ⟨n,a,d,f,j,g,k⟩=(0,K.au c a.toNat (hL C K i 0 c ⟨n,a,d,f,j,g,k⟩))):=Z (by
  unfold ay;dsimp only;rw[if_neg (by omega),if_neg (by omega),if_neg (by omega),if_neg (by omega),if_neg (by omega),if_neg (by omega),if_neg (by omega),if_neg (by omega)];rfl)
 obtain⟨N,A⟩:=nm (hL C K i 0 c ⟨n,a,d,f,j,g,k⟩);rw[A]at E l;obtain⟨V,W⟩:=H;have J:b≠w.heap.size:=Nat.ne_of_lt (aE (h.az t u a.toNat (by omega)));have T:=J.symm;clear h A t u z;rcases I with rfl|rfl|rfl|rfl|rfl|rfl|rfl|rfl|rfl
 all_goals
  go_enter func142,ntmps142
  go_wp2_with fail
  try rw[B]
  clear B;go_region_held3 (p.1.c7) (go_keep) ((go_at_call 168;refine(l _ x.at_.drew).mono ?_;rintro e w1 ⟨rfl,y⟩;have v:Hid (Ch ag O w1):=Z (Ch.trans (Ch.refl _ _).drew y);have m:=Z (x.af v);have D:=Z (p.1.ch v (fun h=>h));clear y t0 t1 t2 t3 t4 t5 t6;(try clear R);obtain⟨t0,t1,t2,t3,t4,t5,t6⟩:=D.c7;have U:=m.at_.az q r a.toNat (by omega);have S:=m.at_.g1 q r (o+1+a.toNat);have G:=Z (m.at_.a6 q r a.toNat (by omega) N)))
 all_goals
  go_wp2_with fail
  go_ret;rw[E];obtain⟨P,F,M⟩:=G.out;have s:=m.trans (Gr.refl _) M;exact⟨rfl,P,F,s.at_,s.nx,fun _=>s.yk⟩
theorem wO(id:Int)(t:Thread)(D:aw K.ai id=some t)(hid:t.id=id)(i:Nat)(c:bK)(b o:Nat)(x:aj K c)(y:aP L Y c b o)(n a d f j g k:Int)(N:0<=a/\a<32)(O:n=23∨n=41∨n=37∨n=40∨n=42∨n=29∨n=38∨n=39∨n=47)
 (B:∀w,ae w χ L Y C K->Calls prog 168 #[(L.mb,0),(L.wb,i*38),.int .u64 id,(b,o),aI ⟨n,a,d,f,j,g,k⟩] w (mH (hL C K i id c ⟨n,a,d,f,j,g,k⟩) w)) (h:ae w χ L Y C K):
 Calls prog 142 #[(L.mb,0),(L.wb,i*38),(Y.bB id,0),(b,o),aI ⟨n,a,d,f,j,g,k⟩] w (dG (ay C K i (some id) c ⟨n,a,d,f,j,g,k⟩) χ L Y C K w):=by
 have l:=Z B;have q:=Z x;have r:=Z y;unfold aI aC at l⊢;dsimp only at l⊢;obtain⟨S,H,U,s,p⟩:=h.pre n a d f j g k;obtain⟨t0,t1,t2,t3,t4,t5,t6⟩:=p.1.c7;have E:Hid (ay C K i (some id) c ⟨n,a,d,f,j,g,k⟩=(0,K.au c a.toNat (hL C K i id c ⟨n,a,d,f,j,g,k⟩))):=Z (by
  unfold ay;dsimp only;rw[if_neg (by omega),if_neg (by omega),if_neg (by omega),if_neg (by omega),if_neg (by omega),if_neg (by omega),if_neg (by omega),if_neg (by omega)];rfl)
 obtain⟨R,G⟩:=nm (hL C K i id c ⟨n,a,d,f,j,g,k⟩);rw[G]at E l;obtain⟨a0,a1⟩:=N;have P:b≠w.heap.size:=Nat.ne_of_lt (aE (h.az x y a.toNat (by omega)));have W:=P.symm;have v:=s.at_.gb D;rw[hid]at v;obtain⟨tb,F⟩:=nm (Y.bB id);rw[F]at v⊢;clear F D hid;clear h G x y B;rcases O with rfl|rfl|rfl|rfl|rfl|rfl|rfl|rfl|rfl
 all_goals
  go_enter func142,ntmps142
  go_wp2_with fail
  try rw[H]
  clear H;go_region_held3 (p.1.c7) (go_keep) ((go_at_call 168;refine(l _ s.at_.drew).mono ?_;rintro e w1 ⟨rfl,A⟩;have z:Hid (Ch ag S w1):=Z (Ch.trans (Ch.refl _ _).drew A);have m:=Z (s.af z);have I:=Z (p.1.ch z (fun h=>h));clear A t0 t1 t2 t3 t4 t5 t6;(try clear v);obtain⟨t0,t1,t2,t3,t4,t5,t6⟩:=I.c7;have X:=m.at_.az q r a.toNat (by omega);have V:=m.at_.g1 q r (o+1+a.toNat);have M:=Z (m.at_.a6 q r a.toNat (by omega) R)))
 all_goals
  go_wp2_with fail
  go_ret;rw[E];obtain⟨T,J,Q⟩:=M.out;have u:=m.trans (Gr.refl _) Q;exact⟨rfl,T,J,u.at_,u.nx,fun _=>u.yk⟩
end
end
section
section
variable{w:World}{χ:Nat->a4}{L:cw}{Y:Var}{C:KC}{K:KS}
theorem CN{i:Nat}(a:i<K.wk.length)(c:bK)(v:Bool):(K.be i {K.W i with parked:=v}).F c=K.F c:=by
 cases c with
 |own j=>
  show((K.be i _).W j).f=(K.W j).f
  by_cases e:i=j
  ·subst e;rw[gz a]
  ·have:(K.be i {K.W i with parked:=v}).W j=K.W j:=by
    unfold KS.W KS.be;simp only[List.getD_eq_getElem?_getD,List.getElem?_set_ne e]
   rw[this]
 |ai id k=>rfl
theorem tx(o:Value)(idO:Option Int)(i:Nat)(c:bK)(b n:Nat)(a d e g f j:Int)(h:ae w χ L Y C K):
 Calls prog 142 #[(L.mb,0),(L.wb,i*38),o,(b,n),.agg #[.int .i64 22,a,d,e,.int .u64 g,f,j]] w (dG (ay C K i idO c ⟨22,a,d,e,g,f,j⟩) χ L Y C K w):=by
 obtain⟨q,m,p,k,l⟩:=h.rA 22 a d e g f j;have t0:=l.c1;have E:Hid (ay C K i idO c ⟨22,a,d,e,g,f,j⟩=(2,K)):=Z (by unfold ay;dsimp only;rw[if_neg (by decide),if_neg (by decide),if_neg (by decide),if_neg (by decide),if_neg (by decide),if_neg (by decide),if_neg (by decide),if_pos rfl]);clear h;go_enter func142,ntmps142
 go_wp2_with fail
 try rw[m]
 go_ret;rw[E];exact⟨rfl,χ,Y,k.at_,k.nx,fun _=>k.yk⟩
theorem tz(a2:Value)(idO:Option Int)(i:Nat)(R:i<K.wk.length)(c:bK)(b m:Nat)(Q:aj K c)(S:aP L Y c b m)(a p r t s u:Int)(X:0<=a/\a<32)(h:ae w χ L Y C K):
 Calls prog 142 #[(L.mb,0),(L.wb,i*38),a2,(b,m),.agg #[.int .i64 36,a,p,r,.int .u64 t,s,u]] w (dG (ay C K i idO c ⟨36,a,p,r,t,s,u⟩) χ L Y C K w):=by
 have J:=Z Q;have M:=Z S;have A:=Z R;obtain⟨a3,T,ab,D,z⟩:=h.pre 36 a p r t s u;obtain⟨t0,t1⟩:=z.1.c2;obtain⟨bw,c0⟩:=X;have a0:L.wb≠w.heap.size:=Nat.ne_of_lt (h.wk (by simp)).is.lt;have bi:=a0.symm;obtain⟨q,d⟩:=nm (hd K 0);have N:=Z (fun w h=>wg (K:=K) (w:=w) (χ:=χ) (L:=L) (Y:=Y) (C:=C) 0 ⟨by omega,by omega⟩ h);have H:q.2.ai=K.ai/\q.2.wk=K.wk:=by rw[<-d];exact⟨rfl,rfl⟩
 have hF:(q.2.F c)=K.F c:=by rw[<-d];cases c<;>rfl
 rw[d]at N;have W:=Z d;obtain⟨pv,K1⟩:=q;dsimp only at H hF;have f:=Z H;obtain⟨x,k⟩:∃y,(K.F c).r a.toNat=y:=⟨_,rfl⟩;have ad:=Z k;have B:Hid ((K1.F c).r a.toNat=x):=Z (by rw[hF];exact k);have o:=D.at_.az J M a.toNat (by omega);rw[k]at o;clear h R Q S d H hF k;obtain⟨n,a1⟩:=nm ((pv==x));have E:Hid (ay C K i idO c ⟨36,a,p,r,t,s,u⟩=((if n then 1 else 0),K1.be i {K1.W i with parked:=n})):=Z (by unfold ay;dsimp only;rw[if_neg (by decide),if_neg (by decide),if_pos rfl,W];dsimp only;rw[B,a1];cases n<;>rfl);cases n
 all_goals
  go_enter func142,ntmps142
  go_wp2_with fail
  try rw[T]
  try clear T
  go_region_held3 (fun w'=>w'.cell? ⟨w.heap.size,1,none⟩=some (.int .i64 a)/\w'.cell? (b,m+1+a.toNat)=some (.int .u64 x)) (go_keep) ((go_at_call 81;refine(N _ D.at_.drew).mono ?_;rintro e w1 ⟨rfl,c1,al,G⟩;have g:=Z ((D.af (Ch.refl _ _).drew).trans (Gr.refl _) G);have V:=Z (((Nx.af (Ch.refl _ a3).drew).trans G.nx).row z.1 z.2);have j:=Z (g.cur J M (Gr.of_eq f.1) (by rw[f.2]));clear G t0 t1 o;have t1:=V.1.k 1 rfl;have o:=g.at_.az j.1 j.2 a.toNat (by omega);rw[B]at o;have bv:=g.at_.qa (i:=i) (by rw[f.2];exact A);have am:=g.at_.tn (i*38+2);have P:=Z (fun v=>g.at_.o4 (i:=i) (by rw[f.2];exact A) v);have I:∀v,(w1.setCell (L.wb,i*38+2) (.bool v)).cell? (b,m+1+a.toNat)=some (.int .u64 x):=(fun v=>by obtain⟨U,O,l⟩:=P v;have d:=l.cur j.1 j.2 (Gr.of_eq rfl) (bA _ _);have:=l.at_.az d.1 d.2 a.toNat (by omega);rw[CN (by rw[f.2];exact A) c v,B]at this;exact this);have ap:=I false;have av:=I true;clear I))
  all_goals
   go_wp2_with fail
   go_ret;rw[E];obtain⟨U,O,l⟩:=P _;have F:=g.trans (Gr.of_eq f.1) l;exact⟨rfl,U,O,F.at_,F.nx,fun _=>F.yk⟩
end
end
end Go.Proofs.YtfnilkpkogipfaaGreatDoor
