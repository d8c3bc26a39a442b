import Derived.Test.YtfnilkpkogipfaaGreatDoorZAp
set_option linter.all false
set_option maxRecDepth 100000
set_option maxHeartbeats 8000000
namespace Go.Proofs.YtfnilkpkogipfaaGreatDoor
open Go.RowKit Go.Proofs.Tryz
section
section
variable{w:World}{χ:Nat->aX}{L:cz}{Y:Var}{C:KC}{K:KS}
theorem ss(i:Nat)(av:i<K.wk.length)(c:bN)(b q:Nat)(ap:ak K c)(ax:aS L Y c b q)(V:∀k,k<32->aI ((K.F c).r k))(a f g d j l:Int)(c0:0<=a/\a<32)(c3:aI d)(h:ae w χ L Y C K):
 Calls prog 163 #[(L.mb,0),(L.wb,i*38),(b,q),.agg #[.int .i64 31,a,f,g,.int .u64 d,j,l]] w (dM (bf K i c ⟨31,a,f,g,d,j,l⟩) χ L Y C K w):=by
 have H:=Z h;have F:=Z ap;have G:=Z ax;have ab:=Z av;obtain⟨M,J,a2,R,t⟩:=h.pre 31 a f g d j l;obtain⟨cb,cd⟩:=c0;obtain⟨N,X⟩:∃y,(K.F c).r a.toNat=y:=⟨_,rfl⟩;have z:=Z X;have Q:=Z (V a.toNat (by omega));rw[X]at Q;obtain⟨c8,c9⟩:=Q.out;clear X;obtain⟨t0,t1,t2,t3,t4,t5,t6⟩:=t.1.c7;have n:=R.at_.aC F G a.toNat (by omega);rw[z]at n;obtain⟨am,I⟩:=nm (dt (K.F c).r ⟨31,a,f,g,d,j,l⟩);have a1:=Z I;have T:=jI (x:=⟨31,a,f,g,d,j,l⟩) V c3;rw[I]at T;have bv:=Z T;have a3:Hid (∀w1:World,Ch ag w w1->fs w1 b q (K.F c).pc (K.F c).r):=Z (fun w1 c1=>by obtain⟨pre,post,v,c2⟩:=(h.af c1).cur F G;exact c2.fr);have s:=Z (fun w h=>kB b q (K.F c).pc (K.F c).r ⟨31,a,f,g,d,j,l⟩ w h);rw[I]at s;unfold aK at s;try dsimp only at s
 clear I T;obtain⟨p,U⟩:=nm (K.mem.acc 1 am 0 N);have ad:=Z U;have P:=Z (fun w h=>D3 (K:=K) (w:=w) (χ:=χ) (L:=L) (Y:=Y) (C:=C) am N bv Q h);rw[U]at P;clear U;obtain⟨r,a0⟩:=p;clear h ap ax V av;cases r with
 |none=>
  have E:Hid (bf K i c ⟨31,a,f,g,d,j,l⟩=(2,{K with mem:=a0})):=Z (by unfold bf;dsimp only;rw[if_pos rfl,a1,z,ad];rfl);go_in
  go_wp2
  try rw[J]
  go_region_held3 (fun w'=>w'.cell? ⟨w.heap.size,0,none⟩=some (.int .i64 31)/\w'.cell? ⟨w.heap.size,1,none⟩=some (.int .i64 a)/\w'.cell? ⟨w.heap.size,2,none⟩=some (.int .i64 f)/\w'.cell? ⟨w.heap.size,3,none⟩=some (.int .i64 g)/\w'.cell? ⟨w.heap.size,4,none⟩=some (.int .u64 d)/\w'.cell? ⟨w.heap.size,5,none⟩=some (.int .i64 j)/\w'.cell? ⟨w.heap.size,6,none⟩=some (.int .i64 l)/\w'.cell? (b,q+1+a.toNat)=some (.int .u64 N)) (go_keep) ((go_at_call 116;refine(s M.drew (a3 _ a2.drew)).mono ?_;rintro e w1 ⟨rfl,D⟩;have u:Hid (Ch ag M w1):=Z (Ch.trans (Ch.refl _ _).drew D);have m:=Z (R.af u);have A:Hid (ak K c/\aS L Y c b q):=Z ⟨F,G⟩;have O:=Z ((Nx.af u).row t.1 t.2);clear D t0 t1 t2 t3 t4 t5 t6 n;obtain⟨t0,t1,t2,t3,t4,t5,t6⟩:=O.1.c7;have n:=m.at_.aC A.1 A.2 a.toNat (by omega);rw[z]at n))
  clear J
  all_goals
   have k1:=m.at_.cP;go_wp2_with fail
   refine(P _ m.at_).mono ?_;rintro e w2 ⟨⟨v,rfl,W⟩,bi,al,B⟩;obtain⟨tt,ce,rfl⟩:=W;have o:=Z (m.trans (Gr.refl _) B);clear B k1 n t0 t1 t2 t3 t4 t5 t6;go_wp2
   go_ret;rw[E];exact⟨rfl,bi,al,o.at_,o.nx,fun _=>o.yk⟩
 |some r=>
  have E:Hid (bf K i c ⟨31,a,f,g,d,j,l⟩=(0,({K with mem:=a0}:KS).be i {({K with mem:=a0}:KS).W i with hand:=0})):=Z (by unfold bf;dsimp only;rw[if_pos rfl,a1,z,ad];rfl);go_in
  go_wp2
  try rw[J]
  go_region_held3 (fun w'=>w'.cell? ⟨w.heap.size,0,none⟩=some (.int .i64 31)/\w'.cell? ⟨w.heap.size,1,none⟩=some (.int .i64 a)/\w'.cell? ⟨w.heap.size,2,none⟩=some (.int .i64 f)/\w'.cell? ⟨w.heap.size,3,none⟩=some (.int .i64 g)/\w'.cell? ⟨w.heap.size,4,none⟩=some (.int .u64 d)/\w'.cell? ⟨w.heap.size,5,none⟩=some (.int .i64 j)/\w'.cell? ⟨w.heap.size,6,none⟩=some (.int .i64 l)/\w'.cell? (b,q+1+a.toNat)=some (.int .u64 N)) (go_keep) ((go_at_call 116;refine(s M.drew (a3 _ a2.drew)).mono ?_;rintro e w1 ⟨rfl,D⟩;have u:Hid (Ch ag M w1):=Z (Ch.trans (Ch.refl _ _).drew D);have m:=Z (R.af u);have A:Hid (ak K c/\aS L Y c b q):=Z ⟨F,G⟩;have O:=Z ((Nx.af u).row t.1 t.2);clear D t0 t1 t2 t3 t4 t5 t6 n;obtain⟨t0,t1,t2,t3,t4,t5,t6⟩:=O.1.c7;have n:=m.at_.aC A.1 A.2 a.toNat (by omega);rw[z]at n))
  clear J
  all_goals
   have k1:=m.at_.cP;go_wp2_with fail
   refine(P _ m.at_).mono ?_;rintro e w2 ⟨⟨v,rfl,W⟩,bi,al,B⟩;obtain rfl:v=.nilIface:=W;have o:=Z (m.trans (Gr.refl _) B);clear B k1 n t0 t1 t2 t3 t4 t5 t6;have c7:=o.at_.fD (i:=i) (by exact ab);have c6:=o.at_.uf (i*38+1);have bx:=Z (o.at_.jM (i:=i) (by exact ab) 0);go_wp2
   go_ret;rw[E];obtain⟨c5,bw,c4⟩:=bx.out;have S:=o.trans (Gr.of_eq rfl) c4;exact⟨rfl,c5,bw,S.at_,S.nx,fun _=>S.yk⟩
theorem su(i:Nat)(cQ:i<K.wk.length)(c:bN)(b n:Nat)(cL:ak K c)(cS:aS L Y c b n)(am:∀k,k<32->aI ((K.F c).r k))(a u d s z A:Int)(eL:0<=a/\a<32)(eW:0<=d/\d<32)(fd:aI s)(ce:∀v,(K.mem.acc 4 (dt (K.F c).r ⟨32,a,u,d,s,z,A⟩) ((K.F c).r a.toNat) ((K.F c).r d.toNat)).1=some v->aI v)(h:ae w χ L Y C K):
 Calls prog 163 #[(L.mb,0),(L.wb,i*38),(b,n),.agg #[.int .i64 32,a,u,d,.int .u64 s,z,A]] w (dM (bf K i c ⟨32,a,u,d,s,z,A⟩) χ L Y C K w):=by
 have H:=Z h;have t:=Z cL;have D:=Z cS;have dN:=Z cQ;obtain⟨a1,a0,c1,a2,T⟩:=h.pre 32 a u d s z A;obtain⟨gr,gs⟩:=eL;obtain⟨R,ch⟩:∃y,(K.F c).r a.toNat=y:=⟨_,rfl⟩;have P:=Z ch;have cq:=Z (am a.toNat (by omega));rw[ch]at cq;obtain⟨gc,ge⟩:=cq.out;clear ch;obtain⟨gt,hd⟩:=eW;obtain⟨S,ci⟩:∃y,(K.F c).r d.toNat=y:=⟨_,rfl⟩;have F:=Z ci;have c6:=Z (am d.toNat (by omega));rw[ci]at c6;obtain⟨gf,gk⟩:=c6.out;clear ci;obtain⟨t0,t1,t2,t3,t4,t5,t6⟩:=T.1.c7;have l:=a2.at_.aC t D a.toNat (by omega);rw[P]at l;have j:=a2.at_.aC t D d.toNat (by omega);rw[F]at j;obtain⟨ab,bw⟩:=nm (dt (K.F c).r ⟨32,a,u,d,s,z,A⟩);have ap:=Z bw;have cb:=jI (x:=⟨32,a,u,d,s,z,A⟩) am fd;rw[bw]at cb;have c0:=Z cb;have c2:Hid (∀w1:World,Ch ag w w1->fs w1 b n (K.F c).pc (K.F c).r):=Z (fun w1 eS=>by obtain⟨pre,post,v,fb⟩:=(h.af eS).cur t D;exact fb.fr);have X:=Z (fun w h=>kB b n (K.F c).pc (K.F c).r ⟨32,a,u,d,s,z,A⟩ w h);rw[bw]at X;unfold aK at X;try dsimp only at X
 clear bw cb;obtain⟨p,bx⟩:=nm (K.mem.acc 4 ab R S);have c4:=Z bx;have bi:=Z (fun w h=>Gy (K:=K) (w:=w) (χ:=χ) (L:=L) (Y:=Y) (C:=C) ab R S c0 c6 h);rw[ap,P,F,bx]at ce;rw[bx]at bi;have en:=Z ce;have es:=Z am;clear bx ce;obtain⟨r,M⟩:=p;clear h cL cS am cQ;cases r with
 |none=>
  have E:Hid (bf K i c ⟨32,a,u,d,s,z,A⟩=(2,{K with mem:=M})):=Z (by unfold bf;dsimp only;rw[if_neg (by decide),ap,P,F,c4]);go_in
  go_wp2
  try rw[a0]
  go_region_held3 (fun w'=>w'.cell? ⟨w.heap.size,0,none⟩=some (.int .i64 32)/\w'.cell? ⟨w.heap.size,1,none⟩=some (.int .i64 a)/\w'.cell? ⟨w.heap.size,2,none⟩=some (.int .i64 u)/\w'.cell? ⟨w.heap.size,3,none⟩=some (.int .i64 d)/\w'.cell? ⟨w.heap.size,4,none⟩=some (.int .u64 s)/\w'.cell? ⟨w.heap.size,5,none⟩=some (.int .i64 z)/\w'.cell? ⟨w.heap.size,6,none⟩=some (.int .i64 A)/\w'.cell? (b,n+1+a.toNat)=some (.int .u64 R)) (go_keep) ((go_at_call 116;refine(X a1.drew (c2 _ c1.drew)).mono ?_;rintro e w1 ⟨rfl,Q⟩;have O:Hid (Ch ag a1 w1):=Z (Ch.trans (Ch.refl _ _).drew Q);have m:=Z (a2.af O);have q:Hid (ak K c/\aS L Y c b n):=Z ⟨t,D⟩;have B:=Z ((Nx.af O).row T.1 T.2);clear Q t0 t1 t2 t3 t4 t5 t6 l j;obtain⟨t0,t1,t2,t3,t4,t5,t6⟩:=B.1.c7;have l:=m.at_.aC q.1 q.2 a.toNat (by omega);rw[P]at l))
  clear a0
  all_goals
   have k1:=m.at_.cP;have j:=m.at_.aC q.1 q.2 d.toNat (by omega);rw[F]at j;go_wp2
   go_region_held3 (fun w'=>w'.cell? (L.mb,1007)=some (.pointer (some (L.m,0)))/\w'.cell? ⟨w.heap.size,3,none⟩=some (.int .i64 d)/\w'.cell? (b,n+1+d.toNat)=some (.int .u64 S)) (go_keep) ((go_at_call 189;refine(bi _ m.at_.drew).mono ?_;rintro e w2 ⟨⟨v,rfl,fn⟩,dr,cr,G⟩;obtain⟨tt,he,rfl⟩:=fn;have f:=Z ((m.af (Ch.refl _ _).drew).trans (Gr.refl _) G);have N:=Z (((Nx.af (Ch.refl _ w1).drew).trans G.nx).row B.1 B.2);have g:=Z (f.cur t D (Gr.of_eq rfl) rfl);clear G t0 t1 t2 t3 t4 t5 t6 l j k1;have k1:=f.at_.cP;have t1:=N.1.k 1 rfl;have t3:=N.1.k 3 rfl;have l:=f.at_.aC g.1 g.2 a.toNat (by omega);have j:=f.at_.aC g.1 g.2 d.toNat (by omega);rw[show(({K with mem:=M}:KS).F c).r d.toNat=S from F.out]at j))
   all_goals
    clear l j k1;go_wp2
    go_ret;rw[E];exact⟨rfl,_,_,f.at_,f.nx,fun _=>f.yk⟩
 |some I=>
  have ec:Hid (aI I):=Z (en I rfl);obtain⟨K1,ad⟩:=mn (({K with mem:=M}:KS).az c a.toNat I);have ax:=Z ad;have c3:Hid (Gr K K1):=Z (by rw[ad];exact(Gr.of_eq (K:=K) (K':={K with mem:=M}) rfl).trans (bu (t.gr (K':={K with mem:=M}) (Gr.of_eq rfl) rfl) _));have c7:Hid (K1.wk.length=K.wk.length):=Z (by rw[ad];exact(bq _ _));have ex:Hid (aI ((K1.F c).r 16)):=Z (by
   rw[ad];have eC:((({K with mem:=M}:KS).az c a.toNat I).F c).r 16=fU (K.F c).r a.toNat I 16:=by
    show((KS.cJ _ c _).F c).r 16=_
    rw[D6 (t.gr (K':={K with mem:=M}) (Gr.of_eq rfl) rfl)];rfl
   rw[eC];unfold fU;split
   ·exact ec
   ·exact es 16 (by omega))
  obtain⟨cl,cf⟩:=nm ((K1.F c).r 16);have c5:=Z cf;have et:Hid (aI cl):=Z (by rw[<-cf];exact ex);obtain⟨cm,cW⟩:=nm (K1.mem.wid ab);have bv:=Z cW;obtain⟨cA,J⟩:=nm (gi cm R);have av:=Z J;clear ad cf cW J;by_cases cd:I=cA
  ·subst cd
   have E:Hid (bf K i c ⟨32,a,u,d,s,z,A⟩=(0,eK K1 i cl)):=Z (by unfold bf;dsimp only;rw[if_neg (by decide),ap,P,F,c4];dsimp only;rw[<-ax,bv,av,if_pos rfl,c5]);go_in
   go_wp2
   try rw[a0]
   go_region_held3 (fun w'=>w'.cell? ⟨w.heap.size,0,none⟩=some (.int .i64 32)/\w'.cell? ⟨w.heap.size,1,none⟩=some (.int .i64 a)/\w'.cell? ⟨w.heap.size,2,none⟩=some (.int .i64 u)/\w'.cell? ⟨w.heap.size,3,none⟩=some (.int .i64 d)/\w'.cell? ⟨w.heap.size,4,none⟩=some (.int .u64 s)/\w'.cell? ⟨w.heap.size,5,none⟩=some (.int .i64 z)/\w'.cell? ⟨w.heap.size,6,none⟩=some (.int .i64 A)/\w'.cell? (b,n+1+a.toNat)=some (.int .u64 R)) (go_keep) ((go_at_call 116;refine(X a1.drew (c2 _ c1.drew)).mono ?_;rintro e w1 ⟨rfl,Q⟩;have O:Hid (Ch ag a1 w1):=Z (Ch.trans (Ch.refl _ _).drew Q);have m:=Z (a2.af O);have q:Hid (ak K c/\aS L Y c b n):=Z ⟨t,D⟩;have B:=Z ((Nx.af O).row T.1 T.2);clear Q t0 t1 t2 t3 t4 t5 t6 l j;obtain⟨t0,t1,t2,t3,t4,t5,t6⟩:=B.1.c7;have l:=m.at_.aC q.1 q.2 a.toNat (by omega);rw[P]at l))
   clear a0
   all_goals
    have k1:=m.at_.cP;have j:=m.at_.aC q.1 q.2 d.toNat (by omega);rw[F]at j;go_wp2
    go_region_held3 (fun w'=>w'.cell? (L.mb,1007)=some (.pointer (some (L.m,0)))/\w'.cell? ⟨w.heap.size,3,none⟩=some (.int .i64 d)/\w'.cell? (b,n+1+d.toNat)=some (.int .u64 S)) (go_keep) ((go_at_call 189;refine(bi _ m.at_.drew).mono ?_;rintro e w2 ⟨rfl,dr,cr,G⟩;have f:=Z ((m.af (Ch.refl _ _).drew).trans (Gr.refl _) G);have N:=Z (((Nx.af (Ch.refl _ w1).drew).trans G.nx).row B.1 B.2);have g:=Z (f.cur t D (Gr.of_eq rfl) rfl);clear G t0 t1 t2 t3 t4 t5 t6 l j k1;have k1:=f.at_.cP;have t1:=N.1.k 1 rfl;have t3:=N.1.k 3 rfl;have l:=f.at_.aC g.1 g.2 a.toNat (by omega);have j:=f.at_.aC g.1 g.2 d.toNat (by omega);rw[show(({K with mem:=M}:KS).F c).r d.toNat=S from F.out]at j))
    all_goals
     have c9:=f.at_.hg g.1 g.2 (n+1+a.toNat);have al:=f.at_.drew.a9 g.1 g.2 a.toNat (by omega) I;rw[<-ax]at al;obtain⟨dC,cs,U⟩:=al;obtain⟨w3,V⟩:=nm (w2.drew.setCell (b,n+1+a.toNat) (.int .u64 I));rw[V]at U;have o:=Z ((f.af (Ch.refl _ _).drew).trans (Gr.of_eq rfl) U);have a3:=Z (o.cur t D c3 c7);clear U;have k3:=o.at_.cP;have ck:=o.at_.aC a3.1 a3.2 16 (by omega);rw[c5]at ck;go_wp2
     go_still_tail 6,(by kernel_rfl)
     change wpList _ _ _ _ _ w2.drew;go_wp2_with fail
     try rw[V]
     clear V l j k1 c9 t1 t3;have W:=zC ab c0 o.at_;rw[bv]at W;refine W.mono ?_;rintro e w4 ⟨rfl,rfl⟩;clear W;go_wp2_with fail
     have J:=ku cm R w3;rw[av]at J;refine J.mono ?_;rintro e fr ⟨rfl,rfl⟩;clear J;go_wp2_with fail
     refine(pC (K:=K1) i (by rw[c7];exact dN) cl et o.at_).mono ?_;rintro e go ⟨rfl,fz,eA,cC⟩;have c8:=Z (o.trans c3 cC);clear cC;go_wp2
     go_ret;rw[E];exact⟨rfl,fz,eA,c8.at_,c8.nx,fun _=>c8.yk⟩
  ·have E:Hid (bf K i c ⟨32,a,u,d,s,z,A⟩=(0,K1)):=Z (by unfold bf;dsimp only;rw[if_neg (by decide),ap,P,F,c4];dsimp only;rw[<-ax,bv,av,if_neg cd])
   go_in
   go_wp2
   try rw[a0]
   go_region_held3 (fun w'=>w'.cell? ⟨w.heap.size,0,none⟩=some (.int .i64 32)/\w'.cell? ⟨w.heap.size,1,none⟩=some (.int .i64 a)/\w'.cell? ⟨w.heap.size,2,none⟩=some (.int .i64 u)/\w'.cell? ⟨w.heap.size,3,none⟩=some (.int .i64 d)/\w'.cell? ⟨w.heap.size,4,none⟩=some (.int .u64 s)/\w'.cell? ⟨w.heap.size,5,none⟩=some (.int .i64 z)/\w'.cell? ⟨w.heap.size,6,none⟩=some (.int .i64 A)/\w'.cell? (b,n+1+a.toNat)=some (.int .u64 R)) (go_keep) ((go_at_call 116;refine(X a1.drew (c2 _ c1.drew)).mono ?_;rintro e w1 ⟨rfl,Q⟩;have O:Hid (Ch ag a1 w1):=Z (Ch.trans (Ch.refl _ _).drew Q);have m:=Z (a2.af O);have q:Hid (ak K c/\aS L Y c b n):=Z ⟨t,D⟩;have B:=Z ((Nx.af O).row T.1 T.2);clear Q t0 t1 t2 t3 t4 t5 t6 l j;obtain⟨t0,t1,t2,t3,t4,t5,t6⟩:=B.1.c7;have l:=m.at_.aC q.1 q.2 a.toNat (by omega);rw[P]at l))
   clear a0
   all_goals
    have k1:=m.at_.cP;have j:=m.at_.aC q.1 q.2 d.toNat (by omega);rw[F]at j;go_wp2
    go_region_held3 (fun w'=>w'.cell? (L.mb,1007)=some (.pointer (some (L.m,0)))/\w'.cell? ⟨w.heap.size,3,none⟩=some (.int .i64 d)/\w'.cell? (b,n+1+d.toNat)=some (.int .u64 S)) (go_keep) ((go_at_call 189;refine(bi _ m.at_.drew).mono ?_;rintro e w2 ⟨rfl,dr,cr,G⟩;have f:=Z ((m.af (Ch.refl _ _).drew).trans (Gr.refl _) G);have N:=Z (((Nx.af (Ch.refl _ w1).drew).trans G.nx).row B.1 B.2);have g:=Z (f.cur t D (Gr.of_eq rfl) rfl);clear G t0 t1 t2 t3 t4 t5 t6 l j k1;have k1:=f.at_.cP;have t1:=N.1.k 1 rfl;have t3:=N.1.k 3 rfl;have l:=f.at_.aC g.1 g.2 a.toNat (by omega);have j:=f.at_.aC g.1 g.2 d.toNat (by omega);rw[show(({K with mem:=M}:KS).F c).r d.toNat=S from F.out]at j))
    all_goals
     have c9:=f.at_.hg g.1 g.2 (n+1+a.toNat);have al:=f.at_.drew.a9 g.1 g.2 a.toNat (by omega) I;rw[<-ax]at al;obtain⟨dC,cs,U⟩:=al;obtain⟨w3,V⟩:=nm (w2.drew.setCell (b,n+1+a.toNat) (.int .u64 I));rw[V]at U;have o:=Z ((f.af (Ch.refl _ _).drew).trans (Gr.of_eq rfl) U);have a3:=Z (o.cur t D c3 c7);clear U;have k3:=o.at_.cP;have ck:=o.at_.aC a3.1 a3.2 16 (by omega);rw[c5]at ck;go_wp2
     go_still_tail 6,(by kernel_rfl)
     change wpList _ _ _ _ _ w2.drew;go_wp2_with fail
     try rw[V]
     clear V l j k1 c9 t1 t3;have W:=zC ab c0 o.at_;rw[bv]at W;refine W.mono ?_;rintro e w4 ⟨rfl,rfl⟩;clear W;go_wp2_with fail
     have J:=ku cm R w3;rw[av]at J;refine J.mono ?_;rintro e fr ⟨rfl,rfl⟩;clear J;have hb:(I==cA)=false:=(by rw[beq_eq_false_iff_ne];exact cd);go_wp2
     go_ret;rw[E];exact⟨rfl,dC,cs,o.at_,o.nx,fun _=>o.yk⟩
end
end
end Go.Proofs.YtfnilkpkogipfaaGreatDoor
