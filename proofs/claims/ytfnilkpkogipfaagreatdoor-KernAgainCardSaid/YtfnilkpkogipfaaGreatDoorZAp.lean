import Derived.Test.YtfnilkpkogipfaaGreatDoorZAl
import Derived.Test.YtfnilkpkogipfaaGreatDoorZAm
import Derived.Test.YtfnilkpkogipfaaGreatDoorZAn
set_option linter.all false
set_option maxRecDepth 100000
set_option maxHeartbeats 8000000
namespace Go.Proofs.YtfnilkpkogipfaaGreatDoor
open Go.RowKit Go.Proofs.Tryz
section
section
variable{w:World}{χ:Nat->aX}{L:cz}{Y:Var}{C:KC}{K:KS}
def dM(r:Int×KS)(χ:Nat->aX)(L:cz)(Y:Var)(C:KC)(K:KS)(w:World)(e:Ending)(w':World):Prop:=e=.returned (.int .i64 r.1)/\∃aY Y',ae w' aY L Y' C r.2/\Nx χ aY w w'/\(r.1≠1->Yk K Y Y')
theorem Fx(id a m:Int)(h:ae w χ L Y C K):Calls prog 186 #[(L.qb,0),.int .u64 id,.int .u64 a,.int .u64 m] w (nL (kK K.q id a m).1 χ L Y C K {K with q:=(kK K.q id a m).2} w):=by
 have b:=h.q (by simp);have:=zL L.qb L.ql L.qm Y.ls id a m w b.is;rw[b.bZ]at this;refine this.mono fun _ _ ⟨v,f,e⟩=> ?_
 obtain⟨c,d⟩:=h.B5 e;exact⟨⟨v,c,f⟩,d⟩
theorem sc(i:Nat)(z:i<K.wk.length)(id:Int)(t:Thread)(D:aw K.ai id=some t)(hid:t.id=id)(X:aI id)(c:bN)(b G:Nat)(x:ak K c)(A:aS L Y c b G)(B:∀k,k<32->aI ((K.F c).r k))(a f g l j m:Int)(R:0<=a/\a<32)(h:ae w χ L Y C K):
 Calls prog 162 #[(L.mb,0),(L.wb,i*38),(Y.bH id,0),(b,G),.agg #[.int .i64 51,a,f,g,.int .u64 l,j,m]] w (dM (aD C K i id c ⟨51,a,f,g,l,j,m⟩) χ L Y C K w):=by
 have H:=Z h;have M:=Z x;have N:=Z A;have W:=Z z;obtain⟨T,F,V,d,J⟩:=h.pre 51 a f g l j m;have r:=Z (And.intro D hid);obtain⟨tb,p⟩:=nm (Y.bH id);have O:=Z p;obtain⟨a2,a3⟩:=R;obtain⟨I,q⟩:∃y,(K.F c).r a.toNat=y:=⟨_,rfl⟩;have s:=Z q;have n:=Z (B a.toNat (by omega));rw[q]at n;obtain⟨a0,a1⟩:=n.out;clear q;have E:Hid (aD C K i id c ⟨51,a,f,g,l,j,m⟩=(0,{K with table:=(hs K.table I id).2})):=Z (by unfold aD;dsimp only;rw[if_neg (by decide),if_neg (by decide),if_pos rfl,s]);obtain⟨t0,t1,t2,t3,t4,t5,t6⟩:=J.1.c7;have S:=d.at_.aC M N a.toNat (by omega);rw[s]at S;have Q:=d.at_.gv r.1;rw[r.2,O]at Q;have k1:=d.at_.ea;rw[p];clear h x A B z D hid p;go_in
 go_wp2_with fail
 try rw[F]
 clear F;go_wp2
 go_still_tail 15,(by kernel_rfl)
 change wpList _ _ _ _ _ T.drew;go_wp2_with fail
 refine(zz I id n d.at_.drew).mono ?_;rintro e w1 ⟨⟨v,rfl,_⟩,U,P,u⟩;have o:=Z ((d.af (Ch.refl _ _).drew).trans (Gr.of_eq rfl) u);clear u;go_wp2
 go_ret;rw[E];exact⟨rfl,U,P,o.at_,o.nx,fun _=>o.yk⟩
theorem sd(i:Nat)(z:i<K.wk.length)(id:Int)(t:Thread)(D:aw K.ai id=some t)(hid:t.id=id)(S:aI id)(c:bN)(b G:Nat)(x:ak K c)(A:aS L Y c b G)(B:∀k,k<32->aI ((K.F c).r k))(a f g l j m:Int)(R:0<=a/\a<32)(h:ae w χ L Y C K):
 Calls prog 162 #[(L.mb,0),(L.wb,i*38),(Y.bH id,0),(b,G),.agg #[.int .i64 53,a,f,g,.int .u64 l,j,m]] w (dM (aD C K i id c ⟨53,a,f,g,l,j,m⟩) χ L Y C K w):=by
 have H:=Z h;have M:=Z x;have N:=Z A;have X:=Z z;obtain⟨U,F,W,d,J⟩:=h.pre 53 a f g l j m;have q:=Z (And.intro D hid);obtain⟨tb,o⟩:=nm (Y.bH id);have O:=Z o;obtain⟨a2,a3⟩:=R;obtain⟨I,p⟩:∃y,(K.F c).r a.toNat=y:=⟨_,rfl⟩;have s:=Z p;have r:=Z (B a.toNat (by omega));rw[p]at r;obtain⟨a0,a1⟩:=r.out;clear p;have E:Hid (aD C K i id c ⟨53,a,f,g,l,j,m⟩=(0,{K with table:=(gj K.table id I).2})):=Z (by unfold aD;dsimp only;rw[if_neg (by decide),if_neg (by decide),if_neg (by decide),if_pos rfl,s]);obtain⟨t0,t1,t2,t3,t4,t5,t6⟩:=J.1.c7;have T:=d.at_.aC M N a.toNat (by omega);rw[s]at T;have Q:=d.at_.gv q.1;rw[q.2,O]at Q;have k1:=d.at_.ea;rw[o];clear h x A B z D hid o;go_in
 go_wp2_with fail
 try rw[F]
 clear F;go_wp2
 go_still_tail 15,(by kernel_rfl)
 change wpList _ _ _ _ _ U.drew;go_wp2_with fail
 refine(qF id I S d.at_.drew).mono ?_;rintro e w1 ⟨⟨v,rfl,_⟩,V,P,u⟩;have n:=Z ((d.af (Ch.refl _ _).drew).trans (Gr.of_eq rfl) u);clear u;go_wp2
 go_ret;rw[E];exact⟨rfl,V,P,n.at_,n.nx,fun _=>n.yk⟩
theorem se(i:Nat)(m:i<K.wk.length)(id:Int)(t:Thread)(n:aw K.ai id=some t)(hid:t.id=id)(J:aI id)(c:bN)(b z:Nat)(u:ak K c)(v:aS L Y c b z)(I:∀k,k<32->aI ((K.F c).r k))(a d f j g l:Int)(F:K.clock.Ok)(D:K.blocks.Ok)(G:K.out.length<=800000)(h:ae w χ L Y C K):
 Calls prog 162 #[(L.mb,0),(L.wb,i*38),(Y.bH id,0),(b,z),.agg #[.int .i64 55,a,d,f,.int .u64 j,g,l]] w (dM (aD C K i id c ⟨55,a,d,f,j,g,l⟩) χ L Y C K w):=by
 have H:=Z h;have N:=Z u;have Q:=Z v;have P:=Z m;obtain⟨T,x,O,q,A⟩:=h.pre 55 a d f j g l;have R:=Z (And.intro n hid);obtain⟨tb,o⟩:=nm (Y.bH id);have S:=Z o;have E:Hid (aD C K i id c ⟨55,a,d,f,j,g,l⟩=(1,mQ C K i id)):=Z (by unfold aD;dsimp only;rw[if_neg (by decide),if_neg (by decide),if_neg (by decide),if_neg (by decide),if_pos rfl]);obtain⟨t0,t1,t2,t3,t4,t5,t6⟩:=A.1.c7;have s:=Z (sa i m id t n hid J F D G q.at_);rw[o]at s⊢;clear h u v I m n hid o;go_in
 go_wp2_with fail
 try rw[x]
 clear x;go_wp2_with fail
 refine s.mono ?_;rintro e w1 ⟨rfl,M,B,r,y⟩;have p:=Z (And.intro r y);clear r y;go_wp2
 go_ret;rw[E];exact⟨rfl,M,B,p.1,q.nx.trans p.2,fun h=>absurd rfl h⟩
theorem sf(i:Nat)(v:i<K.wk.length)(id:Int)(t:Thread)(y:aw K.ai id=some t)(hid:t.id=id)(M:aI id)(c:bN)(b A:Nat)(u:ak K c)(x:aS L Y c b A)(J:∀k,k<32->aI ((K.F c).r k))(a d f j g l:Int)(h:ae w χ L Y C K):
 Calls prog 162 #[(L.mb,0),(L.wb,i*38),(Y.bH id,0),(b,A),.agg #[.int .i64 56,a,d,f,.int .u64 j,g,l]] w (dM (aD C K i id c ⟨56,a,d,f,j,g,l⟩) χ L Y C K w):=by
 have H:=Z h;have O:=Z u;have Q:=Z x;have D:=Z v;obtain⟨S,z,P,m,B⟩:=h.pre 56 a d f j g l;have p:=Z (And.intro y hid);obtain⟨tb,o⟩:=nm (Y.bH id);have F:=Z o;have E:Hid (aD C K i id c ⟨56,a,d,f,j,g,l⟩=(0,dA C (cv K id) i)):=Z (by unfold aD;dsimp only;rw[if_neg (by decide),if_neg (by decide),if_neg (by decide),if_neg (by decide),if_neg (by decide),if_pos rfl]);obtain⟨t0,t1,t2,t3,t4,t5,t6⟩:=B.1.c7;have I:=m.at_.gv p.1;rw[p.2,F]at I;rw[o];clear h u x J v y hid o;go_in
 go_wp2_with fail
 try rw[z]
 clear z;go_wp2_with fail
 refine(fh id M m.at_).mono ?_;rintro e w1 ⟨rfl,T,R,r⟩;have q:=Z (m.trans (Gr.refl _) r);clear r;go_wp2_with fail
 refine(iC i (by exact D) q.at_).mono ?_;rintro e w2 ⟨rfl,N,G,s⟩;have n:=Z (q.trans (Gr.of_eq rfl) s);clear s;go_wp2
 go_ret;rw[E];exact⟨rfl,N,G,n.at_,n.nx,fun _=>n.yk⟩
theorem sg(i:Nat)(A:i<K.wk.length)(id:Int)(t:Thread)(n:aw K.ai id=some t)(hid:t.id=id)(a1:aI id)(c:bN)(b G:Nat)(z:ak K c)(B:aS L Y c b G)(Q:∀k,k<32->aI ((K.F c).r k))(d f g l j m:Int)(O:1<t.l.length)(P:t.l.length<=8)(a0:K.out.length<=800000)(h:ae w χ L Y C K):
 Calls prog 162 #[(L.mb,0),(L.wb,i*38),(Y.bH id,0),(b,G),.agg #[.int .i64 58,d,f,g,.int .u64 l,j,m]] w (dM (aD C K i id c ⟨58,d,f,g,l,j,m⟩) χ L Y C K w):=by
 have H:=Z h;have s:=Z z;have u:=Z B;have V:=Z A;obtain⟨I,D,U,a,M⟩:=h.pre 58 d f g l j m;have W:=Z (And.intro n hid);obtain⟨tb,o⟩:=nm (Y.bH id);have X:=Z o;obtain⟨y0,p⟩:∃y,(K.F c).r 0=y:=⟨_,rfl⟩;obtain⟨J,q⟩:∃y,(K.F c).r 1=y:=⟨_,rfl⟩;have R:=a.at_.aC s u 0 (by omega);have S:=a.at_.aC s u 1 (by omega);rw[p]at R;rw[q]at S;have E:Hid (aD C K i id c ⟨58,d,f,g,l,j,m⟩=(1,eD K id y0 J)):=Z (by unfold aD;dsimp only;rw[if_neg (by decide),if_neg (by decide),if_neg (by decide),if_neg (by decide),if_neg (by decide),if_neg (by decide),if_neg (by decide),if_pos rfl,p,q]);obtain⟨t0,t1,t2,t3,t4,t5,t6⟩:=M.1.c7;have x:=Z (hD (K:=K) id t n hid O P y0 J (by omega) a.at_.drew);rw[o]at x⊢;clear p q;clear h z B Q A n hid o;go_in
 go_wp2_with fail
 try rw[D]
 clear D;go_wp2
 go_still_tail 12,(by kernel_rfl)
 change wpList _ _ _ _ _ I.drew;go_wp2_with fail
 refine x.mono ?_;rintro e w1 ⟨rfl,T,N,v,F⟩;have r:=Z (And.intro v F);clear v F;go_wp2
 go_ret;rw[E];exact⟨rfl,T,N,r.1,a.nx.trans ((Nx.af (Ch.refl _ I).drew).trans r.2),fun h=>absurd rfl h⟩
theorem sh(i:Nat)(ap:i<K.wk.length)(id:Int)(t:Thread)(ax:aw K.ai id=some t)(hid:t.id=id)(cb:aI id)(c:bN)(b bi:Nat)(am:ak K c)(av:aS L Y c b bi)(z:∀k,k<32->aI ((K.F c).r k))(a f g o n r:Int)(c4:0<=a/\a<32)(hb:0<=f/\f<32)(c5:0<=g/\g<32)(c6:K.clock.Ok)(h:ae w χ L Y C K):
 Calls prog 162 #[(L.mb,0),(L.wb,i*38),(Y.bH id,0),(b,bi),.agg #[.int .i64 24,a,f,g,.int .u64 o,n,r]] w (dM (aD C K i id c ⟨24,a,f,g,o,n,r⟩) χ L Y C K w):=by
 have H:=Z h;have s:=Z am;have u:=Z av;have c9:=Z ap;obtain⟨W,A,c8,j,D⟩:=h.pre 24 a f g o n r;have m:=Z (And.intro ax hid);obtain⟨tb,Q⟩:=nm (Y.bH id);have a1:=Z Q;obtain⟨cl,cm⟩:=c4;obtain⟨X,S⟩:∃y,(K.F c).r a.toNat=y:=⟨_,rfl⟩;have F:=Z S;have a2:=Z (z a.toNat (by omega));rw[S]at a2;obtain⟨cd,ce⟩:=a2.out;clear S;obtain⟨cq,cr⟩:=hb;obtain⟨bx,T⟩:∃y,(K.F c).r f.toNat=y:=⟨_,rfl⟩;have G:=Z T;have a3:=Z (z f.toNat (by omega));rw[T]at a3;obtain⟨cf,ch⟩:=a3.out;clear T;obtain⟨cs,cA⟩:=c5;obtain⟨c0,U⟩:∃y,(K.F c).r g.toNat=y:=⟨_,rfl⟩;have I:=Z U;have ab:=Z (z g.toNat (by omega));rw[U]at ab;obtain⟨ci,ck⟩:=ab.out;clear U;obtain⟨p,O⟩:=nm (kK K.q id bx c0);obtain⟨ok,V⟩:=p;have a0:=Z O;obtain⟨t0,t1,t2,t3,t4,t5,t6⟩:=D.1.c7;have B:=j.at_.aC s u a.toNat (by omega);rw[F]at B;have bv:=j.at_.aC s u f.toNat (by omega);rw[G]at bv;have bw:=j.at_.aC s u g.toNat (by omega);rw[I]at bw;have x:=j.at_.gv m.1;rw[m.2,a1]at x;have k1:=j.at_.vK;have P:=Z (Fx (K:=K) id bx c0 j.at_.drew);rw[O]at P;clear O;rw[Q];clear h am av z ap ax hid Q;cases ok
 ·have E:Hid (aD C K i id c ⟨24,a,f,g,o,n,r⟩=(0,{K with q:=V})):=Z (by unfold aD;dsimp only;rw[if_pos rfl,G,I,a0];rfl)
  go_in
  go_wp2_with fail
  try rw[A]
  clear A;go_wp2
  go_still_tail 22,(by kernel_rfl)
  change wpList _ _ _ _ _ W.drew;go_wp2_with fail
  refine P.out.mono ?_;rintro e w1 ⟨⟨v,rfl,R⟩,c1,M,l⟩;obtain⟨tt,cC,rfl⟩:=R;have d:=Z ((j.af (Ch.refl _ _).drew).trans (Gr.of_eq rfl) l);clear l;go_wp2
  go_ret;rw[E];exact⟨rfl,c1,M,d.at_,d.nx,fun _=>d.yk⟩
 ·have E:Hid (aD C K i id c ⟨24,a,f,g,o,n,r⟩=(0,{K with q:=V,clock:=(K.clock.arm id X).2})):=Z (by unfold aD;dsimp only;rw[if_pos rfl,G,I,a0,F];rfl)
  go_in
  go_wp2_with fail
  try rw[A]
  clear A;go_wp2
  go_still_tail 22,(by kernel_rfl)
  change wpList _ _ _ _ _ W.drew;go_wp2_with fail
  refine P.out.mono ?_;rintro e w1 ⟨⟨v,rfl,R⟩,c1,M,l⟩;obtain rfl:v=.nilIface:=R;have d:=Z ((j.af (Ch.refl _ _).drew).trans (Gr.of_eq rfl) l);have c2:=Z (((Nx.af (Ch.refl _ W).drew).trans l.nx).row D.1 D.2);have N:=d.cur s u (Gr.of_eq rfl) rfl;have al:M.bH id=tb:=((d.yk id t m.1).1).trans a1;clear l t0 t1 t2 t3 t4 t5 t6 B bv bw k1 x;have B:=d.at_.aC N.1 N.2 a.toNat (by omega);rw[show(({K with q:=V}:KS).F c).r a.toNat=X from F.out]at B;have x:=d.at_.gv m.1;rw[m.2,al]at x;have k2:=d.at_.j1;obtain⟨t0,t1,t2,t3,t4,t5,t6⟩:=c2.1.c7;clear N al;go_wp2
  go_still_tail 15,(by kernel_rfl)
  change wpList _ _ _ _ _ w1.drew;go_wp2_with fail
  refine(Gz id X (by exact c6) d.at_.drew).mono ?_;rintro e w2 ⟨⟨v,rfl,_⟩,c7,c3,ad⟩;have J:=Z ((d.af (Ch.refl _ _).drew).trans (Gr.of_eq rfl) ad);clear ad;go_wp2
  go_ret;rw[E];exact⟨rfl,c7,c3,J.at_,J.nx,fun _=>J.yk⟩
end
end
section
section
variable{w:World}{χ:Nat->aX}{L:cz}{Y:Var}{C:KC}{K:KS}
theorem xJ(i:Nat)(c:bN)(b o:Nat)(t:ak K c)(u:aS L Y c b o)(n a d f j g k:Int)(H:0<=a/\a<32)(I:n=23∨n=41∨n=37∨n=40∨n=42∨n=29∨n=38∨n=39∨n=47)
 (z:∀w,ae w χ L Y C K->Calls prog 168 #[(L.mb,0),(L.wb,i*38),.int .u64 0,(b,o),aK ⟨n,a,d,f,j,g,k⟩] w (m2 (hW C K i 0 c ⟨n,a,d,f,j,g,k⟩) w)) (h:ae w χ L Y C K):
 Calls prog 142 #[(L.mb,0),(L.wb,i*38),.pointer none,(b,o),aK ⟨n,a,d,f,j,g,k⟩] w (dM (aB C K i none c ⟨n,a,d,f,j,g,k⟩) χ L Y C K w):=by
 have l:=Z z;have q:=Z t;have r:=Z u;unfold aK aG at l⊢;dsimp only at l⊢;obtain⟨O,B,Q,x,p⟩:=h.pre n a d f j g k;obtain⟨t0,t1,t2,t3,t4,t5,t6⟩:=p.1.c7;have E:Hid (aB C K i none c ⟨n,a,d,f,j,g,k⟩=(0,K.az c a.toNat (hW C K i 0 c ⟨n,a,d,f,j,g,k⟩))):=Z (by
  unfold aB;dsimp only;rw[if_neg (by omega),if_neg (by omega),if_neg (by omega),if_neg (by omega),if_neg (by omega),if_neg (by omega),if_neg (by omega),if_neg (by omega)];rfl)
 obtain⟨N,A⟩:=nm (hW C K i 0 c ⟨n,a,d,f,j,g,k⟩);rw[A]at E l;obtain⟨V,W⟩:=H;have J:b≠w.heap.size:=Nat.ne_of_lt (aP (h.aC t u a.toNat (by omega)));have T:=J.symm;clear h A t u z;rcases I with rfl|rfl|rfl|rfl|rfl|rfl|rfl|rfl|rfl
 all_goals
  go_in
  go_wp2
  try rw[B]
  clear B;go_region_held3 (p.1.c7) (go_keep) ((go_at_call 168;refine(l _ x.at_.drew).mono ?_;rintro e w1 ⟨rfl,y⟩;have v:Hid (Ch ag O w1):=Z (Ch.trans (Ch.refl _ _).drew y);have m:=Z (x.af v);have D:=Z (p.1.ch v id);clear y t0 t1 t2 t3 t4 t5 t6;(try clear R);obtain⟨t0,t1,t2,t3,t4,t5,t6⟩:=D.c7;have U:=m.at_.aC q r a.toNat (by omega);have S:=m.at_.hg q r (o+1+a.toNat);have G:=Z (m.at_.a9 q r a.toNat (by omega) N)))
 all_goals
  go_wp2
  go_ret;rw[E];obtain⟨P,F,M⟩:=G.out;have s:=m.trans (Gr.refl _) M;exact⟨rfl,P,F,s.at_,s.nx,fun _=>s.yk⟩
theorem xK(id:Int)(t:Thread)(D:aw K.ai id=some t)(hid:t.id=id)(i:Nat)(c:bN)(b o:Nat)(x:ak K c)(y:aS L Y c b o)(n a d f j g k:Int)(N:0<=a/\a<32)(O:n=23∨n=41∨n=37∨n=40∨n=42∨n=29∨n=38∨n=39∨n=47)
 (B:∀w,ae w χ L Y C K->Calls prog 168 #[(L.mb,0),(L.wb,i*38),.int .u64 id,(b,o),aK ⟨n,a,d,f,j,g,k⟩] w (m2 (hW C K i id c ⟨n,a,d,f,j,g,k⟩) w)) (h:ae w χ L Y C K):
 Calls prog 142 #[(L.mb,0),(L.wb,i*38),(Y.bH id,0),(b,o),aK ⟨n,a,d,f,j,g,k⟩] w (dM (aB C K i (some id) c ⟨n,a,d,f,j,g,k⟩) χ L Y C K w):=by
 have l:=Z B;have q:=Z x;have r:=Z y;unfold aK aG at l⊢;dsimp only at l⊢;obtain⟨S,H,U,s,p⟩:=h.pre n a d f j g k;obtain⟨t0,t1,t2,t3,t4,t5,t6⟩:=p.1.c7;have E:Hid (aB C K i (some id) c ⟨n,a,d,f,j,g,k⟩=(0,K.az c a.toNat (hW C K i id c ⟨n,a,d,f,j,g,k⟩))):=Z (by
  unfold aB;dsimp only;rw[if_neg (by omega),if_neg (by omega),if_neg (by omega),if_neg (by omega),if_neg (by omega),if_neg (by omega),if_neg (by omega),if_neg (by omega)];rfl)
 obtain⟨R,G⟩:=nm (hW C K i id c ⟨n,a,d,f,j,g,k⟩);rw[G]at E l;obtain⟨a0,a1⟩:=N;have P:b≠w.heap.size:=Nat.ne_of_lt (aP (h.aC x y a.toNat (by omega)));have W:=P.symm;have v:=s.at_.gv D;rw[hid]at v;obtain⟨tb,F⟩:=nm (Y.bH id);rw[F]at v⊢;clear F D hid;clear h G x y B;rcases O with rfl|rfl|rfl|rfl|rfl|rfl|rfl|rfl|rfl
 all_goals
  go_in
  go_wp2
  try rw[H]
  clear H;go_region_held3 (p.1.c7) (go_keep) ((go_at_call 168;refine(l _ s.at_.drew).mono ?_;rintro e w1 ⟨rfl,A⟩;have z:Hid (Ch ag S w1):=Z (Ch.trans (Ch.refl _ _).drew A);have m:=Z (s.af z);have I:=Z (p.1.ch z (fun h=>h));clear A t0 t1 t2 t3 t4 t5 t6;(try clear v);obtain⟨t0,t1,t2,t3,t4,t5,t6⟩:=I.c7;have X:=m.at_.aC q r a.toNat (by omega);have V:=m.at_.hg q r (o+1+a.toNat);have M:=Z (m.at_.a9 q r a.toNat (by omega) R)))
 all_goals
  go_wp2
  go_ret;rw[E];obtain⟨T,J,Q⟩:=M.out;have u:=m.trans (Gr.refl _) Q;exact⟨rfl,T,J,u.at_,u.nx,fun _=>u.yk⟩
end
end
end Go.Proofs.YtfnilkpkogipfaaGreatDoor
