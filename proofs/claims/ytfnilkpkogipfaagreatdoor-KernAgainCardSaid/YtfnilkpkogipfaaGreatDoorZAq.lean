import Derived.Test.YtfnilkpkogipfaaGreatDoorZAl
import Derived.Test.YtfnilkpkogipfaaGreatDoorZAm
set_option linter.all false
set_option maxRecDepth 100000
set_option maxHeartbeats 8000000
namespace Go.Proofs.YtfnilkpkogipfaaGreatDoor
open Go.RowKit Go.Proofs.Tryz
section
section
variable{w:World}{χ:Nat->aX}{L:cz}{Y:Var}{C:KC}{K:KS}
theorem uj(c:bN)(b o:Nat)(c3:ak K c)(c4:aS L Y c b o)(ax:∀k,k<32->aI ((K.F c).r k))(a i O Q P R:Int)(c9:0<=a/\a<32)(hb:0<=i/\i<32)(ap:K.blocks.Ok)(h:ae w χ L Y C K):
 Calls prog 165 #[(L.mb,0),(b,o),.agg #[.int .i64 43,a,i,O,.int .u64 Q,P,R]] w (dj (.tuple #[]) χ L Y C K (bh K c ⟨43,a,i,O,Q,P,R⟩) w):=by
 have H:=Z h;have l:=Z c3;have F:=Z c4;obtain⟨N,M,ch,U,B⟩:=h.pre 43 a i O Q P R;obtain⟨cA,cC⟩:=c9;obtain⟨bx,bi⟩:∃y,(K.F c).r a.toNat=y:=⟨_,rfl⟩;have ad:=Z bi;have c0:=Z (ax a.toNat (by omega));rw[bi]at c0;obtain⟨cm,cq⟩:=c0.out;clear bi;obtain⟨bw,cL⟩:=hb;obtain⟨al,bv⟩:∃y,(K.F c).r i.toNat=y:=⟨_,rfl⟩;have G:=Z bv;have c1:=Z (ax i.toNat (by omega));rw[bv]at c1;obtain⟨cr,cs⟩:=c1.out;clear bv;obtain⟨t0,t1,t2,t3,t4,t5,t6⟩:=B.1.c7;have f:=U.at_.aC l F a.toNat (by omega);rw[ad]at f;have u:=U.at_.aC l F i.toNat (by omega);rw[G]at u;clear h c3 c4 ax;by_cases av:al<=4096
 ·obtain⟨m,cb⟩:∃m:Nat,al=(m:Int):=⟨al.toNat,by omega⟩
  subst cb;obtain⟨p,c5⟩:=nm (dd K.blocks K.mem m);have T:=Z c5;clear c5;obtain⟨c8,B1,c2⟩:=p;cases c8 with
  |none=>
   have E:Hid (bh K c ⟨43,a,i,O,Q,P,R⟩=({K.az c a.toNat 0 with blocks:=B1,mem:=c2}:KS).az c a.toNat 0):=Z (by unfold bh;dsimp only;rw[if_pos rfl,if_pos bw,G,if_pos av,Int.toNat_natCast,cp,gw,T]);go_in
   go_wp2
   try rw[M]
   clear M;go_quiet (fail)
   obtain⟨w1,t⟩:=nm (N.drewN nq);have x:Hid (Ch ag N w1):=Z (by rw[<-t];exact(Ch.refl _ _).drewN nq);rw[t];clear t;have j:=Z (U.af x);have d:Hid (ak K c/\aS L Y c b o):=Z ⟨l,F⟩;have S:=Z ((Nx.af x).row B.1 B.2);clear t0 t1 t2 t3 t4 t5 t6 f u;obtain⟨t0,t1,t2,t3,t4,t5,t6⟩:=S.1.c7;have f:=j.at_.aC d.1 d.2 a.toNat (by omega);rw[show((K:KS).F c).r a.toNat=bx from ad.out]at f;have u:=j.at_.aC d.1 d.2 i.toNat (by omega);rw[show((K:KS).F c).r i.toNat=(m:Int)from G.out]at u;have a3:=f;have q:=j.at_.hg d.1 d.2 (o+1+a.toNat);have a1:=Z (fun w (h:ae w χ L Y C K)=>h.a9 d.1 d.2 a.toNat (by omega) 0);go_wp2
   go_quiet (fail)
   generalize A:w1.drewN _=w2;have r:=Z (Ch.dN (D:=ag) A);clear A;have f:=r.k f;have q:=(r.frozen (p:=⟨b,o+1+a.toNat,none⟩) (aP a3) id).trans q;have z:=Z (j.af r);obtain⟨ce,c6,I⟩:=a1 _ z.at_;have V:=Z (z.trans (Gr.refl _) I);have am:=I.at_.o4;clear I;go_wp2_with fail
   have J:=r2 (K:=K.az c a.toNat 0) m (by omega) (by rw[cp];exact ap) V.at_;rw[cp,gw,T]at J;refine J.mono ?_;clear J;rintro e w4 ⟨⟨v,rfl,cd⟩,cf,c7,X⟩;obtain⟨tt,cQ,rfl⟩:=cd;have s:=Z (V.trans (bu l _) X);have n:=Z (s.cur l F ((bu l _).trans (Gr.of_eq rfl)) (bq _ _));clear X f q am;have f:=s.at_.aC n.1 n.2 a.toNat (by omega);have q:=s.at_.hg n.1 n.2 (o+1+a.toNat);have a0:=Z (s.at_.a9 n.1 n.2 a.toNat (by omega) 0);go_wp2
   go_end0
   rw[E];obtain⟨ab,W,a2⟩:=a0.out;exact⟨rfl,ab,W,s.trans ((bu l _).trans (Gr.of_eq rfl)) a2⟩
  |some g=>
   have E:Hid (bh K c ⟨43,a,i,O,Q,P,R⟩=({K.az c a.toNat 0 with blocks:=B1,mem:=c2}:KS).az c a.toNat (g:Int)):=Z (by unfold bh;dsimp only;rw[if_pos rfl,if_pos bw,G,if_pos av,Int.toNat_natCast,cp,gw,T]);have ci:=m1 ap (show(dd K.blocks K.mem m).1=some g by rw[T]);have cl:IntKind.u64.wrap (g:Int)=g:=(by unfold IntKind.wrap IntKind.bits IntKind.signed;simp;omega);have ck:(g:Int)<=140000:=(by omega);go_in
   go_wp2
   try rw[M]
   clear M;go_quiet (fail)
   obtain⟨w1,t⟩:=nm (N.drewN nq);have x:Hid (Ch ag N w1):=Z (by rw[<-t];exact(Ch.refl _ _).drewN nq);rw[t];clear t;have j:=Z (U.af x);have d:Hid (ak K c/\aS L Y c b o):=Z ⟨l,F⟩;have S:=Z ((Nx.af x).row B.1 B.2);clear t0 t1 t2 t3 t4 t5 t6 f u;obtain⟨t0,t1,t2,t3,t4,t5,t6⟩:=S.1.c7;have f:=j.at_.aC d.1 d.2 a.toNat (by omega);rw[show((K:KS).F c).r a.toNat=bx from ad.out]at f;have u:=j.at_.aC d.1 d.2 i.toNat (by omega);rw[show((K:KS).F c).r i.toNat=(m:Int)from G.out]at u;have a3:=f;have q:=j.at_.hg d.1 d.2 (o+1+a.toNat);have a1:=Z (fun w (h:ae w χ L Y C K)=>h.a9 d.1 d.2 a.toNat (by omega) 0);go_wp2
   go_quiet (fail)
   generalize A:w1.drewN _=w2;have r:=Z (Ch.dN (D:=ag) A);clear A;have f:=r.k f;have q:=(r.frozen (p:=⟨b,o+1+a.toNat,none⟩) (aP a3) id).trans q;have z:=Z (j.af r);obtain⟨ce,c6,I⟩:=a1 _ z.at_;have V:=Z (z.trans (Gr.refl _) I);have am:=I.at_.o4;clear I;go_wp2_with fail
   have J:=r2 (K:=K.az c a.toNat 0) m (by omega) (by rw[cp];exact ap) V.at_;rw[cp,gw,T]at J;refine J.mono ?_;clear J;rintro e w4 ⟨rfl,cf,c7,X⟩;have s:=Z (V.trans (bu l _) X);have n:=Z (s.cur l F ((bu l _).trans (Gr.of_eq rfl)) (bq _ _));clear X f q am;have f:=s.at_.aC n.1 n.2 a.toNat (by omega);have q:=s.at_.hg n.1 n.2 (o+1+a.toNat);have a0:=Z (s.at_.a9 n.1 n.2 a.toNat (by omega) (g:Int));go_wp2
   go_end0
   rw[E];obtain⟨ab,W,a2⟩:=a0.out;exact⟨rfl,ab,W,s.trans ((bu l _).trans (Gr.of_eq rfl)) a2⟩
 ·have E:Hid (bh K c ⟨43,a,i,O,Q,P,R⟩=K.az c a.toNat 0):=Z (by unfold bh;dsimp only;rw[if_pos rfl,if_pos bw,G,if_neg av])
  go_in
  go_wp2
  try rw[M]
  clear M;go_quiet (fail)
  obtain⟨w1,t⟩:=nm (N.drewN nq);have x:Hid (Ch ag N w1):=Z (by rw[<-t];exact(Ch.refl _ _).drewN nq);rw[t];clear t;have j:=Z (U.af x);have d:Hid (ak K c/\aS L Y c b o):=Z ⟨l,F⟩;have S:=Z ((Nx.af x).row B.1 B.2);clear t0 t1 t2 t3 t4 t5 t6 f u;obtain⟨t0,t1,t2,t3,t4,t5,t6⟩:=S.1.c7;have f:=j.at_.aC d.1 d.2 a.toNat (by omega);rw[show((K:KS).F c).r a.toNat=bx from ad.out]at f;have u:=j.at_.aC d.1 d.2 i.toNat (by omega);rw[show((K:KS).F c).r i.toNat=al from G.out]at u;have a3:=f;have q:=j.at_.hg d.1 d.2 (o+1+a.toNat);have a1:=Z (fun w (h:ae w χ L Y C K)=>h.a9 d.1 d.2 a.toNat (by omega) 0);go_wp2
  go_quiet (fail)
  generalize A:w1.drewN _=w2;have r:=Z (Ch.dN (D:=ag) A);clear A;have f:=r.k f;have q:=(r.frozen (p:=⟨b,o+1+a.toNat,none⟩) (aP a3) id).trans q;have z:=Z (j.af r);have a0:=Z (a1 _ z.at_);go_wp2
  go_end0
  rw[E];obtain⟨ab,W,a2⟩:=a0.out;exact⟨rfl,ab,W,z.trans (Gr.refl _) a2⟩
theorem uk(c:bN)(b q:Nat)(al:ak K c)(am:aS L Y c b q)(av:∀k,k<32->aI ((K.F c).r k))(a F s G I:Int)(bw:0<=a/\a<32)(a1:aI s)(X:K.blocks.Ok)(h:ae w χ L Y C K):
 Calls prog 165 #[(L.mb,0),(b,q),.agg #[.int .i64 43,a,.int .i64 (-1),F,.int .u64 s,G,I]] w (dj (.tuple #[]) χ L Y C K (bh K c ⟨43,a,(-1),F,s,G,I⟩) w):=by
 have H:=Z h;have l:=Z al;have z:=Z am;obtain⟨D,B,c2,V,t⟩:=h.pre 43 a (-1) F s G I;obtain⟨cb,cd⟩:=bw;obtain⟨a3,a2⟩:∃y,(K.F c).r a.toNat=y:=⟨_,rfl⟩;have U:=Z a2;have ab:=Z (av a.toNat (by omega));rw[a2]at ab;obtain⟨c6,c7⟩:=ab.out;clear a2;obtain⟨t0,t1,t2,t3,t4,t5,t6⟩:=t.1.c7;have i:=V.at_.aC l z a.toNat (by omega);rw[U]at i;obtain⟨c8,c9⟩:=a1;clear h al am av;by_cases a0:s<=4096
 ·obtain⟨m,bx⟩:∃m:Nat,s=(m:Int):=⟨s.toNat,by omega⟩
  subst bx;obtain⟨p,ap⟩:=nm (dd K.blocks K.mem m);have M:=Z ap;clear ap;obtain⟨bv,B1,ad⟩:=p;cases bv with
  |none=>
   have E:Hid (bh K c ⟨43,a,(-1),F,(m:Int),G,I⟩=({K.az c a.toNat 0 with blocks:=B1,mem:=ad}:KS).az c a.toNat 0):=Z (by unfold bh;dsimp only;rw[if_pos rfl,if_neg (show¬(0:Int)<=-1 by decide),if_pos a0,Int.toNat_natCast,cp,gw,M]);go_in
   go_wp2
   try rw[B]
   clear B;go_quiet (fail)
   obtain⟨w1,o⟩:=nm (D.drewN nq);have r:Hid (Ch ag D w1):=Z (by rw[<-o];exact(Ch.refl _ _).drewN nq);rw[o];clear o;have f:=Z (V.af r);have d:Hid (ak K c/\aS L Y c b q):=Z ⟨l,z⟩;have J:=Z ((Nx.af r).row t.1 t.2);clear t0 t1 t2 t3 t4 t5 t6 i;obtain⟨t0,t1,t2,t3,t4,t5,t6⟩:=J.1.c7;have i:=f.at_.aC d.1 d.2 a.toNat (by omega);rw[show((K:KS).F c).r a.toNat=a3 from U.out]at i;have A:=f.at_.hg d.1 d.2 (q+1+a.toNat);have R:=Z (fun w (h:ae w χ L Y C K)=>h.a9 d.1 d.2 a.toNat (by omega) 0);obtain⟨c0,ax,u⟩:=R _ f.at_;have N:=Z (f.trans (Gr.refl _) u);have W:=u.at_.o4;clear u;go_wp2_with fail
   have x:=r2 (K:=K.az c a.toNat 0) m (by omega) (by rw[cp];exact X) N.at_;rw[cp,gw,M]at x;refine x.mono ?_;clear x;rintro e w4 ⟨⟨v,rfl,a1⟩,c1,bi,P⟩;obtain⟨tt,ce,rfl⟩:=a1;have n:=Z (N.trans (bu l _) P);have j:=Z (n.cur l z ((bu l _).trans (Gr.of_eq rfl)) (bq _ _));clear P i A W;have i:=n.at_.aC j.1 j.2 a.toNat (by omega);have A:=n.at_.hg j.1 j.2 (q+1+a.toNat);have Q:=Z (n.at_.a9 j.1 j.2 a.toNat (by omega) 0);go_wp2
   go_end0
   rw[E];obtain⟨T,O,S⟩:=Q.out;exact⟨rfl,T,O,n.trans ((bu l _).trans (Gr.of_eq rfl)) S⟩
  |some g=>
   have E:Hid (bh K c ⟨43,a,(-1),F,(m:Int),G,I⟩=({K.az c a.toNat 0 with blocks:=B1,mem:=ad}:KS).az c a.toNat (g:Int)):=Z (by unfold bh;dsimp only;rw[if_pos rfl,if_neg (show¬(0:Int)<=-1 by decide),if_pos a0,Int.toNat_natCast,cp,gw,M]);have c3:=m1 X (show(dd K.blocks K.mem m).1=some g by rw[M]);have c5:IntKind.u64.wrap (g:Int)=g:=(by unfold IntKind.wrap IntKind.bits IntKind.signed;simp;omega);have c4:(g:Int)<=140000:=(by omega);go_in
   go_wp2
   try rw[B]
   clear B;go_quiet (fail)
   obtain⟨w1,o⟩:=nm (D.drewN nq);have r:Hid (Ch ag D w1):=Z (by rw[<-o];exact(Ch.refl _ _).drewN nq);rw[o];clear o;have f:=Z (V.af r);have d:Hid (ak K c/\aS L Y c b q):=Z ⟨l,z⟩;have J:=Z ((Nx.af r).row t.1 t.2);clear t0 t1 t2 t3 t4 t5 t6 i;obtain⟨t0,t1,t2,t3,t4,t5,t6⟩:=J.1.c7;have i:=f.at_.aC d.1 d.2 a.toNat (by omega);rw[show((K:KS).F c).r a.toNat=a3 from U.out]at i;have A:=f.at_.hg d.1 d.2 (q+1+a.toNat);have R:=Z (fun w (h:ae w χ L Y C K)=>h.a9 d.1 d.2 a.toNat (by omega) 0);obtain⟨c0,ax,u⟩:=R _ f.at_;have N:=Z (f.trans (Gr.refl _) u);have W:=u.at_.o4;clear u;go_wp2_with fail
   have x:=r2 (K:=K.az c a.toNat 0) m (by omega) (by rw[cp];exact X) N.at_;rw[cp,gw,M]at x;refine x.mono ?_;clear x;rintro e w4 ⟨rfl,c1,bi,P⟩;have n:=Z (N.trans (bu l _) P);have j:=Z (n.cur l z ((bu l _).trans (Gr.of_eq rfl)) (bq _ _));clear P i A W;have i:=n.at_.aC j.1 j.2 a.toNat (by omega);have A:=n.at_.hg j.1 j.2 (q+1+a.toNat);have Q:=Z (n.at_.a9 j.1 j.2 a.toNat (by omega) (g:Int));go_wp2
   go_end0
   rw[E];obtain⟨T,O,S⟩:=Q.out;exact⟨rfl,T,O,n.trans ((bu l _).trans (Gr.of_eq rfl)) S⟩
 ·have E:Hid (bh K c ⟨43,a,(-1),F,s,G,I⟩=K.az c a.toNat 0):=Z (by unfold bh;dsimp only;rw[if_pos rfl,if_neg (show¬(0:Int)<=-1 by decide),if_neg a0])
  go_in
  go_wp2
  try rw[B]
  clear B;go_quiet (fail)
  obtain⟨w1,o⟩:=nm (D.drewN nq);have r:Hid (Ch ag D w1):=Z (by rw[<-o];exact(Ch.refl _ _).drewN nq);rw[o];clear o;have f:=Z (V.af r);have d:Hid (ak K c/\aS L Y c b q):=Z ⟨l,z⟩;have J:=Z ((Nx.af r).row t.1 t.2);clear t0 t1 t2 t3 t4 t5 t6 i;obtain⟨t0,t1,t2,t3,t4,t5,t6⟩:=J.1.c7;have i:=f.at_.aC d.1 d.2 a.toNat (by omega);rw[show((K:KS).F c).r a.toNat=a3 from U.out]at i;have A:=f.at_.hg d.1 d.2 (q+1+a.toNat);have R:=Z (fun w (h:ae w χ L Y C K)=>h.a9 d.1 d.2 a.toNat (by omega) 0);have Q:=Z (R _ f.at_);go_wp2
  go_end0
  rw[E];obtain⟨T,O,S⟩:=Q.out;exact⟨rfl,T,O,f.trans (Gr.refl _) S⟩
end
end
section
section
variable{w:World}{χ:Nat->aX}{L:cz}{Y:Var}{C:KC}{K:KS}
def b1(K:KS)(pid v:Int):KS:=if(aw K.ai pid).isSome then K.cn pid {K.T pid with eU:=v}else K
theorem hE{pid:Int}{t:Thread}(h:aw K.ai pid=some t)(v:Int):b1 K pid v=K.cn pid {t with eU:=v}:=by unfold b1;rw[if_pos (by rw[h];rfl),KS.dk h]
theorem hG{pid:Int}(h:aw K.ai pid=none)(v:Int):b1 K pid v=K:=by unfold b1;rw[if_neg (by rw[h];simp)]
theorem gZ(i:Nat)(c:bN)(d g h m l n:Int){b e pid:Int}{f:Bool}{a:List (List fO)}(hb:(K.F c).r g.toNat=b)(j:(K.F c).r h.toNat=e)(k:eJ K.q b e=(pid,f,a)):
 bk K i c ⟨25,d,g,h,m,l,n⟩=if f then(if cE (b1 {K with q:=a,clock:=(K.clock.bp pid).2} pid 0) pid=3 then eo (b1 {K with q:=a,clock:=(K.clock.bp pid).2} pid 0) i pid else(b1 {K with q:=a,clock:=(K.clock.bp pid).2} pid 0)).az c d.toNat pid else({K with q:=a}:KS).az c d.toNat 0:=by
 unfold bk;dsimp only;rw[if_pos rfl,hb,j,k];rfl
theorem um(q:List (List fO))(a m:Int):(eJ q a m).2.1=false->(eJ q a m).1=0:=by
 unfold eJ;split
 ·exact fun _=>rfl
 ·intro h;cases h
theorem qM{id:Int}{t b:Thread}(d:aw K.ai id=some t)(c:t.l.length<=b.l.length):Gr K (K.cn id b):=by
 intro j u a;show∃v,aw (b8 K.ai id b) j=some v/\_
 rw[aV];by_cases e:j=id
 ·subst e
  rw[d]at a;injection a with a;subst a
  rw[if_pos rfl];exact⟨_,rfl,c⟩
 ·rw[if_neg e];exact⟨u,a,Nat.le_refl _⟩
theorem sp(i:Nat)(fd:i<K.wk.length)(c:bN)(b X:Nat)(eW:ak K c)(fn:aS L Y c b X)(cS:∀k,k<32->aI ((K.F c).r k))(a g j a1 a0 a2:Int)(fz:0<=a/\a<32)(hb:0<=g/\g<32)(gc:0<=j/\j<32)(fb:K.clock.Ok)(ch:aI (eJ K.q ((K.F c).r g.toNat) ((K.F c).r j.toNat)).1)(h:ae w χ L Y C K):
 Calls prog 167 #[(L.mb,0),(L.wb,i*38),(b,X),.agg #[.int .i64 25,a,g,j,.int .u64 a1,a0,a2]] w (dj (.tuple #[]) χ L Y C K (bk K i c ⟨25,a,g,j,a1,a0,a2⟩) w):=by
 have H:=Z h;have o:=Z eW;have r:=Z fn;have eA:=Z fd;obtain⟨bv,bi,gk,c2,a3⟩:=h.pre 25 a g j a1 a0 a2;obtain⟨hf,hi⟩:=fz;obtain⟨cs,ec⟩:∃y,(K.F c).r a.toNat=y:=⟨_,rfl⟩;have c9:=Z ec;have eC:=Z (cS a.toNat (by omega));rw[ec]at eC;obtain⟨go,gr⟩:=eC.out;clear ec;obtain⟨hl,hm⟩:=hb;obtain⟨c5,en⟩:∃y,(K.F c).r g.toNat=y:=⟨_,rfl⟩;have V:=Z en;have eL:=Z (cS g.toNat (by omega));rw[en]at eL;obtain⟨gs,gt⟩:=eL.out;clear en;obtain⟨hn,hu⟩:=gc;obtain⟨c6,es⟩:∃y,(K.F c).r j.toNat=y:=⟨_,rfl⟩;have W:=Z es;have eS:=Z (cS j.toNat (by omega));rw[es]at eS;obtain⟨hd,he⟩:=eS.out;clear es;obtain⟨t0,t1,t2,t3,t4,t5,t6⟩:=a3.1.c7;have l:=c2.at_.aC o r a.toNat (by omega);rw[c9]at l;have v:=c2.at_.aC o r g.toNat (by omega);rw[V]at v;have x:=c2.at_.aC o r j.toNat (by omega);rw[W]at x;rw[V,W]at ch;obtain⟨p,cQ⟩:=nm (eJ K.q c5 c6);have ce:=Z cQ;have c8:=Z (fun w h=>D4 (K:=K) (w:=w) (χ:=χ) (L:=L) (Y:=Y) (C:=C) c5 c6 h);have U:p.2.1=false->p.1=0:=by rw[<-cQ];exact um _ _ _
 rw[cQ]at c8 ch;clear cQ;obtain⟨pid,ge,av⟩:=p;dsimp only at U ch;have c7:=Z ch;have cA:=Z fb;clear ch fb;clear h eW fn cS fd;cases ge
 ·obtain rfl:pid=0:=U rfl
  have E:Hid (bk K i c ⟨25,a,g,j,a1,a0,a2⟩=({K with q:=av}:KS).az c a.toNat 0):=Z (by unfold bk;dsimp only;rw[if_pos rfl,V,W,ce];rfl);go_in
  go_wp2
  try rw[bi]
  clear bi;go_quiet (fail)
  obtain⟨w1,D⟩:=nm (bv.drewN nq);have P:Hid (Ch ag bv w1):=Z (by rw[<-D];exact(Ch.refl _ _).drewN nq);rw[D];clear D;have d:=Z (c2.af P);have f:Hid (ak K c/\aS L Y c b X):=Z ⟨o,r⟩;have z:=Z ((Nx.af P).row a3.1 a3.2);clear t0 t1 t2 t3 t4 t5 t6 l v x;obtain⟨t0,t1,t2,t3,t4,t5,t6⟩:=z.1.c7;have l:=d.at_.aC f.1 f.2 a.toNat (by omega);rw[show((K:KS).F c).r a.toNat=cs from c9.out]at l;have v:=d.at_.aC f.1 f.2 g.toNat (by omega);rw[show((K:KS).F c).r g.toNat=c5 from V.out]at v;have x:=d.at_.aC f.1 f.2 j.toNat (by omega);rw[show((K:KS).F c).r j.toNat=c6 from W.out]at x;have k1:=d.at_.vK;go_wp2_with fail
  refine(c8 _ d.at_).mono ?_;rintro e w2 ⟨rfl,dr,cC,A⟩;have m:=Z (d.trans (Gr.refl _) A);have F:=Z (A.nx.row z.1 z.2);have ax:=Z (m.cur o r (Gr.of_eq rfl) (rfl));clear A;clear v x;clear t0 t1 t2 t3 t4 t5 t6 l k1;obtain⟨t0,t1,t2,t3,t4,t5,t6⟩:=F.1.c7;have l:=m.at_.aC ax.1 ax.2 a.toNat (by omega);have cL:=m.at_.hg ax.1 ax.2 (X+1+a.toNat);have u:=Z (m.at_.drew.a9 ax.1 ax.2 a.toNat (by omega) 0);have bw:Hid (Gr K _):=Z (Gr.of_eq rfl);go_wp2
  go_still_tail 6,(by kernel_rfl)
  change wpList _ _ _ _ _ w2.drew;go_wp2
  go_end0
  rw[E];obtain⟨c1,c0,U⟩:=u.out;exact⟨rfl,c1,c0,(m.af (Ch.refl _ _).drew).trans bw U⟩
 ·clear U
  cases cW:aw K.ai pid with
  |none=>
   have Q:=Z cW;clear cW;obtain⟨s,ap⟩:=mn (({K with q:=av,clock:=(K.clock.bp pid).2}:KS));have cb:=Z ap;have cd:Hid (s=b1 ({K with q:=av,clock:=(K.clock.bp pid).2}:KS) pid 0):=Z (by rw[ap];exact(hG (by exact Q) 0).symm);have S:Hid (Gr K s):=Z (by rw[ap];exact Gr.of_eq rfl);have bx:Hid (s.wk.length=K.wk.length):=Z (by rw[ap];try rfl);clear ap;by_cases I:cE s pid=3
   ·have al:=Z I
    clear I;have E:Hid (bk K i c ⟨25,a,g,j,a1,a0,a2⟩=(eo s i pid).az c a.toNat pid):=Z (by rw[gZ i c a g j a1 a0 a2 V W ce,if_pos rfl,<-cd,if_pos al.out]);go_in
    go_wp2
    try rw[bi]
    clear bi;go_quiet (fail)
    obtain⟨w1,D⟩:=nm (bv.drewN nq);have P:Hid (Ch ag bv w1):=Z (by rw[<-D];exact(Ch.refl _ _).drewN nq);rw[D];clear D;have d:=Z (c2.af P);have f:Hid (ak K c/\aS L Y c b X):=Z ⟨o,r⟩;have z:=Z ((Nx.af P).row a3.1 a3.2);clear t0 t1 t2 t3 t4 t5 t6 l v x;obtain⟨t0,t1,t2,t3,t4,t5,t6⟩:=z.1.c7;have l:=d.at_.aC f.1 f.2 a.toNat (by omega);rw[show((K:KS).F c).r a.toNat=cs from c9.out]at l;have v:=d.at_.aC f.1 f.2 g.toNat (by omega);rw[show((K:KS).F c).r g.toNat=c5 from V.out]at v;have x:=d.at_.aC f.1 f.2 j.toNat (by omega);rw[show((K:KS).F c).r j.toNat=c6 from W.out]at x;have k1:=d.at_.vK;go_wp2_with fail
    refine(c8 _ d.at_).mono ?_;rintro e w2 ⟨rfl,dr,cC,A⟩;have m:=Z (d.trans (Gr.refl _) A);have F:=Z (A.nx.row z.1 z.2);have ax:=Z (m.cur o r (Gr.of_eq rfl) (rfl));clear A;clear v x;clear t0 t1 t2 t3 t4 t5 t6 l k1;obtain⟨t0,t1,t2,t3,t4,t5,t6⟩:=F.1.c7;have k1:=m.at_.j1;go_wp2_with fail
    refine(kU pid (by exact cA) m.at_).mono ?_;rintro e w3 ⟨rfl,ex,cf,N⟩;have n:=Z (m.trans (Gr.of_eq rfl) N);have R:=Z (N.nx.row F.1 F.2);have dN:=Z (n.cur o r (Gr.of_eq rfl) (rfl));clear N;clear t0 t1 t2 t3 t4 t5 t6 k1;obtain⟨t0,t1,t2,t3,t4,t5,t6⟩:=R.1.c7;have k1:=n.at_.hZ;have B:=n.at_.look pid;rw[show aw (({K with q:=av,clock:=(K.clock.bp pid).2}:KS)).ai pid=_ from Q.out]at B;dsimp only[Option.map,Option.getD]at B;go_wp2_with fail
    clear B;have G:=n;rw[<-cb]at G;have ab:=R;have c3:=Z (G.cur o r S bx);clear t0 t1 t2 t3 t4 t5 t6 k1;refine(db (K:=s) pid c7 G.at_).mono ?_;rintro e cr ⟨rfl,O⟩;have J:=Z (G.af O);have ad:=Z ((Nx.af O).row ab.1 ab.2);have M:=c3;clear O;have I:=al.out;obtain⟨t0,t1,t2,t3,t4,t5,t6⟩:=ad.1.c7;rw[I];go_wp2_with fail
    refine(lO (K:=s) i (by rw[bx];exact eA) pid c7 J.at_).mono ?_;rintro e et ⟨rfl,gf,fr,c4⟩;have am:=Z (J.trans (S) c4);have dC:=Z (c4.nx.row ad.1 ad.2);have T:=Z (am.cur o r (S.trans (dT _ _ _)) (by rw[fE,bx]));clear c4;clear t0 t1 t2 t3 t4 t5 t6;obtain⟨t0,t1,t2,t3,t4,t5,t6⟩:=dC.1.c7;have l:=am.at_.aC T.1 T.2 a.toNat (by omega);have cL:=am.at_.hg T.1 T.2 (X+1+a.toNat);have u:=Z (am.at_.drew.a9 T.1 T.2 a.toNat (by omega) pid);have bw:Hid (Gr K _):=Z (S.trans (dT s i pid));go_wp2
    go_still_tail 6,(by kernel_rfl)
    change wpList _ _ _ _ _ et.drew;go_wp2
    go_end0
    rw[E];obtain⟨c1,c0,U⟩:=u.out;exact⟨rfl,c1,c0,(am.af (Ch.refl _ _).drew).trans bw U⟩
   ·have al:=Z I
    clear I;have E:Hid (bk K i c ⟨25,a,g,j,a1,a0,a2⟩=(s).az c a.toNat pid):=Z (by rw[gZ i c a g j a1 a0 a2 V W ce,if_pos rfl,<-cd,if_neg al.out]);go_in
    go_wp2
    try rw[bi]
    clear bi;go_quiet (fail)
    obtain⟨w1,D⟩:=nm (bv.drewN nq);have P:Hid (Ch ag bv w1):=Z (by rw[<-D];exact(Ch.refl _ _).drewN nq);rw[D];clear D;have d:=Z (c2.af P);have f:Hid (ak K c/\aS L Y c b X):=Z ⟨o,r⟩;have z:=Z ((Nx.af P).row a3.1 a3.2);clear t0 t1 t2 t3 t4 t5 t6 l v x;obtain⟨t0,t1,t2,t3,t4,t5,t6⟩:=z.1.c7;have l:=d.at_.aC f.1 f.2 a.toNat (by omega);rw[show((K:KS).F c).r a.toNat=cs from c9.out]at l;have v:=d.at_.aC f.1 f.2 g.toNat (by omega);rw[show((K:KS).F c).r g.toNat=c5 from V.out]at v;have x:=d.at_.aC f.1 f.2 j.toNat (by omega);rw[show((K:KS).F c).r j.toNat=c6 from W.out]at x;have k1:=d.at_.vK;go_wp2_with fail
    refine(c8 _ d.at_).mono ?_;rintro e w2 ⟨rfl,dr,cC,A⟩;have m:=Z (d.trans (Gr.refl _) A);have F:=Z (A.nx.row z.1 z.2);have ax:=Z (m.cur o r (Gr.of_eq rfl) (rfl));clear A;clear v x;clear t0 t1 t2 t3 t4 t5 t6 l k1;obtain⟨t0,t1,t2,t3,t4,t5,t6⟩:=F.1.c7;have k1:=m.at_.j1;go_wp2_with fail
    refine(kU pid (by exact cA) m.at_).mono ?_;rintro e w3 ⟨rfl,ex,cf,N⟩;have n:=Z (m.trans (Gr.of_eq rfl) N);have R:=Z (N.nx.row F.1 F.2);have dN:=Z (n.cur o r (Gr.of_eq rfl) (rfl));clear N;clear t0 t1 t2 t3 t4 t5 t6 k1;obtain⟨t0,t1,t2,t3,t4,t5,t6⟩:=R.1.c7;have k1:=n.at_.hZ;have B:=n.at_.look pid;rw[show aw (({K with q:=av,clock:=(K.clock.bp pid).2}:KS)).ai pid=_ from Q.out]at B;dsimp only[Option.map,Option.getD]at B;go_wp2_with fail
    clear B;have G:=n;rw[<-cb]at G;have ab:=R;have c3:=Z (G.cur o r S bx);clear t0 t1 t2 t3 t4 t5 t6 k1;refine(db (K:=s) pid c7 G.at_).mono ?_;rintro e cr ⟨rfl,O⟩;have J:=Z (G.af O);have ad:=Z ((Nx.af O).row ab.1 ab.2);have M:=c3;clear O;have I:=al.out;obtain⟨t0,t1,t2,t3,t4,t5,t6⟩:=ad.1.c7;have l:=J.at_.aC M.1 M.2 a.toNat (by omega);obtain⟨st,ci⟩:=nm (cE s pid);rw[ci]at I⊢;clear ci;go_wp2
    have cL:=J.at_.hg M.1 M.2 (X+1+a.toNat);have u:=Z (J.at_.drew.a9 M.1 M.2 a.toNat (by omega) pid);have bw:Hid (Gr K _):=Z (S);go_still_tail 6,(by kernel_rfl)
    change wpList _ _ _ _ _ cr.drew;go_wp2
    go_end0
    rw[E];obtain⟨c1,c0,U⟩:=u.out;exact⟨rfl,c1,c0,(J.af (Ch.refl _ _).drew).trans bw U⟩
  |some t=>
   have Q:=Z cW;clear cW;obtain⟨s,ap⟩:=mn ((({K with q:=av,clock:=(K.clock.bp pid).2}:KS).cn pid {t with eU:=0}));have cb:=Z ap;have cd:Hid (s=b1 ({K with q:=av,clock:=(K.clock.bp pid).2}:KS) pid 0):=Z (by rw[ap];exact(hE (by exact Q) 0).symm);have S:Hid (Gr K s):=Z (by rw[ap];exact Gr.trans (K1:=({K with q:=av,clock:=(K.clock.bp pid).2}:KS)) (Gr.of_eq rfl) (qM (K:=({K with q:=av,clock:=(K.clock.bp pid).2}:KS)) (t:=t) (by exact Q) (Nat.le_refl _)));have bx:Hid (s.wk.length=K.wk.length):=Z (by rw[ap];try rfl);clear ap;by_cases I:cE s pid=3
   ·have al:=Z I
    clear I;have E:Hid (bk K i c ⟨25,a,g,j,a1,a0,a2⟩=(eo s i pid).az c a.toNat pid):=Z (by rw[gZ i c a g j a1 a0 a2 V W ce,if_pos rfl,<-cd,if_pos al.out]);go_in
    go_wp2
    try rw[bi]
    clear bi;go_quiet (fail)
    obtain⟨w1,D⟩:=nm (bv.drewN nq);have P:Hid (Ch ag bv w1):=Z (by rw[<-D];exact(Ch.refl _ _).drewN nq);rw[D];clear D;have d:=Z (c2.af P);have f:Hid (ak K c/\aS L Y c b X):=Z ⟨o,r⟩;have z:=Z ((Nx.af P).row a3.1 a3.2);clear t0 t1 t2 t3 t4 t5 t6 l v x;obtain⟨t0,t1,t2,t3,t4,t5,t6⟩:=z.1.c7;have l:=d.at_.aC f.1 f.2 a.toNat (by omega);rw[show((K:KS).F c).r a.toNat=cs from c9.out]at l;have v:=d.at_.aC f.1 f.2 g.toNat (by omega);rw[show((K:KS).F c).r g.toNat=c5 from V.out]at v;have x:=d.at_.aC f.1 f.2 j.toNat (by omega);rw[show((K:KS).F c).r j.toNat=c6 from W.out]at x;have k1:=d.at_.vK;go_wp2_with fail
    refine(c8 _ d.at_).mono ?_;rintro e w2 ⟨rfl,dr,cC,A⟩;have m:=Z (d.trans (Gr.refl _) A);have F:=Z (A.nx.row z.1 z.2);have ax:=Z (m.cur o r (Gr.of_eq rfl) (rfl));clear A;clear v x;clear t0 t1 t2 t3 t4 t5 t6 l k1;obtain⟨t0,t1,t2,t3,t4,t5,t6⟩:=F.1.c7;have k1:=m.at_.j1;go_wp2_with fail
    refine(kU pid (by exact cA) m.at_).mono ?_;rintro e w3 ⟨rfl,ex,cf,N⟩;have n:=Z (m.trans (Gr.of_eq rfl) N);have R:=Z (N.nx.row F.1 F.2);have dN:=Z (n.cur o r (Gr.of_eq rfl) (rfl));clear N;clear t0 t1 t2 t3 t4 t5 t6 k1;obtain⟨t0,t1,t2,t3,t4,t5,t6⟩:=R.1.c7;have k1:=n.at_.hZ;have B:=n.at_.look pid;rw[show aw (({K with q:=av,clock:=(K.clock.bp pid).2}:KS)).ai pid=_ from Q.out]at B;dsimp only[Option.map,Option.getD]at B;unfold bj at B;have cm:=n.at_.Fu (id:=pid) (t:=t) (by exact Q);have cq:=n.at_.r4 (id:=pid) (t:=t) (by exact Q) 2;have u:=Z (n.at_.hh (id:=pid) (t:=t) (by exact Q) 0);obtain⟨tb,ck⟩:=nm (cf.bH pid);rw[ck]at B cm cq u;clear ck;go_wp2_with fail
    obtain⟨w4,cl⟩:=nm (w3.setCell (tb,2) (.int .u64 0));rw[cl]at u⊢;clear cl cm cq B;rw[<-cb]at u;have G:=Z (n.trans (Gr.of_eq rfl) u);have ab:=Z (u.nx.row R.1 R.2);clear u;have c3:=Z (G.cur o r S bx);clear t0 t1 t2 t3 t4 t5 t6 k1;refine(db (K:=s) pid c7 G.at_).mono ?_;rintro e cr ⟨rfl,O⟩;have J:=Z (G.af O);have ad:=Z ((Nx.af O).row ab.1 ab.2);have M:=c3;clear O;have I:=al.out;obtain⟨t0,t1,t2,t3,t4,t5,t6⟩:=ad.1.c7;rw[I];go_wp2_with fail
    refine(lO (K:=s) i (by rw[bx];exact eA) pid c7 J.at_).mono ?_;rintro e et ⟨rfl,gf,fr,c4⟩;have am:=Z (J.trans (S) c4);have dC:=Z (c4.nx.row ad.1 ad.2);have T:=Z (am.cur o r (S.trans (dT _ _ _)) (by rw[fE,bx]));clear c4;clear t0 t1 t2 t3 t4 t5 t6;obtain⟨t0,t1,t2,t3,t4,t5,t6⟩:=dC.1.c7;have l:=am.at_.aC T.1 T.2 a.toNat (by omega);have cL:=am.at_.hg T.1 T.2 (X+1+a.toNat);have u:=Z (am.at_.drew.a9 T.1 T.2 a.toNat (by omega) pid);have bw:Hid (Gr K _):=Z (S.trans (dT s i pid));go_wp2
    go_still_tail 6,(by kernel_rfl)
    change wpList _ _ _ _ _ et.drew;go_wp2
    go_end0
    rw[E];obtain⟨c1,c0,U⟩:=u.out;exact⟨rfl,c1,c0,(am.af (Ch.refl _ _).drew).trans bw U⟩
   ·have al:=Z I
    clear I;have E:Hid (bk K i c ⟨25,a,g,j,a1,a0,a2⟩=(s).az c a.toNat pid):=Z (by rw[gZ i c a g j a1 a0 a2 V W ce,if_pos rfl,<-cd,if_neg al.out]);go_in
    go_wp2
    try rw[bi]
    clear bi;go_quiet (fail)
    obtain⟨w1,D⟩:=nm (bv.drewN nq);have P:Hid (Ch ag bv w1):=Z (by rw[<-D];exact(Ch.refl _ _).drewN nq);rw[D];clear D;have d:=Z (c2.af P);have f:Hid (ak K c/\aS L Y c b X):=Z ⟨o,r⟩;have z:=Z ((Nx.af P).row a3.1 a3.2);clear t0 t1 t2 t3 t4 t5 t6 l v x;obtain⟨t0,t1,t2,t3,t4,t5,t6⟩:=z.1.c7;have l:=d.at_.aC f.1 f.2 a.toNat (by omega);rw[show((K:KS).F c).r a.toNat=cs from c9.out]at l;have v:=d.at_.aC f.1 f.2 g.toNat (by omega);rw[show((K:KS).F c).r g.toNat=c5 from V.out]at v;have x:=d.at_.aC f.1 f.2 j.toNat (by omega);rw[show((K:KS).F c).r j.toNat=c6 from W.out]at x;have k1:=d.at_.vK;go_wp2_with fail
    refine(c8 _ d.at_).mono ?_;rintro e w2 ⟨rfl,dr,cC,A⟩;have m:=Z (d.trans (Gr.refl _) A);have F:=Z (A.nx.row z.1 z.2);have ax:=Z (m.cur o r (Gr.of_eq rfl) (rfl));clear A;clear v x;clear t0 t1 t2 t3 t4 t5 t6 l k1;obtain⟨t0,t1,t2,t3,t4,t5,t6⟩:=F.1.c7;have k1:=m.at_.j1;go_wp2_with fail
    refine(kU pid (by exact cA) m.at_).mono ?_;rintro e w3 ⟨rfl,ex,cf,N⟩;have n:=Z (m.trans (Gr.of_eq rfl) N);have R:=Z (N.nx.row F.1 F.2);have dN:=Z (n.cur o r (Gr.of_eq rfl) (rfl));clear N;clear t0 t1 t2 t3 t4 t5 t6 k1;obtain⟨t0,t1,t2,t3,t4,t5,t6⟩:=R.1.c7;have k1:=n.at_.hZ;have B:=n.at_.look pid;rw[show aw (({K with q:=av,clock:=(K.clock.bp pid).2}:KS)).ai pid=_ from Q.out]at B;dsimp only[Option.map,Option.getD]at B;unfold bj at B;have cm:=n.at_.Fu (id:=pid) (t:=t) (by exact Q);have cq:=n.at_.r4 (id:=pid) (t:=t) (by exact Q) 2;have u:=Z (n.at_.hh (id:=pid) (t:=t) (by exact Q) 0);obtain⟨tb,ck⟩:=nm (cf.bH pid);rw[ck]at B cm cq u;clear ck;go_wp2_with fail
    obtain⟨w4,cl⟩:=nm (w3.setCell (tb,2) (.int .u64 0));rw[cl]at u⊢;clear cl cm cq B;rw[<-cb]at u;have G:=Z (n.trans (Gr.of_eq rfl) u);have ab:=Z (u.nx.row R.1 R.2);clear u;have c3:=Z (G.cur o r S bx);clear t0 t1 t2 t3 t4 t5 t6 k1;refine(db (K:=s) pid c7 G.at_).mono ?_;rintro e cr ⟨rfl,O⟩;have J:=Z (G.af O);have ad:=Z ((Nx.af O).row ab.1 ab.2);have M:=c3;clear O;have I:=al.out;obtain⟨t0,t1,t2,t3,t4,t5,t6⟩:=ad.1.c7;have l:=J.at_.aC M.1 M.2 a.toNat (by omega);obtain⟨st,ci⟩:=nm (cE s pid);rw[ci]at I⊢;clear ci;go_wp2
    have cL:=J.at_.hg M.1 M.2 (X+1+a.toNat);have u:=Z (J.at_.drew.a9 M.1 M.2 a.toNat (by omega) pid);have bw:Hid (Gr K _):=Z (S);go_still_tail 6,(by kernel_rfl)
    change wpList _ _ _ _ _ cr.drew;go_wp2
    go_end0
    rw[E];obtain⟨c1,c0,U⟩:=u.out;exact⟨rfl,c1,c0,(J.af (Ch.refl _ _).drew).trans bw U⟩
theorem sq(i:Nat)(bv:i<K.wk.length)(c:bN)(b u:Nat)(bi:ak K c)(bw:aS L Y c b u)(O:∀k,k<32->aI ((K.F c).r k))(a f g M J N:Int)(c1:0<=a/\a<32)(hb:0<=f/\f<32)(c2:0<=g/\g<32)(h:ae w χ L Y C K):
 Calls prog 167 #[(L.mb,0),(L.wb,i*38),(b,u),.agg #[.int .i64 27,a,f,g,.int .u64 M,J,N]] w (dj (.tuple #[]) χ L Y C K (bk K i c ⟨27,a,f,g,M,J,N⟩) w):=by
 have H:=Z h;have x:=Z bi;have B:=Z bw;have c4:=Z bv;obtain⟨Q,P,c3,G,v⟩:=h.pre 27 a f g M J N;obtain⟨cd,ce⟩:=c1;obtain⟨bx,a2⟩:∃y,(K.F c).r a.toNat=y:=⟨_,rfl⟩;have W:=Z a2;have ap:=Z (O a.toNat (by omega));rw[a2]at ap;obtain⟨c5,c6⟩:=ap.out;clear a2;obtain⟨cf,ch⟩:=hb;obtain⟨R,a3⟩:∃y,(K.F c).r f.toNat=y:=⟨_,rfl⟩;have D:=Z a3;have av:=Z (O f.toNat (by omega));rw[a3]at av;obtain⟨c7,c8⟩:=av.out;clear a3;obtain⟨ci,ck⟩:=c2;obtain⟨S,ab⟩:∃y,(K.F c).r g.toNat=y:=⟨_,rfl⟩;have F:=Z ab;have ax:=Z (O g.toNat (by omega));rw[ab]at ax;obtain⟨c9,cb⟩:=ax.out;clear ab;obtain⟨t0,t1,t2,t3,t4,t5,t6⟩:=v.1.c7;have m:=G.at_.aC x B a.toNat (by omega);rw[W]at m;have o:=G.at_.aC x B f.toNat (by omega);rw[D]at o;have p:=G.at_.aC x B g.toNat (by omega);rw[F]at p;obtain⟨q,a1⟩:=nm (wY K.q R S);have am:=Z a1;have V:=Z (fun w h=>Fs (K:=K) (w:=w) (χ:=χ) (L:=L) (Y:=Y) (C:=C) R S h);rw[a1]at V;clear a1;clear h bi bw O bv;cases q
 ·have E:Hid (bk K i c ⟨27,a,f,g,M,J,N⟩=K.az c a.toNat 0):=Z (by unfold bk;dsimp only;rw[if_neg (by decide),if_neg (by decide),if_pos rfl,D,F,am];rfl)
  go_in
  go_wp2
  try rw[P]
  clear P;go_quiet (fail)
  obtain⟨w1,s⟩:=nm (Q.drewN nq);have z:Hid (Ch ag Q w1):=Z (by rw[<-s];exact(Ch.refl _ _).drewN nq);rw[s];clear s;have j:=Z (G.af z);have d:Hid (ak K c/\aS L Y c b u):=Z ⟨x,B⟩;have r:=Z ((Nx.af z).row v.1 v.2);clear t0 t1 t2 t3 t4 t5 t6 m o p;obtain⟨t0,t1,t2,t3,t4,t5,t6⟩:=r.1.c7;have m:=j.at_.aC d.1 d.2 a.toNat (by omega);rw[show((K:KS).F c).r a.toNat=bx from W.out]at m;have o:=j.at_.aC d.1 d.2 f.toNat (by omega);rw[show((K:KS).F c).r f.toNat=R from D.out]at o;have p:=j.at_.aC d.1 d.2 g.toNat (by omega);rw[show((K:KS).F c).r g.toNat=S from F.out]at p;have k1:=j.at_.vK;go_wp2_with fail
  refine(V _ j.at_).mono ?_;rintro e w2 ⟨rfl,I,rfl⟩;obtain⟨w3,t⟩:=nm (w1.drewN I);have A:Hid (Ch ag w1 w3):=Z (by rw[<-t];exact(Ch.refl _ _).drewN I);rw[t];clear t;have n:=Z (j.af A);have U:=Z ((Nx.af A).row r.1 r.2);have l:=d;clear o p;clear t0 t1 t2 t3 t4 t5 t6 m k1;obtain⟨t0,t1,t2,t3,t4,t5,t6⟩:=U.1.c7;have m:=n.at_.aC l.1 l.2 a.toNat (by omega);have c0:=n.at_.hg l.1 l.2 (u+1+a.toNat);have a0:=Z (n.at_.drew.a9 l.1 l.2 a.toNat (by omega) 0);have T:Hid (Gr K _):=Z (Gr.refl K);go_wp2
  go_still_tail 6,(by kernel_rfl)
  change wpList _ _ _ _ _ w3.drew;go_wp2
  go_end0
  rw[E];obtain⟨al,X,ad⟩:=a0.out;exact⟨rfl,al,X,(n.af (Ch.refl _ _).drew).trans T ad⟩
 ·have E:Hid (bk K i c ⟨27,a,f,g,M,J,N⟩=K.az c a.toNat 1):=Z (by unfold bk;dsimp only;rw[if_neg (by decide),if_neg (by decide),if_pos rfl,D,F,am];rfl)
  go_in
  go_wp2
  try rw[P]
  clear P;go_quiet (fail)
  obtain⟨w1,s⟩:=nm (Q.drewN nq);have z:Hid (Ch ag Q w1):=Z (by rw[<-s];exact(Ch.refl _ _).drewN nq);rw[s];clear s;have j:=Z (G.af z);have d:Hid (ak K c/\aS L Y c b u):=Z ⟨x,B⟩;have r:=Z ((Nx.af z).row v.1 v.2);clear t0 t1 t2 t3 t4 t5 t6 m o p;obtain⟨t0,t1,t2,t3,t4,t5,t6⟩:=r.1.c7;have m:=j.at_.aC d.1 d.2 a.toNat (by omega);rw[show((K:KS).F c).r a.toNat=bx from W.out]at m;have o:=j.at_.aC d.1 d.2 f.toNat (by omega);rw[show((K:KS).F c).r f.toNat=R from D.out]at o;have p:=j.at_.aC d.1 d.2 g.toNat (by omega);rw[show((K:KS).F c).r g.toNat=S from F.out]at p;have k1:=j.at_.vK;go_wp2_with fail
  refine(V _ j.at_).mono ?_;rintro e w2 ⟨rfl,I,rfl⟩;obtain⟨w3,t⟩:=nm (w1.drewN I);have A:Hid (Ch ag w1 w3):=Z (by rw[<-t];exact(Ch.refl _ _).drewN I);rw[t];clear t;have n:=Z (j.af A);have U:=Z ((Nx.af A).row r.1 r.2);have l:=d;clear o p;clear t0 t1 t2 t3 t4 t5 t6 m k1;obtain⟨t0,t1,t2,t3,t4,t5,t6⟩:=U.1.c7;have m:=n.at_.aC l.1 l.2 a.toNat (by omega);have c0:=n.at_.hg l.1 l.2 (u+1+a.toNat);have a0:=Z (n.at_.drew.a9 l.1 l.2 a.toNat (by omega) 1);have T:Hid (Gr K _):=Z (Gr.refl K);go_wp2
  go_still_tail 6,(by kernel_rfl)
  change wpList _ _ _ _ _ w3.drew;go_wp2
  go_end0
  rw[E];obtain⟨al,X,ad⟩:=a0.out;exact⟨rfl,al,X,(n.af (Ch.refl _ _).drew).trans T ad⟩
theorem sr(i:Nat)(a2:i<K.wk.length)(c:bN)(b x:Nat)(a1:ak K c)(a3:aS L Y c b x)(v:∀k,k<32->aI ((K.F c).r k))(a d f A z B:Int)(bi:0<=a/\a<32)(hb:0<=d/\d<32)(bv:0<=f/\f<32)(h:ae w χ L Y C K):
 Calls prog 167 #[(L.mb,0),(L.wb,i*38),(b,x),.agg #[.int .i64 26,a,d,f,.int .u64 A,z,B]] w (dj (.tuple #[]) χ L Y C K (bk K i c ⟨26,a,d,f,A,z,B⟩) w):=by
 have H:=Z h;have n:=Z a1;have o:=Z a3;have c3:=Z a2;obtain⟨ad,ab,c2,u,D⟩:=h.pre 26 a d f A z B;obtain⟨cf,ch⟩:=bi;obtain⟨c0,O⟩:∃y,(K.F c).r a.toNat=y:=⟨_,rfl⟩;have a0:=Z O;have V:=Z (v a.toNat (by omega));rw[O]at V;obtain⟨c7,c8⟩:=V.out;clear O;obtain⟨ci,ck⟩:=hb;obtain⟨R,P⟩:∃y,(K.F c).r d.toNat=y:=⟨_,rfl⟩;have G:=Z P;have W:=Z (v d.toNat (by omega));rw[P]at W;obtain⟨c9,cb⟩:=W.out;clear P;obtain⟨cl,cm⟩:=bv;obtain⟨S,Q⟩:∃y,(K.F c).r f.toNat=y:=⟨_,rfl⟩;have I:=Z Q;have X:=Z (v f.toNat (by omega));rw[Q]at X;obtain⟨cd,ce⟩:=X.out;clear Q;obtain⟨t0,t1,t2,t3,t4,t5,t6⟩:=D.1.c7;have m:=u.at_.aC n o a.toNat (by omega);rw[a0]at m;have s:=u.at_.aC n o d.toNat (by omega);rw[G]at s;have t:=u.at_.aC n o f.toNat (by omega);rw[I]at t;obtain⟨p,M⟩:=nm (hV K.q R S);have ap:=Z M;have U:=Z (fun w h=>D5 (K:=K) (w:=w) (χ:=χ) (L:=L) (Y:=Y) (C:=C) R S h);rw[M]at U;clear M;obtain⟨pid,c6,bx⟩:=p;clear h a1 a3 v a2;have E:Hid (bk K i c ⟨26,a,d,f,A,z,B⟩=({K with q:=bx}:KS).az c a.toNat pid):=Z (by unfold bk;dsimp only;rw[if_neg (by decide),if_pos rfl,G,I,ap]);go_in
 go_wp2
 try rw[ab]
 clear ab;go_quiet (fail)
 obtain⟨w1,N⟩:=nm (ad.drewN nq);have T:Hid (Ch ag ad w1):=Z (by rw[<-N];exact(Ch.refl _ _).drewN nq);rw[N];clear N;have g:=Z (u.af T);have j:Hid (ak K c/\aS L Y c b x):=Z ⟨n,o⟩;have F:=Z ((Nx.af T).row D.1 D.2);clear t0 t1 t2 t3 t4 t5 t6 m s t;obtain⟨t0,t1,t2,t3,t4,t5,t6⟩:=F.1.c7;have m:=g.at_.aC j.1 j.2 a.toNat (by omega);rw[show((K:KS).F c).r a.toNat=c0 from a0.out]at m;have s:=g.at_.aC j.1 j.2 d.toNat (by omega);rw[show((K:KS).F c).r d.toNat=R from G.out]at s;have t:=g.at_.aC j.1 j.2 f.toNat (by omega);rw[show((K:KS).F c).r f.toNat=S from I.out]at t;have k1:=g.at_.vK;go_wp2_with fail
 refine(U _ g.at_).mono ?_;rintro e w2 ⟨rfl,cq,c4,J⟩;have r:=Z (g.trans (Gr.refl _) J);have am:=Z (J.nx.row F.1 F.2);have l:=Z (r.cur n o (Gr.of_eq rfl) (rfl));clear J;clear s t;clear t0 t1 t2 t3 t4 t5 t6 m k1;obtain⟨t0,t1,t2,t3,t4,t5,t6⟩:=am.1.c7;have m:=r.at_.aC l.1 l.2 a.toNat (by omega);have c5:=r.at_.hg l.1 l.2 (x+1+a.toNat);have ax:=Z (r.at_.drew.a9 l.1 l.2 a.toNat (by omega) pid);have al:Hid (Gr K _):=Z (Gr.of_eq rfl);go_wp2
 go_still_tail 6,(by kernel_rfl)
 change wpList _ _ _ _ _ w2.drew;go_wp2
 go_end0
 rw[E];obtain⟨c1,av,bw⟩:=ax.out;exact⟨rfl,c1,av,(r.af (Ch.refl _ _).drew).trans al bw⟩
end
end
section
section
variable{w w':World}{χ:Nat->aX}{L:cz}{Y:Var}{C:KC}{K:KS}
def Ec(l:List Int)(χ:Nat->aX)(L:cz)(Y:Var)(C:KC)(K K':KS)(w:World)(e:Ending)(w':World):Prop:=
 ∃u aY Y',e=.returned u/\w'.ownsRow w.heap.size 56 1 u l.length (l.map (Value.int .u64))/\(∀g,u.ownBlock=some g->w.heap.size<=g/\aY g=.no)/\dJ χ L Y C K K' w aY Y' w'
theorem Ed(d:K.clock.Ok)(h:ae w χ L Y C K):Calls prog 105 #[(L.cb,0)] w (Ec K.clock.tick.2 χ L Y C K {K with clock:=K.clock.tick.1} w):=
 (o2 L.cb L.ch L.cm L.cq Y.hv K.clock d.len d.wf w (h.b0 (by simp)).is).mono fun _ _ ⟨⟨u,e,a⟩,⟨v,c,f⟩,i⟩=>
  ⟨u,_,_,e,a,fun g b=>⟨zE a g b,by
   have j:χ g=.no:=h.fresh (zE a g b);unfold cO;rw[if_neg (iy a c.heap.own (by decide) b)];exact j⟩,h.zy c f i⟩
def jg(K:KS)(l:List Int):KS:=l.foldl cD K
theorem kj(K:KS)(id:Int):cD K id=(if cE (b1 {K with q:=(dv K.q id).2} id 110) id=3 then cv (b1 {K with q:=(dv K.q id).2} id 110) id else b1 {K with q:=(dv K.q id).2} id 110):=rfl
theorem jO(K:KS)(id v:Int):Gr K (b1 K id v):=by
 cases h:aw K.ai id with
 |none=>rw[hG h];exact Gr.refl _
 |some t=>rw[hE h];exact qM h (Nat.le_refl _)
theorem ur(K:KS)(id:Int):Gr K (cD K id):=by
 rw[kj];have h:=(Gr.of_eq (K:=K) (K':={K with q:=(dv K.q id).2}) rfl).trans (jO _ id 110);split
 ·exact h.trans (Gr.of_eq rfl)
 ·exact h
theorem xL(K:KS)(l:List Int):Gr K (jg K l):=by
 induction l generalizing K with
 |nil=>exact Gr.refl _
 |cons x l ih=>exact(ur K x).trans (ih _)
theorem sx(K:KS)(l:List Int)(x:Int):jg K (l++[x])=cD (jg K l) x:=by unfold jg;rw[List.foldl_append];rfl
theorem xM(cA:K.clock.Ok)(c8:∀x∈K.clock.tick.2,aI x)(hlen:K.clock.tick.2.length<=900000)(hb:K.out.length<=900000)(h:ae w χ L Y C K):Calls prog 61 #[(L.mb,0)] w (dj (.tuple #[]) χ L Y C K (ha K) w):=by
 have H:=Z h;have cr:=Z (Ed cA h);obtain⟨p,c6⟩:=nm K.clock.tick;rw[c6]at cr c8 hlen;have go:=Z c6;obtain⟨eW,l⟩:=p;dsimp only at c8 hlen;have ex:=Z c8;have ge:=Z hb;obtain⟨N,ce⟩:=nm l.length;have bv:=Z ce;rw[ce]at hlen;obtain⟨K1,a0⟩:=mn (({K with clock:=eW}:KS));have dr:=Z a0;obtain⟨S,c2⟩:=mn (tell K1 ⟨6,0,0,0,0,0,0,0,0,K1.clock.now,0⟩);have dC:=Z c2;have cl:Hid (Gr K K1):=Z (by rw[a0];exact Gr.of_eq rfl);have cW:Hid (Gr K S):=Z (by rw[c2];exact cl.trans (Gr.of_eq rfl));have en:Hid (K1.out.length<=900000):=Z (by rw[a0];exact hb);have E:Hid (ha K=jg S l):=Z (by unfold ha;dsimp only;rw[c6,c2,a0];rfl);have k0:=h.j1;clear h cA c6 c8 hb ce a0 c2;go_in
 go_wp2_with fail
 refine cr.mono ?_;rintro e w1 ⟨u,he,gs,rfl,ch,cC,c1⟩;try dsimp only at c1 ch
 rw[<-dr]at c1;have bx:=Z c1;have bw:=Z ch;have cq:=Z cC;rw[bv]at bw;clear c1 ch cC k0;obtain⟨U,V,rfl⟩:=ao bw;have k1:=bx.at_.j1;have ec:=Z (Fq bx.at_);go_wp2_with fail
 refine ec.mono ?_;rintro e w2 ⟨rfl,rfl⟩;go_wp2_with fail
 refine(dH (K:=K1) 6 0 0 0 0 0 0 0 0 K1.clock.now 0 en bx.at_).mono ?_;rintro e w2 ⟨rfl,cS,eC,W⟩;rw[<-dC]at W;have eA:=Z (bx.trans cl W);have es:Hid (w2.ownsRow w.heap.size 56 1 (.slice U N V) N (l.map (Value.int .u64))):=Z (aj bw W.nx.ch (fun g a e=>e (cq g a).2));have dN:Hid (∀g,(Value.slice U N V).ownBlock=some g->cS g=.no):=Z (fun g a=>(W.nx.same g (cH bw a)).trans (cq g a).2);clear W k1;go_wp2
 go_loopg [21] (N+1) (fun gk i wr=>∃k:Nat,k<=N/\gk=N-k+1/\i=.int .i64 k/\Hid (∃aY Y',dJ χ L Y C K (jg S (l.take k)) w aY Y' wr/\wr.ownsRow w.heap.size 56 1 (.slice U N V) N (l.map (Value.int .u64))/\∀g,(Value.slice U N V).ownBlock=some g->aY g=.no))
 case atStart=>exact⟨0,by omega,by omega,rfl,cS,eC,eA,es,dN⟩
 case round=>
  obtain⟨k,gt,rfl,rfl,et⟩:=hrel;obtain⟨gc,eL,X,c5,cf⟩:=et.out;by_cases Q:k<N
  ·obtain⟨cs,eS,hd,cQ,fb,fn,fd,cL,_⟩:=aF c5 (by omega)
   obtain⟨rfl,rfl⟩:U=some ⟨cs,0,none⟩/\V=eS:=by simpa using cQ
   obtain⟨x,ad⟩:∃x,l[k]?=some x:=⟨_,List.getElem?_eq_getElem (by rw[bv];exact Q)⟩;have gr:=Z ad;have P:Hid (aI x):=Z (ex x (List.mem_of_getElem? ad));have c0:wr.cell? (cs,k)=some (.int .u64 x):=cL.cell (by rw[List.getElem?_append_left (by rw[List.length_map,bv];exact Q),List.getElem?_map,ad];rfl);obtain⟨cb,a1⟩:=nm (jg S (l.take k));rw[a1]at X;have gf:=Z a1;have R:Hid (Gr K cb):=Z (by rw[<-a1];exact cW.trans (xL _ _));have y:=Z X;have B:=Z c5;have A:=Z cf;obtain⟨T,c3⟩:=mn (({cb with q:=(dv cb.q x).2}:KS));have ax:=Z c3;have c9:Hid (Gr K T):=Z (by rw[c3];exact R.trans (Gr.of_eq rfl));obtain⟨n,c4⟩:=mn (b1 T x 110);have bi:=Z c4;have cm:Hid (Gr K n):=Z (by rw[c4];exact c9.trans (jO _ _ _));have av:Hid (jg S (l.take (k+1))=if cE n x=3 then cv n x else n):=Z (by rw[List.take_add_one,ad,show(some x).toList=[x]from rfl,sx,a1,kj,<-c3,<-c4]);clear X c5 cf ad cL cQ fb fn fd a1 c3 c4;have k3:=y.at_.vK;cases c7:aw T.ai x with
   |none=>
    have j:=Z c7;clear c7;by_cases f:cE n x=3
    ·have s:=Z f
     clear f;go_wp2_with fail
     refine(nO x y.at_).mono ?_;rintro e w4 ⟨rfl,ap,J,c⟩;rw[<-ax]at c;have b:=Z (y.trans R c);have D:=Z c.nx;clear c k3 c0;have O:=b.at_.hZ;have d:=b.at_.look x;rw[j]at d;dsimp only[Option.map,Option.getD]at d;go_wp2_with fail
     clear d O;have o:=b;rw[<-hG (K:=T) j 110,<-bi]at o;have F:=D;refine(db (K:=n) x P o.at_).mono ?_;rintro e ci ⟨rfl,m⟩;have z:=Z (o.af m);have G:=Z (F.trans (Nx.af m));clear m;have f:=s.out;rw[f];go_wp2_with fail
     refine(fh (K:=n) x P z.at_).mono ?_;rintro e fz ⟨rfl,ck,cd,M⟩;have I:=Z (z.trans cm M);have v:=Z (G.trans M.nx);clear M f;go_wp2
     go_roundg (N-(k+1)+1)
     case measure=>omega
     case rel=>
      refine⟨k+1,Q,rfl,by congr 1,ck,cd,?_,aj B v.ch (fun g a e=>e (A g a)),fun g a=>(v.same g (cH B a)).trans (A g a)⟩;rw[av,if_pos s.out];exact I
    ·have s:=Z f
     clear f;go_wp2_with fail
     refine(nO x y.at_).mono ?_;rintro e w4 ⟨rfl,ap,J,c⟩;rw[<-ax]at c;have b:=Z (y.trans R c);have D:=Z c.nx;clear c k3 c0;have O:=b.at_.hZ;have d:=b.at_.look x;rw[j]at d;dsimp only[Option.map,Option.getD]at d;go_wp2_with fail
     clear d O;have o:=b;rw[<-hG (K:=T) j 110,<-bi]at o;have F:=D;refine(db (K:=n) x P o.at_).mono ?_;rintro e ci ⟨rfl,m⟩;have z:=Z (o.af m);have G:=Z (F.trans (Nx.af m));clear m;have f:=s.out;obtain⟨st,a2⟩:=nm (cE n x);rw[a2]at f⊢;clear a2;go_wp2
     have I:=z;have v:=G;go_roundg (N-(k+1)+1)
     case measure=>omega
     case rel=>
      refine⟨k+1,Q,rfl,by congr 1,ap,J,?_,aj B v.ch (fun g a e=>e (A g a)),fun g a=>(v.same g (cH B a)).trans (A g a)⟩;rw[av,if_neg s.out];exact I
   |some t=>
    have j:=Z c7;clear c7;by_cases f:cE n x=3
    ·have s:=Z f
     clear f;go_wp2_with fail
     refine(nO x y.at_).mono ?_;rintro e w4 ⟨rfl,ap,J,c⟩;rw[<-ax]at c;have b:=Z (y.trans R c);have D:=Z c.nx;clear c k3 c0;have O:=b.at_.hZ;have d:=b.at_.look x;rw[j]at d;dsimp only[Option.map,Option.getD]at d;unfold bj at d;have al:=b.at_.Fu (id:=x) (t:=t) j;have am:=b.at_.r4 (id:=x) (t:=t) j 2;have r:=Z (b.at_.hh (id:=x) (t:=t) j 110);obtain⟨tb,a3⟩:=nm (J.bH x);rw[a3]at d al am r;clear a3;go_wp2_with fail
     obtain⟨fr,ab⟩:=nm (w4.setCell (tb,2) (.int .u64 110));rw[ab]at r⊢;clear ab al am d O;rw[<-hE j,<-bi]at r;have o:=Z (b.trans c9 r);have F:=Z (D.trans r.nx);clear r;refine(db (K:=n) x P o.at_).mono ?_;rintro e ci ⟨rfl,m⟩;have z:=Z (o.af m);have G:=Z (F.trans (Nx.af m));clear m;have f:=s.out;rw[f];go_wp2_with fail
     refine(fh (K:=n) x P z.at_).mono ?_;rintro e fz ⟨rfl,ck,cd,M⟩;have I:=Z (z.trans cm M);have v:=Z (G.trans M.nx);clear M f;go_wp2
     go_roundg (N-(k+1)+1)
     case measure=>omega
     case rel=>
      refine⟨k+1,Q,rfl,by congr 1,ck,cd,?_,aj B v.ch (fun g a e=>e (A g a)),fun g a=>(v.same g (cH B a)).trans (A g a)⟩;rw[av,if_pos s.out];exact I
    ·have s:=Z f
     clear f;go_wp2_with fail
     refine(nO x y.at_).mono ?_;rintro e w4 ⟨rfl,ap,J,c⟩;rw[<-ax]at c;have b:=Z (y.trans R c);have D:=Z c.nx;clear c k3 c0;have O:=b.at_.hZ;have d:=b.at_.look x;rw[j]at d;dsimp only[Option.map,Option.getD]at d;unfold bj at d;have al:=b.at_.Fu (id:=x) (t:=t) j;have am:=b.at_.r4 (id:=x) (t:=t) j 2;have r:=Z (b.at_.hh (id:=x) (t:=t) j 110);obtain⟨tb,a3⟩:=nm (J.bH x);rw[a3]at d al am r;clear a3;go_wp2_with fail
     obtain⟨fr,ab⟩:=nm (w4.setCell (tb,2) (.int .u64 110));rw[ab]at r⊢;clear ab al am d O;rw[<-hE j,<-bi]at r;have o:=Z (b.trans c9 r);have F:=Z (D.trans r.nx);clear r;refine(db (K:=n) x P o.at_).mono ?_;rintro e ci ⟨rfl,m⟩;have z:=Z (o.af m);have G:=Z (F.trans (Nx.af m));clear m;have f:=s.out;obtain⟨st,a2⟩:=nm (cE n x);rw[a2]at f⊢;clear a2;go_wp2
     have I:=z;have v:=G;go_roundg (N-(k+1)+1)
     case measure=>omega
     case rel=>
      refine⟨k+1,Q,rfl,by congr 1,ap,J,?_,aj B v.ch (fun g a e=>e (A g a)),fun g a=>(v.same g (cH B a)).trans (A g a)⟩;rw[av,if_neg s.out];exact I
  ·obtain rfl:k=N:=by omega
   have y:=Z X;clear X c5 cf;go_wp2
   go_end0
   rw[E];have:l.take k=l:=List.take_of_length_le (by rw[bv];exact Nat.le_refl _);rw[<-this];exact⟨rfl,gc,eL,y⟩
end
end
end Go.Proofs.YtfnilkpkogipfaaGreatDoor
