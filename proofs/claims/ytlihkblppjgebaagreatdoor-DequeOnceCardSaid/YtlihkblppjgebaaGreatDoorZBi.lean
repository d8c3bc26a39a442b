import Derived.Test.YtlihkblppjgebaaGreatDoorZBd
import Derived.Test.YtlihkblppjgebaaGreatDoorZBe
set_option linter.all false
set_option maxRecDepth 100000
set_option maxHeartbeats 8000000
namespace Go.Proofs.YtlihkblppjgebaaGreatDoor
open Go.RowKit Go.Proofs.Tryz
section
section
variable{w:World}{χ:Nat->a4}{L:cw}{Y:Var}{C:KC}{K:KS}
theorem tu(c:bK)(b o:Nat)(c6:aj K c)(c7:aP L Y c b o)(bi:∀k,k<32->aH ((K.F c).r k))(a i O Q P R:Int)(ce:0<=a/\a<32)(hb:0<=i/\i<32)(ap:K.blocks.Ok)(h:ae w χ L Y C K):
 Calls prog 167 #[.pointer (some ⟨L.mb,0,none⟩),.pointer (some ⟨b,o,none⟩),.agg #[.int .i64 43,.int .i64 a,.int .i64 i,.int .i64 O,.int .u64 Q,.int .i64 P,.int .i64 R]] w (de (.tuple #[]) χ L Y C K (bd K c ⟨43,a,i,O,Q,P,R⟩) w):=by
 have H:=Z h;have l:=Z c6;have F:=Z c7;obtain⟨N,M,cq,U,B⟩:=h.pre 43 a i O Q P R;obtain⟨dr,dC⟩:=ce;obtain⟨c1,bv⟩:∃y,(K.F c).r a.toNat=y:=⟨_,rfl⟩;have ad:=Z bv;have c3:=Z (bi a.toNat (by omega));rw[bv]at c3;obtain⟨cC,cL⟩:=c3.out;clear bv;obtain⟨c0,dN⟩:=hb;obtain⟨al,bw⟩:∃y,(K.F c).r i.toNat=y:=⟨_,rfl⟩;have G:=Z bw;have c4:=Z (bi i.toNat (by omega));rw[bw]at c4;obtain⟨cS,cW⟩:=c4.out;clear bw;obtain⟨t0,t1,t2,t3,t4,t5,t6⟩:=B.out.1.c7;have f:=U.out.at_.az l.out F.out a.toNat (by omega);rw[ad.out]at f;have u:=U.out.at_.az l.out F.out i.toNat (by omega);rw[G.out]at u;clear h c6 c7 bi;by_cases av:al<=4096
 ·obtain⟨m,ch⟩:∃m:Nat,al=(m:Int):=⟨al.toNat,by omega⟩
  subst ch;obtain⟨p,c8⟩:=nm (c' K.blocks K.mem m);have T:=Z c8;clear c8;obtain⟨cd,c2,c5⟩:=p;cases cd with
  |none=>
   have E:Hid (bd K c ⟨43,a,i,O,Q,P,R⟩=({K.au c a.toNat 0 with blocks:=c2,mem:=c5}:KS).au c a.toNat 0):=Z (by unfold bd;dsimp only;rw[if_pos rfl,if_pos c0,G.out,if_pos av,Int.toNat_natCast,b7,gd,T.out]);go_enter func167,ntmps167
   go_wp2_with fail
   try rw[M]
   clear M;go_quiet (fail)
   obtain⟨w1,t⟩:=nm (N.drewN nq);have x:Hid (Ch ag N w1):=Z (by rw[<-t];exact(Ch.refl _ _).drewN nq);rw[t];clear t;have j:=Z (U.out.af x.out);have d:Hid (aj K c/\aP L Y c b o):=Z ⟨l.out,F.out⟩;have S:=Z ((Nx.af x.out).row B.out.1 B.out.2);clear t0 t1 t2 t3 t4 t5 t6 f u;obtain⟨t0,t1,t2,t3,t4,t5,t6⟩:=S.out.1.c7;have f:=j.out.at_.az d.out.1 d.out.2 a.toNat (by omega);rw[show((K:KS).F c).r a.toNat=c1 from ad.out]at f;have u:=j.out.at_.az d.out.1 d.out.2 i.toNat (by omega);rw[show((K:KS).F c).r i.toNat=(m:Int)from G.out]at u;have a3:=f;have q:=j.out.at_.g1 d.out.1 d.out.2 (o+1+a.toNat);have a1:=Z (fun w (h:ae w χ L Y C K)=>h.a6 d.out.1 d.out.2 a.toNat (by omega) 0);go_wp2_with fail
   go_quiet (fail)
   generalize A:w1.drewN _=w2;have r:=Z (Ch.dN (D:=ag) A);clear A;have f:=r.out.k f;have q:=(r.out.frozen (p:=⟨b,o+1+a.toNat,none⟩) (aE a3) (fun h=>h)).trans q;have z:=Z (j.out.af r.out);obtain⟨cl,c9,I⟩:=a1.out _ z.out.at_;have V:=Z (z.out.trans (Gr.refl _) I);have am:=I.at_.oG;clear I;go_wp2_with fail
   have J:=ru (K:=K.au c a.toNat 0) m (by omega) (by rw[b7];exact ap) V.out.at_;rw[b7,gd,T.out]at J;refine J.mono ?_;clear J;rintro e w4 ⟨⟨v,rfl,ci⟩,cm,cb,X⟩;obtain⟨tt,e1,rfl⟩:=ci;have s:=Z (V.out.trans (bs l.out _) X);have n:=Z (s.out.cur l.out F.out ((bs l.out _).trans (Gr.of_eq rfl)) (bm _ _));clear X f q am;have f:=s.out.at_.az n.out.1 n.out.2 a.toNat (by omega);have q:=s.out.at_.g1 n.out.1 n.out.2 (o+1+a.toNat);have a0:=Z (s.out.at_.a6 n.out.1 n.out.2 a.toNat (by omega) 0);go_wp2_with fail
   go_end0
   rw[E.out];obtain⟨ab,W,a2⟩:=a0.out;exact⟨rfl,ab,W,s.out.trans ((bs l.out _).trans (Gr.of_eq rfl)) a2⟩
  |some g=>
   have E:Hid (bd K c ⟨43,a,i,O,Q,P,R⟩=({K.au c a.toNat 0 with blocks:=c2,mem:=c5}:KS).au c a.toNat (g:Int)):=Z (by unfold bd;dsimp only;rw[if_pos rfl,if_pos c0,G.out,if_pos av,Int.toNat_natCast,b7,gd,T.out]);have cs:=mG ap (show(c' K.blocks K.mem m).1=some g by rw[T.out]);have cA:IntKind.u64.wrap (g:Int)=g:=(by unfold IntKind.wrap IntKind.bits IntKind.signed;simp;omega);have ct:(g:Int)<=140000:=(by omega);go_enter func167,ntmps167
   go_wp2_with fail
   try rw[M]
   clear M;go_quiet (fail)
   obtain⟨w1,t⟩:=nm (N.drewN nq);have x:Hid (Ch ag N w1):=Z (by rw[<-t];exact(Ch.refl _ _).drewN nq);rw[t];clear t;have j:=Z (U.out.af x.out);have d:Hid (aj K c/\aP L Y c b o):=Z ⟨l.out,F.out⟩;have S:=Z ((Nx.af x.out).row B.out.1 B.out.2);clear t0 t1 t2 t3 t4 t5 t6 f u;obtain⟨t0,t1,t2,t3,t4,t5,t6⟩:=S.out.1.c7;have f:=j.out.at_.az d.out.1 d.out.2 a.toNat (by omega);rw[show((K:KS).F c).r a.toNat=c1 from ad.out]at f;have u:=j.out.at_.az d.out.1 d.out.2 i.toNat (by omega);rw[show((K:KS).F c).r i.toNat=(m:Int)from G.out]at u;have a3:=f;have q:=j.out.at_.g1 d.out.1 d.out.2 (o+1+a.toNat);have a1:=Z (fun w (h:ae w χ L Y C K)=>h.a6 d.out.1 d.out.2 a.toNat (by omega) 0);go_wp2_with fail
   go_quiet (fail)
   generalize A:w1.drewN _=w2;have r:=Z (Ch.dN (D:=ag) A);clear A;have f:=r.out.k f;have q:=(r.out.frozen (p:=⟨b,o+1+a.toNat,none⟩) (aE a3) (fun h=>h)).trans q;have z:=Z (j.out.af r.out);obtain⟨cl,c9,I⟩:=a1.out _ z.out.at_;have V:=Z (z.out.trans (Gr.refl _) I);have am:=I.at_.oG;clear I;go_wp2_with fail
   have J:=ru (K:=K.au c a.toNat 0) m (by omega) (by rw[b7];exact ap) V.out.at_;rw[b7,gd,T.out]at J;refine J.mono ?_;clear J;rintro e w4 ⟨rfl,cm,cb,X⟩;have s:=Z (V.out.trans (bs l.out _) X);have n:=Z (s.out.cur l.out F.out ((bs l.out _).trans (Gr.of_eq rfl)) (bm _ _));clear X f q am;have f:=s.out.at_.az n.out.1 n.out.2 a.toNat (by omega);have q:=s.out.at_.g1 n.out.1 n.out.2 (o+1+a.toNat);have a0:=Z (s.out.at_.a6 n.out.1 n.out.2 a.toNat (by omega) (g:Int));go_wp2_with fail
   go_end0
   rw[E.out];obtain⟨ab,W,a2⟩:=a0.out;exact⟨rfl,ab,W,s.out.trans ((bs l.out _).trans (Gr.of_eq rfl)) a2⟩
 ·have E:Hid (bd K c ⟨43,a,i,O,Q,P,R⟩=K.au c a.toNat 0):=Z (by unfold bd;dsimp only;rw[if_pos rfl,if_pos c0,G.out,if_neg av])
  go_enter func167,ntmps167
  go_wp2_with fail
  try rw[M]
  clear M;go_quiet (fail)
  obtain⟨w1,t⟩:=nm (N.drewN nq);have x:Hid (Ch ag N w1):=Z (by rw[<-t];exact(Ch.refl _ _).drewN nq);rw[t];clear t;have j:=Z (U.out.af x.out);have d:Hid (aj K c/\aP L Y c b o):=Z ⟨l.out,F.out⟩;have S:=Z ((Nx.af x.out).row B.out.1 B.out.2);clear t0 t1 t2 t3 t4 t5 t6 f u;obtain⟨t0,t1,t2,t3,t4,t5,t6⟩:=S.out.1.c7;have f:=j.out.at_.az d.out.1 d.out.2 a.toNat (by omega);rw[show((K:KS).F c).r a.toNat=c1 from ad.out]at f;have u:=j.out.at_.az d.out.1 d.out.2 i.toNat (by omega);rw[show((K:KS).F c).r i.toNat=al from G.out]at u;have a3:=f;have q:=j.out.at_.g1 d.out.1 d.out.2 (o+1+a.toNat);have a1:=Z (fun w (h:ae w χ L Y C K)=>h.a6 d.out.1 d.out.2 a.toNat (by omega) 0);go_wp2_with fail
  go_quiet (fail)
  generalize A:w1.drewN _=w2;have r:=Z (Ch.dN (D:=ag) A);clear A;have f:=r.out.k f;have q:=(r.out.frozen (p:=⟨b,o+1+a.toNat,none⟩) (aE a3) (fun h=>h)).trans q;have z:=Z (j.out.af r.out);have a0:=Z (a1.out _ z.out.at_);go_wp2_with fail
  go_end0
  rw[E.out];obtain⟨ab,W,a2⟩:=a0.out;exact⟨rfl,ab,W,z.out.trans (Gr.refl _) a2⟩
theorem tv(c:bK)(b q:Nat)(am:aj K c)(ap:aP L Y c b q)(bi:∀k,k<32->aH ((K.F c).r k))(a F s G I:Int)(c1:0<=a/\a<32)(a1:aH s)(X:K.blocks.Ok)(h:ae w χ L Y C K):
 Calls prog 167 #[.pointer (some ⟨L.mb,0,none⟩),.pointer (some ⟨b,q,none⟩),.agg #[.int .i64 43,.int .i64 a,.int .i64 (-1),.int .i64 F,.int .u64 s,.int .i64 G,.int .i64 I]] w (de (.tuple #[]) χ L Y C K (bd K c ⟨43,a,(-1),F,s,G,I⟩) w):=by
 have H:=Z h;have l:=Z am;have z:=Z ap;obtain⟨D,B,c5,V,t⟩:=h.pre 43 a (-1) F s G I;obtain⟨ch,ci⟩:=c1;obtain⟨a3,a2⟩:∃y,(K.F c).r a.toNat=y:=⟨_,rfl⟩;have U:=Z a2;have ad:=Z (bi a.toNat (by omega));rw[a2]at ad;obtain⟨c9,cb⟩:=ad.out;clear a2;obtain⟨t0,t1,t2,t3,t4,t5,t6⟩:=t.out.1.c7;have i:=V.out.at_.az l.out z.out a.toNat (by omega);rw[U.out]at i;obtain⟨cd,ce⟩:=a1;clear h am ap bi;by_cases a0:s<=4096
 ·obtain⟨m,c2⟩:∃m:Nat,s=(m:Int):=⟨s.toNat,by omega⟩
  subst c2;obtain⟨p,av⟩:=nm (c' K.blocks K.mem m);have M:=Z av;clear av;obtain⟨c0,ab,al⟩:=p;cases c0 with
  |none=>
   have E:Hid (bd K c ⟨43,a,(-1),F,(m:Int),G,I⟩=({K.au c a.toNat 0 with blocks:=ab,mem:=al}:KS).au c a.toNat 0):=Z (by unfold bd;dsimp only;rw[if_pos rfl,if_neg (show¬(0:Int)<=-1 by decide),if_pos a0,Int.toNat_natCast,b7,gd,M.out]);go_enter func167,ntmps167
   go_wp2_with fail
   try rw[B]
   clear B;go_quiet (fail)
   obtain⟨w1,o⟩:=nm (D.drewN nq);have r:Hid (Ch ag D w1):=Z (by rw[<-o];exact(Ch.refl _ _).drewN nq);rw[o];clear o;have f:=Z (V.out.af r.out);have d:Hid (aj K c/\aP L Y c b q):=Z ⟨l.out,z.out⟩;have J:=Z ((Nx.af r.out).row t.out.1 t.out.2);clear t0 t1 t2 t3 t4 t5 t6 i;obtain⟨t0,t1,t2,t3,t4,t5,t6⟩:=J.out.1.c7;have i:=f.out.at_.az d.out.1 d.out.2 a.toNat (by omega);rw[show((K:KS).F c).r a.toNat=a3 from U.out]at i;have A:=f.out.at_.g1 d.out.1 d.out.2 (q+1+a.toNat);have R:=Z (fun w (h:ae w χ L Y C K)=>h.a6 d.out.1 d.out.2 a.toNat (by omega) 0);obtain⟨c3,bv,u⟩:=R.out _ f.out.at_;have N:=Z (f.out.trans (Gr.refl _) u);have W:=u.at_.oG;clear u;go_wp2_with fail
   have x:=ru (K:=K.au c a.toNat 0) m (by omega) (by rw[b7];exact X) N.out.at_;rw[b7,gd,M.out]at x;refine x.mono ?_;clear x;rintro e w4 ⟨⟨v,rfl,a1⟩,c4,bw,P⟩;obtain⟨tt,cl,rfl⟩:=a1;have n:=Z (N.out.trans (bs l.out _) P);have j:=Z (n.out.cur l.out z.out ((bs l.out _).trans (Gr.of_eq rfl)) (bm _ _));clear P i A W;have i:=n.out.at_.az j.out.1 j.out.2 a.toNat (by omega);have A:=n.out.at_.g1 j.out.1 j.out.2 (q+1+a.toNat);have Q:=Z (n.out.at_.a6 j.out.1 j.out.2 a.toNat (by omega) 0);go_wp2_with fail
   go_end0
   rw[E.out];obtain⟨T,O,S⟩:=Q.out;exact⟨rfl,T,O,n.out.trans ((bs l.out _).trans (Gr.of_eq rfl)) S⟩
  |some g=>
   have E:Hid (bd K c ⟨43,a,(-1),F,(m:Int),G,I⟩=({K.au c a.toNat 0 with blocks:=ab,mem:=al}:KS).au c a.toNat (g:Int)):=Z (by unfold bd;dsimp only;rw[if_pos rfl,if_neg (show¬(0:Int)<=-1 by decide),if_pos a0,Int.toNat_natCast,b7,gd,M.out]);have c6:=mG X (show(c' K.blocks K.mem m).1=some g by rw[M.out]);have c8:IntKind.u64.wrap (g:Int)=g:=(by unfold IntKind.wrap IntKind.bits IntKind.signed;simp;omega);have c7:(g:Int)<=140000:=(by omega);go_enter func167,ntmps167
   go_wp2_with fail
   try rw[B]
   clear B;go_quiet (fail)
   obtain⟨w1,o⟩:=nm (D.drewN nq);have r:Hid (Ch ag D w1):=Z (by rw[<-o];exact(Ch.refl _ _).drewN nq);rw[o];clear o;have f:=Z (V.out.af r.out);have d:Hid (aj K c/\aP L Y c b q):=Z ⟨l.out,z.out⟩;have J:=Z ((Nx.af r.out).row t.out.1 t.out.2);clear t0 t1 t2 t3 t4 t5 t6 i;obtain⟨t0,t1,t2,t3,t4,t5,t6⟩:=J.out.1.c7;have i:=f.out.at_.az d.out.1 d.out.2 a.toNat (by omega);rw[show((K:KS).F c).r a.toNat=a3 from U.out]at i;have A:=f.out.at_.g1 d.out.1 d.out.2 (q+1+a.toNat);have R:=Z (fun w (h:ae w χ L Y C K)=>h.a6 d.out.1 d.out.2 a.toNat (by omega) 0);obtain⟨c3,bv,u⟩:=R.out _ f.out.at_;have N:=Z (f.out.trans (Gr.refl _) u);have W:=u.at_.oG;clear u;go_wp2_with fail
   have x:=ru (K:=K.au c a.toNat 0) m (by omega) (by rw[b7];exact X) N.out.at_;rw[b7,gd,M.out]at x;refine x.mono ?_;clear x;rintro e w4 ⟨rfl,c4,bw,P⟩;have n:=Z (N.out.trans (bs l.out _) P);have j:=Z (n.out.cur l.out z.out ((bs l.out _).trans (Gr.of_eq rfl)) (bm _ _));clear P i A W;have i:=n.out.at_.az j.out.1 j.out.2 a.toNat (by omega);have A:=n.out.at_.g1 j.out.1 j.out.2 (q+1+a.toNat);have Q:=Z (n.out.at_.a6 j.out.1 j.out.2 a.toNat (by omega) (g:Int));go_wp2_with fail
   go_end0
   rw[E.out];obtain⟨T,O,S⟩:=Q.out;exact⟨rfl,T,O,n.out.trans ((bs l.out _).trans (Gr.of_eq rfl)) S⟩
 ·have E:Hid (bd K c ⟨43,a,(-1),F,s,G,I⟩=K.au c a.toNat 0):=Z (by unfold bd;dsimp only;rw[if_pos rfl,if_neg (show¬(0:Int)<=-1 by decide),if_neg a0])
  go_enter func167,ntmps167
  go_wp2_with fail
  try rw[B]
  clear B;go_quiet (fail)
  obtain⟨w1,o⟩:=nm (D.drewN nq);have r:Hid (Ch ag D w1):=Z (by rw[<-o];exact(Ch.refl _ _).drewN nq);rw[o];clear o;have f:=Z (V.out.af r.out);have d:Hid (aj K c/\aP L Y c b q):=Z ⟨l.out,z.out⟩;have J:=Z ((Nx.af r.out).row t.out.1 t.out.2);clear t0 t1 t2 t3 t4 t5 t6 i;obtain⟨t0,t1,t2,t3,t4,t5,t6⟩:=J.out.1.c7;have i:=f.out.at_.az d.out.1 d.out.2 a.toNat (by omega);rw[show((K:KS).F c).r a.toNat=a3 from U.out]at i;have A:=f.out.at_.g1 d.out.1 d.out.2 (q+1+a.toNat);have R:=Z (fun w (h:ae w χ L Y C K)=>h.a6 d.out.1 d.out.2 a.toNat (by omega) 0);have Q:=Z (R.out _ f.out.at_);go_wp2_with fail
  go_end0
  rw[E.out];obtain⟨T,O,S⟩:=Q.out;exact⟨rfl,T,O,f.out.trans (Gr.refl _) S⟩
end
end
end Go.Proofs.YtlihkblppjgebaaGreatDoor
