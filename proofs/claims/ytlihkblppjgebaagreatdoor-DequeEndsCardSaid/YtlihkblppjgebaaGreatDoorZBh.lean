import Derived.Test.YtlihkblppjgebaaGreatDoorZBd
import Derived.Test.YtlihkblppjgebaaGreatDoorZBe
set_option linter.all false
set_option maxRecDepth 100000
set_option maxHeartbeats 8000000
namespace Go.Proofs.YtlihkblppjgebaaGreatDoor
open Go.RowKit Go.Proofs.Tryz
section
section
variable{w:World}{χ:Nat->a4}{L:cw}{Y:Var}{C:KC}{K:KS}
end
end
section
section
variable{w:World}{χ:Nat->a4}{L:cw}{Y:Var}{C:KC}{K:KS}
theorem wL(i:Nat)(c2:i<K.wk.length)(c:bK)(b F:Nat)(c1:aj K c)(c3:aP L Y c b F)(al:∀k,k<32->aH ((K.F c).r k))(a g j V U W:Int)(ct:0<=a/\a<32)(hb:0<=g/\g<32)(cA:0<=j/\j<32)(en:C.bn.length<=2048)(bw:K.blocks.Ok)(c0:(c' K.blocks K.mem 1).2.1.Ok)(av:∀cC id,(db K.table cC).1=some id->aw K.ai id=none)(c5:aH (bF K (wrap64 ((K.F c).r g.toNat)) ((K.F c).r j.toNat)).1)(h:ae w χ L Y C K):
 Calls prog 168 #[.pointer (some ⟨L.mb,0,none⟩),.pointer (some ⟨L.wb,i*38,none⟩),.pointer (some ⟨b,F,none⟩),.agg #[.int .i64 48,.int .i64 a,.int .i64 g,.int .i64 j,.int .u64 V,.int .i64 U,.int .i64 W]] w (de (.tuple #[]) χ L Y C K (bu C K i c ⟨48,a,g,j,V,U,W⟩) w):=by
 have H:=Z h;have v:=Z c1;have x:=Z c3;have cq:=Z c2;obtain⟨T,R,dN,P,G⟩:=h.pre 48 a g j V U W;obtain⟨eU,eW⟩:=ct;obtain⟨c9,c6⟩:∃y,(K.F c).r a.toNat=y:=⟨_,rfl⟩;have ap:=Z c6;have ce:=Z (al a.toNat (by omega));rw[c6]at ce;obtain⟨ex,eA⟩:=ce.out;clear c6;obtain⟨eY,fb⟩:=hb;obtain⟨m,c7⟩:∃y,(K.F c).r g.toNat=y:=⟨_,rfl⟩;have B:=Z c7;have ch:=Z (al g.toNat (by omega));rw[c7]at ch;obtain⟨eC,eL⟩:=ch.out;clear c7;obtain⟨fd,fn⟩:=cA;obtain⟨N,c8⟩:∃y,(K.F c).r j.toNat=y:=⟨_,rfl⟩;have I:=Z c8;have ci:=Z (al j.toNat (by omega));rw[c8]at ci;obtain⟨eO,eS⟩:=ci.out;clear c8;obtain⟨t0,t1,t2,t3,t4,t5,t6⟩:=G.out.1.c7;have l:=P.out.at_.az v.out x.out a.toNat (by omega);rw[ap.out]at l;have q:=P.out.at_.az v.out x.out g.toNat (by omega);rw[B.out]at q;have r:=P.out.at_.az v.out x.out j.toNat (by omega);rw[I.out]at r;obtain⟨n,ad⟩:=nm C.bn.length;have O:=Z ad;have et:(n:Int)<=2048:=by omega
 by_cases M:m<(n:Int)
 ·have cL:wrap64 m=m:=by unfold wrap64;omega
  have es:IntKind.i64.wrap m=m:=IntWalk.i64_in _ (by omega);have a1:=Z (fun w h=>wj (K:=K) (w:=w) (χ:=χ) (L:=L) (Y:=Y) (C:=C) (wrap64 m) N bw c0 av h);have o:=Z (And.intro (kC (K:=K) (wrap64 m) N av) (nB (K:=K) (wrap64 m) N));have bi:=c5;rw[B.out,I.out]at bi;obtain⟨p,c4⟩:=nm (bF K (wrap64 m) N);have cb:=Z c4;rw[c4]at a1 o bi;rw[cL]at a1;obtain⟨S,K'⟩:=p;have cd:=Z bi;have M:=(show m<(C.bn.length:Int)by rw[ad];exact M);rw[ad]at M;have e1:=Z M;obtain⟨cS,cW⟩:=cd.out;dsimp only at cS cW a1 o;clear h c1 c3 al c2 av bw c0 c5 bi ad c4;by_cases D:S=0
  ·subst D
   have E:Hid (bu C K i c ⟨48,a,g,j,V,U,W⟩=K'.au c a.toNat 0):=Z (by unfold bu;dsimp only;rw[if_pos rfl,B.out,I.out,O.out,if_pos M,cb.out];rfl);go_enter func168,ntmps168
   go_wp2_with fail
   try rw[R]
   clear R;go_quiet (fail)
   obtain⟨w1,s⟩:=nm (T.drewN nq);have A:Hid (Ch ag T w1):=Z (by rw[<-s];exact(Ch.refl _ _).drewN nq);rw[s];clear s;have f:=Z (P.out.af A.out);have d:Hid (aj K c/\aP L Y c b F):=Z ⟨v.out,x.out⟩;have u:=Z ((Nx.af A.out).row G.out.1 G.out.2);clear t0 t1 t2 t3 t4 t5 t6 l q r;obtain⟨t0,t1,t2,t3,t4,t5,t6⟩:=u.out.1.c7;have l:=f.out.at_.az d.out.1 d.out.2 a.toNat (by omega);rw[show((K:KS).F c).r a.toNat=c9 from ap.out]at l;have q:=f.out.at_.az d.out.1 d.out.2 g.toNat (by omega);rw[show((K:KS).F c).r g.toNat=m from B.out]at q;have r:=f.out.at_.az d.out.1 d.out.2 j.toNat (by omega);rw[show((K:KS).F c).r j.toNat=N from I.out]at r;have k1:=f.out.at_.c3;rw[O.out]at k1;go_wp2_with fail
   go_wp2_with fail
   go_still_tail 10,(by kernel_rfl)
   change wpList _ _ _ _ _ w1.drew;go_wp2_with fail
   refine(a1.out _ f.out.at_.drew).mono ?_;rintro e w2 ⟨rfl,dC,cs,J⟩;have t:=Z ((f.out.af (Ch.refl _ _).drew).trans (Gr.refl _) J);have a0:=Z (((Nx.af (Ch.refl _ w1).drew).trans J.nx).row u.out.1 u.out.2);have z:=Z (t.out.cur v.out x.out (o.out.1) (by rw[o.out.2]));clear J;clear t0 t1 t2 t3 t4 t5 t6 l q r k1;obtain⟨t0,t1,t2,t3,t4,t5,t6⟩:=a0.out.1.c7;have l:=t.out.at_.az z.out.1 z.out.2 a.toNat (by omega);have cl:=t.out.at_.g1 z.out.1 z.out.2 (F+1+a.toNat);have ab:=Z (t.out.at_.drew.a6 z.out.1 z.out.2 a.toNat (by omega) 0);have X:Hid (Gr K _):=Z (o.out.1);go_wp2_with fail
   go_still_tail 6,(by kernel_rfl)
   change wpList _ _ _ _ _ w2.drew;go_wp2_with fail
   go_end0
   rw[E.out];obtain⟨am,a3,D⟩:=ab.out;exact⟨rfl,am,a3,(t.out.af (Ch.refl _ _).drew).trans X.out D⟩
  ·have E:Hid (bu C K i c ⟨48,a,g,j,V,U,W⟩=(eg K' i S).au c a.toNat S):=Z (by unfold bu;dsimp only;rw[if_pos rfl,B.out,I.out,O.out,if_pos M,cb.out];rw[if_pos D])
   go_enter func168,ntmps168
   go_wp2_with fail
   try rw[R]
   clear R;go_quiet (fail)
   obtain⟨w1,s⟩:=nm (T.drewN nq);have A:Hid (Ch ag T w1):=Z (by rw[<-s];exact(Ch.refl _ _).drewN nq);rw[s];clear s;have f:=Z (P.out.af A.out);have d:Hid (aj K c/\aP L Y c b F):=Z ⟨v.out,x.out⟩;have u:=Z ((Nx.af A.out).row G.out.1 G.out.2);clear t0 t1 t2 t3 t4 t5 t6 l q r;obtain⟨t0,t1,t2,t3,t4,t5,t6⟩:=u.out.1.c7;have l:=f.out.at_.az d.out.1 d.out.2 a.toNat (by omega);rw[show((K:KS).F c).r a.toNat=c9 from ap.out]at l;have q:=f.out.at_.az d.out.1 d.out.2 g.toNat (by omega);rw[show((K:KS).F c).r g.toNat=m from B.out]at q;have r:=f.out.at_.az d.out.1 d.out.2 j.toNat (by omega);rw[show((K:KS).F c).r j.toNat=N from I.out]at r;have k1:=f.out.at_.c3;rw[O.out]at k1;go_wp2_with fail
   go_wp2_with fail
   go_still_tail 10,(by kernel_rfl)
   change wpList _ _ _ _ _ w1.drew;go_wp2_with fail
   refine(a1.out _ f.out.at_.drew).mono ?_;rintro e w2 ⟨rfl,dC,cs,J⟩;have t:=Z ((f.out.af (Ch.refl _ _).drew).trans (Gr.refl _) J);have a0:=Z (((Nx.af (Ch.refl _ w1).drew).trans J.nx).row u.out.1 u.out.2);have z:=Z (t.out.cur v.out x.out (o.out.1) (by rw[o.out.2]));clear J;clear t0 t1 t2 t3 t4 t5 t6 l q r k1;obtain⟨t0,t1,t2,t3,t4,t5,t6⟩:=a0.out.1.c7;have l:=t.out.at_.az z.out.1 z.out.2 a.toNat (by omega);go_wp2_with fail
   refine(lr (K:=K') i (by rw[o.out.2];exact cq.out) S cd.out t.out.at_).mono ?_;rintro e dr ⟨rfl,fo,ec,bv⟩;have a2:=Z (t.out.trans (o.out.1) bv);have cm:=Z (bv.nx.row a0.out.1 a0.out.2);have Q:=Z (a2.out.cur v.out x.out (o.out.1.trans (dO _ _ _)) (by rw[fw,o.out.2]));clear bv;clear t0 t1 t2 t3 t4 t5 t6 l;obtain⟨t0,t1,t2,t3,t4,t5,t6⟩:=cm.out.1.c7;have l:=a2.out.at_.az Q.out.1 Q.out.2 a.toNat (by omega);have cl:=a2.out.at_.g1 Q.out.1 Q.out.2 (F+1+a.toNat);have ab:=Z (a2.out.at_.drew.a6 Q.out.1 Q.out.2 a.toNat (by omega) S);have X:Hid (Gr K _):=Z (o.out.1.trans (dO K' i S));go_wp2_with fail
   go_still_tail 6,(by kernel_rfl)
   change wpList _ _ _ _ _ dr.drew;go_wp2_with fail
   go_end0
   rw[E.out];obtain⟨am,a3,D⟩:=ab.out;exact⟨rfl,am,a3,(a2.out.af (Ch.refl _ _).drew).trans X.out D⟩
 ·have E:Hid (bu C K i c ⟨48,a,g,j,V,U,W⟩=K.au c a.toNat 0):=Z (by unfold bu;dsimp only;rw[if_pos rfl,B.out,O.out,if_neg M])
  clear h c1 c3 al c2 av bw c0 c5 ad;go_enter func168,ntmps168
  go_wp2_with fail
  try rw[R]
  clear R;go_quiet (fail)
  obtain⟨w1,s⟩:=nm (T.drewN nq);have A:Hid (Ch ag T w1):=Z (by rw[<-s];exact(Ch.refl _ _).drewN nq);rw[s];clear s;have f:=Z (P.out.af A.out);have d:Hid (aj K c/\aP L Y c b F):=Z ⟨v.out,x.out⟩;have u:=Z ((Nx.af A.out).row G.out.1 G.out.2);clear t0 t1 t2 t3 t4 t5 t6 l q r;obtain⟨t0,t1,t2,t3,t4,t5,t6⟩:=u.out.1.c7;have l:=f.out.at_.az d.out.1 d.out.2 a.toNat (by omega);rw[show((K:KS).F c).r a.toNat=c9 from ap.out]at l;have q:=f.out.at_.az d.out.1 d.out.2 g.toNat (by omega);rw[show((K:KS).F c).r g.toNat=m from B.out]at q;have r:=f.out.at_.az d.out.1 d.out.2 j.toNat (by omega);rw[show((K:KS).F c).r j.toNat=N from I.out]at r;have k1:=f.out.at_.c3;rw[O.out]at k1;go_wp2_with fail
  have cl:=f.out.at_.g1 d.out.1 d.out.2 (F+1+a.toNat);have ab:=Z (f.out.at_.drew.a6 d.out.1 d.out.2 a.toNat (by omega) 0);have X:Hid (Gr K _):=Z (Gr.refl K);go_wp2_with fail
  go_still_tail 6,(by kernel_rfl)
  change wpList _ _ _ _ _ w1.drew;go_wp2_with fail
  go_end0
  rw[E.out];obtain⟨am,a3,D⟩:=ab.out;exact⟨rfl,am,a3,(f.out.af (Ch.refl _ _).drew).trans X.out D⟩
end
end
end Go.Proofs.YtlihkblppjgebaaGreatDoor
