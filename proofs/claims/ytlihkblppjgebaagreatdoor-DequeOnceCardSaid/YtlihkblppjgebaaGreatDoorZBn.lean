import Derived.Test.YtlihkblppjgebaaGreatDoorZBl
set_option linter.all false
set_option maxRecDepth 100000
set_option maxHeartbeats 8000000
namespace Go.Proofs.YtlihkblppjgebaaGreatDoor
open Go.RowKit Go.Proofs.Tryz
section
section
variable{C:KC}{K:KS}{N M:Nat}
theorem Ho(h:Inv N M K)(e:N<=900000){i:Nat}(b:i<K.wk.length){c:bK}(a:aj K c){x:aV}(d:iI x)(Gf:Ko x.op):Inv (N+1) (M+1) (ay C K i none c x).2:=by
 have up:∀{K':KS},Inv N M K'->Inv (N+1) (M+1) K':=fun h=>h.more (Nat.le_succ _) (Nat.le_succ _)
 have f:∀{K':KS},Inv (N+1) M K'->Inv (N+1) (M+1) K':=fun h=>h.more (Nat.le_refl _) (Nat.le_succ _)
 unfold Ko at Gf;unfold ay;dsimp only;split
 ·exact up h
 split
 ·exact up (qo h b a d)
 split
 ·omega
 split
 ·exact up (wW h e b a d)
 split
 ·exact f (tH h a d)
 split
 ·exact f (tI h e b a d)
 split
 ·omega
 split
 ·exact up h
 ·exact up (h.au a _ _ (zb h e b bx c x))
theorem HG(h:Inv N M K)(b:N<=900000){i:Nat}{c:bK}(a:aj K c)(x:aV)(Gf:Ko x.op):
 (ay C K i none c x).1=0->Gr K (ay C K i none c x).2/\(ay C K i none c x).2.wk.length=K.wk.length:=by
 unfold Ko at Gf;unfold ay;dsimp only;split
 ·exact fun _=>⟨Gr.refl _,rfl⟩
 split
 ·exact r3 a x
 split
 ·omega
 split
 ·exact fun _=>zd i a x
 split
 ·exact fun _=>wZ a x
 split
 ·exact fun _=>w3 h b a x
 split
 ·omega
 split
 ·intro e;cases e
 ·exact fun _=>⟨dX a _ _,bm _ _⟩
theorem Kp(u:oC C)(h:Inv N M K)(B:N<=800000){i:Nat}(a:i<K.wk.length)(c:I8 C K i):Inv (N+1) (M+2) (jT C K i):=by
 have l:Inv N M (K.be i {K.W i with parked:=false}):=h.be a rfl rfl ⟨(h.gi a).f,(h.gi a).l0,(h.gi a).l1⟩;unfold I8 at c;unfold jT;dsimp only;obtain⟨K1,m⟩:=nm (K.be i {K.W i with parked:=false});have p:i<K1.wk.length:=by rw[<-m,bA];exact a
 have f:aj K1 (.own i):=p;rw[m]at l c⊢;have j:=lD u l f;have b:=nO C f;obtain⟨s,k⟩:=nm (cy C K1 (.own i));rw[k]at j b c;obtain⟨x,r,K2⟩:=s;dsimp only at j b c;obtain⟨d,D,y,Gf⟩:=j;have w:i<K2.wk.length:=by rw[b.2];exact p
 have g:aj K2 (.own i):=f.gr b.1 b.2;rcases c with rfl|⟨rfl,n,q⟩
 ·have e:eu C K1 i none (.own i)=(x,0,K2):=by unfold eu;rw[k];rfl
  rw[e];exact(r7 d _ _ _).more (Nat.le_succ _) (Nat.le_succ _)
 ·obtain⟨z,A⟩:=y (Or.inr rfl)
  have t:=Ho (C:=C) d (by omega) w g (iI.of z A) n;have v:aj (ay C K2 i none (.own i) x).2 (.own i):=by
   have o:=HG (C:=C) d (by omega) (i:=i) g x n q;exact g.gr o.1 o.2
  have e:eu C K1 i none (.own i)=(x,0,(ay C K2 i none (.own i) x).2.ft (.own i)):=by unfold eu;rw[k];dsimp only;rw[if_pos rfl,if_pos q]
  rw[e];exact r7 (kJ t v) _ _ _
theorem Lj(f:oC C)(h:Inv N 0 K)(g:N<=800000){i:Nat}(l:i<K.wk.length)(draw:Int)(j:aH draw)(n:(K.W i).slot=0)(m:I8 C (F8 K i draw) i):Inv (N+1) 0 (gM C K 1 i draw).2:=by
 have a:Inv N 0 (F8 K i draw):=⟨h.core,h.nd,h.q,h.bW,h.bB,h.mem,h.obj,j,h.w0,h.w1,h.out⟩;have k:∀{M:Nat} {K':KS},Inv (N+1) M K'->Inv (N+1) 0 ({K' with out:=[]}:KS):=fun h=>⟨h.core,h.nd,h.q,h.bW,h.bB,h.mem,h.obj,h.draw,h.w0,h.w1,Nat.le_refl _⟩
 have e:gM C K 1 i draw=((jT C (F8 K i draw) i).out,{jT C (F8 K i draw) i with out:=[]}):=by
  have b:(0:Int)<=(i:Int)/\(i:Int)<K.wk.length:=⟨by omega,by omega⟩;have c:((F8 K i draw).W i).slot=0:=n;have d:fI C (F8 K i draw) i=jT C (F8 K i draw) i:=by unfold fI;rw[if_pos c]
  unfold gM;dsimp only;rw[if_neg (by decide),if_pos rfl,if_pos b,<-d];rfl
 rw[e];exact k (Kp f a g l m)
end
end
section
section
variable{w w':World}{χ:Nat->a4}{L:cw}{Y:Var}{C:KC}{K:KS}
theorem Nh{N M:Nat}(B:oC C)(F:Inv N M K)(gs:N<=700000)(gr:M<=700000)(i:Nat)(q:i<K.wk.length)(hw:0<=K.w/\K.w<K.wk.length)(W:I8 C K i)(h:ae w χ L Y C K):
 Calls prog 88 #[.pointer (some ⟨L.mb,0,none⟩),.pointer (some ⟨L.wb,i*38,none⟩)] w (rB (.tuple #[]) χ L C (jT C K i) w):=by
 obtain⟨e1,c1,dC⟩:=h.o4 q false;have gA:=h.qa q;have gC:=h.tn (i*38+2);have G:Inv N M (K.be i {K.W i with parked:=false}):=F.be q rfl rfl ⟨(F.gi q).f,(F.gi q).l0,(F.gi q).l1⟩;unfold I8 at W;obtain⟨K1,R⟩:=nm (K.be i {K.W i with parked:=false});have T:i<K1.wk.length:=by rw[<-R,bA];exact q
 have cS:0<=K1.w/\K1.w<K1.wk.length:=by rw[<-R,bA];exact hw
 have eA:Hid (jT C K i=if(eu C K1 i none (.own i)).2.1=0 then cY (eu C K1 i none (.own i)).2.2 0 (.own i) (eu C K1 i none (.own i)).1 else if(eu C K1 i none (.own i)).2.1=3∨(eu C K1 i none (.own i)).2.1=2 then gv C (eu C K1 i none (.own i)).2.2 i else(eu C K1 i none (.own i)).2.2):=Z (by unfold jT;rw[R]);rw[R]at dC G W;have bi:=Z dC;have o:aj K1 (.own i):=T;have c7:aP L c1 (.own i) L.wb (i*38+4):=⟨rfl,rfl⟩;clear R dC;have c2:=fun w (h:ae w e1 L c1 C K1)=>o9 (.own i) L.wb (i*38+4) o c7 (G.lz o).r (G.lz o).back B.lv B.ll h
 have cA:=lD B G o;have v:=nO C o;have V:=nP C (c:=.own i) i T;obtain⟨s,X⟩:=nm (cy C K1 (.own i));rw[X]at c2 cA v V W;obtain⟨x,r,K2⟩:=s;dsimp only at c2 cA v V W;obtain⟨H,gt,c5,Gf⟩:=cA;have U:i<K2.wk.length:=by rw[v.2];exact T
 have cW:0<=K2.w/\K2.w<K2.wk.length:=by rw[V.2,v.2];exact cS
 have u:aj K2 (.own i):=o.gr v.1 v.2;obtain⟨b,a,d,f,j,g,k⟩:=x;have ex:Hid (∀w,ae w e1 L c1 C K1->Calls prog 132 #[.pointer (some ⟨L.mb,0,none⟩),.pointer (some ⟨L.wb,i*38+4,none⟩)] w (de (.tuple #[.agg #[.int .i64 b,.int .i64 a,.int .i64 d,.int .i64 f,.int .u64 j,.int .i64 g,.int .i64 k],.int .i64 r]) e1 L c1 C K1 K2 w)):=Z c2;have go:=Z v;have av:=Z (And.intro o c7);clear c2 v;rcases W with rfl|⟨rfl,c4,dr⟩
 ·obtain⟨z,a1⟩:=c5 (Or.inl rfl)
  have ci:Hid (iD b=true->0<=a/\a<32):=Z (fun _=>(dp z).1);have ch:Hid (K2.out.length<=900000):=Z (by have:=H.out;omega);have cb:=Z u;have E:Hid (jT C K i=cY K2 0 (.own i) ⟨b,a,d,f,j,g,k⟩):=Z (by rw[eA.out];unfold eu;rw[X];rfl);clear z a1;clear h F q hw G T cS o c7 V H U cW u c5 Gf X B;go_enter func88,ntmps88
  go_wp2_with fail
  with_reducible refine(ex.out _ bi.out.at_).mono ?_
  rintro e w2 ⟨rfl,ec,cq,m⟩;have P:=Z m;have cm:=Z (bi.out.nx.trans m.nx);have bw:Hid (aP L cq (.own i) L.wb (i*38+4)):=Z (av.out.2.yk av.out.1 m.yk);clear m;go_wp2_with fail
  obtain⟨A,t⟩:=nm (w2.alloc (.cells #[.int .i64 b,.int .i64 a,.int .i64 d,.int .i64 f,.int .u64 j,.int .i64 g,.int .i64 k] 184));have J:=Z (Ch.al (D:=ag) t);have I:Hid (Row A w2.heap.size 184 [.int .i64 b,.int .i64 a,.int .i64 d,.int .i64 f,.int .u64 j,.int .i64 g,.int .i64 k]/\ec w2.heap.size=.no):=Z ⟨by rw[<-t];exact Row.new w2 _ _,P.out.at_.fresh (Nat.le_refl _)⟩;rw[t];clear t;have cl:=Z (P.out.af J.out);have fd:=Z cl.out.at_;have ce:=Z (jz 0 (.own i) L.wb (i*38+4) cb.out bw.out b a d f j g k ci.out ch.out fd.out.drew);obtain⟨a2,a3,ab,ad,al,am,ap⟩:=I.out.1.c7;go_still_tail 5,(by kernel_rfl)
  change wpList _ _ _ _ _ A.drew;go_wp2_with fail
  with_reducible refine ce.out.mono ?_
  rintro e ge ⟨rfl,en,cs,y⟩;have Q:=Z (And.intro y.at_ ((cm.out.trans (Nx.af J.out)).trans ((Nx.af (Ch.refl _ A).drew).trans y.nx)));clear y;clear a2 a3 ab ad al am ap;go_wp2_with fail
  go_end0
  rw[E.out];exact⟨rfl,en,cs,Q.out.1,Q.out.2⟩
 ·obtain⟨z,a1⟩:=c5 (Or.inr rfl)
  have gc:=Gf rfl;have ci:Hid (iD b=true->0<=a/\a<32):=Z (fun _=>(dp z).1);have cC:=fun(w:World) (χ:Nat->a4) (Y:Var) (c6:aP L Y (.own i) L.wb (i*38+4)) (h:ae w χ L Y C K2)=>Kq H (by omega) (by omega) i U (.own i) L.wb (i*38+4) u c6 ⟨b,a,d,f,j,g,k⟩ _ z c4 a1 cW B.pl h
  have a0:=Ho (C:=C) H (by omega) U u (iI.of z a1) c4;have c9:=HG (C:=C) H (by omega) (i:=i) u ⟨b,a,d,f,j,g,k⟩ c4;have et:Hid (eu C K1 i none (.own i)=if(ay C K2 i none (.own i) ⟨b,a,d,f,j,g,k⟩).1=0 then(⟨b,a,d,f,j,g,k⟩,0,(ay C K2 i none (.own i) ⟨b,a,d,f,j,g,k⟩).2.ft (.own i))else if(ay C K2 i none (.own i) ⟨b,a,d,f,j,g,k⟩).1=2 then(⟨b,a,d,f,j,g,k⟩,3,(ay C K2 i none (.own i) ⟨b,a,d,f,j,g,k⟩).2)else(⟨b,a,d,f,j,g,k⟩,1,(ay C K2 i none (.own i) ⟨b,a,d,f,j,g,k⟩).2)):=Z (by unfold eu;rw[X];rfl);obtain⟨p,c6⟩:=nm (ay C K2 i none (.own i) ⟨b,a,d,f,j,g,k⟩);rw[c6]at cC a0 c9 dr et;obtain⟨n,l⟩:=p;dsimp only at a0 c9 dr;have fr:Hid (∀(w:World) (χ:Nat->a4) (Y:Var),aP L Y (.own i) L.wb (i*38+4)->ae w χ L Y C K2->Calls prog 133 #[.pointer (some ⟨L.mb,0,none⟩),.pointer (some ⟨L.wb,i*38,none⟩),.pointer none,.pointer (some ⟨L.wb,i*38+4,none⟩),.agg #[.int .i64 b,.int .i64 a,.int .i64 d,.int .i64 f,.int .u64 j,.int .i64 g,.int .i64 k]] w (dG (n,l) χ L Y C K2 w)):=Z cC;clear c6 cC;subst dr
  ·have S:=c9 rfl
   have gb:i<l.wk.length:=(by rw[S.2];exact U);have c3:aj l (.own i):=u.gr S.1 S.2;have O:=Z (And.intro c3 (And.intro u S));have cb:Hid (aj (l.ft (.own i)) (.own i)):=Z (c3.gr (bs c3 _) (bm _ _));have gp:=Z a0;have ch:Hid ((l.ft (.own i)).out.length<=900000):=Z (by have:(l.ft (.own i)).out=l.out:=rN _ _;rw[this];have:=a0.out;omega);have E:Hid (jT C K i=cY (l.ft (.own i)) 0 (.own i) ⟨b,a,d,f,j,g,k⟩):=Z (by rw[eA.out,et.out];rfl);clear z a1 gc a0 c9 c4;clear S gb c3;clear h F q hw G T cS o c7 V H U cW u c5 Gf X B;go_enter func88,ntmps88
   go_wp2_with fail
   with_reducible refine(ex.out _ bi.out.at_).mono ?_
   rintro e w2 ⟨rfl,ec,cq,m⟩;have P:=Z m;have cm:=Z (bi.out.nx.trans m.nx);have bw:Hid (aP L cq (.own i) L.wb (i*38+4)):=Z (av.out.2.yk av.out.1 m.yk);clear m;go_wp2_with fail
   obtain⟨A,t⟩:=nm (w2.alloc (.cells #[.int .i64 b,.int .i64 a,.int .i64 d,.int .i64 f,.int .u64 j,.int .i64 g,.int .i64 k] 184));have J:=Z (Ch.al (D:=ag) t);have I:Hid (Row A w2.heap.size 184 [.int .i64 b,.int .i64 a,.int .i64 d,.int .i64 f,.int .u64 j,.int .i64 g,.int .i64 k]/\ec w2.heap.size=.no):=Z ⟨by rw[<-t];exact Row.new w2 _ _,P.out.at_.fresh (Nat.le_refl _)⟩;rw[t];clear t;have cl:=Z (P.out.af J.out);obtain⟨a2,a3,ab,ad,al,am,ap⟩:=I.out.1.c7;go_still_tail 6,(by kernel_rfl)
   change wpList _ _ _ _ _ A.drew;go_wp2_with fail
   have eO:=fr.out _ _ _ bw.out cl.out.at_.drew;with_reducible refine eO.mono ?_
   clear eO;rintro e w4 ⟨rfl,gf,fT,eL,eU,eY⟩;have cd:=Z eL;have eC:=Z ((Nx.af (Ch.refl _ A).drew).trans eU);have fE:=Z ((cm.out.trans (Nx.af J.out)).trans eC.out);have g2:=Z eY;clear eL eU eY a2 a3 ab ad al am ap;have es:=Z (eC.out.row I.out.1 I.out.2);have c0:=Z (bw.out.yk O.out.2.1 (g2.out (by intro e;cases e)));have eW:=cd.out.tq O.out.1 c0.out;have f0:=cd.out.g1 O.out.1 c0.out (i*38+4);obtain⟨pc,c8⟩:=nm ((l.F (.own i)).pc);rw[c8]at eW;have cL:=cd.out.qe O.out.1 c0.out (wrap64 ((l.F (.own i)).pc+1));rw[c8]at cL;have fz:=Z cL;have fo:=Z c8;clear cL c8;go_wp2_with fail
   obtain⟨gk,g4,ct⟩:=fz.out;obtain⟨dN,eS⟩:=nm (w4.setCell ⟨L.wb,i*38+4,none⟩ (.int .i64 (wrap64 (pc+1))));rw[eS]at ct⊢;have bv:Hid (dB gf L fT C l (l.ft (.own i)) w4 gk g4 dN):=Z (by unfold KS.ft;rw[fo.out];exact ct);clear ct eS eW f0;have fn:=Z bv.out.at_;have fK:=Z (c0.out.yk O.out.1 bv.out.yk);have fb:=Z (bv.out.nx.row es.out.1 es.out.2);have ce:=Z (jz 0 (.own i) L.wb (i*38+4) cb.out fK.out b a d f j g k ci.out ch.out fn.out.drew);obtain⟨a2,a3,ab,ad,al,am,ap⟩:=fb.out.1.c7;go_still_tail 5,(by kernel_rfl)
   change wpList _ _ _ _ _ dN.drew;go_wp2_with fail
   with_reducible refine ce.out.mono ?_
   rintro e ge ⟨rfl,en,cs,y⟩;have Q:=Z (And.intro y.at_ ((fE.out.trans bv.out.nx).trans ((Nx.af (Ch.refl _ dN).drew).trans y.nx)));clear y;clear a2 a3 ab ad al am ap;go_wp2_with fail
   go_end0
   rw[E.out];exact⟨rfl,en,cs,Q.out.1,Q.out.2⟩
end
end
end Go.Proofs.YtlihkblppjgebaaGreatDoor
