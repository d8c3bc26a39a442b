import Derived.Test.YtfnilkpkogipfaaGreatDoorZAy
set_option linter.all false
set_option maxRecDepth 100000
set_option maxHeartbeats 8000000
namespace Go.Proofs.YtfnilkpkogipfaaGreatDoor
open Go.RowKit Go.Proofs.Tryz
section
section
variable{w:World}{χ:Nat->a4}{L:cw}{Y:Var}{C:KC}{K:KS}
theorem ze{N M:Nat}(U:oC C)(V:Inv N M K)(i4:N<=700000)(i3:M<=700000)(i:Nat)(G:i<K.wk.length)(ce:0<=K.w/\K.w<K.wk.length)(h:ae w χ L Y C K):
 Calls prog 110 #[(L.mb,0),(L.wb,i*38)] w (rB (.tuple #[]) χ L C (jT C K i) w):=by
 obtain⟨hb,es,gs⟩:=h.o4 G false;have i5:=h.qa G;have i6:=h.tn (i*38+2);have W:Inv N M (K.be i {K.W i with parked:=false}):=V.be G rfl rfl ⟨(V.gi G).f,(V.gi G).l0,(V.gi G).l1⟩;obtain⟨K1,cS⟩:=nm (K.be i {K.W i with parked:=false});have a0:i<K1.wk.length:=by rw[<-cS,bA];exact G
 have cf:0<=K1.w/\K1.w<K1.wk.length:=by rw[<-cS,bA];exact ce
 have cl:Hid (jT C K i=if(eu C K1 i none (.own i)).2.1=0 then cY (eu C K1 i none (.own i)).2.2 0 (.own i) (eu C K1 i none (.own i)).1 else if(eu C K1 i none (.own i)).2.1=3∨(eu C K1 i none (.own i)).2.1=2 then gv C (eu C K1 i none (.own i)).2.2 i else(eu C K1 i none (.own i)).2.2):=Z (by unfold jT;rw[cS]);rw[cS]at gs W;have I:=Z gs;have F:aj K1 (.own i):=a0;have c4:aP L es (.own i) L.wb (i*38+4):=⟨rfl,rfl⟩;clear cS gs;have ex:=fun w (h:ae w hb L es C K1)=>o9 (.own i) L.wb (i*38+4) F c4 (W.lz F).r (W.lz F).back U.lv U.ll h
 have gf:=lD U W F;have c2:=nO C F;have a1:=nP C (c:=.own i) i a0;obtain⟨s,S⟩:=nm (cy C K1 (.own i));rw[S]at ex gf c2 a1;obtain⟨x,r,q⟩:=s;dsimp only at ex gf c2 a1;obtain⟨J,hF,c3,cb⟩:=gf;have P:i<q.wk.length:=by rw[c2.2];exact a0
 have ch:0<=q.w/\q.w<q.wk.length:=by rw[a1.2,c2.2];exact cf
 have O:aj q (.own i):=F.gr c2.1 c2.2;obtain⟨d,a,f,g,l,k,m⟩:=x;have ck:Hid (∀w,ae w hb L es C K1->Calls prog 141 #[(L.mb,0),(L.wb,i*38+4)] w (de (.tuple #[.agg #[d,a,f,g,.int .u64 l,k,m],r]) hb L es C K1 q w)):=Z ex;have i1:=Z c2;have H:=Z (And.intro F c4);clear ex c2;rcases hF with rfl|rfl|rfl|rfl
 ·obtain⟨a2,cd⟩:=c3 (Or.inl rfl)
  have fz:Hid (iD d=true->0<=a/\a<32):=Z (fun _=>(dp a2).1);have ci:Hid (q.out.length<=900000):=Z (by have:=J.out;omega);have fd:=Z O;have E:Hid (jT C K i=cY q 0 (.own i) ⟨d,a,f,g,l,k,m⟩):=Z (by rw[cl];unfold eu;rw[S];rfl);clear a2 cd;clear h V G ce W a0 cf F c4 a1 J P ch O c3 cb S U;go_enter func110,ntmps110
  go_wp2_with fail
  with_reducible refine(ck.out _ I.out.at_).mono ?_
  rintro e w2 ⟨rfl,bi,R,b⟩;have z:=Z b;have Q:=Z (I.nx.trans b.nx);have T:Hid (aP L R (.own i) L.wb (i*38+4)):=Z (H.2.yk H.1 b.yk);clear b;go_wp2_with fail
  obtain⟨v,o⟩:=nm (w2.alloc (.cells #[d,a,f,g,.int .u64 l,k,m] 121));have u:=Z (Ch.al (D:=ag) o);have B:Hid (Row v w2.heap.size 121 [d,a,f,g,.int .u64 l,k,m]/\bi w2.heap.size=.no):=Z ⟨by rw[<-o];exact Row.new w2 _ _,z.at_.fresh (Nat.le_refl _)⟩;rw[o];clear o;have c9:=Z (z.af u);have cL:=Z c9.at_;have fn:=Z (jz 0 (.own i) L.wb (i*38+4) fd T d a f g l k m fz ci cL.drew);obtain⟨a3,ab,ad,al,am,ap,av⟩:=B.1.c7;go_still_tail 5,(by kernel_rfl)
  change wpList _ _ _ _ _ v.drew;go_wp2_with fail
  with_reducible refine fn.out.mono ?_
  rintro e eW ⟨rfl,bv,X,t⟩;have A:=Z (And.intro t.at_ ((Q.trans (Nx.af u)).trans ((Nx.af (Ch.refl _ v).drew).trans t.nx)));clear t;clear a3 ab ad al am ap av;go_wp2_with fail
  go_end0
  rw[E];exact⟨rfl,bv,X,A.1,A.2⟩
 ·obtain⟨a2,cd⟩:=c3 (Or.inr rfl)
  have eC:=cb rfl;have fz:Hid (iD d=true->0<=a/\a<32):=Z (fun _=>(dp a2).1);have go:=fun(w:World) (χ:Nat->a4) (Y:Var) (eL:aP L Y (.own i) L.wb (i*38+4)) (h:ae w χ L Y C q)=>mg J (by omega) (by omega) i P none (fun j dr=>by cases dr) (.own i) L.wb (i*38+4) O eL ⟨d,a,f,g,l,k,m⟩ _ a2 eC cd ch U.pl h
  have c5:=iZ (C:=C) J (by omega) P (idO:=none) O (iI.of a2 cd) (fun j dr=>by cases dr);have cq:=j1 (C:=C) J (by omega) (i:=i) (idO:=none) O ⟨d,a,f,g,l,k,m⟩ (fun j dr=>by cases dr);have cm:=i' (C:=C) q i none (.own i) ⟨d,a,f,g,l,k,m⟩;have gk:=nR (C:=C) q i none (.own i) ⟨d,a,f,g,l,k,m⟩;have dN:Hid (eu C K1 i none (.own i)=if(ay C q i none (.own i) ⟨d,a,f,g,l,k,m⟩).1=0 then(⟨d,a,f,g,l,k,m⟩,0,(ay C q i none (.own i) ⟨d,a,f,g,l,k,m⟩).2.ft (.own i))else if(ay C q i none (.own i) ⟨d,a,f,g,l,k,m⟩).1=2 then(⟨d,a,f,g,l,k,m⟩,3,(ay C q i none (.own i) ⟨d,a,f,g,l,k,m⟩).2)else(⟨d,a,f,g,l,k,m⟩,1,(ay C q i none (.own i) ⟨d,a,f,g,l,k,m⟩).2)):=Z (by unfold eu;rw[S];rfl);obtain⟨p,eL⟩:=nm (ay C q i none (.own i) ⟨d,a,f,g,l,k,m⟩);rw[eL]at go c5 cq cm gk dN;obtain⟨n,y⟩:=p;dsimp only at c5 cq cm gk;have fr:Hid (∀(w:World) (χ:Nat->a4) (Y:Var),aP L Y (.own i) L.wb (i*38+4)->ae w χ L Y C q->Calls prog 142 #[(L.mb,0),(L.wb,i*38),.pointer none,(L.wb,i*38+4),.agg #[d,a,f,g,.int .u64 l,k,m]] w (dG (n,y) χ L Y C q w)):=Z go;clear eL go;rcases gk with rfl|rfl|rfl
  ·have cW:=cq rfl
   have hB:i<y.wk.length:=by rw[cW.2];exact P
   have eA:aj y (.own i):=O.gr cW.1 cW.2;have cA:=Z (And.intro eA (And.intro O cW));have fd:Hid (aj (y.ft (.own i)) (.own i)):=Z (eA.gr (bs eA _) (bm _ _));have i2:=Z c5;have ci:Hid ((y.ft (.own i)).out.length<=900000):=Z (by have:(y.ft (.own i)).out=y.out:=rN _ _;rw[this];have:=c5.out;omega);have E:Hid (jT C K i=cY (y.ft (.own i)) 0 (.own i) ⟨d,a,f,g,l,k,m⟩):=Z (by rw[cl,dN];rfl);clear a2 cd eC c5 cq cm;clear cW hB eA;clear h V G ce W a0 cf F c4 a1 J P ch O c3 cb S U;go_enter func110,ntmps110
   go_wp2_with fail
   with_reducible refine(ck.out _ I.out.at_).mono ?_
   rintro e w2 ⟨rfl,bi,R,b⟩;have z:=Z b;have Q:=Z (I.nx.trans b.nx);have T:Hid (aP L R (.own i) L.wb (i*38+4)):=Z (H.2.yk H.1 b.yk);clear b;go_wp2_with fail
   obtain⟨v,o⟩:=nm (w2.alloc (.cells #[d,a,f,g,.int .u64 l,k,m] 121));have u:=Z (Ch.al (D:=ag) o);have B:Hid (Row v w2.heap.size 121 [d,a,f,g,.int .u64 l,k,m]/\bi w2.heap.size=.no):=Z ⟨by rw[<-o];exact Row.new w2 _ _,z.at_.fresh (Nat.le_refl _)⟩;rw[o];clear o;have c9:=Z (z.af u);obtain⟨a3,ab,ad,al,am,ap,av⟩:=B.1.c7;go_still_tail 6,(by kernel_rfl)
   change wpList _ _ _ _ _ v.drew;go_wp2_with fail
   have c1:=fr _ _ _ T c9.at_.drew;with_reducible refine c1.mono ?_
   clear c1;rintro e w4 ⟨rfl,fb,et,c0,c6,c7⟩;have c8:=Z c0;have bw:=Z ((Nx.af (Ch.refl _ v).drew).trans c6);have cQ:=Z ((Q.trans (Nx.af u)).trans bw);have gc:=Z c7;clear c0 c6 c7 a3 ab ad al am ap av;have dC:=Z (bw.row B.1 B.2);have en:=Z (T.yk cA.2.1 (gc (by intro e;cases e)));have hi:=c8.tq cA.1 en;have f0:=c8.g1 cA.1 en (i*38+4);obtain⟨pc,eS⟩:=nm ((y.F (.own i)).pc);rw[eS]at hi;have gr:=c8.qe cA.1 en (wrap64 ((y.F (.own i)).pc+1));rw[eS]at gr;have hu:=Z gr;have hn:=Z eS;clear gr eS;go_wp2_with fail
   obtain⟨i0,hw,ge⟩:=hu.out;obtain⟨gt,hf⟩:=nm (w4.setCell (L.wb,i*38+4) (.int .i64 (wrap64 (pc+1))));rw[hf]at ge⊢;have ec:Hid (dB fb L et C y (y.ft (.own i)) w4 i0 hw gt):=Z (by unfold KS.ft;rw[hn];exact ge);clear ge hf hi f0;have hm:=Z ec.at_;have hv:=Z (en.yk cA.1 ec.yk);have hl:=Z (ec.nx.row dC.1 dC.2);have fn:=Z (jz 0 (.own i) L.wb (i*38+4) fd hv d a f g l k m fz ci hm.drew);obtain⟨a3,ab,ad,al,am,ap,av⟩:=hl.1.c7;go_still_tail 5,(by kernel_rfl)
   change wpList _ _ _ _ _ gt.drew;go_wp2_with fail
   with_reducible refine fn.out.mono ?_
   rintro e eW ⟨rfl,bv,X,t⟩;have A:=Z (And.intro t.at_ ((cQ.trans ec.nx).trans ((Nx.af (Ch.refl _ gt).drew).trans t.nx)));clear t;clear a3 ab ad al am ap av;go_wp2_with fail
   go_end0
   rw[E];exact⟨rfl,bv,X,A.1,A.2⟩
  ·have E:Hid (jT C K i=y):=Z (by rw[cl,dN];rfl)
   clear a2 cd eC c5 cq cm;clear h V G ce W a0 cf F c4 a1 J P ch O c3 cb S U;go_enter func110,ntmps110
   go_wp2_with fail
   with_reducible refine(ck.out _ I.out.at_).mono ?_
   rintro e w2 ⟨rfl,bi,R,b⟩;have z:=Z b;have Q:=Z (I.nx.trans b.nx);have T:Hid (aP L R (.own i) L.wb (i*38+4)):=Z (H.2.yk H.1 b.yk);clear b;go_wp2_with fail
   obtain⟨v,o⟩:=nm (w2.alloc (.cells #[d,a,f,g,.int .u64 l,k,m] 121));have u:=Z (Ch.al (D:=ag) o);have B:Hid (Row v w2.heap.size 121 [d,a,f,g,.int .u64 l,k,m]/\bi w2.heap.size=.no):=Z ⟨by rw[<-o];exact Row.new w2 _ _,z.at_.fresh (Nat.le_refl _)⟩;rw[o];clear o;have c9:=Z (z.af u);obtain⟨a3,ab,ad,al,am,ap,av⟩:=B.1.c7;go_still_tail 6,(by kernel_rfl)
   change wpList _ _ _ _ _ v.drew;go_wp2_with fail
   have c1:=fr _ _ _ T c9.at_.drew;with_reducible refine c1.mono ?_
   clear c1;rintro e w4 ⟨rfl,fb,et,c0,c6,c7⟩;have c8:=Z c0;have bw:=Z ((Nx.af (Ch.refl _ v).drew).trans c6);have cQ:=Z ((Q.trans (Nx.af u)).trans bw);have gc:=Z c7;clear c0 c6 c7 a3 ab ad al am ap av;have dC:=Z (bw.row B.1 B.2);go_wp2_with fail
   go_end0
   rw[E];exact⟨rfl,fb,et,c8,cQ⟩
  ·have he:=cm rfl
   have ci:Hid (y.out.length<=900000):=Z (by have:=c5.out;omega);have cC:Hid (i<y.wk.length):=Z (by rw[he.2];exact P);have E:Hid (jT C K i=gv C y i):=Z (by rw[cl,dN];rfl);clear he;clear a2 cd eC c5 cq cm;clear h V G ce W a0 cf F c4 a1 J P ch O c3 cb S U;go_enter func110,ntmps110
   go_wp2_with fail
   with_reducible refine(ck.out _ I.out.at_).mono ?_
   rintro e w2 ⟨rfl,bi,R,b⟩;have z:=Z b;have Q:=Z (I.nx.trans b.nx);have T:Hid (aP L R (.own i) L.wb (i*38+4)):=Z (H.2.yk H.1 b.yk);clear b;go_wp2_with fail
   obtain⟨v,o⟩:=nm (w2.alloc (.cells #[d,a,f,g,.int .u64 l,k,m] 121));have u:=Z (Ch.al (D:=ag) o);have B:Hid (Row v w2.heap.size 121 [d,a,f,g,.int .u64 l,k,m]/\bi w2.heap.size=.no):=Z ⟨by rw[<-o];exact Row.new w2 _ _,z.at_.fresh (Nat.le_refl _)⟩;rw[o];clear o;have c9:=Z (z.af u);obtain⟨a3,ab,ad,al,am,ap,av⟩:=B.1.c7;go_still_tail 6,(by kernel_rfl)
   change wpList _ _ _ _ _ v.drew;go_wp2_with fail
   have c1:=fr _ _ _ T c9.at_.drew;with_reducible refine c1.mono ?_
   clear c1;rintro e w4 ⟨rfl,fb,et,c0,c6,c7⟩;have c8:=Z c0;have bw:=Z ((Nx.af (Ch.refl _ v).drew).trans c6);have cQ:=Z ((Q.trans (Nx.af u)).trans bw);have gc:=Z c7;clear c0 c6 c7 a3 ab ad al am ap av;have dC:=Z (bw.row B.1 B.2);have cs:=Z (ij i cC c8);go_wp2_with fail
   with_reducible refine cs.out.mono ?_
   rintro e eW ⟨rfl,bv,X,t⟩;have A:=Z (And.intro t.at_ ((cQ).trans t.nx));clear t;go_wp2_with fail
   go_end0
   rw[E];exact⟨rfl,bv,X,A.1,A.2⟩
 ·have ci:Hid (q.out.length<=900000):=Z (by have:=J.out;omega)
  have cC:=Z P;have E:Hid (jT C K i=gv C q i):=Z (by rw[cl];unfold eu;rw[S];rfl);clear h V G ce W a0 cf F c4 a1 J P ch O c3 cb S U;go_enter func110,ntmps110
  go_wp2_with fail
  with_reducible refine(ck.out _ I.out.at_).mono ?_
  rintro e w2 ⟨rfl,bi,R,b⟩;have z:=Z b;have Q:=Z (I.nx.trans b.nx);have T:Hid (aP L R (.own i) L.wb (i*38+4)):=Z (H.2.yk H.1 b.yk);clear b;go_wp2_with fail
  generalize o:w2.alloc _=v;have u:=Z (Ch.al (D:=ag) o);clear o;have cL:=Z (z.af u).at_;have cs:=Z (ij i cC cL);go_wp2_with fail
  with_reducible refine cs.out.mono ?_
  rintro e eW ⟨rfl,bv,X,t⟩;have A:=Z (And.intro t.at_ ((Q.trans (Nx.af u)).trans t.nx));clear t;go_wp2_with fail
  go_end0
  rw[E];exact⟨rfl,bv,X,A.1,A.2⟩
 ·have ci:Hid (q.out.length<=900000):=Z (by have:=J.out;omega)
  have cC:=Z P;have E:Hid (jT C K i=gv C q i):=Z (by rw[cl];unfold eu;rw[S];rfl);clear h V G ce W a0 cf F c4 a1 J P ch O c3 cb S U;go_enter func110,ntmps110
  go_wp2_with fail
  with_reducible refine(ck.out _ I.out.at_).mono ?_
  rintro e w2 ⟨rfl,bi,R,b⟩;have z:=Z b;have Q:=Z (I.nx.trans b.nx);have T:Hid (aP L R (.own i) L.wb (i*38+4)):=Z (H.2.yk H.1 b.yk);clear b;go_wp2_with fail
  generalize o:w2.alloc _=v;have u:=Z (Ch.al (D:=ag) o);clear o;have cL:=Z (z.af u).at_;have cs:=Z (ij i cC cL);go_wp2_with fail
  with_reducible refine cs.out.mono ?_
  rintro e eW ⟨rfl,bv,X,t⟩;have A:=Z (And.intro t.at_ ((Q.trans (Nx.af u)).trans t.nx));clear t;go_wp2_with fail
  go_end0
  rw[E];exact⟨rfl,bv,X,A.1,A.2⟩
theorem kI{N M:Nat}(av:oC C)(dN:Inv N M K)(lc:N<=700000)(lb:M<=700000)(i:Nat)(en:i<K.wk.length)(id:Int)(t:Thread)(a0:aw K.ai id=some t)(et:(K.W i).slot=id)(ci:id≠0)(cq:t.l.length%2=0)(k:Nat)(fz:k+1=t.l.length)(eA:0<=K.w/\K.w<K.wk.length)(h:ae w χ L Y C K):
 Calls prog 112 #[(L.mb,0),(L.wb,i*38),(Y.bB id,0),(Y.fb id k,0)] w (rB (.tuple #[]) χ L C (cz C K i id k) w):=by
 have c2:=dN;have cl:=en;have eC:=eA;have W:=Z (dB.refl h);have fn:Hid (cz C K i id k=if(eu C K i (some id) (.ai id k)).2.1=0 then cY (eu C K i (some id) (.ai id k)).2.2 id (.ai id k) (eu C K i (some id) (.ai id k)).1 else if(eu C K i (some id) (.ai id k)).2.1=3∨(eu C K i (some id) (.ai id k)).2.1=2 then er (eu C K i (some id) (.ai id k)).2.2 id 22 0 else(eu C K i (some id) (.ai id k)).2.2):=Z (by unfold cz;rfl);have U:aj K (.ai id k):=⟨t,a0,by omega⟩;obtain⟨b,hb⟩:=nm (Y.fb id k);obtain⟨tb,am⟩:=nm (Y.bB id);have cC:aP L Y (.ai id k) b 0:=⟨hb.symm,rfl⟩;rw[hb,am];have ih:=pg C (K:=K) (k:=k) a0;have hm:=fun w (h:ae w χ L Y C K)=>o9 (.ai id k) b 0 U cC (c2.lz U).r (c2.lz U).back av.lv av.ll h
 have i6:=lD av c2 U;have cm:=nO C U;have bv:=nP C (c:=.ai id k) i cl;obtain⟨s,al⟩:=nm (cy C K (.ai id k));rw[al]at hm i6 cm bv ih;obtain⟨x,r,g⟩:=s;dsimp only at hm i6 cm bv ih;obtain⟨F,kf,cA,es⟩:=i6;have c3:i<g.wk.length:=by rw[cm.2];exact cl
 have eL:0<=g.w/\g.w<g.wk.length:=by rw[bv.2,cm.2];exact eC
 have X:aj g (.ai id k):=U.gr cm.1 cm.2;obtain⟨t2,A,cs,_⟩:=ih;have bi:=(F.dc A).id;have cL:(g.W i).slot=id:=bv.1.trans et;obtain⟨f,d,l,m,q,o,y⟩:=x;have fd:Hid (∀w,ae w χ L Y C K->Calls prog 141 #[(L.mb,0),(b,0)] w (de (.tuple #[.agg #[f,d,l,m,.int .u64 q,o,y],r]) χ L Y C K g w)):=Z hm;have l0:=Z cm;have V:=Z (And.intro U cC);clear hm cm;rcases kf with rfl|rfl|rfl|rfl
 ·have P:=Z (And.intro a0 am)
  have I:Hid (aw g.ai id=some t2/\t2.id=id/\1<t2.l.length/\t2.l.length<=8):=Z ⟨A,bi,by have:=(F.dc A).l.n0;omega,(F.dc A).l.n8⟩;obtain⟨c4,ex⟩:=cA (Or.inl rfl);have i3:Hid (iD f=true->0<=d/\d<32):=Z (fun _=>(dp c4).1);have c0:Hid (g.out.length<=900000):=Z (by have:=F.out;omega);have i0:=Z X;have E:Hid (cz C K i id k=cY g id (.ai id k) ⟨f,d,l,m,q,o,y⟩):=Z (by rw[fn];unfold eu;rw[al];rfl);clear c4 ex;clear h dN en eA c2 cl eC U cC bv F c3 eL X cA es al av a0 et ci cq fz hb am A cs bi cL;go_enter func112,ntmps112
  go_wp2_with fail
  with_reducible refine(fd.out _ W.out.at_).mono ?_
  rintro e w2 ⟨rfl,ce,a2,a⟩;have Q:=Z a;have a1:=Z (W.nx.trans a.nx);have ap:Hid (aP L a2 (.ai id k) b 0):=Z (V.2.yk V.1 a.yk);have B:=(a.yk id t P.1).1;rw[P.2]at B;have T:=Z B;clear B;clear a;go_wp2_with fail
  obtain⟨J,z⟩:=nm (w2.alloc (.cells #[f,d,l,m,.int .u64 q,o,y] 121));have H:=Z (Ch.al (D:=ag) z);have S:Hid (Row J w2.heap.size 121 [f,d,l,m,.int .u64 q,o,y]/\ce w2.heap.size=.no):=Z ⟨by rw[<-z];exact Row.new w2 _ _,Q.at_.fresh (Nat.le_refl _)⟩;rw[z];clear z;have dC:=Z (Q.af H);have fb:=Z dC.at_;have i1:=Z (jz id (.ai id k) b 0 i0 ap f d l m q o y i3 c0 fb.drew);obtain⟨c5,c6,c7,c8,c9,cb,cd⟩:=S.1.c7;have gs:=fb.gb I.1;rw[I.2.1,T]at gs;go_still_tail 9,(by kernel_rfl)
  change wpList _ _ _ _ _ J.drew;go_wp2_with fail
  with_reducible refine i1.out.mono ?_
  rintro e hB ⟨rfl,cf,c1,O⟩;have R:=Z (And.intro O.at_ ((a1.trans (Nx.af H)).trans ((Nx.af (Ch.refl _ J).drew).trans O.nx)));clear O;clear c5 c6 c7 c8 c9 cb cd gs;go_wp2_with fail
  go_end0
  rw[E];exact⟨rfl,cf,c1,R.1,R.2⟩
 ·have P:=Z (And.intro a0 am)
  have I:Hid (aw g.ai id=some t2/\t2.id=id/\1<t2.l.length/\t2.l.length<=8):=Z ⟨A,bi,by have:=(F.dc A).l.n0;omega,(F.dc A).l.n8⟩;obtain⟨c4,ex⟩:=cA (Or.inr rfl);have hn:=es rfl;have i3:Hid (iD f=true->0<=d/\d<32):=Z (fun _=>(dp c4).1);have i8:=fun(w:World) (χ:Nat->a4) (Y:Var) (hu:aP L Y (.ai id k) b 0) (h:ae w χ L Y C g)=>mg F (by omega) (by omega) i c3 (some id) (fun j ad=>by injection ad with ad;subst ad;exact⟨cL,ci,t2,A,by rw[cs];exact cq⟩) (.ai id k) b 0 X hu ⟨f,d,l,m,q,o,y⟩ _ c4 hn ex eL av.pl h
  have bw:=iZ (C:=C) F (by omega) c3 (idO:=(some id)) X (iI.of c4 ex) (fun j ad=>by injection ad with ad;subst ad;exact⟨cL,ci,t2,A,by rw[cs];exact cq⟩);have ge:=j1 (C:=C) F (by omega) (i:=i) (idO:=(some id)) X ⟨f,d,l,m,q,o,y⟩ (fun j ad=>by injection ad with ad;subst ad;exact⟨t2,A⟩);have gc:=i' (C:=C) g i (some id) (.ai id k) ⟨f,d,l,m,q,o,y⟩;have i7:=nR (C:=C) g i (some id) (.ai id k) ⟨f,d,l,m,q,o,y⟩;have he:Hid (eu C K i (some id) (.ai id k)=if(ay C g i (some id) (.ai id k) ⟨f,d,l,m,q,o,y⟩).1=0 then(⟨f,d,l,m,q,o,y⟩,0,(ay C g i (some id) (.ai id k) ⟨f,d,l,m,q,o,y⟩).2.ft (.ai id k))else if(ay C g i (some id) (.ai id k) ⟨f,d,l,m,q,o,y⟩).1=2 then(⟨f,d,l,m,q,o,y⟩,3,(ay C g i (some id) (.ai id k) ⟨f,d,l,m,q,o,y⟩).2)else(⟨f,d,l,m,q,o,y⟩,1,(ay C g i (some id) (.ai id k) ⟨f,d,l,m,q,o,y⟩).2)):=Z (by unfold eu;rw[al];rfl);obtain⟨p,hu⟩:=nm (ay C g i (some id) (.ai id k) ⟨f,d,l,m,q,o,y⟩);rw[hu]at i8 bw ge gc i7 he;obtain⟨n,G⟩:=p;dsimp only at bw ge gc i7;have i2:Hid (∀(w:World) (χ:Nat->a4) (Y:Var),aP L Y (.ai id k) b 0->ae w χ L Y C g->Calls prog 142 #[(L.mb,0),(L.wb,i*38),(Y.bB id,0),(b,0),.agg #[f,d,l,m,.int .u64 q,o,y]] w (dG (n,G) χ L Y C g w)):=Z i8;clear hu i8;rcases i7 with rfl|rfl|rfl
  ·have fr:=ge rfl
   have kd:i<G.wk.length:=by rw[fr.2];exact c3
   have ec:aj G (.ai id k):=X.gr fr.1 fr.2;have eW:=Z (And.intro ec (And.intro X fr));have i0:Hid (aj (G.ft (.ai id k)) (.ai id k)):=Z (ec.gr (bs ec _) (bm _ _));have l1:=Z bw;have c0:Hid ((G.ft (.ai id k)).out.length<=900000):=Z (by have:(G.ft (.ai id k)).out=G.out:=rN _ _;rw[this];have:=bw.out;omega);have E:Hid (cz C K i id k=cY (G.ft (.ai id k)) id (.ai id k) ⟨f,d,l,m,q,o,y⟩):=Z (by rw[fn,he];rfl);obtain⟨t4,ii⟩:∃t4,aw (G.ft (.ai id k)).ai id=some t4:=by obtain⟨u,hw,_⟩:=fr.1 id t2 A;obtain⟨v,kw,_⟩:=bs ec {G.F (.ai id k)with pc:=wrap64 ((G.F (.ai id k)).pc+1)} id u hw;exact⟨v,kw⟩
   have it:Hid (aw (G.ft (.ai id k)).ai id=some t4/\t4.id=id):=Z ⟨ii,((bw.cH ec ((bw.lz ec).pc _)).dc ii).id⟩;clear ii;clear c4 ex hn bw ge gc;clear fr kd ec;clear h dN en eA c2 cl eC U cC bv F c3 eL X cA es al av a0 et ci cq fz hb am A cs bi cL;go_enter func112,ntmps112
   go_wp2_with fail
   with_reducible refine(fd.out _ W.out.at_).mono ?_
   rintro e w2 ⟨rfl,ce,a2,a⟩;have Q:=Z a;have a1:=Z (W.nx.trans a.nx);have ap:Hid (aP L a2 (.ai id k) b 0):=Z (V.2.yk V.1 a.yk);have B:=(a.yk id t P.1).1;rw[P.2]at B;have T:=Z B;clear B;clear a;go_wp2_with fail
   obtain⟨J,z⟩:=nm (w2.alloc (.cells #[f,d,l,m,.int .u64 q,o,y] 121));have H:=Z (Ch.al (D:=ag) z);have S:Hid (Row J w2.heap.size 121 [f,d,l,m,.int .u64 q,o,y]/\ce w2.heap.size=.no):=Z ⟨by rw[<-z];exact Row.new w2 _ _,Q.at_.fresh (Nat.le_refl _)⟩;rw[z];clear z;have dC:=Z (Q.af H);obtain⟨c5,c6,c7,c8,c9,cb,cd⟩:=S.1.c7;go_still_tail 7,(by kernel_rfl)
   change wpList _ _ _ _ _ J.drew;go_wp2_with fail
   have ab:=i2 _ _ _ ap dC.at_.drew;rw[T]at ab;with_reducible refine ab.mono ?_
   clear ab;rintro e w4 ⟨rfl,hF,hl,ck,cQ,cW⟩;have dr:=Z ck;have ch:=Z ((Nx.af (Ch.refl _ J).drew).trans cQ);have go:=Z ((a1.trans (Nx.af H)).trans ch);have gr:=Z cW;clear ck cQ cW c5 c6 c7 c8 c9 cb cd;have gt:=Z (ch.row S.1 S.2);have hi:=Z (ap.yk eW.2.1 (gr (by intro e;cases e)));have k1:=dr.tq eW.1 hi;have f0:=dr.g1 eW.1 hi 0;obtain⟨pc,hv⟩:=nm ((G.F (.ai id k)).pc);rw[hv]at k1;have i9:=dr.qe eW.1 hi (wrap64 ((G.F (.ai id k)).pc+1));rw[hv]at i9;have k4:=Z i9;have k3:=Z hv;clear i9 hv;have eS:=(gr (by intro e;cases e) id t2 I.1).1;rw[T]at eS;have i4:=Z eS;clear eS;go_wp2_with fail
   obtain⟨kT,kb,i5⟩:=k4.out;obtain⟨io,k0⟩:=nm (w4.setCell (b,0) (.int .i64 (wrap64 (pc+1))));rw[k0]at i5⊢;have gk:Hid (dB hF L hl C G (G.ft (.ai id k)) w4 kT kb io):=Z (by unfold KS.ft;rw[k3];exact i5);clear i5 k0 k1 f0;have ip:=Z gk.at_;have k5:=Z (hi.yk eW.1 gk.yk);have k2:=Z (gk.nx.row gt.1 gt.2);have i1:=Z (jz id (.ai id k) b 0 i0 k5 f d l m q o y i3 c0 ip.drew);obtain⟨c5,c6,c7,c8,c9,cb,cd⟩:=k2.1.c7;have gs:=ip.gb it.1;obtain⟨u,hw,_⟩:=eW.2.2.1 id t2 I.1;rw[it.2,(gk.yk id u hw).1,i4]at gs;clear hw;go_still_tail 9,(by kernel_rfl)
   change wpList _ _ _ _ _ io.drew;go_wp2_with fail
   with_reducible refine i1.out.mono ?_
   rintro e hB ⟨rfl,cf,c1,O⟩;have R:=Z (And.intro O.at_ ((go.trans gk.nx).trans ((Nx.af (Ch.refl _ io).drew).trans O.nx)));clear O;clear c5 c6 c7 c8 c9 cb cd gs;go_wp2_with fail
   go_end0
   rw[E];exact⟨rfl,cf,c1,R.1,R.2⟩
  ·have E:Hid (cz C K i id k=G):=Z (by rw[fn,he];rfl)
   clear c4 ex hn bw ge gc;clear h dN en eA c2 cl eC U cC bv F c3 eL X cA es al av a0 et ci cq fz hb am A cs bi cL;go_enter func112,ntmps112
   go_wp2_with fail
   with_reducible refine(fd.out _ W.out.at_).mono ?_
   rintro e w2 ⟨rfl,ce,a2,a⟩;have Q:=Z a;have a1:=Z (W.nx.trans a.nx);have ap:Hid (aP L a2 (.ai id k) b 0):=Z (V.2.yk V.1 a.yk);have B:=(a.yk id t P.1).1;rw[P.2]at B;have T:=Z B;clear B;clear a;go_wp2_with fail
   obtain⟨J,z⟩:=nm (w2.alloc (.cells #[f,d,l,m,.int .u64 q,o,y] 121));have H:=Z (Ch.al (D:=ag) z);have S:Hid (Row J w2.heap.size 121 [f,d,l,m,.int .u64 q,o,y]/\ce w2.heap.size=.no):=Z ⟨by rw[<-z];exact Row.new w2 _ _,Q.at_.fresh (Nat.le_refl _)⟩;rw[z];clear z;have dC:=Z (Q.af H);obtain⟨c5,c6,c7,c8,c9,cb,cd⟩:=S.1.c7;go_still_tail 7,(by kernel_rfl)
   change wpList _ _ _ _ _ J.drew;go_wp2_with fail
   have ab:=i2 _ _ _ ap dC.at_.drew;rw[T]at ab;with_reducible refine ab.mono ?_
   clear ab;rintro e w4 ⟨rfl,hF,hl,ck,cQ,cW⟩;have dr:=Z ck;have ch:=Z ((Nx.af (Ch.refl _ J).drew).trans cQ);have go:=Z ((a1.trans (Nx.af H)).trans ch);have gr:=Z cW;clear ck cQ cW c5 c6 c7 c8 c9 cb cd;have gt:=Z (ch.row S.1 S.2);go_wp2_with fail
   go_end0
   rw[E];exact⟨rfl,hF,hl,dr,go⟩
  ·have jp:=gc rfl
   have c0:Hid (G.out.length<=900000):=Z (by have:=bw.out;omega);have hf:Hid (aw G.ai id=some t2/\t2.id=id/\1<t2.l.length/\t2.l.length<=8):=Z ⟨by rw[jp.1];exact A,I.2⟩;have E:Hid (cz C K i id k=er G id 22 0):=Z (by rw[fn,he];rfl);clear jp;clear c4 ex hn bw ge gc;clear h dN en eA c2 cl eC U cC bv F c3 eL X cA es al av a0 et ci cq fz hb am A cs bi cL;go_enter func112,ntmps112
   go_wp2_with fail
   with_reducible refine(fd.out _ W.out.at_).mono ?_
   rintro e w2 ⟨rfl,ce,a2,a⟩;have Q:=Z a;have a1:=Z (W.nx.trans a.nx);have ap:Hid (aP L a2 (.ai id k) b 0):=Z (V.2.yk V.1 a.yk);have B:=(a.yk id t P.1).1;rw[P.2]at B;have T:=Z B;clear B;clear a;go_wp2_with fail
   obtain⟨J,z⟩:=nm (w2.alloc (.cells #[f,d,l,m,.int .u64 q,o,y] 121));have H:=Z (Ch.al (D:=ag) z);have S:Hid (Row J w2.heap.size 121 [f,d,l,m,.int .u64 q,o,y]/\ce w2.heap.size=.no):=Z ⟨by rw[<-z];exact Row.new w2 _ _,Q.at_.fresh (Nat.le_refl _)⟩;rw[z];clear z;have dC:=Z (Q.af H);obtain⟨c5,c6,c7,c8,c9,cb,cd⟩:=S.1.c7;go_still_tail 7,(by kernel_rfl)
   change wpList _ _ _ _ _ J.drew;go_wp2_with fail
   have ab:=i2 _ _ _ ap dC.at_.drew;rw[T]at ab;with_reducible refine ab.mono ?_
   clear ab;rintro e w4 ⟨rfl,hF,hl,ck,cQ,cW⟩;have dr:=Z ck;have ch:=Z ((Nx.af (Ch.refl _ J).drew).trans cQ);have go:=Z ((a1.trans (Nx.af H)).trans ch);have gr:=Z cW;clear ck cQ cW c5 c6 c7 c8 c9 cb cd;have gt:=Z (ch.row S.1 S.2);have eS:=(gr (by intro e;cases e) id t2 I.1).1;rw[T]at eS;have i4:=Z eS;clear eS;have a3:=hh id t2 hf.1 hf.2.1 hf.2.2.1 hf.2.2.2 22 0 c0 dr;rw[i4]at a3;have gf:=Z a3;clear a3;go_wp2_with fail
   with_reducible refine gf.out.mono ?_
   rintro e hB ⟨rfl,cf,c1,O,cS⟩;have R:=Z (And.intro O ((go).trans cS));clear O cS;go_wp2_with fail
   go_end0
   rw[E];exact⟨rfl,cf,c1,R.1,R.2⟩
 ·have P:=Z (And.intro a0 am)
  have I:Hid (aw g.ai id=some t2/\t2.id=id/\1<t2.l.length/\t2.l.length<=8):=Z ⟨A,bi,by have:=(F.dc A).l.n0;omega,(F.dc A).l.n8⟩;have c0:Hid (g.out.length<=900000):=Z (by have:=F.out;omega);have E:Hid (cz C K i id k=er g id 22 0):=Z (by rw[fn];unfold eu;rw[al];rfl);clear h dN en eA c2 cl eC U cC bv F c3 eL X cA es al av a0 et ci cq fz hb am A cs bi cL;go_enter func112,ntmps112
  go_wp2_with fail
  with_reducible refine(fd.out _ W.out.at_).mono ?_
  rintro e w2 ⟨rfl,ce,a2,a⟩;have Q:=Z a;have a1:=Z (W.nx.trans a.nx);have ap:Hid (aP L a2 (.ai id k) b 0):=Z (V.2.yk V.1 a.yk);have B:=(a.yk id t P.1).1;rw[P.2]at B;have T:=Z B;clear B;clear a;go_wp2_with fail
  generalize z:w2.alloc _=J;have H:=Z (Ch.al (D:=ag) z);clear z;have fb:=Z (Q.af H).at_;have a3:=hh id t2 I.1 I.2.1 I.2.2.1 I.2.2.2 22 0 c0 fb;rw[T]at a3;have gf:=Z a3;clear a3;go_wp2_with fail
  with_reducible refine gf.out.mono ?_
  rintro e hB ⟨rfl,cf,c1,O,cS⟩;have R:=Z (And.intro O ((a1.trans (Nx.af H)).trans cS));clear O cS;go_wp2_with fail
  go_end0
  rw[E];exact⟨rfl,cf,c1,R.1,R.2⟩
 ·have P:=Z (And.intro a0 am)
  have I:Hid (aw g.ai id=some t2/\t2.id=id/\1<t2.l.length/\t2.l.length<=8):=Z ⟨A,bi,by have:=(F.dc A).l.n0;omega,(F.dc A).l.n8⟩;have c0:Hid (g.out.length<=900000):=Z (by have:=F.out;omega);have E:Hid (cz C K i id k=er g id 22 0):=Z (by rw[fn];unfold eu;rw[al];rfl);clear h dN en eA c2 cl eC U cC bv F c3 eL X cA es al av a0 et ci cq fz hb am A cs bi cL;go_enter func112,ntmps112
  go_wp2_with fail
  with_reducible refine(fd.out _ W.out.at_).mono ?_
  rintro e w2 ⟨rfl,ce,a2,a⟩;have Q:=Z a;have a1:=Z (W.nx.trans a.nx);have ap:Hid (aP L a2 (.ai id k) b 0):=Z (V.2.yk V.1 a.yk);have B:=(a.yk id t P.1).1;rw[P.2]at B;have T:=Z B;clear B;clear a;go_wp2_with fail
  generalize z:w2.alloc _=J;have H:=Z (Ch.al (D:=ag) z);clear z;have fb:=Z (Q.af H).at_;have a3:=hh id t2 I.1 I.2.1 I.2.2.1 I.2.2.2 22 0 c0 fb;rw[T]at a3;have gf:=Z a3;clear a3;go_wp2_with fail
  with_reducible refine gf.out.mono ?_
  rintro e hB ⟨rfl,cf,c1,O,cS⟩;have R:=Z (And.intro O ((a1.trans (Nx.af H)).trans cS));clear O cS;go_wp2_with fail
  go_end0
  rw[E];exact⟨rfl,cf,c1,R.1,R.2⟩
end
end
end Go.Proofs.YtfnilkpkogipfaaGreatDoor
