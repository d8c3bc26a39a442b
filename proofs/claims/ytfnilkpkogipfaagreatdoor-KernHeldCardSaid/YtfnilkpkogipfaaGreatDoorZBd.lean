import Derived.Test.YtfnilkpkogipfaaGreatDoorZAp
set_option linter.all false
set_option maxRecDepth 100000
set_option maxHeartbeats 8000000
namespace Go.Proofs.YtfnilkpkogipfaaGreatDoor
open Go.RowKit Go.Proofs.Tryz
section
def oI(C:KC)(K:KS)(id op kind a b v:Int):KS:={K with mem:=(bG C K id op (K.mem,K.out) kind a b v).2.1,out:=(bG C K id op (K.mem,K.out) kind a b v).2.2}
def im(x:Option Int)(χ:Nat->a4)(L:cw)(Y:Var)(C:KC)(K K':KS)(w:World)(e:Ending)(w':World):Prop:=
 (match x with
  |some v=>e=.returned (.tuple #[.int .u64 v,.nilIface])
  |none=>∃n v,e=.returned (.tuple #[.int .u64 n,v])/\aq v)/\(∃aW Y',dB χ L Y C K K' w aW Y' w')/\Ch (fun i=>χ i=.mem∨χ i=.gx∨χ i=.out) w w'
section
variable{w w':World}{χ:Nat->a4}{L:cw}{Y:Var}{C:KC}{K:KS}
theorem zr(h:Ch (fun i=>χ i=.mem) w w'):Ch (fun i=>χ i=.mem∨χ i=.gx∨χ i=.out) w w':=h.mono fun _ h=>Or.inl h
theorem D'(h:Ch (fun i=>χ i=.gx∨χ i=.out) w w'):Ch (fun i=>χ i=.mem∨χ i=.gx∨χ i=.out) w w':=h.mono fun _ h=>Or.inr h
theorem zs{P:a4->Prop}{χ a:Nat->a4}{w w1 w2:World}(h:Ch (fun i=>P (χ i)) w w1)(d:∀i,i<w.heap.size->a i=χ i)(k:Ch (fun i=>P (a i)) w1 w2):Ch (fun i=>P (χ i)) w w2:=
 h.join k fun i b c=>by rw[<-d i b];exact c
theorem kK{p1 p2 p3:Value}(k:Int)(F:Value)(J:Nat)(I:Int->Array Value)(hF:(F=.func (.func 30) #[.pointer (some ⟨L.m,0,none⟩)] #[]/\J=30/\I=fun c=>#[.pointer (some ⟨L.m,0,none⟩),.int .u64 c])∨(F=.func (.func 249) #[] #[p1,p2]/\J=249/\I=fun c=>#[.int .u64 c,p1,p2])∨(F=.func (.func 247) #[] #[p1,p2]/\J=247/\I=fun c=>#[.int .u64 c,p1,p2])∨(F=.func (.func 248) #[] #[p1,p2,p3]/\J=248/\I=fun c=>#[.int .u64 c,p1,p2,p3]))(V:0<=C.wide/\C.wide<=256/\0<=C.narrow/\C.narrow<=256)(Q:K.out.length<=900000)(id op a g v:Int)(cS:aH a)
 (r:∀c w1,aH c->Ch ag w w1->Calls prog J (I c) w1 (l9 (K.mem.acc k c g v).1 χ L Y C K {K with mem:=(K.mem.acc k c g v).2} w1)) (h:ae w χ L Y C K):
 Calls prog 246 #[.agg #[.pointer (some ⟨L.mb,0,none⟩),.int .u64 id,op],.int .u64 a,F] w (im (bG C K id op (K.mem,K.out) k a g v).1 χ L Y C K (oI C K id op k a g v) w):=by
 obtain⟨ce,n⟩:=nm (w.alloc (.cells #[.pointer (some ⟨L.mb,0,none⟩),.int .u64 id,op] 294));have o:=Z (Ch.al (D:=ag) n);have j:=Z (h.hg o);have ad:=Z (Row.al n);obtain⟨t,c2,c3⟩:=ad.c3;have c9:0<=C.cells/\C.cells<=512:=by unfold KC.cells;omega
 have c1:=(h.wk (by simp)).n;have c8:0<=gH K/\gH K<=600:=by unfold gH;omega
 have T:=Z (fun w (h:ae w χ L Y C K)=>nv h V);have am:=Z (fun w (h:ae w χ L Y C K)=>lq h);obtain⟨H,N⟩:=nm C.cells;obtain⟨l,M⟩:=nm (gH K);rw[N]at T c9;rw[M]at am c8;obtain⟨fr,fz⟩:=c9;obtain⟨fd,fn⟩:=c8;have a3:IntKind.u64.wrap H=H:=by unfold IntKind.wrap IntKind.bits IntKind.signed;simp;omega
 have a2:IntKind.u64.wrap l=l:=by unfold IntKind.wrap IntKind.bits IntKind.signed;simp;omega
 obtain⟨eW,fb⟩:=cS;have eC:=Z Q;rcases hF with⟨rfl,rfl,rfl⟩|⟨rfl,rfl,rfl⟩|⟨rfl,rfl,rfl⟩|⟨rfl,rfl,rfl⟩
 all_goals
  dsimp only at r;have eA:=Z r;have A:=Z (And.intro N M);have B:=Z (And.intro a3 a2);have ci:Hid (χ w.heap.size=.no):=Z (Classical.not_not.1 fun e=>absurd (h.small _ e) (by omega));by_cases cb:H<=a
  ·have E:Hid (bG C K id op (K.mem,K.out) k a g v=(none,K.mem,K.out)):=Z (by unfold bG;rw[A.1,B.1,if_pos cb])
   have x:Hid (oI C K id op k a g v=K):=Z (by unfold oI;rw[E]);clear h V Q r c1 N M a3 a2;go_enter func246,ntmps246
   go_wp2_with fail
   try rw[n]
   clear n;with_reducible refine(T.out _ j.out.at_).mono ?_
   rintro e w1 ⟨rfl,s,rfl⟩;go_wp2_with fail
   with_reducible refine(e8 _ _ _ _).mono ?_
   rintro e w2 ⟨rfl,m⟩;have b:=Z (Ch.al (D:=ag) m);clear m;go_wp2_with fail
   go_ret2;rw[E,x];exact⟨⟨_,_,rfl,aq.mk _ _⟩,⟨_,_,(j.af ((Ch.refl _ _).drewN s)).af b⟩,((o.trans ((Ch.refl _ _).drewN s)).trans b).af⟩
  ·have gc:a<H:=by omega
   have a1:IntKind.u64.wrap (l+a)=l+a:=by unfold IntKind.wrap IntKind.bits IntKind.signed;simp;omega
   have O:aH (l+a):=⟨by omega,by omega⟩;have ck:=Z (fun(w:World) (χ:Nat->a4) (Y:Var) (K:KS) (h:ae w χ L Y C K)=>ny (l+a) O h);have eL:=Z O;have W:¬H<=a:=cb;obtain⟨q,X⟩:=nm (K.mem.acc k (l+a) g v);obtain⟨en,G⟩:=q;have c7:=Z X;have bv:=fun w1 (dr:Ch ag w w1)=>r (l+a) w1 O dr
   rw[X]at bv;have c5:=Z bv;clear bv;cases en with
   |none=>
    have E:Hid (bG C K id op (K.mem,K.out) k a g v=(none,G,K.out)):=Z (by unfold bG;rw[A.1,B.1,if_neg W,A.2,B.2,a1];dsimp only;rw[c7]);have x:Hid (oI C K id op k a g v={K with mem:=G}):=Z (by unfold oI;rw[E]);clear h V Q r c1 N M a3 a2 a1 O X W;go_enter func246,ntmps246
    go_wp2_with fail
    try rw[n]
    clear n;with_reducible refine(T.out _ j.out.at_).mono ?_
    rintro e w1 ⟨rfl,s,rfl⟩;obtain⟨w2,m⟩:=nm (ce.drewN s);have b:=Z (Ch.dN (D:=ag) m);rw[m];clear m t c2 c3;have ap:=Z (j.af b);have z:=Z (ad.ch b (fun h=>h));have t:=z.c1;go_wp2_with fail
    with_reducible refine(am.out _ ap.out.at_).mono ?_
    rintro e es ⟨rfl,rfl⟩;go_wp2_with fail
    with_reducible refine(c5.out _ (o.out.trans b.out)).mono ?_
    rintro e w4 ⟨⟨⟨u,rfl,cW⟩,ab,cs,p⟩,f⟩;obtain⟨tt,go,rfl⟩:=cW;have d:=Z (And.intro p f);clear p f;go_wp2_with fail
    go_ret2;rw[E,x];exact⟨⟨_,_,rfl,aq.mk _ _⟩,⟨_,_,d.1.at_,(j.nx.trans (Nx.af b)).trans d.1.nx,d.1.yk⟩,(o.trans b).af.trans (zr d.2)⟩
   |some held=>
    obtain⟨ec,cd⟩:=nm (G.acc 0 (l+a) 0 0);obtain⟨k1,U⟩:=ec;have c6:=Z cd;obtain⟨a0,bw⟩:=nm (k1.getD 0);have E:Hid (bG C K id op (K.mem,K.out) k a g v=(some held,U,K.out++[⟨3,K.at_,K.w,id,op,held,a0,0,0,a,0⟩])):=Z (by unfold bG;rw[A.1,B.1,if_neg W,A.2,B.2,a1];dsimp only;rw[c7];dsimp only;rw[c6];dsimp only;rw[bw]);have x:Hid (oI C K id op k a g v=tell {K with mem:=U} ⟨3,0,0,id,op,held,a0,0,0,a,0⟩):=Z (by unfold oI;rw[E];rfl);have cm:Hid (hd ({K with mem:=G}:KS) (l+a)=(a0,{K with mem:=U})):=Z (by unfold hd;dsimp only;rw[c6,<-bw]);have cq:=Z (fun(w:World) (χ:Nat->a4) (Y:Var) (h:ae w χ L Y C ({K with mem:=U}:KS))=>nz 3 0 0 id op held a0 0 0 a 0 (by exact Q) h);have c0:=fun(w:World) (χ:Nat->a4) (Y:Var) (h:ae w χ L Y C ({K with mem:=G}:KS))=>ck w χ Y _ h
    rw[cm]at c0;have cl:=Z c0;clear c0;clear h V Q r c1 N M a3 a2 a1 O X W cd bw;go_enter func246,ntmps246
    go_wp2_with fail
    try rw[n]
    clear n;with_reducible refine(T.out _ j.out.at_).mono ?_
    rintro e w1 ⟨rfl,s,rfl⟩;obtain⟨w2,m⟩:=nm (ce.drewN s);have b:=Z (Ch.dN (D:=ag) m);rw[m];clear m t c2 c3;have ap:=Z (j.af b);have z:Hid (Row w2 w.heap.size 294 [.pointer (some ⟨L.mb,0,none⟩),.int .u64 id,op]/\χ w.heap.size=.no):=Z ⟨ad.ch b (fun h=>h),ci⟩;have t:=z.1.c1;go_wp2_with fail
    with_reducible refine(am.out _ ap.out.at_).mono ?_
    rintro e es ⟨rfl,rfl⟩;go_wp2_with fail
    with_reducible refine(c5.out _ (o.out.trans b.out)).mono ?_
    rintro e w4 ⟨⟨rfl,ab,cs,p⟩,f⟩;have d:=Z (And.intro p f);have S:=Z (p.nx.row z.1 z.2);clear p f t;obtain⟨t,c2,c3⟩:=S.1.c3;go_wp2_with fail
    go_region_held3 (S.1.c3) (go_keep) (first|(go_at_call 81;refine(cl _ _ _ d.1.at_.drew).mono ?_;rintro e cf ⟨⟨rfl,c4,eS,av⟩,f⟩;have y:=Z (And.intro av f);have al:=Z (((Nx.af (Ch.refl _ w4).drew).trans av.nx).row S.1 S.2);clear av f;obtain⟨ge,gf,gk⟩:=al.1.c3)|(go_at_call 106;refine(cq _ _ _ y.1.at_).mono ?_;rintro e et ⟨⟨rfl,ex,cA,bi⟩,f⟩;have R:=Z (And.intro bi f);have ch:=Z (bi.nx.row al.1 al.2);clear bi f;obtain⟨y0,gr,gs⟩:=ch.1.c3))
    all_goals
     go_wp2_with fail
     go_ret2;rw[E,x];refine⟨rfl,⟨ex,cA,R.1.at_,?_,?_⟩,?_⟩
     ·exact(((j.nx.trans (Nx.af b)).trans d.1.nx).trans ((Nx.af (Ch.refl _ w4).drew).trans y.1.nx)).trans R.1.nx
     ·exact(d.1.yk.trans (Gr.of_eq rfl) y.1.yk).trans (Gr.of_eq rfl) R.1.yk
     ·have cC:Ch (fun i=>χ i=.mem∨χ i=.gx∨χ i=.out) w w4:=(o.trans b).af.trans (zr d.2)
      have cL:Ch (fun i=>ab i=.mem∨ab i=.gx∨ab i=.out) w4 cf:=(zr ((Ch.refl _ w4).drew.trans y.2));have cQ:Ch (fun i=>c4 i=.mem∨c4 i=.gx∨c4 i=.out) cf et:=D' R.2;have dC:=((j.nx.trans (Nx.af b)).trans d.1.nx).same;have dN:=(((j.nx.trans (Nx.af b)).trans d.1.nx).trans ((Nx.af (Ch.refl _ w4).drew).trans y.1.nx)).same;exact zs (P:=fun c=>c=.mem∨c=.gx∨c=.out) (zs (P:=fun c=>c=.mem∨c=.gx∨c=.out) cC dC cL) dN cQ
theorem Bn(id op a E v:Int)(x:aH a)(A:aH v)(g j:Nat)(m:Row w g 294 [(L.mb,0),.int .u64 id,op])(n:Row w j 56 [.int .u64 v])(y:χ g=.no/\χ j=.no)(h:ae w χ L Y C K):
 Calls prog 249 #[.int .u64 a,(g,0),(j,0)] w (l9 (K.mem.acc 2 a 0 v).1 χ L Y C K {K with mem:=(K.mem.acc 2 a 0 v).2} w):=by
 have F:=m.c1;have G:=n.c1;have D:=h.cP;have k:=Z (CB a v x A h.drew);have d:=Z (And.intro m (And.intro y n));obtain⟨q,p⟩:=nm (K.mem.acc 2 a 0 v);rw[p]at k⊢;obtain⟨r,B⟩:=q;clear h m n p;cases r with
 |none=>
  go_enter func249,ntmps249
  go_wp2_with fail
  go_region_held3 (fun w'=>w'.cell? (g,0)=some (.pointer (some (L.mb,0)))/\w'.cell? (L.mb,1007)=some (.pointer (some (L.m,0)))/\w'.cell? (j,0)=some (.int .u64 v)) (go_keep) ((go_at_call 230;refine k.mono ?_;rintro e w4 ⟨⟨⟨u,rfl,z⟩,o,l,b⟩,f⟩;obtain⟨tt,H,rfl⟩:=z;have c:=Z (And.intro b f);have s:=(b.nx.row (w:=w.drew) (d.1.drew) d.2.1.1).1.cell (i:=0) rfl;have t:=b.at_.cP;have d0:=(b.nx.row (w:=w.drew) (d.2.2.drew) d.2.1.2).1.cell (i:=0) rfl;clear b f))
  all_goals
   go_wp2_with fail
   go_ret2;exact⟨⟨⟨_,rfl,aq.mk _ _⟩,o,l,c.1.at_,(Nx.af (Ch.refl _ w).drew).trans c.1.nx,c.1.yk⟩,(Ch.refl _ w).drew.trans c.2⟩
 |some r=>
  go_enter func249,ntmps249
  go_wp2_with fail
  go_region_held3 (fun w'=>w'.cell? (g,0)=some (.pointer (some (L.mb,0)))/\w'.cell? (L.mb,1007)=some (.pointer (some (L.m,0)))/\w'.cell? (j,0)=some (.int .u64 v)) (go_keep) ((go_at_call 230;refine k.mono ?_;rintro e w4 ⟨⟨rfl,o,l,b⟩,f⟩;have c:=Z (And.intro b f);have s:=(b.nx.row (w:=w.drew) (d.1.drew) d.2.1.1).1.cell (i:=0) rfl;have t:=b.at_.cP;have d0:=(b.nx.row (w:=w.drew) (d.2.2.drew) d.2.1.2).1.cell (i:=0) rfl;clear b f))
  all_goals
   go_wp2_with fail
   go_ret2;exact⟨⟨rfl,o,l,c.1.at_,(Nx.af (Ch.refl _ w).drew).trans c.1.nx,c.1.yk⟩,(Ch.refl _ w).drew.trans c.2⟩
theorem CU(id op a E v:Int)(x:aH a)(A:aH v)(g j:Nat)(m:Row w g 294 [(L.mb,0),.int .u64 id,op])(n:Row w j 56 [.int .u64 v])(y:χ g=.no/\χ j=.no)(h:ae w χ L Y C K):
 Calls prog 247 #[.int .u64 a,(g,0),(j,0)] w (l9 (K.mem.acc 3 a 0 v).1 χ L Y C K {K with mem:=(K.mem.acc 3 a 0 v).2} w):=by
 have F:=m.c1;have G:=n.c1;have D:=h.cP;have k:=Z (BW a v x A h.drew);have d:=Z (And.intro m (And.intro y n));obtain⟨q,p⟩:=nm (K.mem.acc 3 a 0 v);rw[p]at k⊢;obtain⟨r,B⟩:=q;clear h m n p;cases r with
 |none=>
  go_enter func247,ntmps247
  go_wp2_with fail
  go_region_held3 (fun w'=>w'.cell? (g,0)=some (.pointer (some (L.mb,0)))/\w'.cell? (L.mb,1007)=some (.pointer (some (L.m,0)))/\w'.cell? (j,0)=some (.int .u64 v)) (go_keep) ((go_at_call 140;refine k.mono ?_;rintro e w4 ⟨⟨⟨u,rfl,z⟩,o,l,b⟩,f⟩;obtain⟨tt,H,rfl⟩:=z;have c:=Z (And.intro b f);have s:=(b.nx.row (w:=w.drew) (d.1.drew) d.2.1.1).1.cell (i:=0) rfl;have t:=b.at_.cP;have d0:=(b.nx.row (w:=w.drew) (d.2.2.drew) d.2.1.2).1.cell (i:=0) rfl;clear b f))
  all_goals
   go_wp2_with fail
   go_ret2;exact⟨⟨⟨_,rfl,aq.mk _ _⟩,o,l,c.1.at_,(Nx.af (Ch.refl _ w).drew).trans c.1.nx,c.1.yk⟩,(Ch.refl _ w).drew.trans c.2⟩
 |some r=>
  go_enter func247,ntmps247
  go_wp2_with fail
  go_region_held3 (fun w'=>w'.cell? (g,0)=some (.pointer (some (L.mb,0)))/\w'.cell? (L.mb,1007)=some (.pointer (some (L.m,0)))/\w'.cell? (j,0)=some (.int .u64 v)) (go_keep) ((go_at_call 140;refine k.mono ?_;rintro e w4 ⟨⟨rfl,o,l,b⟩,f⟩;have c:=Z (And.intro b f);have s:=(b.nx.row (w:=w.drew) (d.1.drew) d.2.1.1).1.cell (i:=0) rfl;have t:=b.at_.cP;have d0:=(b.nx.row (w:=w.drew) (d.2.2.drew) d.2.1.2).1.cell (i:=0) rfl;clear b f))
  all_goals
   go_wp2_with fail
   go_ret2;exact⟨⟨rfl,o,l,c.1.at_,(Nx.af (Ch.refl _ w).drew).trans c.1.nx,c.1.yk⟩,(Ch.refl _ w).drew.trans c.2⟩
theorem CV(id op a f v:Int)(A:aH a)(E:aH v)(k j l:Nat)(p:Row w k 294 [(L.mb,0),.int .u64 id,op])(o:Row w j 56 [.int .u64 f])(r:Row w l 56 [.int .u64 v])(B:χ k=.no/\χ j=.no/\χ l=.no)(h:ae w χ L Y C K):
 Calls prog 248 #[.int .u64 a,(k,0),(j,0),(l,0)] w (l9 (K.mem.acc 4 a f v).1 χ L Y C K {K with mem:=(K.mem.acc 4 a f v).2} w):=by
 have H:=p.c1;have I:=o.c1;have J:=r.c1;have G:=h.cP;have m:=Z (BX a f v A E h.drew);have c:=Z (And.intro p (And.intro B (And.intro o r)));obtain⟨q,t⟩:=nm (K.mem.acc 4 a f v);rw[t]at m⊢;obtain⟨x,F⟩:=q;clear h p o r t;cases x with
 |none=>
  go_enter func248,ntmps248
  go_wp2_with fail
  go_region_held3 (fun w'=>w'.cell? (k,0)=some (.pointer (some (L.mb,0)))/\w'.cell? (L.mb,1007)=some (.pointer (some (L.m,0)))/\w'.cell? (j,0)=some (.int .u64 f)/\w'.cell? (l,0)=some (.int .u64 v)) (go_keep) ((go_at_call 189;refine m.mono ?_;rintro e w4 ⟨⟨⟨u,rfl,D⟩,s,n,b⟩,g⟩;obtain⟨tt,M,rfl⟩:=D;have d:=Z (And.intro b g);have y:=(b.nx.row (w:=w.drew) (c.1.drew) c.2.1.1).1.cell (i:=0) rfl;have z:=b.at_.cP;have d0:=(b.nx.row (w:=w.drew) (c.2.2.1.drew) c.2.1.2.1).1.cell (i:=0) rfl;have d1:=(b.nx.row (w:=w.drew) (c.2.2.2.drew) c.2.1.2.2).1.cell (i:=0) rfl;clear b g))
  all_goals
   go_wp2_with fail
   go_ret2;exact⟨⟨⟨_,rfl,aq.mk _ _⟩,s,n,d.1.at_,(Nx.af (Ch.refl _ w).drew).trans d.1.nx,d.1.yk⟩,(Ch.refl _ w).drew.trans d.2⟩
 |some x=>
  go_enter func248,ntmps248
  go_wp2_with fail
  go_region_held3 (fun w'=>w'.cell? (k,0)=some (.pointer (some (L.mb,0)))/\w'.cell? (L.mb,1007)=some (.pointer (some (L.m,0)))/\w'.cell? (j,0)=some (.int .u64 f)/\w'.cell? (l,0)=some (.int .u64 v)) (go_keep) ((go_at_call 189;refine m.mono ?_;rintro e w4 ⟨⟨rfl,s,n,b⟩,g⟩;have d:=Z (And.intro b g);have y:=(b.nx.row (w:=w.drew) (c.1.drew) c.2.1.1).1.cell (i:=0) rfl;have z:=b.at_.cP;have d0:=(b.nx.row (w:=w.drew) (c.2.2.1.drew) c.2.1.2.1).1.cell (i:=0) rfl;have d1:=(b.nx.row (w:=w.drew) (c.2.2.2.drew) c.2.1.2.2).1.cell (i:=0) rfl;clear b g))
  all_goals
   go_wp2_with fail
   go_ret2;exact⟨⟨rfl,s,n,d.1.at_,(Nx.af (Ch.refl _ w).drew).trans d.1.nx,d.1.yk⟩,(Ch.refl _ w).drew.trans d.2⟩
theorem im.of{x:Option Int}{K':KS}{e:Ending}{b w':World}(h:im x χ L Y C K K' b e w')(c:Ch ag w b):im x χ L Y C K K' w e w':=by
 obtain⟨d,⟨aW,Y',a⟩,f⟩:=h;exact⟨d,⟨aW,Y',a.at_,(Nx.af c).trans a.nx,a.yk⟩,c.af.trans f⟩
theorem tM(v:0<=C.wide/\C.wide<=256/\0<=C.narrow/\C.narrow<=256)(x:K.out.length<=900000)(id op a:Int)(t:aH a)(h:ae w χ L Y C K):
 Calls prog 243 #[.agg #[(L.mb,0),.int .u64 id,op],.int .u64 a] w (im (bG C K id op (K.mem,K.out) 0 a 0 0).1 χ L Y C K (oI C K id op 0 a 0 0) w):=by
 obtain⟨z,d⟩:=nm ((w.alloc (.cells #[(L.mb,0),.int .u64 id,op] 294)));have l:=Z (Ch.al (D:=ag) d);have m:=Z (h.hg l);have j:=Z (Row.al d);obtain⟨N,O,P⟩:=j.c3;have J:=m.at_.cP;have s:Hid (χ w.heap.size=.no):=Z (Classical.not_not.1 fun e=>absurd (h.small _ e) (by omega));have i:=Z (kK (p1:=.nilIface) (p2:=.nilIface) (p3:=.nilIface) 0 _ _ _ (Or.inl ⟨rfl,rfl,rfl⟩) v x id op a 0 0 t (fun c w1 r H=>tj c r (m.at_.drew.af H)) m.at_.drew);obtain⟨q,p⟩:=nm (bG C K id op (K.mem,K.out) 0 a 0 0);obtain⟨K',o⟩:∃K',oI C K id op 0 a 0 0=K':=⟨_,rfl⟩;rw[p,o]at i;rw[p,o];obtain⟨y,M⟩:=q;dsimp only at i;clear p o;clear h v x t;cases y with
 |none=>
  go_enter func243,ntmps243
  go_wp2_with fail
  try rw[d]
  try clear d
  go_region_held3 (fun w'=>w'.cell? (w.heap.size,0)=some (.pointer (some (L.mb,0)))/\w'.cell? (w.heap.size,1)=some (.int .u64 id)/\w'.cell? (w.heap.size,2)=some (.int .i64 op)/\w'.cell? (L.mb,1007)=some (.pointer (some (L.m,0)))) (go_keep) ((go_at_call 246;refine i.mono ?_;rintro e w4 ⟨⟨n,u,rfl,r⟩,⟨I,A,b⟩,g⟩;obtain⟨tt,Q,rfl⟩:=r;have f:=Z (And.intro b g);have k:=Z (b.nx.row (w:=z.drew) j.drew s);obtain⟨B,E,F⟩:=k.1.c3;have G:=b.at_.cP;clear b g))
  all_goals
   go_wp2_with fail
   go_ret2;exact im.of ⟨⟨_,_,rfl,aq.mk _ _⟩,⟨_,_,f.1⟩,f.2⟩ (l.trans (Ch.refl _ _).drew)
 |some y=>
  go_enter func243,ntmps243
  go_wp2_with fail
  try rw[d]
  try clear d
  go_region_held3 (fun w'=>w'.cell? (w.heap.size,0)=some (.pointer (some (L.mb,0)))/\w'.cell? (w.heap.size,1)=some (.int .u64 id)/\w'.cell? (w.heap.size,2)=some (.int .i64 op)/\w'.cell? (L.mb,1007)=some (.pointer (some (L.m,0)))) (go_keep) ((go_at_call 246;refine i.mono ?_;rintro e w4 ⟨rfl,⟨I,A,b⟩,g⟩;have f:=Z (And.intro b g);have k:=Z (b.nx.row (w:=z.drew) j.drew s);obtain⟨B,E,F⟩:=k.1.c3;have G:=b.at_.cP;clear b g))
  all_goals
   go_wp2_with fail
   go_ret2;exact im.of ⟨rfl,⟨_,_,f.1⟩,f.2⟩ (l.trans (Ch.refl _ _).drew)
theorem nV(z:0<=C.wide/\C.wide<=256/\0<=C.narrow/\C.narrow<=256)(A:K.out.length<=900000)(id op a v:Int)(y:aH a)(B:aH v)(h:ae w χ L Y C K):
 Calls prog 245 #[.agg #[.pointer (some ⟨L.mb,0,none⟩),.int .u64 id,op],.int .u64 a,.int .u64 v] w (im (bG C K id op (K.mem,K.out) 2 a 0 v).1 χ L Y C K (oI C K id op 2 a 0 v) w):=by
 obtain⟨r,f⟩:=nm (((w.alloc (.cells #[.pointer (some ⟨L.mb,0,none⟩),.int .u64 id,op] 294)).alloc (.cells #[.int .u64 v] 56)));have k:Hid (Ch ag w r):=Z (by rw[<-f];exact((Ch.refl _ _).alloc _).alloc _);have x:=Z (h.hg k);have s:Hid (Row r w.heap.size 294 [.pointer (some ⟨L.mb,0,none⟩),.int .u64 id,op]):=Z (by rw[<-f];exact(Row.new w _ _).alloc _);have D:Hid (Row r (w.heap.size+1) 56 [.int .u64 v]):=Z (by
  rw[<-f];have:=Row.new (w.alloc (.cells #[.pointer (some ⟨L.mb,0,none⟩),.int .u64 id,op] 294)) #[.int .u64 v] 56;simpa[World.size_alloc,Nat.add_assoc]using this)
 have t:Hid (∀i,w.heap.size<=i->χ i=.no):=Z (fun i F=>Classical.not_not.1 fun e=>absurd (h.small _ e) (by omega));obtain⟨H,I,J⟩:=s.c3;have j:=Z (kK (p1:=.pointer (some ⟨w.heap.size,0,none⟩)) (p2:=.pointer (some ⟨w.heap.size+1,0,none⟩)) (p3:=.nilIface) 2 _ _ _ (Or.inr (Or.inl ⟨rfl,rfl,rfl⟩)) z A id op a 0 v y (fun c w1 o p=>Bn id op c 0 v o B _ _ (s.ch p (fun h=>h)) (D.ch p (fun h=>h)) ⟨t _ (by omega),t _ (by omega)⟩ (x.at_.af p)) x.at_);obtain⟨q,m⟩:=nm (bG C K id op (K.mem,K.out) 2 a 0 v);obtain⟨K',l⟩:∃K',oI C K id op 2 a 0 v=K':=⟨_,rfl⟩;rw[m,l]at j;rw[m,l];obtain⟨E,G⟩:=q;dsimp only at j;clear m l;clear h z A y B;cases E
 all_goals
  go_enter func245,ntmps245
  go_wp2_with fail
  try rw[f]
  try clear f
  with_reducible refine j.out.mono ?_
 ·rintro e w4 ⟨⟨n,u,rfl,o⟩,d,g⟩
  obtain⟨tt,M,rfl⟩:=o;have b:=Z (And.intro d g);clear d g;go_wp2_with fail
  go_ret2;exact im.of ⟨⟨_,_,rfl,aq.mk _ _⟩,b.1,b.2⟩ k
 ·rintro e w4 ⟨rfl,d,g⟩
  have b:=Z (And.intro d g);clear d g;go_wp2_with fail
  go_ret2;exact im.of ⟨rfl,b.1,b.2⟩ k
theorem w7(z:0<=C.wide/\C.wide<=256/\0<=C.narrow/\C.narrow<=256)(A:K.out.length<=900000)(id op a v:Int)(y:aH a)(B:aH v)(h:ae w χ L Y C K):
 Calls prog 241 #[.agg #[.pointer (some ⟨L.mb,0,none⟩),.int .u64 id,op],.int .u64 a,.int .u64 v] w (im (bG C K id op (K.mem,K.out) 3 a 0 v).1 χ L Y C K (oI C K id op 3 a 0 v) w):=by
 obtain⟨r,f⟩:=nm (((w.alloc (.cells #[.pointer (some ⟨L.mb,0,none⟩),.int .u64 id,op] 294)).alloc (.cells #[.int .u64 v] 56)));have k:Hid (Ch ag w r):=Z (by rw[<-f];exact((Ch.refl _ _).alloc _).alloc _);have x:=Z (h.hg k);have s:Hid (Row r w.heap.size 294 [.pointer (some ⟨L.mb,0,none⟩),.int .u64 id,op]):=Z (by rw[<-f];exact(Row.new w _ _).alloc _);have D:Hid (Row r (w.heap.size+1) 56 [.int .u64 v]):=Z (by
  rw[<-f];have:=Row.new (w.alloc (.cells #[.pointer (some ⟨L.mb,0,none⟩),.int .u64 id,op] 294)) #[.int .u64 v] 56;simpa[World.size_alloc,Nat.add_assoc]using this)
 have t:Hid (∀i,w.heap.size<=i->χ i=.no):=Z (fun i F=>Classical.not_not.1 fun e=>absurd (h.small _ e) (by omega));obtain⟨H,I,J⟩:=s.c3;have j:=Z (kK (p1:=.pointer (some ⟨w.heap.size,0,none⟩)) (p2:=.pointer (some ⟨w.heap.size+1,0,none⟩)) (p3:=.nilIface) 3 _ _ _ (Or.inr (Or.inr (Or.inl ⟨rfl,rfl,rfl⟩))) z A id op a 0 v y (fun c w1 o p=>CU id op c 0 v o B _ _ (s.ch p (fun h=>h)) (D.ch p (fun h=>h)) ⟨t _ (by omega),t _ (by omega)⟩ (x.at_.af p)) x.at_);obtain⟨q,m⟩:=nm (bG C K id op (K.mem,K.out) 3 a 0 v);obtain⟨K',l⟩:∃K',oI C K id op 3 a 0 v=K':=⟨_,rfl⟩;rw[m,l]at j;rw[m,l];obtain⟨E,G⟩:=q;dsimp only at j;clear m l;clear h z A y B;cases E
 all_goals
  go_enter func241,ntmps241
  go_wp2_with fail
  try rw[f]
  try clear f
  with_reducible refine j.out.mono ?_
 ·rintro e w4 ⟨⟨n,u,rfl,o⟩,d,g⟩
  obtain⟨tt,M,rfl⟩:=o;have b:=Z (And.intro d g);clear d g;go_wp2_with fail
  go_ret2;exact im.of ⟨⟨_,_,rfl,aq.mk _ _⟩,b.1,b.2⟩ k
 ·rintro e w4 ⟨rfl,d,g⟩
  have b:=Z (And.intro d g);clear d g;go_wp2_with fail
  go_ret2;exact im.of ⟨rfl,b.1,b.2⟩ k
theorem w8(A:0<=C.wide/\C.wide<=256/\0<=C.narrow/\C.narrow<=256)(B:K.out.length<=900000)(id op a b v:Int)(z:aH a)(hold:aH b)(D:aH v)(h:ae w χ L Y C K):
 Calls prog 242 #[.agg #[.pointer (some ⟨L.mb,0,none⟩),.int .u64 id,op],.int .u64 a,.int .u64 b,.int .u64 v] w (im (bG C K id op (K.mem,K.out) 4 a b v).1 χ L Y C K (oI C K id op 4 a b v) w):=by
 obtain⟨l,d⟩:=nm ((((w.alloc (.cells #[.pointer (some ⟨L.mb,0,none⟩),.int .u64 id,op] 294)).alloc (.cells #[.int .u64 b] 56)).alloc (.cells #[.int .u64 v] 56)));have o:Hid (Ch ag w l):=Z (by rw[<-d];exact(((Ch.refl _ _).alloc _).alloc _).alloc _);have y:=Z (h.hg o);have x:Hid (Row l w.heap.size 294 [.pointer (some ⟨L.mb,0,none⟩),.int .u64 id,op]):=Z (by rw[<-d];exact((Row.new w _ _).alloc _).alloc _);have E:Hid (Row l (w.heap.size+1) 56 [.int .u64 b]):=Z (by
  rw[<-d];have:=(Row.new (w.alloc (.cells #[.pointer (some ⟨L.mb,0,none⟩),.int .u64 id,op] 294)) #[.int .u64 b] 56).alloc (.cells #[.int .u64 v] 56);simpa[World.size_alloc,Nat.add_assoc]using this)
 have F:Hid (Row l (w.heap.size+2) 56 [.int .u64 v]):=Z (by
  rw[<-d];have:=Row.new ((w.alloc (.cells #[.pointer (some ⟨L.mb,0,none⟩),.int .u64 id,op] 294)).alloc (.cells #[.int .u64 b] 56)) #[.int .u64 v] 56;simpa[World.size_alloc,Nat.add_assoc]using this)
 have p:Hid (∀i,w.heap.size<=i->χ i=.no):=Z (fun i H=>Classical.not_not.1 fun e=>absurd (h.small _ e) (by omega));obtain⟨J,M,N⟩:=x.c3;have m:=Z (kK (p1:=.pointer (some ⟨w.heap.size,0,none⟩)) (p2:=.pointer (some ⟨w.heap.size+1,0,none⟩)) (p3:=.pointer (some ⟨w.heap.size+2,0,none⟩)) 4 _ _ _ (Or.inr (Or.inr (Or.inr ⟨rfl,rfl,rfl⟩))) A B id op a b v z (fun c w1 t k=>CV id op c b v t D _ _ _ (x.ch k (fun h=>h)) (E.ch k (fun h=>h)) (F.ch k (fun h=>h)) ⟨p _ (by omega),p _ (by omega),p _ (by omega)⟩ (y.at_.af k)) y.at_);obtain⟨q,s⟩:=nm (bG C K id op (K.mem,K.out) 4 a b v);obtain⟨K',r⟩:∃K',oI C K id op 4 a b v=K':=⟨_,rfl⟩;rw[s,r]at m;rw[s,r];obtain⟨G,I⟩:=q;dsimp only at m;clear s r;clear h A B z hold D;cases G
 all_goals
  go_enter func242,ntmps242
  go_wp2_with fail
  try rw[d]
  try clear d
  with_reducible refine m.out.mono ?_
 ·rintro e w4 ⟨⟨n,u,rfl,t⟩,g,j⟩
  obtain⟨tt,O,rfl⟩:=t;have f:=Z (And.intro g j);clear g j;go_wp2_with fail
  go_ret2;exact im.of ⟨⟨_,_,rfl,aq.mk _ _⟩,f.1,f.2⟩ o
 ·rintro e w4 ⟨rfl,g,j⟩
  have f:=Z (And.intro g j);clear g j;go_wp2_with fail
  go_ret2;exact im.of ⟨rfl,f.1,f.2⟩ o
def EY(ok:Bool)(χ:Nat->a4)(L:cw)(Y:Var)(C:KC)(K K':KS)(w:World)(e:Ending)(w':World):Prop:=
 (∃v,e=.returned v/\(if ok then v=.nilIface else aq v))/\(∃aW Y',dB χ L Y C K K' w aW Y' w')/\Ch (fun i=>χ i=.mem∨χ i=.gx∨χ i=.out) w w'
theorem sc(id op a v:Int)(S:aF×List Ev):bG C K id op S 1 a 0 v=bG C K id op S 2 a 0 v:=by
 have:∀(M:aF) (c:Int),M.acc 1 c 0 v=M.acc 2 c 0 v:=fun M c=>by unfold aF.acc;simp
 unfold bG;dsimp only;simp only[this]
theorem sd(p:0<=C.wide/\C.wide<=256/\0<=C.narrow/\C.narrow<=256)(r:K.out.length<=900000)(id op a v:Int)(o:aH a)(t:aH v)(h:ae w χ L Y C K):
 Calls prog 244 #[.agg #[(L.mb,0),.int .u64 id,op],.int .u64 a,.int .u64 v] w (EY (bG C K id op (K.mem,K.out) 1 a 0 v).1.isSome χ L Y C K (oI C K id op 1 a 0 v) w):=by
 obtain⟨M,f⟩:=nm (w.alloc (.cells #[(L.mb,0),.int .u64 id,op] 294));have i:=Z (Ch.al (D:=ag) f);have z:=Z (h.hg i);have y:=Z (Row.al f);obtain⟨H,I,J⟩:=y.c3;have g:=Z (nV p r id op a v o t z.at_);have s:oI C K id op 1 a 0 v=oI C K id op 2 a 0 v:=by unfold oI;rw[sc]
 rw[sc,s];obtain⟨q,m⟩:=nm (bG C K id op (K.mem,K.out) 2 a 0 v);obtain⟨K',l⟩:∃K',oI C K id op 2 a 0 v=K':=⟨_,rfl⟩;rw[m,l]at g;rw[m,l];obtain⟨E,G⟩:=q;dsimp only at g;clear m l s;clear h p r o t;cases E
 all_goals
  go_enter func244,ntmps244
  go_wp2_with fail
  try rw[f]
  try clear f
  with_reducible refine g.out.mono ?_
 ·rintro e w4 ⟨⟨n,u,rfl,B⟩,c,d⟩
  obtain⟨tt,F,rfl⟩:=B;have b:=Z (And.intro c d);clear c d;go_wp2_with fail
  go_ret;obtain⟨A,⟨aW,Y',j⟩,k⟩:=im.of (x:=none) (w:=w) ⟨⟨n,_,rfl,aq.mk tt F⟩,b.1,b.2⟩ i;exact⟨⟨_,rfl,aq.mk _ _⟩,⟨aW,Y',j⟩,k⟩
 ·rintro e w4 ⟨rfl,c,d⟩
  have b:=Z (And.intro c d);clear c d;go_wp2_with fail
  go_ret;obtain⟨A,⟨aW,Y',j⟩,k⟩:=im.of (x:=some 0) (w:=w) ⟨rfl,b.1,b.2⟩ i;exact⟨⟨_,rfl,rfl⟩,⟨aW,Y',j⟩,k⟩
end
end
end Go.Proofs.YtfnilkpkogipfaaGreatDoor
