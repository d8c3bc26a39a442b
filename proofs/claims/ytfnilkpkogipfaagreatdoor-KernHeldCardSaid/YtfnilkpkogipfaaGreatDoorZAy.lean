import Derived.Test.YtfnilkpkogipfaaGreatDoorZAx
set_option linter.all false
set_option maxRecDepth 100000
set_option maxHeartbeats 8000000
namespace Go.Proofs.YtfnilkpkogipfaaGreatDoor
open Go.RowKit Go.Proofs.Tryz
section
theorem zc{x:aV}{f:cE}(h:fx f):fx (dw x f).2/\((dw x f).1=0∨(dw x f).1=2∨(dw x f).1=3):=by
 unfold dw;split
 ·split
  ·exact⟨h,Or.inr (Or.inl rfl)⟩
  ·exact⟨⟨h.r,by show(f.back.take _).length<=8;rw[List.length_take];have:=h.back;omega⟩,Or.inl rfl⟩
 ·split
  ·split
   ·exact⟨h,Or.inr (Or.inr rfl)⟩
   ·exact⟨⟨h.r,by show(f.back++[_]).length<=8;rw[List.length_append,List.length_singleton];omega⟩,Or.inl rfl⟩
  ·split
   ·exact⟨h.pc _,Or.inl rfl⟩
   ·split
    ·exact⟨h.pc _,Or.inl rfl⟩
    ·exact⟨h.pc _,Or.inl rfl⟩
theorem Bk{f:cE}(h:fx f)(n:Int):aH (gF f.r n):=vI h.r n
theorem r1{m:Type}{Q Q':m->Prop}(acc:m->Int->Int->Int->Int->Option Int×m)(j:∀S kind a r v,Q S->aH v->Q' (acc S kind a r v).2/\∀x,(acc S kind a r v).1=some x->aH x)(g:∀S,Q S->Q' S)
 (l:List aV) (w:∀x∈l,aH x.v) (f:cE) (c:fx f) (S:m) (b:Q S):fx (bD acc l f S).2.1/\Q' (bD acc l f S).2.2/\
 ((bD acc l f S).1=0∨(bD acc l f S).1=1∨(bD acc l f S).1=2∨(bD acc l f S).1=3)/\
 ((bD acc l f S).1=0∨(bD acc l f S).1=1->bt (fu l f.pc) l.length=true/\fu l f.pc∈l)/\
 ((bD acc l f S).1=1->22<=(fu l f.pc).op/\(bD acc l f S).2.1=f/\(bD acc l f S).2.2=S):=by
 unfold bD;split
 ·exact⟨c,g _ b,Or.inr (Or.inr (Or.inr rfl)),(fun e=>by rcases e with e|e<;>cases e),fun e=>by cases e⟩
 ·rename_i D
  split
  ·exact⟨c,g _ b,Or.inr (Or.inr (Or.inr rfl)),(fun e=>by rcases e with e|e<;>cases e),fun e=>by cases e⟩
  ·rename_i x q
   have B:=(List.getElem?_eq_some_iff.1 q).1;have t:fu l f.pc=x:=by
    have:=nF (l:=l) (pc:=f.pc) (by omega) (by omega);rw[q]at this;exact(Option.some.inj this).symm
   have h:x∈l:=List.mem_of_getElem? q;rw[t];split
   ·exact⟨c,g _ b,Or.inr (Or.inr (Or.inr rfl)),(fun e=>by rcases e with e|e<;>cases e),fun e=>by cases e⟩
   ·rename_i d
    have d:bt x l.length=true:=by simpa using d
    split
    ·have:=zc (x:=x) c
     refine⟨this.1,g _ b,?_,fun _=>⟨d,h⟩,fun e=> ?_⟩
     ·rcases this.2 with e|e|e
      ·exact Or.inl e
      ·exact Or.inr (Or.inr (Or.inl e))
      ·exact Or.inr (Or.inr (Or.inr e))
     ·exfalso
      have e:(dw x f).1=1:=e;rcases this.2 with n|n|n<;>rw[n]at e<;>cases e
    ·split
     ·have i:Q' (cK acc S x f.r).2/\∀v,(cK acc S x f.r).1=some v->aH v:=by
       have k:aH (f.r x.a.toNat):=by
        have:=(dp d).1;exact c.r _ (by omega)
       have u:aH (f.r x.c.toNat):=by
        have:=(dp d).2.2.1;exact c.r _ (by omega)
       unfold cK;dsimp only;split
       ·exact j _ _ _ _ _ b bx
       ·split
        ·have:=j S 1 (du f.r x) 0 _ b k
         refine⟨this.1,fun v e=> ?_⟩;cases o:(acc S 1 (du f.r x) 0 (f.r x.a.toNat)).1 with
         |none=>rw[o]at e;cases e
         |some y=>rw[o]at e;rw[<-Option.some.inj e];exact k
        ·split
         ·exact j _ _ _ _ _ b k
         ·split
          ·exact j _ _ _ _ _ b k
          ·exact j _ _ _ _ _ b u
      split
      ·rename_i s p
       rw[p]at i;exact⟨c,i.1,Or.inr (Or.inr (Or.inr rfl)),fun _=>⟨d,h⟩,fun e=>by cases e⟩
      ·rename_i v s p
       rw[p]at i;exact⟨(c.au x.a.toNat v (i.2 v rfl)).pc _,i.1,Or.inl rfl,fun _=>⟨d,h⟩,fun e=>by cases e⟩
     ·split
      ·exact⟨(c.au x.a.toNat _ (sV x _ _ (w x h) (Bk c _))).pc _,g _ b,Or.inl rfl,fun _=>⟨d,h⟩,fun e=>by cases e⟩
      ·rename_i o z A
       refine⟨c,g _ b,Or.inr (Or.inl rfl),fun _=>⟨d,h⟩,fun _=>⟨?_,rfl,rfl⟩⟩;have:=(dp d).2.2.2;omega
structure oC(C:KC):Prop where
 ll:C.dx.length<=2048
 pl:C.bn.length<=2048
 cl:C.calls.length<=2048
 lv:∀x∈C.dx,aH x.v
 pv:∀x∈C.bn,aH x.v
 D4:∀x∈C.bn,ep x C.bn.length false=true
 bw:0<=C.wide/\C.wide<=256/\0<=C.narrow/\C.narrow<=256
 CT:C.rows.length=1000
 rows:∀r∈C.rows,0<=r/\r<=C.calls.length
section
variable{N M:Nat}{K:KS}{C:KC}
theorem iI.of{x:aV}{n:Nat}(h:bt x n=true)(a:aH x.v):iI x:=by
 obtain⟨b,c,d,_⟩:=dp h;exact⟨by omega,by omega,by omega,a⟩
theorem lD(d:oC C)(h:Inv N M K){c:bK}(f:aj K c):Inv N M (cy C K c).2.2/\((cy C K c).2.1=0∨(cy C K c).2.1=1∨(cy C K c).2.1=2∨(cy C K c).2.1=3)/\
 ((cy C K c).2.1=0∨(cy C K c).2.1=1->bt (cy C K c).1 C.dx.length=true/\aH (cy C K c).1.v)/\((cy C K c).2.1=1->22<=(cy C K c).1.op):=by
 have b:=r1 (Q:=bX) (Q':=bX) aF.acc (fun S kind a j v g i=>g.acc kind a j v i) (fun _ h=>h) C.dx d.lv (K.F c) (h.lz f) K.mem h.mem;unfold cy;dsimp only;exact⟨(h.qj b.2.1).cH (dn f rfl rfl) b.1,b.2.2.1,fun e=>⟨(b.2.2.2.1 e).1,d.lv _ (b.2.2.2.1 e).2⟩,fun e=>(b.2.2.2.2 e).1⟩
theorem mK{K1:KS}{c:bK}(d:aj K c)(a:K1.ai=K.ai)(b:K1.wk=K.wk)(f:cE):Gr K (K1.cH c f)/\(K1.cH c f).wk.length=K.wk.length:=
 ⟨(Gr.of_eq a).trans (bs (dn d a b) f),(bm c f).trans (by rw[b])⟩
theorem nO(C:KC){c:bK}(a:aj K c):Gr K (cy C K c).2.2/\(cy C K c).2.2.wk.length=K.wk.length:=by
 unfold cy;dsimp only;exact mK (K1:=({K with mem:=(bD aF.acc C.dx (K.F c) K.mem).2.2}:KS)) a rfl rfl _
theorem nP(C:KC){c:bK}(i:Nat)(a:i<K.wk.length):((cy C K c).2.2.W i).slot=(K.W i).slot/\(cy C K c).2.2.w=K.w:=by
 unfold cy;dsimp only;cases c with
 |own j=>
  refine⟨?_,rfl⟩;show((KS.be _ j _).W i).slot=_
  by_cases e:i=j
  ·subst e;rw[gz (by exact a)];rfl
  ·unfold KS.W KS.be
   dsimp only;rw[List.getD_eq_getElem?_getD,List.getElem?_set_ne (fun h=>e h.symm),List.getD_eq_getElem?_getD]
 |ai id k=>exact⟨rfl,rfl⟩
theorem pg(C:KC){id:Int}{k:Nat}{t:Thread}(b:aw K.ai id=some t):∃a,aw (cy C K (.ai id k)).2.2.ai id=some a/\a.l.length=t.l.length/\a.id=t.id:=by
 unfold cy;dsimp only;refine⟨_,by show aw (b8 K.ai id _) id=_;rw[aT,if_pos rfl],?_,?_⟩
 ·show(List.set (K.T id).l k _).length=_
  rw[List.length_set,KS.df b]
 ·show(K.T id).id=_
  rw[KS.df b]
theorem dX{c:bK}(a:aj K c)(k:Nat)(x:Int):Gr K (K.au c k x):=bs a _
theorem wX(C:KC)(i:Nat):Gr K (ds C K i):=Gr.of_eq rfl
theorem nQ(i:Nat)(id:Int):Gr K (eB K i id)/\(eB K i id).wk.length=K.wk.length:=by
 unfold eB
 repeat' split
 all_goals first|exact⟨Gr.refl _,rfl⟩|exact⟨Gr.of_eq rfl,bA _ _⟩
theorem wY(C:KC)(i:Nat):(ds C K i).wk.length=K.wk.length:=by unfold ds gv;rw[bA,bA]
theorem r2(i:Nat){id:Int}{t:Thread}(a:aw K.ai id=some t){c:bK}(b:aj K c)(x:aV):(aB C K i id c x).1=0->Gr K (aB C K i id c x).2/\(aB C K i id c x).2.wk.length=K.wk.length:=by
 unfold aB;dsimp only;split
 ·split
  ·exact fun _=>⟨Gr.of_eq rfl,rfl⟩
  ·exact fun _=>⟨Gr.of_eq rfl,rfl⟩
 split
 ·split
  ·intro e;cases e
  ·exact fun _=>⟨dX b _ _,bm _ _⟩
 split
 ·exact fun _=>⟨Gr.of_eq rfl,rfl⟩
 split
 ·exact fun _=>⟨Gr.of_eq rfl,rfl⟩
 split
 ·intro e;cases e
 split
 ·exact fun _=>⟨(Gr.of_eq (rO K id)).trans (wX C i),wY C i⟩
 split
 ·split
  ·exact fun _=>⟨by rw[KS.df a];exact qh a (by simp),rfl⟩
  ·exact fun _=>⟨Gr.refl _,rfl⟩
 split
 ·intro e;cases e
 ·exact fun _=>⟨Gr.refl _,rfl⟩
theorem r3{i:Nat}{c:bK}(a:aj K c)(x:aV):(bb K i c x).1=0->Gr K (bb K i c x).2/\(bb K i c x).2.wk.length=K.wk.length:=by
 unfold bb;dsimp only;split
 ·split
  ·intro e;cases e
  ·exact fun _=>⟨Gr.of_eq rfl,bA _ _⟩
 ·split
  ·intro e;cases e
  ·rename_i held b
   have g:=mK (K1:=({K with mem:=(K.mem.acc 4 (du (K.F c).r x) ((K.F c).r x.a.toNat) ((K.F c).r x.c.toNat)).2}:KS)) a rfl rfl {({K with mem:=(K.mem.acc 4 (du (K.F c).r x) ((K.F c).r x.a.toNat) ((K.F c).r x.c.toNat)).2}:KS).F c with r:=fO (({K with mem:=(K.mem.acc 4 (du (K.F c).r x) ((K.F c).r x.a.toNat) ((K.F c).r x.c.toNat)).2}:KS).F c).r x.a.toNat held};split
   ·exact fun _=>⟨g.1.trans (nQ _ _).1,(nQ _ _).2.trans g.2⟩
   ·exact fun _=>g
theorem zd(i:Nat){c:bK}(a:aj K c)(x:aV):Gr K (bU K i c x)/\(bU K i c x).wk.length=K.wk.length:=by
 unfold bU;dsimp only;split
 ·exact nQ _ _
 split
 ·split
  ·exact⟨Gr.of_eq rfl,bA _ _⟩
  ·exact⟨Gr.refl _,rfl⟩
 split
 ·have hlen:(K.au c x.a.toNat 0).wk.length=K.wk.length:=bm _ _
  have g:=dX a x.a.toNat 0;split
  ·have b:aj ((({K.au c x.a.toNat 0 with ring:=(gG (K.au c x.a.toNat 0).ring).2.2}:KS)).be i {(({K.au c x.a.toNat 0 with ring:=(gG (K.au c x.a.toNat 0).ring).2.2}:KS)).W i with hand:=(gG (K.au c x.a.toNat 0).ring).1}) c:=
    (a.gr g hlen).gr (Gr.of_eq rfl) (bA _ _)
   exact⟨(g.trans (Gr.of_eq rfl)).trans (dX b _ _),(bm _ _).trans ((bA _ _).trans hlen)⟩
  ·exact⟨g,hlen⟩
 split
 ·split
  ·exact⟨Gr.of_eq rfl,bA _ _⟩
  ·exact⟨Gr.refl _,rfl⟩
 ·exact⟨Gr.refl _,rfl⟩
theorem wZ{c:bK}(a:aj K c)(x:aV):Gr K (bd K c x)/\(bd K c x).wk.length=K.wk.length:=by
 unfold bd;dsimp only;split
 ·have hlen:(K.au c x.a.toNat 0).wk.length=K.wk.length:=bm _ _
  have g:=dX a x.a.toNat 0;have key:∀n:Int,Gr K (if n<=4096 then({K.au c x.a.toNat 0 with blocks:=(c' (K.au c x.a.toNat 0).blocks (K.au c x.a.toNat 0).mem n.toNat).2.1,mem:=(c' (K.au c x.a.toNat 0).blocks (K.au c x.a.toNat 0).mem n.toNat).2.2}:KS).au c x.a.toNat (match(c' (K.au c x.a.toNat 0).blocks (K.au c x.a.toNat 0).mem n.toNat).1 with|some h=>(h:Int)|none=>0)else K.au c x.a.toNat 0)/\(if n<=4096 then({K.au c x.a.toNat 0 with blocks:=(c' (K.au c x.a.toNat 0).blocks (K.au c x.a.toNat 0).mem n.toNat).2.1,mem:=(c' (K.au c x.a.toNat 0).blocks (K.au c x.a.toNat 0).mem n.toNat).2.2}:KS).au c x.a.toNat (match(c' (K.au c x.a.toNat 0).blocks (K.au c x.a.toNat 0).mem n.toNat).1 with|some h=>(h:Int)|none=>0)else K.au c x.a.toNat 0).wk.length=K.wk.length:=fun n=>by
   split
   ·have q:=mK (K:=K.au c x.a.toNat 0) (K1:=({K.au c x.a.toNat 0 with blocks:=(c' (K.au c x.a.toNat 0).blocks (K.au c x.a.toNat 0).mem n.toNat).2.1,mem:=(c' (K.au c x.a.toNat 0).blocks (K.au c x.a.toNat 0).mem n.toNat).2.2}:KS)) (a.gr g hlen) rfl rfl
    exact⟨g.trans (q _).1,(q _).2.trans hlen⟩
   ·exact⟨g,hlen⟩
  exact key _
 split
 ·split
  ·exact⟨Gr.of_eq rfl,rfl⟩
  ·exact⟨Gr.refl _,rfl⟩
 split
 ·split
  ·exact mK (K1:=({K with cV:=(fH K.cV x.v ((K.F c).r x.b.toNat)).2}:KS)) a rfl rfl _
  ·exact⟨dX a _ _,bm _ _⟩
 split
 ·exact⟨Gr.of_eq rfl,rfl⟩
 ·exact⟨Gr.refl _,rfl⟩
theorem w3(h:Inv N M K)(o:N<=900000){i:Nat}{c:bK}(f:aj K c)(x:aV):Gr K (bu C K i c x)/\(bu C K i c x).wk.length=K.wk.length:=by
 unfold bu;dsimp only;split
 ·split
  ·have g:=kC (K:=K) (wrap64 ((K.F c).r x.b.toNat)) ((K.F c).r x.c.toNat) (h.fresh o)
   have j:(bF K (wrap64 ((K.F c).r x.b.toNat)) ((K.F c).r x.c.toNat)).2.wk=K.wk:=nB _ _;have m:aj (bF K (wrap64 ((K.F c).r x.b.toNat)) ((K.F c).r x.c.toNat)).2 c:=f.gr g (by rw[j]);split
   ·exact⟨(g.trans (dO _ _ _)).trans (dX (m.gr (dO _ _ _) (fw _ _ _)) _ _),(bm _ _).trans ((fw _ _ _).trans (by rw[j]))⟩
   ·exact⟨g.trans (dX m _ _),(bm _ _).trans (by rw[j])⟩
  ·exact⟨dX f _ _,bm _ _⟩
 have n:∀(K1:KS) (id a:Int) (y:Nat) (v:Int),K1.ai=K.ai->K1.wk=K.wk->Gr K ((ef K1 id a).au c y v)/\((ef K1 id a).au c y v).wk.length=K.wk.length:=fun K1 id a y v d e=>by
  have k:(ef K1 id a).ai=K.ai:=(gO K1 id a).trans d;have l:(ef K1 id a).wk=K.wk:=(kB K1 id a).trans e;exact⟨(Gr.of_eq k).trans (dX (dn f k l) _ _),(bm _ _).trans (by rw[l])⟩
 have b:∀(K1:KS) (y:Nat) (v:Int),K1.ai=K.ai->K1.wk=K.wk->Gr K (K1.au c y v)/\(K1.au c y v).wk.length=K.wk.length:=fun K1 y v d e=>
  ⟨(Gr.of_eq d).trans (dX (dn f d e) _ _),(bm _ _).trans (by rw[e])⟩
 split
 ·split
  ·exact n _ _ _ _ _ rfl rfl
  ·exact b _ _ _ rfl rfl
 split
 ·split
  ·exact n _ _ _ _ _ rfl rfl
  ·exact b _ _ _ rfl rfl
 split
 ·exact b _ _ _ rfl rfl
 split
 ·exact b _ _ _ rfl rfl
 ·exact b _ _ _ rfl rfl
theorem r4{i:Nat}{c:bK}(j:aj K c)(x:aV):Gr K (bg K i c x)/\(bg K i c x).wk.length=K.wk.length:=by
 have a:∀(K1:KS) (y:Nat) (v:Int),K1.ai=K.ai->K1.wk=K.wk->Gr K (K1.au c y v)/\(K1.au c y v).wk.length=K.wk.length:=fun K1 y v g h=>
  ⟨(Gr.of_eq g).trans (dX (dn j g h) _ _),(bm _ _).trans (by rw[h])⟩
 unfold bg;dsimp only;split
 ·split
  ·obtain⟨p,l⟩:=nm (ez K.q ((K.F c).r x.b.toNat) ((K.F c).r x.c.toNat))
   rw[l];obtain⟨b,d⟩:=nm (bV ({K with q:=p.2.2,clock:=(K.clock.bl p.1).2}:KS) p.1 0);have e:Gr K b:=by rw[<-d];exact(Gr.of_eq (K':=({K with q:=p.2.2,clock:=(K.clock.bl p.1).2}:KS)) rfl).trans (jy _ _ _)
   have f:b.wk=K.wk:=by rw[<-d];exact(pf _ _ _).1
   have k:aj b c:=j.gr e (by rw[f]);show Gr K (KS.au (if cx (bV ({K with q:=p.2.2,clock:=(K.clock.bl p.1).2}:KS) p.1 0) p.1=3 then eg (bV ({K with q:=p.2.2,clock:=(K.clock.bl p.1).2}:KS) p.1 0) i p.1 else bV ({K with q:=p.2.2,clock:=(K.clock.bl p.1).2}:KS) p.1 0) c x.a.toNat p.1)/\(KS.au (if cx (bV ({K with q:=p.2.2,clock:=(K.clock.bl p.1).2}:KS) p.1 0) p.1=3 then eg (bV ({K with q:=p.2.2,clock:=(K.clock.bl p.1).2}:KS) p.1 0) i p.1 else bV ({K with q:=p.2.2,clock:=(K.clock.bl p.1).2}:KS) p.1 0) c x.a.toNat p.1).wk.length=_
   rw[d];split
   ·exact⟨(e.trans (dO _ _ _)).trans (dX (k.gr (dO _ _ _) (fw _ _ _)) _ _),(bm _ _).trans ((fw _ _ _).trans (by rw[f]))⟩
   ·exact⟨e.trans (dX k _ _),(bm _ _).trans (by rw[f])⟩
  ·exact a _ _ _ rfl rfl
 split
 ·exact a _ _ _ rfl rfl
 split
 ·exact a _ _ _ rfl rfl
 ·exact a _ _ _ rfl rfl
theorem j1(h:Inv N M K)(b:N<=900000){i:Nat}{idO:Option Int}{c:bK}(a:aj K c)(x:aV)(d:∀id,idO=some id->∃t,aw K.ai id=some t):
 (ay C K i idO c x).1=0->Gr K (ay C K i idO c x).2/\(ay C K i idO c x).2.wk.length=K.wk.length:=by
 unfold ay;dsimp only;split
 ·cases idO with
  |none=>exact fun _=>⟨Gr.refl _,rfl⟩
  |some id=>obtain⟨t,f⟩:=d id rfl;exact r2 i f a x
 split
 ·exact r3 a x
 split
 ·split
  ·intro e;cases e
  ·exact fun _=>⟨Gr.of_eq rfl,bA _ _⟩
 split
 ·exact fun _=>zd i a x
 split
 ·exact fun _=>wZ a x
 split
 ·exact fun _=>w3 h b a x
 split
 ·exact fun _=>r4 a x
 split
 ·intro e;cases e
 ·exact fun _=>⟨dX a _ _,bm _ _⟩
theorem nR(K:KS)(i:Nat)(idO:Option Int)(c:bK)(x:aV):(ay C K i idO c x).1=0∨(ay C K i idO c x).1=1∨(ay C K i idO c x).1=2:=by
 have b:∀id,(aB C K i id c x).1=0∨(aB C K i id c x).1=1∨(aB C K i id c x).1=2:=fun id=>by
  unfold aB;dsimp only
  repeat' split
  all_goals first|exact Or.inl rfl|exact Or.inr (Or.inl rfl)
 have a:(bb K i c x).1=0∨(bb K i c x).1=1∨(bb K i c x).1=2:=by
  unfold bb;dsimp only
  repeat' split
  all_goals first|exact Or.inl rfl|exact Or.inr (Or.inr rfl)
 unfold ay;dsimp only;split
 ·cases idO with
  |none=>exact Or.inl rfl
  |some id=>exact b id
 split
 ·exact a
 repeat' split
 all_goals first|exact Or.inl rfl|exact Or.inr (Or.inl rfl)|exact Or.inr (Or.inr rfl)
theorem i'(K:KS)(i:Nat)(idO:Option Int)(c:bK)(x:aV):(ay C K i idO c x).1=2->(ay C K i idO c x).2.ai=K.ai/\(ay C K i idO c x).2.wk=K.wk:=by
 have a:∀id,(aB C K i id c x).1≠2:=fun id=>by
  unfold aB;dsimp only
  repeat' split
  all_goals(intro e;cases e)
 unfold ay;dsimp only;split
 ·cases idO with
  |none=>intro e;cases e
  |some id=>exact fun e=>absurd e (a id)
 split
 ·unfold bb
  dsimp only;split
  ·split
   ·exact fun _=>⟨rfl,rfl⟩
   ·intro e;cases e
  ·split
   ·exact fun _=>⟨rfl,rfl⟩
   ·split
    ·intro e;cases e
    ·intro e;cases e
 repeat' split
 all_goals first|exact fun _=>⟨rfl,rfl⟩|(intro e;cases e)
end
end
section
section
variable{w w':World}{χ:Nat->a4}{L:cw}{Y:Var}{C:KC}{K:KS}
def D5(l:List Value)(w:World)(p:Value)(wc:World):Prop:=∃a,p=.pointer (some ⟨a,0,none⟩)/\Row wc a 62 l/\Ch ag w wc/\w.heap.size<=a
theorem jz(id:Int)(c:bK)(b S:Nat)(H:aj K c)(a2:aP L Y c b S)(g f m n o d a:Int)(ap:iD g=true->0<=f/\f<32)(hb:K.out.length<=900000)(h:ae w χ L Y C K):
 Calls prog 143 #[(L.mb,0),.int .u64 id,(b,S),.agg #[g,f,m,n,.int .u64 o,d,a]] w (de (.tuple #[]) χ L Y C K (cY K id c ⟨g,f,m,n,o,d,a⟩) w):=by
 have c2:=Z H;have c6:=Z a2;have I:=Z hb;obtain⟨F,D,c3,Q,N⟩:=h.rA g f m n o d a;obtain⟨t0,t1⟩:=N.c2;have t5:=N.k 5 rfl;have t6:=N.k 6 rfl;have c1:=Z ap;obtain⟨l,a3⟩:∃y,(K.F c).r 0=y:=⟨_,rfl⟩;have z:=Z a3;have M:=Q.at_.az H a2 0 (by omega);rw[a3]at M;clear h H a2 hb ap a3;by_cases q:d=0
 ·have E:Hid (cY K id c ⟨g,f,m,n,o,d,a⟩=K):=Z (by unfold cY;rw[if_pos q])
  subst q;go_enter func143,ntmps143
  go_wp2_with fail
  try rw[D]
  refine bodyPost_ret (results_none rfl _ _ _) rfl ?_;rw[E];exact⟨rfl,_,_,Q⟩
 ·have cL:(d==0)=false:=by rw[beq_eq_false_iff_ne];exact q
  go_enter func143,ntmps143
  go_wp2_with fail
  try rw[D]
  clear D;go_cut [8] (fun p wc=>D5 [.int .i64 5,.int .i64 0,.int .i64 0,.int .u64 id,d,.int .u64 0,.int .u64 0,.int .u64 0,.int .u64 0,.int .u64 l,.int .u64 0] F p wc)
  case first=>
   have cS:=World.new_ne F ⟨w.heap.size,5,none⟩ t5;have cW:=World.new_ne F ⟨b,S+1+0,none⟩ M;have dr:b≠F.heap.size:=Nat.ne_of_lt (aE M);have dC:w.heap.size≠F.heap.size:=Nat.ne_of_lt (aE t5);go_region_held3 (fun w'=>w'.cell? (w.heap.size,5)=some (.int .i64 d)/\w'.cell? (b,S+1+0)=some (.int .u64 l)) (go_keep) (fail)
   all_goals(go_wp2_with fail;go_meet)
   all_goals exact⟨F.heap.size,rfl,(Row.new F _ _).drew,((Ch.refl _ _).alloc _).drew,Nat.le_refl _⟩
  case rest=>
   obtain⟨B,rfl,bi,H,hle⟩:=hcut;have P:=Z bi;have al:=Z H;have X:=Z (Q.af al);have O:=Z (N.ch al (fun h=>h));have av:w.heap.size<=B:=Nat.le_trans c3.size hle;have c4:=Z av;have cQ:b≠B:=fun e=>by have a1:=aE M;dsimp only at a1;omega
   have cm:w.heap.size≠B:=fun e=>by have a1:=aE t0;dsimp only at a1;omega
   have c5:Hid (χ B=.no):=Z (Q.at_.fresh hle);clear t0 t1 t5 t6 M bi H hle av;have t0:=O.c1;have W:=Z (yP g wc);obtain⟨cA,ab⟩:=nm (iD g);rw[ab]at W;have V:=Z ab;obtain⟨bv,u⟩:∃p,(a==0)=p:=⟨_,rfl⟩;obtain⟨p1,cq⟩:∃p,(a==1)=p:=⟨_,rfl⟩;have cC:=Z u;have G:=Z cq;clear ab;cases cA
   ·have r:Hid ((if iD g=true then(K.F c).r f.toNat else 0)=0):=Z (by rw[if_neg (by rw[V.out];simp)])
    go_wp2_with fail
    refine W.mono ?_;rintro e w2 ⟨rfl,rfl⟩;go_upto_region 5 with fail
    have j:=X;have U:=P;have T:=O;clear t0;have A:Hid (((0:Int)==0)=true):=Z rfl;obtain⟨c7,c8,c9,cb,cd,ce,cf,ch,ci,ck,a0⟩:=U.Am;have t6:=T.k 6 rfl;cases bv
    ·cases p1
     ·have J:¬(a=0∨((a==1)=(0==(0:Int)))):=fun e=>e.elim (fun e=>by rw[beq_eq_false_iff_ne]at u;exact u e) (fun e=>by rw[G,A]at e;cases e)
      have E:Hid (cY K id c ⟨g,f,m,n,o,d,a⟩=K):=Z (by unfold cY;dsimp only;rw[if_neg q,r,z,if_neg (J)]);go_wp2_with fail
      go_end0
      rw[E];exact⟨rfl,_,_,j⟩
     ·have v:a=0∨((a==1)=(0==(0:Int))):=Or.inr (by rw[G,A])
      have E:Hid (cY K id c ⟨g,f,m,n,o,d,a⟩=tell K ⟨5,0,0,id,d,0,0,0,0,l,0⟩):=Z (by unfold cY;dsimp only;rw[if_neg q,r,z,if_pos (v)]);go_wp2_with fail
      refine(dz 5 0 0 id d 0 0 0 0 l 0 I j.at_).mono ?_;rintro e w4 ⟨rfl,x,t,k⟩;have s:=Z (j.trans (Gr.refl _) k);clear k;go_wp2_with fail
      go_end0
      rw[E];exact⟨rfl,x,t,s⟩
    ·have D:a=0:=by simpa using u
     have v:a=0∨((a==1)=(0==(0:Int))):=Or.inl D;have E:Hid (cY K id c ⟨g,f,m,n,o,d,a⟩=tell K ⟨5,0,0,id,d,0,0,0,0,l,0⟩):=Z (by unfold cY;dsimp only;rw[if_neg q,r,z,if_pos (v)]);go_wp2_with fail
     refine(dz 5 0 0 id d 0 0 0 0 l 0 I j.at_).mono ?_;rintro e w4 ⟨rfl,x,t,k⟩;have s:=Z (j.trans (Gr.refl _) k);clear k;go_wp2_with fail
     go_end0
     rw[E];exact⟨rfl,x,t,s⟩
   ·obtain⟨dN,ec⟩:=c1 V
    obtain⟨i,ad⟩:∃y,(K.F c).r f.toNat=y:=⟨_,rfl⟩;have r:Hid ((if iD g=true then(K.F c).r f.toNat else 0)=i):=Z (by rw[if_pos V.out];exact ad);have bw:=X.at_.az c2 c6 f.toNat (by omega);rw[ad]at bw;clear ad;have t1:=O.k 1 rfl;have a0:=P.k 10 rfl;have cl:=P.free 10;go_wp2_with fail
    refine W.mono ?_;rintro e w2 ⟨rfl,rfl⟩;go_wp2_with fail
    go_still_tail 8,(by kernel_rfl)
    change wpList _ _ _ _ _ wc.drew;go_upto_region 5 with fail
    obtain⟨c0,R⟩:=nm ((wc.setCell (B,10) (.int .u64 i)).drew);have am:Hid (Ch (aK B) wc c0):=Z (by rw[<-R];exact((Ch.refl _ _).only _ _).drew);have U:Hid (Row c0 B 62 [.int .i64 5,.int .i64 0,.int .i64 0,.int .u64 id,d,.int .u64 0,.int .u64 0,.int .u64 0,.int .u64 0,.int .u64 l,.int .u64 i]):=Z (by rw[<-R];exact(P.set 10 _).drew);have j:=Z (X.plain c5 c4 am);have T:=Z (O.ch am (fun e=>cm e));rw[R];clear R t0 t1 a0 cl bw;obtain⟨p2,cs⟩:∃p,(i==(0:Int))=p:=⟨_,rfl⟩;have A:=Z cs;obtain⟨c7,c8,c9,cb,cd,ce,cf,ch,ci,ck,a0⟩:=U.Am;have t6:=T.k 6 rfl;cases bv
    ·cases p1<;>cases p2
     ·have v:a=0∨((a==1)=(i==(0:Int))):=Or.inr (by rw[G,A])
      have E:Hid (cY K id c ⟨g,f,m,n,o,d,a⟩=tell K ⟨5,0,0,id,d,0,0,0,0,l,i⟩):=Z (by unfold cY;dsimp only;rw[if_neg q,r,z,if_pos (v)]);go_wp2_with fail
      refine(dz 5 0 0 id d 0 0 0 0 l i I j.at_).mono ?_;rintro e w4 ⟨rfl,x,t,k⟩;have s:=Z (j.trans (Gr.refl _) k);clear k;go_wp2_with fail
      go_end0
      rw[E];exact⟨rfl,x,t,s⟩
     ·have J:¬(a=0∨((a==1)=(i==(0:Int)))):=fun e=>e.elim (fun e=>by rw[beq_eq_false_iff_ne]at u;exact u e) (fun e=>by rw[G,A]at e;cases e)
      have E:Hid (cY K id c ⟨g,f,m,n,o,d,a⟩=K):=Z (by unfold cY;dsimp only;rw[if_neg q,r,z,if_neg (J)]);go_wp2_with fail
      go_end0
      rw[E];exact⟨rfl,_,_,j⟩
     ·have J:¬(a=0∨((a==1)=(i==(0:Int)))):=fun e=>e.elim (fun e=>by rw[beq_eq_false_iff_ne]at u;exact u e) (fun e=>by rw[G,A]at e;cases e)
      have E:Hid (cY K id c ⟨g,f,m,n,o,d,a⟩=K):=Z (by unfold cY;dsimp only;rw[if_neg q,r,z,if_neg (J)]);go_wp2_with fail
      go_end0
      rw[E];exact⟨rfl,_,_,j⟩
     ·have v:a=0∨((a==1)=(i==(0:Int))):=Or.inr (by rw[G,A])
      have E:Hid (cY K id c ⟨g,f,m,n,o,d,a⟩=tell K ⟨5,0,0,id,d,0,0,0,0,l,i⟩):=Z (by unfold cY;dsimp only;rw[if_neg q,r,z,if_pos (v)]);go_wp2_with fail
      refine(dz 5 0 0 id d 0 0 0 0 l i I j.at_).mono ?_;rintro e w4 ⟨rfl,x,t,k⟩;have s:=Z (j.trans (Gr.refl _) k);clear k;go_wp2_with fail
      go_end0
      rw[E];exact⟨rfl,x,t,s⟩
    ·have D:a=0:=by simpa using u
     have v:a=0∨((a==1)=(i==(0:Int))):=Or.inl D;have E:Hid (cY K id c ⟨g,f,m,n,o,d,a⟩=tell K ⟨5,0,0,id,d,0,0,0,0,l,i⟩):=Z (by unfold cY;dsimp only;rw[if_neg q,r,z,if_pos (v)]);go_wp2_with fail
     refine(dz 5 0 0 id d 0 0 0 0 l i I j.at_).mono ?_;rintro e w4 ⟨rfl,x,t,k⟩;have s:=Z (j.trans (Gr.refl _) k);clear k;go_wp2_with fail
     go_end0
     rw[E];exact⟨rfl,x,t,s⟩
end
end
end Go.Proofs.YtfnilkpkogipfaaGreatDoor
