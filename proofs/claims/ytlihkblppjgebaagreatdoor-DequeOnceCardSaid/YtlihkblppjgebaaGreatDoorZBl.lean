import Derived.Test.YtlihkblppjgebaaGreatDoorZBj
import Derived.Test.YtlihkblppjgebaaGreatDoorZBk
set_option linter.all false
set_option maxRecDepth 100000
set_option maxHeartbeats 8000000
namespace Go.Proofs.YtlihkblppjgebaaGreatDoor
open Go.RowKit Go.Proofs.Tryz
section
section
variable{w:World}{χ:Nat->a4}{L:cw}{Y:Var}{C:KC}{K:KS}
end
end
section
theorem zc{x:aV}{f:cE}(h:fx f):fx (dw x f).2/\((dw x f).1=0∨(dw x f).1=2∨(dw x f).1=3):=by
 unfold dw;split
 ·split
  ·exact⟨h,Or.inr (Or.inl rfl)⟩
  ·exact⟨⟨h.r,by show(f.back.take _).length<=8;rw[List.length_take];have:=h.back;omega⟩,Or.inl rfl⟩
 ·split
  ·split
   ·exact⟨h,Or.inr (Or.inr rfl)⟩
   ·exact⟨⟨h.r,by show(f.back++[_]).length<=8;rw[List.length_append,List.length_singleton];omega⟩,Or.inl rfl⟩
  ·split
   ·exact⟨h.pc _,Or.inl rfl⟩
   ·split
    ·exact⟨h.pc _,Or.inl rfl⟩
    ·exact⟨h.pc _,Or.inl rfl⟩
theorem Bk{f:cE}(h:fx f)(n:Int):aH (gF f.r n):=vI h.r n
theorem r1{m:Type}{Q Q':m->Prop}(acc:m->Int->Int->Int->Int->Option Int×m)(j:∀S kind a r v,Q S->aH v->Q' (acc S kind a r v).2/\∀x,(acc S kind a r v).1=some x->aH x)(g:∀S,Q S->Q' S)
 (l:List aV) (u:∀x∈l,aH x.v) (f:cE) (c:fx f) (S:m) (b:Q S):fx (bD acc l f S).2.1/\Q' (bD acc l f S).2.2/\
 ((bD acc l f S).1=0∨(bD acc l f S).1=1∨(bD acc l f S).1=2∨(bD acc l f S).1=3)/\
 ((bD acc l f S).1=0∨(bD acc l f S).1=1->bt (fu l f.pc) l.length=true/\fu l f.pc∈l)/\
 ((bD acc l f S).1=1->22<=(fu l f.pc).op/\(bD acc l f S).2.1=f/\(bD acc l f S).2.2=S):=by
 unfold bD;split
 ·exact⟨c,g _ b,Or.inr (Or.inr (Or.inr rfl)),(fun e=>by rcases e with e|e<;>cases e),fun e=>by cases e⟩
 ·rename_i B
  split
  ·exact⟨c,g _ b,Or.inr (Or.inr (Or.inr rfl)),(fun e=>by rcases e with e|e<;>cases e),fun e=>by cases e⟩
  ·rename_i x q
   have A:=(List.getElem?_eq_some_iff.1 q).1;have s:fu l f.pc=x:=by
    have:=nF (l:=l) (pc:=f.pc) (by omega) (by omega);rw[q]at this;exact(Option.some.inj this).symm
   have h:x∈l:=List.mem_of_getElem? q;rw[s];split
   ·exact⟨c,g _ b,Or.inr (Or.inr (Or.inr rfl)),(fun e=>by rcases e with e|e<;>cases e),fun e=>by cases e⟩
   ·rename_i d
    have d:bt x l.length=true:=(by simpa using d);split
    ·have:=zc (x:=x) c
     refine⟨this.1,g _ b,?_,fun _=>⟨d,h⟩,fun e=> ?_⟩
     ·rcases this.2 with e|e|e
      ·exact Or.inl e
      ·exact Or.inr (Or.inr (Or.inl e))
      ·exact Or.inr (Or.inr (Or.inr e))
     ·exfalso
      have e:(dw x f).1=1:=e;rcases this.2 with n|n|n<;>rw[n]at e<;>cases e
    ·split
     ·have i:Q' (cK acc S x f.r).2/\∀v,(cK acc S x f.r).1=some v->aH v:=by
       have k:aH (f.r x.a.toNat):=by
        have:=(dp d).1;exact c.r _ (by omega)
       have t:aH (f.r x.c.toNat):=by
        have:=(dp d).2.2.1;exact c.r _ (by omega)
       unfold cK;dsimp only;split
       ·exact j _ _ _ _ _ b bx
       ·split
        ·have:=j S 1 (du f.r x) 0 _ b k
         refine⟨this.1,fun v e=> ?_⟩;cases o:(acc S 1 (du f.r x) 0 (f.r x.a.toNat)).1 with
         |none=>rw[o]at e;cases e
         |some y=>rw[o]at e;rw[<-Option.some.inj e];exact k
        ·split
         ·exact j _ _ _ _ _ b k
         ·split
          ·exact j _ _ _ _ _ b k
          ·exact j _ _ _ _ _ b t
      split
      ·rename_i S' p
       rw[p]at i;exact⟨c,i.1,Or.inr (Or.inr (Or.inr rfl)),fun _=>⟨d,h⟩,fun e=>by cases e⟩
      ·rename_i v S' p
       rw[p]at i;exact⟨(c.au x.a.toNat v (i.2 v rfl)).pc _,i.1,Or.inl rfl,fun _=>⟨d,h⟩,fun e=>by cases e⟩
     ·split
      ·exact⟨(c.au x.a.toNat _ (sV x _ _ (u x h) (Bk c _))).pc _,g _ b,Or.inl rfl,fun _=>⟨d,h⟩,fun e=>by cases e⟩
      ·rename_i o w z
       refine⟨c,g _ b,Or.inr (Or.inl rfl),fun _=>⟨d,h⟩,fun _=>⟨?_,rfl,rfl⟩⟩;have:=(dp d).2.2.2;omega
structure oC(C:KC):Prop where
 ll:C.dx.length<=2048
 pl:C.bn.length<=2048
 cl:C.calls.length<=2048
 lv:∀x∈C.dx,aH x.v
 pv:∀x∈C.bn,aH x.v
 D4:∀x∈C.bn,ep x C.bn.length false=true
 bw:0<=C.wide/\C.wide<=256/\0<=C.narrow/\C.narrow<=256
 CT:C.rows.length=1000
 rows:∀r∈C.rows,0<=r/\r<=C.calls.length
section
variable{N M:Nat}{K:KS}{C:KC}
theorem iI.of{x:aV}{n:Nat}(h:bt x n=true)(a:aH x.v):iI x:=by
 obtain⟨b,c,d,_⟩:=dp h;exact⟨by omega,by omega,by omega,a⟩
theorem lD(d:oC C)(h:Inv N M K){c:bK}(f:aj K c):Inv N M (cy C K c).2.2/\((cy C K c).2.1=0∨(cy C K c).2.1=1∨(cy C K c).2.1=2∨(cy C K c).2.1=3)/\
 ((cy C K c).2.1=0∨(cy C K c).2.1=1->bt (cy C K c).1 C.dx.length=true/\aH (cy C K c).1.v)/\((cy C K c).2.1=1->22<=(cy C K c).1.op):=by
 have b:=r1 (Q:=bX) (Q':=bX) aF.acc (fun S kind a j v g i=>g.acc kind a j v i) (fun _ h=>h) C.dx d.lv (K.F c) (h.lz f) K.mem h.mem;unfold cy;dsimp only;exact⟨(h.qj b.2.1).cH (dn f rfl rfl) b.1,b.2.2.1,fun e=>⟨(b.2.2.2.1 e).1,d.lv _ (b.2.2.2.1 e).2⟩,fun e=>(b.2.2.2.2 e).1⟩
theorem mK{K1:KS}{c:bK}(b:aj K c)(a:K1.ai=K.ai)(hw:K1.wk=K.wk)(f:cE):Gr K (K1.cH c f)/\(K1.cH c f).wk.length=K.wk.length:=
 ⟨(Gr.of_eq a).trans (bs (dn b a hw) f),(bm c f).trans (by rw[hw])⟩
theorem nO(C:KC){c:bK}(a:aj K c):Gr K (cy C K c).2.2/\(cy C K c).2.2.wk.length=K.wk.length:=by
 unfold cy;dsimp only;exact mK (K1:=({K with mem:=(bD aF.acc C.dx (K.F c) K.mem).2.2}:KS)) a rfl rfl _
theorem nP(C:KC){c:bK}(i:Nat)(a:i<K.wk.length):((cy C K c).2.2.W i).slot=(K.W i).slot/\(cy C K c).2.2.w=K.w:=by
 unfold cy;dsimp only;cases c with
 |own j=>
  refine⟨?_,rfl⟩;show((KS.be _ j _).W i).slot=_
  by_cases e:i=j
  ·subst e;rw[gz (by exact a)];rfl
  ·unfold KS.W KS.be
   dsimp only;rw[List.getD_eq_getElem?_getD,List.getElem?_set_ne (fun h=>e h.symm),List.getD_eq_getElem?_getD]
 |ai id k=>exact⟨rfl,rfl⟩
theorem dX{c:bK}(a:aj K c)(k:Nat)(x:Int):Gr K (K.au c k x):=bs a _
theorem nQ(i:Nat)(id:Int):Gr K (eB K i id)/\(eB K i id).wk.length=K.wk.length:=by
 unfold eB
 repeat' split
 all_goals first|exact⟨Gr.refl _,rfl⟩|exact⟨Gr.of_eq rfl,bA _ _⟩
theorem r3{i:Nat}{c:bK}(a:aj K c)(x:aV):(bb K i c x).1=0->Gr K (bb K i c x).2/\(bb K i c x).2.wk.length=K.wk.length:=by
 unfold bb;dsimp only;split
 ·split
  ·intro e;cases e
  ·exact fun _=>⟨Gr.of_eq rfl,bA _ _⟩
 ·split
  ·intro e;cases e
  ·rename_i held b
   have g:=mK (K1:=({K with mem:=(K.mem.acc 4 (du (K.F c).r x) ((K.F c).r x.a.toNat) ((K.F c).r x.c.toNat)).2}:KS)) a rfl rfl {({K with mem:=(K.mem.acc 4 (du (K.F c).r x) ((K.F c).r x.a.toNat) ((K.F c).r x.c.toNat)).2}:KS).F c with r:=fO (({K with mem:=(K.mem.acc 4 (du (K.F c).r x) ((K.F c).r x.a.toNat) ((K.F c).r x.c.toNat)).2}:KS).F c).r x.a.toNat held};split
   ·exact fun _=>⟨g.1.trans (nQ _ _).1,(nQ _ _).2.trans g.2⟩
   ·exact fun _=>g
theorem zd(i:Nat){c:bK}(a:aj K c)(x:aV):Gr K (bU K i c x)/\(bU K i c x).wk.length=K.wk.length:=by
 unfold bU;dsimp only;split
 ·exact nQ _ _
 split
 ·split
  ·exact⟨Gr.of_eq rfl,bA _ _⟩
  ·exact⟨Gr.refl _,rfl⟩
 split
 ·have hlen:(K.au c x.a.toNat 0).wk.length=K.wk.length:=bm _ _
  have g:=dX a x.a.toNat 0;split
  ·have b:aj ((({K.au c x.a.toNat 0 with ring:=(gG (K.au c x.a.toNat 0).ring).2.2}:KS)).be i {(({K.au c x.a.toNat 0 with ring:=(gG (K.au c x.a.toNat 0).ring).2.2}:KS)).W i with hand:=(gG (K.au c x.a.toNat 0).ring).1}) c:=
    (a.gr g hlen).gr (Gr.of_eq rfl) (bA _ _)
   exact⟨(g.trans (Gr.of_eq rfl)).trans (dX b _ _),(bm _ _).trans ((bA _ _).trans hlen)⟩
  ·exact⟨g,hlen⟩
 split
 ·split
  ·exact⟨Gr.of_eq rfl,bA _ _⟩
  ·exact⟨Gr.refl _,rfl⟩
 ·exact⟨Gr.refl _,rfl⟩
theorem wZ{c:bK}(a:aj K c)(x:aV):Gr K (bd K c x)/\(bd K c x).wk.length=K.wk.length:=by
 unfold bd;dsimp only;split
 ·have hlen:(K.au c x.a.toNat 0).wk.length=K.wk.length:=bm _ _
  have g:=dX a x.a.toNat 0;have key:∀n:Int,Gr K (if n<=4096 then({K.au c x.a.toNat 0 with blocks:=(c' (K.au c x.a.toNat 0).blocks (K.au c x.a.toNat 0).mem n.toNat).2.1,mem:=(c' (K.au c x.a.toNat 0).blocks (K.au c x.a.toNat 0).mem n.toNat).2.2}:KS).au c x.a.toNat (match(c' (K.au c x.a.toNat 0).blocks (K.au c x.a.toNat 0).mem n.toNat).1 with|some h=>(h:Int)|none=>0)else K.au c x.a.toNat 0)/\(if n<=4096 then({K.au c x.a.toNat 0 with blocks:=(c' (K.au c x.a.toNat 0).blocks (K.au c x.a.toNat 0).mem n.toNat).2.1,mem:=(c' (K.au c x.a.toNat 0).blocks (K.au c x.a.toNat 0).mem n.toNat).2.2}:KS).au c x.a.toNat (match(c' (K.au c x.a.toNat 0).blocks (K.au c x.a.toNat 0).mem n.toNat).1 with|some h=>(h:Int)|none=>0)else K.au c x.a.toNat 0).wk.length=K.wk.length:=fun n=>by
   split
   ·have q:=mK (K:=K.au c x.a.toNat 0) (K1:=({K.au c x.a.toNat 0 with blocks:=(c' (K.au c x.a.toNat 0).blocks (K.au c x.a.toNat 0).mem n.toNat).2.1,mem:=(c' (K.au c x.a.toNat 0).blocks (K.au c x.a.toNat 0).mem n.toNat).2.2}:KS)) (a.gr g hlen) rfl rfl
    exact⟨g.trans (q _).1,(q _).2.trans hlen⟩
   ·exact⟨g,hlen⟩
  exact key _
 split
 ·split
  ·exact⟨Gr.of_eq rfl,rfl⟩
  ·exact⟨Gr.refl _,rfl⟩
 split
 ·split
  ·exact mK (K1:=({K with cV:=(fH K.cV x.v ((K.F c).r x.b.toNat)).2}:KS)) a rfl rfl _
  ·exact⟨dX a _ _,bm _ _⟩
 split
 ·exact⟨Gr.of_eq rfl,rfl⟩
 ·exact⟨Gr.refl _,rfl⟩
theorem w3(h:Inv N M K)(o:N<=900000){i:Nat}{c:bK}(f:aj K c)(x:aV):Gr K (bu C K i c x)/\(bu C K i c x).wk.length=K.wk.length:=by
 unfold bu;dsimp only;split
 ·split
  ·have g:=kC (K:=K) (wrap64 ((K.F c).r x.b.toNat)) ((K.F c).r x.c.toNat) (h.fresh o)
   have j:(bF K (wrap64 ((K.F c).r x.b.toNat)) ((K.F c).r x.c.toNat)).2.wk=K.wk:=nB _ _;have m:aj (bF K (wrap64 ((K.F c).r x.b.toNat)) ((K.F c).r x.c.toNat)).2 c:=f.gr g (by rw[j]);split
   ·exact⟨(g.trans (dO _ _ _)).trans (dX (m.gr (dO _ _ _) (fw _ _ _)) _ _),(bm _ _).trans ((fw _ _ _).trans (by rw[j]))⟩
   ·exact⟨g.trans (dX m _ _),(bm _ _).trans (by rw[j])⟩
  ·exact⟨dX f _ _,bm _ _⟩
 have n:∀(K1:KS) (id a:Int) (y:Nat) (v:Int),K1.ai=K.ai->K1.wk=K.wk->Gr K ((ef K1 id a).au c y v)/\((ef K1 id a).au c y v).wk.length=K.wk.length:=fun K1 id a y v d e=>by
  have k:(ef K1 id a).ai=K.ai:=(gO K1 id a).trans d;have l:(ef K1 id a).wk=K.wk:=(kB K1 id a).trans e;exact⟨(Gr.of_eq k).trans (dX (dn f k l) _ _),(bm _ _).trans (by rw[l])⟩
 have b:∀(K1:KS) (y:Nat) (v:Int),K1.ai=K.ai->K1.wk=K.wk->Gr K (K1.au c y v)/\(K1.au c y v).wk.length=K.wk.length:=fun K1 y v d e=>
  ⟨(Gr.of_eq d).trans (dX (dn f d e) _ _),(bm _ _).trans (by rw[e])⟩
 split
 ·split
  ·exact n _ _ _ _ _ rfl rfl
  ·exact b _ _ _ rfl rfl
 split
 ·split
  ·exact n _ _ _ _ _ rfl rfl
  ·exact b _ _ _ rfl rfl
 split
 ·exact b _ _ _ rfl rfl
 split
 ·exact b _ _ _ rfl rfl
 ·exact b _ _ _ rfl rfl
end
end
section
section
variable{w:World}{χ:Nat->a4}{L:cw}{Y:Var}{C:KC}{K:KS}
end
end
section
section
variable{K:KS}{k0 k1 k2 k3 a0 a1 a2 a3:Int}
end
section
variable{w w':World}{χ:Nat->a4}{L:cw}{Y:Var}{C:KC}{K:KS}
end
end
section
section
variable{N M:Nat}{K:KS}{C:KC}
theorem r7(h:Inv N M K)(id:Int)(c:bK)(x:aV):Inv N (M+1) (cY K id c x):=by
 unfold cY;split
 ·exact h.more (Nat.le_refl _) (Nat.le_succ _)
 ·dsimp only
  repeat' split
  all_goals first|exact h.tell _|exact h.more (Nat.le_refl _) (Nat.le_succ _)
theorem kJ(h:Inv N M K){c:bK}(a:aj K c):Inv N M (K.ft c):=h.cH a ((h.lz a).pc _)
theorem lk(h:Inv N M K)(id:Int):Inv N M (cv K id):=by
 rw[i'];have a:=(h.jZ (h.q.drop id)).jA (id:=id) 110 ⟨by decide,by decide⟩;split
 ·rename_i b
  rw[lA]at b;obtain⟨⟨t,c⟩,d⟩:=a.core.pX b;exact a.toRing c d
 ·exact a
theorem j6:∀(l:List Int) (K:KS),Inv N M K->Inv N M (l.foldl cv K)
 |[],_,h=>h
 |x::l,K,h=>j6 l _ (lk h x)
theorem oy(h:Inv N M K):Inv N (M+1) (gZ K):=by
 unfold gZ;dsimp only;exact j6 _ _ ((h.pY h.bW.tick.1).tell _)
end
end
section
section
variable{w w':World}{χ:Nat->a4}{L:cw}{Y:Var}{C:KC}{K:KS}
end
end
section
section
variable{w w':World}{χ:Nat->a4}{L:cw}{Y:Var}{C:KC}{K:KS}
end
end
end Go.Proofs.YtlihkblppjgebaaGreatDoor
