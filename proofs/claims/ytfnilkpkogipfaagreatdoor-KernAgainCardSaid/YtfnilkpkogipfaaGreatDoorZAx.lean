import Derived.Test.YtfnilkpkogipfaaGreatDoorZAo
import Derived.Test.YtfnilkpkogipfaaGreatDoorZAs
import Derived.Test.YtfnilkpkogipfaaGreatDoorZAt
import Derived.Test.YtfnilkpkogipfaaGreatDoorZAu
import Derived.Test.YtfnilkpkogipfaaGreatDoorZAv
import Derived.Test.YtfnilkpkogipfaaGreatDoorZAw
set_option linter.all false
set_option maxRecDepth 100000
set_option maxHeartbeats 8000000
namespace Go.Proofs.YtfnilkpkogipfaaGreatDoor
open Go.RowKit Go.Proofs.Tryz
section
theorem oa{n:Int}{used less:Bool}(h:fq n used less=true):(0<=n/\n<32)∨(n=-1/\less=true):=by
 unfold fq at h;split at h
 ·rw[Bool.or_eq_true,Bool.and_eq_true]at h
  rcases h with h|⟨a,b⟩
  ·exact Or.inl (by simpa using h)
  ·exact Or.inr ⟨by simpa using b,a⟩
 ·have:n=0:=by simpa using h
  subst this;exact Or.inl ⟨by decide,by decide⟩
theorem dx{x:aR}{n:Nat}(h:bz x n=true):(0<=x.a/\x.a<32)/\((0<=x.b/\x.b<32)∨(x.b=-1/\nn x.op=true))/\((0<=x.c/\x.c<32)∨(x.c=-1/\mh x.op=true))/\1<=x.op/\x.op<=58:=by
 obtain⟨y,c,d,e,f,b⟩:=ja h;unfold eB j7 mi at b;simp only[Bool.and_eq_true]at b;obtain⟨⟨⟨a,_⟩,⟨⟨g,i⟩,j⟩,_⟩,_⟩:=b;have a:1<=y.op/\y.op<=58:=by simpa using a
 rw[<-c,<-d,<-e,<-f];refine⟨?_,oa i,oa j,a⟩;rcases oa g with h|⟨_,h⟩
 ·exact h
 ·cases h
section
variable{w:World}{χ:Nat->aX}{L:cz}{Y:Var}{C:KC}{K:KS}
def GG(Y:Var):Option Int->Value
 |none=> .pointer none
 |some id=> .pointer (some (Y.bH id,0))
theorem mD{N M:Nat}(s:Inv N M K)(a0:N<=800000)(I:M<=800000)(i:Nat)(r:i<K.wk.length)(idO:Option Int)
 (J:∀id,idO=some id->(K.W i).slot=id/\id≠0/\∃t,aw K.ai id=some t/\t.l.length%2=0) (c:bN) (b d:Nat) (m:ak K c) (o:aS L Y c b d)
 (x:aR) (n:Nat) (U:bz x n=true) (V:22<=x.op) (B:aI x.v) (Z:0<=K.w/\K.w<K.wk.length) (E:C.a8.length<=2048) (h:ae w χ L Y C K):
 Calls prog 142 #[(L.mb,0),(L.wb,i*38),GG Y idO,(b,d),aK x] w (dM (aB C K i idO c x) χ L Y C K w):=by
 obtain⟨q,D,O,_,R⟩:=dx U;obtain⟨op,g,f,a,k,j,l⟩:=x;dsimp only at q D O R V B;have z:0<=a/\a<32:=O.elim id fun e=>by have:=e.2;unfold mh at this;simp at this;omega
 have A:(op≠31/\op≠32/\op≠43)->0<=f/\f<32:=fun a1=>D.elim id fun e=>by have:=e.2;unfold nn at this;simp at this;omega
 have S:=(m4 s.bH s.mem 1).1;have p:=(s.lS m).r;have W:(op=22∨op=36)∨(op=24∨op=28∨op=51∨op=53∨op=55∨op=56∨op=57∨op=58)∨(op=31∨op=32)∨(op=30∨op=33∨op=34∨op=35)∨(op=43∨op=44∨op=45∨op=46)∨(op=48∨op=52∨op=54∨op=49∨op=50)∨(op=25∨op=26∨op=27)∨(op=23∨op=41∨op=37∨op=40∨op=42∨op=29∨op=38∨op=39∨op=47):=by omega
 rcases W with(rfl|rfl)|e|e|e|e|e|e|e
 ·exact uo _ _ i c b d g f a k j l h
 ·exact uq _ _ i r c b d m o g f a k j l q h
 ·cases idO with
  |none=>exact xz i c b d op g f a k j l e h
  |some id=>
   obtain⟨X,Q,t,u,T⟩:=J id rfl;have v:=(s.dg u).id;have G:=(s.dg u).l;have F:=G.n8;have P:1<t.l.length:=(by have:=G.n0;omega);have y:=(s.Eg (by omega) u).1;have hb:=A (by omega);refine xt id i c b d op g f a k j l e rfl (fun w h=> ?_) h;rcases e with rfl|rfl|rfl|rfl|rfl|rfl|rfl|rfl
   ·exact sh i r id t u v y c b d m o p g f a k j l q hb z (s.b0.ok (by omega)) h
   ·exact si i r id t u v y c b d m o p g f a k j l q h
   ·exact sc i r id t u v y c b d m o p g f a k j l q h
   ·exact sd i r id t u v y c b d m o p g f a k j l q h
   ·exact se i r id t u v y c b d m o p g f a k j l (s.b0.ok (by omega)) (s.bH.ok (by omega)) (Nat.le_trans s.out I) h
   ·exact sf i r id t u v y c b d m o p g f a k j l h
   ·exact sj i r id t u v y c b d m o p g f a k j l q (by omega) F E h
   ·exact sg i r id t u v y c b d m o p g f a k j l P F (Nat.le_trans s.out I) h
 ·refine xu _ _ i c b d op g f a k j l e rfl (fun w h=> ?_) h
  rcases e with rfl|rfl
  ·exact ss i r c b d m o p g f a k j l q B h
  ·exact su i r c b d m o p g f a k j l q z B (s.mem.acc 4 _ _ _ (p _ (by omega))).2 h
 ·refine xv _ _ i c b d op g f a k j l e rfl (fun w h=> ?_) h
  rcases e with rfl|rfl|rfl|rfl
  ·exact zO i r c b d m o p g f a k j l q h
  ·exact zP i r c b d m o p g f a k j l q (s.z2 (by omega) r) h
  ·exact zQ i r c b d m o p g f a k j l q h
  ·exact zR i r c b d m o p g f a k j l q (s.z2 (by omega) r) h
 ·refine xw _ _ i c b d op g f a k j l e rfl (fun w h=> ?_) h
  have B1:=s.bH.ok (by omega);rcases e with rfl|rfl|rfl|rfl
  ·rcases D with hb|⟨rfl,_⟩
   ·exact uj c b d m o p g f a k j l q hb B1 h
   ·exact uk c b d m o p g a k j l q B B1 h
  ·exact xA c b d m o p g f a k j l q B1 h
  ·exact xC c b d m o p g f a k j l q (A (by decide)) B h
  ·exact xB c b d m o p g f a k j l q h
 ·refine xx _ _ i c b d op g f a k j l e rfl (fun w h=> ?_) h
  have B1:=s.bH.ok (by omega);have hb:=A (by omega);rcases e with rfl|rfl|rfl|rfl|rfl
  ·exact xH i r c b d m o p g f a k j l q hb z E B1 (S.ok (by omega)) (s.fresh (by omega)) (s.born (by omega) _ _ (p _ (by omega))).2.1 h
  ·exact xG i r c b d m o p g f a k j l q hb B1 h
  ·exact xF i r c b d m o p g f a k j l q hb B1 h
  ·exact xD i r c b d m o p g f a k j l q hb h
  ·exact xE i r c b d m o p g f a k j l q hb h
 ·refine xy _ _ i c b d op g f a k j l e rfl (fun w h=> ?_) h
  have hb:=A (by omega);rcases e with rfl|rfl|rfl
  ·exact sp i r c b d m o p g f a k j l q hb z (s.b0.ok (by omega)) (s.q.take _ _).2 h
  ·exact sr i r c b d m o p g f a k j l q hb z h
  ·exact sq i r c b d m o p g f a k j l q hb z h
 ·have hb:=A (by omega)
  have H:∀id w,ae w χ L Y C K->Calls prog 168 #[(L.mb,0),(L.wb,i*38),.int .u64 id,(b,d),aK ⟨op,g,f,a,k,j,l⟩] w (m2 (hW C K i id c ⟨op,g,f,a,k,j,l⟩) w):=fun id w h=>zT i r id c b d m o p op g f a k j l e hb Z E h
  cases idO with
  |none=>exact xJ i c b d m o op g f a k j l q e (H 0) h
  |some id=>
   obtain⟨X,Q,t,u,T⟩:=J id rfl;exact xK id t u (s.dg u).id i c b d m o op g f a k j l q e (H id) h
end
end
section
theorem z4{x:aR}{f:cu}(h:fi f):fi (dF x f).2/\((dF x f).1=0∨(dF x f).1=2∨(dF x f).1=3):=by
 unfold dF;split
 ·split
  ·exact⟨h,Or.inr (Or.inl rfl)⟩
  ·exact⟨⟨h.r,by show(f.back.take _).length<=8;rw[List.length_take];have:=h.back;omega⟩,Or.inl rfl⟩
 ·split
  ·split
   ·exact⟨h,Or.inr (Or.inr rfl)⟩
   ·exact⟨⟨h.r,by show(f.back++[_]).length<=8;rw[List.length_append,List.length_singleton];omega⟩,Or.inl rfl⟩
  ·split
   ·exact⟨h.pc _,Or.inl rfl⟩
   ·split
    ·exact⟨h.pc _,Or.inl rfl⟩
    ·exact⟨h.pc _,Or.inl rfl⟩
theorem Cn{f:cu}(h:fi f)(n:Int):aI (gT f.r n):=wO h.r n
theorem sG{m:Type}{Q Q':m->Prop}(acc:m->Int->Int->Int->Int->Option Int×m)(j:∀S kind a r v,Q S->aI v->Q' (acc S kind a r v).2/\∀x,(acc S kind a r v).1=some x->aI x)(g:∀S,Q S->Q' S)
 (l:List aR) (w:∀x∈l,aI x.v) (f:cu) (c:fi f) (S:m) (b:Q S):fi (a' acc l f S).2.1/\Q' (a' acc l f S).2.2/\
 ((a' acc l f S).1=0∨(a' acc l f S).1=1∨(a' acc l f S).1=2∨(a' acc l f S).1=3)/\
 ((a' acc l f S).1=0∨(a' acc l f S).1=1->bz (ff l f.pc) l.length=true/\ff l f.pc∈l)/\
 ((a' acc l f S).1=1->22<=(ff l f.pc).op/\(a' acc l f S).2.1=f/\(a' acc l f S).2.2=S):=by
 unfold a';split
 ·exact⟨c,g _ b,Or.inr (Or.inr (Or.inr rfl)),(fun e=>by rcases e with e|e<;>cases e),fun e=>by cases e⟩
 ·rename_i D
  split
  ·exact⟨c,g _ b,Or.inr (Or.inr (Or.inr rfl)),(fun e=>by rcases e with e|e<;>cases e),fun e=>by cases e⟩
  ·rename_i x q
   have B:=(List.getElem?_eq_some_iff.1 q).1;have t:ff l f.pc=x:=by
    have:=nY (l:=l) (pc:=f.pc) (by omega) (by omega);rw[q]at this;exact(Option.some.inj this).symm
   have h:x∈l:=List.mem_of_getElem? q;rw[t];split
   ·exact⟨c,g _ b,Or.inr (Or.inr (Or.inr rfl)),(fun e=>by rcases e with e|e<;>cases e),fun e=>by cases e⟩
   ·rename_i d
    have d:bz x l.length=true:=(by simpa using d);split
    ·have:=z4 (x:=x) c
     refine⟨this.1,g _ b,?_,fun _=>⟨d,h⟩,fun e=> ?_⟩
     ·rcases this.2 with e|e|e
      ·exact Or.inl e
      ·exact Or.inr (Or.inr (Or.inl e))
      ·exact Or.inr (Or.inr (Or.inr e))
     ·exfalso
      have e:(dF x f).1=1:=e;rcases this.2 with n|n|n<;>rw[n]at e<;>cases e
    ·split
     ·have i:Q' (bQ acc S x f.r).2/\∀v,(bQ acc S x f.r).1=some v->aI v:=by
       have k:aI (f.r x.a.toNat):=by
        have:=(dx d).1;exact c.r _ (by omega)
       have u:aI (f.r x.c.toNat):=by
        have:=(dx d).2.2.1;exact c.r _ (by omega)
       unfold bQ;dsimp only;split
       ·exact j _ _ _ _ _ b bm
       ·split
        ·have:=j S 1 (dt f.r x) 0 _ b k
         refine⟨this.1,fun v e=> ?_⟩;cases o:(acc S 1 (dt f.r x) 0 (f.r x.a.toNat)).1 with
         |none=>rw[o]at e;cases e
         |some y=>rw[o]at e;rw[<-Option.some.inj e];exact k
        ·split
         ·exact j _ _ _ _ _ b k
         ·split
          ·exact j _ _ _ _ _ b k
          ·exact j _ _ _ _ _ b u
      split
      ·rename_i s p
       rw[p]at i;exact⟨c,i.1,Or.inr (Or.inr (Or.inr rfl)),fun _=>⟨d,h⟩,fun e=>by cases e⟩
      ·rename_i v s p
       rw[p]at i;exact⟨(c.az x.a.toNat v (i.2 v rfl)).pc _,i.1,Or.inl rfl,fun _=>⟨d,h⟩,fun e=>by cases e⟩
     ·split
      ·exact⟨(c.az x.a.toNat _ (tS x _ _ (w x h) (Cn c _))).pc _,g _ b,Or.inl rfl,fun _=>⟨d,h⟩,fun e=>by cases e⟩
      ·rename_i o z A
       refine⟨c,g _ b,Or.inr (Or.inl rfl),fun _=>⟨d,h⟩,fun _=>⟨?_,rfl,rfl⟩⟩;have:=(dx d).2.2.2;omega
structure mU(C:KC):Prop where
 ll:C.dG.length<=2048
 pl:C.a8.length<=2048
 cl:C.calls.length<=2048
 lv:∀x∈C.dG,aI x.v
 pv:∀x∈C.a8,aI x.v
 FH:∀x∈C.a8,eB x C.a8.length false=true
 bw:0<=C.wide/\C.wide<=256/\0<=C.narrow/\C.narrow<=256
 Eh:C.rows.length=1000
 rows:∀r∈C.rows,0<=r/\r<=C.calls.length
section
variable{N M:Nat}{K:KS}{C:KC}
theorem iS.of{x:aR}{n:Nat}(h:bz x n=true)(a:aI x.v):iS x:=by
 obtain⟨b,c,d,_⟩:=dx h;exact⟨by omega,by omega,by omega,a⟩
theorem lW(d:mU C)(h:Inv N M K){c:bN}(f:ak K c):Inv N M (cF C K c).2.2/\((cF C K c).2.1=0∨(cF C K c).2.1=1∨(cF C K c).2.1=2∨(cF C K c).2.1=3)/\
 ((cF C K c).2.1=0∨(cF C K c).2.1=1->bz (cF C K c).1 C.dG.length=true/\aI (cF C K c).1.v)/\((cF C K c).2.1=1->22<=(cF C K c).1.op):=by
 have b:=sG (Q:=b') (Q':=b') aA.acc (fun S kind a j v g i=>g.acc kind a j v i) (fun _ h=>h) C.dG d.lv (K.F c) (h.lS f) K.mem h.mem;unfold cF;dsimp only;exact⟨(h.qP b.2.1).cJ (dw f rfl rfl) b.1,b.2.2.1,fun e=>⟨(b.2.2.2.1 e).1,d.lv _ (b.2.2.2.1 e).2⟩,fun e=>(b.2.2.2.2 e).1⟩
theorem m5{K1:KS}{c:bN}(d:ak K c)(a:K1.ai=K.ai)(b:K1.wk=K.wk)(f:cu):Gr K (K1.cJ c f)/\(K1.cJ c f).wk.length=K.wk.length:=
 ⟨(Gr.of_eq a).trans (bu (dw d a b) f),(bq c f).trans (by rw[b])⟩
theorem oc(C:KC){c:bN}(a:ak K c):Gr K (cF C K c).2.2/\(cF C K c).2.2.wk.length=K.wk.length:=by
 unfold cF;dsimp only;exact m5 (K1:=({K with mem:=(a' aA.acc C.dG (K.F c) K.mem).2.2}:KS)) a rfl rfl _
theorem od(C:KC){c:bN}(i:Nat)(a:i<K.wk.length):((cF C K c).2.2.W i).slot=(K.W i).slot/\(cF C K c).2.2.w=K.w:=by
 unfold cF;dsimp only;cases c with
 |own j=>
  refine⟨?_,rfl⟩;show((KS.be _ j _).W i).slot=_
  by_cases e:i=j
  ·subst e;rw[gM (by exact a)];rfl
  ·unfold KS.W KS.be
   dsimp only;rw[List.getD_eq_getElem?_getD,List.getElem?_set_ne (fun h=>e h.symm),List.getD_eq_getElem?_getD]
 |ai id k=>exact⟨rfl,rfl⟩
theorem pK(C:KC){id:Int}{k:Nat}{t:Thread}(b:aw K.ai id=some t):∃a,aw (cF C K (.ai id k)).2.2.ai id=some a/\a.l.length=t.l.length/\a.id=t.id:=by
 unfold cF;dsimp only;refine⟨_,by show aw (b8 K.ai id _) id=_;rw[aV,if_pos rfl],?_,?_⟩
 ·show(List.set (K.T id).l k _).length=_
  rw[List.length_set,KS.dk b]
 ·show(K.T id).id=_
  rw[KS.dk b]
theorem ed{c:bN}(a:ak K c)(k:Nat)(x:Int):Gr K (K.az c k x):=bu a _
theorem xT(C:KC)(i:Nat):Gr K (dA C K i):=Gr.of_eq rfl
theorem oe(i:Nat)(id:Int):Gr K (eK K i id)/\(eK K i id).wk.length=K.wk.length:=by
 unfold eK
 repeat' split
 all_goals first|exact⟨Gr.refl _,rfl⟩|exact⟨Gr.of_eq rfl,bF _ _⟩
theorem xU(C:KC)(i:Nat):(dA C K i).wk.length=K.wk.length:=by unfold dA gJ;rw[bF,bF]
theorem sH(i:Nat){id:Int}{t:Thread}(a:aw K.ai id=some t){c:bN}(b:ak K c)(x:aR):(aD C K i id c x).1=0->Gr K (aD C K i id c x).2/\(aD C K i id c x).2.wk.length=K.wk.length:=by
 unfold aD;dsimp only;split
 ·split
  ·exact fun _=>⟨Gr.of_eq rfl,rfl⟩
  ·exact fun _=>⟨Gr.of_eq rfl,rfl⟩
 split
 ·split
  ·intro e;cases e
  ·exact fun _=>⟨ed b _ _,bq _ _⟩
 split
 ·exact fun _=>⟨Gr.of_eq rfl,rfl⟩
 split
 ·exact fun _=>⟨Gr.of_eq rfl,rfl⟩
 split
 ·intro e;cases e
 split
 ·exact fun _=>⟨(Gr.of_eq (so K id)).trans (xT C i),xU C i⟩
 split
 ·split
  ·exact fun _=>⟨by rw[KS.dk a];exact qM a (by simp),rfl⟩
  ·exact fun _=>⟨Gr.refl _,rfl⟩
 split
 ·intro e;cases e
 ·exact fun _=>⟨Gr.refl _,rfl⟩
theorem sI{i:Nat}{c:bN}(a:ak K c)(x:aR):(bf K i c x).1=0->Gr K (bf K i c x).2/\(bf K i c x).2.wk.length=K.wk.length:=by
 unfold bf;dsimp only;split
 ·split
  ·intro e;cases e
  ·exact fun _=>⟨Gr.of_eq rfl,bF _ _⟩
 ·split
  ·intro e;cases e
  ·rename_i held b
   have g:=m5 (K1:=({K with mem:=(K.mem.acc 4 (dt (K.F c).r x) ((K.F c).r x.a.toNat) ((K.F c).r x.c.toNat)).2}:KS)) a rfl rfl {({K with mem:=(K.mem.acc 4 (dt (K.F c).r x) ((K.F c).r x.a.toNat) ((K.F c).r x.c.toNat)).2}:KS).F c with r:=fU (({K with mem:=(K.mem.acc 4 (dt (K.F c).r x) ((K.F c).r x.a.toNat) ((K.F c).r x.c.toNat)).2}:KS).F c).r x.a.toNat held};split
   ·exact fun _=>⟨g.1.trans (oe _ _).1,(oe _ _).2.trans g.2⟩
   ·exact fun _=>g
theorem z5(i:Nat){c:bN}(a:ak K c)(x:aR):Gr K (bY K i c x)/\(bY K i c x).wk.length=K.wk.length:=by
 unfold bY;dsimp only;split
 ·exact oe _ _
 split
 ·split
  ·exact⟨Gr.of_eq rfl,bF _ _⟩
  ·exact⟨Gr.refl _,rfl⟩
 split
 ·have hlen:(K.az c x.a.toNat 0).wk.length=K.wk.length:=bq _ _
  have g:=ed a x.a.toNat 0;split
  ·have b:ak ((({K.az c x.a.toNat 0 with ring:=(gU (K.az c x.a.toNat 0).ring).2.2}:KS)).be i {(({K.az c x.a.toNat 0 with ring:=(gU (K.az c x.a.toNat 0).ring).2.2}:KS)).W i with hand:=(gU (K.az c x.a.toNat 0).ring).1}) c:=
    (a.gr g hlen).gr (Gr.of_eq rfl) (bF _ _)
   exact⟨(g.trans (Gr.of_eq rfl)).trans (ed b _ _),(bq _ _).trans ((bF _ _).trans hlen)⟩
  ·exact⟨g,hlen⟩
 split
 ·split
  ·exact⟨Gr.of_eq rfl,bF _ _⟩
  ·exact⟨Gr.refl _,rfl⟩
 ·exact⟨Gr.refl _,rfl⟩
theorem xV{c:bN}(a:ak K c)(x:aR):Gr K (bh K c x)/\(bh K c x).wk.length=K.wk.length:=by
 unfold bh;dsimp only;split
 ·have hlen:(K.az c x.a.toNat 0).wk.length=K.wk.length:=bq _ _
  have g:=ed a x.a.toNat 0;have key:∀n:Int,Gr K (if n<=4096 then({K.az c x.a.toNat 0 with blocks:=(dd (K.az c x.a.toNat 0).blocks (K.az c x.a.toNat 0).mem n.toNat).2.1,mem:=(dd (K.az c x.a.toNat 0).blocks (K.az c x.a.toNat 0).mem n.toNat).2.2}:KS).az c x.a.toNat (match(dd (K.az c x.a.toNat 0).blocks (K.az c x.a.toNat 0).mem n.toNat).1 with|some h=>(h:Int)|none=>0)else K.az c x.a.toNat 0)/\(if n<=4096 then({K.az c x.a.toNat 0 with blocks:=(dd (K.az c x.a.toNat 0).blocks (K.az c x.a.toNat 0).mem n.toNat).2.1,mem:=(dd (K.az c x.a.toNat 0).blocks (K.az c x.a.toNat 0).mem n.toNat).2.2}:KS).az c x.a.toNat (match(dd (K.az c x.a.toNat 0).blocks (K.az c x.a.toNat 0).mem n.toNat).1 with|some h=>(h:Int)|none=>0)else K.az c x.a.toNat 0).wk.length=K.wk.length:=fun n=>by
   split
   ·have q:=m5 (K:=K.az c x.a.toNat 0) (K1:=({K.az c x.a.toNat 0 with blocks:=(dd (K.az c x.a.toNat 0).blocks (K.az c x.a.toNat 0).mem n.toNat).2.1,mem:=(dd (K.az c x.a.toNat 0).blocks (K.az c x.a.toNat 0).mem n.toNat).2.2}:KS)) (a.gr g hlen) rfl rfl
    exact⟨g.trans (q _).1,(q _).2.trans hlen⟩
   ·exact⟨g,hlen⟩
  exact key _
 split
 ·split
  ·exact⟨Gr.of_eq rfl,rfl⟩
  ·exact⟨Gr.refl _,rfl⟩
 split
 ·split
  ·exact m5 (K1:=({K with c':=(fN K.c' x.v ((K.F c).r x.b.toNat)).2}:KS)) a rfl rfl _
  ·exact⟨ed a _ _,bq _ _⟩
 split
 ·exact⟨Gr.of_eq rfl,rfl⟩
 ·exact⟨Gr.refl _,rfl⟩
theorem xW(h:Inv N M K)(o:N<=900000){i:Nat}{c:bN}(f:ak K c)(x:aR):Gr K (bA C K i c x)/\(bA C K i c x).wk.length=K.wk.length:=by
 unfold bA;dsimp only;split
 ·split
  ·have g:=kX (K:=K) (wrap64 ((K.F c).r x.b.toNat)) ((K.F c).r x.c.toNat) (h.fresh o)
   have j:(bL K (wrap64 ((K.F c).r x.b.toNat)) ((K.F c).r x.c.toNat)).2.wk=K.wk:=nV _ _;have m:ak (bL K (wrap64 ((K.F c).r x.b.toNat)) ((K.F c).r x.c.toNat)).2 c:=f.gr g (by rw[j]);split
   ·exact⟨(g.trans (dT _ _ _)).trans (ed (m.gr (dT _ _ _) (fE _ _ _)) _ _),(bq _ _).trans ((fE _ _ _).trans (by rw[j]))⟩
   ·exact⟨g.trans (ed m _ _),(bq _ _).trans (by rw[j])⟩
  ·exact⟨ed f _ _,bq _ _⟩
 have n:∀(K1:KS) (id a:Int) (y:Nat) (v:Int),K1.ai=K.ai->K1.wk=K.wk->Gr K ((ek K1 id a).az c y v)/\((ek K1 id a).az c y v).wk.length=K.wk.length:=fun K1 id a y v d e=>by
  have k:(ek K1 id a).ai=K.ai:=(g0 K1 id a).trans d;have l:(ek K1 id a).wk=K.wk:=(kW K1 id a).trans e;exact⟨(Gr.of_eq k).trans (ed (dw f k l) _ _),(bq _ _).trans (by rw[l])⟩
 have b:∀(K1:KS) (y:Nat) (v:Int),K1.ai=K.ai->K1.wk=K.wk->Gr K (K1.az c y v)/\(K1.az c y v).wk.length=K.wk.length:=fun K1 y v d e=>
  ⟨(Gr.of_eq d).trans (ed (dw f d e) _ _),(bq _ _).trans (by rw[e])⟩
 split
 ·split
  ·exact n _ _ _ _ _ rfl rfl
  ·exact b _ _ _ rfl rfl
 split
 ·split
  ·exact n _ _ _ _ _ rfl rfl
  ·exact b _ _ _ rfl rfl
 split
 ·exact b _ _ _ rfl rfl
 split
 ·exact b _ _ _ rfl rfl
 ·exact b _ _ _ rfl rfl
theorem sJ{i:Nat}{c:bN}(j:ak K c)(x:aR):Gr K (bk K i c x)/\(bk K i c x).wk.length=K.wk.length:=by
 have a:∀(K1:KS) (y:Nat) (v:Int),K1.ai=K.ai->K1.wk=K.wk->Gr K (K1.az c y v)/\(K1.az c y v).wk.length=K.wk.length:=fun K1 y v g h=>
  ⟨(Gr.of_eq g).trans (ed (dw j g h) _ _),(bq _ _).trans (by rw[h])⟩
 unfold bk;dsimp only;split
 ·split
  ·obtain⟨p,l⟩:=nm (eJ K.q ((K.F c).r x.b.toNat) ((K.F c).r x.c.toNat))
   rw[l];obtain⟨b,d⟩:=nm (b1 ({K with q:=p.2.2,clock:=(K.clock.bp p.1).2}:KS) p.1 0);have e:Gr K b:=(by rw[<-d];exact(Gr.of_eq (K':=({K with q:=p.2.2,clock:=(K.clock.bp p.1).2}:KS)) rfl).trans (jO _ _ _));have f:b.wk=K.wk:=(by rw[<-d];exact(pJ _ _ _).1);have k:ak b c:=j.gr e (by rw[f]);show Gr K (KS.az (if cE (b1 ({K with q:=p.2.2,clock:=(K.clock.bp p.1).2}:KS) p.1 0) p.1=3 then eo (b1 ({K with q:=p.2.2,clock:=(K.clock.bp p.1).2}:KS) p.1 0) i p.1 else b1 ({K with q:=p.2.2,clock:=(K.clock.bp p.1).2}:KS) p.1 0) c x.a.toNat p.1)/\(KS.az (if cE (b1 ({K with q:=p.2.2,clock:=(K.clock.bp p.1).2}:KS) p.1 0) p.1=3 then eo (b1 ({K with q:=p.2.2,clock:=(K.clock.bp p.1).2}:KS) p.1 0) i p.1 else b1 ({K with q:=p.2.2,clock:=(K.clock.bp p.1).2}:KS) p.1 0) c x.a.toNat p.1).wk.length=_
   rw[d];split
   ·exact⟨(e.trans (dT _ _ _)).trans (ed (k.gr (dT _ _ _) (fE _ _ _)) _ _),(bq _ _).trans ((fE _ _ _).trans (by rw[f]))⟩
   ·exact⟨e.trans (ed k _ _),(bq _ _).trans (by rw[f])⟩
  ·exact a _ _ _ rfl rfl
 split
 ·exact a _ _ _ rfl rfl
 split
 ·exact a _ _ _ rfl rfl
 ·exact a _ _ _ rfl rfl
theorem kn(h:Inv N M K)(b:N<=900000){i:Nat}{idO:Option Int}{c:bN}(a:ak K c)(x:aR)(d:∀id,idO=some id->∃t,aw K.ai id=some t):
 (aB C K i idO c x).1=0->Gr K (aB C K i idO c x).2/\(aB C K i idO c x).2.wk.length=K.wk.length:=by
 unfold aB;dsimp only;split
 ·cases idO with
  |none=>exact fun _=>⟨Gr.refl _,rfl⟩
  |some id=>obtain⟨t,f⟩:=d id rfl;exact sH i f a x
 split
 ·exact sI a x
 split
 ·split
  ·intro e;cases e
  ·exact fun _=>⟨Gr.of_eq rfl,bF _ _⟩
 split
 ·exact fun _=>z5 i a x
 split
 ·exact fun _=>xV a x
 split
 ·exact fun _=>xW h b a x
 split
 ·exact fun _=>sJ a x
 split
 ·intro e;cases e
 ·exact fun _=>⟨ed a _ _,bq _ _⟩
theorem oh(K:KS)(i:Nat)(idO:Option Int)(c:bN)(x:aR):(aB C K i idO c x).1=0∨(aB C K i idO c x).1=1∨(aB C K i idO c x).1=2:=by
 have b:∀id,(aD C K i id c x).1=0∨(aD C K i id c x).1=1∨(aD C K i id c x).1=2:=fun id=>by
  unfold aD;dsimp only
  repeat' split
  all_goals first|exact Or.inl rfl|exact Or.inr (Or.inl rfl)
 have a:(bf K i c x).1=0∨(bf K i c x).1=1∨(bf K i c x).1=2:=by
  unfold bf;dsimp only
  repeat' split
  all_goals first|exact Or.inl rfl|exact Or.inr (Or.inr rfl)
 unfold aB;dsimp only;split
 ·cases idO with
  |none=>exact Or.inl rfl
  |some id=>exact b id
 split
 ·exact a
 repeat' split
 all_goals first|exact Or.inl rfl|exact Or.inr (Or.inl rfl)|exact Or.inr (Or.inr rfl)
theorem jk(K:KS)(i:Nat)(idO:Option Int)(c:bN)(x:aR):(aB C K i idO c x).1=2->(aB C K i idO c x).2.ai=K.ai/\(aB C K i idO c x).2.wk=K.wk:=by
 have a:∀id,(aD C K i id c x).1≠2:=fun id=>by
  unfold aD;dsimp only
  repeat' split
  all_goals(intro e;cases e)
 unfold aB;dsimp only;split
 ·cases idO with
  |none=>intro e;cases e
  |some id=>exact fun e=>absurd e (a id)
 split
 ·unfold bf
  dsimp only;split
  ·split
   ·exact fun _=>⟨rfl,rfl⟩
   ·intro e;cases e
  ·split
   ·exact fun _=>⟨rfl,rfl⟩
   ·split
    ·intro e;cases e
    ·intro e;cases e
 repeat' split
 all_goals first|exact fun _=>⟨rfl,rfl⟩|(intro e;cases e)
end
end
section
section
variable{w:World}{χ:Nat->aX}{L:cz}{Y:Var}{C:KC}{K:KS}
theorem z6{N M:Nat}(T:mU C)(U:Inv N M K)(hF:N<=700000)(hB:M<=700000)(i:Nat)(F:i<K.wk.length)(c9:0<=K.w/\K.w<K.wk.length)(h:ae w χ L Y C K):
 Calls prog 110 #[(L.mb,0),(L.wb,i*38)] w (r9 (.tuple #[]) χ L C (ke C K i) w):=by
 obtain⟨go,dC,gf⟩:=h.pz F false;have i0:=h.vM F;have i1:=h.uf (i*38+2);have V:Inv N M (K.be i {K.W i with parked:=false}):=U.be F rfl rfl ⟨(U.gz F).f,(U.gz F).l0,(U.gz F).l1⟩;obtain⟨K1,cA⟩:=nm (K.be i {K.W i with parked:=false});have X:i<K1.wk.length:=by rw[<-cA,bF];exact F
 have cb:0<=K1.w/\K1.w<K1.wk.length:=by rw[<-cA,bF];exact c9
 have ch:Hid (ke C K i=if(eE C K1 i none (.own i)).2.1=0 then da (eE C K1 i none (.own i)).2.2 0 (.own i) (eE C K1 i none (.own i)).1 else if(eE C K1 i none (.own i)).2.1=3∨(eE C K1 i none (.own i)).2.1=2 then gJ C (eE C K1 i none (.own i)).2.2 i else(eE C K1 i none (.own i)).2.2):=Z (by unfold ke;rw[cA]);rw[cA]at gf V;have H:=Z gf;have B:ak K1 (.own i):=X;have c1:aS L dC (.own i) L.wb (i*38+4):=⟨rfl,rfl⟩;clear cA gf;have ec:=fun w (h:ae w go L dC C K1)=>pE (.own i) L.wb (i*38+4) B c1 (V.lS B).r (V.lS B).back T.lv T.ll h
 have fr:=lW T V B;have bx:=oc C B;have a0:=od C (c:=.own i) i X;obtain⟨s,R⟩:=nm (cF C K1 (.own i));rw[R]at ec fr bx a0;obtain⟨x,r,q⟩:=s;dsimp only at ec fr bx a0;obtain⟨I,hn,c0,c7⟩:=fr;have O:i<q.wk.length:=by rw[bx.2];exact X
 have cd:0<=q.w/\q.w<q.wk.length:=by rw[a0.2,bx.2];exact cb
 have J:ak q (.own i):=B.gr bx.1 bx.2;obtain⟨d,a,f,g,l,k,m⟩:=x;have cf:Hid (∀w,ae w go L dC C K1->Calls prog 141 #[(L.mb,0),(L.wb,i*38+4)] w (dj (.tuple #[.agg #[d,a,f,g,.int .u64 l,k,m],r]) go L dC C K1 q w)):=Z ec;have hv:=Z bx;have G:=Z (And.intro B c1);clear ec bx;rcases hn with rfl|rfl|rfl|rfl
 ·obtain⟨a1,c8⟩:=c0 (Or.inl rfl)
  have fb:Hid (iN d=true->0<=a/\a<32):=Z (fun _=>(dx a1).1);have ce:Hid (q.out.length<=900000):=Z (by have:=I.out;omega);have eL:=Z J;have E:Hid (ke C K i=da q 0 (.own i) ⟨d,a,f,g,l,k,m⟩):=Z (by rw[ch];unfold eE;rw[R];rfl);clear a1 c8;clear h U F c9 V X cb B c1 a0 I O cd J c0 c7 R T;go_in
  go_wp2_with fail
  with_reducible refine(cf.out _ H.out.at_).mono ?_
  rintro e w2 ⟨rfl,av,Q,b⟩;have y:=Z b;have P:=Z (H.nx.trans b.nx);have S:Hid (aS L Q (.own i) L.wb (i*38+4)):=Z (G.2.yk G.1 b.yk);clear b;go_wp2
  obtain⟨w3,o⟩:=nm (w2.alloc (.cells #[d,a,f,g,.int .u64 l,k,m] 121));have u:=Z (Ch.al (D:=ag) o);have A:Hid (Row w3 w2.heap.size 121 [d,a,f,g,.int .u64 l,k,m]/\av w2.heap.size=.no):=Z ⟨by rw[<-o];exact Row.new w2 _ _,y.at_.fresh (Nat.le_refl _)⟩;rw[o];clear o;have c6:=Z (y.af u);have cr:=Z c6.at_;have eS:=Z (jP 0 (.own i) L.wb (i*38+4) eL S d a f g l k m fb ce cr.drew);obtain⟨a2,a3,ab,ad,al,am,ap⟩:=A.1.c7;go_still_tail 5,(by kernel_rfl)
  change wpList _ _ _ _ _ w3.drew;go_wp2_with fail
  with_reducible refine eS.out.mono ?_
  rintro e eA ⟨rfl,ax,W,t⟩;have z:=Z (And.intro t.at_ ((P.trans (Nx.af u)).trans ((Nx.af (Ch.refl _ w3).drew).trans t.nx)));clear t;clear a2 a3 ab ad al am ap;go_wp2
  go_end0
  rw[E];exact⟨rfl,ax,W,z.1,z.2⟩
 ·obtain⟨a1,c8⟩:=c0 (Or.inr rfl)
  have es:=c7 rfl;have fb:Hid (iN d=true->0<=a/\a<32):=Z (fun _=>(dx a1).1);have gc:=fun(w:World) (χ:Nat->aX) (Y:Var) (et:aS L Y (.own i) L.wb (i*38+4)) (h:ae w χ L Y C q)=>mD I (by omega) (by omega) i O none (fun j cL=>by cases cL) (.own i) L.wb (i*38+4) J et ⟨d,a,f,g,l,k,m⟩ _ a1 es c8 cd T.pl h
  have c2:=jj (C:=C) I (by omega) O (idO:=none) J (iS.of a1 c8) (fun j cL=>by cases cL);have ck:=kn (C:=C) I (by omega) (i:=i) (idO:=none) J ⟨d,a,f,g,l,k,m⟩ (fun j cL=>by cases cL);have ci:=jk (C:=C) q i none (.own i) ⟨d,a,f,g,l,k,m⟩;have fz:=oh (C:=C) q i none (.own i) ⟨d,a,f,g,l,k,m⟩;have cS:Hid (eE C K1 i none (.own i)=if(aB C q i none (.own i) ⟨d,a,f,g,l,k,m⟩).1=0 then(⟨d,a,f,g,l,k,m⟩,0,(aB C q i none (.own i) ⟨d,a,f,g,l,k,m⟩).2.fB (.own i))else if(aB C q i none (.own i) ⟨d,a,f,g,l,k,m⟩).1=2 then(⟨d,a,f,g,l,k,m⟩,3,(aB C q i none (.own i) ⟨d,a,f,g,l,k,m⟩).2)else(⟨d,a,f,g,l,k,m⟩,1,(aB C q i none (.own i) ⟨d,a,f,g,l,k,m⟩).2)):=Z (by unfold eE;rw[R];rfl);obtain⟨p,et⟩:=nm (aB C q i none (.own i) ⟨d,a,f,g,l,k,m⟩);rw[et]at gc c2 ck ci fz cS;obtain⟨n,v⟩:=p;dsimp only at c2 ck ci fz;have eW:Hid (∀(w:World) (χ:Nat->aX) (Y:Var),aS L Y (.own i) L.wb (i*38+4)->ae w χ L Y C q->Calls prog 142 #[(L.mb,0),(L.wb,i*38),.pointer none,(L.wb,i*38+4),.agg #[d,a,f,g,.int .u64 l,k,m]] w (dM (n,v) χ L Y C q w)):=Z gc;clear et gc;rcases fz with rfl|rfl|rfl
  ·have cC:=ck rfl
   have hm:i<v.wk.length:=(by rw[cC.2];exact O);have en:ak v (.own i):=J.gr cC.1 cC.2;have cm:=Z (And.intro en (And.intro J cC));have eL:Hid (ak (v.fB (.own i)) (.own i)):=Z (en.gr (bu en _) (bq _ _));have hw:=Z c2;have ce:Hid ((v.fB (.own i)).out.length<=900000):=Z (by have:(v.fB (.own i)).out=v.out:=sn _ _;rw[this];have:=c2.out;omega);have E:Hid (ke C K i=da (v.fB (.own i)) 0 (.own i) ⟨d,a,f,g,l,k,m⟩):=Z (by rw[ch,cS];rfl);clear a1 c8 es c2 ck ci;clear cC hm en;clear h U F c9 V X cb B c1 a0 I O cd J c0 c7 R T;go_in
   go_wp2_with fail
   with_reducible refine(cf.out _ H.out.at_).mono ?_
   rintro e w2 ⟨rfl,av,Q,b⟩;have y:=Z b;have P:=Z (H.nx.trans b.nx);have S:Hid (aS L Q (.own i) L.wb (i*38+4)):=Z (G.2.yk G.1 b.yk);clear b;go_wp2
   obtain⟨w3,o⟩:=nm (w2.alloc (.cells #[d,a,f,g,.int .u64 l,k,m] 121));have u:=Z (Ch.al (D:=ag) o);have A:Hid (Row w3 w2.heap.size 121 [d,a,f,g,.int .u64 l,k,m]/\av w2.heap.size=.no):=Z ⟨by rw[<-o];exact Row.new w2 _ _,y.at_.fresh (Nat.le_refl _)⟩;rw[o];clear o;have c6:=Z (y.af u);obtain⟨a2,a3,ab,ad,al,am,ap⟩:=A.1.c7;go_still_tail 6,(by kernel_rfl)
   change wpList _ _ _ _ _ w3.drew;go_wp2_with fail
   have bw:=eW _ _ _ S c6.at_.drew;with_reducible refine bw.mono ?_
   clear bw;rintro e w4 ⟨rfl,eC,dN,bv,c3,c4⟩;have c5:=Z bv;have bi:=Z ((Nx.af (Ch.refl _ w3).drew).trans c3);have cs:=Z ((P.trans (Nx.af u)).trans bi);have fd:=Z c4;clear bv c3 c4 a2 a3 ab ad al am ap;have cQ:=Z (bi.row A.1 A.2);have dr:=Z (S.yk cm.2.1 (fd (by intro e;cases e)));have gt:=c5.uh cm.1 dr;have f0:=c5.hg cm.1 dr (i*38+4);obtain⟨pc,ex⟩:=nm ((v.F (.own i)).pc);rw[ex]at gt;have ge:=c5.qI cm.1 dr (wrap64 ((v.F (.own i)).pc+1));rw[ex]at ge;have hf:=Z ge;have he:=Z ex;clear ge ex;go_wp2
   obtain⟨hu,hl,fn⟩:=hf.out;obtain⟨gk,gs⟩:=nm (w4.setCell (L.wb,i*38+4) (.int .i64 (wrap64 (pc+1))));rw[gs]at fn⊢;have cW:Hid (dJ eC L dN C v (v.fB (.own i)) w4 hu hl gk):=Z (by unfold KS.fB;rw[he];exact fn);clear fn gs gt f0;have hd:=Z cW.at_;have hi:=Z (dr.yk cm.1 cW.yk);have hb:=Z (cW.nx.row cQ.1 cQ.2);have eS:=Z (jP 0 (.own i) L.wb (i*38+4) eL hi d a f g l k m fb ce hd.drew);obtain⟨a2,a3,ab,ad,al,am,ap⟩:=hb.1.c7;go_still_tail 5,(by kernel_rfl)
   change wpList _ _ _ _ _ gk.drew;go_wp2_with fail
   with_reducible refine eS.out.mono ?_
   rintro e eA ⟨rfl,ax,W,t⟩;have z:=Z (And.intro t.at_ ((cs.trans cW.nx).trans ((Nx.af (Ch.refl _ gk).drew).trans t.nx)));clear t;clear a2 a3 ab ad al am ap;go_wp2
   go_end0
   rw[E];exact⟨rfl,ax,W,z.1,z.2⟩
  ·have E:Hid (ke C K i=v):=Z (by rw[ch,cS];rfl)
   clear a1 c8 es c2 ck ci;clear h U F c9 V X cb B c1 a0 I O cd J c0 c7 R T;go_in
   go_wp2_with fail
   with_reducible refine(cf.out _ H.out.at_).mono ?_
   rintro e w2 ⟨rfl,av,Q,b⟩;have y:=Z b;have P:=Z (H.nx.trans b.nx);have S:Hid (aS L Q (.own i) L.wb (i*38+4)):=Z (G.2.yk G.1 b.yk);clear b;go_wp2
   obtain⟨w3,o⟩:=nm (w2.alloc (.cells #[d,a,f,g,.int .u64 l,k,m] 121));have u:=Z (Ch.al (D:=ag) o);have A:Hid (Row w3 w2.heap.size 121 [d,a,f,g,.int .u64 l,k,m]/\av w2.heap.size=.no):=Z ⟨by rw[<-o];exact Row.new w2 _ _,y.at_.fresh (Nat.le_refl _)⟩;rw[o];clear o;have c6:=Z (y.af u);obtain⟨a2,a3,ab,ad,al,am,ap⟩:=A.1.c7;go_still_tail 6,(by kernel_rfl)
   change wpList _ _ _ _ _ w3.drew;go_wp2_with fail
   have bw:=eW _ _ _ S c6.at_.drew;with_reducible refine bw.mono ?_
   clear bw;rintro e w4 ⟨rfl,eC,dN,bv,c3,c4⟩;have c5:=Z bv;have bi:=Z ((Nx.af (Ch.refl _ w3).drew).trans c3);have cs:=Z ((P.trans (Nx.af u)).trans bi);have fd:=Z c4;clear bv c3 c4 a2 a3 ab ad al am ap;have cQ:=Z (bi.row A.1 A.2);go_wp2
   go_end0
   rw[E];exact⟨rfl,eC,dN,c5,cs⟩
  ·have gr:=ci rfl
   have ce:Hid (v.out.length<=900000):=Z (by have:=c2.out;omega);have cq:Hid (i<v.wk.length):=Z (by rw[gr.2];exact O);have E:Hid (ke C K i=gJ C v i):=Z (by rw[ch,cS];rfl);clear gr;clear a1 c8 es c2 ck ci;clear h U F c9 V X cb B c1 a0 I O cd J c0 c7 R T;go_in
   go_wp2_with fail
   with_reducible refine(cf.out _ H.out.at_).mono ?_
   rintro e w2 ⟨rfl,av,Q,b⟩;have y:=Z b;have P:=Z (H.nx.trans b.nx);have S:Hid (aS L Q (.own i) L.wb (i*38+4)):=Z (G.2.yk G.1 b.yk);clear b;go_wp2
   obtain⟨w3,o⟩:=nm (w2.alloc (.cells #[d,a,f,g,.int .u64 l,k,m] 121));have u:=Z (Ch.al (D:=ag) o);have A:Hid (Row w3 w2.heap.size 121 [d,a,f,g,.int .u64 l,k,m]/\av w2.heap.size=.no):=Z ⟨by rw[<-o];exact Row.new w2 _ _,y.at_.fresh (Nat.le_refl _)⟩;rw[o];clear o;have c6:=Z (y.af u);obtain⟨a2,a3,ab,ad,al,am,ap⟩:=A.1.c7;go_still_tail 6,(by kernel_rfl)
   change wpList _ _ _ _ _ w3.drew;go_wp2_with fail
   have bw:=eW _ _ _ S c6.at_.drew;with_reducible refine bw.mono ?_
   clear bw;rintro e w4 ⟨rfl,eC,dN,bv,c3,c4⟩;have c5:=Z bv;have bi:=Z ((Nx.af (Ch.refl _ w3).drew).trans c3);have cs:=Z ((P.trans (Nx.af u)).trans bi);have fd:=Z c4;clear bv c3 c4 a2 a3 ab ad al am ap;have cQ:=Z (bi.row A.1 A.2);have cl:=Z (iB i cq c5);go_wp2_with fail
   with_reducible refine cl.out.mono ?_
   rintro e eA ⟨rfl,ax,W,t⟩;have z:=Z (And.intro t.at_ ((cs).trans t.nx));clear t;go_wp2
   go_end0
   rw[E];exact⟨rfl,ax,W,z.1,z.2⟩
 ·have ce:Hid (q.out.length<=900000):=Z (by have:=I.out;omega)
  have cq:=Z O;have E:Hid (ke C K i=gJ C q i):=Z (by rw[ch];unfold eE;rw[R];rfl);clear h U F c9 V X cb B c1 a0 I O cd J c0 c7 R T;go_in
  go_wp2_with fail
  with_reducible refine(cf.out _ H.out.at_).mono ?_
  rintro e w2 ⟨rfl,av,Q,b⟩;have y:=Z b;have P:=Z (H.nx.trans b.nx);have S:Hid (aS L Q (.own i) L.wb (i*38+4)):=Z (G.2.yk G.1 b.yk);clear b;go_wp2_with fail
  generalize o:w2.alloc _=w3;have u:=Z (Ch.al (D:=ag) o);clear o;have cr:=Z (y.af u).at_;have cl:=Z (iB i cq cr);go_wp2_with fail
  with_reducible refine cl.out.mono ?_
  rintro e eA ⟨rfl,ax,W,t⟩;have z:=Z (And.intro t.at_ ((P.trans (Nx.af u)).trans t.nx));clear t;go_wp2
  go_end0
  rw[E];exact⟨rfl,ax,W,z.1,z.2⟩
 ·have ce:Hid (q.out.length<=900000):=Z (by have:=I.out;omega)
  have cq:=Z O;have E:Hid (ke C K i=gJ C q i):=Z (by rw[ch];unfold eE;rw[R];rfl);clear h U F c9 V X cb B c1 a0 I O cd J c0 c7 R T;go_in
  go_wp2_with fail
  with_reducible refine(cf.out _ H.out.at_).mono ?_
  rintro e w2 ⟨rfl,av,Q,b⟩;have y:=Z b;have P:=Z (H.nx.trans b.nx);have S:Hid (aS L Q (.own i) L.wb (i*38+4)):=Z (G.2.yk G.1 b.yk);clear b;go_wp2_with fail
  generalize o:w2.alloc _=w3;have u:=Z (Ch.al (D:=ag) o);clear o;have cr:=Z (y.af u).at_;have cl:=Z (iB i cq cr);go_wp2_with fail
  with_reducible refine cl.out.mono ?_
  rintro e eA ⟨rfl,ax,W,t⟩;have z:=Z (And.intro t.at_ ((P.trans (Nx.af u)).trans t.nx));clear t;go_wp2
  go_end0
  rw[E];exact⟨rfl,ax,W,z.1,z.2⟩
theorem k9{N M:Nat}(ap:mU C)(cS:Inv N M K)(kv:N<=700000)(kf:M<=700000)(i:Nat)(dr:i<K.wk.length)(id:Int)(t:Thread)(X:aw K.ai id=some t)(dN:(K.W i).slot=id)(ce:id≠0)(ck:t.l.length%2=0)(k:Nat)(fb:k+1=t.l.length)(en:0<=K.w/\K.w<K.wk.length)(h:ae w χ L Y C K):
 Calls prog 112 #[(L.mb,0),(L.wb,i*38),(Y.bH id,0),(Y.fb id k,0)] w (r9 (.tuple #[]) χ L C (cG C K i id k) w):=by
 have bx:=cS;have ch:=dr;have es:=en;have V:=Z (dJ.refl h);have eS:Hid (cG C K i id k=if(eE C K i (some id) (.ai id k)).2.1=0 then da (eE C K i (some id) (.ai id k)).2.2 id (.ai id k) (eE C K i (some id) (.ai id k)).1 else if(eE C K i (some id) (.ai id k)).2.1=3∨(eE C K i (some id) (.ai id k)).2.1=2 then eD (eE C K i (some id) (.ai id k)).2.2 id 22 0 else(eE C K i (some id) (.ai id k)).2.2):=Z (by unfold cG;rfl);have T:ak K (.ai id k):=⟨t,X,by omega⟩;obtain⟨b,hb⟩:=nm (Y.fb id k);obtain⟨tb,al⟩:=nm (Y.bH id);have cq:aS L Y (.ai id k) b 0:=⟨hb.symm,rfl⟩;rw[hb,al];have i5:=pK C (K:=K) (k:=k) X;have hd:=fun w (h:ae w χ L Y C K)=>pE (.ai id k) b 0 T cq (bx.lS T).r (bx.lS T).back ap.lv ap.ll h
 have i1:=lW ap bx T;have ci:=oc C T;have ax:=od C (c:=.ai id k) i ch;obtain⟨s,ad⟩:=nm (cF C K (.ai id k));rw[ad]at hd i1 ci ax i5;obtain⟨x,r,g⟩:=s;dsimp only at hd i1 ci ax i5;obtain⟨F,k3,cm,dC⟩:=i1;have c0:i<g.wk.length:=by rw[ci.2];exact ch
 have et:0<=g.w/\g.w<g.wk.length:=by rw[ax.2,ci.2];exact es
 have W:ak g (.ai id k):=T.gr ci.1 ci.2;obtain⟨t2,A,cl,_⟩:=i5;have av:=(F.dg A).id;have cr:(g.W i).slot=id:=ax.1.trans dN;obtain⟨f,d,l,m,q,o,y⟩:=x;have eL:Hid (∀w,ae w χ L Y C K->Calls prog 141 #[(L.mb,0),(b,0)] w (dj (.tuple #[.agg #[f,d,l,m,.int .u64 q,o,y],r]) χ L Y C K g w)):=Z hd;have kb:=Z ci;have U:=Z (And.intro T cq);clear hd ci;rcases k3 with rfl|rfl|rfl|rfl
 ·have O:=Z (And.intro X al)
  have I:Hid (aw g.ai id=some t2/\t2.id=id/\1<t2.l.length/\t2.l.length<=8):=Z ⟨A,av,by have:=(F.dg A).l.n0;omega,(F.dg A).l.n8⟩;obtain⟨c1,ec⟩:=cm (Or.inl rfl);have hB:Hid (iN f=true->0<=d/\d<32):=Z (fun _=>(dx c1).1);have bv:Hid (g.out.length<=900000):=Z (by have:=F.out;omega);have hu:=Z W;have E:Hid (cG C K i id k=da g id (.ai id k) ⟨f,d,l,m,q,o,y⟩):=Z (by rw[eS];unfold eE;rw[ad];rfl);clear c1 ec;clear h cS dr en bx ch es T cq ax F c0 et W cm dC ad ap X dN ce ck fb hb al A cl av cr;go_in
  go_wp2_with fail
  with_reducible refine(eL.out _ V.out.at_).mono ?_
  rintro e w2 ⟨rfl,c9,a1,a⟩;have P:=Z a;have a0:=Z (V.nx.trans a.nx);have am:Hid (aS L a1 (.ai id k) b 0):=Z (U.2.yk U.1 a.yk);have B:=(a.yk id t O.1).1;rw[O.2]at B;have S:=Z B;clear B;clear a;go_wp2
  obtain⟨w3,z⟩:=nm (w2.alloc (.cells #[f,d,l,m,.int .u64 q,o,y] 121));have H:=Z (Ch.al (D:=ag) z);have R:Hid (Row w3 w2.heap.size 121 [f,d,l,m,.int .u64 q,o,y]/\c9 w2.heap.size=.no):=Z ⟨by rw[<-z];exact Row.new w2 _ _,P.at_.fresh (Nat.le_refl _)⟩;rw[z];clear z;have cQ:=Z (P.af H);have eC:=Z cQ.at_;have hv:=Z (jP id (.ai id k) b 0 hu am f d l m q o y hB bv eC.drew);obtain⟨c2,c3,c4,c5,c6,c7,c8⟩:=R.1.c7;have gf:=eC.gv I.1;rw[I.2.1,S]at gf;go_still_tail 9,(by kernel_rfl)
  change wpList _ _ _ _ _ w3.drew;go_wp2_with fail
  with_reducible refine hv.out.mono ?_
  rintro e hm ⟨rfl,cb,bw,J⟩;have Q:=Z (And.intro J.at_ ((a0.trans (Nx.af H)).trans ((Nx.af (Ch.refl _ w3).drew).trans J.nx)));clear J;clear c2 c3 c4 c5 c6 c7 c8 gf;go_wp2
  go_end0
  rw[E];exact⟨rfl,cb,bw,Q.1,Q.2⟩
 ·have O:=Z (And.intro X al)
  have I:Hid (aw g.ai id=some t2/\t2.id=id/\1<t2.l.length/\t2.l.length<=8):=Z ⟨A,av,by have:=(F.dg A).l.n0;omega,(F.dg A).l.n8⟩;obtain⟨c1,ec⟩:=cm (Or.inr rfl);have he:=dC rfl;have hB:Hid (iN f=true->0<=d/\d<32):=Z (fun _=>(dx c1).1);have i3:=fun(w:World) (χ:Nat->aX) (Y:Var) (hf:aS L Y (.ai id k) b 0) (h:ae w χ L Y C g)=>mD F (by omega) (by omega) i c0 (some id) (fun j ab=>by injection ab with ab;subst ab;exact⟨cr,ce,t2,A,by rw[cl];exact ck⟩) (.ai id k) b 0 W hf ⟨f,d,l,m,q,o,y⟩ _ c1 he ec et ap.pl h
  have bi:=jj (C:=C) F (by omega) c0 (idO:=(some id)) W (iS.of c1 ec) (fun j ab=>by injection ab with ab;subst ab;exact⟨cr,ce,t2,A,by rw[cl];exact ck⟩);have fn:=kn (C:=C) F (by omega) (i:=i) (idO:=(some id)) W ⟨f,d,l,m,q,o,y⟩ (fun j ab=>by injection ab with ab;subst ab;exact⟨t2,A⟩);have fd:=jk (C:=C) g i (some id) (.ai id k) ⟨f,d,l,m,q,o,y⟩;have i2:=oh (C:=C) g i (some id) (.ai id k) ⟨f,d,l,m,q,o,y⟩;have go:Hid (eE C K i (some id) (.ai id k)=if(aB C g i (some id) (.ai id k) ⟨f,d,l,m,q,o,y⟩).1=0 then(⟨f,d,l,m,q,o,y⟩,0,(aB C g i (some id) (.ai id k) ⟨f,d,l,m,q,o,y⟩).2.fB (.ai id k))else if(aB C g i (some id) (.ai id k) ⟨f,d,l,m,q,o,y⟩).1=2 then(⟨f,d,l,m,q,o,y⟩,3,(aB C g i (some id) (.ai id k) ⟨f,d,l,m,q,o,y⟩).2)else(⟨f,d,l,m,q,o,y⟩,1,(aB C g i (some id) (.ai id k) ⟨f,d,l,m,q,o,y⟩).2)):=Z (by unfold eE;rw[ad];rfl);obtain⟨p,hf⟩:=nm (aB C g i (some id) (.ai id k) ⟨f,d,l,m,q,o,y⟩);rw[hf]at i3 bi fn fd i2 go;obtain⟨n,G⟩:=p;dsimp only at bi fn fd i2;have hw:Hid (∀(w:World) (χ:Nat->aX) (Y:Var),aS L Y (.ai id k) b 0->ae w χ L Y C g->Calls prog 142 #[(L.mb,0),(L.wb,i*38),(Y.bH id,0),(b,0),.agg #[f,d,l,m,.int .u64 q,o,y]] w (dM (n,G) χ L Y C g w)):=Z i3;clear hf i3;rcases i2 with rfl|rfl|rfl
  ·have eW:=fn rfl
   have k2:i<G.wk.length:=(by rw[eW.2];exact c0);have cW:ak G (.ai id k):=W.gr eW.1 eW.2;have eA:=Z (And.intro cW (And.intro W eW));have hu:Hid (ak (G.fB (.ai id k)) (.ai id k)):=Z (cW.gr (bu cW _) (bq _ _));have kd:=Z bi;have bv:Hid ((G.fB (.ai id k)).out.length<=900000):=Z (by have:(G.fB (.ai id k)).out=G.out:=sn _ _;rw[this];have:=bi.out;omega);have E:Hid (cG C K i id k=da (G.fB (.ai id k)) id (.ai id k) ⟨f,d,l,m,q,o,y⟩):=Z (by rw[eS,go];rfl);obtain⟨t4,i6⟩:∃t4,aw (G.fB (.ai id k)).ai id=some t4:=by obtain⟨u,hl,_⟩:=eW.1 id t2 A;obtain⟨v,k4,_⟩:=bu cW {G.F (.ai id k)with pc:=wrap64 ((G.F (.ai id k)).pc+1)} id u hl;exact⟨v,k4⟩
   have i9:Hid (aw (G.fB (.ai id k)).ai id=some t4/\t4.id=id):=Z ⟨i6,((bi.cJ cW ((bi.lS cW).pc _)).dg i6).id⟩;clear i6;clear c1 ec he bi fn fd;clear eW k2 cW;clear h cS dr en bx ch es T cq ax F c0 et W cm dC ad ap X dN ce ck fb hb al A cl av cr;go_in
   go_wp2_with fail
   with_reducible refine(eL.out _ V.out.at_).mono ?_
   rintro e w2 ⟨rfl,c9,a1,a⟩;have P:=Z a;have a0:=Z (V.nx.trans a.nx);have am:Hid (aS L a1 (.ai id k) b 0):=Z (U.2.yk U.1 a.yk);have B:=(a.yk id t O.1).1;rw[O.2]at B;have S:=Z B;clear B;clear a;go_wp2
   obtain⟨w3,z⟩:=nm (w2.alloc (.cells #[f,d,l,m,.int .u64 q,o,y] 121));have H:=Z (Ch.al (D:=ag) z);have R:Hid (Row w3 w2.heap.size 121 [f,d,l,m,.int .u64 q,o,y]/\c9 w2.heap.size=.no):=Z ⟨by rw[<-z];exact Row.new w2 _ _,P.at_.fresh (Nat.le_refl _)⟩;rw[z];clear z;have cQ:=Z (P.af H);obtain⟨c2,c3,c4,c5,c6,c7,c8⟩:=R.1.c7;go_still_tail 7,(by kernel_rfl)
   change wpList _ _ _ _ _ w3.drew;go_wp2_with fail
   have a3:=hw _ _ _ am cQ.at_.drew;rw[S]at a3;with_reducible refine a3.mono ?_
   clear a3;rintro e w4 ⟨rfl,hn,gt,cf,cs,cC⟩;have cL:=Z cf;have cd:=Z ((Nx.af (Ch.refl _ w3).drew).trans cs);have gc:=Z ((a0.trans (Nx.af H)).trans cd);have ge:=Z cC;clear cf cs cC c2 c3 c4 c5 c6 c7 c8;have gk:=Z (cd.row R.1 R.2);have gs:=Z (am.yk eA.2.1 (ge (by intro e;cases e)));have io:=cL.uh eA.1 gs;have f0:=cL.hg eA.1 gs 0;obtain⟨pc,hi⟩:=nm ((G.F (.ai id k)).pc);rw[hi]at io;have i4:=cL.qI eA.1 gs (wrap64 ((G.F (.ai id k)).pc+1));rw[hi]at i4;have jp:=Z i4;have it:=Z hi;clear i4 hi;have ex:=(ge (by intro e;cases e) id t2 I.1).1;rw[S]at ex;have hF:=Z ex;clear ex;go_wp2
   obtain⟨k5,k1,i0⟩:=jp.out;obtain⟨i7,ii⟩:=nm (w4.setCell (b,0) (.int .i64 (wrap64 (pc+1))));rw[ii]at i0⊢;have fz:Hid (dJ hn L gt C G (G.fB (.ai id k)) w4 k5 k1 i7):=Z (by unfold KS.fB;rw[it];exact i0);clear i0 ii io f0;have i8:=Z fz.at_;have k0:=Z (gs.yk eA.1 fz.yk);have ip:=Z (fz.nx.row gk.1 gk.2);have hv:=Z (jP id (.ai id k) b 0 hu k0 f d l m q o y hB bv i8.drew);obtain⟨c2,c3,c4,c5,c6,c7,c8⟩:=ip.1.c7;have gf:=i8.gv i9.1;obtain⟨u,hl,_⟩:=eA.2.2.1 id t2 I.1;rw[i9.2,(fz.yk id u hl).1,hF]at gf;clear hl;go_still_tail 9,(by kernel_rfl)
   change wpList _ _ _ _ _ i7.drew;go_wp2_with fail
   with_reducible refine hv.out.mono ?_
   rintro e hm ⟨rfl,cb,bw,J⟩;have Q:=Z (And.intro J.at_ ((gc.trans fz.nx).trans ((Nx.af (Ch.refl _ i7).drew).trans J.nx)));clear J;clear c2 c3 c4 c5 c6 c7 c8 gf;go_wp2
   go_end0
   rw[E];exact⟨rfl,cb,bw,Q.1,Q.2⟩
  ·have E:Hid (cG C K i id k=G):=Z (by rw[eS,go];rfl)
   clear c1 ec he bi fn fd;clear h cS dr en bx ch es T cq ax F c0 et W cm dC ad ap X dN ce ck fb hb al A cl av cr;go_in
   go_wp2_with fail
   with_reducible refine(eL.out _ V.out.at_).mono ?_
   rintro e w2 ⟨rfl,c9,a1,a⟩;have P:=Z a;have a0:=Z (V.nx.trans a.nx);have am:Hid (aS L a1 (.ai id k) b 0):=Z (U.2.yk U.1 a.yk);have B:=(a.yk id t O.1).1;rw[O.2]at B;have S:=Z B;clear B;clear a;go_wp2
   obtain⟨w3,z⟩:=nm (w2.alloc (.cells #[f,d,l,m,.int .u64 q,o,y] 121));have H:=Z (Ch.al (D:=ag) z);have R:Hid (Row w3 w2.heap.size 121 [f,d,l,m,.int .u64 q,o,y]/\c9 w2.heap.size=.no):=Z ⟨by rw[<-z];exact Row.new w2 _ _,P.at_.fresh (Nat.le_refl _)⟩;rw[z];clear z;have cQ:=Z (P.af H);obtain⟨c2,c3,c4,c5,c6,c7,c8⟩:=R.1.c7;go_still_tail 7,(by kernel_rfl)
   change wpList _ _ _ _ _ w3.drew;go_wp2_with fail
   have a3:=hw _ _ _ am cQ.at_.drew;rw[S]at a3;with_reducible refine a3.mono ?_
   clear a3;rintro e w4 ⟨rfl,hn,gt,cf,cs,cC⟩;have cL:=Z cf;have cd:=Z ((Nx.af (Ch.refl _ w3).drew).trans cs);have gc:=Z ((a0.trans (Nx.af H)).trans cd);have ge:=Z cC;clear cf cs cC c2 c3 c4 c5 c6 c7 c8;have gk:=Z (cd.row R.1 R.2);go_wp2
   go_end0
   rw[E];exact⟨rfl,hn,gt,cL,gc⟩
  ·have ih:=fd rfl
   have bv:Hid (G.out.length<=900000):=Z (by have:=bi.out;omega);have gr:Hid (aw G.ai id=some t2/\t2.id=id/\1<t2.l.length/\t2.l.length<=8):=Z ⟨by rw[ih.1];exact A,I.2⟩;have E:Hid (cG C K i id k=eD G id 22 0):=Z (by rw[eS,go];rfl);clear ih;clear c1 ec he bi fn fd;clear h cS dr en bx ch es T cq ax F c0 et W cm dC ad ap X dN ce ck fb hb al A cl av cr;go_in
   go_wp2_with fail
   with_reducible refine(eL.out _ V.out.at_).mono ?_
   rintro e w2 ⟨rfl,c9,a1,a⟩;have P:=Z a;have a0:=Z (V.nx.trans a.nx);have am:Hid (aS L a1 (.ai id k) b 0):=Z (U.2.yk U.1 a.yk);have B:=(a.yk id t O.1).1;rw[O.2]at B;have S:=Z B;clear B;clear a;go_wp2
   obtain⟨w3,z⟩:=nm (w2.alloc (.cells #[f,d,l,m,.int .u64 q,o,y] 121));have H:=Z (Ch.al (D:=ag) z);have R:Hid (Row w3 w2.heap.size 121 [f,d,l,m,.int .u64 q,o,y]/\c9 w2.heap.size=.no):=Z ⟨by rw[<-z];exact Row.new w2 _ _,P.at_.fresh (Nat.le_refl _)⟩;rw[z];clear z;have cQ:=Z (P.af H);obtain⟨c2,c3,c4,c5,c6,c7,c8⟩:=R.1.c7;go_still_tail 7,(by kernel_rfl)
   change wpList _ _ _ _ _ w3.drew;go_wp2_with fail
   have a3:=hw _ _ _ am cQ.at_.drew;rw[S]at a3;with_reducible refine a3.mono ?_
   clear a3;rintro e w4 ⟨rfl,hn,gt,cf,cs,cC⟩;have cL:=Z cf;have cd:=Z ((Nx.af (Ch.refl _ w3).drew).trans cs);have gc:=Z ((a0.trans (Nx.af H)).trans cd);have ge:=Z cC;clear cf cs cC c2 c3 c4 c5 c6 c7 c8;have gk:=Z (cd.row R.1 R.2);have ex:=(ge (by intro e;cases e) id t2 I.1).1;rw[S]at ex;have hF:=Z ex;clear ex;have a2:=hD id t2 gr.1 gr.2.1 gr.2.2.1 gr.2.2.2 22 0 bv cL;rw[hF]at a2;have fr:=Z a2;clear a2;go_wp2_with fail
   with_reducible refine fr.out.mono ?_
   rintro e hm ⟨rfl,cb,bw,J,cA⟩;have Q:=Z (And.intro J ((gc).trans cA));clear J cA;go_wp2
   go_end0
   rw[E];exact⟨rfl,cb,bw,Q.1,Q.2⟩
 ·have O:=Z (And.intro X al)
  have I:Hid (aw g.ai id=some t2/\t2.id=id/\1<t2.l.length/\t2.l.length<=8):=Z ⟨A,av,by have:=(F.dg A).l.n0;omega,(F.dg A).l.n8⟩;have bv:Hid (g.out.length<=900000):=Z (by have:=F.out;omega);have E:Hid (cG C K i id k=eD g id 22 0):=Z (by rw[eS];unfold eE;rw[ad];rfl);clear h cS dr en bx ch es T cq ax F c0 et W cm dC ad ap X dN ce ck fb hb al A cl av cr;go_in
  go_wp2_with fail
  with_reducible refine(eL.out _ V.out.at_).mono ?_
  rintro e w2 ⟨rfl,c9,a1,a⟩;have P:=Z a;have a0:=Z (V.nx.trans a.nx);have am:Hid (aS L a1 (.ai id k) b 0):=Z (U.2.yk U.1 a.yk);have B:=(a.yk id t O.1).1;rw[O.2]at B;have S:=Z B;clear B;clear a;go_wp2_with fail
  generalize z:w2.alloc _=w3;have H:=Z (Ch.al (D:=ag) z);clear z;have eC:=Z (P.af H).at_;have a2:=hD id t2 I.1 I.2.1 I.2.2.1 I.2.2.2 22 0 bv eC;rw[S]at a2;have fr:=Z a2;clear a2;go_wp2_with fail
  with_reducible refine fr.out.mono ?_
  rintro e hm ⟨rfl,cb,bw,J,cA⟩;have Q:=Z (And.intro J ((a0.trans (Nx.af H)).trans cA));clear J cA;go_wp2
  go_end0
  rw[E];exact⟨rfl,cb,bw,Q.1,Q.2⟩
 ·have O:=Z (And.intro X al)
  have I:Hid (aw g.ai id=some t2/\t2.id=id/\1<t2.l.length/\t2.l.length<=8):=Z ⟨A,av,by have:=(F.dg A).l.n0;omega,(F.dg A).l.n8⟩;have bv:Hid (g.out.length<=900000):=Z (by have:=F.out;omega);have E:Hid (cG C K i id k=eD g id 22 0):=Z (by rw[eS];unfold eE;rw[ad];rfl);clear h cS dr en bx ch es T cq ax F c0 et W cm dC ad ap X dN ce ck fb hb al A cl av cr;go_in
  go_wp2_with fail
  with_reducible refine(eL.out _ V.out.at_).mono ?_
  rintro e w2 ⟨rfl,c9,a1,a⟩;have P:=Z a;have a0:=Z (V.nx.trans a.nx);have am:Hid (aS L a1 (.ai id k) b 0):=Z (U.2.yk U.1 a.yk);have B:=(a.yk id t O.1).1;rw[O.2]at B;have S:=Z B;clear B;clear a;go_wp2_with fail
  generalize z:w2.alloc _=w3;have H:=Z (Ch.al (D:=ag) z);clear z;have eC:=Z (P.af H).at_;have a2:=hD id t2 I.1 I.2.1 I.2.2.1 I.2.2.2 22 0 bv eC;rw[S]at a2;have fr:=Z a2;clear a2;go_wp2_with fail
  with_reducible refine fr.out.mono ?_
  rintro e hm ⟨rfl,cb,bw,J,cA⟩;have Q:=Z (And.intro J ((a0.trans (Nx.af H)).trans cA));clear J cA;go_wp2
  go_end0
  rw[E];exact⟨rfl,cb,bw,Q.1,Q.2⟩
end
end
section
def uC(T:TypeId)(l:List Value)(w:World)(p:Value)(wc:World):Prop:=∃a,p=.pointer (some ⟨a,0,none⟩)/\Row wc a T l/\Ch ag w wc/\w.heap.size<=a
theorem hH{w:World}{b:Nat}{t:TypeId}{pre post:List Value}{v:Value}{f:cu}(h:aJ w b 0 t pre post v f)(k:Nat)(a:k<32):w.cell? (b,1+k)=some (.int .u64 (f.r k)):=by
 have:=h.mo k a
 rwa [show 0+1+k=1+k by omega]at this
theorem e2{w:World}{b:Nat}{t:TypeId}{pre post:List Value}{v:Value}{f:cu}(h:aJ w b 0 t pre post v f)(c:t≠3)(k:Nat)(a:k<32)(x:Int):aJ (w.setCell (b,1+k) (.int .u64 x)) b 0 t pre post v {f with r:=fU f.r k x}:=by
 have:=h.qq c k a x
 rwa [show 0+1+k=1+k by omega]at this
theorem Co{f:FuncId}{args:Array Value}{v:Value}{w:World}(h:Calls prog f args w (eg v w)):Calls prog f args w (dc v w):=h.mono fun _ _ h=>⟨h.1,by rw[h.2];exact Ch.refl _ _⟩
def bn(K:KS)(k0 k1 k2 k3 a0 a1 a2 a3:Int)(k:Nat):Nat->Int:=fun j=>
 if j=0 then(if k<=0 then a0 else de K k0 a0)else if j=1 then(if k<=1 then a1 else de K k1 a1)else if j=2 then(if k<=2 then a2 else de K k2 a2)else if j=3 then(if k<=3 then a3 else de K k3 a3)else 0
section
variable{K:KS}{k0 k1 k2 k3 a0 a1 a2 a3:Int}
theorem qV(x:Int)(h:x=de K k0 a0):fU (bn K k0 k1 k2 k3 a0 a1 a2 a3 0) 0 x=bn K k0 k1 k2 k3 a0 a1 a2 a3 1:=by
 funext j;unfold fU bn
 by_cases a:j=0
 ·subst a;simp[h]
 ·by_cases b:j=1<;>by_cases c:j=2<;>by_cases d:j=3<;>simp[a,b,c,d]
theorem qW(x:Int)(h:x=de K k1 a1):fU (bn K k0 k1 k2 k3 a0 a1 a2 a3 1) 1 x=bn K k0 k1 k2 k3 a0 a1 a2 a3 2:=by
 funext j;unfold fU bn
 by_cases a:j=1
 ·subst a;simp[h]
 ·by_cases b:j=0<;>by_cases c:j=2<;>by_cases d:j=3<;>simp[b,a,c,d]
theorem qX(x:Int)(h:x=de K k2 a2):fU (bn K k0 k1 k2 k3 a0 a1 a2 a3 2) 2 x=bn K k0 k1 k2 k3 a0 a1 a2 a3 3:=by
 funext j;unfold fU bn
 by_cases a:j=2
 ·subst a;simp[h]
 ·by_cases b:j=0<;>by_cases c:j=1<;>by_cases d:j=3<;>simp[b,c,a,d]
theorem qY(x:Int)(h:x=de K k3 a3):fU (bn K k0 k1 k2 k3 a0 a1 a2 a3 3) 3 x=bn K k0 k1 k2 k3 a0 a1 a2 a3 4:=by
 funext j;unfold fU bn
 by_cases a:j=3
 ·subst a;simp[h]
 ·by_cases b:j=0<;>by_cases c:j=1<;>by_cases d:j=2<;>simp[b,c,d,a]
theorem Aa(h:a0=de K k0 a0):bn K k0 k1 k2 k3 a0 a1 a2 a3 1=bn K k0 k1 k2 k3 a0 a1 a2 a3 0:=by rw[<-qV a0 h];funext j;unfold fU bn;by_cases e:j=0<;>simp[e]
theorem Ab(h:a1=de K k1 a1):bn K k0 k1 k2 k3 a0 a1 a2 a3 2=bn K k0 k1 k2 k3 a0 a1 a2 a3 1:=by rw[<-qW a1 h];funext j;unfold fU bn;by_cases e:j=1<;>simp[e]
theorem Ac(h:a2=de K k2 a2):bn K k0 k1 k2 k3 a0 a1 a2 a3 3=bn K k0 k1 k2 k3 a0 a1 a2 a3 2:=by rw[<-qX a2 h];funext j;unfold fU bn;by_cases e:j=2<;>simp[e]
theorem Ad(h:a3=de K k3 a3):bn K k0 k1 k2 k3 a0 a1 a2 a3 4=bn K k0 k1 k2 k3 a0 a1 a2 a3 3:=by rw[<-qY a3 h];funext j;unfold fU bn;by_cases e:j=3<;>simp[e]
def pL(K:KS)(k0 k1 k2 k3 a0 a1 a2 a3 n:Int):Nat->Int:=fun j=>if j=0 then de K k0 a0 else if j=1 then de K k1 a1 else if j=2 then de K k2 a2 else if j=3 then de K k3 a3 else if j=30 then a0 else if j=31 then n else 0
theorem xX(n:Int):fU (fU (bn K k0 k1 k2 k3 a0 a1 a2 a3 4) 30 a0) 31 n=pL K k0 k1 k2 k3 a0 a1 a2 a3 n:=by
 funext j;unfold fU bn pL
 by_cases a:j=31
 ·subst a;simp
 ·by_cases b:j=30
  ·subst b;simp
  ·simp[a,b]
end
section
variable{w w':World}{χ:Nat->aX}{L:cz}{Y:Var}{C:KC}{K:KS}
theorem pM{N M:Nat}(al:mU C)(ci:Inv N M K)(st:N<=700000)(sl:M<=700000)(id:Int)(t:Thread)(bx:aw K.ai id=some t)(k:Nat)(n0:k+1=t.l.length)(n1:t.l.length%2=1)(num:Int)(n8:0<=num)(fd:num<=1000000)(h:ae w χ L Y C K):
 Calls prog 146 #[(L.mb,0),(Y.bH id,0),.pointer (some ⟨Y.fb id k,0,none⟩),num] w (r9 (.tuple #[]) χ L C (g9 C K id k num) w):=by
 have ck:ak K (.ai id k):=⟨t,bx,by omega⟩;have hid:=(ci.dg bx).id;have i2:=(ci.dg bx).l;have no:=(ci.lS ck).r;obtain⟨b,hb⟩:=nm (Y.fb id k);obtain⟨tb,fz⟩:=nm (Y.bH id);have dN:aS L Y (.ai id k) b 0:=⟨hb.symm,rfl⟩;rw[hb,fz];obtain⟨a0,hl⟩:∃a,(K.F (.ai id k)).r 0=a:=⟨_,rfl⟩;obtain⟨a1,hm⟩:∃a,(K.F (.ai id k)).r 1=a:=⟨_,rfl⟩;obtain⟨a2,hn⟩:∃a,(K.F (.ai id k)).r 2=a:=⟨_,rfl⟩;obtain⟨a3,hu⟩:∃a,(K.F (.ai id k)).r 3=a:=⟨_,rfl⟩;have og:w.cell? (b,1)=some (.int .u64 a0):=by have:=h.aC ck dN 0 (by omega);rw[hl]at this;exact this
 have ok:w.cell? (b,2)=some (.int .u64 a1):=by have:=h.aC ck dN 1 (by omega);rw[hm]at this;exact this
 have on:w.cell? (b,3)=some (.int .u64 a2):=by have:=h.aC ck dN 2 (by omega);rw[hn]at this;exact this
 have os:w.cell? (b,4)=some (.int .u64 a3):=by have:=h.aC ck dN 3 (by omega);rw[hu]at this;exact this
 have ce:=h.gv bx;rw[hid,fz]at ce;have sv:∀w,(Instr.arrayAt 60 (.slice (some (b,1)) 4 32)).run prog w=.ok (.pointer (some (b,1))) w:=fun w=>by kernel_rfl
 obtain⟨K1,dr⟩:=nm (tell K ⟨1,0,0,id,num,a0,a1,a2,a3,0,0⟩);have hi:Inv N (M+1) K1:=by rw[<-dr];exact ci.tell _
 have ec:aw K1.ai id=some t:=by rw[<-dr];exact bx
 have ih:=Z (fun w (h:ae w χ L Y C K)=>dH 1 0 0 id num a0 a1 a2 a3 0 0 (by have:=ci.out;omega) h);rw[dr]at ih;have hB:=i2.n8;have fn:=i2.n0;have i9:=Z (fun(w:World) (χ:Nat->aX) (Y:Var) (h:ae w χ L Y C K1)=>qU id t ec fn hB num n8 a0 a1 a2 a3 al.bw al.rows al.cl h);have eL:Hid (g9 C K id k num=if cN C K1 id num a0 a1 a2 a3≠0 then dn K1 id num (cN C K1 id num a0 a1 a2 a3) 0 else
  K1.cn id {K1.T id with l:=(K1.T id).l++[⟨⟨(C.calls.getD (C.rows.getD num.toNat 0-1).toNat default).at_,fun j=>if j=0 then de K1 (C.calls.getD (C.rows.getD num.toNat 0-1).toNat default).k0 a0 else if j=1 then de K1 (C.calls.getD (C.rows.getD num.toNat 0-1).toNat default).k1 a1 else if j=2 then de K1 (C.calls.getD (C.rows.getD num.toNat 0-1).toNat default).k2 a2 else if j=3 then de K1 (C.calls.getD (C.rows.getD num.toNat 0-1).toNat default).k3 a3 else if j=30 then a0 else if j=31 then IntKind.u64.wrap num else 0,[]⟩,true,num⟩]}):=Z (by unfold g9;dsimp only;rw[hl,hm,hn,hu,dr])
 obtain⟨i4,i0⟩:=nm (cN C K1 id num a0 a1 a2 a3);rw[i0]at i9 eL;have J:=Z (And.intro bx (And.intro fz (And.intro ec hid)));have he:=Z (dJ.refl h);have pu:Hid (K1.out.length<=900000):=Z (by have:=hi.out;omega);by_cases kw:i4=0
 ·subst kw
  have ql:=Z i0;have nd:num<1000/\C.rows.getD num.toNat 0≠0/\(t.l.length<7∨num=2):=by
   have:=ql.out;unfold cN at this;split at this
   ·cases this
   ·rename_i I
    split at this
    ·cases this
    ·rename_i G
     rw[KS.dk ec]at G;refine⟨by omega,fun e=>I (Or.inr e),?_⟩;by_cases e:num=2
     ·exact Or.inr e
     ·exact Or.inl (by omega)
  obtain⟨m,rfl⟩:=Int.eq_ofNat_of_zero_le n8;have hw:m<C.rows.length:=by rw[al.Eh];omega
  obtain⟨r,i1⟩:∃r,C.rows[m]?=some r:=⟨_,List.getElem?_eq_getElem hw⟩;have r':=al.rows r (List.mem_of_getElem? i1);have kv:C.rows.getD (m:Int).toNat 0=r:=by rw[Int.toNat_natCast,List.getD_eq_getElem?_getD,i1];rfl
  obtain⟨q,rfl⟩:∃q:Nat,r=(q:Int)+1:=⟨(r-1).toNat,by have:=nd.2.1;rw[kv]at this;omega⟩;obtain⟨cf,O⟩:∃cf,C.calls[q]?=some cf:=⟨_,List.getElem?_eq_getElem (by omega)⟩;have mA:C.calls.getD (C.rows.getD (m:Int).toNat 0-1).toNat default=cf:=by rw[kv,show((q:Int)+1-1).toNat=q by omega,List.getD_eq_getElem?_getD,O];rfl
  rw[mA]at eL;obtain⟨mb,cat,k0,k1,k2,k3⟩:=cf;dsimp only at eL;have le:=Z (And.intro i1 O);have th:(m:Int)<1000:=by omega
  have tg:(0:Int)<=(m:Int):=by omega
  have tl:(0:Int)<=(q:Int):=by omega
  have up:IntKind.i64.wrap (q:Int)=q:=IntWalk.i64_in _ (by have:=al.cl;have:=(List.getElem?_eq_some_iff.1 O).1;omega);obtain⟨lw,md⟩:=nm C.calls.length;have tr:(q:Int)<(lw:Int):=by have:=(List.getElem?_eq_some_iff.1 O).1;omega
  have pm:=Z md;have s1:IntKind.i64.wrap ((q:Int)+1-1)=q:=by rw[show(q:Int)+1-1=q by omega];exact IntWalk.i64_in _ (by have:=al.cl;omega)
  have s2:(q:Int)+1-1=q:=by omega
  have tm:(q:Int)<=2048:=by have:=al.cl;omega
  have n2:t.l.length<8:=by omega
  obtain⟨eS,mk⟩:=mn t.l.length;have eC:=Z (And.intro mk (And.intro n2 fn));have un:eS<8:=by omega
  have mp:0<=eV K1/\eV K1<=600:=by have:=hi.w1;unfold eV;omega
  have et:=Z (fun(w:World) (χ:Nat->aX) (Y:Var) (h:ae w χ L Y C K1)=>jN h);obtain⟨V,jp⟩:=nm (eV K1);rw[jp]at et mp;have go:=Z jp;have gs:=Z (fun(w:World) (χ:Nat->aX) (Y:Var) (a k:Int) (h:ae w χ L Y C K1)=>zD (K:=K1) a k h);obtain⟨sw,sz⟩:=mp;have en:IntKind.u64.wrap V=V:=by unfold IntKind.wrap IntKind.bits IntKind.signed;simp;omega
  have bv:=Z en;obtain⟨s4,mW,d,nC,ob⟩:=info_parts zM;have gt:=Z (And.intro mW (And.intro d (And.intro nC ob)));clear mW d nC ob nd hw r' kv mA i1 O md n2 mk jp en;clear h ck dN bx hb fz ci hl hm hn hu no hid i2 al n0 n1 hB fn hi ec dr i0;go_in
  go_wp2
  obtain⟨w1,av⟩:=nm (w.alloc (.cells #[.int .u64 a0,.int .u64 a1,.int .u64 a2,.int .u64 a3] 60));have i7:=Z (Ch.al (D:=ag) av);have c0:Hid (Row w1 w.heap.size 60 [.int .u64 a0,.int .u64 a1,.int .u64 a2,.int .u64 a3]/\χ w.heap.size=.no):=Z ⟨by rw[<-av];exact Row.new w _ _,he.at_.fresh (Nat.le_refl _)⟩;rw[av];clear av og ok on os;have c7:=Z (he.af i7);obtain⟨ax,cC,cL,cQ⟩:=c0.1.c4;have ce:=c7.at_.gv J.1;rw[J.2.2.2,J.2.1]at ce;go_still_tail 8,(by kernel_rfl)
  change wpList _ _ _ _ _ w1.drew;go_wp2_with fail
  with_reducible refine(ih.out _ c7.out.at_.drew).mono ?_
  rintro e w2 ⟨rfl,s7,l',G⟩;have c8:=Z ((c7.af (Ch.refl _ w1).drew).trans (Gr.refl _) G);have c1:=Z (((Nx.af (Ch.refl _ w1).drew).trans G.nx).row c0.1 c0.2);have cq:=(c8.yk id t J.1).1;rw[J.2.1]at cq;have c6:=Z cq;clear G cq ax cC cL cQ ce;obtain⟨ax,cC,cL,cQ⟩:=c1.1.c4;go_wp2_with fail
  have cm:=i9 _ _ _ c8.at_;rw[c6]at cm;with_reducible refine cm.mono ?_
  clear cm;rintro e w3 ⟨rfl,cl⟩;have c9:=Z (c8.af cl);have gf:=Z ((Nx.af cl).row c1.1 c1.2);clear cl ax cC cL cQ;have ax:=gf.1.c1;obtain⟨ap,mS,i6,p1,p2,p3,p8,pa⟩:=c9.at_.vS le.2;dsimp only at i6 p1 p2 p3 p8 pa;have ab:=c9.at_.c2;rw[mS,pm]at ab;have cf:=c9.at_.D1 le.1;clear mS;go_wp2
  go_cut [10] (fun p wc=>uC 49 [mb,cat,k0,k1,k2,k3] w3 p wc)
  case first=>
   have v1:=World.new_ne w3 ⟨L.mb,2,none⟩ ab;have v2:=World.new_ne w3 ⟨L.mb,7+m,none⟩ cf;have v4:=World.new_ne w3 ⟨ap,q*6,none⟩ i6;have ut:L.mb≠w3.heap.size:=Nat.ne_of_lt (aP ab);have v0:ap≠w3.heap.size:=Nat.ne_of_lt (aP i6);go_region_held3 (fun w'=>w'.cell? (L.mb,2)=some (.slice (some (ap,0)) lw L.Gc)/\w'.cell? (L.mb,7+m)=some (.int .i64 ((q:Int)+1))/\w'.cell? (ap,q*6)=some (.int .i64 mb)/\w'.cell? (ap,q*6+1)=some (.int .i64 cat)/\w'.cell? (ap,q*6+2)=some (.int .i64 k0)/\w'.cell? (ap,q*6+3)=some (.int .i64 k1)/\w'.cell? (ap,q*6+4)=some (.int .i64 k2)/\w'.cell? (ap,q*6+5)=some (.int .i64 k3)) (go_keep) (fail)
   all_goals(go_wp2_with fail;go_meet)
   all_goals exact⟨w3.heap.size,rfl,(Row.new w3 _ _).drew,((Ch.refl _ _).alloc _).drew,Nat.le_refl _⟩
  case rest=>
   obtain⟨sb,rfl,nq,k4,hle⟩:=hcut;obtain⟨w4,s3⟩:=nm wc;subst s3;have bi:=Z nq;have cW:=Z (c9.af k4);have c2:=Z ((Nx.af k4).row gf.1 gf.2);clear nq k4 ax i6 p1 p2 p3 p8 pa ab cf s1 s2 hle;have x1:=bi.k 1 rfl;have x2:=bi.k 2 rfl;have x3:=bi.k 3 rfl;have x4:=bi.k 4 rfl;have x5:=bi.k 5 rfl;go_upto_region 7 with fail
   obtain⟨ov,gc⟩:=nm (wc.alloc (.cells #[.int .i64 0,.int .u64 0,.int .u64 0,.int .u64 0,.int .u64 0,.int .u64 0,.int .u64 0,.int .u64 0,.int .u64 0,.int .u64 0,.int .u64 0,.int .u64 0,.int .u64 0,.int .u64 0,.int .u64 0,.int .u64 0,.int .u64 0,.int .u64 0,.int .u64 0,.int .u64 0,.int .u64 0,.int .u64 0,.int .u64 0,.int .u64 0,.int .u64 0,.int .u64 0,.int .u64 0,.int .u64 0,.int .u64 0,.int .u64 0,.int .u64 0,.int .u64 0,.int .u64 0,.slice none 0 0,.bool true,.int .i64 (m:Int)] 179));have ex:=Z (Ch.al (D:=ag) gc);have eA:=Z (Row.al gc);have lt:Hid (ov.heap.size=wc.heap.size+1):=Z (by rw[<-gc];simp);rw[gc];clear gc;obtain⟨F,hF⟩:=mn wc.heap.size;have pp:=Z (cW.at_.fresh (i:=F) (by rw[hF];exact Nat.le_refl _));have R:=Z hF;rw[<-hF]at eA lt⊢;clear hF;have qr:=Z (cW.af ex);have pi:=Z ((Nx.af ex).row c2.1 c2.2);have ls:=Z (bi.ch ex (fun h=>h));clear x1 x2 x3 x4 x5;have x1:=ls.k 1 rfl;have f0:=eA.c1;have eW:=eA.free 0;go_upto_region 8 with fail
   obtain⟨cS,ge⟩:=nm (ov.setCell (F,0) (.int .i64 cat));have gr:Hid (Ch ag wc cS):=Z (by rw[<-ge];exact ex.set (p:=⟨F,0,none⟩) (Or.inr (by rw[R];exact Nat.le_refl _)) _);have i8:Hid (Row cS F 179 [cat,.int .u64 0,.int .u64 0,.int .u64 0,.int .u64 0,.int .u64 0,.int .u64 0,.int .u64 0,.int .u64 0,.int .u64 0,.int .u64 0,.int .u64 0,.int .u64 0,.int .u64 0,.int .u64 0,.int .u64 0,.int .u64 0,.int .u64 0,.int .u64 0,.int .u64 0,.int .u64 0,.int .u64 0,.int .u64 0,.int .u64 0,.int .u64 0,.int .u64 0,.int .u64 0,.int .u64 0,.int .u64 0,.int .u64 0,.int .u64 0,.int .u64 0,.int .u64 0,.slice none 0 0,.bool true,.int .i64 (m:Int)]):=Z (by rw[<-ge];exact eA.set 0 _);rw[ge];have s9:Hid (cS.heap.size=F+1):=Z (by rw[<-ge];simpa using lt.out);clear ge x1 f0 eW;have lb:=Z ((Nx.af gr).row c2.1 c2.2);have qb:=Z (bi.ch gr (fun h=>h));have ms:=nA (P:=prog) cS.drew 29 29 3 56 1 F 1 32 32 ⟨w.heap.size,0,none⟩ 4 4 _ 179 [.int .u64 a0,.int .u64 a1,.int .u64 a2,.int .u64 a3] underlying29 (by kernel_rfl) i8.drew (by rfl) (fun j v z=>by
    have:=lb.1.drew.cell (i:=j) z;by_cases e:j=0
    ·subst e;simpa[Addr.add]using this
    ·simpa[Addr.add,e]using this) (by simp) (by simp[Value.oneCell'])
   generalize kT:World.setRow cS.drew F _=i5 at ms;have lc:Hid (Ch (aL F) cS.drew i5):=Z (by rw[<-kT];exact po _ _ _);have ll:Hid (Row i5 F 179 [cat,.int .u64 a0,.int .u64 a1,.int .u64 a2,.int .u64 a3,.int .u64 0,.int .u64 0,.int .u64 0,.int .u64 0,.int .u64 0,.int .u64 0,.int .u64 0,.int .u64 0,.int .u64 0,.int .u64 0,.int .u64 0,.int .u64 0,.int .u64 0,.int .u64 0,.int .u64 0,.int .u64 0,.int .u64 0,.int .u64 0,.int .u64 0,.int .u64 0,.int .u64 0,.int .u64 0,.int .u64 0,.int .u64 0,.int .u64 0,.int .u64 0,.int .u64 0,.int .u64 0,.slice none 0 0,.bool true,.int .i64 (m:Int)]):=Z (by
    rw[<-kT];unfold Row;rw[setRow_heap _ _ _ _ _ _ i8.drew]
    rfl)
   clear kT;go_still_tail 6,(by kernel_rfl)
   change wpList _ _ _ _ _ cS.drew;go_upto_region 9 with fail
   have li:Hid (Ch ag wc i5):=Z (gr.drew.join lc (fun i fb k5=>by have e:i=F:=k5;have:=R.out;omega));have pl:Hid (aJ i5 F 0 179 [] [.bool true,.int .i64 (m:Int)] (.slice none 0 0) ⟨cat,bn K1 k0 k1 k2 k3 a0 a1 a2 a3 0,[]⟩):=Z ⟨ll,rfl,ct.nil _⟩;have hd:=Z (bi.ch li (fun h=>h));clear ms;have x2:=hd.k 2 rfl;have x3:=hd.k 3 rfl;have x4:=hd.k 4 rfl;have x5:=hd.k 5 rfl;clear eA i8 ll ex gr lc pi lb ls qb qr;go_wp2
   clear x2 x3 x4 x5;go_loopg [74] 5 (fun gk u wr=>∃am:Nat,am<=4/\gk=4-am+1/\u=.int .i64 am/\Hid (Ch ag wc wr/\aJ wr F 0 179 [] [.bool true,.int .i64 (m:Int)] (.slice none 0 0) ⟨cat,bn K1 k0 k1 k2 k3 a0 a1 a2 a3 am,[]⟩))
   case atStart=>exact⟨0,by omega,by omega,rfl,li,pl⟩
   case round=>
    obtain⟨am,sC,rfl,rfl,c⟩:=hrel;have X:=Z (cW.af c.1);have es:=Z ((Nx.af c.1).row c2.1 c2.2);have s5:L.mb≠F:=(fun e=>by have I:=cW.at_.Gw;rw[e,R]at I;exact absurd I (Nat.lt_irrefl _));have s6:w.heap.size≠F:=(fun e=>by have I:=c2.1.lt;rw[e,R]at I;exact absurd I (Nat.lt_irrefl _));have v6:=s5.symm;have w0:=s6.symm;obtain rfl|rfl|rfl|rfl|rfl:am=0∨am=1∨am=2∨am=3∨am=4:=by omega
    ·have W:=es.1.c1
     have eW:wr.cell? (F,1)=_:=hH c.2 0 (by omega);have io:=c.2.free 1;have kb:=z7 k0 k1 k2 k3;by_cases d:k0=0
     ·have O:bn K1 k0 k1 k2 k3 a0 a1 a2 a3 1=bn K1 k0 k1 k2 k3 a0 a1 a2 a3 0:=Aa (by unfold de;rw[if_pos d])
      have c5:=Z O;have cA:(k0==0)=true:=(by simpa using d);clear O d;go_wp2
      go_roundg (4)
      case measure=>omega
      case rel=>exact⟨1,by omega,rfl,rfl,c.1,by rw[c5];exact c.2⟩
     ·have cA:(k0==0)=false:=by rw[beq_eq_false_iff_ne];exact d
      by_cases x:k0=7
      ·have z:IntKind.u64.wrap (V+a0)=de K1 k0 a0:=by unfold de;rw[if_neg d,if_pos x,go,bv]
       have cr:(k0==7)=true:=(by simpa using x);have S:=Z z;have c3:=Z (Co (et wr.drew _ _ X.at_.drew));have en:=bv.out;clear z d x;go_wp2
       go_region_held3 (fun w'=>w'.cell? ⟨w.heap.size,0,none⟩=some (.int .u64 a0)) (go_keep) ((go_at_call 32;refine c3.mono ?_;rintro e s ⟨rfl,A⟩;have n:Hid (Ch ag wr s):=Z (Ch.trans (Ch.refl _ _).drew A);have o:=Z (aJ.ch c.2 n (fun h=>h) (fun _ _ h=>h));have cb:=n.k W;have cd:s.cell? (F,1)=_:=hH o 0 (by omega);have ab:=o.free 1;clear A))
       all_goals
        go_wp2
        go_roundg (4)
        case measure=>omega
        case rel=>
         have B:=e2 o (by decide) 0 (by omega) (IntKind.u64.wrap (V+a0));rw[show({({pc:=cat,r:=bn K1 k0 k1 k2 k3 a0 a1 a2 a3 0,back:=[]}:cu)with r:=fU (bn K1 k0 k1 k2 k3 a0 a1 a2 a3 0) 0 (IntKind.u64.wrap (V+a0))}:cu)=⟨cat,bn K1 k0 k1 k2 k3 a0 a1 a2 a3 1,[]⟩from by rw[qV _ S]]at B;exact⟨1,by omega,rfl,rfl,(c.1.trans n).set (p:=⟨F,1,none⟩) (Or.inr (by rw[R];exact Nat.le_refl _)) _,B⟩
      ·have cr:(k0==7)=false:=by rw[beq_eq_false_iff_ne];exact x
       have Q:=Z (gs wr.drew _ _ a0 k0 X.at_.drew);have co:=X.at_.iP;obtain⟨ad,T⟩:=nm (gu K1.c' a0 k0);rw[T]at Q;obtain⟨H,U⟩:∃v,ad.getD 0=v:=⟨_,rfl⟩;have z:H=de K1 k0 a0:=(by unfold de;rw[if_neg d,if_neg x,T,U]);have S:=Z z;have c4:Hid (Calls prog 172 #[(L.ob,0),.int .u64 a0,k0] wr.drew (fun e w'=>(∃v,e=.returned (.tuple #[.int .u64 H,v]))/\Ch ag wr.drew w')):=Z (Q.mono fun e w' h=>by
        obtain⟨I,G⟩:=h;refine⟨?_,G⟩;rw[<-U];cases ad with
        |none=>obtain⟨v,ch,_⟩:=I;exact⟨v,ch⟩
        |some y=>exact⟨_,I⟩)
       clear z d x T U Q;go_wp2
       go_region_held3 (fun w'=>w'.cell? (L.mb,1013)=some (.pointer (some (L.ob,0)))/\w'.cell? ⟨w.heap.size,0,none⟩=some (.int .u64 a0)) (go_keep) ((go_at_call 172;refine c4.mono ?_;rintro e s ⟨⟨l0,rfl⟩,A⟩;have n:Hid (Ch ag wr s):=Z (Ch.trans (Ch.refl _ _).drew A);have o:=Z (aJ.ch c.2 n (fun h=>h) (fun _ _ h=>h));have cb:=n.k W;have ii:=n.k co;have cd:s.cell? (F,1)=_:=hH o 0 (by omega);have ab:=o.free 1;clear A))
       all_goals
        go_wp2
        go_roundg (4)
        case measure=>omega
        case rel=>
         have B:=e2 o (by decide) 0 (by omega) H;rw[show({({pc:=cat,r:=bn K1 k0 k1 k2 k3 a0 a1 a2 a3 0,back:=[]}:cu)with r:=fU (bn K1 k0 k1 k2 k3 a0 a1 a2 a3 0) 0 H}:cu)=⟨cat,bn K1 k0 k1 k2 k3 a0 a1 a2 a3 1,[]⟩from by rw[qV _ S]]at B;exact⟨1,by omega,rfl,rfl,(c.1.trans n).set (p:=⟨F,1,none⟩) (Or.inr (by rw[R];exact Nat.le_refl _)) _,B⟩
    ·have W:=es.1.k 1 rfl
     have eW:wr.cell? (F,2)=_:=hH c.2 1 (by omega);have io:=c.2.free 2;have kb:=z8 k0 k1 k2 k3;by_cases d:k1=0
     ·have O:bn K1 k0 k1 k2 k3 a0 a1 a2 a3 2=bn K1 k0 k1 k2 k3 a0 a1 a2 a3 1:=Ab (by unfold de;rw[if_pos d])
      have c5:=Z O;have cA:(k1==0)=true:=(by simpa using d);clear O d;go_wp2
      go_roundg (3)
      case measure=>omega
      case rel=>exact⟨2,by omega,rfl,rfl,c.1,by rw[c5];exact c.2⟩
     ·have cA:(k1==0)=false:=by rw[beq_eq_false_iff_ne];exact d
      by_cases x:k1=7
      ·have z:IntKind.u64.wrap (V+a1)=de K1 k1 a1:=by unfold de;rw[if_neg d,if_pos x,go,bv]
       have cr:(k1==7)=true:=(by simpa using x);have S:=Z z;have c3:=Z (Co (et wr.drew _ _ X.at_.drew));have en:=bv.out;clear z d x;go_wp2
       go_region_held3 (fun w'=>w'.cell? ⟨w.heap.size,1,none⟩=some (.int .u64 a1)) (go_keep) ((go_at_call 32;refine c3.mono ?_;rintro e s ⟨rfl,A⟩;have n:Hid (Ch ag wr s):=Z (Ch.trans (Ch.refl _ _).drew A);have o:=Z (aJ.ch c.2 n (fun h=>h) (fun _ _ h=>h));have cb:=n.k W;have cd:s.cell? (F,2)=_:=hH o 1 (by omega);have ab:=o.free 2;clear A))
       all_goals
        go_wp2
        go_roundg (3)
        case measure=>omega
        case rel=>
         have B:=e2 o (by decide) 1 (by omega) (IntKind.u64.wrap (V+a1));rw[show({({pc:=cat,r:=bn K1 k0 k1 k2 k3 a0 a1 a2 a3 1,back:=[]}:cu)with r:=fU (bn K1 k0 k1 k2 k3 a0 a1 a2 a3 1) 1 (IntKind.u64.wrap (V+a1))}:cu)=⟨cat,bn K1 k0 k1 k2 k3 a0 a1 a2 a3 2,[]⟩from by rw[qW _ S]]at B;exact⟨2,by omega,rfl,rfl,(c.1.trans n).set (p:=⟨F,2,none⟩) (Or.inr (by rw[R];exact Nat.le_refl _)) _,B⟩
      ·have cr:(k1==7)=false:=by rw[beq_eq_false_iff_ne];exact x
       have Q:=Z (gs wr.drew _ _ a1 k1 X.at_.drew);have co:=X.at_.iP;obtain⟨ad,T⟩:=nm (gu K1.c' a1 k1);rw[T]at Q;obtain⟨H,U⟩:∃v,ad.getD 0=v:=⟨_,rfl⟩;have z:H=de K1 k1 a1:=(by unfold de;rw[if_neg d,if_neg x,T,U]);have S:=Z z;have c4:Hid (Calls prog 172 #[(L.ob,0),.int .u64 a1,k1] wr.drew (fun e w'=>(∃v,e=.returned (.tuple #[.int .u64 H,v]))/\Ch ag wr.drew w')):=Z (Q.mono fun e w' h=>by
        obtain⟨I,G⟩:=h;refine⟨?_,G⟩;rw[<-U];cases ad with
        |none=>obtain⟨v,ch,_⟩:=I;exact⟨v,ch⟩
        |some y=>exact⟨_,I⟩)
       clear z d x T U Q;go_wp2
       go_region_held3 (fun w'=>w'.cell? (L.mb,1013)=some (.pointer (some (L.ob,0)))/\w'.cell? ⟨w.heap.size,1,none⟩=some (.int .u64 a1)) (go_keep) ((go_at_call 172;refine c4.mono ?_;rintro e s ⟨⟨l0,rfl⟩,A⟩;have n:Hid (Ch ag wr s):=Z (Ch.trans (Ch.refl _ _).drew A);have o:=Z (aJ.ch c.2 n (fun h=>h) (fun _ _ h=>h));have cb:=n.k W;have ii:=n.k co;have cd:s.cell? (F,2)=_:=hH o 1 (by omega);have ab:=o.free 2;clear A))
       all_goals
        go_wp2
        go_roundg (3)
        case measure=>omega
        case rel=>
         have B:=e2 o (by decide) 1 (by omega) H;rw[show({({pc:=cat,r:=bn K1 k0 k1 k2 k3 a0 a1 a2 a3 1,back:=[]}:cu)with r:=fU (bn K1 k0 k1 k2 k3 a0 a1 a2 a3 1) 1 H}:cu)=⟨cat,bn K1 k0 k1 k2 k3 a0 a1 a2 a3 2,[]⟩from by rw[qW _ S]]at B;exact⟨2,by omega,rfl,rfl,(c.1.trans n).set (p:=⟨F,2,none⟩) (Or.inr (by rw[R];exact Nat.le_refl _)) _,B⟩
    ·have W:=es.1.k 2 rfl
     have eW:wr.cell? (F,3)=_:=hH c.2 2 (by omega);have io:=c.2.free 3;have kb:=z9 k0 k1 k2 k3;by_cases d:k2=0
     ·have O:bn K1 k0 k1 k2 k3 a0 a1 a2 a3 3=bn K1 k0 k1 k2 k3 a0 a1 a2 a3 2:=Ac (by unfold de;rw[if_pos d])
      have c5:=Z O;have cA:(k2==0)=true:=(by simpa using d);clear O d;go_wp2
      go_roundg (2)
      case measure=>omega
      case rel=>exact⟨3,by omega,rfl,rfl,c.1,by rw[c5];exact c.2⟩
     ·have cA:(k2==0)=false:=by rw[beq_eq_false_iff_ne];exact d
      by_cases x:k2=7
      ·have z:IntKind.u64.wrap (V+a2)=de K1 k2 a2:=by unfold de;rw[if_neg d,if_pos x,go,bv]
       have cr:(k2==7)=true:=(by simpa using x);have S:=Z z;have c3:=Z (Co (et wr.drew _ _ X.at_.drew));have en:=bv.out;clear z d x;go_wp2
       go_region_held3 (fun w'=>w'.cell? ⟨w.heap.size,2,none⟩=some (.int .u64 a2)) (go_keep) ((go_at_call 32;refine c3.mono ?_;rintro e s ⟨rfl,A⟩;have n:Hid (Ch ag wr s):=Z (Ch.trans (Ch.refl _ _).drew A);have o:=Z (aJ.ch c.2 n (fun h=>h) (fun _ _ h=>h));have cb:=n.k W;have cd:s.cell? (F,3)=_:=hH o 2 (by omega);have ab:=o.free 3;clear A))
       all_goals
        go_wp2
        go_roundg (2)
        case measure=>omega
        case rel=>
         have B:=e2 o (by decide) 2 (by omega) (IntKind.u64.wrap (V+a2));rw[show({({pc:=cat,r:=bn K1 k0 k1 k2 k3 a0 a1 a2 a3 2,back:=[]}:cu)with r:=fU (bn K1 k0 k1 k2 k3 a0 a1 a2 a3 2) 2 (IntKind.u64.wrap (V+a2))}:cu)=⟨cat,bn K1 k0 k1 k2 k3 a0 a1 a2 a3 3,[]⟩from by rw[qX _ S]]at B;exact⟨3,by omega,rfl,rfl,(c.1.trans n).set (p:=⟨F,3,none⟩) (Or.inr (by rw[R];exact Nat.le_refl _)) _,B⟩
      ·have cr:(k2==7)=false:=by rw[beq_eq_false_iff_ne];exact x
       have Q:=Z (gs wr.drew _ _ a2 k2 X.at_.drew);have co:=X.at_.iP;obtain⟨ad,T⟩:=nm (gu K1.c' a2 k2);rw[T]at Q;obtain⟨H,U⟩:∃v,ad.getD 0=v:=⟨_,rfl⟩;have z:H=de K1 k2 a2:=(by unfold de;rw[if_neg d,if_neg x,T,U]);have S:=Z z;have c4:Hid (Calls prog 172 #[(L.ob,0),.int .u64 a2,k2] wr.drew (fun e w'=>(∃v,e=.returned (.tuple #[.int .u64 H,v]))/\Ch ag wr.drew w')):=Z (Q.mono fun e w' h=>by
        obtain⟨I,G⟩:=h;refine⟨?_,G⟩;rw[<-U];cases ad with
        |none=>obtain⟨v,ch,_⟩:=I;exact⟨v,ch⟩
        |some y=>exact⟨_,I⟩)
       clear z d x T U Q;go_wp2
       go_region_held3 (fun w'=>w'.cell? (L.mb,1013)=some (.pointer (some (L.ob,0)))/\w'.cell? ⟨w.heap.size,2,none⟩=some (.int .u64 a2)) (go_keep) ((go_at_call 172;refine c4.mono ?_;rintro e s ⟨⟨l0,rfl⟩,A⟩;have n:Hid (Ch ag wr s):=Z (Ch.trans (Ch.refl _ _).drew A);have o:=Z (aJ.ch c.2 n (fun h=>h) (fun _ _ h=>h));have cb:=n.k W;have ii:=n.k co;have cd:s.cell? (F,3)=_:=hH o 2 (by omega);have ab:=o.free 3;clear A))
       all_goals
        go_wp2
        go_roundg (2)
        case measure=>omega
        case rel=>
         have B:=e2 o (by decide) 2 (by omega) H;rw[show({({pc:=cat,r:=bn K1 k0 k1 k2 k3 a0 a1 a2 a3 2,back:=[]}:cu)with r:=fU (bn K1 k0 k1 k2 k3 a0 a1 a2 a3 2) 2 H}:cu)=⟨cat,bn K1 k0 k1 k2 k3 a0 a1 a2 a3 3,[]⟩from by rw[qX _ S]]at B;exact⟨3,by omega,rfl,rfl,(c.1.trans n).set (p:=⟨F,3,none⟩) (Or.inr (by rw[R];exact Nat.le_refl _)) _,B⟩
    ·have W:=es.1.k 3 rfl
     have eW:wr.cell? (F,4)=_:=hH c.2 3 (by omega);have io:=c.2.free 4;have kb:=z' k0 k1 k2 k3;by_cases d:k3=0
     ·have O:bn K1 k0 k1 k2 k3 a0 a1 a2 a3 4=bn K1 k0 k1 k2 k3 a0 a1 a2 a3 3:=Ad (by unfold de;rw[if_pos d])
      have c5:=Z O;have cA:(k3==0)=true:=(by simpa using d);clear O d;go_wp2
      go_roundg (1)
      case measure=>omega
      case rel=>exact⟨4,by omega,rfl,rfl,c.1,by rw[c5];exact c.2⟩
     ·have cA:(k3==0)=false:=by rw[beq_eq_false_iff_ne];exact d
      by_cases x:k3=7
      ·have z:IntKind.u64.wrap (V+a3)=de K1 k3 a3:=by unfold de;rw[if_neg d,if_pos x,go,bv]
       have cr:(k3==7)=true:=(by simpa using x);have S:=Z z;have c3:=Z (Co (et wr.drew _ _ X.at_.drew));have en:=bv.out;clear z d x;go_wp2
       go_region_held3 (fun w'=>w'.cell? ⟨w.heap.size,3,none⟩=some (.int .u64 a3)) (go_keep) ((go_at_call 32;refine c3.mono ?_;rintro e s ⟨rfl,A⟩;have n:Hid (Ch ag wr s):=Z (Ch.trans (Ch.refl _ _).drew A);have o:=Z (aJ.ch c.2 n (fun h=>h) (fun _ _ h=>h));have cb:=n.k W;have cd:s.cell? (F,4)=_:=hH o 3 (by omega);have ab:=o.free 4;clear A))
       all_goals
        go_wp2
        go_roundg (1)
        case measure=>omega
        case rel=>
         have B:=e2 o (by decide) 3 (by omega) (IntKind.u64.wrap (V+a3));rw[show({({pc:=cat,r:=bn K1 k0 k1 k2 k3 a0 a1 a2 a3 3,back:=[]}:cu)with r:=fU (bn K1 k0 k1 k2 k3 a0 a1 a2 a3 3) 3 (IntKind.u64.wrap (V+a3))}:cu)=⟨cat,bn K1 k0 k1 k2 k3 a0 a1 a2 a3 4,[]⟩from by rw[qY _ S]]at B;exact⟨4,by omega,rfl,rfl,(c.1.trans n).set (p:=⟨F,4,none⟩) (Or.inr (by rw[R];exact Nat.le_refl _)) _,B⟩
      ·have cr:(k3==7)=false:=by rw[beq_eq_false_iff_ne];exact x
       have Q:=Z (gs wr.drew _ _ a3 k3 X.at_.drew);have co:=X.at_.iP;obtain⟨ad,T⟩:=nm (gu K1.c' a3 k3);rw[T]at Q;obtain⟨H,U⟩:∃v,ad.getD 0=v:=⟨_,rfl⟩;have z:H=de K1 k3 a3:=(by unfold de;rw[if_neg d,if_neg x,T,U]);have S:=Z z;have c4:Hid (Calls prog 172 #[(L.ob,0),.int .u64 a3,k3] wr.drew (fun e w'=>(∃v,e=.returned (.tuple #[.int .u64 H,v]))/\Ch ag wr.drew w')):=Z (Q.mono fun e w' h=>by
        obtain⟨I,G⟩:=h;refine⟨?_,G⟩;rw[<-U];cases ad with
        |none=>obtain⟨v,ch,_⟩:=I;exact⟨v,ch⟩
        |some y=>exact⟨_,I⟩)
       clear z d x T U Q;go_wp2
       go_region_held3 (fun w'=>w'.cell? (L.mb,1013)=some (.pointer (some (L.ob,0)))/\w'.cell? ⟨w.heap.size,3,none⟩=some (.int .u64 a3)) (go_keep) ((go_at_call 172;refine c4.mono ?_;rintro e s ⟨⟨l0,rfl⟩,A⟩;have n:Hid (Ch ag wr s):=Z (Ch.trans (Ch.refl _ _).drew A);have o:=Z (aJ.ch c.2 n (fun h=>h) (fun _ _ h=>h));have cb:=n.k W;have ii:=n.k co;have cd:s.cell? (F,4)=_:=hH o 3 (by omega);have ab:=o.free 4;clear A))
       all_goals
        go_wp2
        go_roundg (1)
        case measure=>omega
        case rel=>
         have B:=e2 o (by decide) 3 (by omega) H;rw[show({({pc:=cat,r:=bn K1 k0 k1 k2 k3 a0 a1 a2 a3 3,back:=[]}:cu)with r:=fU (bn K1 k0 k1 k2 k3 a0 a1 a2 a3 3) 3 H}:cu)=⟨cat,bn K1 k0 k1 k2 k3 a0 a1 a2 a3 4,[]⟩from by rw[qY _ S]]at B;exact⟨4,by omega,rfl,rfl,(c.1.trans n).set (p:=⟨F,4,none⟩) (Or.inr (by rw[R];exact Nat.le_refl _)) _,B⟩
    ·have W:=es.1.c1
     have rb:wr.cell? (F,31)=_:=hH c.2 30 (by omega);have rc:wr.cell? (F,32)=_:=hH c.2 31 (by omega);have f30:=c.2.free 31;have f31:=c.2.free 32;have nw:IntKind.u64.wrap (m:Int)=m:=(by unfold IntKind.wrap IntKind.bits IntKind.signed;simp;omega);have qm:=Z nw;have re:(⟨F,31,none⟩:Addr)≠⟨F,32,none⟩:=(by simp);have rg:(⟨F,32,none⟩:Addr)≠⟨F,31,none⟩:=(by simp);have mL:=aJ.drew (e2 (e2 c.2 (by decide) 30 (by omega) a0) (by decide) 31 (by omega) (m:Int));have mC:Ch ag wc (((wr.setCell (F,1+30) (.int .u64 a0)).setCell (F,1+31) (.int .u64 (m:Int))).drew):=((c.1.set (p:=⟨F,1+30,none⟩) (Or.inr (by rw[R];exact Nat.le_refl _)) _).set (p:=⟨F,1+31,none⟩) (Or.inr (by rw[R];exact Nat.le_refl _)) _).drew;have lm:=Z (And.intro mL mC);clear mL mC;go_wp2
     go_region
     go_upto_region 19 with fail
     obtain⟨s,i3⟩:=nm (((wr.setCell (F,31) (.int .u64 a0)).setCell (F,32) (.int .u64 (m:Int))).drew);have o:Hid (aJ s F 0 179 [] [.bool true,.int .i64 (m:Int)] (.slice none 0 0) ⟨cat,pL K1 k0 k1 k2 k3 a0 a1 a2 a3 (m:Int),[]⟩):=Z (by rw[<-i3,<-xX];exact lm.1);have n:Hid (Ch ag wc s):=Z (by rw[<-i3];exact lm.2);rw[i3];clear i3 rb rc f30 f31 W re rg nw;have bw:=Z (cW.af n);obtain⟨g,cap,dC,ro,_⟩:=bw.at_.hL J.2.2.1 eC.2.2;rw[<-eC.1]at dC ro;have lo:=Z dC;have hf:=bw.at_.Dp J.2.2.1;have mc:=bw.at_.r4 J.2.2.1 1;rw[c6]at hf mc;rw[dC]at hf;have kd:=(bw.at_.tl id t J.2.2.1 (by simp)).is;rw[dC,<-eC.1]at kd;have ni:tb<s.heap.size:=aP hf;have nx:(Value.slice (some (g,0)) eS cap).ownBlock≠some tb:=by
      have:=aU (bw.at_.tl id t J.2.2.1 (by simp)).is (bw.at_.th id t J.2.2.1 (by simp)).is (by decide);rw[dC,c6]at this;exact this
     have E:Hid (g9 C K id k (m:Int)=K1.cn id {t with l:=t.l++[⟨⟨cat,pL K1 k0 k1 k2 k3 a0 a1 a2 a3 (m:Int),[]⟩,true,(m:Int)⟩]}):=Z (by
      rw[eL,if_neg (by decide),KS.dk J.2.2.1];unfold pL;rw[qm])
     clear dC;go_wp2_with (at_builtin;refine wpList_append_lies _ rfl _ _ _ rfl 0 177 s4 _ 1 8 underlying174 gt.1 gt.2.1 gt.2.2.1 gt.2.2.2 rfl (by omega) _ eS ((List.range eS).map fun k=>bj (l'.fb id k)) rfl (kd.alloc _) ⟨s.heap.size,0,none⟩ 1 1 [(F,0)] rfl rfl (World.news_of_block (cs:=#[(F,0)]) (t:=177) (fr:=(0,0)) (heap_alloc_new s _)) (by simp[Value.oneCell']) (by omega) (by unfold maxLen;omega) (by omega) (by simp) (s.heap.size+1) (by simp) ?_)
     intro rd r6 l1 ne hv mm rx;have it:=bw.at_.Dq J.2.2.1 (f:=⟨⟨cat,pL K1 k0 k1 k2 k3 a0 a1 a2 a3 (m:Int),[]⟩,true,(m:Int)⟩) o pp rfl (g:=rd) (cap:=r6) (w4:=l1) (by rw[<-eC.1];exact ne) (by rw[lo];exact au hv) (by
      rw[lo];rcases mm with G|G
      ·exact Or.inl (by rw[G])
      ·exact Or.inr (by omega))
     rw[c6,<-eC.1]at it;have pv:=Z it;have wb:l1.cell? (tb,1)=some (.slice (some (g,0)) eS cap):=((Ch.bM (au hv)).cell (p:=⟨tb,1,none⟩) ni nx).trans hf;have wd:l1.frozen? (tb,1)=false:=((Ch.bM (au hv)).frozen (p:=⟨tb,1,none⟩) ni nx).trans mc;clear it ne hv mm rx kd;go_wp2
     go_end0
     rw[E];obtain⟨aY,Y',hw,s0,us,rt⟩:=pv.out;have fd:=bw.nx;have ty:w.heap.size<=wc.heap.size:=cW.nx.ch.size;exact⟨rfl,aY,Y',hw,⟨fd.ch.join rt (fun i fb k5=>by rw[<-fd.same i fb];exact k5),fun i fb=>(s0 i (Nat.lt_of_lt_of_le fb fd.ch.size) (by rw[R];omega)).trans (fd.same i fb)⟩⟩
 ·have tt:(i4==0)=false:=by rw[beq_eq_false_iff_ne];exact kw
  have E:Hid (g9 C K id k num=dn K1 id num i4 0):=Z (by rw[eL,if_pos kw]);have qc:=Z (fun(w:World) (χ:Nat->aX) (Y:Var) (h:ae w χ L Y C K1)=>j2 id t ec hid fn hB num i4 0 pu h);clear h ck dN bx hb fz ci hl hm hn hu no hid i2 al n0 n1 hB fn hi ec dr i0;go_in
  go_wp2
  obtain⟨w1,av⟩:=nm (w.alloc (.cells #[.int .u64 a0,.int .u64 a1,.int .u64 a2,.int .u64 a3] 60));have i7:=Z (Ch.al (D:=ag) av);have c0:Hid (Row w1 w.heap.size 60 [.int .u64 a0,.int .u64 a1,.int .u64 a2,.int .u64 a3]/\χ w.heap.size=.no):=Z ⟨by rw[<-av];exact Row.new w _ _,he.at_.fresh (Nat.le_refl _)⟩;rw[av];clear av og ok on os;have c7:=Z (he.af i7);obtain⟨ax,cC,cL,cQ⟩:=c0.1.c4;have ce:=c7.at_.gv J.1;rw[J.2.2.2,J.2.1]at ce;go_still_tail 8,(by kernel_rfl)
  change wpList _ _ _ _ _ w1.drew;go_wp2_with fail
  with_reducible refine(ih.out _ c7.out.at_.drew).mono ?_
  rintro e w2 ⟨rfl,s7,l',G⟩;have c8:=Z ((c7.af (Ch.refl _ w1).drew).trans (Gr.refl _) G);have c1:=Z (((Nx.af (Ch.refl _ w1).drew).trans G.nx).row c0.1 c0.2);have cq:=(c8.yk id t J.1).1;rw[J.2.1]at cq;have c6:=Z cq;clear G cq ax cC cL cQ ce;obtain⟨ax,cC,cL,cQ⟩:=c1.1.c4;go_wp2_with fail
  have cm:=i9 _ _ _ c8.at_;rw[c6]at cm;with_reducible refine cm.mono ?_
  clear cm;rintro e w3 ⟨rfl,cl⟩;have c9:=Z (c8.af cl);have gf:=Z ((Nx.af cl).row c1.1 c1.2);clear cl ax cC cL cQ;go_wp2_with fail
  have kf:=qc _ _ _ c9.at_;rw[c6]at kf;with_reducible refine kf.mono ?_
  clear kf;rintro e w4 ⟨rfl,s8,r5,ip⟩;have lv:=Z (And.intro ip.at_ (c9.nx.trans ip.nx));clear ip;go_wp2
  go_end0
  rw[E];exact⟨rfl,s8,r5,lv.1,lv.2⟩
end
end
section
section
variable{N M:Nat}{K:KS}{C:KC}
theorem dO{id:Int}{k:Nat}{t:Thread}(b:aw K.ai id=some t)(f:cu):∃a,aw (K.cJ (.ai id k) f).ai id=some a/\a.l.length=t.l.length/\a.id=t.id:=by
 refine⟨_,by show aw (b8 K.ai id _) id=_;rw[aV,if_pos rfl],?_,?_⟩
 ·show(List.set (K.T id).l k _).length=_
  rw[List.length_set,KS.dk b]
 ·show(K.T id).id=_
  rw[KS.dk b]
theorem xY(h:Inv N M K){i:Nat}(a:i<K.wk.length):Inv N M (gJ C K i):=
 h.be a rfl rfl ⟨⟨(h.gz a).f.r,by simp⟩,(h.gz a).l0,(h.gz a).l1⟩
theorem sK(h:Inv N M K)(id:Int)(c:bN)(x:aR):Inv N (M+1) (da K id c x):=by
 unfold da;split
 ·exact h.more (Nat.le_refl _) (Nat.le_succ _)
 ·dsimp only
  repeat' split
  all_goals first|exact h.tell _|exact h.more (Nat.le_refl _) (Nat.le_succ _)
theorem k'(h:Inv N M K){c:bN}(a:ak K c):Inv N M (K.fB c):=h.cJ a ((h.lS a).pc _)
theorem vT(A:mU C)(h:Inv N M K)(I:N<=800000){i:Nat}(u:i<K.wk.length){idO:Option Int}{c:bN}(m:ak K c)
 (v:∀id,idO=some id->(K.W i).slot=id/\id≠0/\c=.ai id (K.top id)/\∃t,aw K.ai id=some t/\t.l.length%2=0):
 Inv (N+1) (M+1) (eE C K i idO c).2.2/\((eE C K i idO c).2.1=2∨(eE C K i idO c).2.1=3->(eE C K i idO c).2.2.wk.length=K.wk.length/\∀id t,idO=some id->aw K.ai id=some t->∃a,aw (eE C K i idO c).2.2.ai id=some a/\a.l.length=t.l.length):=by
 obtain⟨k1,k2,k3,G⟩:=lW A h m;have f:=oc C m;have w:=od C (c:=c) i u;unfold eE;obtain⟨s,o⟩:=nm (cF C K c);have p:∀id t,idO=some id->aw K.ai id=some t->∃a,aw s.2.2.ai id=some a/\a.l.length=t.l.length:=fun id t e d=>by
  obtain⟨_,_,j,_⟩:=v id e;obtain⟨a,b,g,_⟩:=pK C (k:=K.top id) d;rw[j]at o;rw[o]at b;exact⟨a,b,g⟩
 rw[o]at k1 k2 k3 G f w⊢;dsimp only;split
 ·rename_i b
  obtain⟨E,F⟩:=k3 (Or.inr b);have B:i<s.2.2.wk.length:=by rw[f.2];exact u
  have n:ak s.2.2 c:=m.gr f.1 f.2;have q:∀id,idO=some id->(s.2.2.W i).slot=id/\id≠0/\∃t,aw s.2.2.ai id=some t/\t.l.length%2=0:=fun id e=>by
   obtain⟨x,j,H,t,d,D⟩:=v id e;obtain⟨a,b,g⟩:=p id t e d;exact⟨w.1.trans x,j,a,b,by rw[g];exact D⟩
  have l:=jj (C:=C) k1 (by omega) B n (iS.of E F) q;split
  ·rename_i y
   have r:=kn (C:=C) k1 (by omega) (i:=i) (idO:=idO) n s.1 (fun id e=>by obtain⟨_,_,t,d,_⟩:=q id e;exact⟨t,d⟩) y;exact⟨k' l (n.gr r.1 r.2),(fun e=>by rcases e with e|e<;>cases e)⟩
  ·split
   ·rename_i g
    have:=jk (C:=C) s.2.2 i idO c s.1 g;refine⟨l,fun _=>⟨by rw[show _=_ from this.2];exact f.2,fun id t e d=> ?_⟩⟩;obtain⟨a,b,z⟩:=p id t e d;exact⟨a,by rw[show _=_ from this.1];exact b,z⟩
   ·exact⟨l,(fun e=>by rcases e with e|e<;>cases e)⟩
 ·exact⟨k1.more (Nat.le_succ _) (Nat.le_succ _),fun _=>⟨f.2,p⟩⟩
theorem Cp(j:mU C)(h:Inv N M K)(k:N<=800000){i:Nat}(a:i<K.wk.length):Inv (N+1) (M+2) (ke C K i):=by
 unfold ke;dsimp only;have f:Inv N M (K.be i {K.W i with parked:=false}):=h.be a rfl rfl ⟨(h.gz a).f,(h.gz a).l0,(h.gz a).l1⟩;have d:i<(K.be i {K.W i with parked:=false}).wk.length:=by rw[bF];exact a
 have b:=vT j f k d (idO:=none) (c:=.own i) d (fun id e=>by cases e);split
 ·exact sK b.1 _ _ _
 ·split
  ·rename_i g
   exact(xY b.1 (by rw[(b.2 g.symm).1];exact d)).more (Nat.le_refl _) (Nat.le_succ _)
  ·exact b.1.more (Nat.le_refl _) (Nat.le_succ _)
theorem sL(l:mU C)(h:Inv N M K)(m:N<=800000){i:Nat}(n:i<K.wk.length){id:Int}{t:Thread}(a:aw K.ai id=some t)(p:(K.W i).slot=id)(d:id≠0)(o:t.l.length%2=0){k:Nat}(s:k+1=t.l.length):Inv (N+1) (M+2) (cG C K i id k):=by
 unfold cG;dsimp only;have q:K.top id=k:=by unfold KS.top;rw[KS.dk a];omega
 have b:=vT l h m n (idO:=some id) (c:=.ai id k) ⟨t,a,by omega⟩ (fun j e=>by injection e with e;subst e;exact⟨p,d,by rw[q],t,a,o⟩);split
 ·exact sK b.1 _ _ _
 ·split
  ·rename_i g
   obtain⟨u,f,r⟩:=(b.2 g.symm).2 id t rfl a;exact b.1.answer f (by have:=(h.dg a).l.n0;omega) ⟨by decide,by decide⟩ bm
  ·exact b.1.more (Nat.le_refl _) (Nat.le_succ _)
theorem Ae(h:Inv N M K)(k a:Int)(b:aI a):aI (de K k a):=by
 unfold de;split
 ·exact b
 ·split
  ·exact cx _
  ·cases c:gu K.c' a k with
   |none=>exact bm
   |some x=>exact h.obj.find a k x c
theorem oi(C:KC)(K:KS):∀l,aI (cB C K l)
 |[]=>bm
 |(k,a)::l=>by
  unfold cB;have b:aI (22:Int):=⟨by decide,by decide⟩
  repeat' split
  all_goals first|exact b|exact oi C K l
theorem qZ(C:KC)(K:KS)(id num a0 a1 a2 a3:Int):aI (cN C K id num a0 a1 a2 a3):=by
 unfold cN;have b:aI (38:Int):=⟨by decide,by decide⟩;have a:aI (11:Int):=⟨by decide,by decide⟩
 repeat' split
 all_goals first|exact b|exact a|exact oi C K _
theorem sM(h:Inv N M K){id:Int}{t:Thread}(f:aw K.ai id=some t)(i:t.l.length%2=1){k:Nat}(n:k+1=t.l.length)(num:Int):Inv N (M+2) (g9 C K id k num):=by
 have g:ak K (.ai id k):=⟨t,f,by omega⟩;have e:=(h.lS g).r;unfold g9;dsimp only;obtain⟨K1,d⟩:=nm (tell K ⟨1,0,0,id,num,(K.F (.ai id k)).r 0,(K.F (.ai id k)).r 1,(K.F (.ai id k)).r 2,(K.F (.ai id k)).r 3,0,0⟩);have a:Inv N (M+1) K1:=by rw[<-d];exact h.tell _
 have c:aw K1.ai id=some t:=by rw[<-d];exact f
 rw[d];split
 ·exact a.returned c _ (qZ _ _ _ _ _ _ _ _) bm
 ·have b:=a.dg c
  have l:=b.l.n8;rw[KS.dk c];refine Inv.more (N:=N) (M:=M+1) (a.cn c ⟨b.id,b.eU,?_⟩) (Nat.le_refl _) (Nat.le_succ _);refine b.l.push _ (by omega) ⟨fun j m=> ?_,by simp⟩ (by simp[i]);dsimp only;have a0:=Ae a
  repeat' split
  all_goals first|exact a0 _ _ (e _ (by omega))|exact e _ (by omega)|exact cx _|exact bm
theorem sN(h:Inv N M K)(s:N<=800000){i:Nat}(o:i<K.wk.length){id:Int}{t:Thread}(e:aw K.ai id=some t)(p:(K.W i).slot=id)(j:id≠0)(x:t.l.length%2=1){k:Nat}(u:k+1=t.l.length)(v:Int)(g:aI v):Inv N (M+2) (eX C K i id k v):=by
 have b:ak K (.ai id k):=⟨t,e,by omega⟩;have l:=h.az b 0 v g;have n:ak (K.az (.ai id k) 0 v) (.ai id k):=b.gr (bu b _) (bq _ _);have a:=k' l n;obtain⟨t1,q,w,_⟩:=dO (K:=K) (k:=k) e {K.F (.ai id k)with r:=fU (K.F (.ai id k)).r 0 v};obtain⟨t2,f,y,_⟩:=dO (K:=K.az (.ai id k) 0 v) (k:=k) q {(K.az (.ai id k) 0 v).F (.ai id k)with pc:=wrap64 (((K.az (.ai id k) 0 v).F (.ai id k)).pc+1)};unfold eX;dsimp only;split
 ·exact sM a f (by omega) (by omega) 2
 ·have m:=a.n' (a.core.ended f v g)
  have d:((({(K.az (.ai id k) 0 v).fB (.ai id k)with table:=(gj ((K.az (.ai id k) 0 v).fB (.ai id k)).table id v).2}:KS)).W i).slot=id:=p;have c:=Inv.ended (C:=C) m (by omega) (i:=i) o (by rw[d];exact j);rw[d]at c;exact c.more (Nat.le_refl _) (Nat.le_succ _)
theorem Af(id op:Int)(S:aA×List Ev)(kind a c v:Int)(b:b' S.1/\S.2.length<=M)(g:aI v):(b' (bE C K id op S kind a c v).2.1/\(bE C K id op S kind a c v).2.2.length<=M+1)/\∀x,(bE C K id op S kind a c v).1=some x->aI x:=by
 unfold bE;split
 ·exact⟨⟨b.1,Nat.le_succ_of_le b.2⟩,fun x e=>by cases e⟩
 ·dsimp only
  have d:=b.1.acc kind (IntKind.u64.wrap (IntKind.u64.wrap (eV K)+a)) c v g;split
  ·exact⟨⟨d.1,Nat.le_succ_of_le b.2⟩,fun x e=>by cases e⟩
  ·rename_i held f
   refine⟨⟨(d.1.acc 0 _ 0 0 bm).1,?_⟩,fun x e=>by rw[<-Option.some.inj e];exact d.2 held f⟩;rw[List.length_append];have:=b.2;simp;omega
theorem uD{x:aR}{n:Int}(h:eB x n false=true):x.op<=22/\(x.op=22->x.v<1000):=by
 unfold eB mi j7 at h;simp only[Bool.and_eq_true]at h;obtain⟨⟨⟨_,b⟩,⟨_,a⟩⟩,_⟩:=h;refine⟨?_,fun e=> ?_⟩
 ·have:x.op<=22/\x.m=0:=by simpa using b
  exact this.1
 ·unfold ry at a
  rw[if_neg (by omega),if_pos e]at a;simpa using a
theorem pN(d:mU C)(h:Inv N M K){id:Int}{t:Thread}(m:aw K.ai id=some t){k:Nat}(i:k<t.l.length)(op:Int):Inv N (M+1) (({K with mem:=(a' (bE C K id op) C.a8 (K.F (.ai id k)) (K.mem,K.out)).2.2.1,out:=(a' (bE C K id op) C.a8 (K.F (.ai id k)) (K.mem,K.out)).2.2.2}:KS).cJ (.ai id k) (a' (bE C K id op) C.a8 (K.F (.ai id k)) (K.mem,K.out)).2.1)/\
 ((a' (bE C K id op) C.a8 (K.F (.ai id k)) (K.mem,K.out)).1=0∨(a' (bE C K id op) C.a8 (K.F (.ai id k)) (K.mem,K.out)).1=1∨(a' (bE C K id op) C.a8 (K.F (.ai id k)) (K.mem,K.out)).1=2∨(a' (bE C K id op) C.a8 (K.F (.ai id k)) (K.mem,K.out)).1=3)/\
 ((a' (bE C K id op) C.a8 (K.F (.ai id k)) (K.mem,K.out)).1=1->(ff C.a8 (K.F (.ai id k)).pc).op=22/\0<=(ff C.a8 (K.F (.ai id k)).pc).v/\(ff C.a8 (K.F (.ai id k)).pc).v<1000):=by
 have u:ak K (.ai id k):=⟨t,m,i⟩;have l:=sG (Q:=fun S:aA×List Ev=>b' S.1/\S.2.length<=M) (Q':=fun S:aA×List Ev=>b' S.1/\S.2.length<=M+1) (bE C K id op) (fun S kind a z v b y=>Af id op S kind a z v b y) (fun S b=>⟨b.1,Nat.le_succ_of_le b.2⟩) C.a8 d.pv (K.F (.ai id k)) (h.lS u) (K.mem,K.out) ⟨h.mem,h.out⟩;obtain⟨s,x⟩:=nm (a' (bE C K id op) C.a8 (K.F (.ai id k)) (K.mem,K.out));rw[x]at l⊢;obtain⟨n,g,o,p,q⟩:=l;refine⟨?_,o,fun e=> ?_⟩
 ·have r:Inv N (M+1) ({K with mem:=s.2.2.1,out:=s.2.2.2}:KS):=⟨h.core,h.nd,h.q,h.b0,h.bH,g.1,h.obj,h.draw,h.w0,h.w1,g.2⟩
  exact r.cJ (c:=.ai id k) ⟨t,m,i⟩ n
 ·have j:=(p (Or.inr e)).2
  have w:=uD (d.FH _ j);have A:=(q e).1;have f:(ff C.a8 (K.F (.ai id k)).pc).op=22:=by omega
  exact⟨f,(d.pv _ j).1,w.2 f⟩
theorem uE(o:mU C)(h:Inv N M K)(f:N<=800000){i:Nat}(p:i<K.wk.length){id:Int}{t:Thread}(n:aw K.ai id=some t)(u:(K.W i).slot=id)(e:id≠0)(y:t.l.length%2=1){k:Nat}(w:k+1=t.l.length):Inv N (M+4) (bV C K i id k):=by
 unfold bV;dsimp only;have l:=pN o h n (k:=k) (by omega) (ff C.a8 (K.F (.ai id k)).pc).op;obtain⟨s,r⟩:=nm (a' (bE C K id (ff C.a8 (K.F (.ai id k)).pc).op) C.a8 (K.F (.ai id k)) (K.mem,K.out));rw[r]at l⊢;obtain⟨a,_,_⟩:=l;obtain⟨t1,b,x,_⟩:=dO (K:=({K with mem:=s.2.2.1,out:=s.2.2.2}:KS)) (k:=k) (id:=id) n s.2.1;obtain⟨K1,c⟩:=nm (({K with mem:=s.2.2.1,out:=s.2.2.2}:KS).cJ (.ai id k) s.2.1);have j:i<K1.wk.length:=by rw[<-c];exact p
 have m:(K1.W i).slot=id:=by rw[<-c];exact u
 rw[c]at a b⊢;have g:ak K1 (.ai id k):=⟨t1,b,by omega⟩;split
 ·obtain⟨t2,v,z,_⟩:=dO (K:=K1) (k:=k) b {K1.F (.ai id k)with pc:=wrap64 ((K1.F (.ai id k)).pc+1)}
  exact(sM (k' a g) v (by omega) (by omega) _).more (Nat.le_refl _) (by omega)
 ·split
  ·split
   ·rename_i q
    have d:=a.dg b;rw[KS.dk b];exact Inv.more (N:=N) (M:=M+1) (a.cn b ⟨d.id,d.eU,d.l.take _ q⟩) (Nat.le_refl _) (by omega)
   ·exact(sN a f j b m e (by omega) (by omega) _ ((a.lS g).r 0 (by omega))).more (Nat.le_refl _) (by omega)
  ·split
   ·exact sN (a.tell _) f (K:=tell K1 _) j b m e (by omega) (by omega) _ ⟨by decide,by decide⟩
   ·exact a.more (Nat.le_refl _) (by omega)
theorem Ag(g:mU C)(h:Inv N M K)(j:N<=800000){i:Nat}(a:i<K.wk.length):Inv (N+1) (M+4) (eY C K i):=by
 unfold eY;split
 ·exact(Cp g h j a).more (Nat.le_refl _) (by omega)
 ·rename_i d
  dsimp only;obtain⟨t,c⟩:=h.core.k6 (KS.gY a) d;have m:=h.dg c;have k:K.top (K.W i).slot=t.l.length-1:=by unfold KS.top;rw[KS.dk c]
  have s:=m.l.n0;obtain⟨f,n⟩:∃f,t.l[t.l.length-1]?=some f:=⟨_,List.getElem?_eq_getElem (by omega)⟩;have r:(K.T (K.W i).slot).l.getD (K.top (K.W i).slot) default=f:=by rw[KS.dk c,k,List.getD_eq_getElem?_getD,n];rfl
  have e:=m.l.b7 _ f n;rw[r];split
  ·exact(h.k7 a d).more (Nat.le_succ _) (by omega)
  ·have q:=h.gz a
   have l:Inv N M (K.be i {K.W i with left:=max ((K.W i).left-1) 0}):=h.be a rfl rfl ⟨q.f,by show 0<=max ((K.W i).left-1) 0;omega,by have:=q.l1;show max ((K.W i).left-1) 0<=24;omega⟩;have o:i<(K.be i {K.W i with left:=max ((K.W i).left-1) 0}).wk.length:=(by rw[bF];exact a);have p:((K.be i {K.W i with left:=max ((K.W i).left-1) 0}).W i).slot=(K.W i).slot:=(by rw[gM a]);split
   ·rename_i b
    rw[b]at e;have:(t.l.length-1)%2=1:=(by simpa using e.symm);exact(sL g l j o c p d (by omega) (by rw[k];omega)).more (Nat.le_refl _) (by omega)
   ·rename_i b
    have b:f.b7=false:=(by simpa using b);rw[b]at e;have:(t.l.length-1)%2≠1:=(by simpa using e.symm);exact(uE g l j o c p d (by omega) (by rw[k];omega)).more (Nat.le_succ _) (Nat.le_refl _)
theorem sO(h:Inv N M K)(id:Int):Inv N M (cD K id):=by
 rw[kj];have a:=(h.kl (h.q.drop id)).hh (id:=id) 110 ⟨by decide,by decide⟩;split
 ·rename_i b
  rw[lT]at b;obtain⟨⟨t,c⟩,d⟩:=a.core.zX b;exact a.toRing c d
 ·exact a
theorem oj:∀(l:List Int) (K:KS),Inv N M K->Inv N M (l.foldl cD K)
 |[],_,h=>h
 |x::l,K,h=>oj l _ (sO h x)
theorem Ah(h:Inv N M K):Inv N (M+1) (ha K):=by
 unfold ha;dsimp only;exact oj _ _ ((h.uy h.b0.tick.1).tell _)
theorem jl(c:mU C)(h:Inv N 0 K)(d:N<=800000)(kind wk draw:Int)(e:aI draw):Inv (N+1) 0 (fk C K kind wk draw).2:=by
 have a:∀w,Inv N 0 ({K with at_:=K.entries,w:=w,draw:=draw,entries:=wrap64 (K.entries+1)}:KS):=fun w=>⟨h.core,h.nd,h.q,h.b0,h.bH,h.mem,h.obj,e,h.w0,h.w1,h.out⟩
 have b:∀{M:Nat} {K':KS},Inv (N+1) M K'->Inv (N+1) 0 ({K' with out:=[]}:KS):=fun h=>⟨h.core,h.nd,h.q,h.b0,h.bH,h.mem,h.obj,h.draw,h.w0,h.w1,Nat.le_refl _⟩
 unfold fk;dsimp only;split
 ·exact b ((Ah (a (-1))).more (Nat.le_succ _) (Nat.le_refl _))
 ·split
  ·split
   ·rename_i f
    exact b (Ag c (a wk) d (i:=wk.toNat) (by have:=f.2;show wk.toNat<K.wk.length;omega))
   ·exact b ((a (-1)).more (Nat.le_succ _) (Nat.le_refl _))
  ·exact b ((a (-1)).more (Nat.le_succ _) (Nat.le_refl _))
end
end
section
section
variable{w w':World}{χ:Nat->aX}{L:cz}{Y:Var}{C:KC}{K:KS}
theorem lX{N M:Nat}(G:mU C)(W:Inv N M K)(cs:N<=600000)(cr:M<=600000)(i:Nat)(a0:i<K.wk.length)(id:Int)(t:Thread)(x:aw K.ai id=some t)(k:Nat)(c2:k+1=t.l.length)(c3:t.l.length%2=1)(v:Int)(ad:aI v)(h:ae w χ L Y C K):
 Calls prog 147 #[(L.mb,0),(L.wb,i*38),(Y.bH id,0),(Y.fb id k,0),.int .u64 v] w (r9 (.tuple #[]) χ L C (eX C K i id k v) w):=by
 have g:ak K (.ai id k):=⟨t,x,by omega⟩;obtain⟨b,hb⟩:=nm (Y.fb id k);obtain⟨tb,P⟩:=nm (Y.bH id);have q:aS L Y (.ai id k) b 0:=⟨hb.symm,rfl⟩;rw[hb,P];obtain⟨cA,cm,l⟩:=h.a9 g q 0 (by omega) v;obtain⟨K1,d⟩:=nm (K.az (.ai id k) 0 v);have H:Inv N M K1:=by rw[<-d];exact W.az g 0 v ad
 have I:Gr K K1:=by rw[<-d];exact bu g _
 have Q:K1.wk.length=K.wk.length:=by rw[<-d];exact bq _ _
 obtain⟨t1,ab,c4,_⟩:∃o,aw K1.ai id=some o/\o.l.length=t.l.length/\o.id=t.id:=by rw[<-d];exact dO x _
 rw[d]at l;obtain⟨j,D⟩:=l.cur g q I Q;obtain⟨al,B,F⟩:=l.at_.qI j D (wrap64 ((K1.F (.ai id k)).pc+1));obtain⟨a,f⟩:=nm (K1.fB (.ai id k));have c:Inv N M a:=by rw[<-f];exact H.cJ j ((H.lS j).pc _)
 have c1:Gr K1 a:=by rw[<-f];exact bu j _
 have z:a.wk.length=K1.wk.length:=by rw[<-f];exact bq _ _
 obtain⟨t2,n,c5,_⟩:∃o,aw a.ai id=some o/\o.l.length=t1.l.length/\o.id=t1.id:=by rw[<-f];exact dO ab _
 have c0:K1.cJ (.ai id k) {K1.F (.ai id k)with pc:=wrap64 ((K1.F (.ai id k)).pc+1)}=a:=f;rw[c0]at F;clear c0;have ck:w.cell? (b,1)=some (.int .u64 ((K.F (.ai id k)).r 0)):=h.aC g q 0 (by omega);have f0:=h.hg g q 1;have T:=l.at_.uh j D;have f1:=l.at_.hg j D 0;obtain⟨pc,a2⟩:=nm ((K1.F (.ai id k)).pc);rw[a2]at T F;have A:=l.trans I F;have R:B.bH id=tb:=((A.yk id t x).1).trans P;have S:B.fb id k=b:=((A.yk id t x).2 k (by omega)).trans hb;have m:Hid (dJ χ L Y C K a w al B ((w.setCell (b,1) (.int .u64 v)).setCell (b,0) (.int .i64 (wrap64 (pc+1))))):=Z A;have p1:(w.setCell (b,1) (.int .u64 v)).cell? (b,0)=some (.int .i64 pc):=T;have f2:(w.setCell (b,1) (.int .u64 v)).frozen? (b,0)=false:=f1;obtain⟨r,O⟩:∃r,C.rows[2]?=some r:=⟨_,List.getElem?_eq_getElem (by rw[G.Eh];omega)⟩;have bw:((w.setCell (b,1) (.int .u64 v)).setCell (b,0) (.int .i64 (wrap64 (pc+1)))).cell? (L.mb,9)=some (.int .i64 r):=A.at_.D1 O;have a3:C.rows.getD 2 0=r:=by rw[List.getD_eq_getElem?_getD,O];rfl
 have av:Hid (eX C K i id k v=if 0<r then g9 C a id k 2 else mQ C {a with table:=(gj a.table id v).2} i id):=Z (by unfold eX;dsimp only;rw[d,f,a3]);have J:=(c.dg n).id;have y:=(c.Eg (by omega) n).1;have a1:i<a.wk.length:=by rw[z,Q];exact a0
 have ax:=Z (And.intro R S);by_cases s:0<r
 ·have ci:decide (0<r)=true:=by simpa using s
  have E:Hid (eX C K i id k v=g9 C a id k 2):=Z (by rw[av,if_pos s]);have ap:=Z (fun w (h:ae w al L B C a)=>pM G c (by omega) (by omega) id t2 n k (by omega) (by omega) 2 (by decide) (by decide) h);rw[R,S]at ap;clear h g q hb P W G l d H I Q ab c4 j D F f c c1 z n c5 A R S O a3 J y a1 x c2 c3 a0 a2 T f1 s ad;go_in
  go_wp2_with fail
  with_reducible refine(ap.out _ m.out.at_).mono ?_
  rintro e w3 ⟨rfl,c9,V,p,c7⟩;have bi:=Z (And.intro p (m.nx.trans c7));clear p c7;go_wp2
  go_end0
  rw[E];exact⟨rfl,c9,V,bi.1,bi.2⟩
 ·have ci:decide (0<r)=false:=by simpa using s
  have E:Hid (eX C K i id k v=mQ C {a with table:=(gj a.table id v).2} i id):=Z (by rw[av,if_neg s]);have cd:=Z (fun w (h:ae w al L B C a)=>qF id v y h);have cb:=Z (fun(w:World) (χ:Nat->aX) (Y:Var) (h:ae w χ L Y C ({a with table:=(gj a.table id v).2}:KS))=>sa (K:=({a with table:=(gj a.table id v).2}:KS)) i a1 id t2 n J y (c.b0.ok (by omega)) (c.bH.ok (by omega)) (by show a.out.length<=800000;have:=c.out;omega) h);have U:=Z (And.intro n J);clear h g q hb P W G l d H I Q ab c4 j D F f c c1 z n c5 A R S O a3 J y a1 x c2 c3 a0 a2 T f1 s ad;go_in
  go_wp2
  obtain⟨w2,z⟩:=nm (((w.setCell (b,1) (.int .u64 v)).setCell (b,0) (.int .i64 (wrap64 (pc+1)))));rw[z]at m bw⊢;clear z ck f0 p1 f2 bw;have ch:=m.at_.gv U.1;rw[ax.1,U.2]at ch;have cq:=m.at_.ea;go_still_tail 9,(by kernel_rfl)
  change wpList _ _ _ _ _ w2.drew;go_wp2_with fail
  with_reducible refine(cd.out _ m.out.at_.drew).mono ?_
  rintro e w3 ⟨⟨u,rfl,y⟩,c9,V,p⟩;have am:=Z p;have c6:V.bH id=tb:=((p.yk id t2 U.1).1).trans ax.1;have ce:=Z c6;clear p c6 y;go_wp2_with fail
  have X:=cb _ _ _ am.at_;rw[ce]at X;with_reducible refine X.mono ?_
  clear X;rintro e w4 ⟨rfl,cl,cf,bx,c8⟩;have bv:=Z (And.intro bx ((m.nx.trans ((Nx.af (Ch.refl _ w2).drew).trans am.nx)).trans c8));clear bx c8;go_wp2
  go_end0
  rw[E];exact⟨rfl,cl,cf,bv.1,bv.2⟩
end
end
end Go.Proofs.YtfnilkpkogipfaaGreatDoor
