import Derived.RangeFuncBox
import Derived.Laws.AppendOwnNone
import Derived.Test.YtfnilkpkogipfaaGreatDoorZBy
set_option linter.all false
set_option maxRecDepth 100000
set_option maxHeartbeats 8000000
namespace Go.Proofs.YtfnilkpkogipfaaGreatDoor
open Go.RowKit Go.Proofs.Tryz
def fL(a:List ak):List Int:=a.flatMap fun x=>[x.slot,x.hand]
theorem xH(a:List ak):(fL a).length=2*a.length:=by
 unfold fL
 induction a with
 |nil=>rfl
 |cons x l ih=>simp only[List.flatMap_cons,List.length_append,List.length_cons,List.length_nil,ih];omega
theorem ur(a:List ak)(k:Nat)(x:ak)(h:a[k]?=some x):fL (a.take (k+1))=fL (a.take k)++[x.slot,x.hand]:=by
 have d:=(List.getElem?_eq_some_iff.1 h);obtain⟨b,c⟩:=d;rw[List.take_succ_eq_append_getElem b,c];unfold fL;simp
theorem Ae(a:List ak)(ring:List Int)(id:Int):(fL a++ring).countP (fun x=>x==id)=ea a ring id:=by
 have h:(fL a).countP (fun x=>x==id)=hz a id+nH a id:=by
  unfold fL hz nH
  induction a with
  |nil=>rfl
  |cons x l ih=>
   simp only[List.flatMap_cons,List.countP_append,List.countP_cons,List.countP_nil,ih];omega
 rw[List.countP_append,h];rfl
theorem Dy{Z:List Int}{a b:Nat}{x:Int}(c:Z[a]?=some x)(hb:Z[b]?=some x)(d:b<a):2<=Z.countP (fun y=>y==x):=by
 rw[<-List.take_append_drop a Z,List.countP_append];have e:0<(Z.take a).countP (fun y=>y==x):=List.countP_pos_iff.2 ⟨x,List.mem_of_getElem? (i:=b) (by rw[List.getElem?_take_of_lt d];exact hb),by simp⟩;have f:0<(Z.drop a).countP (fun y=>y==x):=List.countP_pos_iff.2 ⟨x,List.mem_of_getElem? (i:=0) (by rw[List.getElem?_drop];simpa using c),by simp⟩;omega
theorem Af{N M:Nat}{K:KS}(h:Inv N M K){a b:Nat}{x:Int}(d:(fL K.wk++K.ring)[a]?=some x)(hb:(fL K.wk++K.ring)[b]?=some x)(f:b<a):x=0:=by
 by_cases e:x=0
 ·exact e
 ·have c:=Dy d hb f
  rw[Ae]at c;have:=h.core.one x e;omega
section
attribute [local go_sem] Oper.semAt_some
def BN(b:Nat)(a:World)(k:Nat):Prop:=∃v,Boxed a b 29 v/\v.ownBlock=some k
structure BO(lc:Nat)(A B:World):Prop where
 size:A.heap.size<=B.heap.size
 same:∀k o,A.heap[k]?=some o->o.isCells=true->k≠lc->¬BN lc A k->B.heap[k]?=some o
 own:∀k,BN lc B k->BN lc A k∨A.heap.size<=k
theorem oB{a:World}{k:Nat}{b:Obj}(h:a.heap[k]?=some b):k<a.heap.size:=(Array.getElem?_eq_some_iff.1 h).1
theorem BO.trans{b:Nat}{c B C:World}(h:BO b c B)(a:BO b B C):BO b c C where
 size:=Nat.le_trans h.size a.size
 same:=fun k j d i f g=>a.same k j (h.same k j d i f g) i f fun e=>(h.own k e).elim g fun e=>by have:=oB d;omega
 own:=fun k e=>(a.own k e).elim (fun e=>h.own k e) fun e=>Or.inr (by have:=h.size;omega)
theorem BO.put{d:Nat}(a:World)(l:Nat)(f g:Obj)(i:l≠d)(h:a.heap[l]?=some f)(j:f.isCells=false):BO d a (a.putObj l g) where
 size:=by show _<=(a.heap.setIfInBounds l g).size;rw[Array.size_setIfInBounds];exact Nat.le_refl _
 same:=fun k n b c _ _=>by
  by_cases e:k=l
  ·subst e;rw[h]at b;cases b;rw[j]at c;cases c
  ·exact(World.putObj_heap_other e).trans b
 own:=fun k ⟨v,m,e⟩=>Or.inl ⟨v,(World.putObj_heap_other (fun e=>i e.symm)).symm.trans m,e⟩
def Fb(b:Nat)(a:World)(k:Nat):Prop:=(∃c,a.heap[k]?=some c/\c.isCells=true)/\k≠b/\¬BN b a k
theorem Es(g:Nat):A9 (BO g) (Fb g):=⟨fun {i B k} h ⟨⟨f,a,b⟩,c,d⟩ j=>
 ⟨(h.same k f a b c d).trans a.symm,⟨f,h.same k f a b c d,b⟩,c,fun e=>(h.own k e).elim d fun e=>by omega⟩⟩
theorem jo{F:Fence}{n:Nat}{P:Program}(w:World){ops:Array Oper}{rest:List Oper}{b:Oper}{a:Act}{Q:Exit->Act->World->Prop}
 (N:b.guard=none) (s x:Operand) (t:TypeId) (f:b.op=Op.call {callee:=Callee.builtin Builtin.append,args:=#[s,x],argTypes:=#[t,t]})
 (base:Nat) (e:TypeId) (i:TypeInfo) (z:Value) (size bytes:Nat) (q:P.underlying t=some (.slice e)) (y:P.info? e=some i) (A:i.zero=some z) (B:i.size=size) (D:i.bytes=bytes) (E:z.cells.size=size) (G:0<size)
 (v:Value) (k:Nat) (h:List Value) (U:a.eval s=v) (S:w.ownsRow base e size v k h) (d:Addr) (m c:Nat) (news:List Value) (V:a.eval x=.slice (some d) m c) (R:news.length=m*size)
 (J:∀j u,news[j]?=some u->w.cell? (d.add j)=some u) (r:∀u∈news,u.oneCell'=true) (O:0<m) (l:k+m<=maxLen) (o:(k+m)*bytes<=140737488355328) (p:base<=w.heap.size)
 (H:∀g cap w',w'.ownsRow base e size (.slice (some ⟨g,0,none⟩) (k+m) cap) (k+m) (h++news)->w.grownBy w' v.ownBlock->(v.ownBlock=some g∨g=w.heap.size)->wpListIn F n P ops Q rest (a.put b.dst (.slice (some ⟨g,0,none⟩) (k+m) cap)) w'):
 wpListIn F n P ops Q (b::rest) a w:=by
 refine wpListIn_plain N fun K I=> ?_
 obtain⟨g,cap,w',T,W,X,Z,-⟩:=run_append_lies (P:=P) w t b.type base e i z size bytes q y A B D E G v k h S d m c news R J r O l o p _ rfl;unfold Oper.wpIn;refine⟨?_,?_⟩
 ·simp[Oper.about,f,resolve,Target.leads,Sem.run_pure]
 ·rw[Oper.semAt_plain F _ _ (by rw[f];intro c M;cases M)]
  simp[execOp,f,resolve,invoke,builtin,U,V,T,Result.andThen];exact I _ _ (H g cap w' W X Z)
structure Ah(l:List Int)(w:World)(e:Ending)(w':World):Prop where
 ret:∃v,e=.returned v/\w'.ownsRow w.heap.size 56 1 v l.length (l.map (Value.int .u64))
 ch:Ch ag w w'
section
variable{w:World}{χ:Nat->a4}{L:cw}{Y:Var}{C:KC}{K:KS}
theorem xI(h:ae w χ L Y C K):Calls prog 22 #[.pointer (some ⟨L.mb,0,none⟩)] w (Ah K.ring w):=by
 obtain⟨b,B⟩:=nm w.heap.size;obtain⟨w1,Q⟩:=nm (w.alloc (.cells #[.slice none 0 0] 29));have a1:Hid (Boxed w1 b 29 (.slice none 0 0)):=Z (by rw[<-Q,<-B];exact Boxed.new _ _ _);have g:Hid (Ch ag w w1):=Z (Ch.al Q);have J:=Z (h.af g);have al:Hid (w1.heap.size=b+1):=Z (by rw[<-Q,<-B];simp);have cd:=J.nr;have c0:=(J.ring (by simp)).is;obtain⟨cb,W,c7,c8,c9⟩:=info_parts jt;have ab:=Z W;clear W c0;refine dW func22 rfl ?_;simp only[ntmps22,List.size_toArray,List.length_cons,List.length_nil,Nat.reduceAdd,Nat.reduceSub,Array.replicate_succ,Array.replicate_zero,List.push_toArray,List.append_toArray,List.nil_append,List.cons_append];go_wp2_with fail
 refine(me L.rb w1).mono ?_;rintro e w4 ⟨rfl,t⟩;have j:Hid (Ch ag w1 w4):=Z (Ch.al t);have ad:Hid (Row w4 w1.heap.size 132 [.pointer (some ⟨L.rb,0,none⟩)]):=Z (Row.al t);have R:Hid (Boxed w4 b 29 (.slice none 0 0)):=Z (by rw[<-t];exact a1.alloc _);have u:Hid (w4.heap.size=b+2):=Z (by rw[<-t];simp[al.out]);have T:=Z (J.af j);clear t cd;go_wp2_with fail
 have X:=kD (5-1) (by omega) w1.heap.size L.rb L.rg K.ring (Es b) w4 (ad.cell (i:=0) rfl) (T.ring (by simp)).is (fun a U k G hb O P M N=>by
  have c4:=hb.size;have c6:Boxed U b 29 (.slice none 0 0):=((show Row w4 b 29 [.slice none 0 0]from R.out).ch (Ch.bY hb) (fun h=>h)).ch O (fun h=>h);refine⟨⟨G,M,N⟩,by rw[u]at c4;omega,fun⟨v,f,e⟩=> ?_⟩;have:=(show U.heap[b]?=_ from f).symm.trans c6;simp at this;subst this;simp[Value.ownBlock]at e)
 refine(wpIn_wide (n:=5)).1 ?_;apply wpIn_rangeFunc_ownG (F:=Fence.wide) (n:=5) rfl (by omega) (gf:=114) (lb:=#[.pointer (some ⟨w1.heap.size,0,none⟩)]) rfl trivial (enters_of func114 (by kernel_rfl) rfl) X (fun h k=>BO.trans h k) (fun a l G ce bv M N _=>BO.put a l G ce (by rw[u]at bv;omega) M N) (Below.refl _ _) (fun _=>rfl)
  (fun pre a=>Below w.heap.size w4 a/\∃v,Boxed a b 29 v/\a.ownsRow b 56 1 v pre.length (pre.map fun p=>Value.int .u64 p.2)/\True) (fun c pre a=>False)
  (OwnFrom.and (ownFrom_below (by have:=g.size;have:=j.size;omega) (by have:=g.size;have:=j.size;omega)) ((holdsRow_own b b 29 56 1 (fun pre:List (Nat×Int)=>pre.length) (fun pre=>pre.map fun p=>Value.int .u64 p.2) (fun _ _=>True)).from _))
  (fun c=>fun _ _ _ _ h _ _=>h)
  ⟨Below.refl _ _,_,R,⟨by simp,Or.inl ⟨rfl,rfl⟩⟩,trivial⟩
 ·intro l x a K o
  gi_wp2
  exact o
 ·rintro l pre ⟨cL,ch⟩ a ⟨m,v,f,d,-⟩ hlen
  have cA:=m.size;have cm:K.ring.length<=64:=by obtain⟨cs,fr,O,-⟩:=(T.ring (by simp)).is;exact O.hn
  have am:=f.cell;have fb:=f.frozen;have I:=Z f;have S:=Z d;have a2:=Z m
  gi_wp2_with (first|(gi_at_builtin;refine jo _ rfl _ _ 29 rfl b 56 cb (.int .u64 0) 1 8 underlying29 ab c7 c8 c9 rfl (by decide) _ _ _ rfl (S.alloc _) ⟨a.heap.size,0,none⟩ 1 1 [.int .u64 ch] rfl rfl (cell_one_new _ _ _) (by simp[Value.oneCell']) (by omega) (by unfold maxLen;omega) (by omega) (by have:=u.out;simp;omega) ?_;intro ap ck cC c3 r z;obtain⟨a0,q,E,s,A⟩:=I.appended (by decide) S (by have:=u.out;omega) (Nat.le_refl _) c3 r;have ci:=a0.cell;have f3:=a0.frozen;have y:=Z (And.intro q (And.intro E (And.intro s A)));have a3:=Z (And.intro r z);clear r z q E s A))
  obtain⟨q,E,s,A⟩:=y.out;obtain⟨r,z⟩:=a3.out;refine⟨s.from _,⟨s.size,fun k G P cq c1 c2=> ?_,fun k ⟨cf,c5,e⟩=> ?_⟩,⟨(show Below b w4 a from B▸a2).trans A,_,q,?_⟩⟩
  ·have bi:=oB P
   refine(Below.heap_setCell _ _ _ k (fun e=>c1 e)).trans ((r.block k (by simp;omega) (fun e=>c2 ⟨v,I,e.symm⟩)).trans ((heap_alloc_old _ _ _ bi).trans P))
  ·have:=(show _=some (Obj.cells #[cf] 29 (0,0))from c5).symm.trans q
   simp at this;subst this;obtain rfl:ap=k:=by simpa[Value.ownBlock]using e
   rcases z with h|h
   ·exact Or.inl ⟨v,I,h⟩
   ·exact Or.inr (by rw[h];simp)
  ·simpa using E
 ·rintro D cQ a V rfl ⟨m,v,f,d,-⟩ o
  have am:=f.cell;have H:=Z o;have y:=Z (And.intro m d);clear X m o d;go_wp2_with fail
  refine⟨by simp,.inl ⟨_,_,rfl,run_takeDeferred H,?_⟩⟩;refine⟨_,results_tmp rfl _ _ _,?_⟩;have d:=ownsRow_putObj y.2 (.deferred none) H rfl;rw[o6]at d;have av:Below w.heap.size w (a.putObj D (.deferred none)):=(((g.trans j).gU).trans y.1).trans (belowK_b (w:=w4) (by have:=g.size;have:=j.size;omega) a D (.deferred (some [])) (.deferred none) V H rfl rfl);have bw:(gg K.ring K.ring.length).map (fun p=>Value.int .u64 p.2)=K.ring.map (Value.int .u64):=by
   have:=congrArg (List.map (Value.int .u64)) (lx K.ring (Nat.le_refl _));rw[List.map_map,List.take_length]at this;exact this
  rw[bw]at d;exact⟨⟨_,rfl,by rw[B];exact d⟩,Ch.bY av⟩
 ·rintro D c pre a V cl hF o
  exact hF.elim
end
end
section
section
variable{w:World}{χ:Nat->a4}{L:cw}{Y:Var}{C:KC}{K:KS}
theorem sP(i:Nat)(f:i<K.wk.length)(h:ae w χ L Y C K):
 Calls prog 21 #[(L.mb,0),.int .i64 i] w (dt (.tuple #[.agg #[.int .u64 (K.W i).slot,.int .u64 (K.W i).hand,.bool (K.W i).parked,.int .i64 (K.W i).f.pc,.int .i64 (K.W i).left],.bool true]) w):=by
 have H:=Z h;have m:=h.p7;have l:=h.ky f;have n:=h.e7 f;have F:(i:Int)<K.wk.length:=by omega
 have o:=h.qa f;have p:=h.yM f;have q:=h.ry f 4 (by omega) rfl;have u:L.mb<w.heap.size:=aE m;have x:L.wb<w.heap.size:=aE l;clear h;go_enter func21,ntmps21
 go_wp2_with fail
 obtain⟨w1,g⟩:=nm (w.alloc (.cells #[.int .u64 0,.int .u64 0,.bool false,.int .i64 0,.int .i64 0] 67));obtain⟨a,k⟩:=nm w.heap.size;have c:Hid (Row w1 a 67 [.int .u64 0,.int .u64 0,.bool false,.int .i64 0,.int .i64 0]):=Z (by rw[<-g,<-k];exact Row.new _ _ _);have d:=Z (Ch.al (D:=ag) g);have t:=Z k;have t0:=d.k l;have t1:=d.k n;have t2:=d.k o;have t3:=d.k p;have t4:=d.k q;rw[g,k];clear g k l n o p q m u x;obtain⟨x0,x1,x2,x3,x4⟩:=c.c5;have f0:=c.free 0;have f1:=c.free 1;have f2:=c.free 2;have f3:=c.free 3;have f4:=c.free 4;refine wp_region_still_tail 22 (by kernel_rfl) (by kernel_rfl) ?_;simp only[List.take_succ_cons,List.take_zero,List.drop_succ_cons,List.drop_zero]
 repeat still_step
 try refine wpStill_nil ?_
 change wpList _ _ _ _ _ w1.drew;go_wp2_with fail
 obtain⟨w4,j⟩:=nm ((((((w1.setCell (a,0) (.int .u64 (K.W i).slot)).setCell (a,1) (.int .u64 (K.W i).hand)).setCell (a,2) (.bool (K.W i).parked)).setCell (a,3) (.int .i64 (K.W i).f.pc)).setCell (a,4) (.int .i64 (K.W i).left)).drew);have s:Hid (Row w4 a 67 [.int .u64 (K.W i).slot,.int .u64 (K.W i).hand,.bool (K.W i).parked,.int .i64 (K.W i).f.pc,.int .i64 (K.W i).left]):=Z (by rw[<-j];exact(((((c.set 0 _).set 1 _).set 2 _).set 3 _).set 4 _).drew);have r:Hid (Ch (aK a) w1 w4):=Z (by rw[<-j];exact((((((Ch.refl _ _).only _ _).only _ _).only _ _).only _ _).only _ _).drew);rw[j];clear j;obtain⟨y0,y,z,A,B⟩:=s.c5;refine bodyPost_ret (v:=.tuple #[.agg #[.int .u64 (K.W i).slot,.int .u64 (K.W i).hand,.bool (K.W i).parked,.int .i64 (K.W i).f.pc,.int .i64 (K.W i).left],.bool true]) ?_ rfl ?_
 ·simp[results,Tryz.f21,go_sem,y0,y,z,A,B]
 ·exact⟨rfl,d.fresh r (fun b hb e=>by have E:b=a:=e;have:=t.out;omega)⟩
end
end
theorem BP(P:fc)(hu:iy P)(p:Value)(wk ap:Int)(l:List Int)(v:Value)(w:World)(cL:fF w w.heap.size p P)(ii:iA w w.heap.size v 1 (fun x=>[.int .u64 x]) l)(i3:∀x∈l,aH x)
 (i5:w.cell? (0,0)=some (.iface 335 (.agg #[(1,40)]))):
 Calls prog 5 #[.agg #[wk,ap],p,v] w (zz w):=by
 obtain⟨C,ok,nw,tt,i9⟩:=Dx P hu p wk ap w cL i5;have m:=Z i9;obtain⟨a0,n0,a1,n1,a2,n2,a3,n8,rfl⟩:=uq cL;obtain⟨mn,hi⟩:=nm P.cV;obtain⟨mp,hl⟩:=nm P.first.length;obtain⟨ms,hm⟩:=nm P.others.length;obtain⟨mA,hn⟩:=nm P.once.length;obtain⟨pl,k1⟩:=nm P.kV;rw[hi,hl,hm,hn,k1]at m⊢;have eS:=Z ii;have li:=Z i3;obtain⟨mL,ni,rfl,-,-⟩:=ii;obtain⟨nd,J⟩:=nm w.heap.size;have r5:=Z J;clear cL i5 i3 i9 hi hl hm hn k1 hu;obtain⟨N,hf⟩:=nm l.length;rw[hf]at eS⊢;clear hf;go_enter func5,ntmps5
 go_wp2_with fail
 obtain⟨w1,c4⟩:=nm ((w.alloc (.cells #[wk,ap] 23)).alloc (.cells #[.slice a0 mn n0,.slice a1 mp n1,.slice a2 ms n2,.slice a3 mA n8,.bool pl] 28));have M:Hid (Ch ag w w1):=Z (by rw[<-c4];exact((Ch.refl _ _).alloc _).alloc _);have lb:Hid (Row w1 nd 23 [wk,ap]):=Z (by rw[<-c4,<-J];exact(Row.new w _ _).alloc _);rw[c4];clear c4 J;with_reducible refine(m.out.made _ M.out).mono ?_
 intro e w2 c1;cases ok with
 |false=>
  obtain⟨rfl,D⟩:e=.returned (.pointer none)/\Ch ag w1 w2:=by
   rcases c1 with⟨_,gr,gs⟩|⟨h,_⟩
   ·exact⟨gr,gs⟩
   ·cases h
  have Y:=Z (M.trans D);clear c1 D;go_wp2_with fail
  with_reducible refine(m.out.Fp _ Y.out).mono ?_
  rintro e F ⟨rfl,U⟩;have O:=Z (Y.trans U);clear U;go_wp2_with fail
  go_ret;exact⟨rfl,O⟩
 |true=>
  obtain⟨mb,et,rfl,it,i4,D⟩:∃mb χ,e=.returned (.pointer (some ⟨mb,0,none⟩))/\MS w2 χ mb C (hC C nw.toNat tt.toNat)/\(∀i,χ i≠ .no->w1.heap.size<=i)/\Ch ag w1 w2:=by
   rcases c1 with⟨h,_⟩|⟨_,h⟩
   ·cases h
   ·exact h
  have l1:=Z (m.ck rfl).1;have ab:=Z (And.intro it (And.intro i4 D));have Y:=Z (M.trans D);have lc:=Z (lb.ch D (fun h=>h));obtain⟨pm,pp⟩:=lc.c2;clear c1 it i4 D;go_wp2_with fail
  with_reducible refine(m.out.cf _).mono ?_
  rintro e F ⟨rfl,U⟩;have O:Hid (Ch ag w2 F):=Z U;clear U pm pp;have nq:∀o:World,(Instr.field 43 (.agg #[nw,tt]) 0).run prog o=.ok (.int .i64 nw) o:=fun o=>by kernel_rfl
  go_wp2_with fail
  clear nq;have mc:Hid (Calls prog 16 #[nw,.slice mL N ni,.int .i64 800] F (Ag nw 800 F)):=Z (uu nw m.EA.1 m.EA.2.1 800 (by omega) l li _ F (eS.ch (Y.trans O)));with_reducible refine mc.out.mono ?_
  rintro e w4 ⟨⟨S,E,rfl,c0,hw,hB⟩,hF⟩;have fn:Hid (oA w1 C nw mb F.heap.size E S et (hC C nw.toNat tt.toNat) 0 w4):=Z (by
   obtain⟨tg,th,pc,pi⟩:=tU C nw.toNat tt.toNat;have st:=m.EA.1;have B:=O.trans hF;refine⟨ab.1.af B,(m.ck rfl).2,pi,by rw[pc];omega,ab.2.1,ab.2.2.trans B,c0,fun g e=> ?_⟩;have io:=c0.lt g e;refine⟨io.2,?_⟩;cases nx:et g with
   |no=>rfl
   |_=>have gr:=ab.1.small g (by rw[nx];simp);have gs:=O.size;omega)
  have gf:=Z (And.intro hw hB);obtain⟨pu,pv,rfl⟩:=aA c0;obtain⟨I,ck⟩:∃n,S.length=n:=⟨_,rfl⟩;rw[ck]at fn⊢;have ge:=Z ck;clear c0 hw hB hF ck;go_upto_block 0 with fail
  go_cut [] (fun wc=>Ch ag w1 wc)
  case first=>
   go_wp2_with fail
   go_loopw [10] (fun j wr=>∃(i:Nat) (K:KS) (χ:Nat->a4),i<=I/\j=.int .i64 i/\oA w1 C nw mb F.heap.size (.slice pu I pv) S χ K i wr) (fun j _=>I-(intOf j).toNat)
   case atStart=>exact⟨0,_,et,by omega,rfl,fn⟩
   case round=>
    obtain⟨i,K,χ,s6,rfl,k3⟩:=hrel;have cb:=Z k3;clear k3;by_cases io:i<I
    ·have i8:i<S.length:=by have:=ge.out;omega
     have s7:i<=800:=by have:=gf.1;have:=ge.out;omega
     obtain⟨x,L⟩:∃x,S[i]?=some x:=⟨_,List.getElem?_eq_getElem i8⟩;have mk:=Z (gf.2 x (List.mem_of_getElem? L));obtain⟨g,cap,ce,y0,ql,qm⟩:=cb.yo L;injection ce with A av bi
     subst A;have s8:(i:Int)<I:=by omega
     have eC:Hid (∀o,Ch ag wr o->_):=Z (fun o c=>oA.step l1 cb c (by omega) x mk.1);clear i8 L av bi;go_wp2_with fail
     with_reducible refine(eC.out _ (Ch.refl _ _)).mono ?_
     rintro e r ⟨tm,qr,rfl,-,-,-,X⟩;obtain⟨d,gt⟩:=nm ((gM C K x.kind x.wk x.draw).2);rw[gt]at X;have fz:=Z X;obtain⟨f,ch⟩:∃n,d.wk.length=n:=⟨_,rfl⟩;have T:=Z ch;have p1:(f:Int)=nw:=by rw[<-ch];exact X.wl
     have sz:f<=64:=by have:=m.EA.2.1;omega
     obtain⟨r6,rb,ip,he,-⟩:=X.ms;have c9:=Z he;have eW:=Z ip;obtain⟨dC,i7,k5,kb,kd⟩:=info_parts jt;have c8:=Z i7;subst p1;clear X gt ch y0 ql qm eC he ip i7;go_upto_block 2 with fail
     go_cut [11] (fun E wc=>Ch ag r wc/\wc.ownsRow r.heap.size 56 1 E (2*f) ((fL d.wk).map (Value.int .u64)))
     case first=>
      go_wp2_with fail
      go_loopw [11,12] (fun E dN wr=>∃k:Nat,k<=f/\dN=.int .i64 k/\Ch ag r wr/\wr.ownsRow r.heap.size 56 1 E (2*k) ((fL (d.wk.take k)).map (Value.int .u64))) (fun _ dN _=>f-(intOf dN).toNat)
      case atStart=>exact⟨0,by omega,rfl,Ch.refl _ _,⟨by simp[fL],Or.inl ⟨rfl,rfl⟩⟩⟩
      case round=>
       obtain⟨k,s9,rfl,B,cq⟩:=hrel;have H:=Z (And.intro B cq);obtain⟨mC,ne,rfl⟩:=aA cq;clear B cq;by_cases ih:k<f
       ·have sl:(k:Int)<f:=by omega
        have md:Hid (Calls prog 21 #[.pointer (some ⟨mb,0,none⟩),.int .i64 k] wr (dt (.tuple #[.agg #[.int .u64 (d.W k).slot,.int .u64 (d.W k).hand,.bool (d.W k).parked,.int .i64 (d.W k).f.pc,.int .i64 (d.W k).left],.bool true]) wr)):=Z (by
         rw[<-eW];exact sP k (by rw[T];exact ih) (c9.af H.1))
        go_wp2_with fail
        with_reducible refine md.out.mono ?_
        rintro e qb ⟨rfl,i0⟩;have kf:=Z i0;clear i0;obtain⟨en,cW⟩:∃s,(d.W k).slot=s:=⟨_,rfl⟩;obtain⟨ec,cS⟩:∃s,(d.W k).hand=s:=⟨_,rfl⟩;have gc:=Z (And.intro cW cS);rw[cW,cS];clear cW cS;go_upto_region 17 with fail
        obtain⟨c6,c5⟩:=nm (qb.alloc (.cells #[.int .u64 en,.int .u64 ec,.bool (d.W k).parked,.int .i64 (d.W k).f.pc,.int .i64 (d.W k).left] 67));have c7:Hid (Ch ag wr c6):=Z (kf.trans (Ch.al c5));have kw:=Z (Row.al c5);rw[c5];clear c5;obtain⟨mS,mW⟩:=kw.c2;have fb:=Z (ar H.2 c7 (fun _ _ h=>h));have ov:=(H.1.trans c7).size;go_wp2_with (at_builtin;refine wpList_append_lies _ rfl _ _ _ rfl r.heap.size 56 dC _ 1 8 underlying29 c8 k5 kb kd rfl (by omega) _ (2*k) ((fL (d.wk.take k)).map (Value.int .u64)) rfl (fb.alloc _) ⟨c6.heap.size,0,none⟩ 2 2 [.int .u64 en,.int .u64 ec] rfl rfl (World.news_of_block (cs:=#[.int .u64 en,.int .u64 ec]) (t:=56) (fr:=(0,0)) (heap_alloc_new c6 _)) (by simp[Value.oneCell']) (by omega) (by unfold maxLen;omega) (by omega) (by simp;omega) (c6.heap.size+1) (by simp) ?_)
        intro rx cap ty jp W cl os;have i6:=ax W;have lm:=Z jp;have l0:=Z (iP (H.1.trans c7) fb (Nat.le_refl _) i6);clear W i6 jp cl os mS mW ov;go_wp2_with fail
        go_roundw
        case rel=>
         refine⟨k+1,by omega,by go_num,l0,?_⟩;rw[ur _ _ _ (KS.gy (K:=d) (i:=k) (by rw[T];exact ih)),gc.1,gc.2,List.map_append];exact lm
        case measure=>simp[intOf];omega
       ·obtain rfl:k=f:=by omega
        go_wp2_with fail
        go_meet
        exact⟨H.1,by have:=H.2;rwa [<-T,List.take_length,T]at this⟩
     case rest=>
      obtain⟨cm,cA⟩:=hcut;have ad:=Z (And.intro cm cA);obtain⟨mC,ne,rfl⟩:=aA cA;have lv:Hid (Calls prog 22 #[.pointer (some ⟨mb,0,none⟩)] wc (Ah d.ring wc)):=Z (by
       rw[<-eW];exact xI (c9.af cm))
      have nC:d.ring.length<=64:=by obtain⟨cs,fr,B,-⟩:=(c9.ring (by simp)).is;exact B.hn
      obtain⟨cd,ci⟩:∃n,d.ring.length=n:=⟨_,rfl⟩;have am:=Z ci;rw[ci]at nC;clear cm cA ci;go_upto_region 18 with fail
      go_cut [11] (fun E wc=>Ch ag r wc/\wc.ownsRow r.heap.size 56 1 E (2*f+cd) ((fL d.wk++d.ring).map (Value.int .u64)))
      case first=>
       go_wp2_with fail
       with_reducible refine lv.out.mono ?_
       rintro e qc ⟨⟨tl,rfl,c3⟩,V⟩;have G:=Z V;have al:=Z (ar ad.2 G (fun _ _ h=>h));have sC:=(ad.1.trans G).size;rw[am]at c3;have lt:=Z c3;have cQ:=c3;clear V c3;rcases cQ.2 with⟨rfl,hv⟩|⟨cf,go,cur,rfl,p2,p3,p8⟩
       ·have l':Hid (d.ring=[]):=Z (List.eq_nil_of_length_eq_zero (by rw[am];exact hv))
        clear cQ;go_wp2_with (at_builtin;refine wpList_append_own_none rfl _ _ _ rfl r.heap.size 56 dC 1 underlying29 c8 _ (2*f) ((fL d.wk).map (Value.int .u64)) rfl al rfl ?_)
        go_wp2_with fail
        go_meet
        exact⟨ad.1.trans G,by rw[l',List.append_nil,hv];exact al⟩
       ·clear cQ p2 p3 p8
        go_wp2_with (at_builtin;refine wpList_append_own _ rfl _ _ _ rfl r.heap.size 56 dC _ 1 8 underlying29 c8 k5 kb kd rfl (by omega) _ (2*f) ((fL d.wk).map (Value.int .u64)) rfl al ⟨cf,0,none⟩ cd go (d.ring.map (Value.int .u64)) rfl (by rw[List.length_map,am];omega) (lt.cells rfl) (by simp[Value.oneCell']) (by unfold maxLen;omega) (by omega) (by omega) ?_)
        intro v10 tr cC W cl;have ll:=Z cC;have kT:=Z (iP (ad.1.trans G) al (Nat.le_refl _) W);obtain⟨rc,re,rfl⟩:=aA cC;clear cC W cl;go_wp2_with fail
        go_meet
        exact⟨kT,by rw[List.map_append];exact ll⟩
      case rest=>
       obtain⟨es,rfl⟩:∃x,x=wc:=⟨_,rfl⟩;obtain⟨i2,c2⟩:=hcut;obtain⟨Q,bw⟩:=nm (fL d.wk++d.ring);obtain⟨z,bv⟩:∃n,2*f+cd=n:=⟨_,rfl⟩;have fd:Hid (Q.length=z):=Z (by rw[<-bw,List.length_append,xH,T,am];exact bv);have ls:Hid (∀(a b:Nat) (x:Int),Q[a]?=some x->Q[b]?=some x->b<a->x=0):=Z (fun(a b:Nat) (x:Int)=>by rw[<-bw];exact Af fz.inv);rw[bw,bv]at c2;have le:=Z i2;have k0:=c2;have lo:=Z k0;obtain⟨rd,rt,rfl⟩:=aA c2;try rw[bv]
       have r':z<=192:=by omega
       clear i2 c2 k0 bw bv;go_wp2_with fail
       go_loopw [15] (fun u wr=>∃a:Nat,a<=z/\u=.int .i64 a/\Ch ag es wr) (fun u _=>z-(intOf u).toNat)
       case atStart=>exact⟨0,by omega,rfl,Ch.refl _ _⟩
       case round=>
        obtain⟨a,s0,rfl,i1⟩:=hrel;have ex:=Z i1;clear i1;by_cases ob:a<z
        ·have s1:(a:Int)<z:=by omega
         have s2:(0:Int)<=a:=by omega
         obtain⟨cf,go,tb,ce,-,-,-,k4,-⟩:=aS lo (by omega);injection ce with A av bi
         subst A;obtain⟨x,L⟩:∃x,Q[a]?=some x:=⟨_,List.getElem?_eq_getElem (by rw[fd];exact ob)⟩;have gk:=Z L;have lw:=Z k4;have eL:Hid (∀(o:World) (q:Nat) (y:Int),Ch ag es o->Q[q]?=some y->o.cell? ⟨cf,q,none⟩=some (.int .u64 y)):=Z (fun o q y c k2=>(lw.ch c (fun h=>h)).cell (by
          have on:=(List.getElem?_eq_some_iff.1 k2).1;rw[List.getElem?_append_left (by rw[List.length_map];exact on),List.getElem?_map,k2];rfl))
         clear L k4 av bi;go_wp2_with fail
         go_loopw [16] (fun u wr=>∃b:Nat,b<=a/\u=.int .i64 b/\Ch ag es wr) (fun u _=>a-(intOf u).toNat)
         case atStart=>exact⟨0,by omega,rfl,ex⟩
         case round=>
          obtain⟨b,hb,rfl,J⟩:=hrel;have R:=Z J;clear J;by_cases og:b<a
          ·have s3:(b:Int)<a:=by omega
           have s5:(b:Int)<z:=by omega
           have s4:(0:Int)<=b:=by omega
           obtain⟨y,dr⟩:∃y,Q[b]?=some y:=⟨_,List.getElem?_eq_getElem (by rw[fd];omega)⟩;have rg:=eL _ _ _ R gk;have ro:=eL _ _ _ R dr;have pa:x=0∨(x==y)=false:=by
            by_cases e:x=y
            ·subst e;exact Or.inl (ls _ _ _ gk dr og)
            ·exact Or.inr (by rw[beq_eq_false_iff_ne];exact e)
           clear dr;by_cases A:x=0
           ·subst A
            go_wp2_with fail
            go_quiet (fail)
            go_wp2_with fail
            go_roundw
            case rel=>exact⟨b+1,by omega,by go_num,R.trans ((Ch.refl _ _).drewN _)⟩
            case measure=>simp[intOf];omega
           ·have av:(x==0)=false:=by rw[beq_eq_false_iff_ne];exact A
            have bi:(x==y)=false:=pa.resolve_left A;go_wp2_with fail
            go_quiet (fail)
            go_wp2_with fail
            go_roundw
            case rel=>exact⟨b+1,by omega,by go_num,R.trans ((Ch.refl _ _).drewN _)⟩
            case measure=>simp[intOf];omega
          ·obtain rfl:b=a:=by omega
           go_wp2_with fail
           go_roundw
           case rel=>exact⟨b+1,by omega,by go_num,R⟩
           case measure=>simp[intOf];omega
        ·obtain rfl:a=z:=by omega
         go_wp2_with fail
         go_roundw
         case rel=>exact⟨i+1,_,qr,by omega,by go_num,fz.af (le.trans ex)⟩
         case measure=>simp[intOf];omega
    ·obtain rfl:i=I:=by omega
     go_wp2_with fail
     go_meet
     exact cb.ch
  case rest=>
   have eA:=Z hcut;clear hcut;go_wp2_with fail
   with_reducible refine(m.out.Fp _ (M.out.trans eA.out)).mono ?_
   rintro e qc ⟨rfl,V⟩;have G:=Z (eA.trans V);clear V;go_wp2_with fail
   go_ret;exact⟨rfl,M.trans G⟩
end Go.Proofs.YtfnilkpkogipfaaGreatDoor
