import Derived.RangeFuncBox
import Derived.Test.YtlihkblppjgebaaGreatDoorZAw
import Derived.Test.YtlihkblppjgebaaGreatDoorZAx
import Derived.Test.YtlihkblppjgebaaGreatDoorZAz
set_option linter.all false
set_option maxRecDepth 100000
set_option maxHeartbeats 8000000
namespace Go.Proofs.YtlihkblppjgebaaGreatDoor
open Go.RowKit Go.Proofs.Tryz
section
section
variable{w:World}{χ:Nat->a4}{L:cw}{Y:Var}{C:KC}{K:KS}
theorem bA(i:Nat)(x:ak):(K.be i x).wk.length=K.wk.length:=by simp[KS.be]
theorem lr(i:Nat)(d:i<K.wk.length)(id:Int)(hid:aH id)(h:ae w χ L Y C K):Calls prog 209 #[.pointer (some ⟨L.mb,0,none⟩),.pointer (some ⟨L.wb,i*38,none⟩),.int .u64 id] w (de (.tuple #[]) χ L Y C K (eg K i id) w):=by
 have H:=Z h;have j:=Z d;have p:=Z hid;have g:=h.e7 d;obtain⟨m,b⟩:=nm ((K.W i).hand);rw[b]at g;have l:=h.eh;by_cases c:m=0
 ·have E:Hid (eg K i id=({K with table:=(jJ K.table id 1).2}).be i {K.W i with hand:=id}):=Z (by unfold eg;rw[b,if_neg (by simp[c])];rfl)
  subst c;clear h d hid b;go_enter func209,ntmps209
  go_wp2_with fail
  refine(p9 id 1 p.out H.out).mono ?_;rintro e w1 ⟨⟨v,rfl,_⟩,n,k,a⟩;have f:=Z a;have s1:=a.at_.e7 j.out;have u:=a.at_.tn (i*38+1);have s:=Z (a.at_.jx j.out id);clear a g l;go_wp2_with fail
  go_end0
  rw[E.out];obtain⟨t,q,r⟩:=s.out;exact⟨rfl,t,q,f.out.trans (Gr.of_eq rfl) r⟩
 ·have E:Hid (eg K i id=cc K id):=Z (by unfold eg;rw[b,if_pos c])
  have hb:(m !=0)=true:=by simpa using c
  have o:=Z (e9 id hid h);clear h d hid b c;go_enter func209,ntmps209
  go_wp2_with fail
  refine o.out.mono ?_;rintro e w1 ⟨rfl,n,k,a⟩;have f:=Z a;clear a g l;go_wp2_with fail
  go_end0
  rw[E.out];exact⟨rfl,n,k,f.out⟩
end
end
section
attribute [local go_sem] Oper.semAt_some
theorem dW{P:Program}{f:FuncId}{a:Func}{c:Code}{args:Array Value}{w:World}{b:Ending->World->Prop}
 (d:P.funcs[f]?=some a) (hb:a.body=some c)
 (h:c.wp P (bodyPostM Fence.wide 5 P a b) {tmps:=args++Array.replicate (a.ntmps-args.size) undef,defers:=[]} w):Calls P f args w b:=
 callsIn_wide.1 (callsIn_of_wp_marks (F:=Fence.wide) (n:=5) d hb trivial (wpIn_wide.2 h))
section
variable{w:World}{χ:Nat->a4}{L:cw}{Y:Var}{C:KC}{K:KS}
theorem o7(i:Nat)(X:i<K.wk.length)(id:Int)(hid:aH id)(h:ae w χ L Y C K):Calls prog 205 #[.pointer (some ⟨L.mb,0,none⟩),.pointer (some ⟨L.wb,i*38,none⟩),.int .u64 id] w (de (.tuple #[]) χ L Y C K (eB K i id) w):=by
 have H:=Z h;have c4:=Z X;have c5:=Z hid;obtain⟨ex,m⟩:=nm (w.alloc (.cells #[.int .u64 id] 39));have cm:=Z (Ch.al (D:=ag) m);have g:=Z (h.hg cm.out);have bw:=Z (Row.al m);obtain⟨c8,U⟩:=nm ((K.W i).hand);have c2:=Z U;obtain⟨st,ce⟩:=nm (cx K id);have I:=Z ce;have O:=g.out.at_.e7 X;rw[U]at O;have Q:=bw.out.c1;clear h X hid U ce;by_cases ad:c8=0
 ·subst ad
  by_cases a:st=1
  ·subst a
   obtain⟨N,T⟩:=nm K.wk.length;have t:=Z T;have cL:=(g.out.at_.wk (by simp)).n;rw[T]at cL;have bi:Hid (eB K i id=if K.wk.any (fun x=>x.hand==id)then K else if K.ring.any (fun r=>r==id)then K else K.be i {K.W i with hand:=id}):=Z (by unfold eB;rw[if_neg (by rw[c2.out,I.out];simp)]);clear T;refine dW func205 rfl ?_;simp only[ntmps205,List.size_toArray,List.length_cons,List.length_nil,Nat.reduceAdd,Nat.reduceSub,Array.replicate_succ,Array.replicate_zero,List.push_toArray,List.append_toArray,List.nil_append,List.cons_append];go_wp2_with fail
   try rw[m]
   refine(cZ id c5.out g.out.at_).mono ?_;rintro e w1 ⟨rfl,q⟩;rw[I.out];have J:=Z (g.out.af q);have cl:=Z (bw.out.ch q (fun h=>h));clear q O Q m;have al:=J.out.at_.p7;rw[t.out]at al;go_wp2_with fail
   go_loopg [25] (N+1) (fun gk u wr=>∃k:Nat,k<=N/\gk=N-k+1/\u=.int .i64 k/\Hid (Ch ag w1 wr/\∀j,j<k->(K.W j).hand≠id))
   case atStart=>exact⟨0,by omega,by omega,rfl,Ch.refl _ _,fun j h=>absurd h (by omega)⟩
   case round=>
    obtain⟨k,es,rfl,rfl,v⟩:=hrel;have y:=Z (J.out.af v.out.1);have c0:=Z (cl.out.ch v.out.1 (fun h=>h));have ci:=y.out.at_.p7;rw[t.out]at ci;have cs:=c0.out.c1;by_cases a0:k<N
    ·obtain⟨cb,V⟩:=nm ((K.W k).hand)
     have c3:=Z V;have s2:=y.out.at_.e7 (i:=k) (by rw[t.out];exact a0);rw[V]at s2;clear V al;by_cases f:cb=id
     ·have E:Hid (eB K i id=K):=Z (by
       rw[bi.out,if_pos];rw[List.any_eq_true];refine⟨K.W k,List.mem_of_getElem? (KS.gy (by rw[t.out];exact a0)),?_⟩;rw[c3.out,f];simp)
      subst f;go_wp2_with fail
      go_quiet (fail)
      obtain⟨ap,o⟩:=nm (wr.drewN nq);have P:Hid (Ch ag wr ap):=Z (by rw[<-o];exact(Ch.refl _ _).drewN nq);rw[o];clear o;go_wp2_with fail
      refine⟨_,results_none rfl _ _ _,?_⟩;rw[E.out];exact⟨rfl,_,_,y.out.af P.out⟩
     ·have hb:(cb==id)=false:=by rw[beq_eq_false_iff_ne];exact f
      go_wp2_with fail
      go_quiet (fail)
      obtain⟨ap,o⟩:=nm (wr.drewN nq);have P:Hid (Ch ag wr ap):=Z (by rw[<-o];exact(Ch.refl _ _).drewN nq);rw[o];clear o;go_wp2_with fail
      go_roundg (N-(k+1)+1)
      case measure=>omega
      case rel=>
       refine⟨k+1,a0,rfl,by congr 1,v.out.1.trans P.out,fun j hj=> ?_⟩;by_cases e:j=k
       ·subst e;rw[c3.out];exact f
       ·exact v.out.2 j (by omega)
    ·obtain rfl:k=N:=by omega
     have bv:Hid (eB K i id=if K.ring.any (fun r=>r==id)then K else K.be i {K.W i with hand:=id}):=Z (by
      rw[bi.out,if_neg];rw[List.any_eq_true];rintro⟨x,a3,ab⟩;obtain⟨j,hj⟩:=List.getElem?_of_mem a3;have c9:=(List.getElem?_eq_some_iff.1 hj).1;rw[t.out]at c9;refine v.out.2 j c9 ?_;rw[KS.A4 hj];simpa using ab)
     have dC:=y.out.at_.nr;clear al;go_wp2_with fail
     refine(me L.rb wr).mono ?_;rintro e w4 ⟨rfl,a2⟩;have c1:=Z (Ch.al (D:=ag) a2);have cq:=Z (Row.al a2);have z:=Z (y.out.af c1.out);have B:=Z (c0.out.ch c1.out (fun h=>h));clear a2 dC ci cs;go_wp2_with fail
     have a1:=kD (5-1) (by omega) wr.heap.size L.rb L.rg K.ring DX w4 (cq.out.cell (i:=0) rfl) (z.out.at_.ring (by simp)).is (fun W ec k am _ _ _ a R=>⟨am,a,R⟩);refine(wpIn_wide (n:=5)).1 ?_;apply wpIn_rangeFunc_ownG (F:=Fence.wide) (n:=5) rfl (by omega) (gf:=93) (lb:=#[.pointer (some ⟨wr.heap.size,0,none⟩)]) rfl trivial (enters_of func93 (by kernel_rfl) rfl) a1 (fun h k=>gI.trans h k) (fun W l am dN _ a R _=>gI.put W l am dN a R) (Below.refl _ _) (fun _=>rfl)
      (fun pre W=>(∀p∈pre,p.2≠id)/\Below w4.heap.size w4 W) (fun c pre W=>(c=.ret/\∃p∈pre,p.2=id)/\Below w4.heap.size w4 W)
      (OwnFrom.and (ownFrom_pure _ (fun pre:List (Nat×Int)=>∀p∈pre,p.2≠id)) (ownFrom_below (Nat.le_refl _) (Nat.le_refl _)))
      (fun c=>OwnFrom.and (ownFrom_pure _ (fun pre:List (Nat×Int)=>c=.ret/\∃p∈pre,p.2=id)) (ownFrom_below (Nat.le_refl _) (Nat.le_refl _)))
      ⟨by simp,Below.refl _ _⟩
     ·intro l x W K d
      gi_wp2
      exact d
     ·rintro l pre ⟨e1,av⟩ W ⟨s,b⟩ _
      have ct:=(b.cell (p:=⟨w.heap.size,0,none⟩) B.out.lt).trans (B.out.cell (i:=0) rfl);by_cases f:av=id
      ·subst f
       gi_wp2_with fail
       exact⟨KeepsFrom.refl _ _,⟨rfl,(e1,av),List.mem_append_right _ (List.mem_singleton.2 rfl),rfl⟩,b⟩
      ·have hb:(av==id)=false:=by rw[beq_eq_false_iff_ne];exact f
       gi_wp2_with fail
       exact⟨KeepsFrom.refl _ _,gI.refl _,⟨fun p cS=>(List.mem_append.1 cS).elim (s p) (fun e=>by rw[List.mem_singleton.1 e];exact f),b⟩⟩
     ·rintro D eA W S rfl ⟨cd,b⟩ d
      have E:Hid (eB K i id=K.be i {K.W i with hand:=id}):=Z (by
       rw[bv.out,if_neg];rw[List.any_eq_true];rintro⟨x,a3,ab⟩;have a:x∈(gg K.ring K.ring.length).map Prod.snd:=(by rw[lx _ (Nat.le_refl _),List.take_length];exact a3);obtain⟨p,s,rfl⟩:=List.mem_map.1 a;exact cd p s (by simpa using ab))
      have ct:=(b.cell (p:=⟨w.heap.size,0,none⟩) B.out.lt).trans (B.out.cell (i:=0) rfl);have c6:=Z (z.out.af (Ch.bY b));have A:=b.trans (belowK_b (w:=w4) (Nat.le_refl _) W D (.deferred (some [])) (.deferred none) S d rfl rfl);have M:=Z (z.out.af (Ch.bY A));have et:=c6.out.at_.e7 (i:=i) c4.out;have en:=c6.out.at_.tn (i*38+1);have ch:D≠L.wb:=(fun e=>by have:=(z.out.at_.wk (by simp)).is.lt;omega);have c7:=(KeepsOthers.setCell W ⟨L.wb,i*38+1,none⟩ (.int .u64 id)).same D _ d rfl;have G:=Z (And.intro c7 ch);clear a1 cd b d A c7 ch;go_wp2_with fail
      refine⟨by simp,.inl ⟨_,_,rfl,run_takeDeferred G.out.1,?_⟩⟩;refine⟨_,results_none rfl _ _ _,?_⟩;rw[E.out,nE _ _ _ G.out.2];obtain⟨aW,Y',cC⟩:=M.out.at_.jx c4.out id;exact⟨rfl,aW,Y',M.out.trans (Gr.refl _) cC⟩
     ·rintro D c pre W S ⟨dr,cA,rfl⟩ ⟨⟨rfl,p,s,cW⟩,b⟩ d
      have E:Hid (eB K i id=K):=Z (by
       rw[bv.out,if_pos];rw[List.any_eq_true];have a:p.2∈(gg K.ring dr).map Prod.snd:=List.mem_map.2 ⟨p,s,rfl⟩;rw[lx _ cA]at a;exact⟨p.2,List.mem_of_mem_take a,by simp[cW]⟩)
      have A:=b.trans (belowK_b (w:=w4) (Nat.le_refl _) W D (.deferred (some [])) (.deferred none) S d rfl rfl);have M:=Z (z.out.af (Ch.bY A));have G:=Z d;clear a1 s b d A
      gi_wp2_with fail
      refine⟨by simp,.inl ⟨_,_,rfl,run_takeDeferred G.out,?_⟩⟩;refine⟨_,results_none rfl _ _ _,?_⟩;rw[E.out];exact⟨rfl,_,_,M.out⟩
  ·have E:Hid (eB K i id=K):=Z (by unfold eB;rw[if_pos (Or.inr (by rw[I.out];exact a))])
   have hb:(st==1)=false:=(by rw[beq_eq_false_iff_ne];exact a);refine dW func205 rfl ?_;simp only[ntmps205,List.size_toArray,List.length_cons,List.length_nil,Nat.reduceAdd,Nat.reduceSub,Array.replicate_succ,Array.replicate_zero,List.push_toArray,List.append_toArray,List.nil_append,List.cons_append];go_wp2_with fail
   try rw[m]
   refine(cZ id c5.out g.out.at_).mono ?_;rintro e w1 ⟨rfl,q⟩;rw[I.out];have J:=Z (g.out.af q);clear q O Q m;go_wp2_with fail
   refine⟨_,results_none rfl _ _ _,?_⟩;rw[E.out];exact⟨rfl,_,_,J.out⟩
 ·have E:Hid (eB K i id=K):=Z (by unfold eB;rw[if_pos (Or.inl (by rw[c2.out];exact ad))])
  have hb:(c8==0)=false:=by rw[beq_eq_false_iff_ne];exact ad
  refine dW func205 rfl ?_;simp only[ntmps205,List.size_toArray,List.length_cons,List.length_nil,Nat.reduceAdd,Nat.reduceSub,Array.replicate_succ,Array.replicate_zero,List.push_toArray,List.append_toArray,List.nil_append,List.cons_append];go_wp2_with fail
  try rw[m]
  clear O Q;refine⟨_,results_none rfl _ _ _,?_⟩;rw[E.out];exact⟨rfl,_,_,g.out⟩
end
end
section
attribute [local go_sem] Oper.semAt_some
def BN(b:Nat)(a:World)(k:Nat):Prop:=∃v,Boxed a b 29 v/\v.ownBlock=some k
structure BO(lc:Nat)(A B:World):Prop where
 size:A.heap.size<=B.heap.size
 same:∀k o,A.heap[k]?=some o->o.isCells=true->k≠lc->¬BN lc A k->B.heap[k]?=some o
 own:∀k,BN lc B k->BN lc A k∨A.heap.size<=k
theorem oB{a:World}{k:Nat}{b:Obj}(h:a.heap[k]?=some b):k<a.heap.size:=(Array.getElem?_eq_some_iff.1 h).1
theorem BO.trans{b:Nat}{c B C:World}(h:BO b c B)(a:BO b B C):BO b c C where
 size:=Nat.le_trans h.size a.size
 same:=fun k j d i f g=>a.same k j (h.same k j d i f g) i f fun e=>(h.own k e).elim g fun e=>by have:=oB d;omega
 own:=fun k e=>(a.own k e).elim (fun e=>h.own k e) fun e=>Or.inr (by have:=h.size;omega)
theorem BO.put{c:Nat}(W:World)(l:Nat)(d f:Obj)(g:l≠c)(h:W.heap[l]?=some d)(i:d.isCells=false):BO c W (W.putObj l f) where
 size:=by show _<=(W.heap.setIfInBounds l f).size;rw[Array.size_setIfInBounds];exact Nat.le_refl _
 same:=fun k m a b _ _=>by
  by_cases e:k=l
  ·subst e;rw[h]at a;cases a;rw[i]at b;cases b
  ·exact(World.putObj_heap_other e).trans a
 own:=fun k ⟨v,j,e⟩=>Or.inl ⟨v,(World.putObj_heap_other (fun e=>g e.symm)).symm.trans j,e⟩
def Fb(b:Nat)(a:World)(k:Nat):Prop:=(∃c,a.heap[k]?=some c/\c.isCells=true)/\k≠b/\¬BN b a k
theorem Es(g:Nat):A9 (BO g) (Fb g):=⟨fun {i B k} h ⟨⟨f,a,b⟩,c,d⟩ j=>
 ⟨(h.same k f a b c d).trans a.symm,⟨f,h.same k f a b c d,b⟩,c,fun e=>(h.own k e).elim d fun e=>by omega⟩⟩
theorem jo{F:Fence}{n:Nat}{P:Program}(w:World){ops:Array Oper}{rest:List Oper}{b:Oper}{a:Act}{Q:Exit->Act->World->Prop}
 (M:b.guard=none) (s x:Operand) (t:TypeId) (Gf:b.op=Op.call {callee:=Callee.builtin Builtin.append,args:=#[s,x],argTypes:=#[t,t]})
 (base:Nat) (e:TypeId) (i:TypeInfo) (z:Value) (size bytes:Nat) (p:P.underlying t=some (.slice e)) (r:P.info? e=some i) (y:i.zero=some z) (A:i.size=size) (B:i.bytes=bytes) (D:z.cells.size=size) (E:0<size)
 (v:Value) (k:Nat) (f:List Value) (T:a.eval s=v) (R:w.ownsRow base e size v k f) (d:Addr) (m c:Nat) (news:List Value) (U:a.eval x=.slice (some d) m c) (O:news.length=m*size)
 (I:∀j u,news[j]?=some u->w.cell? (d.add j)=some u) (q:∀u∈news,u.oneCell'=true) (N:0<m) (h:k+m<=maxLen) (l:(k+m)*bytes<=140737488355328) (o:base<=w.heap.size)
 (G:∀g cap w',w'.ownsRow base e size (.slice (some ⟨g,0,none⟩) (k+m) cap) (k+m) (f++news)->w.grownBy w' v.ownBlock->(v.ownBlock=some g∨g=w.heap.size)->wpListIn F n P ops Q rest (a.put b.dst (.slice (some ⟨g,0,none⟩) (k+m) cap)) w'):
 wpListIn F n P ops Q (b::rest) a w:=by
 refine wpListIn_plain M fun K H=> ?_
 obtain⟨g,cap,w',S,V,W,X,-⟩:=run_append_lies (P:=P) w t b.type base e i z size bytes p r y A B D E v k f R d m c news O I q N h l o _ rfl;unfold Oper.wpIn;refine⟨?_,?_⟩
 ·simp[Oper.about,Gf,resolve,Target.leads,Sem.run_pure]
 ·rw[Oper.semAt_plain F _ _ (by rw[Gf];intro c J;cases J)]
  simp[execOp,Gf,resolve,invoke,builtin,T,U,S,Result.andThen];exact H _ _ (G g cap w' V W X)
structure Ah(l:List Int)(w:World)(e:Ending)(w':World):Prop where
 ret:∃v,e=.returned v/\w'.ownsRow w.heap.size 39 1 v l.length (l.map (Value.int .u64))
 ch:Ch ag w w'
section
variable{w:World}{χ:Nat->a4}{L:cw}{Y:Var}{C:KC}{K:KS}
theorem xI(h:ae w χ L Y C K):Calls prog 19 #[.pointer (some ⟨L.mb,0,none⟩)] w (Ah K.ring w):=by
 obtain⟨a,A⟩:=nm w.heap.size;obtain⟨w1,P⟩:=nm (w.alloc (.cells #[.slice none 0 0] 29));have a1:Hid (Boxed w1 a 29 (.slice none 0 0)):=Z (by rw[<-P,<-A];exact Boxed.new _ _ _);have f:Hid (Ch ag w w1):=Z (Ch.al P);have I:=Z (h.af f.out);have al:Hid (w1.heap.size=a+1):=Z (by rw[<-P,<-A];simp);have cb:=I.out.nr;have bw:=(I.out.ring (by simp)).is;obtain⟨c9,V,c6,c7,c8⟩:=info_parts jt;have ab:=Z V;clear V bw;refine dW func19 rfl ?_;simp only[ntmps19,List.size_toArray,List.length_cons,List.length_nil,Nat.reduceAdd,Nat.reduceSub,Array.replicate_succ,Array.replicate_zero,List.push_toArray,List.append_toArray,List.nil_append,List.cons_append];go_wp2_with fail
 refine(me L.rb w1).mono ?_;rintro e w4 ⟨rfl,s⟩;have g:Hid (Ch ag w1 w4):=Z (Ch.al s);have ad:Hid (Row w4 w1.heap.size 106 [.pointer (some ⟨L.rb,0,none⟩)]):=Z (Row.al s);have Q:Hid (Boxed w4 a 29 (.slice none 0 0)):=Z (by rw[<-s];exact a1.out.alloc _);have t:Hid (w4.heap.size=a+2):=Z (by rw[<-s];simp[al.out]);have S:=Z (I.out.af g.out);clear s cb;go_wp2_with fail
 have X:=kD (5-1) (by omega) w1.heap.size L.rb L.rg K.ring (Es a) w4 (ad.out.cell (i:=0) rfl) (S.out.ring (by simp)).is (fun W T k E hb N O J M=>by
  have c3:=hb.size;have c5:Boxed T a 29 (.slice none 0 0):=((show Row w4 a 29 [.slice none 0 0]from Q.out).ch (Ch.bY hb) (fun h=>h)).ch N (fun h=>h);refine⟨⟨E,J,M⟩,by rw[t.out]at c3;omega,fun⟨v,d,e⟩=> ?_⟩;have:=(show T.heap[a]?=_ from d).symm.trans c5;simp at this;subst this;simp[Value.ownBlock]at e)
 refine(wpIn_wide (n:=5)).1 ?_;apply wpIn_rangeFunc_ownG (F:=Fence.wide) (n:=5) rfl (by omega) (gf:=93) (lb:=#[.pointer (some ⟨w1.heap.size,0,none⟩)]) rfl trivial (enters_of func93 (by kernel_rfl) rfl) X (fun h k=>BO.trans h k) (fun W l E cd bi J M _=>BO.put W l E cd (by rw[t.out]at bi;omega) J M) (Below.refl _ _) (fun _=>rfl)
  (fun pre W=>Below w.heap.size w4 W/\∃v,Boxed W a 29 v/\W.ownsRow a 39 1 v pre.length (pre.map fun p=>Value.int .u64 p.2)/\True) (fun c pre W=>False)
  (OwnFrom.and (ownFrom_below (by have:=f.out.size;have:=g.out.size;omega) (by have:=f.out.size;have:=g.out.size;omega)) ((holdsRow_own a a 29 39 1 (fun pre:List (Nat×Int)=>pre.length) (fun pre=>pre.map fun p=>Value.int .u64 p.2) (fun _ _=>True)).from _))
  (fun c=>fun _ _ _ _ h _ _=>h)
  ⟨Below.refl _ _,_,Q.out,⟨by simp,Or.inl ⟨rfl,rfl⟩⟩,trivial⟩
 ·intro l x W K m
  gi_wp2
  exact m
 ·rintro l pre ⟨cL,ch⟩ W ⟨j,v,d,b,-⟩ hlen
  have cA:=j.size;have cq:K.ring.length<=64:=by obtain⟨cs,fr,N,-⟩:=(S.out.ring (by simp)).is;exact N.hn
  have am:=d.cell;have fb:=d.frozen;have H:=Z d;have R:=Z b;have a2:=Z j
  gi_wp2_with (first|(gi_at_builtin;refine jo _ rfl _ _ 29 rfl a 39 c9 (.int .u64 0) 1 8 underlying29 ab.out c6 c7 c8 rfl (by decide) _ _ _ rfl (R.out.alloc _) ⟨W.heap.size,0,none⟩ 1 1 [.int .u64 ch] rfl rfl (cell_one_new _ _ _) (by simp[Value.oneCell']) (by omega) (by unfold maxLen;omega) (by omega) (by have:=t.out;simp;omega) ?_;intro g' cl cC c2 q y;obtain⟨a0,o,B,r,z⟩:=H.out.appended (by decide) R.out (by have:=t.out;omega) (Nat.le_refl _) c2 q;have ci:=a0.cell;have f3:=a0.frozen;have u:=Z (And.intro o (And.intro B (And.intro r z)));have a3:=Z (And.intro q y);clear q y o B r z))
  obtain⟨o,B,r,z⟩:=u.out;obtain⟨q,y⟩:=a3.out;refine⟨r.from _,⟨r.size,fun k E O ct c0 c1=> ?_,fun k ⟨ce,c4,e⟩=> ?_⟩,⟨(show Below a w4 W from A▸a2.out).trans z,_,o,?_⟩⟩
  ·have av:=oB O
   refine(Below.heap_setCell _ _ _ k (fun e=>c0 e)).trans ((q.block k (by simp;omega) (fun e=>c1 ⟨v,H.out,e.symm⟩)).trans ((heap_alloc_old _ _ _ av).trans O))
  ·have:=(show _=some (Obj.cells #[ce] 29 (0,0))from c4).symm.trans o
   simp at this;subst this;obtain rfl:g'=k:=by simpa[Value.ownBlock]using e
   rcases y with h|h
   ·exact Or.inl ⟨v,H.out,h⟩
   ·exact Or.inr (by rw[h];simp)
  ·simpa using B
 ·rintro D cS W U rfl ⟨j,v,d,b,-⟩ m
  have am:=d.cell;have G:=Z m;have u:=Z (And.intro j b);clear X j m b;go_wp2_with fail
  refine⟨by simp,.inl ⟨_,_,rfl,run_takeDeferred G.out,?_⟩⟩;refine⟨_,results_tmp rfl _ _ _,?_⟩;have b:=ownsRow_putObj u.out.2 (.deferred none) G.out rfl;rw[o6]at b;have ap:Below w.heap.size w (W.putObj D (.deferred none)):=(((f.out.trans g.out).gU).trans u.out.1).trans (belowK_b (w:=w4) (by have:=f.out.size;have:=g.out.size;omega) W D (.deferred (some [])) (.deferred none) U G.out rfl rfl);have bv:(gg K.ring K.ring.length).map (fun p=>Value.int .u64 p.2)=K.ring.map (Value.int .u64):=by
   have:=congrArg (List.map (Value.int .u64)) (lx K.ring (Nat.le_refl _));rw[List.map_map,List.take_length]at this;exact this
  rw[bv]at b;exact⟨⟨_,rfl,by rw[A];exact b⟩,Ch.bY ap⟩
 ·rintro D c pre W U cm hF m
  exact hF.elim
end
end
end Go.Proofs.YtlihkblppjgebaaGreatDoor
