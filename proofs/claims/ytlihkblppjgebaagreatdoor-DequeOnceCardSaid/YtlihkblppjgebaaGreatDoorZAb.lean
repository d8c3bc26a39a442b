import Derived.Maps.Keyed
import Derived.Test.YtlihkblppjgebaaGreatDoorZAa
set_option linter.all false
set_option maxRecDepth 100000
set_option maxHeartbeats 8000000
namespace Go.Proofs.YtlihkblppjgebaaGreatDoor
open Go.RowKit Go.Proofs.Tryz
def ag:Nat->Prop:=fun _=>False
def aK(g:Nat):Nat->Prop:=fun i=>i=g
def di(g k:Nat):Nat->Prop:=fun i=>i=g∨i=k
theorem Ch.only{g:Nat}{a b:World}(h:Ch (aK g) a b)(c:Nat)(v:Value):Ch (aK g) a (b.setCell ⟨g,c,none⟩ v):=h.gS (p:=⟨g,c,none⟩) (show g=g from rfl) v
theorem Ch.g8{g k:Nat}{a b:World}(h:Ch (di g k) a b)(c:Nat)(v:Value):Ch (di g k) a (b.setCell ⟨g,c,none⟩ v):=h.gS (p:=⟨g,c,none⟩) (show g=g∨g=k from Or.inl rfl) v
theorem Ch.jD{g k:Nat}{a b:World}(h:Ch (di g k) a b)(c:Nat)(v:Value):Ch (di g k) a (b.setCell ⟨k,c,none⟩ v):=h.gS (p:=⟨k,c,none⟩) (show k=g∨k=k from Or.inr rfl) v
theorem Ch.af{D:Nat->Prop}{a b:World}(h:Ch ag a b):Ch D a b:=h.mono (fun _ c=>c.elim)
def dt(v:Value)(w:World)(e:Ending)(w':World):Prop:=e=.returned v/\Ch ag w w'
theorem dt.mk{v u:Value}{w w':World}(h:v=u)(c:Ch ag w w'):dt v w (.returned u) w':=⟨by rw[h],c⟩
theorem Ch.bY{w w':World}(h:Below w.heap.size w w'):Ch ag w w':=⟨h.os,h.tape,h.output,h.size,fun b hb _=>h.block b hb⟩
theorem Ch.gU{w w':World}(h:Ch ag w w'):Below w.heap.size w w':=h.below (Nat.le_refl _) (fun _ hb=>hb.elim)
def j9(b:Bool)(w:World)(e:Ending)(w':World):Prop:=e=.returned (.bool b)/\w=w'
theorem j9.mk{b c:Bool}{w:World}(h:b=c):j9 b w (.returned (.bool c)) w:=⟨by rw[h],rfl⟩
structure aV where
 op:Int
 a:Int
 b:Int
 c:Int
 v:Int
 m:Int
 wh:Int
 deriving DecidableEq,Repr,Inhabited
def aC(X:aV):Array Value:=#[.int .i64 X.op,.int .i64 X.a,.int .i64 X.b,.int .i64 X.c,.int .u64 X.v,.int .i64 X.m,.int .i64 X.wh]
def aI(X:aV):Value:=.agg (aC X)
def b'(l:List aV):List Value:=l.flatMap fun X=>(aC X).toList
theorem j'(X:aV)(l:List aV):b' (X::l)=(aC X).toList++b' l:=rfl
theorem lU(l:List aV):(b' l).length=7*l.length:=by
 induction l with
 |nil=>rfl
 |cons x l ih=>rw[j',List.length_append,ih,List.length_cons];show 7+_=_;omega
theorem eJ:∀(l:List aV) (a:Nat) (X:aV),l[a]?=some X->(b' l)[a*7]?=some (.int .i64 X.op)/\(b' l)[a*7+1]?=some (.int .i64 X.a)/\(b' l)[a*7+2]?=some (.int .i64 X.b)/\(b' l)[a*7+3]?=some (.int .i64 X.c)/\(b' l)[a*7+4]?=some (.int .u64 X.v)/\(b' l)[a*7+5]?=some (.int .i64 X.m)/\(b' l)[a*7+6]?=some (.int .i64 X.wh)
 |[],a,X,h=>by simp at h
 |Y::l,0,X,h=>by
  have:Y=X:=by simpa using h
  subst this;exact⟨rfl,rfl,rfl,rfl,rfl,rfl,rfl⟩
 |Y::l,a+1,X,h=>by
  obtain⟨b,c,d,f,g,i,j⟩:=eJ l a X (by simpa using h);have e:(aC Y).toList.length=7:=rfl;rw[j'];refine⟨?_,?_,?_,?_,?_,?_,?_⟩<;>rw[List.getElem?_append_right (by rw[e];omega),e]
  ·rw[show(a+1)*7-7=a*7 from by omega];exact b
  ·rw[show(a+1)*7+1-7=a*7+1 from by omega];exact c
  ·rw[show(a+1)*7+2-7=a*7+2 from by omega];exact d
  ·rw[show(a+1)*7+3-7=a*7+3 from by omega];exact f
  ·rw[show(a+1)*7+4-7=a*7+4 from by omega];exact g
  ·rw[show(a+1)*7+5-7=a*7+5 from by omega];exact i
  ·rw[show(a+1)*7+6-7=a*7+6 from by omega];exact j
structure eE(w:World)(g:Nat)(l:List aV):Prop where
 lt:g<w.heap.size
 cell:∀j u,(b' l)[j]?=some u->w.cell? ⟨g,j,none⟩=some u
theorem e4{B g i:Nat}{w w':World}(h:Below B w w')(a:g<B):w'.cell? ⟨g,i,none⟩=w.cell? ⟨g,i,none⟩:=by
 unfold World.cell?;simp only[h.block g a]
theorem eE.below{w w':World}{g:Nat}{l:List aV}(h:eE w g l)(hb:Below w.heap.size w w'):eE w' g l:=
 ⟨Nat.lt_of_lt_of_le h.lt hb.size,fun j u hj=>(e4 hb h.lt).trans (h.cell j u hj)⟩
theorem eE.ch{w w':World}{D:Nat->Prop}{g:Nat}{l:List aV}(h:eE w g l)(c:Ch D w w')(a:¬D g):eE w' g l:=
 ⟨Nat.lt_of_lt_of_le h.lt c.size,fun j u hj=>(c.cell (p:=⟨g,j,none⟩) h.lt a).trans (h.cell j u hj)⟩
theorem hs{w:World}{a:Obj}:(w.alloc a).heap[w.heap.size]?=some a:=heap_alloc_new w a
theorem bZ{P:Program}{f:FuncId}{args:Array Value}{w:World}{v:Value}(h:Calls P f args w (d' v w)):Calls P f args w (fun e w'=>e=.returned v/\w'=w):=
 h.mono fun _ _ ⟨a,b⟩=>⟨a,b.symm⟩
section
section
variable{α:Type}{enc:α->List Value}{k:Nat}
theorem a7(a:∀x,(enc x).length=k):∀(l:List α),(l.flatMap enc).length=l.length*k
 |[]=>by simp
 |x::l=>by rw[List.flatMap_cons,List.length_append,a,a7 a l,List.length_cons,Nat.succ_mul];omega
theorem bP(a:∀x,(enc x).length=k):∀{l:List α} {i:Nat} {x:α} {j:Nat},l[i]?=some x->j<k->(l.flatMap enc)[i*k+j]?=(enc x)[j]?
 |[],i,x,j,h,_=>by simp at h
 |y::l,0,x,j,h,hj=>by
  have:y=x:=by simpa using h
  subst this;rw[List.flatMap_cons,Nat.zero_mul,Nat.zero_add,List.getElem?_append_left (by rw[a];exact hj)]
 |y::l,i+1,x,j,h,hj=>by
  have e:(i+1)*k=i*k+k:=Nat.succ_mul i k;rw[List.flatMap_cons,List.getElem?_append_right (by rw[a,e];omega),a,show(i+1)*k+j-k=i*k+j from by rw[e];omega];exact bP a (by simpa using h) hj
theorem fg(a:∀x,(enc x).length=k):∀{l:List α} {i:Nat} {x y:α} {j:Nat} {v:Value},l[i]?=some x->j<k->(enc x).set j v=enc y->(l.flatMap enc).set (i*k+j) v=(l.set i y).flatMap enc
 |[],i,x,y,j,v,h,_,_=>by simp at h
 |z::l,0,x,y,j,v,h,hj,b=>by
  have:z=x:=by simpa using h
  subst this;rw[List.flatMap_cons,Nat.zero_mul,Nat.zero_add,List.set_append_left _ _ (by rw[a];exact hj),b];simp
 |z::l,i+1,x,y,j,v,h,hj,b=>by
  have e:(i+1)*k=i*k+k:=Nat.succ_mul i k;rw[List.flatMap_cons,List.set_append_right _ _ (by rw[a,e];omega),a,show(i+1)*k+j-k=i*k+j from by rw[e];omega,fg a (by simpa using h) hj b];simp
end
theorem Row.at{α:Type}{enc:α->List Value}{k:Nat}{w:World}{b:Nat}{t:TypeId}{l:List α}(h:Row w b t (l.flatMap enc))(a:∀x,(enc x).length=k){i:Nat}{x:α}(d:l[i]?=some x){j:Nat}{v:Value}(hj:j<k)(c:(enc x)[j]?=some v):w.cell? ⟨b,i*k+j,none⟩=some v:=
 h.cell ((bP a d hj).trans c)
theorem Row.put{α:Type}{enc:α->List Value}{k:Nat}{w:World}{b:Nat}{t:TypeId}{l:List α}(h:Row w b t (l.flatMap enc))(a:∀x,(enc x).length=k){i:Nat}{x y:α}(d:l[i]?=some x){j:Nat}{v:Value}(hj:j<k)(c:(enc x).set j v=enc y):Row (w.setCell ⟨b,i*k+j,none⟩ v) b t ((l.set i y).flatMap enc):=
 h.a' _ _ (fg a d hj c)
end
section
open Go.MapKept
section
variable{α:Type}
def dU:List (Int×α)->Int->Nat->Option (Nat×α)
 |[],_,_=>none
 |x::l,k,i=>if k==x.1 then some (i,x.2)else dU l k (i+1)
def aw(l:List (Int×α))(k:Int):Option α:=(dU l k 0).map (·.2)
def b8(l:List (Int×α))(k:Int)(v:α):List (Int×α):=
 match dU l k 0 with
 |some (i,_)=>l.set i (k,v)
 |none=>l++[(k,v)]
def fk(l:List (Int×α))(k:Int):List (Int×α):=
 match dU l k 0 with
 |some (i,_)=>l.eraseIdx i
 |none=>l
theorem fY:∀(l:List (Int×α)) (k:Int) (i:Nat),dU l k i=(dU l k 0).map fun x=>(x.1+i,x.2)
 |[],_,_=>rfl
 |x::l,k,i=>by
  unfold dU;split
  ·simp
  ·rw[fY l k (i+1),fY l k (0+1)]
   cases dU l k 0 with
   |none=>rfl
   |some y=>simp;omega
theorem m6:∀(l:List (Int×α)) (k:Int) (i j:Nat) (v:α),dU l k i=some (j,v)->i<=j/\j<i+l.length/\l[j-i]?=some (k,v)
 |[],_,_,_,_,h=>by cases h
 |x::l,k,i,j,v,h=>by
  unfold dU at h;split at h
  ·rename_i c
   have:i=j/\x.2=v:=(by simpa using h);obtain⟨rfl,rfl⟩:=this;have d:k=x.1:=(by simpa using c);exact⟨Nat.le_refl _,by simp,by simp[d]⟩
  ·obtain⟨e,f,a⟩:=m6 l k (i+1) j v h
   refine⟨by omega,by simp;omega,?_⟩;rw[show j-i=(j-(i+1))+1 from by omega,List.getElem?_cons_succ];exact a
end
def bH{α:Type}(w:World)(b:Nat)(q:IntKind)(enc:α->Value)(l:List (Int×α)):Prop:=
 ∃a clock,w.heap[b]?=some (.map a clock)/\a.toList.map (fun e=>(e.key,e.val))=l.map fun x=>(Value.int q x.1,enc x.2)
theorem bH.lt{α:Type}{w:World}{b:Nat}{q:IntKind}{enc:α->Value}{l:List (Int×α)}(h:bH w b q enc l):b<w.heap.size:=by
 obtain⟨d,c,a,_⟩:=h;exact(Array.getElem?_eq_some_iff.1 a).1
theorem bH.ch{α:Type}{w w':World}{D:Nat->Prop}{b:Nat}{q:IntKind}{enc:α->Value}{l:List (Int×α)}(h:bH w b q enc l)(c:Ch D w w')(f:¬D b):bH w' b q enc l:=by
 have hb:=h.lt;obtain⟨a,k,d,e⟩:=h;exact⟨a,k,(c.same b hb f).trans d,e⟩
theorem bH.alloc{α:Type}{w:World}{b:Nat}{q:IntKind}{enc:α->Value}{l:List (Int×α)}(h:bH w b q enc l)(a:Obj):bH (w.alloc a) b q enc l:=h.ch ((Ch.refl ag w).alloc a) (fun h=>h)
theorem bH.drew{α:Type}{w:World}{b:Nat}{q:IntKind}{enc:α->Value}{l:List (Int×α)}(h:bH w b q enc l):bH w.drew b q enc l:=h
theorem bH.drewN{α:Type}{w:World}{b:Nat}{q:IntKind}{enc:α->Value}{l:List (Int×α)}(h:bH w b q enc l)(n:Nat):bH (w.drewN n) b q enc l:=h
theorem bH.ne{α:Type}{w:World}{b g:Nat}{q:IntKind}{enc:α->Value}{l:List (Int×α)}{t:TypeId}{cs:List Value}(h:bH w b q enc l)(d:Row w g t cs):b≠g:=by
 intro e;subst e;obtain⟨f,c,a,_⟩:=h;unfold Row at d;rw[d]at a;cases a
theorem bH.other{α:Type}{w:World}{b:Nat}{q:IntKind}{enc:α->Value}{l:List (Int×α)}(h:bH w b q enc l){p:Addr}(f:b≠p.block)(v:Value):bH (w.setCell p v) b q enc l:=by
 obtain⟨a,c,d,e⟩:=h;exact⟨a,c,(Below.heap_setCell _ _ _ _ f).trans d,e⟩
theorem hG{α:Type}(q:IntKind)(enc:α->Value)(k:Int):∀(a:List MapEntry) (l:List (Int×α)) (i:Nat),a.map (fun e=>(e.key,e.val))=l.map (fun x=>(Value.int q x.1,enc x.2))->
 Instr.findNow (.int q) (.int q k) a i=some ((dU l k i).map fun x=>(x.1,enc x.2))
 |[],[],i,_=>rfl
 |[],x::l,i,h=>by cases h
 |e::a,[],i,h=>by cases h
 |e::a,x::l,i,h=>by
  simp only[List.map_cons,List.cons.injEq,Prod.mk.injEq]at h;obtain⟨⟨c,d⟩,f⟩:=h;have ih:=hG q enc k a l (i+1) f;unfold Instr.findNow Instr.sameNow dU;rw[c];simp only[if_pos rfl];cases g:(k==x.1)
  ·simpa using ih
  ·simp[d]
section
variable{P:Program}{w:World}{b:Nat}{q:IntKind}{α:Type}{enc:α->Value}{l:List (Int×α)}
theorem iW{T K E:TypeId}{z:Value}(g:P.underlying T=some (.map K E))(d:P.underlying K=some (.int q))(m:(zeroValue E).run P w=.ok z w)(h:bH w b q enc l)(k:Int):
 (Instr.lookup T (.map (some b)) (.int q k) false).run P w=.ok (((aw l k).map enc).getD z) w:=by
 obtain⟨a,c,e,f⟩:=h;have i:=hG q enc k a.toList l 0 f;have j:Go.MapKept.IsKey (.int q) (.int q k):=by simp[Go.MapKept.IsKey]
 simp[Instr.lookup,run_underlying g, @Go.MapKept.run_getObj_map P w b a c e, @Go.MapKept.run_checkKey P w K _ _ d j, @Go.MapKept.run_findKey P w K _ _ _ _ d i,Result.andThen];unfold aw;cases dU l k 0<;>simp[m,Result.andThen]
theorem kg{T K E:TypeId}{z:Value}(g:P.underlying T=some (.map K E))(d:P.underlying K=some (.int q))(m:(zeroValue E).run P w=.ok z w)(h:bH w b q enc l)(k:Int):
 (Instr.lookup T (.map (some b)) (.int q k) true).run P w=.ok (.tuple #[((aw l k).map enc).getD z,.bool (aw l k).isSome]) w:=by
 obtain⟨a,c,e,f⟩:=h;have i:=hG q enc k a.toList l 0 f;have j:Go.MapKept.IsKey (.int q) (.int q k):=by simp[Go.MapKept.IsKey]
 simp[Instr.lookup,run_underlying g, @Go.MapKept.run_getObj_map P w b a c e, @Go.MapKept.run_checkKey P w K _ _ d j, @Go.MapKept.run_findKey P w K _ _ _ _ d i,Result.andThen];unfold aw;cases dU l k 0<;>simp[m,Result.andThen]
def putObj(w:World)(b:Nat)(a:Obj):World:={w with heap:=w.heap.setIfInBounds b a}
theorem hc(w:World)(b:Nat)(a:Obj)(hb:b<w.heap.size):(putObj w b a).heap[b]?=some a:=by simp[putObj,hb]
theorem jr{D:Nat->Prop}(w:World)(b:Nat)(d:Obj)(a:D b):Ch D w (putObj w b d):=
 ⟨rfl,rfl,rfl,by simp[putObj],fun i f c=>by
  have:b≠i:=fun e=>c (e▸a)
  simp[putObj,this]⟩
theorem fm{T K E:TypeId}(s:P.underlying T=some (.map K E))(n:P.underlying K=some (.int q))(h:bH w b q enc l)(k:Int)(v:α):
 ∃w',(Instr.mapUpdate T (.map (some b)) (.int q k) (enc v)).run P w=.ok () w'/\bH w' b q enc (b8 l k v)/\Ch (aK b) w w':=by
 have hb:=h.lt;obtain⟨a,c,m,f⟩:=h;have o:=hG q enc k a.toList l 0 f;have r:Go.MapKept.IsKey (.int q) (.int q k):=by simp[Go.MapKept.IsKey]
 cases g:dU l k 0 with
 |none=>
  rw[g]at o;refine⟨putObj w b (.map (a.push {key:=.int q k,val:=enc v,born:=c}) (c+1)),?_,⟨_,_,hc _ _ _ hb,?_⟩,jr _ _ _ rfl⟩
  ·simp[Instr.mapUpdate,run_underlying s, @Go.MapKept.run_getObj_map P w b a c m, @Go.MapKept.run_checkKey P w K _ _ n r, @Go.MapKept.run_findKey P w K _ _ _ _ n o,Result.andThen, @Go.MapKept.run_setObj_map P w b a c _ m,putObj]
  ·unfold b8;rw[g];simp[f]
 |some x=>
  obtain⟨j,u⟩:=x;rw[g]at o;obtain⟨-,hj,y⟩:=m6 l k 0 j u g;rw[Nat.sub_zero]at y;have hlen:a.size=l.length:=by have:=congrArg List.length f;simpa using this
  have p:j<a.size:=by omega
  have B:a[j].key=.int q k:=by
   have d:(a.toList.map (fun e=>(e.key,e.val)))[j]?=(l.map fun x=>(Value.int q x.1,enc x.2))[j]?:=(by rw[f]);rw[List.getElem?_map,List.getElem?_map,y]at d;have z:a.toList[j]?=some a[j]:=(by simp[p]);rw[z]at d;have:=Option.some.inj d;exact congrArg Prod.fst this
  refine⟨putObj w b (.map (a.modify j fun e=>{e with key:=.int q k,val:=enc v}) c),?_,⟨_,_,hc _ _ _ hb,?_⟩,jr _ _ _ rfl⟩
  ·have C:= @Go.MapKept.run_keyThatStays P w _ _ r
   simp[Instr.mapUpdate,run_underlying s, @Go.MapKept.run_getObj_map P w b a c m, @Go.MapKept.run_checkKey P w K _ _ n r, @Go.MapKept.run_findKey P w K _ _ _ _ n o,Result.andThen, @Go.MapKept.run_setObj_map P w b a c _ m,putObj,p,B,C]
  ·unfold b8;rw[g]
   apply List.ext_getElem?;intro i;have d:(a.toList.map (fun e=>(e.key,e.val)))[i]?=(l.map fun x=>(Value.int q x.1,enc x.2))[i]?:=(by rw[f]);simp only[List.getElem?_map,List.getElem?_set,Array.toList_modify,List.getElem?_modify]at d⊢;by_cases t:j=i
   ·subst t
    have A:j<l.length:=(by omega);simp[p,A]
   ·simp[t]
    simpa using d
theorem iZ{T K E ty kT:TypeId}(m:P.underlying T=some (.map K E))(g:P.underlying K=some (.int q))(h:bH w b q enc l)(k:Int):
 ∃w',(Builtin.delete_ #[T,kT] ty #[.map (some b),.int q k]).run P w=.ok (.tuple #[]) w'/\bH w' b q enc (fk l k)/\Ch (aK b) w w':=by
 have hb:=h.lt;obtain⟨a,c,e,f⟩:=h;have i:=hG q enc k a.toList l 0 f;have n:Go.MapKept.IsKey (.int q) (.int q k):=by simp[Go.MapKept.IsKey]
 cases d:dU l k 0 with
 |none=>
  rw[d]at i;refine⟨putObj w b (.map a c),?_,⟨_,_,hc _ _ _ hb,by unfold fk;rw[d];exact f⟩,jr _ _ _ rfl⟩;simp[Builtin.delete_,run_underlying m, @Go.MapKept.run_getObj_map P w b a c e, @Go.MapKept.run_checkKey P w K _ _ g n, @Go.MapKept.run_findKey P w K _ _ _ _ g i,Result.andThen, @Go.MapKept.run_setObj_map P w b a c _ e,putObj]
 |some x=>
  obtain⟨j,u⟩:=x;rw[d]at i;obtain⟨-,hj,p⟩:=m6 l k 0 j u d;have hlen:a.size=l.length:=by have:=congrArg List.length f;simpa using this
  refine⟨putObj w b (.map (a.eraseIdxIfInBounds j) c),?_,⟨_,_,hc _ _ _ hb,?_⟩,jr _ _ _ rfl⟩
  ·simp[Builtin.delete_,run_underlying m, @Go.MapKept.run_getObj_map P w b a c e, @Go.MapKept.run_checkKey P w K _ _ g n, @Go.MapKept.run_findKey P w K _ _ _ _ g i,Result.andThen, @Go.MapKept.run_setObj_map P w b a c _ e,putObj]
  ·unfold fk;rw[d]
   have o:j<a.size:=(by omega);simp only[Array.eraseIdxIfInBounds,o,dite_true,Array.toList_eraseIdx];rw[Go.ChangeMaps.map_eraseIdx,f,<-Go.ChangeMaps.map_eraseIdx]
end
end
structure a8 where
 d:Int
 bS:Int
 h:Int
 deriving DecidableEq,Repr,Inhabited
def a8.cells(t:a8):List Value:=[.int .u64 t.d,.int .u64 t.bS,.int .i64 t.h]
def a8.val(t:a8):Value:=.agg #[.int .u64 t.d,.int .u64 t.bS,.int .i64 t.h]
theorem a8.len(t:a8):t.cells.length=3:=rfl
structure ah where
 l:List a8
 at_:List (Int×Int)
 last:Int
structure aM(w:World)(b mb:Nat)(v:Value)(S:ah):Prop where
 head:Row w b 307 [v,.map (some mb),.int .i64 S.last]
 own:w.ownsRow 0 328 3 v S.l.length (S.l.flatMap a8.cells)
 map:bH w mb .i64 (Value.int .i64) S.at_
def cn(b mb:Nat)(v:Value):Nat->Prop:=fun i=>i=b∨i=mb∨v.ownBlock=some i
theorem ar{w w':World}{D:Nat->Prop}{B:Nat}{e:TypeId}{size:Nat}{v:Value}{n:Nat}{b:List Value}(h:w.ownsRow B e size v n b)(c:Ch D w w')(j:∀g,v.ownBlock=some g->¬D g):w'.ownsRow B e size v n b:=by
 refine⟨h.1,?_⟩;rcases h.2 with d|⟨g,cap,cur,rfl,i,a,f⟩
 ·exact Or.inl d
 ·exact Or.inr ⟨g,cap,cur,rfl,i,(c.same g (Array.getElem?_eq_some_iff.1 a).1 (j g rfl)).trans a,f⟩
theorem aM.alloc{w:World}{b mb:Nat}{v:Value}{S:ah}(h:aM w b mb v S)(a:Obj):aM (w.alloc a) b mb v S:=⟨h.head.alloc a,h.own.alloc a,h.map.alloc a⟩
theorem aM.drew{w:World}{b mb:Nat}{v:Value}{S:ah}(h:aM w b mb v S):aM w.drew b mb v S:=⟨h.head,h.own.drew,h.map⟩
theorem aM.drewN{w:World}{b mb:Nat}{v:Value}{S:ah}(h:aM w b mb v S)(n:Nat):aM (w.drewN n) b mb v S:=⟨h.head,⟨h.own.1,h.own.2⟩,h.map⟩
theorem aM.ch{w w':World}{D:Nat->Prop}{b mb:Nat}{v:Value}{S:ah}(h:aM w b mb v S)(c:Ch D w w')(hb:¬D b)(d:¬D mb)(a:∀g,v.ownBlock=some g->¬D g):aM w' b mb v S:=⟨h.head.ch c hb,ar h.own c a,h.map.ch c d⟩
theorem aM.sl{w:World}{b mb:Nat}{v:Value}{S:ah}(h:aM w b mb v S)(k:0<S.l.length):∃g cap c,v=.slice (some ⟨g,0,none⟩) S.l.length cap/\S.l.length<=cap/\cap<=maxLen/\Row w g 328 (S.l.flatMap a8.cells++c)/\(S.l.flatMap a8.cells++c).length=cap*3:=by
 rcases h.own.2 with⟨_,j⟩|⟨g,cap,cur,rfl,_,e,d,f,i,a⟩
 ·omega
 ·refine⟨g,cap,cur.toList.drop (S.l.length*3),rfl,d,f,?_,?_⟩
  ·unfold Row;rw[<-a,List.take_append_drop];simpa using e
  ·rw[<-a,List.take_append_drop];simpa using i
theorem aM.cell{w:World}{b mb g n cap:Nat}{S:ah}(h:aM w b mb (.slice (some ⟨g,0,none⟩) n cap) S){i:Nat}{t:a8}(d:S.l[i]?=some t):
 w.cell? ⟨g,i*3,none⟩=some (.int .u64 t.d)/\w.cell? ⟨g,i*3+1,none⟩=some (.int .u64 t.bS)/\w.cell? ⟨g,i*3+2,none⟩=some (.int .i64 t.h)/\(∀j,w.frozen? ⟨g,j,none⟩=false)/\g<w.heap.size/\g≠b/\mb≠g:=by
 have q:=(List.getElem?_eq_some_iff.1 d).1;obtain⟨g',l,u,f,p,s,c,r⟩:=h.sl (by omega);injection f with a m o
 injection a with a
 injection a with a
 subst a;have e:=a7 a8.len S.l;have key:∀j v,j<3->(t.cells)[j]?=some v->w.cell? ⟨g,i*3+j,none⟩=some v:=fun j v hj k=>c.cell (by
  rw[List.getElem?_append_left (by rw[e];omega)];exact(bP a8.len d hj).trans k)
 exact⟨key 0 _ (by omega) rfl,key 1 _ (by omega) rfl,key 2 _ (by omega) rfl,fun j=>c.free j,c.lt,c.ne h.head (by decide),h.map.ne c⟩
theorem aM.lay{w:World}{b mb g n cap:Nat}{S:ah}(h:aM w b mb (.slice (some ⟨g,0,none⟩) n cap) S){i:Nat}(d:i<S.l.length)(t:a8){i1 i2:Nat}(q:i1=i*3+1)(r:i2=i*3+2):
 aM (((w.setCell ⟨g,i*3,none⟩ (.int .u64 t.d)).setCell ⟨g,i1,none⟩ (.int .u64 t.bS)).setCell ⟨g,i2,none⟩ (.int .i64 t.h)) b mb (.slice (some ⟨g,0,none⟩) n cap) {S with l:=S.l.set i t}:=by
 subst q r;obtain⟨x,p⟩:∃x,S.l[i]?=some x:=⟨_,List.getElem?_eq_getElem d⟩;obtain⟨-,-,-,-,-,c,f⟩:=h.cell p;obtain⟨g',H,m,A,z,C,D,B⟩:=h.sl (by omega);injection A with a s u
 injection a with a
 injection a with a
 subst a s u;have o:=a7 a8.len S.l;refine⟨((h.head.other (fun e=>c e.symm) _).other (fun e=>c e.symm) _).other (fun e=>c e.symm) _,?_,((h.map.other f _).other f _).other f _⟩;have E:=D.a' (i*3) (.int .u64 t.d) (l':=(S.l.set i ⟨t.d,x.bS,x.h⟩).flatMap a8.cells++m) (by
  rw[List.set_append_left _ _ (by rw[o];omega)];congr 1;exact fg (j:=0) a8.len p (by omega) rfl)
 have F:=E.a' (i*3+1) (.int .u64 t.bS) (l':=(S.l.set i ⟨t.d,t.bS,x.h⟩).flatMap a8.cells++m) (by
  rw[List.set_append_left _ _ (by rw[a7 a8.len,List.length_set];omega)];congr 1;have:=fg (enc:=a8.cells) (k:=3) (l:=S.l.set i ⟨t.d,x.bS,x.h⟩) (i:=i) (x:=⟨t.d,x.bS,x.h⟩) (y:=⟨t.d,t.bS,x.h⟩) (j:=1) (v:=.int .u64 t.bS) a8.len (by simp[d]) (by omega) rfl
  rwa [List.set_set]at this)
 have G:=F.a' (i*3+2) (.int .i64 t.h) (l':=(S.l.set i t).flatMap a8.cells++m) (by
  rw[List.set_append_left _ _ (by rw[a7 a8.len,List.length_set];omega)];congr 1;have:=fg (enc:=a8.cells) (k:=3) (l:=S.l.set i ⟨t.d,t.bS,x.h⟩) (i:=i) (x:=⟨t.d,t.bS,x.h⟩) (y:=t) (j:=2) (v:=.int .i64 t.h) a8.len (by simp[d]) (by omega) rfl
  rwa [List.set_set]at this)
 refine⟨by rw[a7 a8.len],Or.inr ⟨g,_,_,by rw[List.length_set],Nat.zero_le _,G,by simpa using z,C,?_,?_⟩⟩
 ·rw[List.size_toArray,List.length_append,a7 a8.len,List.length_set,<-o,<-List.length_append];exact B
 ·rw[List.toList_toArray]
  show List.take ((S.l.set i t).length*3) _=_
  rw[List.take_left' (a7 a8.len _)]
theorem aM.qD{w w':World}{b mb:Nat}{v:Value}{S:ah}{at':List (Int×Int)}(h:aM w b mb v S)(i:bH w' mb .i64 (Value.int .i64) at')(c:Ch (aK mb) w w'):aM w' b mb v {S with at_:=at'}:=
 ⟨h.head.ch c (fun e=>h.map.ne h.head e.symm),ar h.own c (fun g a e=>by
  subst e;rcases h.own.2 with⟨rfl,_⟩|⟨g',cap,cur,rfl,_,d,_⟩
  ·cases a
  ·have:g'=g:=by simpa[Value.ownBlock]using a
   subst this;obtain⟨j,k,f,_⟩:=h.map;rw[f]at d;cases d),i⟩
def eG(a b:a8):Bool:=decide (a.d<b.d)||(a.d==b.d&&decide (a.h<b.h))
theorem mQ(a b:a8)(w:World):Calls prog 238 #[a.val,b.val] w (dt (.bool (eG a b)) w):=by
 unfold a8.val;obtain⟨c,aw,e⟩:=a;obtain⟨d,g,f⟩:=b;dsimp only;by_cases h:c<d
 ·have E:Hid (eG ⟨c,aw,e⟩ ⟨d,g,f⟩=true):=Z (by unfold eG;simp[h])
  go_enter func238,ntmps238
  go_wp2
  go_ret;exact dt.mk (by rw[E.out];rfl) (((Ch.refl _ _).alloc _).alloc _)
 ·cases i:(c==d)
  ·have E:Hid (eG ⟨c,aw,e⟩ ⟨d,g,f⟩=false):=Z (by unfold eG;simp only[i];simp[h])
   go_enter func238,ntmps238
   go_wp2
   go_ret;exact dt.mk (by rw[E.out];rfl) (((Ch.refl _ _).alloc _).alloc _)
  ·have E:Hid (eG ⟨c,aw,e⟩ ⟨d,g,f⟩=decide (e<f)):=Z (by unfold eG;simp only[i];simp[h])
   go_enter func238,ntmps238
   go_wp2
   go_ret;exact dt.mk (by rw[E.out];rfl) (((Ch.refl _ _).alloc _).alloc _)
def ah.lay(S:ah)(i:Nat)(t:a8):ah:={S with l:=S.l.set i t,at_:=b8 S.at_ t.h i}
theorem kQ{b mb:Nat}{v:Value}{w w':World}(h:Ch (aK mb) w w'):Ch (cn b mb v) w w':=h.mono fun i a=>Or.inr (Or.inl a)
theorem jU{b mb g n cap:Nat}{a w:World}(h:Ch (cn b mb (.slice (some ⟨g,0,none⟩) n cap)) a w)(c:Nat)(x:Value):Ch (cn b mb (.slice (some ⟨g,0,none⟩) n cap)) a (w.setCell ⟨g,c,none⟩ x):=
 h.gS (p:=⟨g,c,none⟩) (Or.inr (Or.inr rfl)) x
def jV(b mb:Nat)(v:Value)(S':ah)(w:World)(e:Ending)(w':World):Prop:=e=.returned (.tuple #[])/\aM w' b mb v S'/\Ch (cn b mb v) w w'
theorem o1(b mb:Nat)(v:Value)(S:ah)(i:Nat)(m:i<S.l.length)(t:a8)(w:World)(h:aM w b mb v S):
 Calls prog 198 #[.pointer (some ⟨b,0,none⟩),.int .i64 i,t.val] w (jV b mb v (S.lay i t) w):=by
 unfold a8.val;obtain⟨g,cap,V,rfl,F,-,-,-⟩:=h.sl (by omega);have H:=Z h;obtain⟨x,u⟩:∃x,S.l[i]?=some x:=⟨_,List.getElem?_eq_getElem m⟩;have o:=Z u;have B:=Z m;have I:(i:Int)<S.l.length:=by omega
 obtain⟨N,k⟩:=mn S.l.length;rw[<-k]at I H F⊢;have R:=Z k;clear h u m k;go_enter func198,ntmps198
 go_wp2
 obtain⟨w1,a⟩:=nm (w.alloc (.cells #[.int .u64 t.d,.int .u64 t.bS,.int .i64 t.h] 328));have f:Hid (aM w1 b mb (.slice (some ⟨g,0,none⟩) N cap) S):=Z (by rw[<-a];exact H.out.alloc _);have z:Hid (Ch (cn b mb (.slice (some ⟨g,0,none⟩) N cap)) w w1):=Z (by rw[<-a];exact(Ch.refl _ _).alloc _);have y:w1.heap.size=w.heap.size+1:=by rw[<-a];simp
 have t0:w1.cell? ⟨w.heap.size,0,none⟩=some (.int .u64 t.d):=by rw[<-a];simp
 have t1:w1.cell? ⟨w.heap.size,1,none⟩=some (.int .u64 t.bS):=by rw[<-a];simp
 have t2:w1.cell? ⟨w.heap.size,2,none⟩=some (.int .i64 t.h):=by rw[<-a];simp
 have r:g<w.heap.size:=(H.out.cell o.out).2.2.2.2.1;rw[a];clear a;obtain⟨tb,s⟩:=mn w.heap.size;rw[<-s]at y t0 t1 t2 r⊢;clear s;have D:=f.out.head.c1;obtain⟨M,O,Q,fr,J,G,L⟩:=f.out.cell o.out;have d:g≠tb:=by omega
 clear r y J;go_still_tail 6,(by kernel_rfl)
 change wpList _ _ _ _ _ w1.drew;go_wp2
 obtain⟨w2,c⟩:=nm ((((w1.setCell ⟨g,i*3,none⟩ (.int .u64 t.d)).setCell ⟨g,i*3+1,none⟩ (.int .u64 t.bS)).setCell ⟨g,i*3+2,none⟩ (.int .i64 t.h)).drew);have j:Hid (aM w2 b mb (.slice (some ⟨g,0,none⟩) N cap) {S with l:=S.l.set i t}):=Z (by rw[<-c];exact(f.out.lay B.out t rfl rfl).drew);have A:Hid (Ch (cn b mb (.slice (some ⟨g,0,none⟩) N cap)) w w2):=Z (by rw[<-c];exact(jU (jU (jU z.out _ _) _ _) _ _).drew);have s2:w2.cell? ⟨tb,2,none⟩=some (.int .i64 t.h):=by
  rw[<-c,World.cell?_drew,World.cell?_setCell_other _ _ _ _ (fun e=>d (congrArg Addr.block e)),World.cell?_setCell_other _ _ _ _ (fun e=>d (congrArg Addr.block e)),World.cell?_setCell_other _ _ _ _ (fun e=>d (congrArg Addr.block e))];exact t2
 rw[c];clear c;have d1:=j.out.head.k 1 rfl;obtain⟨W,U,q,p⟩:=fm (P:=prog) (T:=304) (K:=3) (E:=3) underlying304 underlying3 j.out.drew.map t.h (i:Int);have C:=Z q;have n:=Z p;clear q p D M O Q fr t0 t1 t2 d G L;go_still_tail 7,(by kernel_rfl)
 change wpList _ _ _ _ _ w2.drew;go_wp2
 go_end0
 exact⟨rfl,j.out.drew.qD C.out n.out,A.out.drew.trans (kQ n.out)⟩
theorem ah.b1(S:ah)(i:Nat)(t:a8):(S.lay i t).l.length=S.l.length:=by unfold ah.lay;simp
def gK:Nat->ah->Nat->a8->ah×Nat
 |0,S,i,_=>(S,i)
 |f+1,S,i,t=>if i=0 then(S,i)else
  match S.l[(i-1)/2]? with
  |none=>(S,i)
  |some p=>if eG t p then gK f (S.lay i p) ((i-1)/2) t else(S,i)
def ah.up(S:ah)(i:Nat):ah:=
 match S.l[i]? with
 |none=>S
 |some t=>(gK (i+1) S i t).1.lay (gK (i+1) S i t).2 t
theorem aM.at{w:World}{b mb:Nat}{v:Value}{S:ah}(h:aM w b mb v S){i:Nat}{t:a8}(a:S.l[i]?=some t):∃g cap,v=.slice (some ⟨g,0,none⟩) S.l.length cap/\S.l.length<=cap/\
 w.cell? ⟨g,i*3,none⟩=some (.int .u64 t.d)/\w.cell? ⟨g,i*3+1,none⟩=some (.int .u64 t.bS)/\w.cell? ⟨g,i*3+2,none⟩=some (.int .i64 t.h)/\g<w.heap.size:=by
 have k:=(List.getElem?_eq_some_iff.1 a).1;obtain⟨g,cap,l,rfl,c,-,-,-⟩:=h.sl (by omega);obtain⟨e,f,j,-,d,-,-⟩:=h.cell a;exact⟨g,cap,rfl,c,e,f,j,d⟩
theorem lJ(b mb:Nat)(v:Value)(S:ah)(i:Nat)(d:i<S.l.length)(t:a8)(w:World)(h:aM w b mb v S)(a:Int)(c:a=i):
 Calls prog 198 #[.pointer (some ⟨b,0,none⟩),.int .i64 a,.agg #[.int .u64 t.d,.int .u64 t.bS,.int .i64 t.h]] w (jV b mb v (S.lay i t) w):=by
 subst c;exact o1 b mb v S i d t w h
theorem ix(a b:a8)(r:Bool)(w:World)(h:eG a b=r):Calls prog 238 #[.agg #[.int .u64 a.d,.int .u64 a.bS,.int .i64 a.h],.agg #[.int .u64 b.d,.int .u64 b.bS,.int .i64 b.h]] w (dt (.bool r) w):=by
 subst h;exact mQ a b w
theorem pF(b mb:Nat)(v:Value)(S:ah)(i:Nat)(V:i<S.l.length)(hb:S.l.length<=1000000)(w:World)(h:aM w b mb v S):
 Calls prog 199 #[.pointer (some ⟨b,0,none⟩),.int .i64 i] w (jV b mb v (S.up i) w):=by
 obtain⟨t,M⟩:∃t,S.l[i]?=some t:=⟨_,List.getElem?_eq_getElem V⟩;have F:Hid (S.up i=(gK (i+1) S i t).1.lay (gK (i+1) S i t).2 t):=Z (by unfold ah.up;rw[M]);obtain⟨g,cap,rfl,bi,bv,bw,c0,U⟩:=h.at M;have H:=Z h;have r:=h.head.c1;obtain⟨N,J⟩:=mn S.l.length;rw[<-J]at r V hb bi H⊢;have a2:=Z J;have c1:(i:Int)<N:=by omega
 clear h M J;go_enter func199,ntmps199
 go_wp2
 obtain⟨tb,B⟩:=mn w.heap.size;rw[<-B];obtain⟨w1,z⟩:=nm (w.alloc (.cells #[.int .u64 t.d,.int .u64 t.bS,.int .i64 t.h] 328));have Y:Hid (aM w1 b mb (.slice (some ⟨g,0,none⟩) N cap) S):=Z (by rw[<-z];exact H.out.alloc _);have X:Hid (Ch (cn b mb (.slice (some ⟨g,0,none⟩) N cap)) w w1):=Z (by rw[<-z];exact(Ch.refl _ _).alloc _);have al:Hid (Row w1 tb 328 t.cells):=Z (by rw[<-z,B];exact Row.new w _ _);rw[z];have ab:Hid (w.heap.size=tb/\g<w.heap.size/\b<w.heap.size/\mb<w.heap.size):=Z ⟨B.symm,U,H.out.head.lt,H.out.map.lt⟩;clear z B r bv bw c0 U;go_loopw [1] (fun s wr=>∃(k f:Nat) (S':ah),s=.int .i64 k/\k<=i/\k<f/\Hid (gK f S' k t=gK (i+1) S i t/\S'.l.length=N/\aM wr b mb (.slice (some ⟨g,0,none⟩) N cap) S'/\Row wr tb 328 t.cells/\Ch (cn b mb (.slice (some ⟨g,0,none⟩) N cap)) w wr)) (fun s _=>(intOf s).toNat)
 case atStart=>exact⟨i,i+1,S,rfl,Nat.le_refl _,Nat.lt_succ_self _,rfl,a2.out.symm,Y.out,al.out,X.out⟩
 case round=>
  obtain⟨k,f,S',rfl,c6,c5,l⟩:=hrel;have q:=Z l.out.2.1;have A:=Z l.out.2.2.1;have T:=Z l.out.2.2.2.1;have Q:=Z l.out.2.2.2.2;have r:=A.out.head.c1;obtain⟨t0,t1,t2⟩:=T.out.c3;have I:=Z (fun(j:Nat) (hj:j<N) (x:a8) (w:World) (S:ah) (c7:S.l.length=N) h ad av=>lJ b mb (.slice (some ⟨g,0,none⟩) N cap) S j (by omega) x w h ad av);obtain⟨n,rfl⟩:∃n,f=n+1:=⟨f-1,by omega⟩;have fin:Hid (∀w2,aM w2 b mb (.slice (some ⟨g,0,none⟩) N cap) S'->gK (n+1) S' k t=(S',k)->aM w2 b mb (.slice (some ⟨g,0,none⟩) N cap) S'/\S.up i=S'.lay k t):=Z (fun w2 ap e=>⟨ap,by rw[F.out,<-l.out.1,e]⟩);by_cases L:k=0
  ·subst L
   have E:Hid (S.up i=S'.lay 0 t):=Z (by rw[F.out,<-l.out.1];rfl);go_wp2
   go_quiet (fail)
   go_wp2_with fail
   with_reducible refine(I.out 0 (by omega) t _ S' q.out (A.out.drewN _) _ ?_).mono ?_
   ·rfl
   rintro e d ⟨rfl,m,a⟩;have a1:=Z m;have a0:=Z a;clear m a;go_wp2
   go_end0
   rw[E.out];exact⟨rfl,a1.out,(Q.out.drewN _).trans a0.out⟩
  ·have c2:(1:Int)<=k:=by omega
   have c3:(0:Int)<k:=(by omega);have c4:0<k:=(by omega);obtain⟨p,W⟩:=mn ((k-1)/2);have c8:((k:Int)-1).tdiv 2=(p:Int):=(by rw[Int.tdiv_eq_ediv_of_nonneg (by omega)];omega);have c9:((k:Int)-1)/2=(p:Int):=(by omega);have ce:IntKind.i64.wrap ((k:Int)-1)=(k:Int)-1:=IntWalk.i64_in _ (by omega);have ch:IntKind.i64.wrap (p:Int)=(p:Int):=IntWalk.i64_in _ (by omega);have cb:(p:Int)<N:=(by omega);have cd:p<k:=(by omega);obtain⟨x,O⟩:∃x,S'.l[p]?=some x:=⟨_,List.getElem?_eq_getElem (by rw[q.out];omega)⟩;obtain⟨x0,x1,x2,-,-,-,-⟩:=A.out.cell O;have R:=Z W;have G:=Z O;clear W O;have P:Hid (∀d,Ch ag wr.drew d->aM d b mb (.slice (some ⟨g,0,none⟩) N cap) S'/\Row d tb 328 t.cells/\Ch (cn b mb (.slice (some ⟨g,0,none⟩) N cap)) w d):=Z (fun d a=>
    ⟨A.out.drew.ch a (fun h=>h) (fun h=>h) (fun _ _ h=>h),T.out.drew.ch a (fun h=>h),Q.out.drew.trans a.af⟩)
   cases o:eG t x
   ·have E:Hid (S.up i=S'.lay k t):=Z (by
     have e:gK (n+1) S' k t=(S',k):=(by unfold gK;rw[if_neg L,<-R.out,G.out];simp only[o];rfl);rw[F.out,<-l.out.1,e])
    have HA:=Z (fun w=>ix t x false w o);clear o;go_wp2
    go_still_tail 13,(by kernel_rfl)
    change wpList _ _ _ _ _ wr.drew;go_wp2_with fail
    refine(HA.out _).mono ?_;rintro e d ⟨rfl,y⟩;have c:=Z (P.out d y);have am:=c.out.1.head.cell (i:=0) rfl;have ci:=c.out.2.1.cell (i:=0) rfl;have cl:=c.out.2.1.cell (i:=1) rfl;have cm:=c.out.2.1.cell (i:=2) rfl;clear r t0 t1 t2 x0 x1 x2 y;go_wp2_with fail
    with_reducible refine(I.out k (by omega) t _ S' q.out c.out.1 _ ?_).mono ?_
    ·rfl
    rintro e w4 ⟨rfl,m,a⟩;have D:=Z m;have C:=Z a;clear m a;go_wp2
    go_end0
    rw[E.out];exact⟨rfl,D.out,c.out.2.2.trans C.out⟩
   ·have E:Hid (gK n (S'.lay k x) p t=gK (i+1) S i t):=Z (by
     rw[<-l.out.1]
     conv=>rhs;unfold gK
     rw[if_neg L,<-R.out,G.out];simp only[o];rfl)
    have HA:=Z (fun w=>ix t x true w o);clear o;go_wp2
    go_still_tail 13,(by kernel_rfl)
    change wpList _ _ _ _ _ wr.drew;go_wp2_with fail
    refine(HA.out _).mono ?_;rintro e d ⟨rfl,y⟩;have c:=Z (P.out d y);have am:=c.out.1.head.cell (i:=0) rfl;obtain⟨cq,cs,ct,-,-,-,-⟩:=c.out.1.cell G.out;have K:Hid (tb≠b/\tb≠mb/\tb≠g):=Z (by
     have:=ab.out;refine⟨by omega,by omega,by omega⟩)
    clear r t0 t1 t2 x0 x1 x2 y;go_wp2_with fail
    with_reducible refine(I.out k (by omega) x _ S' q.out c.out.1 _ ?_).mono ?_
    ·rfl
    rintro e w4 ⟨rfl,m,a⟩;have D:=Z m;have C:=Z a;have a3:Hid (Row w4 tb 328 t.cells):=Z (c.out.2.1.ch a (by
     rintro(u|u|u)
     ·exact K.out.1 u
     ·exact K.out.2.1 u
     ·exact K.out.2.2 (Option.some.inj u).symm))
    clear m a;go_wp2
    go_roundw
    case rel=>exact⟨p,n,S'.lay k x,rfl,by omega,by omega,E.out,by rw[ah.b1];exact q.out,D.out,a3.out,c.out.2.2.trans C.out⟩
    case measure=>simp[intOf];omega
def jE(S:ah)(i:Nat)(a:a8):Nat:=
 match S.l[2*i+2]? with
 |none=>2*i+1
 |some c=>if eG c a then 2*i+2 else 2*i+1
def bN:Nat->ah->Nat->a8->ah×Nat
 |0,S,i,_=>(S,i)
 |f+1,S,i,t=>
  match S.l[2*i+1]? with
  |none=>(S,i)
  |some a=>match S.l[jE S i a]? with
   |none=>(S,i)
   |some x=>if eG x t then bN f (S.lay i x) (jE S i a) t else(S,i)
def ah.down(S:ah)(i:Nat):ah:=
 match S.l[i]? with
 |none=>S
 |some t=>(bN (S.l.length+1) S i t).1.lay (bN (S.l.length+1) S i t).2 t
theorem nZ(b mb:Nat)(v:Value)(S:ah)(i:Nat)(ad:i<S.l.length)(hb:S.l.length<=1000000)(w:World)(h:aM w b mb v S):
 Calls prog 200 #[.pointer (some ⟨b,0,none⟩),.int .i64 i] w (jV b mb v (S.down i) w):=by
 obtain⟨t,al⟩:∃t,S.l[i]?=some t:=⟨_,List.getElem?_eq_getElem ad⟩;obtain⟨g,cap,rfl,cS,dr,dC,dN,c5⟩:=h.at al;have H:=Z h;have M:=h.head.c1;obtain⟨N,V⟩:=mn S.l.length;have U:Hid (S.down i=(bN (N+1) S i t).1.lay (bN (N+1) S i t).2 t):=Z (by unfold ah.down;rw[al,V]);rw[<-V]at M ad hb cS H⊢;have cs:=Z V;have et:(i:Int)<N:=by omega
 clear h al V;go_enter func200,ntmps200
 go_wp2
 obtain⟨tb,W⟩:=mn w.heap.size;rw[<-W];obtain⟨w1,T⟩:=nm (w.alloc (.cells #[.int .u64 t.d,.int .u64 t.bS,.int .i64 t.h] 328));have cq:Hid (aM w1 b mb (.slice (some ⟨g,0,none⟩) N cap) S):=Z (by rw[<-T];exact H.out.alloc _);have cm:Hid (Ch (cn b mb (.slice (some ⟨g,0,none⟩) N cap)) w w1):=Z (by rw[<-T];exact(Ch.refl _ _).alloc _);have cA:Hid (Row w1 tb 328 t.cells):=Z (by rw[<-T,W];exact Row.new w _ _);rw[T];have ab:Hid (w.heap.size=tb/\g<w.heap.size/\b<w.heap.size/\mb<w.heap.size):=Z ⟨W.symm,c5,H.out.head.lt,H.out.map.lt⟩;clear T W M dr dC dN c5;go_loopw [1] (fun s wr=>∃(k f:Nat) (S':ah),s=.int .i64 k/\k<N/\N<f+k/\Hid (bN f S' k t=bN (N+1) S i t/\S'.l.length=N/\aM wr b mb (.slice (some ⟨g,0,none⟩) N cap) S'/\Row wr tb 328 t.cells/\Ch (cn b mb (.slice (some ⟨g,0,none⟩) N cap)) w wr)) (fun s _=>N-(intOf s).toNat)
 case atStart=>exact⟨i,N+1,S,rfl,ad,by omega,rfl,cs.out.symm,cq.out,cA.out,cm.out⟩
 case round=>
  obtain⟨k,f,S',rfl,eC,eA,D⟩:=hrel;have r:=Z D.out.2.1;have P:=Z D.out.2.2.1;have bi:=Z D.out.2.2.2.1;have ap:=Z D.out.2.2.2.2;have M:=P.out.head.c1;obtain⟨t0,t1,t2⟩:=bi.out.c3;have L:=Z (fun(j:Nat) (hj:j<N) (x:a8) (w:World) (S:ah) (eL:S.l.length=N) h ct cL=>lJ b mb (.slice (some ⟨g,0,none⟩) N cap) S j (by omega) x w h ct cL);obtain⟨B,rfl⟩:∃B,f=B+1:=⟨f-1,by omega⟩;have X:Hid (∀o,Ch ag wr o->aM o b mb (.slice (some ⟨g,0,none⟩) N cap) S'/\Row o tb 328 t.cells/\Ch (cn b mb (.slice (some ⟨g,0,none⟩) N cap)) w o):=Z (fun o l=>
   ⟨P.out.ch l (fun h=>h) (fun h=>h) (fun _ _ h=>h),bi.out.ch l (fun h=>h),ap.out.trans l.af⟩)
  have ex:(k:Int)<N:=by omega
  by_cases e1:2*k+1<N
  ·have cC:2*(k:Int)+1<N:=by omega
   obtain⟨a,c4⟩:∃a,S'.l[2*k+1]?=some a:=⟨_,List.getElem?_eq_getElem (by rw[r.out];omega)⟩;have K:=Z c4;clear c4;by_cases ec:2*k+2<N
   ·have c3:2*(k:Int)+1+1<N:=by omega
    have c2:2*k+1+1<N:=(by omega);obtain⟨c,l⟩:∃c,S'.l[2*k+2]?=some c:=⟨_,List.getElem?_eq_getElem (by rw[r.out];omega)⟩;obtain⟨a0,a1,a2,-,-,-,-⟩:=P.out.cell K.out;obtain⟨bw,c0,c1,-,-,-,-⟩:=P.out.cell l;have av:=Z l;clear l;have cW:IntKind.i64.wrap (2*(k:Int)+1+1)=2*(k:Int)+1+1:=IntWalk.i64_in _ (by omega);have eO:(2*(k:Int)+1+1).toNat=2*k+2:=(by omega);have eS:(2*(k:Int)+1).toNat=2*k+1:=(by omega);have eU:(0:Int)<=2*(k:Int)+1+1:=(by omega);have eW:(0:Int)<=2*(k:Int)+1:=(by omega);cases O:eG c a
    ·have Y:=Z (fun w=>ix c a false w O)
     have a3:=Z O;clear O;go_wp2
     go_still_tail 24,(by kernel_rfl)
     change wpList _ _ _ _ _ wr.drew;go_wp2_with fail
     refine(Y.out _).mono ?_;rintro e A ⟨rfl,R⟩;have m:=Z (X.out A ((Ch.refl _ _).drew.trans R));clear R a0 a1 a2 bw c0 c1;go_wp2
     obtain⟨j,hj⟩:=mn (2*k+1);have c7:j<N:=(by omega);have c6:(j:Int)<N:=(by omega);have c9:k<j:=(by omega);have J:Hid (jE S' k a=j):=Z (by unfold jE;rw[av.out];dsimp only;rw[a3.out,hj];rfl);have c8:2*(k:Int)+1=(j:Int):=(by omega);obtain⟨x,I⟩:∃x,S'.l[j]?=some x:=⟨_,List.getElem?_eq_getElem (by rw[r.out];omega)⟩;obtain⟨x0,x1,x2,-,-,-,-⟩:=m.out.1.cell I;have F:=Z I;clear I hj;have d0:=m.out.1.head.c1;obtain⟨u0,u1,u2⟩:=m.out.2.1.c3;try clear M t0 t1 t2
     cases q:eG x t
     ·have E:Hid (S.down i=S'.lay k t):=Z (by
       have e:bN (B+1) S' k t=(S',k):=by
        unfold bN;rw[K.out];dsimp only;rw[J.out,F.out];dsimp only;rw[q];rfl
       rw[U.out,<-D.out.1,e])
      have C:=Z (fun w=>ix x t false w q);clear q;go_wp2
      go_still_tail 8,(by kernel_rfl)
      change wpList _ _ _ _ _ A.drew;go_wp2_with fail
      refine(C.out _).mono ?_;rintro e o ⟨rfl,n⟩;have d:Hid (aM o b mb (.slice (some ⟨g,0,none⟩) N cap) S'/\Row o tb 328 t.cells/\Ch (cn b mb (.slice (some ⟨g,0,none⟩) N cap)) w o):=Z ⟨m.out.1.drew.ch n (fun h=>h) (fun h=>h) (fun _ _ h=>h),m.out.2.1.drew.ch n (fun h=>h),m.out.2.2.drew.trans n.af⟩;have cb:=d.out.2.1.cell (i:=0) rfl;have cd:=d.out.2.1.cell (i:=1) rfl;have ce:=d.out.2.1.cell (i:=2) rfl;clear d0 u0 u1 u2 x0 x1 x2 n;go_wp2_with fail
      with_reducible refine(L.out k (by omega) t _ S' r.out d.out.1 _ ?_).mono ?_
      ·rfl
      rintro e w4 ⟨rfl,p,l⟩;have z:=Z p;have y:=Z l;clear p l;go_wp2
      go_end0
      rw[E.out];exact⟨rfl,z.out,d.out.2.2.trans y.out⟩
     ·have E:Hid (bN B (S'.lay k x) j t=bN (N+1) S i t):=Z (by
       rw[<-D.out.1]
       conv=>rhs;unfold bN
       rw[K.out];dsimp only;rw[J.out,F.out];dsimp only;rw[q];rfl)
      have C:=Z (fun w=>ix x t true w q);clear q;go_wp2
      go_still_tail 8,(by kernel_rfl)
      change wpList _ _ _ _ _ A.drew;go_wp2_with fail
      refine(C.out _).mono ?_;rintro e o ⟨rfl,n⟩;have d:Hid (aM o b mb (.slice (some ⟨g,0,none⟩) N cap) S'/\Row o tb 328 t.cells/\Ch (cn b mb (.slice (some ⟨g,0,none⟩) N cap)) w o):=Z ⟨m.out.1.drew.ch n (fun h=>h) (fun h=>h) (fun _ _ h=>h),m.out.2.1.drew.ch n (fun h=>h),m.out.2.2.drew.trans n.af⟩;have bv:=d.out.1.head.cell (i:=0) rfl;obtain⟨ch,ci,cl,-,-,-,-⟩:=d.out.1.cell F.out;have G:Hid (tb≠b/\tb≠mb/\tb≠g):=Z (by
       have:=ab.out;refine⟨by omega,by omega,by omega⟩)
      clear d0 u0 u1 u2 x0 x1 x2 n;go_wp2_with fail
      with_reducible refine(L.out k (by omega) x _ S' r.out d.out.1 _ ?_).mono ?_
      ·rfl
      rintro e w4 ⟨rfl,p,l⟩;have z:=Z p;have y:=Z l;have Q:Hid (Row w4 tb 328 t.cells):=Z (d.out.2.1.ch l (by
       rintro(u|u|u)
       ·exact G.out.1 u
       ·exact G.out.2.1 u
       ·exact G.out.2.2 (Option.some.inj u).symm))
      clear p l;go_wp2
      go_roundw
      case rel=>exact⟨j,B,S'.lay k x,by go_num,by omega,by omega,E.out,by rw[ah.b1];exact r.out,z.out,Q.out,d.out.2.2.trans y.out⟩
      case measure=>simp[intOf];omega
    ·have Y:=Z (fun w=>ix c a true w O)
     have a3:=Z O;clear O;go_wp2
     go_still_tail 24,(by kernel_rfl)
     change wpList _ _ _ _ _ wr.drew;go_wp2_with fail
     refine(Y.out _).mono ?_;rintro e A ⟨rfl,R⟩;have m:=Z (X.out A ((Ch.refl _ _).drew.trans R));clear R a0 a1 a2 bw c0 c1;go_wp2
     obtain⟨j,hj⟩:=mn (2*k+2);have c7:j<N:=(by omega);have c6:(j:Int)<N:=(by omega);have c9:k<j:=(by omega);have J:Hid (jE S' k a=j):=Z (by unfold jE;rw[av.out];dsimp only;rw[a3.out,hj];rfl);have c8:2*(k:Int)+1+1=(j:Int):=(by omega);obtain⟨x,I⟩:∃x,S'.l[j]?=some x:=⟨_,List.getElem?_eq_getElem (by rw[r.out];omega)⟩;obtain⟨x0,x1,x2,-,-,-,-⟩:=m.out.1.cell I;have F:=Z I;clear I hj;have d0:=m.out.1.head.c1;obtain⟨u0,u1,u2⟩:=m.out.2.1.c3;try clear M t0 t1 t2
     cases q:eG x t
     ·have E:Hid (S.down i=S'.lay k t):=Z (by
       have e:bN (B+1) S' k t=(S',k):=by
        unfold bN;rw[K.out];dsimp only;rw[J.out,F.out];dsimp only;rw[q];rfl
       rw[U.out,<-D.out.1,e])
      have C:=Z (fun w=>ix x t false w q);clear q;go_wp2
      go_still_tail 8,(by kernel_rfl)
      change wpList _ _ _ _ _ A.drew;go_wp2_with fail
      refine(C.out _).mono ?_;rintro e o ⟨rfl,n⟩;have d:Hid (aM o b mb (.slice (some ⟨g,0,none⟩) N cap) S'/\Row o tb 328 t.cells/\Ch (cn b mb (.slice (some ⟨g,0,none⟩) N cap)) w o):=Z ⟨m.out.1.drew.ch n (fun h=>h) (fun h=>h) (fun _ _ h=>h),m.out.2.1.drew.ch n (fun h=>h),m.out.2.2.drew.trans n.af⟩;have cb:=d.out.2.1.cell (i:=0) rfl;have cd:=d.out.2.1.cell (i:=1) rfl;have ce:=d.out.2.1.cell (i:=2) rfl;clear d0 u0 u1 u2 x0 x1 x2 n;go_wp2_with fail
      with_reducible refine(L.out k (by omega) t _ S' r.out d.out.1 _ ?_).mono ?_
      ·rfl
      rintro e w4 ⟨rfl,p,l⟩;have z:=Z p;have y:=Z l;clear p l;go_wp2
      go_end0
      rw[E.out];exact⟨rfl,z.out,d.out.2.2.trans y.out⟩
     ·have E:Hid (bN B (S'.lay k x) j t=bN (N+1) S i t):=Z (by
       rw[<-D.out.1]
       conv=>rhs;unfold bN
       rw[K.out];dsimp only;rw[J.out,F.out];dsimp only;rw[q];rfl)
      have C:=Z (fun w=>ix x t true w q);clear q;go_wp2
      go_still_tail 8,(by kernel_rfl)
      change wpList _ _ _ _ _ A.drew;go_wp2_with fail
      refine(C.out _).mono ?_;rintro e o ⟨rfl,n⟩;have d:Hid (aM o b mb (.slice (some ⟨g,0,none⟩) N cap) S'/\Row o tb 328 t.cells/\Ch (cn b mb (.slice (some ⟨g,0,none⟩) N cap)) w o):=Z ⟨m.out.1.drew.ch n (fun h=>h) (fun h=>h) (fun _ _ h=>h),m.out.2.1.drew.ch n (fun h=>h),m.out.2.2.drew.trans n.af⟩;have bv:=d.out.1.head.cell (i:=0) rfl;obtain⟨ch,ci,cl,-,-,-,-⟩:=d.out.1.cell F.out;have G:Hid (tb≠b/\tb≠mb/\tb≠g):=Z (by
       have:=ab.out;refine⟨by omega,by omega,by omega⟩)
      clear d0 u0 u1 u2 x0 x1 x2 n;go_wp2_with fail
      with_reducible refine(L.out k (by omega) x _ S' r.out d.out.1 _ ?_).mono ?_
      ·rfl
      rintro e w4 ⟨rfl,p,l⟩;have z:=Z p;have y:=Z l;have Q:Hid (Row w4 tb 328 t.cells):=Z (d.out.2.1.ch l (by
       rintro(u|u|u)
       ·exact G.out.1 u
       ·exact G.out.2.1 u
       ·exact G.out.2.2 (Option.some.inj u).symm))
      clear p l;go_wp2
      go_roundw
      case rel=>exact⟨j,B,S'.lay k x,by go_num,by omega,by omega,E.out,by rw[ah.b1];exact r.out,z.out,Q.out,d.out.2.2.trans y.out⟩
      case measure=>simp[intOf];omega
   ·have c3:¬2*(k:Int)+1+1<N:=by omega
    have c2:¬2*k+1+1<N:=(by omega);have cW:IntKind.i64.wrap (2*(k:Int)+1+1)=2*(k:Int)+1+1:=IntWalk.i64_in _ (by omega);have en:decide (2*(k:Int)+1+1<(N:Int))=false:=(by simpa using c3);have es:decide (2*k+1+1<N)=false:=(by simpa using c2);go_wp2
    go_quiet (fail)
    obtain⟨A,am⟩:=nm (wr.drewN nq);have m:Hid (aM A b mb (.slice (some ⟨g,0,none⟩) N cap) S'/\Row A tb 328 t.cells/\Ch (cn b mb (.slice (some ⟨g,0,none⟩) N cap)) w A):=Z (by rw[<-am];exact X.out _ ((Ch.refl _ _).drewN _));rw[am];clear am;go_wp2
    obtain⟨j,hj⟩:=mn (2*k+1);have c7:j<N:=(by omega);have c6:(j:Int)<N:=(by omega);have c9:k<j:=(by omega);have J:Hid (jE S' k a=j):=Z (by unfold jE;rw[List.getElem?_eq_none (by rw[r.out];omega)];exact hj.symm);have c8:2*(k:Int)+1=(j:Int):=(by omega);obtain⟨x,I⟩:∃x,S'.l[j]?=some x:=⟨_,List.getElem?_eq_getElem (by rw[r.out];omega)⟩;obtain⟨x0,x1,x2,-,-,-,-⟩:=m.out.1.cell I;have F:=Z I;clear I hj;have d0:=m.out.1.head.c1;obtain⟨u0,u1,u2⟩:=m.out.2.1.c3;try clear M t0 t1 t2
    cases q:eG x t
    ·have E:Hid (S.down i=S'.lay k t):=Z (by
      have e:bN (B+1) S' k t=(S',k):=by
       unfold bN;rw[K.out];dsimp only;rw[J.out,F.out];dsimp only;rw[q];rfl
      rw[U.out,<-D.out.1,e])
     have C:=Z (fun w=>ix x t false w q);clear q;go_wp2
     go_still_tail 8,(by kernel_rfl)
     change wpList _ _ _ _ _ A.drew;go_wp2_with fail
     refine(C.out _).mono ?_;rintro e o ⟨rfl,n⟩;have d:Hid (aM o b mb (.slice (some ⟨g,0,none⟩) N cap) S'/\Row o tb 328 t.cells/\Ch (cn b mb (.slice (some ⟨g,0,none⟩) N cap)) w o):=Z ⟨m.out.1.drew.ch n (fun h=>h) (fun h=>h) (fun _ _ h=>h),m.out.2.1.drew.ch n (fun h=>h),m.out.2.2.drew.trans n.af⟩;have cb:=d.out.2.1.cell (i:=0) rfl;have cd:=d.out.2.1.cell (i:=1) rfl;have ce:=d.out.2.1.cell (i:=2) rfl;clear d0 u0 u1 u2 x0 x1 x2 n;go_wp2_with fail
     with_reducible refine(L.out k (by omega) t _ S' r.out d.out.1 _ ?_).mono ?_
     ·rfl
     rintro e w4 ⟨rfl,p,l⟩;have z:=Z p;have y:=Z l;clear p l;go_wp2
     go_end0
     rw[E.out];exact⟨rfl,z.out,d.out.2.2.trans y.out⟩
    ·have E:Hid (bN B (S'.lay k x) j t=bN (N+1) S i t):=Z (by
      rw[<-D.out.1]
      conv=>rhs;unfold bN
      rw[K.out];dsimp only;rw[J.out,F.out];dsimp only;rw[q];rfl)
     have C:=Z (fun w=>ix x t true w q);clear q;go_wp2
     go_still_tail 8,(by kernel_rfl)
     change wpList _ _ _ _ _ A.drew;go_wp2_with fail
     refine(C.out _).mono ?_;rintro e o ⟨rfl,n⟩;have d:Hid (aM o b mb (.slice (some ⟨g,0,none⟩) N cap) S'/\Row o tb 328 t.cells/\Ch (cn b mb (.slice (some ⟨g,0,none⟩) N cap)) w o):=Z ⟨m.out.1.drew.ch n (fun h=>h) (fun h=>h) (fun _ _ h=>h),m.out.2.1.drew.ch n (fun h=>h),m.out.2.2.drew.trans n.af⟩;have bv:=d.out.1.head.cell (i:=0) rfl;obtain⟨ch,ci,cl,-,-,-,-⟩:=d.out.1.cell F.out;have G:Hid (tb≠b/\tb≠mb/\tb≠g):=Z (by
      have:=ab.out;refine⟨by omega,by omega,by omega⟩)
     clear d0 u0 u1 u2 x0 x1 x2 n;go_wp2_with fail
     with_reducible refine(L.out k (by omega) x _ S' r.out d.out.1 _ ?_).mono ?_
     ·rfl
     rintro e w4 ⟨rfl,p,l⟩;have z:=Z p;have y:=Z l;have Q:Hid (Row w4 tb 328 t.cells):=Z (d.out.2.1.ch l (by
      rintro(u|u|u)
      ·exact G.out.1 u
      ·exact G.out.2.1 u
      ·exact G.out.2.2 (Option.some.inj u).symm))
     clear p l;go_wp2
     go_roundw
     case rel=>exact⟨j,B,S'.lay k x,by go_num,by omega,by omega,E.out,by rw[ah.b1];exact r.out,z.out,Q.out,d.out.2.2.trans y.out⟩
     case measure=>simp[intOf];omega
  ·have cC:¬2*(k:Int)+1<N:=by omega
   have E:Hid (S.down i=S'.lay k t):=Z (by
    have e:bN (B+1) S' k t=(S',k):=(by unfold bN;rw[List.getElem?_eq_none (by rw[r.out];omega)]);rw[U.out,<-D.out.1,e])
   go_wp2_with fail
   with_reducible refine(L.out k (by omega) t _ S' r.out P.out _ ?_).mono ?_
   ·rfl
   rintro e w4 ⟨rfl,p,l⟩;have z:=Z p;have y:=Z l;clear p l;go_wp2
   go_end0
   rw[E.out];exact⟨rfl,z.out,ap.out.trans y.out⟩
def b3(s:ByteArray)(i:Nat):Int:=((s.data.toList.getD i 0).toNat:Int)
def B8(k:IntKind)(p:Int×Bool)(w:World)(e:Ending)(w':World):Prop:=e=.returned (.tuple #[.int k p.1,.bool p.2])/\w=w'
theorem B8.mk{k:IntKind}{p:Int×Bool}{n:Int}{b:Bool}{w:World}(h:p=(n,b)):B8 k p w (.returned (.tuple #[.int k n,.bool b])) w:=⟨by rw[h],rfl⟩
def Bv(k:IntKind)(n:Int)(w:World)(e:Ending)(w':World):Prop:=e=.returned (.int k n)/\w=w'
theorem Bv.mk{k:IntKind}{n m:Int}{w:World}(h:n=m):Bv k n w (.returned (.int k m)) w:=⟨by rw[h],rfl⟩
def xN(k:IntKind)(p:Int×Bool)(w:World)(e:Ending)(w':World):Prop:=e=.returned (.tuple #[.int k p.1,.bool p.2])/\∃n,w'=w.drewN n
theorem xN.mk{k:IntKind}{p:Int×Bool}{n:Int}{b:Bool}{w:World}(m:Nat)(h:p=(n,b)):xN k p w (.returned (.tuple #[.int k n,.bool b])) (w.drewN m):=⟨by rw[h],m,rfl⟩
def dP(s:ByteArray):Int×Bool:=
 if(s.size:Int)=2/\b3 s 0=114/\48<=b3 s 1/\b3 s 1<=57 then(b3 s 1-48,true)
 else if(s.size:Int)=3/\b3 s 0=114/\49<=b3 s 1/\b3 s 1<=51/\48<=b3 s 2/\b3 s 2<=57 then(10*(b3 s 1-48)+(b3 s 2-48),decide (10*(b3 s 1-48)+(b3 s 2-48)<32))
 else(0,false)
def QB(b:Bool)(w:World)(e:Ending)(w':World):Prop:=e=.returned (.bool b)/\∃n,w'=w.drewN n
theorem QB.mk{b c:Bool}{w:World}(n:Nat)(h:b=c):QB b w (.returned (.bool c)) (w.drewN n):=⟨by rw[h],n,rfl⟩
def hE(c:UInt8):Bool:=decide ((97<=(c.toNat:Int)/\(c.toNat:Int)<=122)∨(48<=(c.toNat:Int)/\(c.toNat:Int)<=57))
def mM(s:ByteArray):Bool:=decide ((s.size:Int)<1∨16<(s.size:Int)∨b3 s 0<97∨122<b3 s 0)
def fR(s:ByteArray):Bool:=if mM s then false else if s.data.toList.all hE then !(dP s).2 else false
def mz(c:Int):Int:=
 if 48<=c/\c<=57 then c-48 else if 97<=c/\c<=102 then c-87 else if 65<=c/\c<=70 then c-55 else 99
def sm:List UInt8->Int->Int->Option Int
 |[],_,v=>some v
 |c::cs,j,v=>if mz c.toNat<10/\j<20/\v<=1844674407370955161/\v*10<=18446744073709551615-mz c.toNat then sm cs (j+1) (v*10+mz c.toNat)else none
def xh(s:ByteArray):Option Int:=if 2<=(s.size:Int)/\b3 s 0=48/\b3 s 1=120 then none else if s.size=0 then none else sm s.data.toList 0 0
def ao(w:World)(b:Nat)(X:aV):Prop:=Row w b 184 (aC X).toList
theorem ao.Eb{w:World}{b:Nat}{X:aV}(h:ao w b X)(n:Int):ao (w.setCell ⟨b,1,none⟩ (.int .i64 n)) b {X with a:=n}:=Row.a' h _ _ rfl
theorem ao.n3{w:World}{b:Nat}{X:aV}(h:ao w b X)(n:Int):ao (w.setCell ⟨b,2,none⟩ (.int .i64 n)) b {X with b:=n}:=Row.a' h _ _ rfl
theorem ao.vh{w:World}{b:Nat}{X:aV}(h:ao w b X)(n:Int):ao (w.setCell ⟨b,3,none⟩ (.int .i64 n)) b {X with c:=n}:=Row.a' h _ _ rfl
theorem ao.mi{w:World}{b:Nat}{X:aV}(h:ao w b X)(n:Int):ao (w.setCell ⟨b,4,none⟩ (.int .u64 n)) b {X with v:=n}:=Row.a' h _ _ rfl
theorem ao.vi{w:World}{b:Nat}{X:aV}(h:ao w b X)(n:Int):ao (w.setCell ⟨b,5,none⟩ (.int .i64 n)) b {X with m:=n}:=Row.a' h _ _ rfl
theorem ao.zB{w:World}{b:Nat}{X:aV}(h:ao w b X)(n:Int):ao (w.setCell ⟨b,6,none⟩ (.int .i64 n)) b {X with wh:=n}:=Row.a' h _ _ rfl
theorem ao.drewN{w:World}{b:Nat}{X:aV}(h:ao w b X)(n:Nat):ao (w.drewN n) b X:=h
theorem ao.drew{w:World}{b:Nat}{X:aV}(h:ao w b X):ao w.drew b X:=h
def g3:List UInt8->Int->Int
 |[],_=>-1
 |c::cs,i=>if(c.toNat:Int)=43 then i else g3 cs (i+1)
def Fl(s:ByteArray):ByteArray:=s.extract 1 (s.size-1)
def vj(t:ByteArray)(X:aV):Option aV:=
 if(dP t).2 then some {X with b:=(dP t).1}
 else if 0<=g3 t.data.toList 0 then
  (if(dP (t.extract 0 (g3 t.data.toList 0).toNat)).2 then(xh (t.extract ((g3 t.data.toList 0).toNat+1) t.size)).map fun v=>{X with b:=(dP (t.extract 0 (g3 t.data.toList 0).toNat)).1,v:=v}else none)
 else(xh t).map fun v=>{X with b:=-1,v:=v}
def tW(s:ByteArray)(X:aV):Option aV:=
 if(s.size:Int)<2∨b3 s 0≠91∨b3 s (s.size-1)≠93 then none else vj (Fl s) X
def fA(t:ByteArray)(a:Int):Int×ByteArray:=
 if 2<=t.size/\((t.extract (t.size-2) t.size).data.toList==[61,48])=true then(1,t.extract 0 (t.size-2))
 else if 2<=t.size/\((t.extract (t.size-2) t.size).data.toList==[62,48])=true then(2,t.extract 0 (t.size-2))
 else(a,t)
def jf(X:aV)(p:Int×ByteArray):Option aV:=
 match xh p.2 with
 |none=>none
 |some v=>if v<1∨99<v then none else some {X with wh:=p.1,m:=v}
def qC(s:ByteArray)(X:aV):Option aV:=jf X (fA (s.extract 1 s.size) X.wh)
end Go.Proofs.YtlihkblppjgebaaGreatDoor
