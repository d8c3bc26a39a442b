import Derived.Maps.Keyed
import Derived.WalkKit
import Derived.WalkSpells
import Derived.WalkLawsBesides
import Derived.Lib.Hide
import Derived.Deep.RegionHeld3
import Derived.StillTail
import Derived.Test.YtlihkblppjgebaaGreatDoorZAa
set_option linter.all false
set_option maxRecDepth 100000
set_option maxHeartbeats 0
namespace Go.Proofs.YtlihkblppjgebaaGreatDoor
open Go.RowKit Go.Proofs.Tryz
variable{w w':World}{B:Nat}
def ag:Nat->Prop:=fun _=>False
def aH(g:Nat):Nat->Prop:=fun i=>i=g
def cK(g k:Nat):Nat->Prop:=fun i=>i=g∨i=k
theorem Ch.only{g:Nat}{a b:World}(h:Ch (aH g) a b)(o:Nat)(v:Value):Ch (aH g) a (b.setCell (g,o) v):=h.hj (p:=⟨g,o,none⟩) (show g=g from rfl) v
theorem Ch.rF{g k:Nat}{a b:World}(h:Ch (cK g k) a b)(o:Nat)(v:Value):Ch (cK g k) a (b.setCell (g,o) v):=h.hj (p:=⟨g,o,none⟩) (show g=g∨g=k from Or.inl rfl) v
theorem Ch.mr{g k:Nat}{a b:World}(h:Ch (cK g k) a b)(o:Nat)(v:Value):Ch (cK g k) a (b.setCell (k,o) v):=h.hj (p:=⟨k,o,none⟩) (show k=g∨k=k from Or.inr rfl) v
class vG(D:Nat->Prop)(a b:World):Prop where
 zh:Ch D a b
variable{D:Nat->Prop}{a b:World}{g k n o:Nat}{v:Value}
instance:vG D a a:=⟨Ch.refl _ _⟩
instance [c:vG D a b]:vG D a b.drew:=⟨c.zh.drew⟩
instance [c:vG D a b]:vG D a (b.drewN n):=⟨c.zh.drewN n⟩
instance(x:Obj) [c:vG D a b]:vG D a (b.alloc x):=⟨c.zh.alloc x⟩
instance [c:vG (aH g) a b]:vG (aH g) a (b.setCell (g,o) v):=⟨c.zh.only o v⟩
instance [c:vG (cK g k) a b]:vG (cK g k) a (b.setCell (g,o) v):=⟨c.zh.rF o v⟩
instance [c:vG (cK g k) a b]:vG (cK g k) a (b.setCell (k,o) v):=⟨c.zh.mr o v⟩
theorem ay [c:vG D a b]:Ch D a b:=c.zh
theorem Ch.af{D:Nat->Prop}{a b:World}(h:Ch ag a b):Ch D a b:=h.mono (fun _ c=>c.elim)
def ds(v:Value)(w:World)(e:Ending)(w':World):Prop:=e=.returned v/\Ch ag w w'
theorem ds.mk{v u:Value}(h:v=u)(c:Ch ag w w'):ds v w (.returned u) w':=⟨by rw[h],c⟩
theorem Ch.bT(h:Below w.heap.size w w'):Ch ag w w':=⟨h.os,h.tape,h.output,h.size,fun b hb _=>h.block b hb⟩
theorem Ch.ib(h:Ch ag w w'):Below w.heap.size w w':=h.below (Nat.le_refl _) (fun _ hb=>hb.elim)
def kz(b:Bool)(w:World)(e:Ending)(w':World):Prop:=e=.returned (.bool b)/\w=w'
theorem kz.mk{b c:Bool}(h:b=c):kz b w (.returned (.bool c)) w:=⟨by rw[h],rfl⟩
structure be where
 op:Int
 a:Int
 b:Int
 c:Int
 v:Int
 m:Int
 wh:Int
 deriving DecidableEq,Repr,Inhabited
def aD(X:be):Array Value:=#[X.op,X.a,X.b,X.c,.int .u64 X.v,X.m,X.wh]
def aL(X:be):Value:=.agg (aD X)
def b4(l:List be):List Value:=l.flatMap fun X=>(aD X).toList
theorem kA(X:be)(l:List be):b4 (X::l)=(aD X).toList++b4 l:=rfl
theorem mu(l:List be):(b4 l).length=7*l.length:=by
 induction l with
 |nil=>rfl
 |cons x l ih=>rw[kA,List.length_append,ih,List.length_cons];show 7+_=_;omega
theorem eU:∀(l:List be) (a:Nat) (X:be),l[a]?=some X->(b4 l)[a*7]?=some (.int .i64 X.op)/\(b4 l)[a*7+1]?=some (.int .i64 X.a)/\(b4 l)[a*7+2]?=some (.int .i64 X.b)/\(b4 l)[a*7+3]?=some (.int .i64 X.c)/\(b4 l)[a*7+4]?=some (.int .u64 X.v)/\(b4 l)[a*7+5]?=some (.int .i64 X.m)/\(b4 l)[a*7+6]?=some (.int .i64 X.wh)
 |[],a,X,h=>by simp at h
 |Y::l,0,X,h=>by
  have:Y=X:=by simpa using h
  subst this;exact⟨rfl,rfl,rfl,rfl,rfl,rfl,rfl⟩
 |Y::l,a+1,X,h=>by
  obtain⟨c,d,f,i,j,m,p⟩:=eU l a X (by simpa using h);have e:(aD Y).toList.length=7:=rfl;rw[kA];refine⟨?_,?_,?_,?_,?_,?_,?_⟩<;>rw[List.getElem?_append_right (by rw[e];omega),e]
  ·rw[show(a+1)*7-7=a*7 from by omega];exact c
  ·rw[show(a+1)*7+1-7=a*7+1 from by omega];exact d
  ·rw[show(a+1)*7+2-7=a*7+2 from by omega];exact f
  ·rw[show(a+1)*7+3-7=a*7+3 from by omega];exact i
  ·rw[show(a+1)*7+4-7=a*7+4 from by omega];exact j
  ·rw[show(a+1)*7+5-7=a*7+5 from by omega];exact m
  ·rw[show(a+1)*7+6-7=a*7+6 from by omega];exact p
structure fN(w:World)(g:Nat)(l:List be):Prop where
 lt:g<w.heap.size
 cell:∀j u,(b4 l)[j]?=some u->w.cell? ⟨g,j,none⟩=some u
theorem fa{g i:Nat}(h:Below B w w')(c:g<B):w'.cell? (g,i)=w.cell? (g,i):=by
 unfold World.cell?;simp only[h.block g c]
theorem fN.below{g:Nat}{l:List be}(h:fN w g l)(hb:Below w.heap.size w w'):fN w' g l:=
 ⟨Nat.lt_of_lt_of_le h.lt hb.size,fun j u c=>(fa hb h.lt).trans (h.cell j u c)⟩
theorem fN.ch{D:Nat->Prop}{g:Nat}{l:List be}(h:fN w g l)(c:Ch D w w')(hd:¬D g):fN w' g l:=
 ⟨Nat.lt_of_lt_of_le h.lt c.size,fun j u d=>(c.cell (p:=⟨g,j,none⟩) h.lt hd).trans (h.cell j u d)⟩
theorem hU{o:Obj}:(w.alloc o).heap[w.heap.size]?=some o:=heap_alloc_new w o
theorem b5{P:Program}{f:FuncId}{args:Array Value}{v:Value}(h:Calls P f args w (ez v w)):Calls P f args w (fun e w'=>e=.returned v/\w'=w):=
 h.mono fun _ _ ⟨a,b⟩=>⟨a,b.symm⟩
section
variable{w:World}{b i j:Nat}{t:TypeId}{v:Value}
section
variable{α:Type}{enc:α->List Value}{k:Nat}
theorem aU(a:∀x,(enc x).length=k):∀(l:List α),(l.flatMap enc).length=l.length*k
 |[]=>by simp
 |x::l=>by rw[List.flatMap_cons,List.length_append,a,aU a l,List.length_cons,Nat.succ_mul];omega
theorem bJ(a:∀x,(enc x).length=k):∀{l:List α} {i:Nat} {x:α} {j:Nat},l[i]?=some x->j<k->(l.flatMap enc)[i*k+j]?=(enc x)[j]?
 |[],i,x,j,h,_=>by simp at h
 |y::l,0,x,j,h,c=>by
  have:y=x:=by simpa using h
  subst this;rw[List.flatMap_cons,Nat.zero_mul,Nat.zero_add,List.getElem?_append_left (by rw[a];exact c)]
 |y::l,i+1,x,j,h,c=>by
  have e:(i+1)*k=i*k+k:=Nat.succ_mul i k;rw[List.flatMap_cons,List.getElem?_append_right (by rw[a,e];omega),a,show(i+1)*k+j-k=i*k+j from by rw[e];omega];exact bJ a (by simpa using h) c
theorem fm(a:∀x,(enc x).length=k):∀{l:List α} {i:Nat} {x y:α} {j:Nat} {v:Value},l[i]?=some x->j<k->(enc x).set j v=enc y->(l.flatMap enc).set (i*k+j) v=(l.set i y).flatMap enc
 |[],i,x,y,j,v,h,_,_=>by simp at h
 |z::l,0,x,y,j,v,h,d,c=>by
  have:z=x:=by simpa using h
  subst this;rw[List.flatMap_cons,Nat.zero_mul,Nat.zero_add,List.set_append_left _ _ (by rw[a];exact d),c];simp
 |z::l,i+1,x,y,j,v,h,d,c=>by
  have e:(i+1)*k=i*k+k:=Nat.succ_mul i k;rw[List.flatMap_cons,List.set_append_right _ _ (by rw[a,e];omega),a,show(i+1)*k+j-k=i*k+j from by rw[e];omega,fm a (by simpa using h) d c];simp
end
theorem Row.at{α:Type}{enc:α->List Value}{k:Nat}{l:List α}(h:Row w b t (l.flatMap enc))(c:∀x,(enc x).length=k){x:α}(e:l[i]?=some x)(a:j<k)(d:(enc x)[j]?=some v):w.cell? (b,i*k+j)=some v:=
 h.cell ((bJ c e a).trans d)
theorem Row.put{α:Type}{enc:α->List Value}{k:Nat}{l:List α}(h:Row w b t (l.flatMap enc))(c:∀x,(enc x).length=k){x y:α}(e:l[i]?=some x)(a:j<k)(d:(enc x).set j v=enc y):Row (w.setCell (b,i*k+j) v) b t ((l.set i y).flatMap enc):=
 h.bc _ _ (fm c e a d)
end
section
open Go.MapKept
variable{D:Nat->Prop}{E K T:TypeId}{z:Value}
section
variable{α:Type}
def eb:List (Int×α)->Int->Nat->Option (Nat×α)
 |[],_,_=>none
 |x::l,k,i=>if k==x.1 then some (i,x.2)else eb l k (i+1)
def aw(l:List (Int×α))(k:Int):Option α:=(eb l k 0).map (·.2)
def cn(l:List (Int×α))(k:Int)(v:α):List (Int×α):=
 match eb l k 0 with
 |some (i,_)=>l.set i (k,v)
 |none=>l++[(k,v)]
def fs(l:List (Int×α))(k:Int):List (Int×α):=
 match eb l k 0 with
 |some (i,_)=>l.eraseIdx i
 |none=>l
theorem gl:∀(l:List (Int×α)) (k:Int) (i:Nat),eb l k i=(eb l k 0).map fun x=>(x.1+i,x.2)
 |[],_,_=>rfl
 |x::l,k,i=>by
  unfold eb;split
  ·simp
  ·rw[gl l k (i+1),gl l k (0+1)]
   cases eb l k 0 with
   |none=>rfl
   |some y=>simp;omega
theorem nI:∀(l:List (Int×α)) (k:Int) (i j:Nat) (v:α),eb l k i=some (j,v)->i<=j/\j<i+l.length/\l[j-i]?=some (k,v)
 |[],_,_,_,_,h=>by cases h
 |x::l,k,i,j,v,h=>by
  unfold eb at h;split at h
  ·rename_i c
   have:i=j/\x.2=v:=(by simpa using h);obtain⟨rfl,rfl⟩:=this;have d:k=x.1:=(by simpa using c);exact⟨Nat.le_refl _,by simp,by simp[d]⟩
  ·obtain⟨e,f,a⟩:=nI l k (i+1) j v h
   refine⟨by omega,by simp;omega,?_⟩;rw[show j-i=(j-(i+1))+1 from by omega,List.getElem?_cons_succ];exact a
end
def bS{α:Type}(w:World)(b:Nat)(q:IntKind)(enc:α->Value)(l:List (Int×α)):Prop:=
 ∃a clock,w.heap[b]?=some (.map a clock)/\a.toList.map (fun e=>(e.key,e.val))=l.map fun x=>(Value.int q x.1,enc x.2)
theorem bS.lt{α:Type}{w:World}{b:Nat}{q:IntKind}{enc:α->Value}{l:List (Int×α)}(h:bS w b q enc l):b<w.heap.size:=by
 obtain⟨d,c,a,_⟩:=h;exact(Array.getElem?_eq_some_iff.1 a).1
theorem bS.ch{α:Type}{w w':World}{b:Nat}{q:IntKind}{enc:α->Value}{l:List (Int×α)}(h:bS w b q enc l)(c:Ch D w w')(hd:¬D b):bS w' b q enc l:=by
 have hb:=h.lt;obtain⟨a,k,d,e⟩:=h;exact⟨a,k,(c.same b hb hd).trans d,e⟩
theorem bS.alloc{α:Type}{w:World}{b:Nat}{q:IntKind}{enc:α->Value}{l:List (Int×α)}(h:bS w b q enc l)(o:Obj):bS (w.alloc o) b q enc l:=h.ch ((Ch.refl ag w).alloc o) id
theorem bS.drew{α:Type}{w:World}{b:Nat}{q:IntKind}{enc:α->Value}{l:List (Int×α)}(h:bS w b q enc l):bS w.drew b q enc l:=h
theorem bS.drewN{α:Type}{w:World}{b:Nat}{q:IntKind}{enc:α->Value}{l:List (Int×α)}(h:bS w b q enc l)(n:Nat):bS (w.drewN n) b q enc l:=h
theorem bS.ne{α:Type}{w:World}{b g:Nat}{q:IntKind}{enc:α->Value}{l:List (Int×α)}{t:TypeId}{cs:List Value}(h:bS w b q enc l)(d:Row w g t cs):b≠g:=by
 intro e;subst e;obtain⟨f,c,a,_⟩:=h;unfold Row at d;rw[d]at a;cases a
theorem bS.other{α:Type}{w:World}{b:Nat}{q:IntKind}{enc:α->Value}{l:List (Int×α)}(h:bS w b q enc l){p:Addr}(f:b≠p.block)(v:Value):bS (w.setCell p v) b q enc l:=by
 obtain⟨a,c,d,e⟩:=h;exact⟨a,c,(Below.heap_setCell _ _ _ _ f).trans d,e⟩
theorem ic{α:Type}(q:IntKind)(enc:α->Value)(k:Int):∀(a:List MapEntry) (l:List (Int×α)) (i:Nat),a.map (fun e=>(e.key,e.val))=l.map (fun x=>(Value.int q x.1,enc x.2))->
 Instr.findNow (.int q) (.int q k) a i=some ((eb l k i).map fun x=>(x.1,enc x.2))
 |[],[],i,_=>rfl
 |[],x::l,i,h=>by cases h
 |e::a,[],i,h=>by cases h
 |e::a,x::l,i,h=>by
  simp only[List.map_cons,List.cons.injEq,Prod.mk.injEq]at h;obtain⟨⟨c,d⟩,f⟩:=h;have ih:=ic q enc k a l (i+1) f;unfold Instr.findNow Instr.sameNow eb;rw[c];simp only[if_pos rfl];cases g:(k==x.1)
  ·simpa using ih
  ·simp[d]
section
variable{P:Program}{w:World}{b:Nat}{q:IntKind}{α:Type}{enc:α->Value}{l:List (Int×α)}
theorem ft(g:P.underlying T=some (.map K E))(d:P.underlying K=some (.int q))(m:(zeroValue E).run P w=.ok z w)(h:bS w b q enc l)(k:Int):
 (Instr.lookup T (.map (some b)) (.int q k) false).run P w=.ok (((aw l k).map enc).getD z) w:=by
 obtain⟨a,c,e,f⟩:=h;have i:=ic q enc k a.toList l 0 f;have j:Go.MapKept.IsKey (.int q) (.int q k):=by simp[Go.MapKept.IsKey]
 simp[Instr.lookup,run_underlying g, @Go.MapKept.run_getObj_map P w b a c e, @Go.MapKept.run_checkKey P w K _ _ d j, @Go.MapKept.run_findKey P w K _ _ _ _ d i,Result.andThen];unfold aw;cases eb l k 0<;>simp[m,Result.andThen]
theorem gg(g:P.underlying T=some (.map K E))(d:P.underlying K=some (.int q))(m:(zeroValue E).run P w=.ok z w)(h:bS w b q enc l)(k:Int):
 (Instr.lookup T (.map (some b)) (.int q k) true).run P w=.ok (.tuple #[((aw l k).map enc).getD z,.bool (aw l k).isSome]) w:=by
 obtain⟨a,c,e,f⟩:=h;have i:=ic q enc k a.toList l 0 f;have j:Go.MapKept.IsKey (.int q) (.int q k):=by simp[Go.MapKept.IsKey]
 simp[Instr.lookup,run_underlying g, @Go.MapKept.run_getObj_map P w b a c e, @Go.MapKept.run_checkKey P w K _ _ d j, @Go.MapKept.run_findKey P w K _ _ _ _ d i,Result.andThen];unfold aw;cases eb l k 0<;>simp[m,Result.andThen]
def putObj(w:World)(b:Nat)(o:Obj):World:={w with heap:=w.heap.setIfInBounds b o}
theorem hM(w:World)(b:Nat)(o:Obj)(hb:b<w.heap.size):(putObj w b o).heap[b]?=some o:=by simp[putObj,hb]
theorem jO(w:World)(b:Nat)(o:Obj)(hd:D b):Ch D w (putObj w b o):=
 ⟨rfl,rfl,rfl,by simp[putObj],fun i c a=>by
  have:b≠i:=fun e=>a (e▸hd)
  simp[putObj,this]⟩
theorem fu(s:P.underlying T=some (.map K E))(n:P.underlying K=some (.int q))(h:bS w b q enc l)(k:Int)(v:α):
 ∃w',(Instr.mapUpdate T (.map (some b)) (.int q k) (enc v)).run P w=.ok () w'/\bS w' b q enc (cn l k v)/\Ch (aH b) w w':=by
 have hb:=h.lt;obtain⟨a,c,m,f⟩:=h;have o:=ic q enc k a.toList l 0 f;have r:Go.MapKept.IsKey (.int q) (.int q k):=by simp[Go.MapKept.IsKey]
 cases g:eb l k 0 with
 |none=>
  rw[g]at o;refine⟨putObj w b (.map (a.push {key:=.int q k,val:=enc v,born:=c}) (c+1)),?_,⟨_,_,hM _ _ _ hb,?_⟩,jO _ _ _ rfl⟩
  ·simp[Instr.mapUpdate,run_underlying s, @Go.MapKept.run_getObj_map P w b a c m, @Go.MapKept.run_checkKey P w K _ _ n r, @Go.MapKept.run_findKey P w K _ _ _ _ n o,Result.andThen, @Go.MapKept.run_setObj_map P w b a c _ m,putObj]
  ·unfold cn;rw[g];simp[f]
 |some x=>
  obtain⟨j,u⟩:=x;rw[g]at o;obtain⟨-,G,y⟩:=nI l k 0 j u g;rw[Nat.sub_zero]at y;have hlen:a.size=l.length:=by have:=congrArg List.length f;simpa using this
  have p:j<a.size:=by omega
  have C:a[j].key=.int q k:=by
   have d:(a.toList.map (fun e=>(e.key,e.val)))[j]?=(l.map fun x=>(Value.int q x.1,enc x.2))[j]?:=(by rw[f]);rw[List.getElem?_map,List.getElem?_map,y]at d;have A:a.toList[j]?=some a[j]:=(by simp[p]);rw[A]at d;have:=Option.some.inj d;exact congrArg Prod.fst this
  refine⟨putObj w b (.map (a.modify j fun e=>{e with key:=.int q k,val:=enc v}) c),?_,⟨_,_,hM _ _ _ hb,?_⟩,jO _ _ _ rfl⟩
  ·have F:= @Go.MapKept.run_keyThatStays P w _ _ r
   simp[Instr.mapUpdate,run_underlying s, @Go.MapKept.run_getObj_map P w b a c m, @Go.MapKept.run_checkKey P w K _ _ n r, @Go.MapKept.run_findKey P w K _ _ _ _ n o,Result.andThen, @Go.MapKept.run_setObj_map P w b a c _ m,putObj,p,C,F]
  ·unfold cn;rw[g]
   apply List.ext_getElem?;intro i;have d:(a.toList.map (fun e=>(e.key,e.val)))[i]?=(l.map fun x=>(Value.int q x.1,enc x.2))[i]?:=(by rw[f]);simp only[List.getElem?_map,List.getElem?_set,Array.toList_modify,List.getElem?_modify]at d⊢;by_cases t:j=i
   ·subst t
    have B:j<l.length:=(by omega);simp[p,B]
   ·simp[t]
    simpa using d
theorem fv{ty kT:TypeId}(m:P.underlying T=some (.map K E))(g:P.underlying K=some (.int q))(h:bS w b q enc l)(k:Int):
 ∃w',(Builtin.delete_ #[T,kT] ty #[.map (some b),.int q k]).run P w=.ok (.tuple #[]) w'/\bS w' b q enc (fs l k)/\Ch (aH b) w w':=by
 have hb:=h.lt;obtain⟨a,c,e,f⟩:=h;have i:=ic q enc k a.toList l 0 f;have n:Go.MapKept.IsKey (.int q) (.int q k):=by simp[Go.MapKept.IsKey]
 cases d:eb l k 0 with
 |none=>
  rw[d]at i;refine⟨putObj w b (.map a c),?_,⟨_,_,hM _ _ _ hb,by unfold fs;rw[d];exact f⟩,jO _ _ _ rfl⟩;simp[Builtin.delete_,run_underlying m, @Go.MapKept.run_getObj_map P w b a c e, @Go.MapKept.run_checkKey P w K _ _ g n, @Go.MapKept.run_findKey P w K _ _ _ _ g i,Result.andThen, @Go.MapKept.run_setObj_map P w b a c _ e,putObj]
 |some x=>
  obtain⟨j,u⟩:=x;rw[d]at i;obtain⟨-,p,r⟩:=nI l k 0 j u d;have hlen:a.size=l.length:=by have:=congrArg List.length f;simpa using this
  refine⟨putObj w b (.map (a.eraseIdxIfInBounds j) c),?_,⟨_,_,hM _ _ _ hb,?_⟩,jO _ _ _ rfl⟩
  ·simp[Builtin.delete_,run_underlying m, @Go.MapKept.run_getObj_map P w b a c e, @Go.MapKept.run_checkKey P w K _ _ g n, @Go.MapKept.run_findKey P w K _ _ _ _ g i,Result.andThen, @Go.MapKept.run_setObj_map P w b a c _ e,putObj]
  ·unfold fs;rw[d]
   have o:j<a.size:=(by omega);simp only[Array.eraseIdxIfInBounds,o,dite_true,Array.toList_eraseIdx];rw[Go.ChangeMaps.map_eraseIdx,f,<-Go.ChangeMaps.map_eraseIdx]
end
end
variable{b cap i mb:Nat}
structure ba where
 d:Int
 bY:Int
 h:Int
 deriving DecidableEq,Repr,Inhabited
def ba.cells(t:ba):List Value:=[.int .u64 t.d,.int .u64 t.bY,.int .i64 t.h]
def ba.val(t:ba):Value:=.agg #[.int .u64 t.d,.int .u64 t.bY,.int .i64 t.h]
theorem ba.len(t:ba):t.cells.length=3:=rfl
structure ah where
 l:List ba
 at_:List (Int×Int)
 last:Int
structure aM(w:World)(b mb:Nat)(v:Value)(S:ah):Prop where
 head:Row w b 307 [v,.map (some mb),.int .i64 S.last]
 own:w.ownsRow 0 328 3 v S.l.length (S.l.flatMap ba.cells)
 map:bS w mb .i64 (Value.int .i64) S.at_
def cu(b mb:Nat)(v:Value):Nat->Prop:=fun i=>i=b∨i=mb∨v.ownBlock=some i
theorem ak{B:Nat}{e:TypeId}{size:Nat}{xs:List Value}(h:w.ownsRow B e size v n xs)(c:Ch D w w')(hd:∀g,v.ownBlock=some g->¬D g):w'.ownsRow B e size v n xs:=by
 refine⟨h.1,?_⟩;rcases h.2 with d|⟨g,cap,cur,rfl,j,a,f⟩
 ·exact Or.inl d
 ·exact Or.inr ⟨g,cap,cur,rfl,j,(c.same g (Array.getElem?_eq_some_iff.1 a).1 (hd g rfl)).trans a,f⟩
theorem aM.alloc{S:ah}(h:aM w b mb v S)(o:Obj):aM (w.alloc o) b mb v S:=⟨h.head.alloc o,h.own.alloc o,h.map.alloc o⟩
theorem aM.drew{S:ah}(h:aM w b mb v S):aM w.drew b mb v S:=⟨h.head,h.own.drew,h.map⟩
theorem aM.drewN{S:ah}(h:aM w b mb v S)(n:Nat):aM (w.drewN n) b mb v S:=⟨h.head,⟨h.own.1,h.own.2⟩,h.map⟩
theorem aM.ch{S:ah}(h:aM w b mb v S)(c:Ch D w w')(hb:¬D b)(a:¬D mb)(hd:∀g,v.ownBlock=some g->¬D g):aM w' b mb v S:=⟨h.head.ch c hb,ak h.own c hd,h.map.ch c a⟩
theorem aM.sl{S:ah}(h:aM w b mb v S)(l:0<S.l.length):∃g cap c,v=.slice (some ⟨g,0,none⟩) S.l.length cap/\S.l.length<=cap/\cap<=maxLen/\Row w g 328 (S.l.flatMap ba.cells++c)/\(S.l.flatMap ba.cells++c).length=cap*3:=by
 rcases h.own.2 with⟨_,k⟩|⟨g,cap,cur,rfl,_,e,d,f,j,a⟩
 ·omega
 ·refine⟨g,cap,cur.toList.drop (S.l.length*3),rfl,d,f,?_,?_⟩
  ·unfold Row;rw[<-a,List.take_append_drop];simpa using e
  ·rw[<-a,List.take_append_drop];simpa using j
theorem aM.cell{S:ah}(h:aM w b mb (.slice (some (g,0)) n cap) S){t:ba}(d:S.l[i]?=some t):
 w.cell? (g,i*3)=some (.int .u64 t.d)/\w.cell? (g,i*3+1)=some (.int .u64 t.bY)/\w.cell? (g,i*3+2)=some (.int .i64 t.h)/\(∀j,w.frozen? ⟨g,j,none⟩=false)/\g<w.heap.size/\g≠b/\mb≠g:=by
 have s:=(List.getElem?_eq_some_iff.1 d).1;obtain⟨o,m,y,f,r,x,c,u⟩:=h.sl (by omega);injection f with a p q
 injection a with a
 injection a with a
 subst a;have e:=aU ba.len S.l;have key:∀j v,j<3->(t.cells)[j]?=some v->w.cell? ⟨g,i*3+j,none⟩=some v:=fun j v k l=>c.cell (by
  rw[List.getElem?_append_left (by rw[e];omega)];exact(bJ ba.len d k).trans l)
 exact⟨key 0 _ (by omega) rfl,key 1 _ (by omega) rfl,key 2 _ (by omega) rfl,fun j=>c.free j,c.lt,c.ne h.head (by decide),h.map.ne c⟩
theorem aM.lay{S:ah}(h:aM w b mb (.slice (some (g,0)) n cap) S)(d:i<S.l.length)(t:ba){i1 i2:Nat}(q:i1=i*3+1)(r:i2=i*3+2):
 aM (((w.setCell (g,i*3) (.int .u64 t.d)).setCell (g,i1) (.int .u64 t.bY)).setCell (g,i2) (.int .i64 t.h)) b mb (.slice (some (g,0)) n cap) {S with l:=S.l.set i t}:=by
 subst q r;obtain⟨x,p⟩:∃x,S.l[i]?=some x:=⟨_,List.getElem?_eq_getElem d⟩;obtain⟨-,-,-,-,-,c,f⟩:=h.cell p;obtain⟨J,I,m,A,z,C,E,B⟩:=h.sl (by omega);injection A with a s u
 injection a with a
 injection a with a
 subst a s u;have o:=aU ba.len S.l;refine⟨((h.head.other (fun e=>c e.symm) _).other (fun e=>c e.symm) _).other (fun e=>c e.symm) _,?_,((h.map.other f _).other f _).other f _⟩;have F:=E.bc (i*3) (.int .u64 t.d) (l':=(S.l.set i ⟨t.d,x.bY,x.h⟩).flatMap ba.cells++m) (by
  rw[List.set_append_left _ _ (by rw[o];omega)];congr 1;exact fm (j:=0) ba.len p (by omega) rfl)
 have G:=F.bc (i*3+1) (.int .u64 t.bY) (l':=(S.l.set i ⟨t.d,t.bY,x.h⟩).flatMap ba.cells++m) (by
  rw[List.set_append_left _ _ (by rw[aU ba.len,List.length_set];omega)];congr 1;have:=fm (enc:=ba.cells) (k:=3) (l:=S.l.set i ⟨t.d,x.bY,x.h⟩) (i:=i) (x:=⟨t.d,x.bY,x.h⟩) (y:=⟨t.d,t.bY,x.h⟩) (j:=1) (v:=.int .u64 t.bY) ba.len (by simp[d]) (by omega) rfl
  rwa [List.set_set]at this)
 have H:=G.bc (i*3+2) (.int .i64 t.h) (l':=(S.l.set i t).flatMap ba.cells++m) (by
  rw[List.set_append_left _ _ (by rw[aU ba.len,List.length_set];omega)];congr 1;have:=fm (enc:=ba.cells) (k:=3) (l:=S.l.set i ⟨t.d,t.bY,x.h⟩) (i:=i) (x:=⟨t.d,t.bY,x.h⟩) (y:=t) (j:=2) (v:=.int .i64 t.h) ba.len (by simp[d]) (by omega) rfl
  rwa [List.set_set]at this)
 refine⟨by rw[aU ba.len],Or.inr ⟨g,_,_,by rw[List.length_set],Nat.zero_le _,H,by simpa using z,C,?_,?_⟩⟩
 ·rw[List.size_toArray,List.length_append,aU ba.len,List.length_set,<-o,<-List.length_append];exact B
 ·rw[List.toList_toArray]
  show List.take ((S.l.set i t).length*3) _=_
  rw[List.take_left' (aU ba.len _)]
theorem aM.Hs{S:ah}{at':List (Int×Int)}(h:aM w b mb v S)(l:bS w' mb .i64 (Value.int .i64) at')(c:Ch (aH mb) w w'):aM w' b mb v {S with at_:=at'}:=
 ⟨h.head.ch c (fun e=>h.map.ne h.head e.symm),ak h.own c (fun g a e=>by
  subst e;rcases h.own.2 with⟨rfl,_⟩|⟨f,cap,cur,rfl,_,d,_⟩
  ·cases a
  ·have:f=g:=by simpa[Value.ownBlock]using a
   subst this;obtain⟨m,k,j,_⟩:=h.map;rw[j]at d;cases d),l⟩
def eO(a b:ba):Bool:=decide (a.d<b.d)||(a.d==b.d&&decide (a.h<b.h))
theorem w5(a b:ba)(w:World):Calls prog 238 #[a.val,b.val] w (ds (.bool (eO a b)) w):=by
 unfold ba.val;obtain⟨c,h,e⟩:=a;obtain⟨d,j,f⟩:=b;dsimp only;by_cases k:c<d
 ·have E:Hid (eO ⟨c,h,e⟩ ⟨d,j,f⟩=true):=Z (by unfold eO;simp[k])
  go_wp2
  go_ret;exact ds.mk (by rw[E];rfl) ay
 ·cases l:(c==d)
  ·have E:Hid (eO ⟨c,h,e⟩ ⟨d,j,f⟩=false):=Z (by unfold eO;simp only[l];simp[k])
   go_wp2
   go_ret;exact ds.mk (by rw[E];rfl) ay
  ·have E:Hid (eO ⟨c,h,e⟩ ⟨d,j,f⟩=decide (e<f)):=Z (by unfold eO;simp only[l];simp[k])
   go_wp2
   go_ret;exact ds.mk (by rw[E];rfl) ay
def ah.lay(S:ah)(i:Nat)(t:ba):ah:={S with l:=S.l.set i t,at_:=cn S.at_ t.h i}
theorem rJ(h:Ch (aH mb) w w'):Ch (cu b mb v) w w':=h.mono fun i a=>Or.inr (Or.inl a)
theorem lG{a:World}(h:Ch (cu b mb (.slice (some (g,0)) n cap)) a w)(o:Nat)(x:Value):Ch (cu b mb (.slice (some (g,0)) n cap)) a (w.setCell (g,o) x):=
 h.hj (p:=⟨g,o,none⟩) (Or.inr (Or.inr rfl)) x
def lH(b mb:Nat)(v:Value)(a:ah)(w:World)(e:Ending)(w':World):Prop:=e=.returned (.tuple #[])/\aM w' b mb v a/\Ch (cu b mb v) w w'
theorem BV(b mb:Nat)(v:Value)(S:ah)(i:Nat)(o:i<S.l.length)(t:ba)(w:World)(h:aM w b mb v S):
 Calls prog 198 #[(b,0),.int .i64 i,t.val] w (lH b mb v (S.lay i t) w):=by
 unfold ba.val;obtain⟨g,cap,X,rfl,I,-,-,-⟩:=h.sl (by omega);have f:=Z h;obtain⟨x,z⟩:∃x,S.l[i]?=some x:=⟨_,List.getElem?_eq_getElem o⟩;have q:=Z z;have F:=Z o;have L:(i:Int)<S.l.length:=by omega
 obtain⟨N,m⟩:=mn S.l.length;rw[<-m]at L f I⊢;have V:=Z m;clear h z o m;go_wp2
 obtain⟨w1,a⟩:=nm (w.alloc (.cells #[.int .u64 t.d,.int .u64 t.bY,.int .i64 t.h] 328));have j:Hid (aM w1 b mb (.slice (some (g,0)) N cap) S):=Z (by rw[<-a];exact f.alloc _);have B:Hid (Ch (cu b mb (.slice (some (g,0)) N cap)) w w1):=Z (by rw[<-a];exact ay);have A:w1.heap.size=w.heap.size+1:=by rw[<-a];simp
 have t0:w1.cell? (w.heap.size,0)=some (.int .u64 t.d):=by rw[<-a];simp
 have t1:w1.cell? (w.heap.size,1)=some (.int .u64 t.bY):=by rw[<-a];simp
 have t2:w1.cell? (w.heap.size,2)=some (.int .i64 t.h):=by rw[<-a];simp
 have u:g<w.heap.size:=(f.cell q).2.2.2.2.1;rw[a];clear a;obtain⟨tb,y⟩:=mn w.heap.size;rw[<-y]at A t0 t1 t2 u⊢;clear y;have H:=j.head.c1;obtain⟨Q,R,U,fr,M,J,O⟩:=j.cell q;have d:g≠tb:=by omega
 clear u A M;go_still_tail 6,(by kernel_rfl)
 change wpList _ _ _ _ _ w1.drew;go_wp2
 obtain⟨w2,c⟩:=nm ((((w1.setCell (g,i*3) (.int .u64 t.d)).setCell (g,i*3+1) (.int .u64 t.bY)).setCell (g,i*3+2) (.int .i64 t.h)).drew);have k:Hid (aM w2 b mb (.slice (some (g,0)) N cap) {S with l:=S.l.set i t}):=Z (by rw[<-c];exact(j.lay F t rfl rfl).drew);have C:Hid (Ch (cu b mb (.slice (some (g,0)) N cap)) w w2):=Z (by rw[<-c];exact(lG (lG (lG B _ _) _ _) _ _).drew);have Y:w2.cell? (tb,2)=some (.int .i64 t.h):=by
  rw[<-c,World.cell?_drew,World.cell?_setCell_other _ _ _ _ (fun e=>d (congrArg Addr.block e)),World.cell?_setCell_other _ _ _ _ (fun e=>d (congrArg Addr.block e)),World.cell?_setCell_other _ _ _ _ (fun e=>d (congrArg Addr.block e))];exact t2
 rw[c];clear c;have d1:=k.head.k 1 rfl;obtain⟨a0,W,s,r⟩:=fu (P:=prog) (T:=304) (K:=3) (E:=3) underlying304 underlying3 k.drew.map t.h (i:Int);have G:=Z s;have p:=Z r;clear s r H Q R U fr t0 t1 t2 d J O;go_still_tail 7,(by kernel_rfl)
 change wpList _ _ _ _ _ w2.drew;go_wp2
 go_end0
 exact⟨rfl,k.drew.Hs G p,C.drew.trans (rJ p)⟩
theorem ah.b7(S:ah)(i:Nat)(t:ba):(S.lay i t).l.length=S.l.length:=by unfold ah.lay;simp
def gZ:Nat->ah->Nat->ba->ah×Nat
 |0,S,i,_=>(S,i)
 |f+1,S,i,t=>if i=0 then(S,i)else
  match S.l[(i-1)/2]? with
  |none=>(S,i)
  |some p=>if eO t p then gZ f (S.lay i p) ((i-1)/2) t else(S,i)
def ah.up(S:ah)(i:Nat):ah:=
 match S.l[i]? with
 |none=>S
 |some t=>(gZ (i+1) S i t).1.lay (gZ (i+1) S i t).2 t
theorem aM.at{w:World}{b mb:Nat}{v:Value}{S:ah}(h:aM w b mb v S){i:Nat}{t:ba}(a:S.l[i]?=some t):∃g cap,v=.slice (some ⟨g,0,none⟩) S.l.length cap/\S.l.length<=cap/\
 w.cell? ⟨g,i*3,none⟩=some (.int .u64 t.d)/\w.cell? ⟨g,i*3+1,none⟩=some (.int .u64 t.bY)/\w.cell? ⟨g,i*3+2,none⟩=some (.int .i64 t.h)/\g<w.heap.size:=by
 have k:=(List.getElem?_eq_some_iff.1 a).1;obtain⟨g,cap,l,rfl,c,-,-,-⟩:=h.sl (by omega);obtain⟨e,f,j,-,d,-,-⟩:=h.cell a;exact⟨g,cap,rfl,c,e,f,j,d⟩
theorem ub(b mb:Nat)(v:Value)(S:ah)(i:Nat)(d:i<S.l.length)(t:ba)(w:World)(h:aM w b mb v S)(a:Int)(c:a=i):
 Calls prog 198 #[(b,0),a,.agg #[.int .u64 t.d,.int .u64 t.bY,.int .i64 t.h]] w (lH b mb v (S.lay i t) w):=by
 subst c;exact BV b mb v S i d t w h
theorem eV(a b:ba)(r:Bool)(w:World)(h:eO a b=r):Calls prog 238 #[.agg #[.int .u64 a.d,.int .u64 a.bY,.int .i64 a.h],.agg #[.int .u64 b.d,.int .u64 b.bY,.int .i64 b.h]] w (ds (.bool r) w):=by
 subst h;exact w5 a b w
theorem D1(b mb:Nat)(v:Value)(S:ah)(i:Nat)(X:i<S.l.length)(hb:S.l.length<=1000000)(w:World)(h:aM w b mb v S):
 Calls prog 199 #[(b,0),.int .i64 i] w (lH b mb v (S.up i) w):=by
 obtain⟨t,P⟩:∃t,S.l[i]?=some t:=⟨_,List.getElem?_eq_getElem X⟩;have I:Hid (S.up i=(gZ (i+1) S i t).1.lay (gZ (i+1) S i t).2 t):=Z (by unfold ah.up;rw[P]);obtain⟨g,cap,rfl,av,aP,bb,bd,W⟩:=h.at P;have B:=Z h;have u:=h.head.c1;obtain⟨N,L⟩:=mn S.l.length;rw[<-L]at u X hb av B⊢;have a4:=Z L;have bi:(i:Int)<N:=by omega
 clear h P L;go_wp2
 obtain⟨tb,D⟩:=mn w.heap.size;rw[<-D];obtain⟨w1,A⟩:=nm (w.alloc (.cells #[.int .u64 t.d,.int .u64 t.bY,.int .i64 t.h] 328));have a1:Hid (aM w1 b mb (.slice (some (g,0)) N cap) S):=Z (by rw[<-A];exact B.alloc _);have a0:Hid (Ch (cu b mb (.slice (some (g,0)) N cap)) w w1):=Z (by rw[<-A];exact ay);have ad:Hid (Row w1 tb 328 t.cells):=Z (by rw[<-A,D];exact Row.new w _ _);rw[A];have a9:Hid (w.heap.size=tb/\g<w.heap.size/\b<w.heap.size/\mb<w.heap.size):=Z ⟨D.symm,W,B.head.lt,B.out.map.lt⟩;clear A D u aP bb bd W;go_loopw [1] (fun s wr=>∃(k f:Nat) (a:ah),s=.int .i64 k/\k<=i/\k<f/\Hid (gZ f a k t=gZ (i+1) S i t/\a.l.length=N/\aM wr b mb (.slice (some (g,0)) N cap) a/\Row wr tb 328 t.cells/\Ch (cu b mb (.slice (some (g,0)) N cap)) w wr)) (fun s _=>(intOf s).toNat)
 case atStart=>exact⟨i,i+1,S,rfl,Nat.le_refl _,Nat.lt_succ_self _,rfl,a4.symm,a1,ad,a0⟩
 case round=>
  obtain⟨k,f,a,rfl,c0,bZ,m⟩:=hrel;have r:=Z m.2.1;have C:=Z m.2.2.1;have V:=Z m.2.2.2.1;have T:=Z m.2.2.2.2;have u:=C.head.c1;obtain⟨t0,t1,t2⟩:=V.c3;have K:=Z (fun(j:Nat) (bv:j<N) (x:ba) (w:World) (S:ah) (c1:S.l.length=N) h ab ap=>ub b mb (.slice (some (g,0)) N cap) S j (by omega) x w h ab ap);obtain⟨o,rfl⟩:∃o,f=o+1:=⟨f-1,by omega⟩;have fin:Hid (∀w2,aM w2 b mb (.slice (some (g,0)) N cap) a->gZ (o+1) a k t=(a,k)->aM w2 b mb (.slice (some (g,0)) N cap) a/\S.up i=a.lay k t):=Z (fun w2 am e=>⟨am,by rw[I,<-m.1,e]⟩);by_cases O:k=0
  ·subst O
   have E:Hid (S.up i=a.lay 0 t):=Z (by rw[I,<-m.1];rfl);go_wp2
   go_quiet (fail)
   go_wp2_with fail
   with_reducible refine(K.out 0 (by omega) t _ a r.out (C.out.drewN _) _ ?_).mono ?_
   ·rfl
   rintro e l ⟨rfl,n,c⟩;have a3:=Z n;have a2:=Z c;clear n c;go_wp2
   go_end0
   rw[E];exact⟨rfl,a3,(T.drewN _).trans a2⟩
  ·have bw:(1:Int)<=k:=by omega
   have bx:(0:Int)<k:=(by omega);have bX:0<k:=(by omega);obtain⟨p,Y⟩:=mn ((k-1)/2);have c2:((k:Int)-1).tdiv 2=(p:Int):=(by rw[Int.tdiv_eq_ediv_of_nonneg (by omega)];omega);have c3:((k:Int)-1)/2=(p:Int):=(by omega);have c6:IntKind.i64.wrap ((k:Int)-1)=(k:Int)-1:=IntWalk.i64_in _ (by omega);have c7:IntKind.i64.wrap (p:Int)=(p:Int):=IntWalk.i64_in _ (by omega);have c4:(p:Int)<N:=(by omega);have c5:p<k:=(by omega);obtain⟨x,Q⟩:∃x,a.l[p]?=some x:=⟨_,List.getElem?_eq_getElem (by rw[r];omega)⟩;obtain⟨x0,x1,x2,-,-,-,-⟩:=C.cell Q;have U:=Z Y;have J:=Z Q;clear Y Q;have R:Hid (∀l,Ch ag wr.drew l->aM l b mb (.slice (some (g,0)) N cap) a/\Row l tb 328 t.cells/\Ch (cu b mb (.slice (some (g,0)) N cap)) w l):=Z (fun l c=>
    ⟨C.drew.ch c id id (fun _ _ h=>h),V.drew.ch c id,T.drew.trans c.af⟩)
   cases q:eO t x
   ·have E:Hid (S.up i=a.lay k t):=Z (by
     have e:gZ (o+1) a k t=(a,k):=(by unfold gZ;rw[if_neg O,<-U,J];simp only[q];rfl);rw[I,<-m.1,e])
    have F:=Z (fun w=>eV t x false w q);clear q;go_wp2
    go_still_tail 13,(by kernel_rfl)
    change wpList _ _ _ _ _ wr.drew;go_wp2_with fail
    refine(F _).mono ?_;rintro e l ⟨rfl,z⟩;have d:=Z (R l z);have al:=d.1.head.cell (i:=0) rfl;have c8:=d.2.1.cell (i:=0) rfl;have c9:=d.2.1.cell (i:=1) rfl;have ca:=d.2.1.cell (i:=2) rfl;clear u t0 t1 t2 x0 x1 x2 z;go_wp2_with fail
    with_reducible refine(K.out k (by omega) t _ a r.out d.out.1 _ ?_).mono ?_
    ·rfl
    rintro e w4 ⟨rfl,n,c⟩;have H:=Z n;have G:=Z c;clear n c;go_wp2
    go_end0
    rw[E];exact⟨rfl,H,d.2.2.trans G⟩
   ·have E:Hid (gZ o (a.lay k x) p t=gZ (i+1) S i t):=Z (by
     rw[<-m.1]
     conv=>rhs;unfold gZ
     rw[if_neg O,<-U,J];simp only[q];rfl)
    have F:=Z (fun w=>eV t x true w q);clear q;go_wp2
    go_still_tail 13,(by kernel_rfl)
    change wpList _ _ _ _ _ wr.drew;go_wp2_with fail
    refine(F _).mono ?_;rintro e l ⟨rfl,z⟩;have d:=Z (R l z);have al:=d.1.head.cell (i:=0) rfl;obtain⟨cb,cd,ce,-,-,-,-⟩:=d.1.cell J;have M:Hid (tb≠b/\tb≠mb/\tb≠g):=Z (by
     have:=a9.out;refine⟨by omega,by omega,by omega⟩)
    clear u t0 t1 t2 x0 x1 x2 z;go_wp2_with fail
    with_reducible refine(K.out k (by omega) x _ a r.out d.out.1 _ ?_).mono ?_
    ·rfl
    rintro e w4 ⟨rfl,n,c⟩;have H:=Z n;have G:=Z c;have a5:Hid (Row w4 tb 328 t.cells):=Z (d.2.1.ch c (by
     rintro(y|y|y)
     ·exact M.1 y
     ·exact M.2.1 y
     ·exact M.2.2 (Option.some.inj y).symm))
    clear n c;go_wp2
    go_roundw
    case rel=>exact⟨p,o,a.lay k x,rfl,by omega,by omega,E,by rw[ah.b7];exact r,H,a5,d.2.2.trans G⟩
    case measure=>simp[intOf];omega
def jZ(S:ah)(i:Nat)(a:ba):Nat:=
 match S.l[2*i+2]? with
 |none=>2*i+1
 |some c=>if eO c a then 2*i+2 else 2*i+1
def bU:Nat->ah->Nat->ba->ah×Nat
 |0,S,i,_=>(S,i)
 |f+1,S,i,t=>
  match S.l[2*i+1]? with
  |none=>(S,i)
  |some a=>match S.l[jZ S i a]? with
   |none=>(S,i)
   |some x=>if eO x t then bU f (S.lay i x) (jZ S i a) t else(S,i)
def ah.down(S:ah)(i:Nat):ah:=
 match S.l[i]? with
 |none=>S
 |some t=>(bU (S.l.length+1) S i t).1.lay (bU (S.l.length+1) S i t).2 t
theorem zp(b mb:Nat)(v:Value)(S:ah)(i:Nat)(ab:i<S.l.length)(hb:S.l.length<=1000000)(w:World)(h:aM w b mb v S):
 Calls prog 200 #[(b,0),.int .i64 i] w (lH b mb v (S.down i) w):=by
 obtain⟨t,ad⟩:∃t,S.l[i]?=some t:=⟨_,List.getElem?_eq_getElem ab⟩;obtain⟨g,cap,rfl,cl,cq,cs,ct,bX⟩:=h.at ad;have V:=Z h;have O:=h.head.c1;obtain⟨N,X⟩:=mn S.l.length;have W:Hid (S.down i=(bU (N+1) S i t).1.lay (bU (N+1) S i t).2 t):=Z (by unfold ah.down;rw[ad,X]);rw[<-X]at O ab hb cl V⊢;have cb:=Z X;have cQ:(i:Int)<N:=by omega
 clear h ad X;go_wp2
 obtain⟨tb,Y⟩:=mn w.heap.size;rw[<-Y];obtain⟨w1,U⟩:=nm (w.alloc (.cells #[.int .u64 t.d,.int .u64 t.bY,.int .i64 t.h] 328));have ca:Hid (aM w1 b mb (.slice (some (g,0)) N cap) S):=Z (by rw[<-U];exact V.alloc _);have c9:Hid (Ch (cu b mb (.slice (some (g,0)) N cap)) w w1):=Z (by rw[<-U];exact ay);have ce:Hid (Row w1 tb 328 t.cells):=Z (by rw[<-U,Y];exact Row.new w _ _);rw[U];have a9:Hid (w.heap.size=tb/\g<w.heap.size/\b<w.heap.size/\mb<w.heap.size):=Z ⟨Y.symm,bX,V.head.lt,V.out.map.lt⟩;clear U Y O cq cs ct bX;go_loopw [1] (fun s wr=>∃(k f:Nat) (d:ah),s=.int .i64 k/\k<N/\N<f+k/\Hid (bU f d k t=bU (N+1) S i t/\d.l.length=N/\aM wr b mb (.slice (some (g,0)) N cap) d/\Row wr tb 328 t.cells/\Ch (cu b mb (.slice (some (g,0)) N cap)) w wr)) (fun s _=>N-(intOf s).toNat)
 case atStart=>exact⟨i,N+1,S,rfl,ab,by omega,rfl,cb.symm,ca,ce,c9⟩
 case round=>
  obtain⟨k,f,d,rfl,di,cW,F⟩:=hrel;have u:=Z F.2.1;have Q:=Z F.2.2.1;have av:=Z F.2.2.2.1;have am:=Z F.2.2.2.2;have O:=Q.head.c1;obtain⟨t0,t1,t2⟩:=av.c3;have M:=Z (fun(j:Nat) (J:j<N) (x:ba) (w:World) (S:ah) (dp:S.l.length=N) h cd ci=>ub b mb (.slice (some (g,0)) N cap) S j (by omega) x w h cd ci);obtain⟨C,rfl⟩:∃C,f=C+1:=⟨f-1,by omega⟩;have a3:Hid (∀p,Ch ag wr p->aM p b mb (.slice (some (g,0)) N cap) d/\Row p tb 328 t.cells/\Ch (cu b mb (.slice (some (g,0)) N cap)) w p):=Z (fun p m=>
   ⟨Q.ch m id id (fun _ _ h=>h),av.ch m id,am.trans m.af⟩)
  have cS:(k:Int)<N:=by omega
  by_cases cA:2*k+1<N
  ·have ch:2*(k:Int)+1<N:=by omega
   obtain⟨a,bx⟩:∃a,d.l[2*k+1]?=some a:=⟨_,List.getElem?_eq_getElem (by rw[u];omega)⟩;have L:=Z bx;clear bx;by_cases cC:2*k+2<N
   ·have bw:2*(k:Int)+1+1<N:=by omega
    have bv:2*k+1+1<N:=(by omega);obtain⟨c,m⟩:∃c,d.l[2*k+2]?=some c:=⟨_,List.getElem?_eq_getElem (by rw[u];omega)⟩;obtain⟨a0,a1,a2,-,-,-,-⟩:=Q.cell L;obtain⟨bb,bd,bi,-,-,-,-⟩:=Q.cell m;have ap:=Z m;clear m;have cm:IntKind.i64.wrap (2*(k:Int)+1+1)=2*(k:Int)+1+1:=IntWalk.i64_in _ (by omega);have dr:(2*(k:Int)+1+1).toNat=2*k+2:=(by omega);have dC:(2*(k:Int)+1).toNat=2*k+1:=(by omega);have dN:(0:Int)<=2*(k:Int)+1+1:=(by omega);have e4:(0:Int)<=2*(k:Int)+1:=(by omega);cases P:eO c a
    ·have a4:=Z (fun w=>eV c a false w P)
     have a5:=Z P;clear P;go_wp2
     go_still_tail 24,(by kernel_rfl)
     change wpList _ _ _ _ _ wr.drew;go_wp2_with fail
     refine(a4 _).mono ?_;rintro e B ⟨rfl,T⟩;have n:=Z (a3 B ((Ch.refl _ _).drew.trans T));clear T a0 a1 a2 bb bd bi;go_wp2
     obtain⟨j,J⟩:=mn (2*k+1);have c0:j<N:=(by omega);have bZ:(j:Int)<N:=(by omega);have c2:k<j:=(by omega);have K:Hid (jZ d k a=j):=Z (by unfold jZ;rw[ap];dsimp only;rw[a5,J];rfl);have c1:2*(k:Int)+1=(j:Int):=(by omega);obtain⟨x,I⟩:∃x,d.l[j]?=some x:=⟨_,List.getElem?_eq_getElem (by rw[u];omega)⟩;obtain⟨x0,x1,x2,-,-,-,-⟩:=n.1.cell I;have G:=Z I;clear I J;have d0:=n.1.head.c1;obtain⟨u0,u1,u2⟩:=n.2.1.c3;try clear O t0 t1 t2
     cases r:eO x t
     ·have E:Hid (S.down i=d.lay k t):=Z (by
       have e:bU (C+1) d k t=(d,k):=by
        unfold bU;rw[L];dsimp only;rw[K,G];dsimp only;rw[r];rfl
       rw[W,<-F.1,e])
      have D:=Z (fun w=>eV x t false w r);clear r;go_wp2
      go_still_tail 8,(by kernel_rfl)
      change wpList _ _ _ _ _ B.drew;go_wp2_with fail
      refine(D _).mono ?_;rintro e p ⟨rfl,o⟩;have l:Hid (aM p b mb (.slice (some (g,0)) N cap) d/\Row p tb 328 t.cells/\Ch (cu b mb (.slice (some (g,0)) N cap)) w p):=Z ⟨n.1.drew.ch o id id (fun _ _ h=>h),n.2.1.drew.ch o id,n.2.2.drew.trans o.af⟩;have c3:=l.2.1.cell (i:=0) rfl;have c4:=l.2.1.cell (i:=1) rfl;have c5:=l.2.1.cell (i:=2) rfl;clear d0 u0 u1 u2 x0 x1 x2 o;go_wp2_with fail
      with_reducible refine(M.out k (by omega) t _ d u.out l.out.1 _ ?_).mono ?_
      ·rfl
      rintro e w4 ⟨rfl,q,m⟩;have A:=Z q;have z:=Z m;clear q m;go_wp2
      go_end0
      rw[E];exact⟨rfl,A,l.2.2.trans z⟩
     ·have E:Hid (bU C (d.lay k x) j t=bU (N+1) S i t):=Z (by
       rw[<-F.1]
       conv=>rhs;unfold bU
       rw[L];dsimp only;rw[K,G];dsimp only;rw[r];rfl)
      have D:=Z (fun w=>eV x t true w r);clear r;go_wp2
      go_still_tail 8,(by kernel_rfl)
      change wpList _ _ _ _ _ B.drew;go_wp2_with fail
      refine(D _).mono ?_;rintro e p ⟨rfl,o⟩;have l:Hid (aM p b mb (.slice (some (g,0)) N cap) d/\Row p tb 328 t.cells/\Ch (cu b mb (.slice (some (g,0)) N cap)) w p):=Z ⟨n.1.drew.ch o id id (fun _ _ h=>h),n.2.1.drew.ch o id,n.2.2.drew.trans o.af⟩;have aP:=l.1.head.cell (i:=0) rfl;obtain⟨c6,c7,c8,-,-,-,-⟩:=l.1.cell G;have H:Hid (tb≠b/\tb≠mb/\tb≠g):=Z (by
       have:=a9.out;refine⟨by omega,by omega,by omega⟩)
      clear d0 u0 u1 u2 x0 x1 x2 o;go_wp2_with fail
      with_reducible refine(M.out k (by omega) x _ d u.out l.out.1 _ ?_).mono ?_
      ·rfl
      rintro e w4 ⟨rfl,q,m⟩;have A:=Z q;have z:=Z m;have R:Hid (Row w4 tb 328 t.cells):=Z (l.2.1.ch m (by
       rintro(y|y|y)
       ·exact H.1 y
       ·exact H.2.1 y
       ·exact H.2.2 (Option.some.inj y).symm))
      clear q m;go_wp2
      go_roundw
      case rel=>exact⟨j,C,d.lay k x,by go_num,by omega,by omega,E,by rw[ah.b7];exact u,A,R,l.2.2.trans z⟩
      case measure=>simp[intOf];omega
    ·have a4:=Z (fun w=>eV c a true w P)
     have a5:=Z P;clear P;go_wp2
     go_still_tail 24,(by kernel_rfl)
     change wpList _ _ _ _ _ wr.drew;go_wp2_with fail
     refine(a4 _).mono ?_;rintro e B ⟨rfl,T⟩;have n:=Z (a3 B ((Ch.refl _ _).drew.trans T));clear T a0 a1 a2 bb bd bi;go_wp2
     obtain⟨j,J⟩:=mn (2*k+2);have c0:j<N:=(by omega);have bZ:(j:Int)<N:=(by omega);have c2:k<j:=(by omega);have K:Hid (jZ d k a=j):=Z (by unfold jZ;rw[ap];dsimp only;rw[a5,J];rfl);have c1:2*(k:Int)+1+1=(j:Int):=(by omega);obtain⟨x,I⟩:∃x,d.l[j]?=some x:=⟨_,List.getElem?_eq_getElem (by rw[u];omega)⟩;obtain⟨x0,x1,x2,-,-,-,-⟩:=n.1.cell I;have G:=Z I;clear I J;have d0:=n.1.head.c1;obtain⟨u0,u1,u2⟩:=n.2.1.c3;try clear O t0 t1 t2
     cases r:eO x t
     ·have E:Hid (S.down i=d.lay k t):=Z (by
       have e:bU (C+1) d k t=(d,k):=by
        unfold bU;rw[L];dsimp only;rw[K,G];dsimp only;rw[r];rfl
       rw[W,<-F.1,e])
      have D:=Z (fun w=>eV x t false w r);clear r;go_wp2
      go_still_tail 8,(by kernel_rfl)
      change wpList _ _ _ _ _ B.drew;go_wp2_with fail
      refine(D _).mono ?_;rintro e p ⟨rfl,o⟩;have l:Hid (aM p b mb (.slice (some (g,0)) N cap) d/\Row p tb 328 t.cells/\Ch (cu b mb (.slice (some (g,0)) N cap)) w p):=Z ⟨n.1.drew.ch o id id (fun _ _ h=>h),n.2.1.drew.ch o id,n.2.2.drew.trans o.af⟩;have c3:=l.2.1.cell (i:=0) rfl;have c4:=l.2.1.cell (i:=1) rfl;have c5:=l.2.1.cell (i:=2) rfl;clear d0 u0 u1 u2 x0 x1 x2 o;go_wp2_with fail
      with_reducible refine(M.out k (by omega) t _ d u.out l.out.1 _ ?_).mono ?_
      ·rfl
      rintro e w4 ⟨rfl,q,m⟩;have A:=Z q;have z:=Z m;clear q m;go_wp2
      go_end0
      rw[E];exact⟨rfl,A,l.2.2.trans z⟩
     ·have E:Hid (bU C (d.lay k x) j t=bU (N+1) S i t):=Z (by
       rw[<-F.1]
       conv=>rhs;unfold bU
       rw[L];dsimp only;rw[K,G];dsimp only;rw[r];rfl)
      have D:=Z (fun w=>eV x t true w r);clear r;go_wp2
      go_still_tail 8,(by kernel_rfl)
      change wpList _ _ _ _ _ B.drew;go_wp2_with fail
      refine(D _).mono ?_;rintro e p ⟨rfl,o⟩;have l:Hid (aM p b mb (.slice (some (g,0)) N cap) d/\Row p tb 328 t.cells/\Ch (cu b mb (.slice (some (g,0)) N cap)) w p):=Z ⟨n.1.drew.ch o id id (fun _ _ h=>h),n.2.1.drew.ch o id,n.2.2.drew.trans o.af⟩;have aP:=l.1.head.cell (i:=0) rfl;obtain⟨c6,c7,c8,-,-,-,-⟩:=l.1.cell G;have H:Hid (tb≠b/\tb≠mb/\tb≠g):=Z (by
       have:=a9.out;refine⟨by omega,by omega,by omega⟩)
      clear d0 u0 u1 u2 x0 x1 x2 o;go_wp2_with fail
      with_reducible refine(M.out k (by omega) x _ d u.out l.out.1 _ ?_).mono ?_
      ·rfl
      rintro e w4 ⟨rfl,q,m⟩;have A:=Z q;have z:=Z m;have R:Hid (Row w4 tb 328 t.cells):=Z (l.2.1.ch m (by
       rintro(y|y|y)
       ·exact H.1 y
       ·exact H.2.1 y
       ·exact H.2.2 (Option.some.inj y).symm))
      clear q m;go_wp2
      go_roundw
      case rel=>exact⟨j,C,d.lay k x,by go_num,by omega,by omega,E,by rw[ah.b7];exact u,A,R,l.2.2.trans z⟩
      case measure=>simp[intOf];omega
   ·have bw:¬2*(k:Int)+1+1<N:=by omega
    have bv:¬2*k+1+1<N:=(by omega);have cm:IntKind.i64.wrap (2*(k:Int)+1+1)=2*(k:Int)+1+1:=IntWalk.i64_in _ (by omega);have cF:decide (2*(k:Int)+1+1<(N:Int))=false:=(by simpa using bw);have cL:decide (2*k+1+1<N)=false:=(by simpa using bv);go_wp2
    go_quiet (fail)
    obtain⟨B,al⟩:=nm (wr.drewN nq);have n:Hid (aM B b mb (.slice (some (g,0)) N cap) d/\Row B tb 328 t.cells/\Ch (cu b mb (.slice (some (g,0)) N cap)) w B):=Z (by rw[<-al];exact a3 _ ay);rw[al];clear al;go_wp2
    obtain⟨j,J⟩:=mn (2*k+1);have c0:j<N:=(by omega);have bZ:(j:Int)<N:=(by omega);have c2:k<j:=(by omega);have K:Hid (jZ d k a=j):=Z (by unfold jZ;rw[List.getElem?_eq_none (by rw[u];omega)];exact J.symm);have c1:2*(k:Int)+1=(j:Int):=(by omega);obtain⟨x,I⟩:∃x,d.l[j]?=some x:=⟨_,List.getElem?_eq_getElem (by rw[u];omega)⟩;obtain⟨x0,x1,x2,-,-,-,-⟩:=n.1.cell I;have G:=Z I;clear I J;have d0:=n.1.head.c1;obtain⟨u0,u1,u2⟩:=n.2.1.c3;try clear O t0 t1 t2
    cases r:eO x t
    ·have E:Hid (S.down i=d.lay k t):=Z (by
      have e:bU (C+1) d k t=(d,k):=by
       unfold bU;rw[L];dsimp only;rw[K,G];dsimp only;rw[r];rfl
      rw[W,<-F.1,e])
     have D:=Z (fun w=>eV x t false w r);clear r;go_wp2
     go_still_tail 8,(by kernel_rfl)
     change wpList _ _ _ _ _ B.drew;go_wp2_with fail
     refine(D _).mono ?_;rintro e p ⟨rfl,o⟩;have l:Hid (aM p b mb (.slice (some (g,0)) N cap) d/\Row p tb 328 t.cells/\Ch (cu b mb (.slice (some (g,0)) N cap)) w p):=Z ⟨n.1.drew.ch o id id (fun _ _ h=>h),n.2.1.drew.ch o id,n.2.2.drew.trans o.af⟩;have c3:=l.2.1.cell (i:=0) rfl;have c4:=l.2.1.cell (i:=1) rfl;have c5:=l.2.1.cell (i:=2) rfl;clear d0 u0 u1 u2 x0 x1 x2 o;go_wp2_with fail
     with_reducible refine(M.out k (by omega) t _ d u.out l.out.1 _ ?_).mono ?_
     ·rfl
     rintro e w4 ⟨rfl,q,m⟩;have A:=Z q;have z:=Z m;clear q m;go_wp2
     go_end0
     rw[E];exact⟨rfl,A,l.2.2.trans z⟩
    ·have E:Hid (bU C (d.lay k x) j t=bU (N+1) S i t):=Z (by
      rw[<-F.1]
      conv=>rhs;unfold bU
      rw[L];dsimp only;rw[K,G];dsimp only;rw[r];rfl)
     have D:=Z (fun w=>eV x t true w r);clear r;go_wp2
     go_still_tail 8,(by kernel_rfl)
     change wpList _ _ _ _ _ B.drew;go_wp2_with fail
     refine(D _).mono ?_;rintro e p ⟨rfl,o⟩;have l:Hid (aM p b mb (.slice (some (g,0)) N cap) d/\Row p tb 328 t.cells/\Ch (cu b mb (.slice (some (g,0)) N cap)) w p):=Z ⟨n.1.drew.ch o id id (fun _ _ h=>h),n.2.1.drew.ch o id,n.2.2.drew.trans o.af⟩;have aP:=l.1.head.cell (i:=0) rfl;obtain⟨c6,c7,c8,-,-,-,-⟩:=l.1.cell G;have H:Hid (tb≠b/\tb≠mb/\tb≠g):=Z (by
      have:=a9.out;refine⟨by omega,by omega,by omega⟩)
     clear d0 u0 u1 u2 x0 x1 x2 o;go_wp2_with fail
     with_reducible refine(M.out k (by omega) x _ d u.out l.out.1 _ ?_).mono ?_
     ·rfl
     rintro e w4 ⟨rfl,q,m⟩;have A:=Z q;have z:=Z m;have R:Hid (Row w4 tb 328 t.cells):=Z (l.2.1.ch m (by
      rintro(y|y|y)
      ·exact H.1 y
      ·exact H.2.1 y
      ·exact H.2.2 (Option.some.inj y).symm))
     clear q m;go_wp2
     go_roundw
     case rel=>exact⟨j,C,d.lay k x,by go_num,by omega,by omega,E,by rw[ah.b7];exact u,A,R,l.2.2.trans z⟩
     case measure=>simp[intOf];omega
  ·have ch:¬2*(k:Int)+1<N:=by omega
   have E:Hid (S.down i=d.lay k t):=Z (by
    have e:bU (C+1) d k t=(d,k):=(by unfold bU;rw[List.getElem?_eq_none (by rw[u];omega)]);rw[W,<-F.1,e])
   go_wp2_with fail
   with_reducible refine(M.out k (by omega) t _ d u.out Q.out _ ?_).mono ?_
   ·rfl
   rintro e w4 ⟨rfl,q,m⟩;have A:=Z q;have z:=Z m;clear q m;go_wp2
   go_end0
   rw[E];exact⟨rfl,A,am.trans z⟩
variable{n:Int}{b:Bool}
def sv(s:ByteArray)(i:Nat):Int:=((s.data.toList.getD i 0).toNat:Int)
theorem ck(s:ByteArray)(i:Nat)(h:i<s.size):(s[i].toNat:Int)=sv s i:=by
 unfold sv;rw[List.getD_eq_getElem?_getD,List.getElem?_eq_getElem (by simpa using h)];rfl
theorem IT(s:ByteArray)(k:Nat)(h:k<s.size):s.data.toList.drop k=s[k]::s.data.toList.drop (k+1):=by
 rw[List.drop_eq_getElem_cons (by simpa using h)];rfl
theorem Ja(s:ByteArray)(k:Nat)(h:s.size<=k):s.data.toList.drop k=[]:=by
 rw[List.drop_eq_nil_iff];simpa using h
def Jj(k:IntKind)(p:Int×Bool)(w:World)(e:Ending)(w':World):Prop:=e=.returned (.tuple #[.int k p.1,.bool p.2])/\w=w'
theorem Jj.mk{k:IntKind}{p:Int×Bool}(h:p=(n,b)):Jj k p w (.returned (.tuple #[.int k n,.bool b])) w:=⟨by rw[h],rfl⟩
def JF(b:Bool)(w:World)(e:Ending)(w':World):Prop:=e=.returned (.bool b)/\w=w'
theorem JF.mk{c:Bool}(h:b=c):JF b w (.returned (.bool c)) w:=⟨by rw[h],rfl⟩
def JP(k:IntKind)(n:Int)(w:World)(e:Ending)(w':World):Prop:=e=.returned (.int k n)/\w=w'
theorem JP.mk{k:IntKind}{m:Int}(h:n=m):JP k n w (.returned (.int k m)) w:=⟨by rw[h],rfl⟩
theorem KG(b:UInt8):0<=(b.toNat:Int):=Int.natCast_nonneg _
theorem KH(b:UInt8):(b.toNat:Int)<=255:=by have:=b.toNat_lt;omega
def Ii(c:Int):Int:=
 if 48<=c/\c<=57 then c-48 else if 97<=c/\c<=102 then c-87 else if 65<=c/\c<=70 then c-55 else 99
theorem KI(c:Int):0<=Ii c:=by unfold Ii;split;omega;split;omega;split;omega;omega
theorem KJ(c:Int):Ii c<=99:=by unfold Ii;split;omega;split;omega;split;omega;omega
theorem Kg(c base:Int)(a:0<=c)(b:c<=255)(w:World):
 Calls prog 256 #[.int .u8 c,.int .u64 base] w fun e w'=>
  e=.returned (.tuple #[.int .u64 (Ii c),.bool (decide (Ii c<base))])/\w=w':=by
 go_wp2
 all_goals(go_ret2;refine⟨?_,rfl⟩)
 all_goals(first
  |(have e:Ii c=c-48:=by {unfold Ii;rw[if_pos (by omega)]}
    rw[e];rfl)
  |(have e:Ii c=c-97+10:=by {unfold Ii;rw[if_neg (by omega),if_pos (by omega)];omega}
    rw[e];rfl)
  |(have e:Ii c=c-65+10:=by {unfold Ii;rw[if_neg (by omega),if_neg (by omega),if_pos (by omega)];omega}
    rw[e];rfl)
  |(have e:Ii c=99:=by {unfold Ii;rw[if_neg (by omega),if_neg (by omega),if_neg (by omega)]}
    rw[e];rfl))
theorem IB(n:Int)(t:TypeId)(x:Value)(w:World):
 Calls prog 257 #[n,.iface t x] w fun e w'=>
  e=.returned (.iface 247 (.pointer (some (w.heap.size,0))))/\w.alloc (.cells #[.string ⟨#[119,111,114,100]⟩,n,.iface t x] 249)=w':=by
 go_wp2
 go_ret;exact⟨rfl,rfl⟩
theorem sz(n:Int)(t:TypeId)(x:Value)(w:World):
 Calls prog 142 #[n,.iface t x] w fun e w'=>
  e=.returned (.iface 247 (.pointer (some (w.heap.size,0))))/\w.alloc (.cells #[.string ⟨#[97,115,109]⟩,n,.iface t x] 249)=w':=by
 go_wp2
 go_ret;exact⟨rfl,rfl⟩
def Jo:Int:=18446744073709551615
def K9(base a:Int):List UInt8->Int->Int->Except Int Int
 |[],_,v=> .ok v
 |c::cs,j,v=>if Ii c.toNat<base/\j<a/\v<=(Jo-Ii c.toNat)/base then K9 base a cs (j+1) (v*base+Ii c.toNat)else .error j
def Mt(s:ByteArray):Bool:=decide (2<=(s.size:Int)/\sv s 0=48/\sv s 1=120)
def Ks(d:Int):Except Int Int->Except Int Int
 |.ok v=> .ok v
 |.error j=> .error (d+j)
def vh(s:ByteArray):Except Int Int:=
 if Mt s then(if s.size=2 then .error 2 else Ks 2 (K9 16 16 (s.data.toList.drop 2) 0 0))
 else(if s.size=0 then .error 0 else Ks 0 (K9 10 20 s.data.toList 0 0))
def Ia(r:Except Int Int)(w:World)(e:Ending)(w':World):Prop:=
 match r with
 |.ok v=>e=.returned (.tuple #[.int .u64 v,.nilIface])/\0<=v/\v<=Jo/\w=w'
 |.error i=>e=.returned (.tuple #[.int .u64 0,.iface 247 (.pointer (some (w.heap.size,0)))])/\w.alloc (.cells #[.string ⟨#[119,111,114,100]⟩,i,.iface 152 (.int .i64 6)] 249)=w'
theorem Ia.vB{r:Except Int Int}{v:Int}(h:r=.ok v)(a:0<=v)(b:v<=Jo):Ia r w (.returned (.tuple #[.int .u64 v,.nilIface])) w:=by
 subst h;exact⟨rfl,a,b,rfl⟩
theorem Ia.bad{r:Except Int Int}{i:Int}(h:r=.error i):Ia r w (.returned (.tuple #[.int .u64 0,.iface 247 (.pointer (some (w.heap.size,0)))])) (w.alloc (.cells #[.string ⟨#[119,111,114,100]⟩,i,.iface 152 (.int .i64 6)] 249)):=by
 subst h;exact⟨rfl,rfl⟩
theorem Jg(s:ByteArray)(y:s.size<=maxLen)(w:World):
 Calls prog 248 #[.string s] w (Ia (vh s) w):=by
 unfold maxLen at y;by_cases d:Mt s=true
 ·have c:Hid (vh s=if s.size=2 then .error 2 else Ks 2 (K9 16 16 (s.data.toList.drop 2) 0 0)):=by show _=_;unfold vh;rw[if_pos d]
  unfold Mt at d;simp only[decide_eq_true_eq]at d;have f:0<s.size:=by omega
  have p1:1<s.size:=by omega
  have p2:2<=s.size:=by omega
  have p:((s[0].toNat:Int)==48)=true:=by rw[ck,beq_iff_eq];omega
  have q:((s[1].toNat:Int)==120)=true:=by rw[ck,beq_iff_eq];omega
  go_wp2
  go_loop [7,8] (fun n i=>∃(k:Nat) (v:Int),2<=k/\k<=s.size/\i=.int .i64 k/\n=.int .u64 v/\0<=v/\v<=Jo/\Hid (K9 16 16 (s.data.toList.drop k) ((k:Int)-2) v=K9 16 16 (s.data.toList.drop 2) 0 0)) (fun _ i=>s.size-(intOf i).toNat)
  case atStart=>exact⟨2,0,by omega,by omega,rfl,rfl,by omega,by unfold Jo;omega,rfl⟩
  case round=>
   obtain⟨k,v,x,u,rfl,rfl,m,o,b⟩:=hrel;by_cases l:k<s.size
   ·have a:Hid (s.data.toList.drop k=s[k]::s.data.toList.drop (k+1)):=IT s k l
    have d0:=KI (s[k].toNat:Int);have d1:=KJ (s[k].toNat:Int);have B:=KH s[k];have y0:=KG s[k];go_wp2_with (first|(go_at_call 256;refine(Kg _ _ (by omega) (by omega) _).mono ?_;rintro e w' ⟨rfl,rfl⟩)|(go_at_call 257;refine(IB _ _ _ _).mono ?_;rintro e w' ⟨rfl,rfl⟩))
    all_goals first
     |(go_round
       case rel=>exact⟨k+1,v*16+Ii (s[k].toNat:Int),by omega,by omega,by go_num,rfl,by omega,by unfold Jo;omega,by
        show _=_
        rw[<-b,a,K9,if_pos (by unfold Jo;omega)]
        congr 1<;>omega⟩
       case measure=>simp[intOf];omega)
     |(go_ret2
       exact Ia.bad (by
        rw[c,if_neg (by omega),<-b,a,K9,if_neg (by unfold Jo;omega)];show Except.error _=Except.error _
        congr 1<;>omega))
   ·have a:Hid (s.data.toList.drop k=[]):=Ja s k (by omega)
    by_cases t:s.size<=2
    ·have j:((s.size:Int)==2)=true:=by rw[beq_iff_eq];omega
     go_wp2_with (first|(go_at_call 257;refine(IB _ _ _ _).mono ?_;rintro e w' ⟨rfl,rfl⟩))
     go_ret2;exact Ia.bad (by rw[c,if_pos (by omega)])
    ·have j:((s.size:Int)==2)=false:=by rw[beq_eq_false_iff_ne];omega
     go_wp2_with (first|(go_at_call 257;refine(IB _ _ _ _).mono ?_;rintro e w' ⟨rfl,rfl⟩))
     go_ret2;exact Ia.vB (by rw[c,if_neg (by omega),<-b,a,K9];rfl) m o
 ·have c:Hid (vh s=if s.size=0 then .error 0 else Ks 0 (K9 10 20 s.data.toList 0 0)):=by show _=_;unfold vh;rw[if_neg d]
  have z:(s.size:Int)<2∨(2<=(s.size:Int)/\sv s 0≠48)∨(2<=(s.size:Int)/\sv s 0=48/\sv s 1≠120):=by
   unfold Mt at d;simp only[decide_eq_true_eq]at d;omega
  have A:(s.size<2)∨(∃f:0<s.size,2<=s.size/\((s[0].toNat:Int)==48)=false)∨(∃(f:0<s.size) (p1:1<s.size),((s[0].toNat:Int)==48)=true/\((s[1].toNat:Int)==120)=false):=by
   rcases z with h|⟨h,g⟩|⟨h,g,r⟩
   ·exact Or.inl (by omega)
   ·exact Or.inr (Or.inl ⟨by omega,by omega,by rw[ck,beq_eq_false_iff_ne];exact g⟩)
   ·exact Or.inr (Or.inr ⟨by omega,by omega,by rw[ck,beq_iff_eq];exact g,by rw[ck,beq_eq_false_iff_ne];exact r⟩)
  rcases A with C|⟨f,p2,p⟩|⟨f,p1,p,q⟩
  all_goals
   go_wp2
   go_loop [7,8] (fun n i=>∃(k:Nat) (v:Int),k<=s.size+1/\k<=s.size/\i=.int .i64 k/\n=.int .u64 v/\0<=v/\v<=Jo/\Hid (K9 10 20 (s.data.toList.drop k) (k:Int) v=K9 10 20 s.data.toList 0 0)) (fun _ i=>s.size-(intOf i).toNat)
   case atStart=>exact⟨0,0,by omega,by omega,rfl,rfl,by omega,by unfold Jo;omega,rfl⟩
   case round=>
    obtain⟨k,v,x,u,rfl,rfl,m,o,b⟩:=hrel;by_cases l:k<s.size
    ·have a:Hid (s.data.toList.drop k=s[k]::s.data.toList.drop (k+1)):=IT s k l
     have d0:=KI (s[k].toNat:Int);have d1:=KJ (s[k].toNat:Int);have B:=KH s[k];have y0:=KG s[k];go_wp2_with (first|(go_at_call 256;refine(Kg _ _ (by omega) (by omega) _).mono ?_;rintro e w' ⟨rfl,rfl⟩)|(go_at_call 257;refine(IB _ _ _ _).mono ?_;rintro e w' ⟨rfl,rfl⟩))
     all_goals first
      |(go_round
        case rel=>exact⟨k+1,v*10+Ii (s[k].toNat:Int),by omega,by omega,by go_num,rfl,by omega,by unfold Jo;omega,by
         show _=_
         rw[<-b,a,K9,if_pos (by unfold Jo;omega)]
         congr 1<;>omega⟩
        case measure=>simp[intOf];omega)
      |(go_ret2
        exact Ia.bad (by
         rw[c,if_neg (by omega),<-b,a,K9,if_neg (by unfold Jo;omega)];show Except.error _=Except.error _
         congr 1<;>omega))
    ·have a:Hid (s.data.toList.drop k=[]):=Ja s k (by omega)
     by_cases t:s.size<=0
     ·have j:((s.size:Int)==0)=true:=by rw[beq_iff_eq];omega
      go_wp2_with (first|(go_at_call 257;refine(IB _ _ _ _).mono ?_;rintro e w' ⟨rfl,rfl⟩))
      go_ret2;exact Ia.bad (by rw[c,if_pos (by omega)])
     ·have j:((s.size:Int)==0)=false:=by rw[beq_eq_false_iff_ne];omega
      go_wp2_with (first|(go_at_call 257;refine(IB _ _ _ _).mono ?_;rintro e w' ⟨rfl,rfl⟩))
      go_ret2;exact Ia.vB (by rw[c,if_neg (by omega),<-b,a,K9];rfl) m o
def JQ:List UInt8->Int->Option Int
 |[],n=>some n
 |c::cs,n=>if 48<=(c.toNat:Int)/\(c.toNat:Int)<=57 then JQ cs (10*n+((c.toNat:Int)-48))else none
def LY:Option Int->Int×Bool
 |some n=>(n,decide (n<32))
 |none=>(0,false)
def Kt(s:ByteArray):Bool:=
 decide ((s.size:Int)<2∨3<(s.size:Int)∨sv s 0≠114∨((s.size:Int)=3/\sv s 1=48))
def Iz(s:ByteArray):Int×Bool:=
 if Kt s then(0,false)else LY (JQ (s.data.toList.drop 1) 0)
theorem Jp(s:ByteArray)(f:s.size<=maxLen)(w:World):
 Calls prog 228 #[.string s] w (Jj .i64 (Iz s) w):=by
 unfold maxLen at f;by_cases hb:Kt s=true
 ·have b:Hid (Iz s=(0,false)):=by show _=_;unfold Iz;rw[if_pos hb]
  unfold Kt at hb
  replace hb:=of_decide_eq_true hb
  have d:=Z hb;go_wp2
  all_goals first
   |(go_ret2;exact Jj.mk b)
   |(exfalso;have hb:=d.out;simp only[ck,beq_eq_false_iff_ne]at*;omega)
 ·have b:Hid (Iz s=LY (JQ (s.data.toList.drop 1) 0)):=by show _=_;unfold Iz;rw[if_neg hb]
  unfold Kt at hb;simp only[decide_eq_true_eq]at hb;have j:2<=s.size:=by omega
  have l:s.size<=3:=by omega
  have u:0<s.size:=by omega
  have p1:1<s.size:=by omega
  have g:((s[0].toNat:Int) !=114)=false:=by rw[ck,bne_eq_false_iff_eq];omega
  by_cases o:s.size<3
  all_goals
   (try(have h:((s[1].toNat:Int)==48)=false:=by rw[ck,beq_eq_false_iff_ne];omega))
   go_wp2
   go_loop [4,5] (fun n i=>∃(k:Nat) (m:Int),k<=s.size/\i=.int .i64 k/\n=.int .i64 m/\((k<=1/\1<=k/\m<=0/\0<=m)∨(k<=2/\2<=k/\0<=m/\m<=9)∨(k<=3/\3<=k/\0<=m/\m<=99))/\Hid (JQ (s.data.toList.drop k) m=JQ (s.data.toList.drop 1) 0)) (fun _ i=>s.size-(intOf i).toNat)
   case atStart=>exact⟨1,0,by omega,rfl,rfl,by omega,rfl⟩
   case round=>
    obtain⟨k,m,p,rfl,rfl,q,c⟩:=hrel;have r:0<=m:=(by omega);have t:m<=99:=(by omega);by_cases e:k<s.size
    ·have a:Hid (s.data.toList.drop k=s[k]::s.data.toList.drop (k+1)):=IT s k e
     go_wp2
     all_goals first
      |(go_round
        case rel=>exact⟨k+1,10*m+((s[k].toNat:Int)-48),by omega,by go_num,rfl,by omega,by
         show _=_
         rw[<-c,a];rw[JQ,if_pos (by omega)]⟩
        case measure=>simp[intOf];omega)
      |(go_ret2
        exact Jj.mk (by rw[b,<-c,a];rw[JQ,if_neg (by omega)];rfl))
    ·have a:Hid (s.data.toList.drop k=[]):=Ja s k (by omega)
     go_wp2
     all_goals
      (go_ret2
       exact Jj.mk (by rw[b,<-c,a];rfl))
def IH(c:UInt8):Bool:=decide ((97<=(c.toNat:Int)/\(c.toNat:Int)<=122)∨(48<=(c.toNat:Int)/\(c.toNat:Int)<=57))
def Jq(s:ByteArray):Bool:=decide ((s.size:Int)<1∨16<(s.size:Int)∨sv s 0<97∨122<sv s 0)
def Iy(s:ByteArray):Bool:=if Jq s then false else if s.data.toList.all IH then !(Iz s).2 else false
theorem LB(s:ByteArray)(d:s.size<=maxLen)(w:World):Calls prog 186 #[.string s] w (JF (Iy s) w):=by
 have j:s.size<=maxLen:=d;have g:=Z j;unfold maxLen at d;by_cases hb:Jq s=true
 ·have b:Hid (Iy s=false):=by show _=_;unfold Iy;rw[if_pos hb]
  unfold Jq at hb
  replace hb:=of_decide_eq_true hb
  have f:=Z hb;go_wp2
  all_goals first
   |(go_ret;exact JF.mk b)
   |(exfalso;have hb:=f.out;simp only[ck]at*;omega)
 ·have b:Hid (Iy s=if s.data.toList.all IH then !(Iz s).2 else false):=by show _=_;unfold Iy;rw[if_neg hb]
  unfold Jq at hb;simp only[decide_eq_true_eq]at hb;have n:1<=s.size:=by omega
  have o:s.size<=16:=by omega
  have q:0<s.size:=by omega
  have l:97<=(s[0].toNat:Int):=by rw[ck];omega
  have m:(s[0].toNat:Int)<=122:=by rw[ck];omega
  go_wp2
  go_loop [3] (fun i=>∃(k:Nat),k<=s.size/\i=.int .i64 k/\Hid (s.data.toList.all IH=(s.data.toList.drop k).all IH)) (fun i=>s.size-(intOf i).toNat)
  case atStart=>exact⟨0,by omega,rfl,rfl⟩
  case round=>
   obtain⟨k,p,rfl,c⟩:=hrel;by_cases h:k<s.size
   ·have a:Hid (s.data.toList.drop k=s[k]::s.data.toList.drop (k+1)):=IT s k h
    go_wp2
    all_goals first
     |(go_round
       case rel=>exact⟨k+1,by omega,by go_num,by
        show _=_
        rw[c,a,List.all_cons];have e:IH s[k]=true:=(by unfold IH;rw[decide_eq_true_eq];omega);rw[e,Bool.true_and]⟩
       case measure=>simp[intOf];omega)
     |(go_ret
       exact JF.mk (by
        rw[b,c,a,List.all_cons];have e:IH s[k]=false:=(by unfold IH;rw[decide_eq_false_iff_not];omega);rw[e,Bool.false_and];rfl))
   ·have a:Hid (s.data.toList.drop k=[]):=Ja s k (by omega)
    go_wp2_with (go_at_call 228;refine(Jp _ g _).mono ?_;rintro e w' ⟨rfl,rfl⟩)
    go_ret;exact JF.mk (by rw[b,c,a];rfl)
theorem Ku(s:ByteArray)(a:s.size<=maxLen)(v:Int)(h:vh s=.ok v)(w:World):
 Calls prog 248 #[.string s] w (Ia (.ok v) w):=by rw[<-h];exact Jg s a w
theorem Kv(s:ByteArray)(a:s.size<=maxLen)(i:Int)(h:vh s=.error i)(w:World):
 Calls prog 248 #[.string s] w (Ia (.error i) w):=by rw[<-h];exact Jg s a w
def KK(r:Except Int Int)(line:Int)(w:World)(e:Ending)(w':World):Prop:=
 match r with
 |.ok v=>e=.returned (.tuple #[.int .u64 v,.nilIface])/\0<=v/\v<=Jo/\w=w'
 |.error i=>e=.returned (.tuple #[.int .u64 0,.iface 247 (.pointer (some (w.heap.size+1,0)))])/\
  (w.alloc (.cells #[.string ⟨#[119,111,114,100]⟩,i,.iface 152 (.int .i64 6)] 249)).alloc (.cells #[.string ⟨#[97,115,109]⟩,line,.iface 247 (.pointer (some (w.heap.size,0)))] 249)=w'
theorem Ib(s:ByteArray)(b:s.size<=maxLen)(v:Int)(h:vh s=.ok v)(line:Int)(w:World):
 Calls prog 229 #[.string s,line] w (KK (.ok v) line w):=by
 have a:=Z (Ku s b v h);go_in
 go_wp2_with (go_at_call 248;refine(a _).mono ?_;rintro e w' ⟨rfl,c,d,rfl⟩)
 go_ret2;exact⟨rfl,‹_›,‹_›,rfl⟩
theorem Ic(s:ByteArray)(b:s.size<=maxLen)(i:Int)(h:vh s=.error i)(line:Int)(w:World):
 Calls prog 229 #[.string s,line] w (KK (.error i) line w):=by
 have a:=Z (Kv s b i h);go_in
 go_wp2_with (first|(go_at_call 248;refine(a _).mono ?_;rintro e w' ⟨rfl,rfl⟩)|(go_at_call 142;refine(sz _ _ _ _).mono ?_;rintro e w' ⟨rfl,rfl⟩))
 go_ret2;exact⟨rfl,rfl⟩
variable{a b:ByteArray}
def IY:ByteArray:=(ByteArray.mk (List.toArray (List.append (List.append [115,101,116,32,109,111,118,32,97,100,100,32,115,117,98,32,97,110,100,32,111,114,32,120,111,114,32,115,104,108,32,115,104,114,32,101,113,32,108,116,32,106,109,112,32,106,122,32,106,110,122,32,106,115,114,32] [114,101,116,32,108,100,32,115,116,32,115,119,112,32,102,97,100,32,99,97,115,32,99,97,108,108,32,104,115,104,32,113,112,116,32,113,116,107,32,113,109,118,32,113,104,115,32,115,108,112,32,104,110,100,32,112,105]) (List.append [107,32,108,97,121,32,116,97,107,32,105,110,106,32,105,106,116,32,114,117,110,32,112,114,107,32,115,108,102,32,119,114,107,32,119,107,100,32,119,107,110,32,110,111,119,32,100,114,119,32,103,101,116,32,102,114,101] [32,111,98,106,32,100,101,108,32,99,107,112,32,116,110,119,32,116,115,116,32,116,104,109,32,116,106,110,32,116,100,116,32,116,101,120,32,116,114,112,32,101,110,100,32,121,108,100,32,99,98,107,32,102,105,110,32]))))
theorem JG:IY.size=227:=by decide+kernel
theorem toList_data(s:ByteArray):s.toList=s.data.toList:=ByteArray.toList_eq s
theorem toList_eq(h:(a.toList==b.toList)=true):a=b:=by
 have c:=beq_iff_eq.1 h;rw[toList_data,toList_data]at c;exact ByteArray.ext (Array.ext' c)
theorem Kj(h:(a.toList==b.toList)=false):¬a=b:=by
 intro e;subst e;simp at h
def JL(s:ByteArray):Nat->Nat->Nat->Int->Int
 |0,_,_,_=>0
 |f+1,i,a,n=>if sv IY i≠32 then JL s f (i+1) a n else if IY.extract a i=s then n else JL s f (i+1) (i+1) (n+1)
def Kb(s:ByteArray):Int:=JL s 227 0 0 1
theorem Lv(s:ByteArray)(w:World):Calls prog 187 #[.string s] w (JP .i64 (Kb s) w):=by
 have q:=JG;have o:Hid (JL s (227-0) 0 0 1=Kb s):=rfl;go_in
 obtain⟨N,p⟩:∃N:ByteArray,Hid (N=IY):=⟨_,rfl⟩;generalize l:(ByteArray.mk (List.toArray (List.append (List.append [115,101,116,32,109,111,118,32,97,100,100,32,115,117,98,32,97,110,100,32,111,114,32,120,111,114,32,115,104,108,32,115,104,114,32,101,113,32,108,116,32,106,109,112,32,106,122,32,106,110,122,32,106,115,114,32] [114,101,116,32,108,100,32,115,116,32,115,119,112,32,102,97,100,32,99,97,115,32,99,97,108,108,32,104,115,104,32,113,112,116,32,113,116,107,32,113,109,118,32,113,104,115,32,115,108,112,32,104,110,100,32,112,105]) (List.append [107,32,108,97,121,32,116,97,107,32,105,110,106,32,105,106,116,32,114,117,110,32,112,114,107,32,115,108,102,32,119,114,107,32,119,107,100,32,119,107,110,32,110,111,119,32,100,114,119,32,103,101,116,32,102,114,101] [32,111,98,106,32,100,101,108,32,99,107,112,32,116,110,119,32,116,115,116,32,116,104,109,32,116,106,110,32,116,100,116,32,116,101,120,32,116,114,112,32,101,110,100,32,121,108,100,32,99,98,107,32,102,105,110,32]))))=c;have r:c.size=227:=by rw[<-l];exact JG
 have d:Hid (c=IY):=l.symm;have C:c.size<=227:=by omega
 have D:227<=c.size:=by omega
 go_wp2
 go_loop [3,4,5] (fun at_ n i=>∃(k a:Nat) (m:Int),k<=227/\a<=k/\1<=m/\m<=k+1/\at_=.int .i64 a/\n=.int .i64 m/\i=.int .i64 k/\Hid (JL s (227-k) k a m=Kb s)) (fun _ _ i=>227-(intOf i).toNat)
 case atStart=>exact⟨0,0,1,by omega,by omega,by omega,by omega,rfl,rfl,rfl,o⟩
 case round=>
  obtain⟨k,a,m,u,t,A,B,rfl,rfl,rfl,e⟩:=hrel;by_cases v:k<227
  ·have g:k<c.size:=by omega
   have j:∀x y z,Hid (JL s (227-k) k a m=if sv IY k≠32 then x else if IY.extract a k=s then y else z)->True:=(fun _ _ _ _=>trivial);have f:Hid (JL s (227-k) k a m=if sv IY k≠32 then JL s (227-(k+1)) (k+1) a m else if IY.extract a k=s then m else JL s (227-(k+1)) (k+1) (k+1) (m+1)):=by
    show _=_
    rw[show 227-k=(227-(k+1))+1 from by omega,JL]
   go_wp2
   all_goals first
    |(go_round
      case rel=>exact⟨k+1,a,m,by omega,by omega,by omega,by omega,rfl,rfl,by go_num,by
       show _=_
       have h:=f.out;rw[if_pos (by rw[<-d.out,<-ck c k g];simpa using (show((c[k].toNat:Int) !=32)=true from by assumption))]at h;rw[<-h];exact e⟩
      case measure=>simp[intOf];omega)
    |(go_ret
      exact JP.mk (by
       have h:=f.out;rw[if_neg (by rw[<-d.out,<-ck c k g];simpa using (show((c[k].toNat:Int) !=32)=false from by assumption)),if_pos (by rw[<-d.out];exact toList_eq (by assumption))]at h;rw[<-e];exact h))
    |(go_round
      case rel=>exact⟨k+1,k+1,m+1,by omega,by omega,by omega,by omega,by go_num,rfl,by go_num,by
       show _=_
       have h:=f.out;rw[if_neg (by rw[<-d.out,<-ck c k g];simpa using (show((c[k].toNat:Int) !=32)=false from by assumption)),if_neg (by rw[<-d.out];exact Kj (by assumption))]at h;rw[<-h];exact e⟩
      case measure=>simp[intOf];omega)
  ·have j:Hid (JL s (227-k) k a m=0):=by
    show _=_
    rw[show 227-k=0 from by omega,JL]
   go_wp2
   go_ret;exact JP.mk (by rw[<-e];exact j)
variable{b:Bool}
def b9(s:ByteArray)(i:Nat):Int:=((s.data.toList.getD i 0).toNat:Int)
theorem cc(s:ByteArray)(i:Nat)(h:i<s.size):(s[i].toNat:Int)=b9 s i:=by
 unfold b9;rw[List.getD_eq_getElem?_getD,List.getElem?_eq_getElem (by simpa using h)];rfl
theorem drop_cons(s:ByteArray)(k:Nat)(h:k<s.size):s.data.toList.drop k=s[k]::s.data.toList.drop (k+1):=by
 rw[List.drop_eq_getElem_cons (by simpa using h)];rfl
theorem iv(s:ByteArray)(k:Nat)(h:s.size<=k):s.data.toList.drop k=[]:=by
 rw[List.drop_eq_nil_iff];simpa using h
theorem wB(b:UInt8):0<=(b.toNat:Int):=Int.natCast_nonneg _
theorem wC(b:UInt8):(b.toNat:Int)<=255:=by have:=b.toNat_lt;omega
def DH(k:IntKind)(p:Int×Bool)(w:World)(e:Ending)(w':World):Prop:=e=.returned (.tuple #[.int k p.1,.bool p.2])/\w=w'
theorem DH.mk{k:IntKind}{p:Int×Bool}(h:p=(n,b)):DH k p w (.returned (.tuple #[.int k n,.bool b])) w:=⟨by rw[h],rfl⟩
def CU(k:IntKind)(n:Int)(w:World)(e:Ending)(w':World):Prop:=e=.returned (.int k n)/\w=w'
theorem CU.mk{k:IntKind}{m:Int}(h:n=m):CU k n w (.returned (.int k m)) w:=⟨by rw[h],rfl⟩
def za(k:IntKind)(p:Int×Bool)(w:World)(e:Ending)(w':World):Prop:=e=.returned (.tuple #[.int k p.1,.bool p.2])/\∃n,w'=w.drewN n
theorem za.mk{k:IntKind}{p:Int×Bool}(m:Nat)(h:p=(n,b)):za k p w (.returned (.tuple #[.int k n,.bool b])) (w.drewN m):=⟨by rw[h],m,rfl⟩
theorem za.DI{k:IntKind}{p:Int×Bool}(h:p=(n,b)):za k p w (.returned (.tuple #[.int k n,.bool b])) w:=⟨by rw[h],0,rfl⟩
def dW(s:ByteArray):Int×Bool:=
 if(s.size:Int)=2/\b9 s 0=114/\48<=b9 s 1/\b9 s 1<=57 then(b9 s 1-48,true)
 else if(s.size:Int)=3/\b9 s 0=114/\49<=b9 s 1/\b9 s 1<=51/\48<=b9 s 2/\b9 s 2<=57 then(10*(b9 s 1-48)+(b9 s 2-48),decide (10*(b9 s 1-48)+(b9 s 2-48)<32))
 else(0,false)
theorem tf(s:ByteArray)(p:s.size<=maxLen)(w:World):Calls prog 153 #[.string s] w (za .i64 (dW s) w):=by
 unfold maxLen at p;by_cases r:s.size=2
 ·have i:0<s.size:=by omega
  have p1:1<s.size:=by omega
  have c:=cc s 0 i;have d:=cc s 1 p1;have a:=Z (show dW s=_ from by unfold dW;rw[<-c,<-d]);clear c d;go_wp2
  all_goals
   go_ret2;refine za.DI ?_;rw[a]
   first
    |(rw[if_pos (by omega)])
    |(rw[if_neg (by omega),if_neg (by omega)])
 ·by_cases t:s.size=3
  ·have i:0<s.size:=by omega
   have p1:1<s.size:=(by omega);have p2:2<s.size:=(by omega);have c:=cc s 0 i;have d:=cc s 1 p1;have j:=cc s 2 p2;have a:=Z (show dW s=_ from by unfold dW;rw[<-c,<-d,<-j]);clear c d j;go_in
   by_cases g:(s[0].toNat:Int)=114/\49<=(s[1].toNat:Int)/\(s[1].toNat:Int)<=51/\48<=(s[2].toNat:Int)/\(s[2].toNat:Int)<=57
   ·obtain⟨f,k,l,m,o⟩:=g
    have q:((s[0].toNat:Int)==114)=true:=(by rw[f];rfl);have e:=Z (And.intro f (And.intro k (And.intro l (And.intro m o))));have u1:IntKind.u8.wrap ((s[1].toNat:Int)-48)=(s[1].toNat:Int)-48:=IntWalk.u8_in _ (by omega);have u2:IntKind.u8.wrap ((s[2].toNat:Int)-48)=(s[2].toNat:Int)-48:=IntWalk.u8_in _ (by omega);have u3:IntKind.i64.wrap (10*((s[1].toNat:Int)-48))=10*((s[1].toNat:Int)-48):=IntWalk.i64_in _ (by omega);have u4:IntKind.i64.wrap (10*((s[1].toNat:Int)-48)+((s[2].toNat:Int)-48))=10*((s[1].toNat:Int)-48)+((s[2].toNat:Int)-48):=IntWalk.i64_in _ (by omega);have u5:IntKind.i64.wrap ((s[1].toNat:Int)-48)=(s[1].toNat:Int)-48:=IntWalk.i64_in _ (by omega);have u6:IntKind.i64.wrap ((s[2].toNat:Int)-48)=(s[2].toNat:Int)-48:=IntWalk.i64_in _ (by omega);clear f;go_wp2
    go_quiet (fail)
    go_wp2
    go_ret2;refine za.mk _ ?_;have h:=e.out;rw[a,if_neg (by omega),if_pos (by omega)]
   ·have e:=Z g
    clear g;go_wp2
    all_goals
     first
      |(exfalso;exact e ⟨by assumption,by assumption,by assumption,by assumption,by assumption⟩)
      |(go_ret2
        refine za.DI ?_;have h:=e.out;rw[a,if_neg (by omega),if_neg (by omega)])
  ·have a:=Z (show dW s=(0,false)from by unfold dW;rw[if_neg (by omega),if_neg (by omega)])
   go_wp2
   all_goals
    go_ret2;exact za.DI a
variable{c:Bool}
def QB(b:Bool)(w:World)(e:Ending)(w':World):Prop:=e=.returned (.bool b)/\∃n,w'=w.drewN n
theorem QB.DI(h:b=c):QB b w (.returned (.bool c)) w:=⟨by rw[h],0,rfl⟩
theorem QB.mk(n:Nat)(h:b=c):QB b w (.returned (.bool c)) (w.drewN n):=⟨by rw[h],n,rfl⟩
def h'(c:UInt8):Bool:=decide ((97<=(c.toNat:Int)/\(c.toNat:Int)<=122)∨(48<=(c.toNat:Int)/\(c.toNat:Int)<=57))
def nn(s:ByteArray):Bool:=decide ((s.size:Int)<1∨16<(s.size:Int)∨b9 s 0<97∨122<b9 s 0)
def fZ(s:ByteArray):Bool:=if nn s then false else if s.data.toList.all h' then !(dW s).2 else false
theorem yC(s:ByteArray)(p:s.size<=maxLen)(w:World):Calls prog 120 #[.string s] w (QB (fZ s) w):=by
 have u:s.size<=maxLen:=p;have r:=Z u;unfold maxLen at p;by_cases hb:nn s=true
 ·have d:Hid (fZ s=false):=by show _=_;unfold fZ;rw[if_pos hb]
  unfold nn at hb
  replace hb:=of_decide_eq_true hb
  have q:=Z hb;go_wp2
  all_goals first
   |(go_ret;exact QB.DI d)
   |(exfalso;have hb:=q.out;simp only[cc]at*;omega)
 ·have d:Hid (fZ s=if s.data.toList.all h' then !(dW s).2 else false):=by show _=_;unfold fZ;rw[if_neg hb]
  unfold nn at hb;simp only[decide_eq_true_eq]at hb;have z:1<=s.size:=by omega
  have A:s.size<=16:=by omega
  have C:0<s.size:=by omega
  have v:97<=(s[0].toNat:Int):=by rw[cc];omega
  have x:(s[0].toNat:Int)<=122:=by rw[cc];omega
  go_wp2
  go_loop [3] (fun i=>∃(k:Nat),k<=s.size/\i=.int .i64 k/\Hid (s.data.toList.all h'=(s.data.toList.drop k).all h')) (fun i=>s.size-(intOf i).toNat)
  case atStart=>exact⟨0,by omega,rfl,rfl⟩
  case round=>
   obtain⟨k,B,rfl,g⟩:=hrel;by_cases t:k<s.size
   ·have h:Hid (s.data.toList.drop k=s[k]::s.data.toList.drop (k+1)):=drop_cons s k t
    by_cases a:h' s[k]=true
    ·have f:Hid ((s.data.toList.drop k).all h'=(s.data.toList.drop (k+1)).all h'):=by
      show _=_
      rw[h,List.all_cons,a,Bool.true_and]
     unfold h' at a;rw[decide_eq_true_eq]at a;have m:((97<=(s[k].toNat:Int))/\(s[k].toNat:Int)<=122)∨((s[k].toNat:Int)<97/\48<=(s[k].toNat:Int)/\(s[k].toNat:Int)<=57):=(by omega);rcases m with⟨j,l⟩|⟨j,l,o⟩
     all_goals
      go_wp2
      go_round
      case rel=>exact⟨k+1,by omega,by go_num,g.trans f⟩
      case measure=>simp[intOf];omega
    ·have f:Hid ((s.data.toList.drop k).all h'=false):=by
      show _=_
      rw[h,List.all_cons];simp only[Bool.not_eq_true]at a;rw[a,Bool.false_and]
     unfold h' at a;rw[decide_eq_true_eq]at a;have m:(s[k].toNat:Int)<48∨(57<(s[k].toNat:Int)/\(s[k].toNat:Int)<97)∨(122<(s[k].toNat:Int)):=(by omega);rcases m with j|⟨j,l⟩|j
     ·have l:(s[k].toNat:Int)<97:=by omega
      go_wp2
      all_goals first
       |(exfalso;simp only[Bool.not_eq_false',decide_eq_true_eq]at*;omega)
       |(go_ret;exact QB.DI (by rw[d,g,f];rfl))
     ·have o:48<=(s[k].toNat:Int):=by omega
      go_wp2
      all_goals first
       |(exfalso;simp only[Bool.not_eq_false',decide_eq_true_eq]at*;omega)
       |(go_ret;exact QB.DI (by rw[d,g,f];rfl))
     ·have l:97<=(s[k].toNat:Int):=by omega
      have o:48<=(s[k].toNat:Int):=(by omega);have y:57<(s[k].toNat:Int):=(by omega);go_wp2
      all_goals first
       |(exfalso;simp only[Bool.not_eq_false',decide_eq_true_eq]at*;omega)
       |(go_ret;exact QB.DI (by rw[d,g,f];rfl))
   ·have h:Hid (s.data.toList.drop k=[]):=iv s k (by omega)
    go_wp2_with (go_at_call 153;refine(tf _ r _).mono ?_;rintro e w' ⟨rfl,n,rfl⟩)
    go_ret;exact QB.mk _ (by rw[d,g,h];rfl)
def m6(c:Int):Int:=
 if 48<=c/\c<=57 then c-48 else if 97<=c/\c<=102 then c-87 else if 65<=c/\c<=70 then c-55 else 99
theorem wD(c:Int):0<=m6 c:=by unfold m6;split;omega;split;omega;split;omega;omega
theorem oI(c:Int)(a:0<=c)(d:c<=255)(w:World):Calls prog 237 #[.int .u8 c] w (CU .u64 (m6 c) w):=by
 go_wp2
 all_goals(go_ret;refine CU.mk ?_)
 all_goals(first
  |(unfold m6;rw[if_pos (by omega)])
  |(unfold m6;rw[if_neg (by omega),if_pos (by omega)];omega)
  |(unfold m6;rw[if_neg (by omega),if_neg (by omega),if_pos (by omega)];omega)
  |(unfold m6;rw[if_neg (by omega),if_neg (by omega),if_neg (by omega)]))
def ti:List UInt8->Int->Int->Option Int
 |[],_,v=>some v
 |c::cs,j,v=>if m6 c.toNat<10/\j<20/\v<=1844674407370955161/\v*10<=18446744073709551615-m6 c.toNat then ti cs (j+1) (v*10+m6 c.toNat)else none
def yD(s:ByteArray):Option Int:=if 2<=(s.size:Int)/\b9 s 0=48/\b9 s 1=120 then none else if s.size=0 then none else ti s.data.toList 0 0
def Gb(v:Int)(w:World)(e:Ending)(w':World):Prop:=e=.returned (.tuple #[.int .u64 v,.pointer none])/\aK v/\w=w'
theorem uV(s:ByteArray)(H:s.size<=maxLen)(v:Int)(h:yD s=some v)(w:World):Calls prog 196 #[.string s] w (Gb v w):=by
 unfold maxLen at H;unfold yD at h;split at h
 ·cases h
 ·rename_i I
  split at h
  ·cases h
  ·rename_i M
   have u:=Z h;have K:1<=s.size:=(by omega);have N:0<s.size:=(by omega);have z:=Z I;by_cases x:2<=s.size/\b9 s 0=48
   ·obtain⟨L,y⟩:=x
    have p1:1<s.size:=(by omega);have o:((s[0].toNat:Int)==48)=true:=(by rw[cc,beq_iff_eq];exact y);have J:((s[1].toNat:Int)==120)=false:=(by rw[cc,beq_eq_false_iff_ne];intro e;exact z ⟨by omega,y,e⟩);go_wp2
    go_loop [7,8] (fun n i=>∃(k:Nat) (m:Int),k<=s.size/\i=.int .i64 k/\n=.int .u64 m/\0<=m/\m<=18446744073709551615/\Hid (ti (s.data.toList.drop k) k m=some v)) (fun _ i=>s.size-(intOf i).toNat)
    case atStart=>exact⟨0,0,by omega,rfl,rfl,by omega,by omega,u⟩
    case round=>
     obtain⟨k,m,E,rfl,rfl,t,G,g⟩:=hrel;by_cases r:k<s.size
     ·have a:Hid (s.data.toList.drop k=s[k]::s.data.toList.drop (k+1)):=drop_cons s k r
      have h:=g.out;rw[a,ti]at h;split at h
      ·rename_i l
       have j:=Z h;have q:=wD s[k].toNat;obtain⟨d,hd⟩:=nm (m6 s[k].toNat);have f:=Z (fun w=>oI s[k].toNat (wB _) (wC _) w);rw[hd]at f l q j;obtain⟨A,B,C,D⟩:=l;have F:k<=19:=(by omega);go_wp2_with (go_at_call 237;refine(f _).mono ?_;rintro e w' ⟨rfl,rfl⟩)
       go_round
       case rel=>exact⟨k+1,m*10+d,by omega,by go_num,rfl,by omega,by omega,j⟩
       case measure=>simp[intOf];omega
      ·cases h
     ·have a:Hid (s.data.toList.drop k=[]):=iv s k (by omega)
      have h:=g.out;rw[a,ti]at h;obtain rfl:m=v:=Option.some.inj h;go_wp2
      go_ret2;exact⟨rfl,⟨t,by omega⟩,rfl⟩
   ·have o:(2<=s.size->((s[0].toNat:Int)==48)=false):=fun p=>by rw[cc,beq_eq_false_iff_ne];intro e;exact x ⟨p,e⟩
    by_cases p:2<=s.size
    all_goals
     (try have o:=o p)
     go_wp2
     go_loop [7,8] (fun n i=>∃(k:Nat) (m:Int),k<=s.size/\i=.int .i64 k/\n=.int .u64 m/\0<=m/\m<=18446744073709551615/\Hid (ti (s.data.toList.drop k) k m=some v)) (fun _ i=>s.size-(intOf i).toNat)
     case atStart=>exact⟨0,0,by omega,rfl,rfl,by omega,by omega,u⟩
     case round=>
      obtain⟨k,m,E,rfl,rfl,t,G,g⟩:=hrel;by_cases r:k<s.size
      ·have a:Hid (s.data.toList.drop k=s[k]::s.data.toList.drop (k+1)):=drop_cons s k r
       have h:=g.out;rw[a,ti]at h;split at h
       ·rename_i l
        have j:=Z h;have q:=wD s[k].toNat;obtain⟨d,hd⟩:=nm (m6 s[k].toNat);have f:=Z (fun w=>oI s[k].toNat (wB _) (wC _) w);rw[hd]at f l q j;obtain⟨A,B,C,D⟩:=l;have F:k<=19:=(by omega);go_wp2_with (go_at_call 237;refine(f _).mono ?_;rintro e w' ⟨rfl,rfl⟩)
        go_round
        case rel=>exact⟨k+1,m*10+d,by omega,by go_num,rfl,by omega,by omega,j⟩
        case measure=>simp[intOf];omega
       ·cases h
      ·have a:Hid (s.data.toList.drop k=[]):=iv s k (by omega)
       have h:=g.out;rw[a,ti]at h;obtain rfl:m=v:=Option.some.inj h;go_wp2
       go_ret2;exact⟨rfl,⟨t,by omega⟩,rfl⟩
variable{b:Nat}{X:be}
theorem CV(t:ByteArray)(n:Int)(w:World):Calls prog 197 #[.string t,n,.pointer none] w (ez (.pointer none) w):=by
 go_wp2
 go_ret;exact⟨rfl,rfl⟩
theorem c'(s:ByteArray)(d:s.size<=maxLen)(v:Int)(h:yD s=some v)(p:Nat)(line:Int)(w:World)(g:w.cell? (p,4)=some (.int .i64 line)):
 Calls prog 157 #[(p,0),.string s] w (Gb v w):=by
 have a:=Z (uV s d v h);go_in
 go_wp2_with (first|(go_at_call 196;refine(a _).mono ?_;rintro e w' ⟨rfl,f,rfl⟩;have c:=Z f)|(go_at_call 197;refine(CV _ _ _).mono ?_;rintro e w' ⟨rfl,rfl⟩))
 go_ret2;exact⟨rfl,c,rfl⟩
def aq(w:World)(b:Nat)(X:be):Prop:=Row w b 184 (aD X).toList
theorem aq.Gc(h:aq w b X)(n:Int):aq (w.setCell (b,1) (.int .i64 n)) b {X with a:=n}:=Row.bc h _ _ rfl
theorem aq.oJ(h:aq w b X)(n:Int):aq (w.setCell (b,2) (.int .i64 n)) b {X with b:=n}:=Row.bc h _ _ rfl
theorem aq.wE(h:aq w b X)(n:Int):aq (w.setCell (b,3) (.int .i64 n)) b {X with c:=n}:=Row.bc h _ _ rfl
theorem aq.mU(h:aq w b X)(n:Int):aq (w.setCell (b,4) (.int .u64 n)) b {X with v:=n}:=Row.bc h _ _ rfl
theorem aq.wF(h:aq w b X)(n:Int):aq (w.setCell (b,5) (.int .i64 n)) b {X with m:=n}:=Row.bc h _ _ rfl
theorem aq.AT(h:aq w b X)(n:Int):aq (w.setCell (b,6) (.int .i64 n)) b {X with wh:=n}:=Row.bc h _ _ rfl
theorem aq.drewN(h:aq w b X)(n:Nat):aq (w.drewN n) b X:=h
theorem aq.drew(h:aq w b X):aq w.drew b X:=h
def Hy(X:be)(bx:Nat)(w:World)(e:Ending)(w':World):Prop:=e=.returned (.pointer none)/\aq w' bx X/\Ch (aH bx) w w'
def hA:List UInt8->Int->Int
 |[],_=>-1
 |c::cs,i=>if(c.toNat:Int)=43 then i else hA cs (i+1)
theorem AU(l:List UInt8):∀i,hA l i=-1∨(i<=hA l i/\hA l i<i+l.length):=by
 induction l with
 |nil=>intro i;exact Or.inl rfl
 |cons c l ih=>
  intro i;unfold hA;split
  ·right;simp only[List.length_cons];omega
  ·rcases ih (i+1)with h|h
   ·exact Or.inl h
   ·right;simp only[List.length_cons];omega
def Hz(s:ByteArray):ByteArray:=s.extract 1 (s.size-1)
def wG(t:ByteArray)(X:be):Option be:=
 if(dW t).2 then some {X with b:=(dW t).1}
 else if 0<=hA t.data.toList 0 then
  (if(dW (t.extract 0 (hA t.data.toList 0).toNat)).2 then(yD (t.extract ((hA t.data.toList 0).toNat+1) t.size)).map fun v=>{X with b:=(dW (t.extract 0 (hA t.data.toList 0).toNat)).1,v:=v}else none)
 else(yD t).map fun v=>{X with b:=-1,v:=v}
def uW(s:ByteArray)(X:be):Option be:=
 if(s.size:Int)<2∨b9 s 0≠91∨b9 s (s.size-1)≠93 then none else wG (Hz s) X
theorem jW(s:ByteArray)(a:s.size<=maxLen)(n:Int)(b:Bool)(h:dW s=(n,b))(w:World):Calls prog 153 #[.string s] w (za .i64 (n,b) w):=by rw[<-h];exact tf s a w
theorem yE(s:ByteArray)(am:s.size<=65536)(X d:be)(h:uW s X=some d)(p bx:Nat)(line:Int)(w:World)(I:w.cell? (p,4)=some (.int .i64 line))(f:aq w bx X):
 Calls prog 156 #[(p,0),.string s,(bx,0)] w (Hy d bx w):=by
 unfold uW at h;split at h
 ·cases h
 ·rename_i a9
  have a5:2<=s.size:=by omega
  have av:0<s.size:=by omega
  have p1:s.size-1<s.size:=by omega
  have a1:((s[0].toNat:Int) !=91)=false:=by rw[cc,bne_eq_false_iff_eq];omega
  have a2:((s[s.size-1].toNat:Int) !=93)=false:=by rw[cc,bne_eq_false_iff_eq];omega
  have f1:=f.free 2;have f2:=f.free 4;have a3:w.cell? (bx,2)=some (.int .i64 X.b):=f.cell rfl;have a4:w.cell? (bx,4)=some (.int .u64 X.v):=f.cell rfl;have A:=Z f;obtain⟨t,K⟩:=nm (s.extract 1 (s.size-1));have ap:t.size<=65536:=by rw[<-K];simp;omega
  have T:Hz s=t:=K;rw[T]at h;have R:=Z h;go_in
  go_upto_block 0 with fail
  obtain⟨P,F⟩:=nm (hA t.data.toList 0);have G:=AU t.data.toList 0;rw[F]at G;have U:t.data.toList.length=t.size:=by simp
  rw[U]at G;have E:=Z F;go_cut [7] (fun q wc=>q=.int .i64 P/\w=wc)
  case first=>
   go_wp2
   go_loop [7,8] (fun q i=>∃(k:Nat) (m:Int),k<=t.size/\i=.int .i64 k/\q=.int .i64 m/\((m<0/\-1<=m/\Hid (hA (t.data.toList.drop k) k=P))∨(0<=m/\m<t.size/\Hid (m=P)))) (fun _ i=>t.size-(intOf i).toNat)
   case atStart=>exact⟨0,-1,by omega,rfl,rfl,Or.inl ⟨by omega,by omega,E⟩⟩
   case round=>
    obtain⟨k,m,ab,rfl,rfl,W⟩:=hrel;rcases W with⟨N,O,r⟩|⟨N,O,a⟩
    ·by_cases H:k<t.size
     ·have g:Hid (t.data.toList.drop k=t[k]::t.data.toList.drop (k+1)):=drop_cons t k H
      by_cases j:(t[k].toNat:Int)=43
      ·have a:Hid ((k:Int)=P):=by
        show _=_
        have:=r.out;rw[g,hA,if_pos j]at this;exact this
       have V:((t[k].toNat:Int)==43)=true:=(by rw[j];rfl);go_wp2
       go_round
       case rel=>exact⟨k+1,k,by omega,by go_num,rfl,Or.inr ⟨by omega,by omega,a⟩⟩
       case measure=>simp[intOf];omega
      ·have a:Hid (hA (t.data.toList.drop (k+1)) ((k+1:Nat):Int)=P):=by
        show _=_
        have:=r.out;rw[g,hA,if_neg j]at this;exact this
       have V:((t[k].toNat:Int)==43)=false:=(by simpa using j);go_wp2
       go_round
       case rel=>exact⟨k+1,m,by omega,by go_num,rfl,Or.inl ⟨N,O,a⟩⟩
       case measure=>simp[intOf];omega
     ·have g:Hid (t.data.toList.drop k=[]):=iv t k (by omega)
      have a:Hid (m=P):=by
       show _=_
       have:=r.out;rw[g,hA]at this;omega
      go_wp2
      go_meet
      exact⟨by rw[a],rfl⟩
    ·by_cases H:k<t.size
     all_goals
      go_wp2
      go_meet
      exact⟨by rw[a],rfl⟩
  case rest=>
   obtain⟨rfl,rfl⟩:=hcut;have h:=R.out;unfold wG at h;rw[E]at h;have l:t.size<=maxLen:=(by unfold maxLen;omega);rcases J:dW t with⟨n,b⟩
   have x:=Z (jW t l n b J);rw[J]at h;cases b with
   |true=>
    obtain rfl:d={X with b:=n}:=(Option.some.inj h).symm;go_wp2_with (go_at_call 153;(with_reducible refine(x.out _).mono ?_);rintro e w' ⟨rfl,D,rfl⟩)
    go_ret;exact⟨rfl,(A.drewN D).oJ n,ay⟩
   |false=>
    simp only[Bool.false_eq_true,if_false]at h;by_cases B:0<=P
    ·rw[if_pos B]at h
     obtain⟨q,rfl⟩:=Int.eq_ofNat_of_zero_le B;have al:q<t.size:=(by omega);simp only[Int.toNat_natCast]at h;rcases C:dW (t.extract 0 q)with⟨o,S⟩
     rw[C]at h;cases S with
     |false=>cases h
     |true=>
      simp only[if_true]at h;obtain⟨y,L⟩:=nm (t.extract 0 q);obtain⟨z,M⟩:=nm (t.extract (q+1) t.size);have Y:y.size<=maxLen:=(by rw[<-L];unfold maxLen;simp;omega);have a0:z.size<=maxLen:=(by rw[<-M];unfold maxLen;simp;omega);rw[L]at C;rw[M]at h;have Q:=Z (jW y Y o true C);cases c:yD z with
      |none=>rw[c]at h;cases h
      |some v=>
       rw[c]at h;obtain rfl:d={X with b:=o,v:=v}:=(Option.some.inj h).symm;have u:=Z (c' z a0 v c p line);go_wp2_with (first|(go_at_call 153;(with_reducible refine(x.out _).mono ?_);rintro e w' ⟨rfl,D,rfl⟩)|(go_at_call 153;(with_reducible refine(Q.out _).mono ?_);rintro e w' ⟨rfl,nq,rfl⟩)|(go_at_call 157;(with_reducible refine(u.out _ ?_).mono ?_);exact I;rintro e w' ⟨rfl,l,rfl⟩))
       go_ret;refine⟨rfl,?_,ay⟩
       (repeat(first|with_reducible refine aq.drewN ?_ _|with_reducible refine aq.drew ?_))
       refine aq.mU (X:={X with b:=o}) ?_ v
       (repeat(first|with_reducible refine aq.drewN ?_ _|with_reducible refine aq.drew ?_))
       refine aq.oJ (X:=X) ?_ o
       (repeat(first|with_reducible refine aq.drewN ?_ _|with_reducible refine aq.drew ?_))
       exact A
    ·rw[if_neg B]at h
     have ad:P<0:=(by omega);cases c:yD t with
     |none=>rw[c]at h;cases h
     |some v=>
      rw[c]at h;obtain rfl:d={X with b:=-1,v:=v}:=(Option.some.inj h).symm;have u:=Z (c' t l v c p line);go_wp2_with (first|(go_at_call 153;(with_reducible refine(x.out _).mono ?_);rintro e w' ⟨rfl,D,rfl⟩)|(go_at_call 157;(with_reducible refine(u.out _ ?_).mono ?_);exact I;rintro e w' ⟨rfl,l,rfl⟩))
      go_ret;refine⟨rfl,?_,ay⟩
      (repeat(first|with_reducible refine aq.drewN ?_ _|with_reducible refine aq.drew ?_))
      refine aq.mU (X:={X with b:=-1}) ?_ v
      (repeat(first|with_reducible refine aq.drewN ?_ _|with_reducible refine aq.drew ?_))
      refine aq.oJ (X:=X) ?_ (-1)
      (repeat(first|with_reducible refine aq.drewN ?_ _|with_reducible refine aq.drew ?_))
      exact A
def fI(t:ByteArray)(a:Int):Int×ByteArray:=
 if 2<=t.size/\((t.extract (t.size-2) t.size).data.toList==[61,48])=true then(1,t.extract 0 (t.size-2))
 else if 2<=t.size/\((t.extract (t.size-2) t.size).data.toList==[62,48])=true then(2,t.extract 0 (t.size-2))
 else(a,t)
def jy(X:be)(p:Int×ByteArray):Option be:=
 match yD p.2 with
 |none=>none
 |some v=>if v<1∨99<v then none else some {X with wh:=p.1,m:=v}
def q9(s:ByteArray)(X:be):Option be:=jy X (fI (s.extract 1 s.size) X.wh)
theorem yF(s:ByteArray)(D:s.size<=65536)(C:1<=s.size)(X g:be)(h:q9 s X=some g)(p bx:Nat)(line:Int)(w:World)(l:w.cell? (p,4)=some (.int .i64 line))(y:p≠bx)(i:aq w bx X):
 Calls prog 125 #[(p,0),.string s,(bx,0)] w (Hy g bx w):=by
 have A:w.cell? (bx,5)=some (.int .i64 X.m):=i.cell rfl;have B:w.cell? (bx,6)=some (.int .i64 X.wh):=i.cell rfl;have f5:=i.free 5;have f6:=i.free 6;have j:=Z i;unfold q9 at h;obtain⟨t,z⟩:=nm (s.extract 1 s.size);have E:t.size<=65536:=by rw[<-z];simp;omega
 rw[z]at h;go_in
 go_upto_region 2 with fail
 by_cases k:2<=t.size
 ·cases n:(t.extract (t.size-2) t.size).toList==[61,48]with
  |true=>
   have d:fI t X.wh=(1,t.extract 0 (t.size-2)):=(by unfold fI;rw[if_pos ⟨k,ByteArray.toList_eq (t.extract (t.size-2) t.size)▸n⟩]);rw[d]at h;unfold jy at h;dsimp only at h;cases a:yD (t.extract 0 (t.size-2))with
   |none=>rw[a]at h;cases h
   |some v=>
    rw[a]at h;dsimp only at h;split at h
    ·cases h
    ·rename_i r
     obtain rfl:g={X with wh:=1,m:=v}:=(Option.some.inj h).symm;have c:=Z (c' (t.extract 0 (t.size-2)) (by unfold maxLen;first|omega|(simp;omega)) v a p line);have o:1<=v:=(by omega);have q:v<=99:=(by omega);go_upto_region 3 with fail
     obtain⟨u,f⟩:=nm (t.extract 0 (t.size-2));rw[f]at c;go_region
     go_wp2_with (go_at_call 157;(with_reducible refine(c.out _ ?_).mono ?_);(simp[go_sem,y,l]);rintro e w' ⟨rfl,f,rfl⟩)
     go_ret;refine⟨rfl,?_,ay⟩
     (repeat(first|with_reducible refine aq.drewN ?_ _|with_reducible refine aq.drew ?_))
     refine aq.wF (X:={X with wh:=1}) ?_ v
     (repeat(first|with_reducible refine aq.drewN ?_ _|with_reducible refine aq.drew ?_))
     refine aq.AT (X:=X) ?_ 1
     (repeat(first|with_reducible refine aq.drewN ?_ _|with_reducible refine aq.drew ?_))
     exact j
  |false=>
   cases x:(t.extract (t.size-2) t.size).toList==[62,48]with
   |true=>
    have d:fI t X.wh=(2,t.extract 0 (t.size-2)):=(by unfold fI;rw[if_neg (fun b=>by rw[<-ByteArray.toList_eq,n]at b;cases b.2),if_pos ⟨k,ByteArray.toList_eq (t.extract (t.size-2) t.size)▸x⟩]);rw[d]at h;unfold jy at h;dsimp only at h;cases a:yD (t.extract 0 (t.size-2))with
    |none=>rw[a]at h;cases h
    |some v=>
     rw[a]at h;dsimp only at h;split at h
     ·cases h
     ·rename_i r
      obtain rfl:g={X with wh:=2,m:=v}:=(Option.some.inj h).symm;have c:=Z (c' (t.extract 0 (t.size-2)) (by unfold maxLen;first|omega|(simp;omega)) v a p line);have o:1<=v:=(by omega);have q:v<=99:=(by omega);go_upto_region 5 with fail
      obtain⟨u,f⟩:=nm (t.extract 0 (t.size-2));rw[f]at c;go_region
      go_wp2_with (go_at_call 157;(with_reducible refine(c.out _ ?_).mono ?_);(simp[go_sem,y,l]);rintro e w' ⟨rfl,f,rfl⟩)
      go_ret;refine⟨rfl,?_,ay⟩
      (repeat(first|with_reducible refine aq.drewN ?_ _|with_reducible refine aq.drew ?_))
      refine aq.wF (X:={X with wh:=2}) ?_ v
      (repeat(first|with_reducible refine aq.drewN ?_ _|with_reducible refine aq.drew ?_))
      refine aq.AT (X:=X) ?_ 2
      (repeat(first|with_reducible refine aq.drewN ?_ _|with_reducible refine aq.drew ?_))
      exact j
   |false=>
    have d:fI t X.wh=(X.wh,t):=(by unfold fI;rw[if_neg (fun b=>by rw[<-ByteArray.toList_eq,n]at b;cases b.2),if_neg (fun b=>by rw[<-ByteArray.toList_eq,x]at b;cases b.2)]);rw[d]at h;unfold jy at h;dsimp only at h;cases a:yD t with
    |none=>rw[a]at h;cases h
    |some v=>
     rw[a]at h;dsimp only at h;split at h
     ·cases h
     ·rename_i r
      obtain rfl:g={X with wh:=X.wh,m:=v}:=(Option.some.inj h).symm;have c:=Z (c' t (by unfold maxLen;first|omega|(simp;omega)) v a p line);have o:1<=v:=(by omega);have q:v<=99:=(by omega);go_wp2_with (go_at_call 157;(with_reducible refine(c.out _ ?_).mono ?_);exact l;rintro e w' ⟨rfl,f,rfl⟩)
      go_ret;refine⟨rfl,?_,ay⟩
      (repeat(first|with_reducible refine aq.drewN ?_ _|with_reducible refine aq.drew ?_))
      refine aq.wF (X:={X with wh:=X.wh}) ?_ v
      (repeat(first|with_reducible refine aq.drewN ?_ _|with_reducible refine aq.drew ?_))
      exact j
 ·have d:fI t X.wh=(X.wh,t):=by unfold fI;rw[if_neg (fun b=>k b.1),if_neg (fun b=>k b.1)]
  rw[d]at h;unfold jy at h;dsimp only at h;cases a:yD t with
  |none=>rw[a]at h;cases h
  |some v=>
   rw[a]at h;dsimp only at h;split at h
   ·cases h
   ·rename_i r
    obtain rfl:g={X with wh:=X.wh,m:=v}:=(Option.some.inj h).symm;have c:=Z (c' t (by unfold maxLen;first|omega|(simp;omega)) v a p line);have o:1<=v:=(by omega);have q:v<=99:=(by omega);go_wp2_with (go_at_call 157;(with_reducible refine(c.out _ ?_).mono ?_);exact l;rintro e w' ⟨rfl,f,rfl⟩)
    go_ret;refine⟨rfl,?_,ay⟩
    (repeat(first|with_reducible refine aq.drewN ?_ _|with_reducible refine aq.drew ?_))
    refine aq.wF (X:={X with wh:=X.wh}) ?_ v
    (repeat(first|with_reducible refine aq.drewN ?_ _|with_reducible refine aq.drew ?_))
    exact j
section
variable{P:Program}{gX:Region.Mode}{ops:Array Oper}{Q:Exit->Act->World->Prop}{S:World->Prop}{h:Nat->Bool}
def eR(P:Program)(gX:Region.Mode)(ops:Array Oper)(Q:Exit->Act->World->Prop)(S:World->Prop)(h:Nat->Bool):Nat->Array Bool->Act->World->Prop
 |0,listed,a,w=>Region.ready gX ops listed=[]/\Q .normal a w
 |fuel+1,listed,a,w=>(Region.ready gX ops listed=[]->Q .normal a w)/\
  ∀i∈Region.ready gX ops listed,wpOp P ops Q i (fun b w'=>(h i=true->S w')/\eR P gX ops Q S h fuel (listed.setIfInBounds i true) b w') a w
theorem o2:∀(fuel:Nat) (listed:Array Bool) (a:Act) (w:World),eR P gX ops Q S h fuel listed a w->wpAny P gX ops Q fuel listed a w
 |0,_,_,_,h=>h
 |fuel+1,_,_,_,h=>⟨h.1,fun i d=>wpOp_mono (fun b w' c=>o2 fuel _ b w' c.2) (h.2 i d)⟩
def rq(gX:Region.Mode)(ops:Array Oper)(h:Nat->Bool)(listed:Array Bool)(i:Nat):Prop:=
 ∀j a,ops[j]?=some a->listed.getD j true=false->h j=true∨∃e∈a.after,Region.binds gX e=true/\e.on=i
def DO(gX:Region.Mode)(ops:Array Oper)(h:Nat->Bool)(listed:Array Bool)(i:Nat):Bool:=
 (List.range ops.size).all fun j=>listed.getD j true||h j||(match ops[j]? with|some o=>o.after.any (fun e=>Region.binds gX e&&e.on==i)|none=>true)
theorem yY{i:Nat}{listed:Array Bool}(f:DO gX ops h listed i=true):rq gX ops h listed i:=fun j g c e=>by
 have a:=List.all_eq_true.1 f j (List.mem_range.2 (Array.getElem?_eq_some_iff.1 c).1);rw[c,e]at a;simp only[Bool.false_or,Bool.or_eq_true]at a;rcases a with a|a
 ·exact Or.inl a
 ·obtain⟨k,d,b⟩:=Array.any_eq_true.1 a
  simp only[Bool.and_eq_true,beq_iff_eq]at b;exact Or.inr ⟨_,Array.getElem_mem d,b⟩
theorem rq.set{i j:Nat}{listed:Array Bool}(d:rq gX ops h listed i):rq gX ops h (listed.setIfInBounds j true) i:=fun k ok c a=>by
 by_cases e:j=k
 ·subst e
  rcases Nat.lt_or_ge j listed.size with b|b
  ·simp[b]at a
  ·simp[Array.getElem?_eq_none,b]at a
 ·rw[getD_set_ne true e]at a
  exact d k ok c a
theorem C7{i j:Nat}{c:Oper}{listed:Array Bool}(n:i∈Region.ready gX ops listed)(k:j∈Region.ready gX ops listed)(l:ops[j]?=some c):∀e∈c.after,Region.binds gX e=true->e.on≠i:=fun e g hb heq=>by
 obtain⟨_,o,m,f⟩:=mem_ready.1 k;obtain rfl:o=c:=Option.some.inj (m.symm.trans l);have a:=f e g hb;have d:=(mem_ready.1 n).1;rw[heq]at a;rcases Nat.lt_or_ge i listed.size with b|b
 ·simp[b]at d a;rw[d]at a;cases a
 ·simp[Array.getElem?_eq_none b]at a
theorem rr{U:World->Prop}{i:Nat}{l:Oper}{v:Value}(t:ops[i]?=some l)(E:∀(j:Nat) (o:Oper) cs b,ops[j]?=some o->o.op≠ .select cs b)
 (K:∀c a w,Q (.panic c) (a.put l.dst v) w->Q (.panic c) a w) (A:∀w,U w->h i=true->S w):
 ∀(fuel:Nat) (listed:Array Bool) (a:Act) (w:World),
  (∀j d,ops[j]?=some d->listed.getD j true=false->(∀e∈d.after,Region.binds gX e=true->e.on≠i)->∀w',(h j=true->S w')->U w')->
  (∀j d,ops[j]?=some d->j≠i->listed.getD j true=false->(∀e∈d.after,Region.binds gX e=true->e.on≠i)->l.apart ops d=true)->
  i∈Region.ready gX ops listed->YieldsIf P ops U l v a->U w->
  eR P gX ops Q S h fuel (listed.setIfInBounds i true) (a.put l.dst v) w->eR P gX ops Q S h (fuel+1) listed a w:=by
 intro fuel
 induction fuel with
 |zero=>
  intro listed a w _ _ g s n m;refine⟨fun h=>(by rw[h]at g;cases g),fun j p=> ?_⟩;by_cases f:j=i
  ·subst f;exact s.wpOp t n ⟨A w n,m⟩
  ·have:=ready_mono p f
   rw[m.1]at this;cases this
 |succ fuel ih=>
  intro listed a w z B g s n m;refine⟨fun h=>(by rw[h]at g;cases g),fun j p=> ?_⟩;by_cases f:j=i
  ·subst f;exact s.wpOp t n ⟨A w n,m⟩
  ·have I:=m.2 j (ready_mono p f)
   obtain⟨u,d,q,M⟩:=mem_ready.1 p;have D:=C7 g p q;have J:=wpOp_putIf q (B j d q f u D) (fun cs b=>E i l cs b t) (fun cs b=>E j d cs b q) K s I;have G:∀k,(listed.setIfInBounds j true).getD k true=false->listed.getD k true=false:=fun k F=>by
    by_cases C:j=k
    ·subst C;exact u
    ·rw[getD_set_ne true C]at F;exact F
   refine wpOp_mono (fun H w' r=>⟨r.2.1,ih (listed.setIfInBounds j true) H w' (fun k ok x y=>z k ok x (G k y)) (fun k ok x L y=>B k ok x L (G k y)) (ready_mono g (Ne.symm f)) r.1 (z j d q u D w' r.2.1) ?_⟩) J;rw[Array.setIfInBounds_comm _ _ f];exact r.2.2
theorem wQ{i:Nat}{a:Oper}{rest:List Oper}(h:ops.toList.drop i=a::rest):ops[i]?=some a:=by
 rw[<-Array.getElem?_toList,<-Nat.add_zero i,<-List.getElem?_drop,h];rfl
def tG(P:Program)(ops:Array Oper)(S:World->Prop)(h:Nat->Bool):List Nat->(Act->Prop)->Act->Prop
 |[],K,a=>K a
 |i::L,K,a=>∃b r v,ops.toList.drop i=b::r/\YieldsIf P ops (if h i=true then S else fun _=>True) b v a/\tG P ops S h L K (a.put b.dst v)
def vj(gX:Region.Mode)(ops:Array Oper)(h:Nat->Bool):List Nat->Array Bool->Bool
 |[],_=>true
 |i::L,l=>Region.free gX ops l i&&(Region.ready gX ops l).contains i&&(!h i||DO gX ops h l i)&&vj gX ops h L (l.setIfInBounds i true)
theorem Gq{i:Nat}{L:List Nat}{K:Act->Prop}{a:Act}{b:Oper}{r:List Oper}{v:Value}(d:ops.toList.drop i=b::r)(e:YieldsIf P ops (if h i=true then S else fun _=>True) b v a)(c:tG P ops S h L K (a.put b.dst v)):tG P ops S h (i::L) K a:=⟨_,_,_,d,e,c⟩
theorem takeN{K:Act->Prop}{a:Act}(b:K a):tG P ops S h [] K a:=b
theorem Bk(p:Region.noSelect ops=true)(m:∀c a d v w,Q (.panic c) (Act.put a d v) w->Q (.panic c) a w){w:World}(n:S w)(f:Nat):∀(L:List Nat) (listed:Array Bool) (a:Act),vj gX ops h L listed=true->
 tG P ops S h L (fun q=>eR P gX ops Q S h f (L.foldl (fun l i=>l.setIfInBounds i true) listed) q w) a->eR P gX ops Q S h (f+L.length) listed a w
 |[],_,_,_,b=>b
 |i::L,listed,a,g,b=>by
  obtain⟨D,r,v,u,C,b⟩:=b;simp only[vj,Bool.and_eq_true,Bool.or_eq_true]at g;have o:=wQ u;refine @rr P gX ops Q S h (if h i=true then S else fun _=>True) i D v o (Region.noSelect_spec p) (fun c a w=>m c a _ _ w) (fun w A e=>by rwa [if_pos e]at A) (f+L.length) listed a w ?_ (Region.free_spec o g.1.1.1) (by simpa using g.1.1.2) C (by split;exact n;trivial) (Bk p m n f L _ _ g.2 b);intro j E t z x w' B;split
  ·rename_i e
   rcases g.1.2 with k|k
   ·rw[e]at k;cases k
   ·exact(yY k j E t z).elim B (fun⟨e,s,hb,y⟩=>absurd y (x e s hb))
  ·trivial
theorem Gs{b:List Nat}{fuel:Nat}{listed:Array Bool}{a:Act}{w:World}(c:Region.ready gX ops listed=b)(g:b≠[])
 (d:∀i∈b,wpOp P ops Q i (fun e w'=>(h i=true->S w')/\eR P gX ops Q S h fuel (listed.setIfInBounds i true) e w') a w):eR P gX ops Q S h (fuel+1) listed a w:=
 ⟨fun f=>absurd (c▸f) g,c▸d⟩
def GI(P:Program)(gX:Region.Mode)(ops:Array Oper)(Q:Exit->Act->World->Prop)(S:World->Prop)(h:Nat->Bool)(fuel:Nat)(listed:Array Bool)(a:Act)(w:World)(i:Nat)(b:Oper):Prop:=
 ∀K:Act->World->Prop,Shut (∀a w,S w->eR P gX ops Q S h fuel (listed.setIfInBounds i true) a w->K a w)->if Region.wanted b (yielded ops a.tmps)=true then Oper.wp P b a w K Q else K (a.put b.dst undef) w
theorem stepT{i:Nat}{b:Oper}{rest:List Oper}{fuel:Nat}{listed:Array Bool}{a:Act}{w:World}(j:ops.toList.drop i=b::rest)
 (c:GI P gX ops Q S h fuel listed a w i b):
 wpOp P ops Q i (fun d w'=>(h i=true->S w')/\eR P gX ops Q S h fuel (listed.setIfInBounds i true) d w') a w:=
 wpOp_step (wQ j) (fun K e=>c K (fun a w f g=>e a w ⟨fun _=>f,g⟩))
theorem vm{i:Nat}{b:Oper}{rest:List Oper}{fuel:Nat}{listed:Array Bool}{a:Act}{w:World}(f:Region.ready gX ops listed=[i])(e:ops.toList.drop i=b::rest)
 (c:GI P gX ops Q S h fuel listed a w i b):
 eR P gX ops Q S h (fuel+1) listed a w:=Gs f (by simp) (fun j d=>by
 obtain rfl:j=i:=by simpa using d
 exact stepT e c)
theorem Gu:∀(l:List Oper) (k:Nat) (listed:Array Bool) (a:Act) (w:World),(∀j,k<=j->h j=false)->(∀j,l[j]?=ops[k+j]?)->
 Region.seqB gX ops l.length k listed=true->wpList P ops Q l a w->eR P gX ops Q S h l.length listed a w
 |[],k,listed,a,w,_,_,b,h=>⟨by simpa[Region.seqB]using b,h⟩
 |o::l,k,listed,a,w,e,f,b,m=>by
  have q:ops[k]?=some o:=by simpa using (f 0).symm
  simp only[List.length_cons,Region.seqB,Bool.and_eq_true,decide_eq_true_eq]at b;refine⟨fun c=>(by rw[b.1]at c;cases c),fun i d=> ?_⟩;rw[b.1]at d;have r:i=k:=by simpa using d
  subst r;have s:wpOp P ops Q i (wpList P ops Q l) a w:=by unfold wpOp;simp only[q];exact m
  exact wpOp_mono (fun n w' p=>⟨fun g=>(by rw[e i (Nat.le_refl i)]at g;cases g),Gu l (i+1) _ n w' (fun j t=>e j (by omega)) (fun j=>by have:=f (j+1);simpa[Nat.add_assoc,Nat.add_comm 1 j]using this) b.2 p⟩) s
theorem Hk(k:Nat){l:List Oper}{f:Nat}{listed:Array Bool}{a:Act}{w:World}(g:ops.toList.drop k=l)(d:l.length=f)(e:∀j,k<=j->h j=false)(c:Region.seqB gX ops f k listed=true)(b:wpList P ops Q l a w):eR P gX ops Q S h f listed a w:=by
 subst d;exact Gu l k listed a w e (fun j=>by rw[<-g,List.getElem?_drop,Array.getElem?_toList]) c b
theorem C8{id:Nat}{a:Act}{w:World}(h:Nat->Bool)(S:World->Prop)(c:P.follows .mixedOrders=true)
 (b:eR P .any ops Q S h ops.size (Array.replicate ops.size false) a w.drew):(Code.region id ops true).wp P Q a w:=
 wp_region_any c (o2 _ _ _ _ b)
end
