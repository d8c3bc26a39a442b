import Derived.Maps.Keyed
import Derived.WalkKit
import Derived.WalkSpells
import Derived.WalkLawsBesides
import Derived.Lib.Hide
import Derived.Deep.RegionHeld3
import Derived.StillTail
import Derived.Test.YtmfnplmcfkkdpaaGreatDoorZAa
set_option linter.all false
set_option maxRecDepth 100000
set_option maxHeartbeats 0
namespace Go.Proofs.YtmfnplmcfkkdpaaGreatDoor
open Go.RowKit Go.Proofs.Tryz
variable{w w':World}{B:Nat}
def ag:Nat->Prop:=fun _=>False
def aH(g:Nat):Nat->Prop:=fun i=>i=g
def cK(g k:Nat):Nat->Prop:=fun i=>i=g∨i=k
theorem Ch.only{g:Nat}{a b:World}(h:Ch (aH g) a b)(o:Nat)(v:Value):Ch (aH g) a (b.setCell (g,o) v):=h.hj (p:=⟨g,o,none⟩) (show g=g from rfl) v
theorem Ch.rF{g k:Nat}{a b:World}(h:Ch (cK g k) a b)(o:Nat)(v:Value):Ch (cK g k) a (b.setCell (g,o) v):=h.hj (p:=⟨g,o,none⟩) (show g=g∨g=k from Or.inl rfl) v
theorem Ch.mr{g k:Nat}{a b:World}(h:Ch (cK g k) a b)(o:Nat)(v:Value):Ch (cK g k) a (b.setCell (k,o) v):=h.hj (p:=⟨k,o,none⟩) (show k=g∨k=k from Or.inr rfl) v
class vG(D:Nat->Prop)(a b:World):Prop where
 zh:Ch D a b
variable{D:Nat->Prop}{a b:World}{g k n o:Nat}{v:Value}
instance:vG D a a:=⟨Ch.refl _ _⟩
instance [c:vG D a b]:vG D a b.drew:=⟨c.zh.drew⟩
instance [c:vG D a b]:vG D a (b.drewN n):=⟨c.zh.drewN n⟩
instance(x:Obj) [c:vG D a b]:vG D a (b.alloc x):=⟨c.zh.alloc x⟩
instance [c:vG (aH g) a b]:vG (aH g) a (b.setCell (g,o) v):=⟨c.zh.only o v⟩
instance [c:vG (cK g k) a b]:vG (cK g k) a (b.setCell (g,o) v):=⟨c.zh.rF o v⟩
instance [c:vG (cK g k) a b]:vG (cK g k) a (b.setCell (k,o) v):=⟨c.zh.mr o v⟩
theorem ay [c:vG D a b]:Ch D a b:=c.zh
theorem Ch.af{D:Nat->Prop}{a b:World}(h:Ch ag a b):Ch D a b:=h.mono (fun _ c=>c.elim)
def ds(v:Value)(w:World)(e:Ending)(w':World):Prop:=e=.returned v/\Ch ag w w'
theorem ds.mk{v u:Value}(h:v=u)(c:Ch ag w w'):ds v w (.returned u) w':=⟨by rw[h],c⟩
theorem Ch.bT(h:Below w.heap.size w w'):Ch ag w w':=⟨h.os,h.tape,h.output,h.size,fun b hb _=>h.block b hb⟩
theorem Ch.ib(h:Ch ag w w'):Below w.heap.size w w':=h.below (Nat.le_refl _) (fun _ hb=>hb.elim)
def kz(b:Bool)(w:World)(e:Ending)(w':World):Prop:=e=.returned (.bool b)/\w=w'
theorem kz.mk{b c:Bool}(h:b=c):kz b w (.returned (.bool c)) w:=⟨by rw[h],rfl⟩
structure be where
 op:Int
 a:Int
 b:Int
 c:Int
 v:Int
 m:Int
 wh:Int
 deriving DecidableEq,Repr,Inhabited
def aD(X:be):Array Value:=#[X.op,X.a,X.b,X.c,.int .u64 X.v,X.m,X.wh]
def aL(X:be):Value:=.agg (aD X)
def b4(l:List be):List Value:=l.flatMap fun X=>(aD X).toList
theorem kA(X:be)(l:List be):b4 (X::l)=(aD X).toList++b4 l:=rfl
theorem mu(l:List be):(b4 l).length=7*l.length:=by
 induction l with
 |nil=>rfl
 |cons x l ih=>rw[kA,List.length_append,ih,List.length_cons];show 7+_=_;omega
theorem eU:∀(l:List be) (a:Nat) (X:be),l[a]?=some X->(b4 l)[a*7]?=some (.int .i64 X.op)/\(b4 l)[a*7+1]?=some (.int .i64 X.a)/\(b4 l)[a*7+2]?=some (.int .i64 X.b)/\(b4 l)[a*7+3]?=some (.int .i64 X.c)/\(b4 l)[a*7+4]?=some (.int .u64 X.v)/\(b4 l)[a*7+5]?=some (.int .i64 X.m)/\(b4 l)[a*7+6]?=some (.int .i64 X.wh)
 |[],a,X,h=>by simp at h
 |Y::l,0,X,h=>by
  have:Y=X:=by simpa using h
  subst this;exact⟨rfl,rfl,rfl,rfl,rfl,rfl,rfl⟩
 |Y::l,a+1,X,h=>by
  obtain⟨c,d,f,i,j,m,p⟩:=eU l a X (by simpa using h);have e:(aD Y).toList.length=7:=rfl;rw[kA];refine⟨?_,?_,?_,?_,?_,?_,?_⟩<;>rw[List.getElem?_append_right (by rw[e];omega),e]
  ·rw[show(a+1)*7-7=a*7 from by omega];exact c
  ·rw[show(a+1)*7+1-7=a*7+1 from by omega];exact d
  ·rw[show(a+1)*7+2-7=a*7+2 from by omega];exact f
  ·rw[show(a+1)*7+3-7=a*7+3 from by omega];exact i
  ·rw[show(a+1)*7+4-7=a*7+4 from by omega];exact j
  ·rw[show(a+1)*7+5-7=a*7+5 from by omega];exact m
  ·rw[show(a+1)*7+6-7=a*7+6 from by omega];exact p
structure fN(w:World)(g:Nat)(l:List be):Prop where
 lt:g<w.heap.size
 cell:∀j u,(b4 l)[j]?=some u->w.cell? ⟨g,j,none⟩=some u
theorem fa{g i:Nat}(h:Below B w w')(c:g<B):w'.cell? (g,i)=w.cell? (g,i):=by
 unfold World.cell?;simp only[h.block g c]
theorem fN.below{g:Nat}{l:List be}(h:fN w g l)(hb:Below w.heap.size w w'):fN w' g l:=
 ⟨Nat.lt_of_lt_of_le h.lt hb.size,fun j u c=>(fa hb h.lt).trans (h.cell j u c)⟩
theorem fN.ch{D:Nat->Prop}{g:Nat}{l:List be}(h:fN w g l)(c:Ch D w w')(d:¬D g):fN w' g l:=
 ⟨Nat.lt_of_lt_of_le h.lt c.size,fun j u e=>(c.cell (p:=⟨g,j,none⟩) h.lt d).trans (h.cell j u e)⟩
theorem hU{o:Obj}:(w.alloc o).heap[w.heap.size]?=some o:=heap_alloc_new w o
theorem b5{P:Program}{f:FuncId}{args:Array Value}{v:Value}(h:Calls P f args w (ez v w)):Calls P f args w (fun e w'=>e=.returned v/\w'=w):=
 h.mono fun _ _ ⟨a,b⟩=>⟨a,b.symm⟩
section
variable{w:World}{b i j:Nat}{t:TypeId}{v:Value}
section
variable{α:Type}{enc:α->List Value}{k:Nat}
theorem aU(a:∀x,(enc x).length=k):∀(l:List α),(l.flatMap enc).length=l.length*k
 |[]=>by simp
 |x::l=>by rw[List.flatMap_cons,List.length_append,a,aU a l,List.length_cons,Nat.succ_mul];omega
theorem bJ(a:∀x,(enc x).length=k):∀{l:List α} {i:Nat} {x:α} {j:Nat},l[i]?=some x->j<k->(l.flatMap enc)[i*k+j]?=(enc x)[j]?
 |[],i,x,j,h,_=>by simp at h
 |y::l,0,x,j,h,c=>by
  have:y=x:=by simpa using h
  subst this;rw[List.flatMap_cons,Nat.zero_mul,Nat.zero_add,List.getElem?_append_left (by rw[a];exact c)]
 |y::l,i+1,x,j,h,c=>by
  have e:(i+1)*k=i*k+k:=Nat.succ_mul i k;rw[List.flatMap_cons,List.getElem?_append_right (by rw[a,e];omega),a,show(i+1)*k+j-k=i*k+j from by rw[e];omega];exact bJ a (by simpa using h) c
theorem fm(a:∀x,(enc x).length=k):∀{l:List α} {i:Nat} {x y:α} {j:Nat} {v:Value},l[i]?=some x->j<k->(enc x).set j v=enc y->(l.flatMap enc).set (i*k+j) v=(l.set i y).flatMap enc
 |[],i,x,y,j,v,h,_,_=>by simp at h
 |z::l,0,x,y,j,v,h,d,c=>by
  have:z=x:=by simpa using h
  subst this;rw[List.flatMap_cons,Nat.zero_mul,Nat.zero_add,List.set_append_left _ _ (by rw[a];exact d),c];simp
 |z::l,i+1,x,y,j,v,h,d,c=>by
  have e:(i+1)*k=i*k+k:=Nat.succ_mul i k;rw[List.flatMap_cons,List.set_append_right _ _ (by rw[a,e];omega),a,show(i+1)*k+j-k=i*k+j from by rw[e];omega,fm a (by simpa using h) d c];simp
end
theorem Row.at{α:Type}{enc:α->List Value}{k:Nat}{l:List α}(h:Row w b t (l.flatMap enc))(c:∀x,(enc x).length=k){x:α}(e:l[i]?=some x)(a:j<k)(d:(enc x)[j]?=some v):w.cell? (b,i*k+j)=some v:=
 h.cell ((bJ c e a).trans d)
theorem Row.put{α:Type}{enc:α->List Value}{k:Nat}{l:List α}(h:Row w b t (l.flatMap enc))(c:∀x,(enc x).length=k){x y:α}(e:l[i]?=some x)(a:j<k)(d:(enc x).set j v=enc y):Row (w.setCell (b,i*k+j) v) b t ((l.set i y).flatMap enc):=
 h.bc _ _ (fm c e a d)
end
section
open Go.MapKept
variable{D:Nat->Prop}{E K T:TypeId}{z:Value}
section
variable{α:Type}
def eb:List (Int×α)->Int->Nat->Option (Nat×α)
 |[],_,_=>none
 |x::l,k,i=>if k==x.1 then some (i,x.2)else eb l k (i+1)
def aw(l:List (Int×α))(k:Int):Option α:=(eb l k 0).map (·.2)
def cn(l:List (Int×α))(k:Int)(v:α):List (Int×α):=
 match eb l k 0 with
 |some (i,_)=>l.set i (k,v)
 |none=>l++[(k,v)]
def fs(l:List (Int×α))(k:Int):List (Int×α):=
 match eb l k 0 with
 |some (i,_)=>l.eraseIdx i
 |none=>l
theorem gl:∀(l:List (Int×α)) (k:Int) (i:Nat),eb l k i=(eb l k 0).map fun x=>(x.1+i,x.2)
 |[],_,_=>rfl
 |x::l,k,i=>by
  unfold eb;split
  ·simp
  ·rw[gl l k (i+1),gl l k (0+1)]
   cases eb l k 0 with
   |none=>rfl
   |some y=>simp;omega
theorem nI:∀(l:List (Int×α)) (k:Int) (i j:Nat) (v:α),eb l k i=some (j,v)->i<=j/\j<i+l.length/\l[j-i]?=some (k,v)
 |[],_,_,_,_,h=>by cases h
 |x::l,k,i,j,v,h=>by
  unfold eb at h;split at h
  ·rename_i c
   have:i=j/\x.2=v:=(by simpa using h);obtain⟨rfl,rfl⟩:=this;have d:k=x.1:=(by simpa using c);exact⟨Nat.le_refl _,by simp,by simp[d]⟩
  ·obtain⟨e,f,a⟩:=nI l k (i+1) j v h
   refine⟨by omega,by simp;omega,?_⟩;rw[show j-i=(j-(i+1))+1 from by omega,List.getElem?_cons_succ];exact a
end
def bS{α:Type}(w:World)(b:Nat)(q:IntKind)(enc:α->Value)(l:List (Int×α)):Prop:=
 ∃a clock,w.heap[b]?=some (.map a clock)/\a.toList.map (fun e=>(e.key,e.val))=l.map fun x=>(Value.int q x.1,enc x.2)
theorem bS.lt{α:Type}{w:World}{b:Nat}{q:IntKind}{enc:α->Value}{l:List (Int×α)}(h:bS w b q enc l):b<w.heap.size:=by
 obtain⟨d,c,a,_⟩:=h;exact(Array.getElem?_eq_some_iff.1 a).1
theorem bS.ch{α:Type}{w w':World}{b:Nat}{q:IntKind}{enc:α->Value}{l:List (Int×α)}(h:bS w b q enc l)(c:Ch D w w')(f:¬D b):bS w' b q enc l:=by
 have hb:=h.lt;obtain⟨a,k,d,e⟩:=h;exact⟨a,k,(c.same b hb f).trans d,e⟩
theorem bS.alloc{α:Type}{w:World}{b:Nat}{q:IntKind}{enc:α->Value}{l:List (Int×α)}(h:bS w b q enc l)(o:Obj):bS (w.alloc o) b q enc l:=h.ch ((Ch.refl ag w).alloc o) id
theorem bS.drew{α:Type}{w:World}{b:Nat}{q:IntKind}{enc:α->Value}{l:List (Int×α)}(h:bS w b q enc l):bS w.drew b q enc l:=h
theorem bS.drewN{α:Type}{w:World}{b:Nat}{q:IntKind}{enc:α->Value}{l:List (Int×α)}(h:bS w b q enc l)(n:Nat):bS (w.drewN n) b q enc l:=h
theorem bS.ne{α:Type}{w:World}{b g:Nat}{q:IntKind}{enc:α->Value}{l:List (Int×α)}{t:TypeId}{cs:List Value}(h:bS w b q enc l)(d:Row w g t cs):b≠g:=by
 intro e;subst e;obtain⟨f,c,a,_⟩:=h;unfold Row at d;rw[d]at a;cases a
theorem bS.other{α:Type}{w:World}{b:Nat}{q:IntKind}{enc:α->Value}{l:List (Int×α)}(h:bS w b q enc l){p:Addr}(f:b≠p.block)(v:Value):bS (w.setCell p v) b q enc l:=by
 obtain⟨a,c,d,e⟩:=h;exact⟨a,c,(Below.heap_setCell _ _ _ _ f).trans d,e⟩
theorem ic{α:Type}(q:IntKind)(enc:α->Value)(k:Int):∀(a:List MapEntry) (l:List (Int×α)) (i:Nat),a.map (fun e=>(e.key,e.val))=l.map (fun x=>(Value.int q x.1,enc x.2))->
 Instr.findNow (.int q) (.int q k) a i=some ((eb l k i).map fun x=>(x.1,enc x.2))
 |[],[],i,_=>rfl
 |[],x::l,i,h=>by cases h
 |e::a,[],i,h=>by cases h
 |e::a,x::l,i,h=>by
  simp only[List.map_cons,List.cons.injEq,Prod.mk.injEq]at h;obtain⟨⟨c,d⟩,f⟩:=h;have ih:=ic q enc k a l (i+1) f;unfold Instr.findNow Instr.sameNow eb;rw[c];simp only[if_pos rfl];cases g:(k==x.1)
  ·simpa using ih
  ·simp[d]
section
variable{P:Program}{w:World}{b:Nat}{q:IntKind}{α:Type}{enc:α->Value}{l:List (Int×α)}
theorem ft(g:P.underlying T=some (.map K E))(d:P.underlying K=some (.int q))(m:(zeroValue E).run P w=.ok z w)(h:bS w b q enc l)(k:Int):
 (Instr.lookup T (.map (some b)) (.int q k) false).run P w=.ok (((aw l k).map enc).getD z) w:=by
 obtain⟨a,c,e,f⟩:=h;have i:=ic q enc k a.toList l 0 f;have j:Go.MapKept.IsKey (.int q) (.int q k):=by simp[Go.MapKept.IsKey]
 simp[Instr.lookup,run_underlying g, @Go.MapKept.run_getObj_map P w b a c e, @Go.MapKept.run_checkKey P w K _ _ d j, @Go.MapKept.run_findKey P w K _ _ _ _ d i,Result.andThen];unfold aw;cases eb l k 0<;>simp[m,Result.andThen]
theorem gg(g:P.underlying T=some (.map K E))(d:P.underlying K=some (.int q))(m:(zeroValue E).run P w=.ok z w)(h:bS w b q enc l)(k:Int):
 (Instr.lookup T (.map (some b)) (.int q k) true).run P w=.ok (.tuple #[((aw l k).map enc).getD z,.bool (aw l k).isSome]) w:=by
 obtain⟨a,c,e,f⟩:=h;have i:=ic q enc k a.toList l 0 f;have j:Go.MapKept.IsKey (.int q) (.int q k):=by simp[Go.MapKept.IsKey]
 simp[Instr.lookup,run_underlying g, @Go.MapKept.run_getObj_map P w b a c e, @Go.MapKept.run_checkKey P w K _ _ d j, @Go.MapKept.run_findKey P w K _ _ _ _ d i,Result.andThen];unfold aw;cases eb l k 0<;>simp[m,Result.andThen]
def putObj(w:World)(b:Nat)(o:Obj):World:={w with heap:=w.heap.setIfInBounds b o}
theorem hM(w:World)(b:Nat)(o:Obj)(hb:b<w.heap.size):(putObj w b o).heap[b]?=some o:=by simp[putObj,hb]
theorem jO(w:World)(b:Nat)(o:Obj)(a:D b):Ch D w (putObj w b o):=
 ⟨rfl,rfl,rfl,by simp[putObj],fun i d c=>by
  have:b≠i:=fun e=>c (e▸a)
  simp[putObj,this]⟩
theorem fu(s:P.underlying T=some (.map K E))(n:P.underlying K=some (.int q))(h:bS w b q enc l)(k:Int)(v:α):
 ∃w',(Instr.mapUpdate T (.map (some b)) (.int q k) (enc v)).run P w=.ok () w'/\bS w' b q enc (cn l k v)/\Ch (aH b) w w':=by
 have hb:=h.lt;obtain⟨a,c,m,f⟩:=h;have o:=ic q enc k a.toList l 0 f;have r:Go.MapKept.IsKey (.int q) (.int q k):=by simp[Go.MapKept.IsKey]
 cases g:eb l k 0 with
 |none=>
  rw[g]at o;refine⟨putObj w b (.map (a.push {key:=.int q k,val:=enc v,born:=c}) (c+1)),?_,⟨_,_,hM _ _ _ hb,?_⟩,jO _ _ _ rfl⟩
  ·simp[Instr.mapUpdate,run_underlying s, @Go.MapKept.run_getObj_map P w b a c m, @Go.MapKept.run_checkKey P w K _ _ n r, @Go.MapKept.run_findKey P w K _ _ _ _ n o,Result.andThen, @Go.MapKept.run_setObj_map P w b a c _ m,putObj]
  ·unfold cn;rw[g];simp[f]
 |some x=>
  obtain⟨j,u⟩:=x;rw[g]at o;obtain⟨-,G,y⟩:=nI l k 0 j u g;rw[Nat.sub_zero]at y;have hlen:a.size=l.length:=by have:=congrArg List.length f;simpa using this
  have p:j<a.size:=by omega
  have C:a[j].key=.int q k:=by
   have d:(a.toList.map (fun e=>(e.key,e.val)))[j]?=(l.map fun x=>(Value.int q x.1,enc x.2))[j]?:=(by rw[f]);rw[List.getElem?_map,List.getElem?_map,y]at d;have A:a.toList[j]?=some a[j]:=(by simp[p]);rw[A]at d;have:=Option.some.inj d;exact congrArg Prod.fst this
  refine⟨putObj w b (.map (a.modify j fun e=>{e with key:=.int q k,val:=enc v}) c),?_,⟨_,_,hM _ _ _ hb,?_⟩,jO _ _ _ rfl⟩
  ·have F:= @Go.MapKept.run_keyThatStays P w _ _ r
   simp[Instr.mapUpdate,run_underlying s, @Go.MapKept.run_getObj_map P w b a c m, @Go.MapKept.run_checkKey P w K _ _ n r, @Go.MapKept.run_findKey P w K _ _ _ _ n o,Result.andThen, @Go.MapKept.run_setObj_map P w b a c _ m,putObj,p,C,F]
  ·unfold cn;rw[g]
   apply List.ext_getElem?;intro i;have d:(a.toList.map (fun e=>(e.key,e.val)))[i]?=(l.map fun x=>(Value.int q x.1,enc x.2))[i]?:=(by rw[f]);simp only[List.getElem?_map,List.getElem?_set,Array.toList_modify,List.getElem?_modify]at d⊢;by_cases t:j=i
   ·subst t
    have B:j<l.length:=(by omega);simp[p,B]
   ·simp[t]
    simpa using d
theorem fv{ty kT:TypeId}(m:P.underlying T=some (.map K E))(g:P.underlying K=some (.int q))(h:bS w b q enc l)(k:Int):
 ∃w',(Builtin.delete_ #[T,kT] ty #[.map (some b),.int q k]).run P w=.ok (.tuple #[]) w'/\bS w' b q enc (fs l k)/\Ch (aH b) w w':=by
 have hb:=h.lt;obtain⟨a,c,e,f⟩:=h;have i:=ic q enc k a.toList l 0 f;have n:Go.MapKept.IsKey (.int q) (.int q k):=by simp[Go.MapKept.IsKey]
 cases d:eb l k 0 with
 |none=>
  rw[d]at i;refine⟨putObj w b (.map a c),?_,⟨_,_,hM _ _ _ hb,by unfold fs;rw[d];exact f⟩,jO _ _ _ rfl⟩;simp[Builtin.delete_,run_underlying m, @Go.MapKept.run_getObj_map P w b a c e, @Go.MapKept.run_checkKey P w K _ _ g n, @Go.MapKept.run_findKey P w K _ _ _ _ g i,Result.andThen, @Go.MapKept.run_setObj_map P w b a c _ e,putObj]
 |some x=>
  obtain⟨j,u⟩:=x;rw[d]at i;obtain⟨-,p,r⟩:=nI l k 0 j u d;have hlen:a.size=l.length:=by have:=congrArg List.length f;simpa using this
  refine⟨putObj w b (.map (a.eraseIdxIfInBounds j) c),?_,⟨_,_,hM _ _ _ hb,?_⟩,jO _ _ _ rfl⟩
  ·simp[Builtin.delete_,run_underlying m, @Go.MapKept.run_getObj_map P w b a c e, @Go.MapKept.run_checkKey P w K _ _ g n, @Go.MapKept.run_findKey P w K _ _ _ _ g i,Result.andThen, @Go.MapKept.run_setObj_map P w b a c _ e,putObj]
  ·unfold fs;rw[d]
   have o:j<a.size:=(by omega);simp only[Array.eraseIdxIfInBounds,o,dite_true,Array.toList_eraseIdx];rw[Go.ChangeMaps.map_eraseIdx,f,<-Go.ChangeMaps.map_eraseIdx]
end
end
variable{b cap i mb:Nat}
structure ba where
 d:Int
 bY:Int
 h:Int
 deriving DecidableEq,Repr,Inhabited
def ba.cells(t:ba):List Value:=[.int .u64 t.d,.int .u64 t.bY,.int .i64 t.h]
def ba.val(t:ba):Value:=.agg #[.int .u64 t.d,.int .u64 t.bY,.int .i64 t.h]
theorem ba.len(t:ba):t.cells.length=3:=rfl
structure ah where
 l:List ba
 at_:List (Int×Int)
 last:Int
structure aM(w:World)(b mb:Nat)(v:Value)(S:ah):Prop where
 head:Row w b 268 [v,.map (some mb),.int .i64 S.last]
 own:w.ownsRow 0 285 3 v S.l.length (S.l.flatMap ba.cells)
 map:bS w mb .i64 (Value.int .i64) S.at_
def cu(b mb:Nat)(v:Value):Nat->Prop:=fun i=>i=b∨i=mb∨v.ownBlock=some i
theorem ak{B:Nat}{e:TypeId}{size:Nat}{xs:List Value}(h:w.ownsRow B e size v n xs)(c:Ch D w w')(k:∀g,v.ownBlock=some g->¬D g):w'.ownsRow B e size v n xs:=by
 refine⟨h.1,?_⟩;rcases h.2 with d|⟨g,cap,cur,rfl,j,a,f⟩
 ·exact Or.inl d
 ·exact Or.inr ⟨g,cap,cur,rfl,j,(c.same g (Array.getElem?_eq_some_iff.1 a).1 (k g rfl)).trans a,f⟩
theorem aM.alloc{S:ah}(h:aM w b mb v S)(o:Obj):aM (w.alloc o) b mb v S:=⟨h.head.alloc o,h.own.alloc o,h.map.alloc o⟩
theorem aM.drew{S:ah}(h:aM w b mb v S):aM w.drew b mb v S:=⟨h.head,h.own.drew,h.map⟩
theorem aM.drewN{S:ah}(h:aM w b mb v S)(n:Nat):aM (w.drewN n) b mb v S:=⟨h.head,⟨h.own.1,h.own.2⟩,h.map⟩
theorem aM.ch{S:ah}(h:aM w b mb v S)(c:Ch D w w')(hb:¬D b)(d:¬D mb)(a:∀g,v.ownBlock=some g->¬D g):aM w' b mb v S:=⟨h.head.ch c hb,ak h.own c a,h.map.ch c d⟩
theorem aM.sl{S:ah}(h:aM w b mb v S)(l:0<S.l.length):∃g cap c,v=.slice (some ⟨g,0,none⟩) S.l.length cap/\S.l.length<=cap/\cap<=maxLen/\Row w g 285 (S.l.flatMap ba.cells++c)/\(S.l.flatMap ba.cells++c).length=cap*3:=by
 rcases h.own.2 with⟨_,k⟩|⟨g,cap,cur,rfl,_,e,d,f,j,a⟩
 ·omega
 ·refine⟨g,cap,cur.toList.drop (S.l.length*3),rfl,d,f,?_,?_⟩
  ·unfold Row;rw[<-a,List.take_append_drop];simpa using e
  ·rw[<-a,List.take_append_drop];simpa using j
theorem aM.cell{S:ah}(h:aM w b mb (.slice (some (g,0)) n cap) S){t:ba}(d:S.l[i]?=some t):
 w.cell? (g,i*3)=some (.int .u64 t.d)/\w.cell? (g,i*3+1)=some (.int .u64 t.bY)/\w.cell? (g,i*3+2)=some (.int .i64 t.h)/\(∀j,w.frozen? ⟨g,j,none⟩=false)/\g<w.heap.size/\g≠b/\mb≠g:=by
 have r:=(List.getElem?_eq_some_iff.1 d).1;obtain⟨g',m,x,f,q,u,c,s⟩:=h.sl (by omega);injection f with a o p
 injection a with a
 injection a with a
 subst a;have e:=aU ba.len S.l;have key:∀j v,j<3->(t.cells)[j]?=some v->w.cell? ⟨g,i*3+j,none⟩=some v:=fun j v k l=>c.cell (by
  rw[List.getElem?_append_left (by rw[e];omega)];exact(bJ ba.len d k).trans l)
 exact⟨key 0 _ (by omega) rfl,key 1 _ (by omega) rfl,key 2 _ (by omega) rfl,fun j=>c.free j,c.lt,c.ne h.head (by decide),h.map.ne c⟩
theorem aM.lay{S:ah}(h:aM w b mb (.slice (some (g,0)) n cap) S)(d:i<S.l.length)(t:ba){i1 i2:Nat}(q:i1=i*3+1)(r:i2=i*3+2):
 aM (((w.setCell (g,i*3) (.int .u64 t.d)).setCell (g,i1) (.int .u64 t.bY)).setCell (g,i2) (.int .i64 t.h)) b mb (.slice (some (g,0)) n cap) {S with l:=S.l.set i t}:=by
 subst q r;obtain⟨x,p⟩:∃x,S.l[i]?=some x:=⟨_,List.getElem?_eq_getElem d⟩;obtain⟨-,-,-,-,-,c,f⟩:=h.cell p;obtain⟨g',I,m,A,z,C,E,B⟩:=h.sl (by omega);injection A with a s u
 injection a with a
 injection a with a
 subst a s u;have o:=aU ba.len S.l;refine⟨((h.head.other (fun e=>c e.symm) _).other (fun e=>c e.symm) _).other (fun e=>c e.symm) _,?_,((h.map.other f _).other f _).other f _⟩;have F:=E.bc (i*3) (.int .u64 t.d) (l':=(S.l.set i ⟨t.d,x.bY,x.h⟩).flatMap ba.cells++m) (by
  rw[List.set_append_left _ _ (by rw[o];omega)];congr 1;exact fm (j:=0) ba.len p (by omega) rfl)
 have G:=F.bc (i*3+1) (.int .u64 t.bY) (l':=(S.l.set i ⟨t.d,t.bY,x.h⟩).flatMap ba.cells++m) (by
  rw[List.set_append_left _ _ (by rw[aU ba.len,List.length_set];omega)];congr 1;have:=fm (enc:=ba.cells) (k:=3) (l:=S.l.set i ⟨t.d,x.bY,x.h⟩) (i:=i) (x:=⟨t.d,x.bY,x.h⟩) (y:=⟨t.d,t.bY,x.h⟩) (j:=1) (v:=.int .u64 t.bY) ba.len (by simp[d]) (by omega) rfl
  rwa [List.set_set]at this)
 have H:=G.bc (i*3+2) (.int .i64 t.h) (l':=(S.l.set i t).flatMap ba.cells++m) (by
  rw[List.set_append_left _ _ (by rw[aU ba.len,List.length_set];omega)];congr 1;have:=fm (enc:=ba.cells) (k:=3) (l:=S.l.set i ⟨t.d,t.bY,x.h⟩) (i:=i) (x:=⟨t.d,t.bY,x.h⟩) (y:=t) (j:=2) (v:=.int .i64 t.h) ba.len (by simp[d]) (by omega) rfl
  rwa [List.set_set]at this)
 refine⟨by rw[aU ba.len],Or.inr ⟨g,_,_,by rw[List.length_set],Nat.zero_le _,H,by simpa using z,C,?_,?_⟩⟩
 ·rw[List.size_toArray,List.length_append,aU ba.len,List.length_set,<-o,<-List.length_append];exact B
 ·rw[List.toList_toArray]
  show List.take ((S.l.set i t).length*3) _=_
  rw[List.take_left' (aU ba.len _)]
def eO(a b:ba):Bool:=decide (a.d<b.d)||(a.d==b.d&&decide (a.h<b.h))
def ah.lay(S:ah)(i:Nat)(t:ba):ah:={S with l:=S.l.set i t,at_:=cn S.at_ t.h i}
theorem ah.b7(S:ah)(i:Nat)(t:ba):(S.lay i t).l.length=S.l.length:=by unfold ah.lay;simp
def gZ:Nat->ah->Nat->ba->ah×Nat
 |0,S,i,_=>(S,i)
 |f+1,S,i,t=>if i=0 then(S,i)else
  match S.l[(i-1)/2]? with
  |none=>(S,i)
  |some p=>if eO t p then gZ f (S.lay i p) ((i-1)/2) t else(S,i)
def ah.up(S:ah)(i:Nat):ah:=
 match S.l[i]? with
 |none=>S
 |some t=>(gZ (i+1) S i t).1.lay (gZ (i+1) S i t).2 t
theorem aM.at{w:World}{b mb:Nat}{v:Value}{S:ah}(h:aM w b mb v S){i:Nat}{t:ba}(a:S.l[i]?=some t):∃g cap,v=.slice (some ⟨g,0,none⟩) S.l.length cap/\S.l.length<=cap/\
 w.cell? ⟨g,i*3,none⟩=some (.int .u64 t.d)/\w.cell? ⟨g,i*3+1,none⟩=some (.int .u64 t.bY)/\w.cell? ⟨g,i*3+2,none⟩=some (.int .i64 t.h)/\g<w.heap.size:=by
 have k:=(List.getElem?_eq_some_iff.1 a).1;obtain⟨g,cap,l,rfl,c,-,-,-⟩:=h.sl (by omega);obtain⟨e,f,j,-,d,-,-⟩:=h.cell a;exact⟨g,cap,rfl,c,e,f,j,d⟩
def jZ(S:ah)(i:Nat)(a:ba):Nat:=
 match S.l[2*i+2]? with
 |none=>2*i+1
 |some c=>if eO c a then 2*i+2 else 2*i+1
def bU:Nat->ah->Nat->ba->ah×Nat
 |0,S,i,_=>(S,i)
 |f+1,S,i,t=>
  match S.l[2*i+1]? with
  |none=>(S,i)
  |some a=>match S.l[jZ S i a]? with
   |none=>(S,i)
   |some x=>if eO x t then bU f (S.lay i x) (jZ S i a) t else(S,i)
def ah.down(S:ah)(i:Nat):ah:=
 match S.l[i]? with
 |none=>S
 |some t=>(bU (S.l.length+1) S i t).1.lay (bU (S.l.length+1) S i t).2 t
variable{n:Int}{b:Bool}
def sv(s:ByteArray)(i:Nat):Int:=((s.data.toList.getD i 0).toNat:Int)
theorem ck(s:ByteArray)(i:Nat)(h:i<s.size):(s[i].toNat:Int)=sv s i:=by
 unfold sv;rw[List.getD_eq_getElem?_getD,List.getElem?_eq_getElem (by simpa using h)];rfl
theorem IT(s:ByteArray)(k:Nat)(h:k<s.size):s.data.toList.drop k=s[k]::s.data.toList.drop (k+1):=by
 rw[List.drop_eq_getElem_cons (by simpa using h)];rfl
theorem Ja(s:ByteArray)(k:Nat)(h:s.size<=k):s.data.toList.drop k=[]:=by
 rw[List.drop_eq_nil_iff];simpa using h
def Jj(k:IntKind)(p:Int×Bool)(w:World)(e:Ending)(w':World):Prop:=e=.returned (.tuple #[.int k p.1,.bool p.2])/\w=w'
theorem Jj.mk{k:IntKind}{p:Int×Bool}(h:p=(n,b)):Jj k p w (.returned (.tuple #[.int k n,.bool b])) w:=⟨by rw[h],rfl⟩
def JF(b:Bool)(w:World)(e:Ending)(w':World):Prop:=e=.returned (.bool b)/\w=w'
theorem JF.mk{c:Bool}(h:b=c):JF b w (.returned (.bool c)) w:=⟨by rw[h],rfl⟩
def JP(k:IntKind)(n:Int)(w:World)(e:Ending)(w':World):Prop:=e=.returned (.int k n)/\w=w'
theorem JP.mk{k:IntKind}{m:Int}(h:n=m):JP k n w (.returned (.int k m)) w:=⟨by rw[h],rfl⟩
theorem KG(b:UInt8):0<=(b.toNat:Int):=Int.natCast_nonneg _
theorem KH(b:UInt8):(b.toNat:Int)<=255:=by have:=b.toNat_lt;omega
def Ii(c:Int):Int:=
 if 48<=c/\c<=57 then c-48 else if 97<=c/\c<=102 then c-87 else if 65<=c/\c<=70 then c-55 else 99
theorem KI(c:Int):0<=Ii c:=by unfold Ii;split;omega;split;omega;split;omega;omega
theorem KJ(c:Int):Ii c<=99:=by unfold Ii;split;omega;split;omega;split;omega;omega
theorem Kg(c base:Int)(a:0<=c)(b:c<=255)(w:World):
 Calls prog 223 #[.int .u8 c,.int .u64 base] w fun e w'=>
  e=.returned (.tuple #[.int .u64 (Ii c),.bool (decide (Ii c<base))])/\w=w':=by
 go_wp2
 all_goals(go_ret2;refine⟨?_,rfl⟩)
 all_goals(first
  |(have e:Ii c=c-48:=by {unfold Ii;rw[if_pos (by omega)]}
    rw[e];rfl)
  |(have e:Ii c=c-97+10:=by {unfold Ii;rw[if_neg (by omega),if_pos (by omega)];omega}
    rw[e];rfl)
  |(have e:Ii c=c-65+10:=by {unfold Ii;rw[if_neg (by omega),if_neg (by omega),if_pos (by omega)];omega}
    rw[e];rfl)
  |(have e:Ii c=99:=by {unfold Ii;rw[if_neg (by omega),if_neg (by omega),if_neg (by omega)]}
    rw[e];rfl))
def Jo:Int:=18446744073709551615
def K9(base a:Int):List UInt8->Int->Int->Except Int Int
 |[],_,v=> .ok v
 |c::cs,j,v=>if Ii c.toNat<base/\j<a/\v<=(Jo-Ii c.toNat)/base then K9 base a cs (j+1) (v*base+Ii c.toNat)else .error j
def Mt(s:ByteArray):Bool:=decide (2<=(s.size:Int)/\sv s 0=48/\sv s 1=120)
def Ks(d:Int):Except Int Int->Except Int Int
 |.ok v=> .ok v
 |.error j=> .error (d+j)
def vh(s:ByteArray):Except Int Int:=
 if Mt s then .error 0 else if s.size=0 then .error 0 else Ks 0 (K9 10 20 s.data.toList 0 0)
def Ia(v:Int)(w:World)(e:Ending)(w':World):Prop:=e=.returned (.tuple #[.int .u64 v,.nilIface])/\0<=v/\v<=Jo/\w=w'
theorem Ku(s:ByteArray)(C:s.size<=maxLen)(g:Int)(a:vh s=.ok g)(w:World):
 Calls prog 204 #[.string s] w (Ia g w):=by
 unfold maxLen at C;by_cases c:Mt s=true
 ·unfold vh at a;rw[if_pos c]at a;cases a
 by_cases r:s.size=0
 ·unfold vh at a;rw[if_neg c,if_pos r]at a;cases a
 have p:Hid (K9 10 20 s.data.toList 0 0=.ok g):=Z (by
  unfold vh at a;rw[if_neg c,if_neg r]at a;cases q:K9 10 20 s.data.toList 0 0 with
  |ok y=>rw[q]at a;rw[Except.ok.inj a]
  |error j=>rw[q]at a;cases a)
 have D:(s.size:Int)<2∨(2<=(s.size:Int)/\sv s 0≠48)∨(2<=(s.size:Int)/\sv s 0=48/\sv s 1≠120):=by
  unfold Mt at c;simp only[decide_eq_true_eq]at c;omega
 have E:(s.size<2)∨(∃o:0<s.size,2<=s.size/\((s[0].toNat:Int)==48)=false)∨(∃(o:0<s.size) (p1:1<s.size),((s[0].toNat:Int)==48)=true/\((s[1].toNat:Int)==120)=false):=by
  rcases D with h|⟨h,m⟩|⟨h,m,A⟩
  ·exact Or.inl (by omega)
  ·exact Or.inr (Or.inl ⟨by omega,by omega,by rw[ck,beq_eq_false_iff_ne];exact m⟩)
  ·exact Or.inr (Or.inr ⟨by omega,by omega,by rw[ck,beq_iff_eq];exact m,by rw[ck,beq_eq_false_iff_ne];exact A⟩)
 rcases E with N|⟨o,p2,z⟩|⟨o,p1,z,G⟩
 all_goals
  go_wp2
  go_loop [7,8] (fun n i=>∃(k:Nat) (v:Int),k<=s.size+1/\k<=s.size/\i=.int .i64 k/\n=.int .u64 v/\0<=v/\v<=Jo/\Hid (K9 10 20 (s.data.toList.drop k) (k:Int) v=K9 10 20 s.data.toList 0 0)) (fun _ i=>s.size-(intOf i).toNat)
  case atStart=>exact⟨0,0,by omega,by omega,rfl,rfl,by omega,by unfold Jo;omega,rfl⟩
  case round=>
   obtain⟨k,v,M,L,rfl,rfl,F,t,l⟩:=hrel;by_cases B:k<s.size
   ·have d:Hid (s.data.toList.drop k=s[k]::s.data.toList.drop (k+1)):=IT s k B
    have d0:=KI (s[k].toNat:Int);have d1:=KJ (s[k].toNat:Int);have O:=KH s[k];have y0:=KG s[k];by_cases f:Ii s[k].toNat<10/\(k:Int)<20/\v<=(Jo-Ii s[k].toNat)/10
    ·have u:=Z f
     unfold Jo at f t;obtain⟨H,I,J⟩:=f;go_wp2_with (first|(go_at_call 223;refine(Kg _ _ (by omega) (by omega) _).mono ?_;rintro e w' ⟨rfl,rfl⟩)|fail)
     all_goals first
      |(go_round
        case rel=>exact⟨k+1,v*10+Ii (s[k].toNat:Int),by omega,by omega,by go_num,rfl,by omega,by unfold Jo;omega,by
         show _=_
         rw[<-l,d,K9,if_pos u.out]
         congr 1<;>omega⟩
        case measure=>simp[intOf];omega)
      |(exfalso;omega)
    ·have b:=l.out
     rw[d,K9,if_neg f,p]at b;cases b
   ·have d:Hid (s.data.toList.drop k=[]):=Ja s k (by omega)
    have x:Hid (v=g):=Z (by
     have b:=l.out;rw[d,K9,p]at b;exact Except.ok.inj b)
    have K:((s.size:Int)==0)=false:=(by rw[beq_eq_false_iff_ne];omega);go_wp2
    go_ret2;rw[<-x];exact⟨rfl,F,t,rfl⟩
def JQ:List UInt8->Int->Option Int
 |[],n=>some n
 |c::cs,n=>if 48<=(c.toNat:Int)/\(c.toNat:Int)<=57 then JQ cs (10*n+((c.toNat:Int)-48))else none
def LY:Option Int->Int×Bool
 |some n=>(n,decide (n<32))
 |none=>(0,false)
def Kt(s:ByteArray):Bool:=
 decide ((s.size:Int)<2∨3<(s.size:Int)∨sv s 0≠114∨((s.size:Int)=3/\sv s 1=48))
def Iz(s:ByteArray):Int×Bool:=
 if Kt s then(0,false)else LY (JQ (s.data.toList.drop 1) 0)
theorem Jp(s:ByteArray)(f:s.size<=maxLen)(w:World):
 Calls prog 162 #[.string s] w (Jj .i64 (Iz s) w):=by
 unfold maxLen at f;by_cases hb:Kt s=true
 ·have b:Hid (Iz s=(0,false)):=by show _=_;unfold Iz;rw[if_pos hb]
  unfold Kt at hb
  replace hb:=of_decide_eq_true hb
  have d:=Z hb;go_wp2
  all_goals first
   |(go_ret2;exact Jj.mk b)
   |(exfalso;have hb:=d.out;simp only[ck,beq_eq_false_iff_ne]at*;omega)
 ·have b:Hid (Iz s=LY (JQ (s.data.toList.drop 1) 0)):=by show _=_;unfold Iz;rw[if_neg hb]
  unfold Kt at hb;simp only[decide_eq_true_eq]at hb;have j:2<=s.size:=by omega
  have l:s.size<=3:=by omega
  have u:0<s.size:=by omega
  have p1:1<s.size:=by omega
  have g:((s[0].toNat:Int) !=114)=false:=by rw[ck,bne_eq_false_iff_eq];omega
  by_cases o:s.size<3
  all_goals
   (try(have h:((s[1].toNat:Int)==48)=false:=by rw[ck,beq_eq_false_iff_ne];omega))
   go_wp2
   go_loop [4,5] (fun n i=>∃(k:Nat) (m:Int),k<=s.size/\i=.int .i64 k/\n=.int .i64 m/\((k<=1/\1<=k/\m<=0/\0<=m)∨(k<=2/\2<=k/\0<=m/\m<=9)∨(k<=3/\3<=k/\0<=m/\m<=99))/\Hid (JQ (s.data.toList.drop k) m=JQ (s.data.toList.drop 1) 0)) (fun _ i=>s.size-(intOf i).toNat)
   case atStart=>exact⟨1,0,by omega,rfl,rfl,by omega,rfl⟩
   case round=>
    obtain⟨k,m,p,rfl,rfl,q,c⟩:=hrel;have r:0<=m:=(by omega);have t:m<=99:=(by omega);by_cases e:k<s.size
    ·have a:Hid (s.data.toList.drop k=s[k]::s.data.toList.drop (k+1)):=IT s k e
     go_wp2
     all_goals first
      |(go_round
        case rel=>exact⟨k+1,10*m+((s[k].toNat:Int)-48),by omega,by go_num,rfl,by omega,by
         show _=_
         rw[<-c,a];rw[JQ,if_pos (by omega)]⟩
        case measure=>simp[intOf];omega)
      |(go_ret2
        exact Jj.mk (by rw[b,<-c,a];rw[JQ,if_neg (by omega)];rfl))
    ·have a:Hid (s.data.toList.drop k=[]):=Ja s k (by omega)
     go_wp2
     all_goals
      (go_ret2
       exact Jj.mk (by rw[b,<-c,a];rfl))
def IH(c:UInt8):Bool:=decide ((97<=(c.toNat:Int)/\(c.toNat:Int)<=122)∨(48<=(c.toNat:Int)/\(c.toNat:Int)<=57))
def Jq(s:ByteArray):Bool:=decide ((s.size:Int)<1∨16<(s.size:Int)∨sv s 0<97∨122<sv s 0)
def Iy(s:ByteArray):Bool:=if Jq s then false else if s.data.toList.all IH then !(Iz s).2 else false
theorem LB(s:ByteArray)(d:s.size<=maxLen)(w:World):Calls prog 116 #[.string s] w (JF (Iy s) w):=by
 have j:s.size<=maxLen:=d;have g:=Z j;unfold maxLen at d;by_cases hb:Jq s=true
 ·have b:Hid (Iy s=false):=by show _=_;unfold Iy;rw[if_pos hb]
  unfold Jq at hb
  replace hb:=of_decide_eq_true hb
  have f:=Z hb;go_wp2
  all_goals first
   |(go_ret;exact JF.mk b)
   |(exfalso;have hb:=f.out;simp only[ck]at*;omega)
 ·have b:Hid (Iy s=if s.data.toList.all IH then !(Iz s).2 else false):=by show _=_;unfold Iy;rw[if_neg hb]
  unfold Jq at hb;simp only[decide_eq_true_eq]at hb;have n:1<=s.size:=by omega
  have o:s.size<=16:=by omega
  have q:0<s.size:=by omega
  have l:97<=(s[0].toNat:Int):=by rw[ck];omega
  have m:(s[0].toNat:Int)<=122:=by rw[ck];omega
  go_wp2
  go_loop [3] (fun i=>∃(k:Nat),k<=s.size/\i=.int .i64 k/\Hid (s.data.toList.all IH=(s.data.toList.drop k).all IH)) (fun i=>s.size-(intOf i).toNat)
  case atStart=>exact⟨0,by omega,rfl,rfl⟩
  case round=>
   obtain⟨k,p,rfl,c⟩:=hrel;by_cases h:k<s.size
   ·have a:Hid (s.data.toList.drop k=s[k]::s.data.toList.drop (k+1)):=IT s k h
    go_wp2
    all_goals first
     |(go_round
       case rel=>exact⟨k+1,by omega,by go_num,by
        show _=_
        rw[c,a,List.all_cons];have e:IH s[k]=true:=(by unfold IH;rw[decide_eq_true_eq];omega);rw[e,Bool.true_and]⟩
       case measure=>simp[intOf];omega)
     |(go_ret
       exact JF.mk (by
        rw[b,c,a,List.all_cons];have e:IH s[k]=false:=(by unfold IH;rw[decide_eq_false_iff_not];omega);rw[e,Bool.false_and];rfl))
   ·have a:Hid (s.data.toList.drop k=[]):=Ja s k (by omega)
    go_wp2_with (go_at_call 162;refine(Jp _ g _).mono ?_;rintro e w' ⟨rfl,rfl⟩)
    go_ret;exact JF.mk (by rw[b,c,a];rfl)
theorem Ib(s:ByteArray)(b:s.size<=maxLen)(v:Int)(h:vh s=.ok v)(line:Int)(w:World):
 Calls prog 164 #[.string s,line] w (Ia v w):=by
 have a:=Z (Ku s b v h);go_in
 go_wp2_with (go_at_call 204;refine(a _).mono ?_;rintro e w' ⟨rfl,c,d,rfl⟩)
 go_ret2;exact⟨rfl,‹_›,‹_›,rfl⟩
variable{a b:ByteArray}
def IY:ByteArray:=(ByteArray.mk (List.toArray (List.append (List.append [115,101,116,32,109,111,118,32,97,100,100,32,115,117,98,32,97,110,100,32,111,114,32,120,111,114,32,115,104,108,32,115,104,114,32,101,113,32,108,116,32,106,109,112,32,106,122,32,106,110,122,32,106,115,114,32] [114,101,116,32,108,100,32,115,116,32,115,119,112,32,102,97,100,32,99,97,115,32,99,97,108,108,32,104,115,104,32,113,112,116,32,113,116,107,32,113,109,118,32,113,104,115,32,115,108,112,32,104,110,100,32,112,105]) (List.append [107,32,108,97,121,32,116,97,107,32,105,110,106,32,105,106,116,32,114,117,110,32,112,114,107,32,115,108,102,32,119,114,107,32,119,107,100,32,119,107,110,32,110,111,119,32,100,114,119,32,103,101,116,32,102,114,101] [32,111,98,106,32,100,101,108,32,99,107,112,32,116,110,119,32,116,115,116,32,116,104,109,32,116,106,110,32,116,100,116,32,116,101,120,32,116,114,112,32,101,110,100,32,121,108,100,32,99,98,107,32,102,105,110,32]))))
theorem JG:IY.size=227:=by decide+kernel
theorem toList_data(s:ByteArray):s.toList=s.data.toList:=ByteArray.toList_eq s
theorem toList_eq(h:(a.toList==b.toList)=true):a=b:=by
 have c:=beq_iff_eq.1 h;rw[toList_data,toList_data]at c;exact ByteArray.ext (Array.ext' c)
theorem Kj(h:(a.toList==b.toList)=false):¬a=b:=by
 intro e;subst e;simp at h
def JL(s:ByteArray):Nat->Nat->Nat->Int->Int
 |0,_,_,_=>0
 |f+1,i,a,n=>if sv IY i≠32 then JL s f (i+1) a n else if IY.extract a i=s then n else JL s f (i+1) (i+1) (n+1)
def Kb(s:ByteArray):Int:=JL s 227 0 0 1
theorem Lv(s:ByteArray)(w:World):Calls prog 117 #[.string s] w (JP .i64 (Kb s) w):=by
 have q:=JG;have o:Hid (JL s (227-0) 0 0 1=Kb s):=rfl;go_in
 obtain⟨N,p⟩:∃N:ByteArray,Hid (N=IY):=⟨_,rfl⟩;generalize l:(ByteArray.mk (List.toArray (List.append (List.append [115,101,116,32,109,111,118,32,97,100,100,32,115,117,98,32,97,110,100,32,111,114,32,120,111,114,32,115,104,108,32,115,104,114,32,101,113,32,108,116,32,106,109,112,32,106,122,32,106,110,122,32,106,115,114,32] [114,101,116,32,108,100,32,115,116,32,115,119,112,32,102,97,100,32,99,97,115,32,99,97,108,108,32,104,115,104,32,113,112,116,32,113,116,107,32,113,109,118,32,113,104,115,32,115,108,112,32,104,110,100,32,112,105]) (List.append [107,32,108,97,121,32,116,97,107,32,105,110,106,32,105,106,116,32,114,117,110,32,112,114,107,32,115,108,102,32,119,114,107,32,119,107,100,32,119,107,110,32,110,111,119,32,100,114,119,32,103,101,116,32,102,114,101] [32,111,98,106,32,100,101,108,32,99,107,112,32,116,110,119,32,116,115,116,32,116,104,109,32,116,106,110,32,116,100,116,32,116,101,120,32,116,114,112,32,101,110,100,32,121,108,100,32,99,98,107,32,102,105,110,32]))))=c;have r:c.size=227:=by rw[<-l];exact JG
 have d:Hid (c=IY):=l.symm;have C:c.size<=227:=by omega
 have D:227<=c.size:=by omega
 go_wp2
 go_loop [3,4,5] (fun at_ n i=>∃(k a:Nat) (m:Int),k<=227/\a<=k/\1<=m/\m<=k+1/\at_=.int .i64 a/\n=.int .i64 m/\i=.int .i64 k/\Hid (JL s (227-k) k a m=Kb s)) (fun _ _ i=>227-(intOf i).toNat)
 case atStart=>exact⟨0,0,1,by omega,by omega,by omega,by omega,rfl,rfl,rfl,o⟩
 case round=>
  obtain⟨k,a,m,u,t,A,B,rfl,rfl,rfl,e⟩:=hrel;by_cases v:k<227
  ·have g:k<c.size:=by omega
   have j:∀x y z,Hid (JL s (227-k) k a m=if sv IY k≠32 then x else if IY.extract a k=s then y else z)->True:=(fun _ _ _ _=>trivial);have f:Hid (JL s (227-k) k a m=if sv IY k≠32 then JL s (227-(k+1)) (k+1) a m else if IY.extract a k=s then m else JL s (227-(k+1)) (k+1) (k+1) (m+1)):=by
    show _=_
    rw[show 227-k=(227-(k+1))+1 from by omega,JL]
   go_wp2
   all_goals first
    |(go_round
      case rel=>exact⟨k+1,a,m,by omega,by omega,by omega,by omega,rfl,rfl,by go_num,by
       show _=_
       have h:=f.out;rw[if_pos (by rw[<-d.out,<-ck c k g];simpa using (show((c[k].toNat:Int) !=32)=true from by assumption))]at h;rw[<-h];exact e⟩
      case measure=>simp[intOf];omega)
    |(go_ret
      exact JP.mk (by
       have h:=f.out;rw[if_neg (by rw[<-d.out,<-ck c k g];simpa using (show((c[k].toNat:Int) !=32)=false from by assumption)),if_pos (by rw[<-d.out];exact toList_eq (by assumption))]at h;rw[<-e];exact h))
    |(go_round
      case rel=>exact⟨k+1,k+1,m+1,by omega,by omega,by omega,by omega,by go_num,rfl,by go_num,by
       show _=_
       have h:=f.out;rw[if_neg (by rw[<-d.out,<-ck c k g];simpa using (show((c[k].toNat:Int) !=32)=false from by assumption)),if_neg (by rw[<-d.out];exact Kj (by assumption))]at h;rw[<-h];exact e⟩
      case measure=>simp[intOf];omega)
  ·have j:Hid (JL s (227-k) k a m=0):=by
    show _=_
    rw[show 227-k=0 from by omega,JL]
   go_wp2
   go_ret;exact JP.mk (by rw[<-e];exact j)
variable{b:Bool}
def b9(s:ByteArray)(i:Nat):Int:=((s.data.toList.getD i 0).toNat:Int)
theorem cc(s:ByteArray)(i:Nat)(h:i<s.size):(s[i].toNat:Int)=b9 s i:=by
 unfold b9;rw[List.getD_eq_getElem?_getD,List.getElem?_eq_getElem (by simpa using h)];rfl
theorem drop_cons(s:ByteArray)(k:Nat)(h:k<s.size):s.data.toList.drop k=s[k]::s.data.toList.drop (k+1):=by
 rw[List.drop_eq_getElem_cons (by simpa using h)];rfl
theorem iv(s:ByteArray)(k:Nat)(h:s.size<=k):s.data.toList.drop k=[]:=by
 rw[List.drop_eq_nil_iff];simpa using h
theorem wB(b:UInt8):0<=(b.toNat:Int):=Int.natCast_nonneg _
theorem wC(b:UInt8):(b.toNat:Int)<=255:=by have:=b.toNat_lt;omega
def DH(k:IntKind)(p:Int×Bool)(w:World)(e:Ending)(w':World):Prop:=e=.returned (.tuple #[.int k p.1,.bool p.2])/\w=w'
theorem DH.mk{k:IntKind}{p:Int×Bool}(h:p=(n,b)):DH k p w (.returned (.tuple #[.int k n,.bool b])) w:=⟨by rw[h],rfl⟩
def CU(k:IntKind)(n:Int)(w:World)(e:Ending)(w':World):Prop:=e=.returned (.int k n)/\w=w'
theorem CU.mk{k:IntKind}{m:Int}(h:n=m):CU k n w (.returned (.int k m)) w:=⟨by rw[h],rfl⟩
def za(k:IntKind)(p:Int×Bool)(w:World)(e:Ending)(w':World):Prop:=e=.returned (.tuple #[.int k p.1,.bool p.2])/\∃n,w'=w.drewN n
theorem za.mk{k:IntKind}{p:Int×Bool}(m:Nat)(h:p=(n,b)):za k p w (.returned (.tuple #[.int k n,.bool b])) (w.drewN m):=⟨by rw[h],m,rfl⟩
theorem za.DI{k:IntKind}{p:Int×Bool}(h:p=(n,b)):za k p w (.returned (.tuple #[.int k n,.bool b])) w:=⟨by rw[h],0,rfl⟩
def dW(s:ByteArray):Int×Bool:=
 if(s.size:Int)=2/\b9 s 0=114/\48<=b9 s 1/\b9 s 1<=57 then(b9 s 1-48,true)
 else if(s.size:Int)=3/\b9 s 0=114/\49<=b9 s 1/\b9 s 1<=51/\48<=b9 s 2/\b9 s 2<=57 then(10*(b9 s 1-48)+(b9 s 2-48),decide (10*(b9 s 1-48)+(b9 s 2-48)<32))
 else(0,false)
theorem tf(s:ByteArray)(p:s.size<=maxLen)(w:World):Calls prog 128 #[.string s] w (za .i64 (dW s) w):=by
 unfold maxLen at p;by_cases r:s.size=2
 ·have i:0<s.size:=by omega
  have p1:1<s.size:=by omega
  have c:=cc s 0 i;have d:=cc s 1 p1;have a:=Z (show dW s=_ from by unfold dW;rw[<-c,<-d]);clear c d;go_wp2
  all_goals
   go_ret2;refine za.DI ?_;rw[a]
   first
    |(rw[if_pos (by omega)])
    |(rw[if_neg (by omega),if_neg (by omega)])
 ·by_cases t:s.size=3
  ·have i:0<s.size:=by omega
   have p1:1<s.size:=(by omega);have p2:2<s.size:=(by omega);have c:=cc s 0 i;have d:=cc s 1 p1;have j:=cc s 2 p2;have a:=Z (show dW s=_ from by unfold dW;rw[<-c,<-d,<-j]);clear c d j;go_in
   by_cases g:(s[0].toNat:Int)=114/\49<=(s[1].toNat:Int)/\(s[1].toNat:Int)<=51/\48<=(s[2].toNat:Int)/\(s[2].toNat:Int)<=57
   ·obtain⟨f,k,l,m,o⟩:=g
    have q:((s[0].toNat:Int)==114)=true:=(by rw[f];rfl);have e:=Z (And.intro f (And.intro k (And.intro l (And.intro m o))));have u1:IntKind.u8.wrap ((s[1].toNat:Int)-48)=(s[1].toNat:Int)-48:=IntWalk.u8_in _ (by omega);have u2:IntKind.u8.wrap ((s[2].toNat:Int)-48)=(s[2].toNat:Int)-48:=IntWalk.u8_in _ (by omega);have u3:IntKind.i64.wrap (10*((s[1].toNat:Int)-48))=10*((s[1].toNat:Int)-48):=IntWalk.i64_in _ (by omega);have u4:IntKind.i64.wrap (10*((s[1].toNat:Int)-48)+((s[2].toNat:Int)-48))=10*((s[1].toNat:Int)-48)+((s[2].toNat:Int)-48):=IntWalk.i64_in _ (by omega);have u5:IntKind.i64.wrap ((s[1].toNat:Int)-48)=(s[1].toNat:Int)-48:=IntWalk.i64_in _ (by omega);have u6:IntKind.i64.wrap ((s[2].toNat:Int)-48)=(s[2].toNat:Int)-48:=IntWalk.i64_in _ (by omega);clear f;go_wp2
    go_quiet (fail)
    go_wp2
    go_ret2;refine za.mk _ ?_;have h:=e.out;rw[a,if_neg (by omega),if_pos (by omega)]
   ·have e:=Z g
    clear g;go_wp2
    all_goals
     first
      |(exfalso;exact e ⟨by assumption,by assumption,by assumption,by assumption,by assumption⟩)
      |(go_ret2
        refine za.DI ?_;have h:=e.out;rw[a,if_neg (by omega),if_neg (by omega)])
  ·have a:=Z (show dW s=(0,false)from by unfold dW;rw[if_neg (by omega),if_neg (by omega)])
   go_wp2
   all_goals
    go_ret2;exact za.DI a
variable{c:Bool}
def QB(b:Bool)(w:World)(e:Ending)(w':World):Prop:=e=.returned (.bool b)/\∃n,w'=w.drewN n
theorem QB.DI(h:b=c):QB b w (.returned (.bool c)) w:=⟨by rw[h],0,rfl⟩
theorem QB.mk(n:Nat)(h:b=c):QB b w (.returned (.bool c)) (w.drewN n):=⟨by rw[h],n,rfl⟩
def h'(c:UInt8):Bool:=decide ((97<=(c.toNat:Int)/\(c.toNat:Int)<=122)∨(48<=(c.toNat:Int)/\(c.toNat:Int)<=57))
def nn(s:ByteArray):Bool:=decide ((s.size:Int)<1∨16<(s.size:Int)∨b9 s 0<97∨122<b9 s 0)
def fZ(s:ByteArray):Bool:=if nn s then false else if s.data.toList.all h' then !(dW s).2 else false
theorem yC(s:ByteArray)(p:s.size<=maxLen)(w:World):Calls prog 89 #[.string s] w (QB (fZ s) w):=by
 have u:s.size<=maxLen:=p;have r:=Z u;unfold maxLen at p;by_cases hb:nn s=true
 ·have d:Hid (fZ s=false):=by show _=_;unfold fZ;rw[if_pos hb]
  unfold nn at hb
  replace hb:=of_decide_eq_true hb
  have q:=Z hb;go_wp2
  all_goals first
   |(go_ret;exact QB.DI d)
   |(exfalso;have hb:=q.out;simp only[cc]at*;omega)
 ·have d:Hid (fZ s=if s.data.toList.all h' then !(dW s).2 else false):=by show _=_;unfold fZ;rw[if_neg hb]
  unfold nn at hb;simp only[decide_eq_true_eq]at hb;have z:1<=s.size:=by omega
  have A:s.size<=16:=by omega
  have C:0<s.size:=by omega
  have v:97<=(s[0].toNat:Int):=by rw[cc];omega
  have x:(s[0].toNat:Int)<=122:=by rw[cc];omega
  go_wp2
  go_loop [3] (fun i=>∃(k:Nat),k<=s.size/\i=.int .i64 k/\Hid (s.data.toList.all h'=(s.data.toList.drop k).all h')) (fun i=>s.size-(intOf i).toNat)
  case atStart=>exact⟨0,by omega,rfl,rfl⟩
  case round=>
   obtain⟨k,B,rfl,g⟩:=hrel;by_cases t:k<s.size
   ·have h:Hid (s.data.toList.drop k=s[k]::s.data.toList.drop (k+1)):=drop_cons s k t
    by_cases a:h' s[k]=true
    ·have f:Hid ((s.data.toList.drop k).all h'=(s.data.toList.drop (k+1)).all h'):=by
      show _=_
      rw[h,List.all_cons,a,Bool.true_and]
     unfold h' at a;rw[decide_eq_true_eq]at a;have m:((97<=(s[k].toNat:Int))/\(s[k].toNat:Int)<=122)∨((s[k].toNat:Int)<97/\48<=(s[k].toNat:Int)/\(s[k].toNat:Int)<=57):=(by omega);rcases m with⟨j,l⟩|⟨j,l,o⟩
     all_goals
      go_wp2
      go_round
      case rel=>exact⟨k+1,by omega,by go_num,g.trans f⟩
      case measure=>simp[intOf];omega
    ·have f:Hid ((s.data.toList.drop k).all h'=false):=by
      show _=_
      rw[h,List.all_cons];simp only[Bool.not_eq_true]at a;rw[a,Bool.false_and]
     unfold h' at a;rw[decide_eq_true_eq]at a;have m:(s[k].toNat:Int)<48∨(57<(s[k].toNat:Int)/\(s[k].toNat:Int)<97)∨(122<(s[k].toNat:Int)):=(by omega);rcases m with j|⟨j,l⟩|j
     ·have l:(s[k].toNat:Int)<97:=by omega
      go_wp2
      all_goals first
       |(exfalso;simp only[Bool.not_eq_false',decide_eq_true_eq]at*;omega)
       |(go_ret;exact QB.DI (by rw[d,g,f];rfl))
     ·have o:48<=(s[k].toNat:Int):=by omega
      go_wp2
      all_goals first
       |(exfalso;simp only[Bool.not_eq_false',decide_eq_true_eq]at*;omega)
       |(go_ret;exact QB.DI (by rw[d,g,f];rfl))
     ·have l:97<=(s[k].toNat:Int):=by omega
      have o:48<=(s[k].toNat:Int):=(by omega);have y:57<(s[k].toNat:Int):=(by omega);go_wp2
      all_goals first
       |(exfalso;simp only[Bool.not_eq_false',decide_eq_true_eq]at*;omega)
       |(go_ret;exact QB.DI (by rw[d,g,f];rfl))
   ·have h:Hid (s.data.toList.drop k=[]):=iv s k (by omega)
    go_wp2_with (go_at_call 128;refine(tf _ r _).mono ?_;rintro e w' ⟨rfl,n,rfl⟩)
    go_ret;exact QB.mk _ (by rw[d,g,h];rfl)
def m6(c:Int):Int:=
 if 48<=c/\c<=57 then c-48 else if 97<=c/\c<=102 then c-87 else if 65<=c/\c<=70 then c-55 else 99
theorem wD(c:Int):0<=m6 c:=by unfold m6;split;omega;split;omega;split;omega;omega
theorem oI(c:Int)(a:0<=c)(d:c<=255)(w:World):Calls prog 211 #[.int .u8 c] w (CU .u64 (m6 c) w):=by
 go_wp2
 all_goals(go_ret;refine CU.mk ?_)
 all_goals(first
  |(unfold m6;rw[if_pos (by omega)])
  |(unfold m6;rw[if_neg (by omega),if_pos (by omega)];omega)
  |(unfold m6;rw[if_neg (by omega),if_neg (by omega),if_pos (by omega)];omega)
  |(unfold m6;rw[if_neg (by omega),if_neg (by omega),if_neg (by omega)]))
def ti:List UInt8->Int->Int->Option Int
 |[],_,v=>some v
 |c::cs,j,v=>if m6 c.toNat<10/\j<20/\v<=1844674407370955161/\v*10<=18446744073709551615-m6 c.toNat then ti cs (j+1) (v*10+m6 c.toNat)else none
def yD(s:ByteArray):Option Int:=if 2<=(s.size:Int)/\b9 s 0=48/\b9 s 1=120 then none else if s.size=0 then none else ti s.data.toList 0 0
def Gb(v:Int)(w:World)(e:Ending)(w':World):Prop:=e=.returned (.tuple #[.int .u64 v,.pointer none])/\aK v/\w=w'
theorem uV(s:ByteArray)(I:s.size<=maxLen)(v:Int)(h:yD s=some v)(w:World):Calls prog 172 #[.string s] w (Gb v w):=by
 unfold maxLen at I;unfold yD at h;split at h
 ·cases h
 ·rename_i J
  split at h
  ·cases h
  ·rename_i N
   have x:=Z h;have L:1<=s.size:=(by omega);have O:0<s.size:=(by omega);have A:=Z J;by_cases y:2<=s.size/\b9 s 0=48
   ·obtain⟨M,z⟩:=y
    have p1:1<s.size:=(by omega);have o:((s[0].toNat:Int)==48)=true:=(by rw[cc,beq_iff_eq];exact z);have K:((s[1].toNat:Int)==120)=false:=(by rw[cc,beq_eq_false_iff_ne];intro e;exact A ⟨by omega,z,e⟩);go_wp2
    go_loop [7,8] (fun n i=>∃(k:Nat) (m:Int),k<=s.size/\i=.int .i64 k/\n=.int .u64 m/\0<=m/\m<=18446744073709551615/\Hid (ti (s.data.toList.drop k) k m=some v)) (fun _ i=>s.size-(intOf i).toNat)
    case atStart=>exact⟨0,0,by omega,rfl,rfl,by omega,by omega,x⟩
    case round=>
     obtain⟨k,m,F,rfl,rfl,u,H,g⟩:=hrel;by_cases t:k<s.size
     ·have a:Hid (s.data.toList.drop k=s[k]::s.data.toList.drop (k+1)):=drop_cons s k t
      have h:=g.out;rw[a,ti]at h;split at h
      ·rename_i l
       have j:=Z h;have r:=wD s[k].toNat;obtain⟨d,q⟩:=nm (m6 s[k].toNat);have f:=Z (fun w=>oI s[k].toNat (wB _) (wC _) w);rw[q]at f l r j;obtain⟨B,C,D,E⟩:=l;have G:k<=19:=(by omega);go_wp2_with (go_at_call 211;refine(f _).mono ?_;rintro e w' ⟨rfl,rfl⟩)
       go_round
       case rel=>exact⟨k+1,m*10+d,by omega,by go_num,rfl,by omega,by omega,j⟩
       case measure=>simp[intOf];omega
      ·cases h
     ·have a:Hid (s.data.toList.drop k=[]):=iv s k (by omega)
      have h:=g.out;rw[a,ti]at h;obtain rfl:m=v:=Option.some.inj h;go_wp2
      go_ret2;exact⟨rfl,⟨u,by omega⟩,rfl⟩
   ·have o:(2<=s.size->((s[0].toNat:Int)==48)=false):=fun p=>by rw[cc,beq_eq_false_iff_ne];intro e;exact y ⟨p,e⟩
    by_cases p:2<=s.size
    all_goals
     (try have o:=o p)
     go_wp2
     go_loop [7,8] (fun n i=>∃(k:Nat) (m:Int),k<=s.size/\i=.int .i64 k/\n=.int .u64 m/\0<=m/\m<=18446744073709551615/\Hid (ti (s.data.toList.drop k) k m=some v)) (fun _ i=>s.size-(intOf i).toNat)
     case atStart=>exact⟨0,0,by omega,rfl,rfl,by omega,by omega,x⟩
     case round=>
      obtain⟨k,m,F,rfl,rfl,u,H,g⟩:=hrel;by_cases t:k<s.size
      ·have a:Hid (s.data.toList.drop k=s[k]::s.data.toList.drop (k+1)):=drop_cons s k t
       have h:=g.out;rw[a,ti]at h;split at h
       ·rename_i l
        have j:=Z h;have r:=wD s[k].toNat;obtain⟨d,q⟩:=nm (m6 s[k].toNat);have f:=Z (fun w=>oI s[k].toNat (wB _) (wC _) w);rw[q]at f l r j;obtain⟨B,C,D,E⟩:=l;have G:k<=19:=(by omega);go_wp2_with (go_at_call 211;refine(f _).mono ?_;rintro e w' ⟨rfl,rfl⟩)
        go_round
        case rel=>exact⟨k+1,m*10+d,by omega,by go_num,rfl,by omega,by omega,j⟩
        case measure=>simp[intOf];omega
       ·cases h
      ·have a:Hid (s.data.toList.drop k=[]):=iv s k (by omega)
       have h:=g.out;rw[a,ti]at h;obtain rfl:m=v:=Option.some.inj h;go_wp2
       go_ret2;exact⟨rfl,⟨u,by omega⟩,rfl⟩
variable{b:Nat}{X:be}
theorem CV(t:ByteArray)(n:Int)(w:World):Calls prog 173 #[.string t,n,.pointer none] w (ez (.pointer none) w):=by
 go_wp2
 go_ret;exact⟨rfl,rfl⟩
theorem c'(s:ByteArray)(d:s.size<=maxLen)(v:Int)(h:yD s=some v)(p:Nat)(line:Int)(w:World)(g:w.cell? (p,4)=some (.int .i64 line)):
 Calls prog 132 #[(p,0),.string s] w (Gb v w):=by
 have a:=Z (uV s d v h);go_in
 go_wp2_with (first|(go_at_call 172;refine(a _).mono ?_;rintro e w' ⟨rfl,f,rfl⟩;have c:=Z f)|(go_at_call 173;refine(CV _ _ _).mono ?_;rintro e w' ⟨rfl,rfl⟩))
 go_ret2;exact⟨rfl,c,rfl⟩
def aq(w:World)(b:Nat)(X:be):Prop:=Row w b 152 (aD X).toList
theorem aq.Gc(h:aq w b X)(n:Int):aq (w.setCell (b,1) (.int .i64 n)) b {X with a:=n}:=Row.bc h _ _ rfl
theorem aq.oJ(h:aq w b X)(n:Int):aq (w.setCell (b,2) (.int .i64 n)) b {X with b:=n}:=Row.bc h _ _ rfl
theorem aq.wE(h:aq w b X)(n:Int):aq (w.setCell (b,3) (.int .i64 n)) b {X with c:=n}:=Row.bc h _ _ rfl
theorem aq.mU(h:aq w b X)(n:Int):aq (w.setCell (b,4) (.int .u64 n)) b {X with v:=n}:=Row.bc h _ _ rfl
theorem aq.wF(h:aq w b X)(n:Int):aq (w.setCell (b,5) (.int .i64 n)) b {X with m:=n}:=Row.bc h _ _ rfl
theorem aq.AT(h:aq w b X)(n:Int):aq (w.setCell (b,6) (.int .i64 n)) b {X with wh:=n}:=Row.bc h _ _ rfl
theorem aq.drewN(h:aq w b X)(n:Nat):aq (w.drewN n) b X:=h
theorem aq.drew(h:aq w b X):aq w.drew b X:=h
def Hy(X:be)(bx:Nat)(w:World)(e:Ending)(w':World):Prop:=e=.returned (.pointer none)/\aq w' bx X/\Ch (aH bx) w w'
def hA:List UInt8->Int->Int
 |[],_=>-1
 |c::cs,i=>if(c.toNat:Int)=43 then i else hA cs (i+1)
theorem AU(l:List UInt8):∀i,hA l i=-1∨(i<=hA l i/\hA l i<i+l.length):=by
 induction l with
 |nil=>intro i;exact Or.inl rfl
 |cons c l ih=>
  intro i;unfold hA;split
  ·right;simp only[List.length_cons];omega
  ·rcases ih (i+1)with h|h
   ·exact Or.inl h
   ·right;simp only[List.length_cons];omega
def Hz(s:ByteArray):ByteArray:=s.extract 1 (s.size-1)
def wG(t:ByteArray)(X:be):Option be:=
 if(dW t).2 then some {X with b:=(dW t).1}
 else if 0<=hA t.data.toList 0 then
  (if(dW (t.extract 0 (hA t.data.toList 0).toNat)).2 then(yD (t.extract ((hA t.data.toList 0).toNat+1) t.size)).map fun v=>{X with b:=(dW (t.extract 0 (hA t.data.toList 0).toNat)).1,v:=v}else none)
 else(yD t).map fun v=>{X with b:=-1,v:=v}
def uW(s:ByteArray)(X:be):Option be:=
 if(s.size:Int)<2∨b9 s 0≠91∨b9 s (s.size-1)≠93 then none else wG (Hz s) X
theorem jW(s:ByteArray)(a:s.size<=maxLen)(n:Int)(b:Bool)(h:dW s=(n,b))(w:World):Calls prog 128 #[.string s] w (za .i64 (n,b) w):=by rw[<-h];exact tf s a w
theorem yE(s:ByteArray)(am:s.size<=65536)(X d:be)(h:uW s X=some d)(p bx:Nat)(line:Int)(w:World)(I:w.cell? (p,4)=some (.int .i64 line))(f:aq w bx X):
 Calls prog 131 #[(p,0),.string s,(bx,0)] w (Hy d bx w):=by
 unfold uW at h;split at h
 ·cases h
 ·rename_i a9
  have a5:2<=s.size:=by omega
  have av:0<s.size:=by omega
  have p1:s.size-1<s.size:=by omega
  have a1:((s[0].toNat:Int) !=91)=false:=by rw[cc,bne_eq_false_iff_eq];omega
  have a2:((s[s.size-1].toNat:Int) !=93)=false:=by rw[cc,bne_eq_false_iff_eq];omega
  have f1:=f.free 2;have f2:=f.free 4;have a3:w.cell? (bx,2)=some (.int .i64 X.b):=f.cell rfl;have a4:w.cell? (bx,4)=some (.int .u64 X.v):=f.cell rfl;have A:=Z f;obtain⟨t,K⟩:=nm (s.extract 1 (s.size-1));have ap:t.size<=65536:=by rw[<-K];simp;omega
  have T:Hz s=t:=K;rw[T]at h;have R:=Z h;go_in
  go_upto_block 0 with fail
  obtain⟨P,F⟩:=nm (hA t.data.toList 0);have G:=AU t.data.toList 0;rw[F]at G;have U:t.data.toList.length=t.size:=by simp
  rw[U]at G;have E:=Z F;go_cut [7] (fun q wc=>q=.int .i64 P/\w=wc)
  case first=>
   go_wp2
   go_loop [7,8] (fun q i=>∃(k:Nat) (m:Int),k<=t.size/\i=.int .i64 k/\q=.int .i64 m/\((m<0/\-1<=m/\Hid (hA (t.data.toList.drop k) k=P))∨(0<=m/\m<t.size/\Hid (m=P)))) (fun _ i=>t.size-(intOf i).toNat)
   case atStart=>exact⟨0,-1,by omega,rfl,rfl,Or.inl ⟨by omega,by omega,E⟩⟩
   case round=>
    obtain⟨k,m,ab,rfl,rfl,W⟩:=hrel;rcases W with⟨N,O,r⟩|⟨N,O,a⟩
    ·by_cases H:k<t.size
     ·have g:Hid (t.data.toList.drop k=t[k]::t.data.toList.drop (k+1)):=drop_cons t k H
      by_cases j:(t[k].toNat:Int)=43
      ·have a:Hid ((k:Int)=P):=by
        show _=_
        have:=r.out;rw[g,hA,if_pos j]at this;exact this
       have V:((t[k].toNat:Int)==43)=true:=(by rw[j];rfl);go_wp2
       go_round
       case rel=>exact⟨k+1,k,by omega,by go_num,rfl,Or.inr ⟨by omega,by omega,a⟩⟩
       case measure=>simp[intOf];omega
      ·have a:Hid (hA (t.data.toList.drop (k+1)) ((k+1:Nat):Int)=P):=by
        show _=_
        have:=r.out;rw[g,hA,if_neg j]at this;exact this
       have V:((t[k].toNat:Int)==43)=false:=(by simpa using j);go_wp2
       go_round
       case rel=>exact⟨k+1,m,by omega,by go_num,rfl,Or.inl ⟨N,O,a⟩⟩
       case measure=>simp[intOf];omega
     ·have g:Hid (t.data.toList.drop k=[]):=iv t k (by omega)
      have a:Hid (m=P):=by
       show _=_
       have:=r.out;rw[g,hA]at this;omega
      go_wp2
      go_meet
      exact⟨by rw[a],rfl⟩
    ·by_cases H:k<t.size
     all_goals
      go_wp2
      go_meet
      exact⟨by rw[a],rfl⟩
  case rest=>
   obtain⟨rfl,rfl⟩:=hcut;have h:=R.out;unfold wG at h;rw[E]at h;have l:t.size<=maxLen:=(by unfold maxLen;omega);rcases J:dW t with⟨n,b⟩
   have x:=Z (jW t l n b J);rw[J]at h;cases b with
   |true=>
    obtain rfl:d={X with b:=n}:=(Option.some.inj h).symm;go_wp2_with (go_at_call 128;(with_reducible refine(x.out _).mono ?_);rintro e w' ⟨rfl,D,rfl⟩)
    go_ret;exact⟨rfl,(A.drewN D).oJ n,ay⟩
   |false=>
    simp only[Bool.false_eq_true,if_false]at h;by_cases B:0<=P
    ·rw[if_pos B]at h
     obtain⟨q,rfl⟩:=Int.eq_ofNat_of_zero_le B;have al:q<t.size:=(by omega);simp only[Int.toNat_natCast]at h;rcases C:dW (t.extract 0 q)with⟨o,S⟩
     rw[C]at h;cases S with
     |false=>cases h
     |true=>
      simp only[if_true]at h;obtain⟨y,L⟩:=nm (t.extract 0 q);obtain⟨z,M⟩:=nm (t.extract (q+1) t.size);have Y:y.size<=maxLen:=(by rw[<-L];unfold maxLen;simp;omega);have a0:z.size<=maxLen:=(by rw[<-M];unfold maxLen;simp;omega);rw[L]at C;rw[M]at h;have Q:=Z (jW y Y o true C);cases c:yD z with
      |none=>rw[c]at h;cases h
      |some v=>
       rw[c]at h;obtain rfl:d={X with b:=o,v:=v}:=(Option.some.inj h).symm;have u:=Z (c' z a0 v c p line);go_wp2_with (first|(go_at_call 128;(with_reducible refine(x.out _).mono ?_);rintro e w' ⟨rfl,D,rfl⟩)|(go_at_call 128;(with_reducible refine(Q.out _).mono ?_);rintro e w' ⟨rfl,nq,rfl⟩)|(go_at_call 132;(with_reducible refine(u.out _ ?_).mono ?_);exact I;rintro e w' ⟨rfl,l,rfl⟩))
       go_ret;refine⟨rfl,?_,ay⟩
       (repeat(first|with_reducible refine aq.drewN ?_ _|with_reducible refine aq.drew ?_))
       refine aq.mU (X:={X with b:=o}) ?_ v
       (repeat(first|with_reducible refine aq.drewN ?_ _|with_reducible refine aq.drew ?_))
       refine aq.oJ (X:=X) ?_ o
       (repeat(first|with_reducible refine aq.drewN ?_ _|with_reducible refine aq.drew ?_))
       exact A
    ·rw[if_neg B]at h
     have ad:P<0:=(by omega);cases c:yD t with
     |none=>rw[c]at h;cases h
     |some v=>
      rw[c]at h;obtain rfl:d={X with b:=-1,v:=v}:=(Option.some.inj h).symm;have u:=Z (c' t l v c p line);go_wp2_with (first|(go_at_call 128;(with_reducible refine(x.out _).mono ?_);rintro e w' ⟨rfl,D,rfl⟩)|(go_at_call 132;(with_reducible refine(u.out _ ?_).mono ?_);exact I;rintro e w' ⟨rfl,l,rfl⟩))
      go_ret;refine⟨rfl,?_,ay⟩
      (repeat(first|with_reducible refine aq.drewN ?_ _|with_reducible refine aq.drew ?_))
      refine aq.mU (X:={X with b:=-1}) ?_ v
      (repeat(first|with_reducible refine aq.drewN ?_ _|with_reducible refine aq.drew ?_))
      refine aq.oJ (X:=X) ?_ (-1)
      (repeat(first|with_reducible refine aq.drewN ?_ _|with_reducible refine aq.drew ?_))
      exact A
def fI(t:ByteArray)(a:Int):Int×ByteArray:=
 if 2<=t.size/\((t.extract (t.size-2) t.size).data.toList==[61,48])=true then(1,t.extract 0 (t.size-2))
 else if 2<=t.size/\((t.extract (t.size-2) t.size).data.toList==[62,48])=true then(2,t.extract 0 (t.size-2))
 else(a,t)
def jy(X:be)(p:Int×ByteArray):Option be:=
 match yD p.2 with
 |none=>none
 |some v=>if v<1∨99<v then none else some {X with wh:=p.1,m:=v}
def q9(s:ByteArray)(X:be):Option be:=jy X (fI (s.extract 1 s.size) X.wh)
theorem yF(s:ByteArray)(D:s.size<=65536)(C:1<=s.size)(X g:be)(h:q9 s X=some g)(p bx:Nat)(line:Int)(w:World)(l:w.cell? (p,4)=some (.int .i64 line))(y:p≠bx)(i:aq w bx X):
 Calls prog 94 #[(p,0),.string s,(bx,0)] w (Hy g bx w):=by
 have A:w.cell? (bx,5)=some (.int .i64 X.m):=i.cell rfl;have B:w.cell? (bx,6)=some (.int .i64 X.wh):=i.cell rfl;have f5:=i.free 5;have f6:=i.free 6;have j:=Z i;unfold q9 at h;obtain⟨t,z⟩:=nm (s.extract 1 s.size);have E:t.size<=65536:=by rw[<-z];simp;omega
 rw[z]at h;go_in
 go_upto_region 2 with fail
 by_cases k:2<=t.size
 ·cases n:(t.extract (t.size-2) t.size).toList==[61,48]with
  |true=>
   have d:fI t X.wh=(1,t.extract 0 (t.size-2)):=(by unfold fI;rw[if_pos ⟨k,ByteArray.toList_eq (t.extract (t.size-2) t.size)▸n⟩]);rw[d]at h;unfold jy at h;dsimp only at h;cases a:yD (t.extract 0 (t.size-2))with
   |none=>rw[a]at h;cases h
   |some v=>
    rw[a]at h;dsimp only at h;split at h
    ·cases h
    ·rename_i r
     obtain rfl:g={X with wh:=1,m:=v}:=(Option.some.inj h).symm;have c:=Z (c' (t.extract 0 (t.size-2)) (by unfold maxLen;first|omega|(simp;omega)) v a p line);have o:1<=v:=(by omega);have q:v<=99:=(by omega);go_upto_region 3 with fail
     obtain⟨u,f⟩:=nm (t.extract 0 (t.size-2));rw[f]at c;go_region
     go_wp2_with (go_at_call 132;(with_reducible refine(c.out _ ?_).mono ?_);(simp[go_sem,y,l]);rintro e w' ⟨rfl,f,rfl⟩)
     go_ret;refine⟨rfl,?_,ay⟩
     (repeat(first|with_reducible refine aq.drewN ?_ _|with_reducible refine aq.drew ?_))
     refine aq.wF (X:={X with wh:=1}) ?_ v
     (repeat(first|with_reducible refine aq.drewN ?_ _|with_reducible refine aq.drew ?_))
     refine aq.AT (X:=X) ?_ 1
     (repeat(first|with_reducible refine aq.drewN ?_ _|with_reducible refine aq.drew ?_))
     exact j
  |false=>
   cases x:(t.extract (t.size-2) t.size).toList==[62,48]with
   |true=>
    have d:fI t X.wh=(2,t.extract 0 (t.size-2)):=(by unfold fI;rw[if_neg (fun b=>by rw[<-ByteArray.toList_eq,n]at b;cases b.2),if_pos ⟨k,ByteArray.toList_eq (t.extract (t.size-2) t.size)▸x⟩]);rw[d]at h;unfold jy at h;dsimp only at h;cases a:yD (t.extract 0 (t.size-2))with
    |none=>rw[a]at h;cases h
    |some v=>
     rw[a]at h;dsimp only at h;split at h
     ·cases h
     ·rename_i r
      obtain rfl:g={X with wh:=2,m:=v}:=(Option.some.inj h).symm;have c:=Z (c' (t.extract 0 (t.size-2)) (by unfold maxLen;first|omega|(simp;omega)) v a p line);have o:1<=v:=(by omega);have q:v<=99:=(by omega);go_upto_region 5 with fail
      obtain⟨u,f⟩:=nm (t.extract 0 (t.size-2));rw[f]at c;go_region
      go_wp2_with (go_at_call 132;(with_reducible refine(c.out _ ?_).mono ?_);(simp[go_sem,y,l]);rintro e w' ⟨rfl,f,rfl⟩)
      go_ret;refine⟨rfl,?_,ay⟩
      (repeat(first|with_reducible refine aq.drewN ?_ _|with_reducible refine aq.drew ?_))
      refine aq.wF (X:={X with wh:=2}) ?_ v
      (repeat(first|with_reducible refine aq.drewN ?_ _|with_reducible refine aq.drew ?_))
      refine aq.AT (X:=X) ?_ 2
      (repeat(first|with_reducible refine aq.drewN ?_ _|with_reducible refine aq.drew ?_))
      exact j
   |false=>
    have d:fI t X.wh=(X.wh,t):=(by unfold fI;rw[if_neg (fun b=>by rw[<-ByteArray.toList_eq,n]at b;cases b.2),if_neg (fun b=>by rw[<-ByteArray.toList_eq,x]at b;cases b.2)]);rw[d]at h;unfold jy at h;dsimp only at h;cases a:yD t with
    |none=>rw[a]at h;cases h
    |some v=>
     rw[a]at h;dsimp only at h;split at h
     ·cases h
     ·rename_i r
      obtain rfl:g={X with wh:=X.wh,m:=v}:=(Option.some.inj h).symm;have c:=Z (c' t (by unfold maxLen;first|omega|(simp;omega)) v a p line);have o:1<=v:=(by omega);have q:v<=99:=(by omega);go_wp2_with (go_at_call 132;(with_reducible refine(c.out _ ?_).mono ?_);exact l;rintro e w' ⟨rfl,f,rfl⟩)
      go_ret;refine⟨rfl,?_,ay⟩
      (repeat(first|with_reducible refine aq.drewN ?_ _|with_reducible refine aq.drew ?_))
      refine aq.wF (X:={X with wh:=X.wh}) ?_ v
      (repeat(first|with_reducible refine aq.drewN ?_ _|with_reducible refine aq.drew ?_))
      exact j
 ·have d:fI t X.wh=(X.wh,t):=by unfold fI;rw[if_neg (fun b=>k b.1),if_neg (fun b=>k b.1)]
  rw[d]at h;unfold jy at h;dsimp only at h;cases a:yD t with
  |none=>rw[a]at h;cases h
  |some v=>
   rw[a]at h;dsimp only at h;split at h
   ·cases h
   ·rename_i r
    obtain rfl:g={X with wh:=X.wh,m:=v}:=(Option.some.inj h).symm;have c:=Z (c' t (by unfold maxLen;first|omega|(simp;omega)) v a p line);have o:1<=v:=(by omega);have q:v<=99:=(by omega);go_wp2_with (go_at_call 132;(with_reducible refine(c.out _ ?_).mono ?_);exact l;rintro e w' ⟨rfl,f,rfl⟩)
    go_ret;refine⟨rfl,?_,ay⟩
    (repeat(first|with_reducible refine aq.drewN ?_ _|with_reducible refine aq.drew ?_))
    refine aq.wF (X:={X with wh:=X.wh}) ?_ v
    (repeat(first|with_reducible refine aq.drewN ?_ _|with_reducible refine aq.drew ?_))
    exact j
def jE:Nat->Nat->List UInt8->List UInt8
 |0,_,acc=>acc
 |f+1,n,acc=>if n/10=0 then UInt8.ofNat (48+n%10)::acc else jE f (n/10) (UInt8.ofNat (48+n%10)::acc)
def y3(n:Nat):List UInt8:=jE 20 n []
def jG(n:Nat):ByteArray:=⟨(y3 n).toArray⟩
theorem mq:∀(f n:Nat) (acc:List UInt8),(jE f n acc).length<=f+acc.length
 |0,n,acc=>by simp[jE]
 |f+1,n,acc=>by
  unfold jE;split
  ·simp;omega
  ·have:=mq f (n/10) (UInt8.ofNat (48+n%10)::acc);rw[List.length_cons]at this;omega
theorem fL(n:Nat):(jG n).size<=20:=by
 have:=mq 20 n [];show(jG n).data.size<=20
 unfold jG y3;simpa using this
def y4(l:List UInt8):ByteArray:=⟨l.toArray⟩
theorem vu(l:List UInt8):(y4 l).size=l.length:=by
 show(y4 l).data.size=_;unfold y4;simp
def lA(s:ByteArray)(w:World)(e:Ending)(w':World):Prop:=e=.returned (.string s)/\w=w'
theorem lA.mk{s t:ByteArray}{w:World}(h:s=t):lA s w (.returned (.string t)) w:=⟨by rw[h],rfl⟩
def Bz:ByteArray:=⟨#[48,49,50,51,52,53,54,55,56,57]⟩
theorem vx:∀d:Fin 10,Bz.extract d.val (d.val+1)=⟨#[UInt8.ofNat (48+d.val)]⟩:=by decide+kernel
theorem y5(d:Nat)(h:d<10):Bz.extract d (d+1)=⟨#[UInt8.ofNat (48+d)]⟩:=vx ⟨d,h⟩
theorem rn(n:Nat)(A:n<=18446744073709551615)(w:World):Calls prog 11 #[.int .u64 n] w (lA (jG n) w):=by
 go_wp2
 go_loop [0,3] (fun v s=>∃(k m:Nat) (acc:List UInt8),v=.int .u64 m/\s=.string (y4 acc)/\1<=k/\k<=20/\Hid (m<10^k)/\m<=n/\acc.length+k<=20/\Hid (jE k m acc=y3 n)) (fun v _=>(intOf v).toNat)
 case atStart=>
  refine⟨20,n,[],rfl,rfl,by omega,by omega,?_,Nat.le_refl _,by simp,rfl⟩;show n<10^20
  have:(10:Nat)^20=100000000000000000000:=by decide
  omega
 case round=>
  obtain⟨k,m,acc,rfl,rfl,r,t,d,y,l,c⟩:=hrel;have z:(m:Int)<=18446744073709551615:=by omega
  have o:(0:Int)<=(m:Int)%10:=by omega
  have p:(m:Int)%10<=9:=by omega
  have q:((m:Int)%10).toNat=m%10:=by omega
  have B:(y4 acc).size<=20:=by rw[vu];omega
  have e:Hid (Bz.extract (m%10) (m%10+1)++y4 acc=y4 (UInt8.ofNat (48+m%10)::acc)):=by
   show _=_
   rw[y5 _ (by omega)];apply ByteArray.ext;apply Array.ext';simp[y4]
  have b:Hid (k=(k-1)+1):=by show _=_;omega
  by_cases f:m/10=0
  ·have j:(((m:Int)/10)==0)=true:=by rw[beq_iff_eq];omega
   have a:Hid (jG n=y4 (UInt8.ofNat (48+m%10)::acc)):=by
    show _=_
    unfold jG;rw[<-c,b,jE,if_pos f];rfl
   go_wp2
   go_ret;exact lA.mk (a.trans e.symm)
  ·have j:(((m:Int)/10)==0)=false:=by rw[beq_eq_false_iff_ne];omega
   have a:Hid (jE (k-1) (m/10) (UInt8.ofNat (48+m%10)::acc)=y3 n):=by
    show _=_
    rw[<-c,b,jE,if_neg f,Nat.add_sub_cancel]
   have g:Hid (m/10<10^(k-1)):=by
    show _<_
    have h:=d.out;rw[b,Nat.pow_succ]at h;omega
   have u:2<=k:=by
    have h:=d.out;by_cases i:k=1
    ·subst i;simp at h;omega
    ·omega
   have x:10<=m:=(by omega);go_wp2
   go_round
   case rel=>exact⟨k-1,m/10,_,by go_num,congrArg Value.string e,by omega,by omega,g,by omega,by simp;omega,a⟩
   case measure=>simp[intOf];omega
section
variable{P:Program}{gX:Region.Mode}{ops:Array Oper}{Q:Exit->Act->World->Prop}{S:World->Prop}{h:Nat->Bool}
def eR(P:Program)(gX:Region.Mode)(ops:Array Oper)(Q:Exit->Act->World->Prop)(S:World->Prop)(h:Nat->Bool):Nat->Array Bool->Act->World->Prop
 |0,listed,a,w=>Region.ready gX ops listed=[]/\Q .normal a w
 |fuel+1,listed,a,w=>(Region.ready gX ops listed=[]->Q .normal a w)/\
  ∀i∈Region.ready gX ops listed,wpOp P ops Q i (fun a' w'=>(h i=true->S w')/\eR P gX ops Q S h fuel (listed.setIfInBounds i true) a' w') a w
theorem o2:∀(fuel:Nat) (listed:Array Bool) (a:Act) (w:World),eR P gX ops Q S h fuel listed a w->wpAny P gX ops Q fuel listed a w
 |0,_,_,_,h=>h
 |fuel+1,_,_,_,h=>⟨h.1,fun i c=>wpOp_mono (fun a' w' b=>o2 fuel _ a' w' b.2) (h.2 i c)⟩
def rq(gX:Region.Mode)(ops:Array Oper)(h:Nat->Bool)(listed:Array Bool)(i:Nat):Prop:=
 ∀j a,ops[j]?=some a->listed.getD j true=false->h j=true∨∃e∈a.after,Region.binds gX e=true/\e.on=i
def DO(gX:Region.Mode)(ops:Array Oper)(h:Nat->Bool)(listed:Array Bool)(i:Nat):Bool:=
 (List.range ops.size).all fun j=>listed.getD j true||h j||(match ops[j]? with|some o=>o.after.any (fun e=>Region.binds gX e&&e.on==i)|none=>true)
theorem yY{i:Nat}{listed:Array Bool}(f:DO gX ops h listed i=true):rq gX ops h listed i:=fun j g c e=>by
 have a:=List.all_eq_true.1 f j (List.mem_range.2 (Array.getElem?_eq_some_iff.1 c).1);rw[c,e]at a;simp only[Bool.false_or,Bool.or_eq_true]at a;rcases a with a|a
 ·exact Or.inl a
 ·obtain⟨k,d,b⟩:=Array.any_eq_true.1 a
  simp only[Bool.and_eq_true,beq_iff_eq]at b;exact Or.inr ⟨_,Array.getElem_mem d,b⟩
theorem rq.set{i j:Nat}{listed:Array Bool}(d:rq gX ops h listed i):rq gX ops h (listed.setIfInBounds j true) i:=fun k ok c a=>by
 by_cases e:j=k
 ·subst e
  rcases Nat.lt_or_ge j listed.size with b|b
  ·simp[b]at a
  ·simp[Array.getElem?_eq_none,b]at a
 ·rw[getD_set_ne true e]at a
  exact d k ok c a
theorem C7{i j:Nat}{c:Oper}{listed:Array Bool}(n:i∈Region.ready gX ops listed)(k:j∈Region.ready gX ops listed)(l:ops[j]?=some c):∀e∈c.after,Region.binds gX e=true->e.on≠i:=fun e g hb heq=>by
 obtain⟨_,o,m,f⟩:=mem_ready.1 k;obtain rfl:o=c:=Option.some.inj (m.symm.trans l);have a:=f e g hb;have d:=(mem_ready.1 n).1;rw[heq]at a;rcases Nat.lt_or_ge i listed.size with b|b
 ·simp[b]at d a;rw[d]at a;cases a
 ·simp[Array.getElem?_eq_none b]at a
theorem rr{r:World->Prop}{i:Nat}{l:Oper}{v:Value}(u:ops[i]?=some l)(F:∀(j:Nat) (o:Oper) cs b,ops[j]?=some o->o.op≠ .select cs b)
 (K:∀c a w,Q (.panic c) (a.put l.dst v) w->Q (.panic c) a w) (B:∀w,r w->h i=true->S w):
 ∀(fuel:Nat) (listed:Array Bool) (a:Act) (w:World),
  (∀j d,ops[j]?=some d->listed.getD j true=false->(∀e∈d.after,Region.binds gX e=true->e.on≠i)->∀w',(h j=true->S w')->r w')->
  (∀j d,ops[j]?=some d->j≠i->listed.getD j true=false->(∀e∈d.after,Region.binds gX e=true->e.on≠i)->l.apart ops d=true)->
  i∈Region.ready gX ops listed->YieldsIf P ops r l v a->r w->
  eR P gX ops Q S h fuel (listed.setIfInBounds i true) (a.put l.dst v) w->eR P gX ops Q S h (fuel+1) listed a w:=by
 intro fuel
 induction fuel with
 |zero=>
  intro listed a w _ _ g t n m;refine⟨fun h=>(by rw[h]at g;cases g),fun j p=> ?_⟩;by_cases f:j=i
  ·subst f;exact t.wpOp u n ⟨B w n,m⟩
  ·have:=ready_mono p f
   rw[m.1]at this;cases this
 |succ fuel ih=>
  intro listed a w A C g t n m;refine⟨fun h=>(by rw[h]at g;cases g),fun j p=> ?_⟩;by_cases f:j=i
  ·subst f;exact t.wpOp u n ⟨B w n,m⟩
  ·have I:=m.2 j (ready_mono p f)
   obtain⟨x,d,q,M⟩:=mem_ready.1 p;have E:=C7 g p q;have J:=wpOp_putIf q (C j d q f x E) (fun cs b=>F i l cs b u) (fun cs b=>F j d cs b q) K t I;have H:∀k,(listed.setIfInBounds j true).getD k true=false->listed.getD k true=false:=fun k G=>by
    by_cases D:j=k
    ·subst D;exact x
    ·rw[getD_set_ne true D]at G;exact G
   refine wpOp_mono (fun a' w' s=>⟨s.2.1,ih (listed.setIfInBounds j true) a' w' (fun k ok y z=>A k ok y (H k z)) (fun k ok y L z=>C k ok y L (H k z)) (ready_mono g (Ne.symm f)) s.1 (A j d q x E w' s.2.1) ?_⟩) J;rw[Array.setIfInBounds_comm _ _ f];exact s.2.2
theorem wQ{i:Nat}{a:Oper}{rest:List Oper}(h:ops.toList.drop i=a::rest):ops[i]?=some a:=by
 rw[<-Array.getElem?_toList,<-Nat.add_zero i,<-List.getElem?_drop,h];rfl
def tG(P:Program)(ops:Array Oper)(S:World->Prop)(h:Nat->Bool):List Nat->(Act->Prop)->Act->Prop
 |[],K,a=>K a
 |i::L,K,a=>∃b r v,ops.toList.drop i=b::r/\YieldsIf P ops (if h i=true then S else fun _=>True) b v a/\tG P ops S h L K (a.put b.dst v)
def vj(gX:Region.Mode)(ops:Array Oper)(h:Nat->Bool):List Nat->Array Bool->Bool
 |[],_=>true
 |i::L,l=>Region.free gX ops l i&&(Region.ready gX ops l).contains i&&(!h i||DO gX ops h l i)&&vj gX ops h L (l.setIfInBounds i true)
theorem Gq{i:Nat}{L:List Nat}{K:Act->Prop}{a:Act}{b:Oper}{r:List Oper}{v:Value}(d:ops.toList.drop i=b::r)(e:YieldsIf P ops (if h i=true then S else fun _=>True) b v a)(c:tG P ops S h L K (a.put b.dst v)):tG P ops S h (i::L) K a:=⟨_,_,_,d,e,c⟩
theorem takeN{K:Act->Prop}{a:Act}(b:K a):tG P ops S h [] K a:=b
theorem Bk(p:Region.noSelect ops=true)(m:∀c a d v w,Q (.panic c) (Act.put a d v) w->Q (.panic c) a w){w:World}(n:S w)(f:Nat):∀(L:List Nat) (listed:Array Bool) (a:Act),vj gX ops h L listed=true->
 tG P ops S h L (fun a'=>eR P gX ops Q S h f (L.foldl (fun l i=>l.setIfInBounds i true) listed) a' w) a->eR P gX ops Q S h (f+L.length) listed a w
 |[],_,_,_,b=>b
 |i::L,listed,a,g,b=>by
  obtain⟨C,r,v,t,B,b⟩:=b;simp only[vj,Bool.and_eq_true,Bool.or_eq_true]at g;have o:=wQ t;refine @rr P gX ops Q S h (if h i=true then S else fun _=>True) i C v o (Region.noSelect_spec p) (fun c a w=>m c a _ _ w) (fun w z e=>by rwa [if_pos e]at z) (f+L.length) listed a w ?_ (Region.free_spec o g.1.1.1) (by simpa using g.1.1.2) B (by split;exact n;trivial) (Bk p m n f L _ _ g.2 b);intro j D s y u w' A;split
  ·rename_i e
   rcases g.1.2 with k|k
   ·rw[e]at k;cases k
   ·exact(yY k j D s y).elim A (fun⟨e,q,hb,x⟩=>absurd x (u e q hb))
  ·trivial
theorem Gs{b:List Nat}{fuel:Nat}{listed:Array Bool}{a:Act}{w:World}(c:Region.ready gX ops listed=b)(f:b≠[])
 (d:∀i∈b,wpOp P ops Q i (fun a' w'=>(h i=true->S w')/\eR P gX ops Q S h fuel (listed.setIfInBounds i true) a' w') a w):eR P gX ops Q S h (fuel+1) listed a w:=
 ⟨fun e=>absurd (c▸e) f,c▸d⟩
def GI(P:Program)(gX:Region.Mode)(ops:Array Oper)(Q:Exit->Act->World->Prop)(S:World->Prop)(h:Nat->Bool)(fuel:Nat)(listed:Array Bool)(a:Act)(w:World)(i:Nat)(b:Oper):Prop:=
 ∀K:Act->World->Prop,Shut (∀a w,S w->eR P gX ops Q S h fuel (listed.setIfInBounds i true) a w->K a w)->if Region.wanted b (yielded ops a.tmps)=true then Oper.wp P b a w K Q else K (a.put b.dst undef) w
theorem stepT{i:Nat}{b:Oper}{rest:List Oper}{fuel:Nat}{listed:Array Bool}{a:Act}{w:World}(g:ops.toList.drop i=b::rest)
 (c:GI P gX ops Q S h fuel listed a w i b):
 wpOp P ops Q i (fun a' w'=>(h i=true->S w')/\eR P gX ops Q S h fuel (listed.setIfInBounds i true) a' w') a w:=
 wpOp_step (wQ g) (fun K d=>c K (fun a w e f=>d a w ⟨fun _=>e,f⟩))
theorem vm{i:Nat}{b:Oper}{rest:List Oper}{fuel:Nat}{listed:Array Bool}{a:Act}{w:World}(f:Region.ready gX ops listed=[i])(e:ops.toList.drop i=b::rest)
 (c:GI P gX ops Q S h fuel listed a w i b):
 eR P gX ops Q S h (fuel+1) listed a w:=Gs f (by simp) (fun j d=>by
 obtain rfl:j=i:=by simpa using d
 exact stepT e c)
theorem Gu:∀(l:List Oper) (k:Nat) (listed:Array Bool) (a:Act) (w:World),(∀j,k<=j->h j=false)->(∀j,l[j]?=ops[k+j]?)->
 Region.seqB gX ops l.length k listed=true->wpList P ops Q l a w->eR P gX ops Q S h l.length listed a w
 |[],k,listed,a,w,_,_,b,h=>⟨by simpa[Region.seqB]using b,h⟩
 |o::l,k,listed,a,w,e,f,b,m=>by
  have p:ops[k]?=some o:=by simpa using (f 0).symm
  simp only[List.length_cons,Region.seqB,Bool.and_eq_true,decide_eq_true_eq]at b;refine⟨fun c=>(by rw[b.1]at c;cases c),fun i d=> ?_⟩;rw[b.1]at d;have q:i=k:=by simpa using d
  subst q;have r:wpOp P ops Q i (wpList P ops Q l) a w:=by unfold wpOp;simp only[p];exact m
  exact wpOp_mono (fun a' w' n=>⟨fun g=>(by rw[e i (Nat.le_refl i)]at g;cases g),Gu l (i+1) _ a' w' (fun j s=>e j (by omega)) (fun j=>by have:=f (j+1);simpa[Nat.add_assoc,Nat.add_comm 1 j]using this) b.2 n⟩) r
theorem Hk(k:Nat){l:List Oper}{f:Nat}{listed:Array Bool}{a:Act}{w:World}(g:ops.toList.drop k=l)(d:l.length=f)(e:∀j,k<=j->h j=false)(c:Region.seqB gX ops f k listed=true)(b:wpList P ops Q l a w):eR P gX ops Q S h f listed a w:=by
 subst d;exact Gu l k listed a w e (fun j=>by rw[<-g,List.getElem?_drop,Array.getElem?_toList]) c b
theorem C8{id:Nat}{a:Act}{w:World}(h:Nat->Bool)(S:World->Prop)(c:P.follows .mixedOrders=true)
 (b:eR P .any ops Q S h ops.size (Array.replicate ops.size false) a w.drew):(Code.region id ops true).wp P Q a w:=
 wp_region_any c (o2 _ _ _ _ b)
end
