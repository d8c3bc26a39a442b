import Derived.Test.YtfnilkpkogipfaaGreatDoorProg
import Derived.WalkKit
import Derived.WalkSpells
import Derived.WalkLawsBesides
import Derived.Lib.Hide
import Derived.IntWalk
import Derived.StillTailTactics
import Derived.BigQuiet
import Derived.Deep.QuietTactic
import Derived.Deep.DeepCutAuto
import Derived.Deep.CutBlock
import Derived.Deep.RegionHeld3
import Derived.Deep.RegionLaw
import Derived.Deep.AppendLies
import Derived.LaidEql
import Derived.Stop.Asserts
import Derived.RowKitTokens
import Derived.Maps.Keyed
set_option linter.all false
set_option maxRecDepth 100000
set_option maxHeartbeats 8000000
namespace Go.Proofs.YtfnilkpkogipfaaGreatDoor
open Go.RowKit Go.Proofs.Tryz
section
def aI(v:Int):Prop:=0<=v/\v<18446744073709551616
theorem aI.lo{v:Int}(h:aI v):0<=v:=h.1
theorem aI.hi{v:Int}(h:aI v):v<18446744073709551616:=h.2
structure Ch(D:Nat->Prop)(w w':World):Prop where
 os:w'.os=w.os
 tape:w'.tape=w.tape
 output:w'.output=w.output
 size:w.heap.size<=w'.heap.size
 same:∀b,b<w.heap.size->¬D b->w'.heap[b]?=w.heap[b]?
theorem Ch.refl(D:Nat->Prop)(w:World):Ch D w w:=⟨rfl,rfl,rfl,Nat.le_refl _,fun _ _ _=>rfl⟩
theorem Ch.trans{D:Nat->Prop}{a b c:World}(h:Ch D a b)(k:Ch D b c):Ch D a c:=
 ⟨k.os.trans h.os,k.tape.trans h.tape,k.output.trans h.output,Nat.le_trans h.size k.size,fun i e d=>(k.same i (Nat.lt_of_lt_of_le e h.size) d).trans (h.same i e d)⟩
theorem Ch.mono{D E:Nat->Prop}{a b:World}(h:Ch D a b)(c:∀i,D i->E i):Ch E a b:=
 ⟨h.os,h.tape,h.output,h.size,fun i e d=>h.same i e (fun k=>d (c i k))⟩
theorem Ch.drew{D:Nat->Prop}{a b:World}(h:Ch D a b):Ch D a b.drew:=⟨h.os,h.tape,h.output,h.size,h.same⟩
theorem Ch.drewN{D:Nat->Prop}{a b:World}(h:Ch D a b)(n:Nat):Ch D a (b.drewN n):=⟨h.os,h.tape,h.output,h.size,h.same⟩
theorem Ch.alloc{D:Nat->Prop}{a b:World}(h:Ch D a b)(e:Obj):Ch D a (b.alloc e):=
 ⟨h.os,h.tape,h.output,by simp;have:=h.size;omega,fun i c d=>by rw[Below.heap_alloc _ _ _ (Nat.lt_of_lt_of_le c h.size)];exact h.same i c d⟩
theorem Ch.set{D:Nat->Prop}{a b:World}(h:Ch D a b){p:Addr}(c:D p.block∨a.heap.size<=p.block)(u:Value):Ch D a (b.setCell p u):=
 ⟨h.os,h.tape,h.output,by simp;exact h.size,fun i f d=>by
  rw[Below.heap_setCell _ _ _ _ (fun e=>by subst e;rcases c with c|c;exact d c;omega)];exact h.same i f d⟩
theorem Ch.g5{D:Nat->Prop}{a b:World}(h:Ch D a b){p:Addr}(c:D p.block)(u:Value):Ch D a (b.setCell p u):=h.set (Or.inl c) u
theorem Ch.cell{D:Nat->Prop}{w w':World}(h:Ch D w w'){p:Addr}(c:p.block<w.heap.size)(a:¬D p.block):w'.cell? p=w.cell? p:=World.cell?_of_block (w:=w) (h.same p.block c a)
theorem Ch.frozen{D:Nat->Prop}{w w':World}(h:Ch D w w'){p:Addr}(c:p.block<w.heap.size)(a:¬D p.block):w'.frozen? p=w.frozen? p:=World.frozen?_of_block (w:=w) (h.same p.block c a)
theorem Ch.below{D:Nat->Prop}{w w':World}(h:Ch D w w'){B:Nat}(d:B<=w.heap.size)(a:∀b,D b->B<=b):Below B w w':=
 ⟨h.os,h.tape,h.output,h.size,fun k e=>h.same k (by omega) (fun c=>by have:=a k c;omega)⟩
theorem aP{w:World}{a:Addr}{v:Value}(h:w.cell? a=some v):a.block<w.heap.size:=World.block_lt_of_cell? _ _ h
theorem nb{w:World}{a:Addr}{v:Value}(h:w.cell? a=some v)(c:Obj):(w.alloc c).cell? a=some v:=by
 rw[World.cell?_alloc_lt _ _ _ (aP h)];exact h
def Row(w:World)(b:Nat)(t:TypeId)(l:List Value):Prop:=w.heap[b]?=some (.cells l.toArray t (0,0))
theorem Row.lt{w:World}{b:Nat}{t:TypeId}{l:List Value}(h:Row w b t l):b<w.heap.size:=(Array.getElem?_eq_some_iff.1 h).1
theorem Row.cell{w:World}{b:Nat}{t:TypeId}{l:List Value}(h:Row w b t l){i:Nat}{v:Value}(a:l[i]?=some v):w.cell? ⟨b,i,none⟩=some v:=by
 rw[cell_of_row w b i _ _ _ h];simpa using a
theorem Row.free{w:World}{b:Nat}{t:TypeId}{l:List Value}(h:Row w b t l)(i:Nat):w.frozen? ⟨b,i,none⟩=false:=by
 unfold Row at h;unfold World.frozen?;simp only[h];simp
theorem Row.ch{w w':World}{D:Nat->Prop}{b:Nat}{t:TypeId}{l:List Value}(h:Row w b t l)(c:Ch D w w')(a:¬D b):Row w' b t l:=by
 unfold Row;rw[c.same b h.lt a];exact h
theorem Row.drew{w:World}{b:Nat}{t:TypeId}{l:List Value}(h:Row w b t l):Row w.drew b t l:=h
theorem Row.drewN{w:World}{b:Nat}{t:TypeId}{l:List Value}(h:Row w b t l)(n:Nat):Row (w.drewN n) b t l:=h
theorem Row.alloc{w:World}{b:Nat}{t:TypeId}{l:List Value}(h:Row w b t l)(a:Obj):Row (w.alloc a) b t l:=by
 unfold Row;rw[Below.heap_alloc _ _ _ h.lt];exact h
theorem Row.other{w:World}{b:Nat}{t:TypeId}{l:List Value}(h:Row w b t l){p:Addr}(a:b≠p.block)(v:Value):Row (w.setCell p v) b t l:=by
 unfold Row;rw[Below.heap_setCell _ _ _ _ a];exact h
theorem Row.set{w:World}{b:Nat}{t:TypeId}{l:List Value}(h:Row w b t l)(i:Nat)(v:Value):Row (w.setCell ⟨b,i,none⟩ v) b t (l.set i v):=by
 unfold Row World.setCell;unfold Row at h;have hb:=(Array.getElem?_eq_some_iff.1 h).1;have a:=(Array.getElem?_eq_some_iff.1 h).2;rw[Array.getElem?_eq_some_iff];refine⟨by simpa using hb,?_⟩;rw[Array.getElem_modify_self,a];simp
theorem Row.bc{w:World}{b:Nat}{t:TypeId}{l l':List Value}(h:Row w b t l)(i:Nat)(v:Value)(a:l.set i v=l'):Row (w.setCell ⟨b,i,none⟩ v) b t l':=a▸h.set i v
theorem Row.new(w:World)(c:Array Value)(t:TypeId):Row (w.alloc (.cells c t (0,0))) w.heap.size t c.toList:=by
 unfold Row;simpa using heap_alloc_new w (.cells c t (0,0))
theorem Row.ne{w:World}{a b:Nat}{s t:TypeId}{l k:List Value}(h:Row w a s l)(c:Row w b t k)(f:s≠t):a≠b:=by
 intro e;subst e;unfold Row at h c;rw[h]at c;injection c with c;injection c with _ d _;exact f d
def eg(v:Value)(w:World)(e:Ending)(w':World):Prop:=e=.returned v/\w=w'
theorem eg.mk{v u:Value}{w:World}(h:v=u):eg v w (.returned u) w:=⟨by rw[h],rfl⟩
def ar(v:Value):Prop:=∃t x,v=.iface t x
theorem ar.mk(t:TypeId)(x:Value):ar (.iface t x):=⟨t,x,rfl⟩
theorem Z{p:Prop}(h:p):Hid p:=Lib.hid h
theorem nm{α:Sort _}(e:α):∃a,e=a:=⟨_,rfl⟩
theorem mn{α:Sort _}(e:α):∃a,a=e:=⟨_,rfl⟩
theorem Ch.k{w w':World}{a:Addr}{v:Value}(h:Ch (fun _=>False) w w')(r:w.cell? a=some v):w'.cell? a=some v:=(h.cell (aP r) id).trans r
theorem Ch.al{D:Nat->Prop}{w w':World}{a:Obj}(h:w.alloc a=w'):Ch D w w':=h▸(Ch.refl _ _).alloc _
theorem Ch.dN{D:Nat->Prop}{w w':World}{n:Nat}(h:w.drewN n=w'):Ch D w w':=h▸(Ch.refl _ _).drewN _
theorem Row.al{w w':World}{l:List Value}{t:TypeId}(h:w.alloc (.cells l.toArray t)=w'):Row w' w.heap.size t l:=h▸Row.new w _ _
section
variable{w:World}{b:Nat}{t:TypeId}{l:List Value}
theorem Row.k(h:Row w b t l)(i:Nat){v:Value}(a:l[i]?=some v):w.cell? ⟨b,i,none⟩=some v:=h.cell a
variable{x0 x1 x2 x3 x4 x5 x6 x7 x8 x9 y0:Value}
theorem Row.c1(h:Row w b t (x0::l)):w.cell? ⟨b,0,none⟩=some x0:=h.cell rfl
theorem Row.c2(h:Row w b t (x0::x1::l)):w.cell? ⟨b,0,none⟩=some x0/\w.cell? ⟨b,1,none⟩=some x1:=⟨h.cell rfl,h.cell rfl⟩
theorem Row.c3(h:Row w b t (x0::x1::x2::l)):w.cell? ⟨b,0,none⟩=some x0/\w.cell? ⟨b,1,none⟩=some x1/\w.cell? ⟨b,2,none⟩=some x2:=⟨h.cell rfl,h.cell rfl,h.cell rfl⟩
theorem Row.c4(h:Row w b t (x0::x1::x2::x3::l)):w.cell? ⟨b,0,none⟩=some x0/\w.cell? ⟨b,1,none⟩=some x1/\w.cell? ⟨b,2,none⟩=some x2/\w.cell? ⟨b,3,none⟩=some x3:=⟨h.cell rfl,h.cell rfl,h.cell rfl,h.cell rfl⟩
theorem Row.c7(h:Row w b t (x0::x1::x2::x3::x4::x5::x6::l)):w.cell? ⟨b,0,none⟩=some x0/\w.cell? ⟨b,1,none⟩=some x1/\w.cell? ⟨b,2,none⟩=some x2/\w.cell? ⟨b,3,none⟩=some x3/\w.cell? ⟨b,4,none⟩=some x4/\w.cell? ⟨b,5,none⟩=some x5/\w.cell? ⟨b,6,none⟩=some x6:=⟨h.cell rfl,h.cell rfl,h.cell rfl,h.cell rfl,h.cell rfl,h.cell rfl,h.cell rfl⟩
theorem Row.Bl(h:Row w b t (x0::x1::x2::x3::x4::x5::x6::x7::x8::x9::y0::l)):w.cell? ⟨b,0,none⟩=some x0/\w.cell? ⟨b,1,none⟩=some x1/\w.cell? ⟨b,2,none⟩=some x2/\w.cell? ⟨b,3,none⟩=some x3/\w.cell? ⟨b,4,none⟩=some x4/\w.cell? ⟨b,5,none⟩=some x5/\w.cell? ⟨b,6,none⟩=some x6/\w.cell? ⟨b,7,none⟩=some x7/\w.cell? ⟨b,8,none⟩=some x8/\w.cell? ⟨b,9,none⟩=some x9/\w.cell? ⟨b,10,none⟩=some y0:=⟨h.cell rfl,h.cell rfl,h.cell rfl,h.cell rfl,h.cell rfl,h.cell rfl,h.cell rfl,h.cell rfl,h.cell rfl,h.cell rfl,h.cell rfl⟩
end
instance(b k:Nat):CoeDep (Nat×Nat) (b,k) Addr:=⟨⟨b,k,none⟩⟩
instance(b k:Nat):CoeDep (Nat×Nat) (b,k) Value:=⟨.pointer (some ⟨b,k,none⟩)⟩
instance:CoeTail Int Value:=⟨.int .i64⟩
end
def gi(width v:Int):Int:=if width=32 then bits .and .u64 v 4294967295 else if width=64 then v else 0
theorem cx(v:Int):aI (IntKind.u64.wrap v):=by
 unfold aI IntKind.wrap IntKind.bits IntKind.signed;simp;omega
theorem iX(c:BinOp)(a b:Int):aI (bits c .u64 a b):=by
 unfold bits;split<;>exact cx _
theorem iq(n v:Int)(h:aI v):aI (gi n v):=by
 unfold gi;split
 ·exact iX _ _ _
 ·split
  ·exact h
  ·exact⟨by omega,by omega⟩
theorem ku(n v:Int)(w:World):Calls prog 122 #[n,.int .u64 v] w (eg (.int .u64 (gi n v)) w):=by
 by_cases a:n=32
 ·subst a
  go_wp2
  go_ret;exact eg.mk rfl
 ·by_cases b:n=64
  ·subst b
   go_wp2
   go_ret;exact eg.mk rfl
  ·have c:(n==32)=false:=by simpa using a
   have d:(n==64)=false:=(by simpa using b);have E:Hid (gi n v=0):=(by unfold gi;rw[if_neg a,if_neg b];rfl);go_wp2
   go_ret;exact eg.mk (by rw[E];rfl)
def rr(n a b:Int):Int:=gi n (IntKind.u64.wrap (gi n a+gi n b))
def yU(n a b:Int):Int:=gi n (IntKind.u64.wrap (gi n a-gi n b))
theorem mY(n a b:Int):aI (rr n a b):=iq _ _ (cx _)
theorem yV(n a b:Int):aI (yU n a b):=iq _ _ (cx _)
theorem qa(n a b:Int)(w:World):Calls prog 117 #[n,.int .u64 a,.int .u64 b] w (eg (.int .u64 (rr n a b)) w):=by
 go_in
 go_wp2_with (go_at_call 122;refine(ku _ _ _).mono ?_;rintro e w' ⟨rfl,rfl⟩)
 go_ret;exact eg.mk rfl
theorem yW(n a b:Int)(w:World):Calls prog 118 #[n,.int .u64 a,.int .u64 b] w (eg (.int .u64 (yU n a b)) w):=by
 go_in
 go_wp2_with (go_at_call 122;refine(ku _ _ _).mono ?_;rintro e w' ⟨rfl,rfl⟩)
 go_ret;exact eg.mk rfl
def rs(a b:Int):Bool:=bits .and .u64 a b !=0
theorem ru(a b:Int)(w:World):Calls prog 211 #[.int .u64 a,.int .u64 b] w (eg (.bool (rs a b)) w):=by
 go_wp2
 go_ret;exact eg.mk rfl
def bg(a n:Int):Int:=IntKind.u64.wrap (a*11400714819323198485)/4294967296%n
theorem lB(a:Int)(n:Nat)(h:1<=n):0<=bg a n/\bg a n<n:=by
 unfold bg;exact⟨Int.emod_nonneg _ (by omega),Int.emod_lt_of_pos _ (by omega)⟩
theorem bucket_eq(a:Int)(n:Nat)(h:1<=n)(b:n<=64):wrap64 ((IntKind.u64.wrap (a*11400714819323198485)/4294967296).tmod n)=bg a n:=by
 have c:=(cx (a*11400714819323198485)).lo;have hb:=lB a n h;unfold bg at hb⊢;rw[Int.tmod_eq_emod_of_nonneg (by omega)];exact IntWalk.wrap64_in _ (by omega)
theorem nc(a:Int)(n:Nat)(h:1<=n)(b:n<=64)(w:World):Calls prog 149 #[.int .u64 a,.int .i64 n] w (eg (.int .i64 (bg a n)) w):=by
 have E:=Z (bucket_eq a n h b);go_wp2
 go_ret;refine eg.mk ?_;rw[<-E];rfl
def ag:Nat->Prop:=fun _=>False
def aL(g:Nat):Nat->Prop:=fun i=>i=g
def dp(g k:Nat):Nat->Prop:=fun i=>i=g∨i=k
theorem Ch.only{g:Nat}{a b:World}(h:Ch (aL g) a b)(c:Nat)(v:Value):Ch (aL g) a (b.setCell (g,c) v):=h.g5 (p:=⟨g,c,none⟩) (show g=g from rfl) v
theorem Ch.hr{g k:Nat}{a b:World}(h:Ch (dp g k) a b)(c:Nat)(v:Value):Ch (dp g k) a (b.setCell (g,c) v):=h.g5 (p:=⟨g,c,none⟩) (show g=g∨g=k from Or.inl rfl) v
theorem Ch.jX{g k:Nat}{a b:World}(h:Ch (dp g k) a b)(c:Nat)(v:Value):Ch (dp g k) a (b.setCell (k,c) v):=h.g5 (p:=⟨k,c,none⟩) (show k=g∨k=k from Or.inr rfl) v
theorem Ch.af{D:Nat->Prop}{a b:World}(h:Ch ag a b):Ch D a b:=h.mono (fun _ c=>c.elim)
def dc(v:Value)(w:World)(e:Ending)(w':World):Prop:=e=.returned v/\Ch ag w w'
theorem dc.mk{v u:Value}{w w':World}(h:v=u)(c:Ch ag w w'):dc v w (.returned u) w':=⟨by rw[h],c⟩
theorem Ch.b4{w w':World}(h:Below w.heap.size w w'):Ch ag w w':=⟨h.os,h.tape,h.output,h.size,fun b hb _=>h.block b hb⟩
theorem Ch.hR{w w':World}(h:Ch ag w w'):Below w.heap.size w w':=h.below (Nat.le_refl _) (fun _ hb=>hb.elim)
def kx(b:Bool)(w:World)(e:Ending)(w':World):Prop:=e=.returned (.bool b)/\w=w'
theorem kx.mk{b c:Bool}{w:World}(h:b=c):kx b w (.returned (.bool c)) w:=⟨by rw[h],rfl⟩
structure aR where
 op:Int
 a:Int
 b:Int
 c:Int
 v:Int
 m:Int
 wh:Int
 deriving DecidableEq,Repr,Inhabited
def aG(X:aR):Array Value:=#[X.op,X.a,X.b,X.c,.int .u64 X.v,X.m,X.wh]
def aK(X:aR):Value:=.agg (aG X)
def b2(l:List aR):List Value:=l.flatMap fun X=>(aG X).toList
theorem ky(X:aR)(l:List aR):b2 (X::l)=(aG X).toList++b2 l:=rfl
theorem iY(l:List aR):(b2 l).length=7*l.length:=by
 induction l with
 |nil=>rfl
 |cons x l ih=>rw[ky,List.length_append,ih,List.length_cons];show 7+_=_;omega
theorem eR:∀(l:List aR) (a:Nat) (X:aR),l[a]?=some X->(b2 l)[a*7]?=some (.int .i64 X.op)/\(b2 l)[a*7+1]?=some (.int .i64 X.a)/\(b2 l)[a*7+2]?=some (.int .i64 X.b)/\(b2 l)[a*7+3]?=some (.int .i64 X.c)/\(b2 l)[a*7+4]?=some (.int .u64 X.v)/\(b2 l)[a*7+5]?=some (.int .i64 X.m)/\(b2 l)[a*7+6]?=some (.int .i64 X.wh)
 |[],a,X,h=>by simp at h
 |Y::l,0,X,h=>by
  have:Y=X:=by simpa using h
  subst this;exact⟨rfl,rfl,rfl,rfl,rfl,rfl,rfl⟩
 |Y::l,a+1,X,h=>by
  obtain⟨b,c,d,f,g,i,j⟩:=eR l a X (by simpa using h);have e:(aG Y).toList.length=7:=rfl;rw[ky];refine⟨?_,?_,?_,?_,?_,?_,?_⟩<;>rw[List.getElem?_append_right (by rw[e];omega),e]
  ·rw[show(a+1)*7-7=a*7 from by omega];exact b
  ·rw[show(a+1)*7+1-7=a*7+1 from by omega];exact c
  ·rw[show(a+1)*7+2-7=a*7+2 from by omega];exact d
  ·rw[show(a+1)*7+3-7=a*7+3 from by omega];exact f
  ·rw[show(a+1)*7+4-7=a*7+4 from by omega];exact g
  ·rw[show(a+1)*7+5-7=a*7+5 from by omega];exact i
  ·rw[show(a+1)*7+6-7=a*7+6 from by omega];exact j
structure fo(w:World)(g:Nat)(l:List aR):Prop where
 lt:g<w.heap.size
 cell:∀j u,(b2 l)[j]?=some u->w.cell? ⟨g,j,none⟩=some u
theorem fa{B g i:Nat}{w w':World}(h:Below B w w')(a:g<B):w'.cell? (g,i)=w.cell? (g,i):=by
 unfold World.cell?;simp only[h.block g a]
theorem fo.below{w w':World}{g:Nat}{l:List aR}(h:fo w g l)(hb:Below w.heap.size w w'):fo w' g l:=
 ⟨Nat.lt_of_lt_of_le h.lt hb.size,fun j u a=>(fa hb h.lt).trans (h.cell j u a)⟩
theorem fo.ch{w w':World}{D:Nat->Prop}{g:Nat}{l:List aR}(h:fo w g l)(c:Ch D w w')(a:¬D g):fo w' g l:=
 ⟨Nat.lt_of_lt_of_le h.lt c.size,fun j u b=>(c.cell (p:=⟨g,j,none⟩) h.lt a).trans (h.cell j u b)⟩
theorem hK{w:World}{a:Obj}:(w.alloc a).heap[w.heap.size]?=some a:=heap_alloc_new w a
theorem b5{P:Program}{f:FuncId}{args:Array Value}{w:World}{v:Value}(h:Calls P f args w (eg v w)):Calls P f args w (fun e w'=>e=.returned v/\w'=w):=
 h.mono fun _ _ ⟨a,b⟩=>⟨a,b.symm⟩
section
section
variable{α:Type}{enc:α->List Value}{k:Nat}
theorem a4(a:∀x,(enc x).length=k):∀(l:List α),(l.flatMap enc).length=l.length*k
 |[]=>by simp
 |x::l=>by rw[List.flatMap_cons,List.length_append,a,a4 a l,List.length_cons,Nat.succ_mul];omega
theorem bD(a:∀x,(enc x).length=k):∀{l:List α} {i:Nat} {x:α} {j:Nat},l[i]?=some x->j<k->(l.flatMap enc)[i*k+j]?=(enc x)[j]?
 |[],i,x,j,h,_=>by simp at h
 |y::l,0,x,j,h,b=>by
  have:y=x:=by simpa using h
  subst this;rw[List.flatMap_cons,Nat.zero_mul,Nat.zero_add,List.getElem?_append_left (by rw[a];exact b)]
 |y::l,i+1,x,j,h,b=>by
  have e:(i+1)*k=i*k+k:=Nat.succ_mul i k;rw[List.flatMap_cons,List.getElem?_append_right (by rw[a,e];omega),a,show(i+1)*k+j-k=i*k+j from by rw[e];omega];exact bD a (by simpa using h) b
theorem fp(a:∀x,(enc x).length=k):∀{l:List α} {i:Nat} {x y:α} {j:Nat} {v:Value},l[i]?=some x->j<k->(enc x).set j v=enc y->(l.flatMap enc).set (i*k+j) v=(l.set i y).flatMap enc
 |[],i,x,y,j,v,h,_,_=>by simp at h
 |z::l,0,x,y,j,v,h,c,b=>by
  have:z=x:=by simpa using h
  subst this;rw[List.flatMap_cons,Nat.zero_mul,Nat.zero_add,List.set_append_left _ _ (by rw[a];exact c),b];simp
 |z::l,i+1,x,y,j,v,h,c,b=>by
  have e:(i+1)*k=i*k+k:=Nat.succ_mul i k;rw[List.flatMap_cons,List.set_append_right _ _ (by rw[a,e];omega),a,show(i+1)*k+j-k=i*k+j from by rw[e];omega,fp a (by simpa using h) c b];simp
end
theorem Row.at{α:Type}{enc:α->List Value}{k:Nat}{w:World}{b:Nat}{t:TypeId}{l:List α}(h:Row w b t (l.flatMap enc))(c:∀x,(enc x).length=k){i:Nat}{x:α}(e:l[i]?=some x){j:Nat}{v:Value}(a:j<k)(d:(enc x)[j]?=some v):w.cell? (b,i*k+j)=some v:=
 h.cell ((bD c e a).trans d)
theorem Row.put{α:Type}{enc:α->List Value}{k:Nat}{w:World}{b:Nat}{t:TypeId}{l:List α}(h:Row w b t (l.flatMap enc))(c:∀x,(enc x).length=k){i:Nat}{x y:α}(e:l[i]?=some x){j:Nat}{v:Value}(a:j<k)(d:(enc x).set j v=enc y):Row (w.setCell (b,i*k+j) v) b t ((l.set i y).flatMap enc):=
 h.bc _ _ (fp c e a d)
end
def e5(op:Int):Bool×Bool×Bool×Bool:=
 if op=3∨op=4∨op=5∨op=6∨op=7∨op=8∨op=9∨op=10∨op=11∨op=21∨op=32 then(true,true,true,true)
 else if op=24∨op=25∨op=26∨op=27∨op=48 then(true,true,true,false)
 else if op=2∨op=23∨op=49∨op=50∨op=47∨op=39∨op=54 then(true,true,false,false)
 else if op=17∨op=18∨op=19∨op=20∨op=31∨op=43∨op=45 then(true,true,false,true)
 else if op=1∨op=13∨op=14 then(true,false,false,true)
 else if op=12∨op=15∨op=22 then(false,false,false,true)
 else if op=28∨op=29∨op=30∨op=34∨op=35∨op=36∨op=37∨op=38∨op=40∨op=41∨op=42∨op=44∨op=46∨op=51∨op=52∨op=53∨op=57 then(true,false,false,false)
 else(false,false,false,false)
def Bq(p:Bool×Bool×Bool×Bool)(w:World)(e:Ending)(w':World):Prop:=
 e=.returned (.tuple #[.bool p.1,.bool p.2.1,.bool p.2.2.1,.bool p.2.2.2])/\w=w'
theorem Bq.mk{p:Bool×Bool×Bool×Bool}{a b c d:Bool}{w:World}(h:p=(a,b,c,d)):Bq p w (.returned (.tuple #[.bool a,.bool b,.bool c,.bool d])) w:=by subst h;exact⟨rfl,rfl⟩
theorem ds{a:Func}{t u r s:Tmp}(h:a.results=#[.tmp t,.tmp u,.tmp r,.tmp s])(tmps:Array Value)(P:Program)(w:World):
 (results a tmps).run P w=.ok (.tuple #[tmps.getD t undef,tmps.getD u undef,tmps.getD r undef,tmps.getD s undef]) w:=by
 simp[results,h]
set_option maxRecDepth 100000
theorem nk(op:Int)(w:World):Calls prog 175 #[op] w (Bq (e5 op) w):=by
 go_wp2
 all_goals
  refine bodyPost_ret (ds rfl _ _ _) rfl (Bq.mk ?_);simp only[beq_iff_eq,beq_eq_false_iff_ne,ne_eq]at*;unfold e5
  repeat first
   |rfl
   |rw[if_pos (by omega)]
   |rw[if_neg (by omega)]
def fq(n:Int)(used less:Bool):Bool:=if used then decide (0<=n/\n<32)||(less&&decide (n=-1))else decide (n=0)
theorem nl(n:Int)(used less:Bool)(w:World):Calls prog 176 #[n,.bool used,.bool less] w (kx (fq n used less) w):=by
 have e:(0<=n/\n<32)∨(0<=n/\¬n<32)∨(¬0<=n/\n≠-1)∨(¬0<=n/\n=-1):=by omega
 cases used
 ·by_cases d:n=0
  ·subst d
   go_wp2
   go_ret;exact kx.mk rfl
  ·have hb:(n==0)=false:=by rw[beq_eq_false_iff_ne];exact d
   have c:Hid (fq n false less=false):=(by show _=_;unfold fq;simp[d]);clear d;go_wp2
   go_ret;exact kx.mk c
 ·rcases e with⟨a,b⟩|⟨a,b⟩|⟨a,b⟩|⟨a,b⟩
  ·have c:Hid (fq n true less=true):=by show _=_;unfold fq;simp[a,b]
   go_wp2
   go_ret;exact kx.mk c
  ·have c:Hid (fq n true less=false):=by show _=_;unfold fq;simp[b];omega
   have hb:(n==-1)=false:=(by rw[beq_eq_false_iff_ne];omega);cases less
   all_goals
    go_wp2
    go_ret;exact kx.mk c
  ·have c:Hid (fq n true less=false):=by show _=_;unfold fq;simp[a,b]
   have hb:(n==-1)=false:=(by rw[beq_eq_false_iff_ne];exact b);clear b;cases less
   all_goals
    go_wp2
    go_ret;exact kx.mk c
  ·subst b
   cases less
   all_goals
    go_wp2
    go_ret;exact kx.mk rfl
def ry(X:aR)(used:Bool)(n:Int):Bool:=
 if X.op=12∨X.op=13∨X.op=14∨X.op=15 then decide (X.v<n)
 else if X.op=22 then decide (X.v<1000)
 else if X.op=3∨X.op=4∨X.op=5∨X.op=6∨X.op=7∨X.op=8∨X.op=9∨X.op=10∨X.op=11 then decide (X.c=-1)||decide (X.v=0)
 else if X.op=43 then decide (X.b=-1)||decide (X.v=0)
 else used||decide (X.v=0)
def dY(b:Bool)(w:World)(e:Ending)(w':World):Prop:=e=.returned (.bool b)/\Below w.heap.size w w'
theorem dY.mk{b c:Bool}{w w':World}(h:b=c)(hb:Below w.heap.size w w'):dY b w (.returned (.bool c)) w':=⟨by rw[h],hb⟩
theorem yX(X:aR)(used:Bool)(n:Nat)(a:n<=1000000)(w:World):Calls prog 177 #[aK X,.bool used,.int .i64 n] w (dY (ry X used n) w):=by
 unfold aK aG;go_wp2
 all_goals
  go_ret;refine dY.mk ?_ ((Below.refl _ _).alloc (Nat.le_refl _) _);simp only[beq_iff_eq,beq_eq_false_iff_ne,ne_eq]at*;unfold ry
  repeat first
   |rfl
   |rw[if_pos (by omega)]
   |rw[if_neg (by omega)]
  try first
   |(simp[*];done)
   |(cases used
     ·rfl
     ·simp at*)
def nn(op:Int):Bool:=decide (op=17∨op=18∨op=19∨op=20∨op=21∨op=31∨op=32∨op=43)
def mh(op:Int):Bool:=decide (op=3∨op=4∨op=5∨op=6∨op=7∨op=8∨op=9∨op=10∨op=11)
def mi(X:aR)(a:Bool):Bool:=decide (1<=X.op/\X.op<=58)&&(if a then decide (X.op≠22)else decide (X.op<=22/\X.m=0))
def j7(X:aR)(n:Int):Bool:=fq X.a (e5 X.op).1 false&&fq X.b (e5 X.op).2.1 (nn X.op)&&fq X.c (e5 X.op).2.2.1 (mh X.op)&&ry X (e5 X.op).2.2.2 n
def gI(X:aR):Bool:=decide (0<=X.m/\X.m<=99/\0<=X.wh/\X.wh<=2)&&(decide (X.wh=0)||(decide (0<X.m)&&(e5 X.op).1))
def eB(X:aR)(n:Int)(a:Bool):Bool:=mi X a&&j7 X n&&gI X
theorem Br(X:aR)(n:Nat)(d:Bool)(w:World)(h:mi X d=false):Calls prog 148 #[aK X,.int .i64 n,.bool d] w (dY (eB X n d) w):=by
 have f:Hid (eB X n d=false):=by show _=_;unfold eB;rw[h];rfl
 unfold aK aG;unfold mi at h;have l:X.op<1∨(¬X.op<1/\58<X.op)∨(¬X.op<1/\¬58<X.op/\d=true/\X.op=22)∨(¬X.op<1/\¬58<X.op/\d=false/\22<X.op)∨(¬X.op<1/\¬58<X.op/\d=false/\¬22<X.op/\X.m≠0):=by
  by_cases k1:X.op<1
  ·exact Or.inl k1
  by_cases k2:58<X.op
  ·exact Or.inr (Or.inl ⟨k1,k2⟩)
  have k3:decide (1<=X.op/\X.op<=58)=true:=decide_eq_true (by omega);rw[k3,Bool.true_and]at h;cases d
  ·have i:=of_decide_eq_false (show decide (X.op<=22/\X.m=0)=false from h)
   by_cases j:22<X.op
   ·exact Or.inr (Or.inr (Or.inr (Or.inl ⟨k1,k2,rfl,j⟩)))
   ·exact Or.inr (Or.inr (Or.inr (Or.inr ⟨k1,k2,rfl,j,fun e=>i ⟨by omega,e⟩⟩)))
  ·have i:=of_decide_eq_false (show decide (X.op≠22)=false from h)
   exact Or.inr (Or.inr (Or.inl ⟨k1,k2,rfl,by omega⟩))
 clear h;rcases l with a|⟨a,b⟩|⟨a,b,rfl,c⟩|⟨a,b,rfl,c⟩|⟨a,b,rfl,c,g⟩
 ·go_in
  go_wp2
  go_ret;exact dY.mk f ((Below.refl _ _).alloc (Nat.le_refl _) _)
 ·go_in
  go_wp2
  go_ret;exact dY.mk f ((Below.refl _ _).alloc (Nat.le_refl _) _)
 ·have k:(X.op==22)=true:=by rw[beq_iff_eq];exact c
  clear c;go_wp2
  go_ret;exact dY.mk f ((Below.refl _ _).alloc (Nat.le_refl _) _)
 ·go_in
  go_wp2
  go_ret;exact dY.mk f ((Below.refl _ _).alloc (Nat.le_refl _) _)
 ·have k:(X.m !=0)=true:=by rw[bne_iff_ne];exact g
  clear g;go_wp2
  go_ret;exact dY.mk f ((Below.refl _ _).alloc (Nat.le_refl _) _)
def DK(X:aR)(b c:Value):Prop:=b=.bool (nn X.op)/\c=.bool (mh X.op)
theorem yY(X:aR)(n:Nat)(M:n<=1000000)(j:Bool)(w:World)(h:mi X j=true):Calls prog 148 #[aK X,.int .i64 n,.bool j] w (dY (eB X n j) w):=by
 have E:Hid (eB X n j=(j7 X n&&gI X)):=by show _=_;unfold eB;rw[h];rfl
 have O:Hid (aK X=.agg (aG X)):=rfl;unfold aK aG;unfold mi at h;rw[Bool.and_eq_true,decide_eq_true_eq]at h;obtain⟨⟨a,b⟩,c⟩:=h;have P:¬X.op<1:=by omega
 have Q:¬58<X.op:=by omega
 have L:(j=true/\(X.op==22)=false)∨(j=false/\¬22<X.op/\(X.m !=0)=false):=by
  cases j
  ·right
   have u:=of_decide_eq_true (show decide (X.op<=22/\X.m=0)=true from c);exact⟨rfl,by omega,by rw[bne_eq_false_iff_eq];exact u.2⟩
  ·left
   have u:=of_decide_eq_true (show decide (X.op≠22)=true from c);exact⟨rfl,by rw[beq_eq_false_iff_ne];exact u⟩
 clear c;obtain⟨m,fb,q,r,hF⟩:∃m fb q r,e5 X.op=(m,fb,q,r):=⟨_,_,_,_,rfl⟩;have t:=Z hF;clear hF;obtain⟨A,v⟩:=nm (fq X.a m false);obtain⟨B,x⟩:=nm (fq X.b fb (nn X.op));obtain⟨C,y⟩:=nm (fq X.c q (mh X.op));obtain⟨D,z⟩:=nm (ry X r n);have H:Hid (∀w,Calls prog 176 #[X.a,.bool m,.bool false] w (kx A w)):=fun w=>v▸nl X.a m false w
 have I:Hid (∀w,Calls prog 176 #[X.b,.bool fb,.bool (nn X.op)] w (kx B w)):=fun w=>x▸nl X.b fb _ w
 have J:Hid (∀w,Calls prog 176 #[X.c,.bool q,.bool (mh X.op)] w (kx C w)):=fun w=>y▸nl X.c q _ w
 have K:Hid (∀w,Calls prog 177 #[.agg (aG X),.bool r,.int .i64 n] w (dY D w)):=fun w=>z▸yX X r n M w
 have d:Hid (eB X n j=(A&&B&&C&&D&&gI X)):=by
  show _=_;rw[E];unfold j7;rw[t];dsimp only;rw[v,x,y,z]
 clear v x y z E;have F:(¬0<=X.m/\gI X=false)∨(0<=X.m/\¬X.m<=99/\gI X=false)∨(0<=X.m/\X.m<=99/\¬0<=X.wh/\gI X=false)∨(0<=X.m/\X.m<=99/\0<=X.wh/\¬X.wh<=2/\gI X=false)∨
  (0<=X.m/\X.m<=99/\0<=X.wh/\X.wh<=2/\(X.wh==0)=true/\gI X=true)∨(0<=X.m/\X.m<=99/\0<=X.wh/\X.wh<=2/\(X.wh==0)=false/\¬0<X.m/\gI X=false)∨(0<=X.m/\X.m<=99/\0<=X.wh/\X.wh<=2/\(X.wh==0)=false/\0<X.m/\gI X=m):=by
  have e:gI X=(decide (0<=X.m/\X.m<=99/\0<=X.wh/\X.wh<=2)&&(decide (X.wh=0)||(decide (0<X.m)&&m))):=by unfold gI;rw[t]
  rw[e];by_cases k1:0<=X.m
  ·by_cases k2:X.m<=99
   ·by_cases k3:0<=X.wh
    ·by_cases f:X.wh<=2
     ·by_cases g:X.wh=0
      ·right;right;right;right;left;exact⟨k1,k2,k3,f,by rw[beq_iff_eq];exact g,by simp[k1,k2,g]⟩
      ·by_cases o:0<X.m
       ·right;right;right;right;right;right;exact⟨k1,k2,k3,f,by rw[beq_eq_false_iff_ne];exact g,o,by simp[k1,k2,k3,f,g,o]⟩
       ·right;right;right;right;right;left;exact⟨k1,k2,k3,f,by rw[beq_eq_false_iff_ne];exact g,o,by simp[g,o]⟩
     ·right;right;right;left;exact⟨k1,k2,k3,f,by simp[f]⟩
    ·right;right;left;exact⟨k1,k2,k3,by simp[k3]⟩
   ·right;left;exact⟨k1,k2,by simp[k2]⟩
  ·left;exact⟨k1,by simp[k1]⟩
 have G:=Z F;clear F;rcases L with⟨rfl,c⟩|⟨rfl,c,R⟩
 all_goals
  go_in
  go_upto_block 0 with(go_at_call 175;refine(nk _ _).mono ?_;rintro e w' ⟨rfl,rfl⟩;rw[t])
  go_cut [11,12] (fun b c N=>DK X b c/\N=w.alloc (.cells #[X.op,X.a,X.b,X.c,.int .u64 X.v,X.m,X.wh] 121))
  case first=>
   go_wp2
   all_goals
    go_meet
    refine⟨⟨?_,?_⟩,rfl⟩
    ·simp only[beq_iff_eq,beq_eq_false_iff_ne,ne_eq]at*
     unfold nn
     first|rw[decide_eq_true (by omega)]|rw[decide_eq_false (by omega)]
    ·simp only[beq_iff_eq,beq_eq_false_iff_ne,ne_eq]at*
     unfold mh
     first|rw[decide_eq_true (by omega)]|rw[decide_eq_false (by omega)]
  case rest=>
   obtain⟨⟨rfl,rfl⟩,rfl⟩:=hcut;have p:Hid (Below w.heap.size w (w.alloc (.cells #[X.op,X.a,X.b,X.c,.int .u64 X.v,X.m,X.wh] 121))):=(Below.refl _ _).alloc (Nat.le_refl _) _;go_wp2_with fail
   refine(H _).mono ?_;rintro e w' ⟨rfl,rfl⟩;cases A
   ·go_wp2
    go_ret;exact dY.mk (by rw[d];rfl) p
   go_wp2_with fail
   refine(I _).mono ?_;rintro e w' ⟨rfl,rfl⟩;cases B
   ·go_wp2
    go_ret;exact dY.mk (by rw[d];rfl) p
   go_wp2_with fail
   refine(J _).mono ?_;rintro e w' ⟨rfl,rfl⟩;cases C
   ·go_wp2
    go_ret;exact dY.mk (by rw[d];rfl) p
   go_wp2_with fail
   refine(K _).mono ?_;rintro e w2 ⟨rfl,s⟩;have i:Hid (Below w.heap.size w w2):=p.trans (s.mono p.size);have S:w2.cell? ⟨w.heap.size,5,none⟩=some (.int .i64 X.m):=(fa s (by simp)).trans (by simp);have T:w2.cell? ⟨w.heap.size,6,none⟩=some (.int .i64 X.wh):=(fa s (by simp)).trans (by simp);have U:w.heap.size<w2.heap.size:=(by have:=s.size;simp at this;omega);clear s;cases D
   ·go_wp2
    go_ret;exact dY.mk (by rw[d];rfl) i
   rcases G with⟨k1,k⟩|⟨k1,k2,k⟩|⟨k1,k2,k3,k⟩|⟨k1,k2,k3,f,k⟩|⟨k1,k2,k3,f,g,k⟩|⟨k1,k2,k3,f,g,o,k⟩|⟨k1,k2,k3,f,g,o,k⟩
   all_goals
    have l:=Z k;clear k
   ·go_wp2
    go_ret;exact dY.mk (by rw[d,l];rfl) i
   ·go_wp2
    go_ret;exact dY.mk (by rw[d,l];rfl) i
   ·go_wp2
    go_ret;exact dY.mk (by rw[d,l];rfl) i
   ·go_wp2
    go_ret;exact dY.mk (by rw[d,l];rfl) i
   ·go_wp2
    go_ret;exact dY.mk (by rw[d,l];rfl) i
   ·go_wp2
    go_ret;exact dY.mk (by rw[d,l];rfl) i
   ·go_wp2
    go_ret;exact dY.mk (by rw[d,l];rfl) i
theorem Bs(X:aR)(n:Nat)(b:n<=1000000)(a:Bool)(w:World):Calls prog 148 #[aK X,.int .i64 n,.bool a] w (dY (eB X n a) w):=by
 cases h:mi X a
 ·exact Br X n a w h
 ·exact yY X n b a w h
theorem bo(n:Int)(t:TypeId)(x:Value)(w:World):
 Calls prog 88 #[n,.iface t x] w fun e w'=>
  e=.returned (.iface 197 (.pointer (some (w.heap.size,0))))/\w.alloc (.cells #[.string ⟨#[99,111,100,101]⟩,n,.iface t x] 199)=w':=by
 go_wp2
 go_ret;exact⟨rfl,rfl⟩
def gS(n:Int)(a:Bool):List aR->Nat->Option Nat
 |[],_=>none
 |X::l,i=>if eB X n a then gS n a l (i+1)else some i
def y4(r:Option Nat)(w:World)(e:Ending)(w':World):Prop:=
 match r with
 |none=>e=.returned .nilIface/\Below w.heap.size w w'
 |some i=>∃b,e=.returned (.iface 197 (.pointer (some ⟨b,0,none⟩)))/\w.heap.size<=b/\w'.heap[b]?=some (.cells #[.string ⟨#[99,111,100,101]⟩,.int .i64 i,.iface 123 (.int .i64 5)] 199 (0,0))/\Below w.heap.size w w'
theorem pg(l:List aR)(a:Option Addr)(c:Nat)(b:Bool)(E:l.length<=2048)(B:l.length<=c)(w:World)(v:l≠[]->∃g,a=some ⟨g,0,none⟩/\fo w g l):
 Calls prog 115 #[.slice a l.length c,.bool b] w (y4 (gS l.length b l 0) w):=by
 have z:=Z v;clear v;obtain⟨N,i⟩:=mn l.length;rw[<-i];have t:=Z i;rw[<-i]at E B;have y:=Z (fun X w=>Bs X N (by omega) b w);clear i;go_wp2
 go_loopw [14] (fun s G=>∃k:Nat,s=.int .i64 k/\k<=N/\Below w.heap.size w G/\Hid (gS N b (l.drop k) k=gS N b l 0)) (fun s _=>N-(intOf s).toNat)
 case atStart=>exact⟨0,rfl,Nat.zero_le _,Below.refl _ _,rfl⟩
 case round=>
  obtain⟨k,rfl,L,hb,n⟩:=hrel;have r:=Z hb;have A:=hb.size;by_cases D:k<N
  ·have q:k<l.length:=by rw[<-t];exact D
   obtain⟨g,rfl,x⟩:=z (by intro e;subst e;simp at q);have o:l[k]?=some l[k]:=List.getElem?_eq_getElem q;have m:Hid (l.drop k=l[k]::l.drop (k+1)):=List.drop_eq_getElem_cons q;obtain⟨X,u⟩:=mn (l[k]);rw[<-u]at o m;obtain⟨f0,f1,f2,f3,f4,f5,f6⟩:=eR l k X o;have d:=x.below hb;have a0:=d.cell _ _ f0;have a1:=d.cell _ _ f1;have a2:=d.cell _ _ f2;have a3:=d.cell _ _ f3;have H:=d.cell _ _ f4;have I:=d.cell _ _ f5;have J:=d.cell _ _ f6;have C:(k:Int)<(N:Int):=(by omega);have K:=d.lt;clear u o f0 f1 f2 f3 f4 f5 f6 hb d x;go_wp2_with fail
   refine(y X _).mono ?_;rintro e w2 ⟨rfl,p⟩;have F:=p.size;have h:Hid (Below w.heap.size w w2):=(r.alloc A _).trans (p.mono (by simp;omega));clear p;cases j:eB X N b
   ·have f:Hid (gS N b l 0=some k):=by
     show _=_;rw[<-n,m,gS,j];rfl
    clear j;simp at F;go_wp2_with (go_at_call 88;refine(bo _ _ _ _).mono ?_;rintro e w' ⟨rfl,rfl⟩)
    go_ret;rw[f];exact⟨_,rfl,h.size,hK,h.alloc h.size _⟩
   ·have f:Hid (gS N b (l.drop (k+1)) (k+1)=gS N b l 0):=by
     show _=_;rw[<-n,m,gS,j];rfl
    clear j;go_wp2
    go_roundw
    case rel=>exact⟨k+1,by go_num,by omega,h,f⟩
    case measure=>simp[intOf];omega
  ·have C:¬(k:Int)<(N:Int):=by omega
   have f:Hid (gS N b l 0=none):=by
    show _=_;rw[<-n,List.drop_eq_nil_of_le (by rw[<-t];omega)];rfl
   clear hb;go_wp2
   go_ret;rw[f];exact⟨rfl,r⟩
section
open Go.MapKept
section
variable{α:Type}
def dZ:List (Int×α)->Int->Nat->Option (Nat×α)
 |[],_,_=>none
 |x::l,k,i=>if k==x.1 then some (i,x.2)else dZ l k (i+1)
def aw(l:List (Int×α))(k:Int):Option α:=(dZ l k 0).map (·.2)
def b8(l:List (Int×α))(k:Int)(v:α):List (Int×α):=
 match dZ l k 0 with
 |some (i,_)=>l.set i (k,v)
 |none=>l++[(k,v)]
def ft(l:List (Int×α))(k:Int):List (Int×α):=
 match dZ l k 0 with
 |some (i,_)=>l.eraseIdx i
 |none=>l
theorem gm:∀(l:List (Int×α)) (k:Int) (i:Nat),dZ l k i=(dZ l k 0).map fun x=>(x.1+i,x.2)
 |[],_,_=>rfl
 |x::l,k,i=>by
  unfold dZ;split
  ·simp
  ·rw[gm l k (i+1),gm l k (0+1)]
   cases dZ l k 0 with
   |none=>rfl
   |some y=>simp;omega
theorem nt:∀(l:List (Int×α)) (k:Int) (i j:Nat) (v:α),dZ l k i=some (j,v)->i<=j/\j<i+l.length/\l[j-i]?=some (k,v)
 |[],_,_,_,_,h=>by cases h
 |x::l,k,i,j,v,h=>by
  unfold dZ at h;split at h
  ·rename_i c
   have:i=j/\x.2=v:=(by simpa using h);obtain⟨rfl,rfl⟩:=this;have d:k=x.1:=(by simpa using c);exact⟨Nat.le_refl _,by simp,by simp[d]⟩
  ·obtain⟨e,f,a⟩:=nt l k (i+1) j v h
   refine⟨by omega,by simp;omega,?_⟩;rw[show j-i=(j-(i+1))+1 from by omega,List.getElem?_cons_succ];exact a
end
def bR{α:Type}(w:World)(b:Nat)(q:IntKind)(enc:α->Value)(l:List (Int×α)):Prop:=
 ∃a clock,w.heap[b]?=some (.map a clock)/\a.toList.map (fun e=>(e.key,e.val))=l.map fun x=>(Value.int q x.1,enc x.2)
theorem bR.lt{α:Type}{w:World}{b:Nat}{q:IntKind}{enc:α->Value}{l:List (Int×α)}(h:bR w b q enc l):b<w.heap.size:=by
 obtain⟨d,c,a,_⟩:=h;exact(Array.getElem?_eq_some_iff.1 a).1
theorem bR.ch{α:Type}{w w':World}{D:Nat->Prop}{b:Nat}{q:IntKind}{enc:α->Value}{l:List (Int×α)}(h:bR w b q enc l)(c:Ch D w w')(f:¬D b):bR w' b q enc l:=by
 have hb:=h.lt;obtain⟨a,k,d,e⟩:=h;exact⟨a,k,(c.same b hb f).trans d,e⟩
theorem bR.alloc{α:Type}{w:World}{b:Nat}{q:IntKind}{enc:α->Value}{l:List (Int×α)}(h:bR w b q enc l)(a:Obj):bR (w.alloc a) b q enc l:=h.ch ((Ch.refl ag w).alloc a) id
theorem bR.drew{α:Type}{w:World}{b:Nat}{q:IntKind}{enc:α->Value}{l:List (Int×α)}(h:bR w b q enc l):bR w.drew b q enc l:=h
theorem bR.ne{α:Type}{w:World}{b g:Nat}{q:IntKind}{enc:α->Value}{l:List (Int×α)}{t:TypeId}{cs:List Value}(h:bR w b q enc l)(d:Row w g t cs):b≠g:=by
 intro e;subst e;obtain⟨f,c,a,_⟩:=h;unfold Row at d;rw[d]at a;cases a
theorem bR.other{α:Type}{w:World}{b:Nat}{q:IntKind}{enc:α->Value}{l:List (Int×α)}(h:bR w b q enc l){p:Addr}(f:b≠p.block)(v:Value):bR (w.setCell p v) b q enc l:=by
 obtain⟨a,c,d,e⟩:=h;exact⟨a,c,(Below.heap_setCell _ _ _ _ f).trans d,e⟩
theorem hS{α:Type}(q:IntKind)(enc:α->Value)(k:Int):∀(a:List MapEntry) (l:List (Int×α)) (i:Nat),a.map (fun e=>(e.key,e.val))=l.map (fun x=>(Value.int q x.1,enc x.2))->
 Instr.findNow (.int q) (.int q k) a i=some ((dZ l k i).map fun x=>(x.1,enc x.2))
 |[],[],i,_=>rfl
 |[],x::l,i,h=>by cases h
 |e::a,[],i,h=>by cases h
 |e::a,x::l,i,h=>by
  simp only[List.map_cons,List.cons.injEq,Prod.mk.injEq]at h;obtain⟨⟨c,d⟩,f⟩:=h;have ih:=hS q enc k a l (i+1) f;unfold Instr.findNow Instr.sameNow dZ;rw[c];simp only[if_pos rfl];cases g:(k==x.1)
  ·simpa using ih
  ·simp[d]
section
variable{P:Program}{w:World}{b:Nat}{q:IntKind}{α:Type}{enc:α->Value}{l:List (Int×α)}
theorem fu{T K E:TypeId}{z:Value}(g:P.underlying T=some (.map K E))(d:P.underlying K=some (.int q))(m:(zeroValue E).run P w=.ok z w)(h:bR w b q enc l)(k:Int):
 (Instr.lookup T (.map (some b)) (.int q k) false).run P w=.ok (((aw l k).map enc).getD z) w:=by
 obtain⟨a,c,e,f⟩:=h;have i:=hS q enc k a.toList l 0 f;have j:Go.MapKept.IsKey (.int q) (.int q k):=by simp[Go.MapKept.IsKey]
 simp[Instr.lookup,run_underlying g, @Go.MapKept.run_getObj_map P w b a c e, @Go.MapKept.run_checkKey P w K _ _ d j, @Go.MapKept.run_findKey P w K _ _ _ _ d i,Result.andThen];unfold aw;cases dZ l k 0<;>simp[m,Result.andThen]
theorem gg{T K E:TypeId}{z:Value}(g:P.underlying T=some (.map K E))(d:P.underlying K=some (.int q))(m:(zeroValue E).run P w=.ok z w)(h:bR w b q enc l)(k:Int):
 (Instr.lookup T (.map (some b)) (.int q k) true).run P w=.ok (.tuple #[((aw l k).map enc).getD z,.bool (aw l k).isSome]) w:=by
 obtain⟨a,c,e,f⟩:=h;have i:=hS q enc k a.toList l 0 f;have j:Go.MapKept.IsKey (.int q) (.int q k):=by simp[Go.MapKept.IsKey]
 simp[Instr.lookup,run_underlying g, @Go.MapKept.run_getObj_map P w b a c e, @Go.MapKept.run_checkKey P w K _ _ d j, @Go.MapKept.run_findKey P w K _ _ _ _ d i,Result.andThen];unfold aw;cases dZ l k 0<;>simp[m,Result.andThen]
def putObj(w:World)(b:Nat)(a:Obj):World:={w with heap:=w.heap.setIfInBounds b a}
theorem hz(w:World)(b:Nat)(a:Obj)(hb:b<w.heap.size):(putObj w b a).heap[b]?=some a:=by simp[putObj,hb]
theorem jG{D:Nat->Prop}(w:World)(b:Nat)(d:Obj)(a:D b):Ch D w (putObj w b d):=
 ⟨rfl,rfl,rfl,by simp[putObj],fun i f c=>by
  have:b≠i:=fun e=>c (e▸a)
  simp[putObj,this]⟩
theorem fv{T K E:TypeId}(s:P.underlying T=some (.map K E))(n:P.underlying K=some (.int q))(h:bR w b q enc l)(k:Int)(v:α):
 ∃w',(Instr.mapUpdate T (.map (some b)) (.int q k) (enc v)).run P w=.ok () w'/\bR w' b q enc (b8 l k v)/\Ch (aL b) w w':=by
 have hb:=h.lt;obtain⟨a,c,m,f⟩:=h;have o:=hS q enc k a.toList l 0 f;have r:Go.MapKept.IsKey (.int q) (.int q k):=by simp[Go.MapKept.IsKey]
 cases g:dZ l k 0 with
 |none=>
  rw[g]at o;refine⟨putObj w b (.map (a.push {key:=.int q k,val:=enc v,born:=c}) (c+1)),?_,⟨_,_,hz _ _ _ hb,?_⟩,jG _ _ _ rfl⟩
  ·simp[Instr.mapUpdate,run_underlying s, @Go.MapKept.run_getObj_map P w b a c m, @Go.MapKept.run_checkKey P w K _ _ n r, @Go.MapKept.run_findKey P w K _ _ _ _ n o,Result.andThen, @Go.MapKept.run_setObj_map P w b a c _ m,putObj]
  ·unfold b8;rw[g];simp[f]
 |some x=>
  obtain⟨j,u⟩:=x;rw[g]at o;obtain⟨-,D,y⟩:=nt l k 0 j u g;rw[Nat.sub_zero]at y;have hlen:a.size=l.length:=by have:=congrArg List.length f;simpa using this
  have p:j<a.size:=by omega
  have B:a[j].key=.int q k:=by
   have d:(a.toList.map (fun e=>(e.key,e.val)))[j]?=(l.map fun x=>(Value.int q x.1,enc x.2))[j]?:=(by rw[f]);rw[List.getElem?_map,List.getElem?_map,y]at d;have z:a.toList[j]?=some a[j]:=(by simp[p]);rw[z]at d;have:=Option.some.inj d;exact congrArg Prod.fst this
  refine⟨putObj w b (.map (a.modify j fun e=>{e with key:=.int q k,val:=enc v}) c),?_,⟨_,_,hz _ _ _ hb,?_⟩,jG _ _ _ rfl⟩
  ·have C:= @Go.MapKept.run_keyThatStays P w _ _ r
   simp[Instr.mapUpdate,run_underlying s, @Go.MapKept.run_getObj_map P w b a c m, @Go.MapKept.run_checkKey P w K _ _ n r, @Go.MapKept.run_findKey P w K _ _ _ _ n o,Result.andThen, @Go.MapKept.run_setObj_map P w b a c _ m,putObj,p,B,C]
  ·unfold b8;rw[g]
   apply List.ext_getElem?;intro i;have d:(a.toList.map (fun e=>(e.key,e.val)))[i]?=(l.map fun x=>(Value.int q x.1,enc x.2))[i]?:=(by rw[f]);simp only[List.getElem?_map,List.getElem?_set,Array.toList_modify,List.getElem?_modify]at d⊢;by_cases t:j=i
   ·subst t
    have A:j<l.length:=(by omega);simp[p,A]
   ·simp[t]
    simpa using d
theorem fw{T K E ty kT:TypeId}(m:P.underlying T=some (.map K E))(g:P.underlying K=some (.int q))(h:bR w b q enc l)(k:Int):
 ∃w',(Builtin.delete_ #[T,kT] ty #[.map (some b),.int q k]).run P w=.ok (.tuple #[]) w'/\bR w' b q enc (ft l k)/\Ch (aL b) w w':=by
 have hb:=h.lt;obtain⟨a,c,e,f⟩:=h;have i:=hS q enc k a.toList l 0 f;have n:Go.MapKept.IsKey (.int q) (.int q k):=by simp[Go.MapKept.IsKey]
 cases d:dZ l k 0 with
 |none=>
  rw[d]at i;refine⟨putObj w b (.map a c),?_,⟨_,_,hz _ _ _ hb,by unfold ft;rw[d];exact f⟩,jG _ _ _ rfl⟩;simp[Builtin.delete_,run_underlying m, @Go.MapKept.run_getObj_map P w b a c e, @Go.MapKept.run_checkKey P w K _ _ g n, @Go.MapKept.run_findKey P w K _ _ _ _ g i,Result.andThen, @Go.MapKept.run_setObj_map P w b a c _ e,putObj]
 |some x=>
  obtain⟨j,u⟩:=x;rw[d]at i;obtain⟨-,p,r⟩:=nt l k 0 j u d;have hlen:a.size=l.length:=by have:=congrArg List.length f;simpa using this
  refine⟨putObj w b (.map (a.eraseIdxIfInBounds j) c),?_,⟨_,_,hz _ _ _ hb,?_⟩,jG _ _ _ rfl⟩
  ·simp[Builtin.delete_,run_underlying m, @Go.MapKept.run_getObj_map P w b a c e, @Go.MapKept.run_checkKey P w K _ _ g n, @Go.MapKept.run_findKey P w K _ _ _ _ g i,Result.andThen, @Go.MapKept.run_setObj_map P w b a c _ e,putObj]
  ·unfold ft;rw[d]
   have o:j<a.size:=(by omega);simp only[Array.eraseIdxIfInBounds,o,dite_true,Array.toList_eraseIdx];rw[Go.ChangeMaps.map_eraseIdx,f,<-Go.ChangeMaps.map_eraseIdx]
end
end
structure ba where
 d:Int
 bU:Int
 h:Int
 deriving DecidableEq,Repr,Inhabited
def ba.cells(t:ba):List Value:=[.int .u64 t.d,.int .u64 t.bU,.int .i64 t.h]
def ba.val(t:ba):Value:=.agg #[.int .u64 t.d,.int .u64 t.bU,.int .i64 t.h]
theorem ba.len(t:ba):t.cells.length=3:=rfl
structure ah where
 l:List ba
 at_:List (Int×Int)
 last:Int
structure aN(w:World)(b mb:Nat)(v:Value)(S:ah):Prop where
 head:Row w b 268 [v,.map (some mb),.int .i64 S.last]
 own:w.ownsRow 0 318 3 v S.l.length (S.l.flatMap ba.cells)
 map:bR w mb .i64 (Value.int .i64) S.at_
def cy(b mb:Nat)(v:Value):Nat->Prop:=fun i=>i=b∨i=mb∨v.ownBlock=some i
theorem aj{w w':World}{D:Nat->Prop}{B:Nat}{e:TypeId}{size:Nat}{v:Value}{n:Nat}{b:List Value}(h:w.ownsRow B e size v n b)(c:Ch D w w')(j:∀g,v.ownBlock=some g->¬D g):w'.ownsRow B e size v n b:=by
 refine⟨h.1,?_⟩;rcases h.2 with d|⟨g,cap,cur,rfl,i,a,f⟩
 ·exact Or.inl d
 ·exact Or.inr ⟨g,cap,cur,rfl,i,(c.same g (Array.getElem?_eq_some_iff.1 a).1 (j g rfl)).trans a,f⟩
theorem aN.alloc{w:World}{b mb:Nat}{v:Value}{S:ah}(h:aN w b mb v S)(a:Obj):aN (w.alloc a) b mb v S:=⟨h.head.alloc a,h.own.alloc a,h.map.alloc a⟩
theorem aN.drew{w:World}{b mb:Nat}{v:Value}{S:ah}(h:aN w b mb v S):aN w.drew b mb v S:=⟨h.head,h.own.drew,h.map⟩
theorem aN.drewN{w:World}{b mb:Nat}{v:Value}{S:ah}(h:aN w b mb v S)(n:Nat):aN (w.drewN n) b mb v S:=⟨h.head,⟨h.own.1,h.own.2⟩,h.map⟩
theorem aN.ch{w w':World}{D:Nat->Prop}{b mb:Nat}{v:Value}{S:ah}(h:aN w b mb v S)(c:Ch D w w')(hb:¬D b)(d:¬D mb)(a:∀g,v.ownBlock=some g->¬D g):aN w' b mb v S:=⟨h.head.ch c hb,aj h.own c a,h.map.ch c d⟩
theorem aN.sl{w:World}{b mb:Nat}{v:Value}{S:ah}(h:aN w b mb v S)(k:0<S.l.length):∃g cap c,v=.slice (some ⟨g,0,none⟩) S.l.length cap/\S.l.length<=cap/\cap<=maxLen/\Row w g 318 (S.l.flatMap ba.cells++c)/\(S.l.flatMap ba.cells++c).length=cap*3:=by
 rcases h.own.2 with⟨_,j⟩|⟨g,cap,cur,rfl,_,e,d,f,i,a⟩
 ·omega
 ·refine⟨g,cap,cur.toList.drop (S.l.length*3),rfl,d,f,?_,?_⟩
  ·unfold Row;rw[<-a,List.take_append_drop];simpa using e
  ·rw[<-a,List.take_append_drop];simpa using i
theorem aN.cell{w:World}{b mb g n cap:Nat}{S:ah}(h:aN w b mb (.slice (some (g,0)) n cap) S){i:Nat}{t:ba}(d:S.l[i]?=some t):
 w.cell? (g,i*3)=some (.int .u64 t.d)/\w.cell? (g,i*3+1)=some (.int .u64 t.bU)/\w.cell? (g,i*3+2)=some (.int .i64 t.h)/\(∀j,w.frozen? ⟨g,j,none⟩=false)/\g<w.heap.size/\g≠b/\mb≠g:=by
 have s:=(List.getElem?_eq_some_iff.1 d).1;obtain⟨o,m,y,f,r,x,c,u⟩:=h.sl (by omega);injection f with a p q
 injection a with a
 injection a with a
 subst a;have e:=a4 ba.len S.l;have key:∀j v,j<3->(t.cells)[j]?=some v->w.cell? ⟨g,i*3+j,none⟩=some v:=fun j v k l=>c.cell (by
  rw[List.getElem?_append_left (by rw[e];omega)];exact(bD ba.len d k).trans l)
 exact⟨key 0 _ (by omega) rfl,key 1 _ (by omega) rfl,key 2 _ (by omega) rfl,fun j=>c.free j,c.lt,c.ne h.head (by decide),h.map.ne c⟩
theorem aN.lay{w:World}{b mb g n cap:Nat}{S:ah}(h:aN w b mb (.slice (some (g,0)) n cap) S){i:Nat}(d:i<S.l.length)(t:ba){i1 i2:Nat}(q:i1=i*3+1)(r:i2=i*3+2):
 aN (((w.setCell (g,i*3) (.int .u64 t.d)).setCell (g,i1) (.int .u64 t.bU)).setCell (g,i2) (.int .i64 t.h)) b mb (.slice (some (g,0)) n cap) {S with l:=S.l.set i t}:=by
 subst q r;obtain⟨x,p⟩:∃x,S.l[i]?=some x:=⟨_,List.getElem?_eq_getElem d⟩;obtain⟨-,-,-,-,-,c,f⟩:=h.cell p;obtain⟨I,H,m,A,z,C,D,B⟩:=h.sl (by omega);injection A with a s u
 injection a with a
 injection a with a
 subst a s u;have o:=a4 ba.len S.l;refine⟨((h.head.other (fun e=>c e.symm) _).other (fun e=>c e.symm) _).other (fun e=>c e.symm) _,?_,((h.map.other f _).other f _).other f _⟩;have E:=D.bc (i*3) (.int .u64 t.d) (l':=(S.l.set i ⟨t.d,x.bU,x.h⟩).flatMap ba.cells++m) (by
  rw[List.set_append_left _ _ (by rw[o];omega)];congr 1;exact fp (j:=0) ba.len p (by omega) rfl)
 have F:=E.bc (i*3+1) (.int .u64 t.bU) (l':=(S.l.set i ⟨t.d,t.bU,x.h⟩).flatMap ba.cells++m) (by
  rw[List.set_append_left _ _ (by rw[a4 ba.len,List.length_set];omega)];congr 1;have:=fp (enc:=ba.cells) (k:=3) (l:=S.l.set i ⟨t.d,x.bU,x.h⟩) (i:=i) (x:=⟨t.d,x.bU,x.h⟩) (y:=⟨t.d,t.bU,x.h⟩) (j:=1) (v:=.int .u64 t.bU) ba.len (by simp[d]) (by omega) rfl
  rwa [List.set_set]at this)
 have G:=F.bc (i*3+2) (.int .i64 t.h) (l':=(S.l.set i t).flatMap ba.cells++m) (by
  rw[List.set_append_left _ _ (by rw[a4 ba.len,List.length_set];omega)];congr 1;have:=fp (enc:=ba.cells) (k:=3) (l:=S.l.set i ⟨t.d,t.bU,x.h⟩) (i:=i) (x:=⟨t.d,t.bU,x.h⟩) (y:=t) (j:=2) (v:=.int .i64 t.h) ba.len (by simp[d]) (by omega) rfl
  rwa [List.set_set]at this)
 refine⟨by rw[a4 ba.len],Or.inr ⟨g,_,_,by rw[List.length_set],Nat.zero_le _,G,by simpa using z,C,?_,?_⟩⟩
 ·rw[List.size_toArray,List.length_append,a4 ba.len,List.length_set,<-o,<-List.length_append];exact B
 ·rw[List.toList_toArray]
  show List.take ((S.l.set i t).length*3) _=_
  rw[List.take_left' (a4 ba.len _)]
theorem aN.G3{w w':World}{b mb:Nat}{v:Value}{S:ah}{at':List (Int×Int)}(h:aN w b mb v S)(j:bR w' mb .i64 (Value.int .i64) at')(c:Ch (aL mb) w w'):aN w' b mb v {S with at_:=at'}:=
 ⟨h.head.ch c (fun e=>h.map.ne h.head e.symm),aj h.own c (fun g a e=>by
  subst e;rcases h.own.2 with⟨rfl,_⟩|⟨f,cap,cur,rfl,_,d,_⟩
  ·cases a
  ·have:f=g:=by simpa[Value.ownBlock]using a
   subst this;obtain⟨l,k,i,_⟩:=h.map;rw[i]at d;cases d),j⟩
def eN(a b:ba):Bool:=decide (a.d<b.d)||(a.d==b.d&&decide (a.h<b.h))
theorem wG(a b:ba)(w:World):Calls prog 206 #[a.val,b.val] w (dc (.bool (eN a b)) w):=by
 unfold ba.val;obtain⟨c,g,e⟩:=a;obtain⟨d,h,f⟩:=b;dsimp only;by_cases i:c<d
 ·have E:Hid (eN ⟨c,g,e⟩ ⟨d,h,f⟩=true):=Z (by unfold eN;simp[i])
  go_wp2
  go_ret;exact dc.mk (by rw[E];rfl) (((Ch.refl _ _).alloc _).alloc _)
 ·cases j:(c==d)
  ·have E:Hid (eN ⟨c,g,e⟩ ⟨d,h,f⟩=false):=Z (by unfold eN;simp only[j];simp[i])
   go_wp2
   go_ret;exact dc.mk (by rw[E];rfl) (((Ch.refl _ _).alloc _).alloc _)
  ·have E:Hid (eN ⟨c,g,e⟩ ⟨d,h,f⟩=decide (e<f)):=Z (by unfold eN;simp only[j];simp[i])
   go_wp2
   go_ret;exact dc.mk (by rw[E];rfl) (((Ch.refl _ _).alloc _).alloc _)
def ah.lay(S:ah)(i:Nat)(t:ba):ah:={S with l:=S.l.set i t,at_:=b8 S.at_ t.h i}
theorem rA{b mb:Nat}{v:Value}{w w':World}(h:Ch (aL mb) w w'):Ch (cy b mb v) w w':=h.mono fun i a=>Or.inr (Or.inl a)
theorem lE{b mb g n cap:Nat}{a w:World}(h:Ch (cy b mb (.slice (some (g,0)) n cap)) a w)(c:Nat)(x:Value):Ch (cy b mb (.slice (some (g,0)) n cap)) a (w.setCell (g,c) x):=
 h.g5 (p:=⟨g,c,none⟩) (Or.inr (Or.inr rfl)) x
def lF(b mb:Nat)(v:Value)(a:ah)(w:World)(e:Ending)(w':World):Prop:=e=.returned (.tuple #[])/\aN w' b mb v a/\Ch (cy b mb v) w w'
theorem BA(b mb:Nat)(v:Value)(S:ah)(i:Nat)(m:i<S.l.length)(t:ba)(w:World)(h:aN w b mb v S):
 Calls prog 183 #[(b,0),.int .i64 i,t.val] w (lF b mb v (S.lay i t) w):=by
 unfold ba.val;obtain⟨g,cap,V,rfl,F,-,-,-⟩:=h.sl (by omega);have H:=Z h;obtain⟨x,u⟩:∃x,S.l[i]?=some x:=⟨_,List.getElem?_eq_getElem m⟩;have o:=Z u;have B:=Z m;have I:(i:Int)<S.l.length:=by omega
 obtain⟨N,k⟩:=mn S.l.length;rw[<-k]at I H F⊢;have R:=Z k;clear h u m k;go_wp2
 obtain⟨w1,a⟩:=nm (w.alloc (.cells #[.int .u64 t.d,.int .u64 t.bU,.int .i64 t.h] 318));have f:Hid (aN w1 b mb (.slice (some (g,0)) N cap) S):=Z (by rw[<-a];exact H.alloc _);have z:Hid (Ch (cy b mb (.slice (some (g,0)) N cap)) w w1):=Z (by rw[<-a];exact(Ch.refl _ _).alloc _);have y:w1.heap.size=w.heap.size+1:=by rw[<-a];simp
 have t0:w1.cell? (w.heap.size,0)=some (.int .u64 t.d):=by rw[<-a];simp
 have t1:w1.cell? (w.heap.size,1)=some (.int .u64 t.bU):=by rw[<-a];simp
 have t2:w1.cell? (w.heap.size,2)=some (.int .i64 t.h):=by rw[<-a];simp
 have r:g<w.heap.size:=(H.cell o).2.2.2.2.1;rw[a];clear a;obtain⟨tb,s⟩:=mn w.heap.size;rw[<-s]at y t0 t1 t2 r⊢;clear s;have D:=f.head.c1;obtain⟨M,O,Q,fr,J,G,L⟩:=f.cell o;have d:g≠tb:=by omega
 clear r y J;go_still_tail 6,(by kernel_rfl)
 change wpList _ _ _ _ _ w1.drew;go_wp2
 obtain⟨w2,c⟩:=nm ((((w1.setCell (g,i*3) (.int .u64 t.d)).setCell (g,i*3+1) (.int .u64 t.bU)).setCell (g,i*3+2) (.int .i64 t.h)).drew);have j:Hid (aN w2 b mb (.slice (some (g,0)) N cap) {S with l:=S.l.set i t}):=Z (by rw[<-c];exact(f.lay B t rfl rfl).drew);have A:Hid (Ch (cy b mb (.slice (some (g,0)) N cap)) w w2):=Z (by rw[<-c];exact(lE (lE (lE z _ _) _ _) _ _).drew);have W:w2.cell? (tb,2)=some (.int .i64 t.h):=by
  rw[<-c,World.cell?_drew,World.cell?_setCell_other _ _ _ _ (fun e=>d (congrArg Addr.block e)),World.cell?_setCell_other _ _ _ _ (fun e=>d (congrArg Addr.block e)),World.cell?_setCell_other _ _ _ _ (fun e=>d (congrArg Addr.block e))];exact t2
 rw[c];clear c;have d1:=j.head.k 1 rfl;obtain⟨w3,U,q,p⟩:=fv (P:=prog) (T:=265) (K:=3) (E:=3) underlying265 underlying3 j.drew.map t.h (i:Int);have C:=Z q;have n:=Z p;clear q p D M O Q fr t0 t1 t2 d G L;go_still_tail 7,(by kernel_rfl)
 change wpList _ _ _ _ _ w2.drew;go_wp2
 go_end0
 exact⟨rfl,j.drew.G3 C n,A.drew.trans (rA n)⟩
theorem ah.b9(S:ah)(i:Nat)(t:ba):(S.lay i t).l.length=S.l.length:=by unfold ah.lay;simp
def gX:Nat->ah->Nat->ba->ah×Nat
 |0,S,i,_=>(S,i)
 |f+1,S,i,t=>if i=0 then(S,i)else
  match S.l[(i-1)/2]? with
  |none=>(S,i)
  |some p=>if eN t p then gX f (S.lay i p) ((i-1)/2) t else(S,i)
def ah.up(S:ah)(i:Nat):ah:=
 match S.l[i]? with
 |none=>S
 |some t=>(gX (i+1) S i t).1.lay (gX (i+1) S i t).2 t
theorem aN.at{w:World}{b mb:Nat}{v:Value}{S:ah}(h:aN w b mb v S){i:Nat}{t:ba}(a:S.l[i]?=some t):∃g cap,v=.slice (some ⟨g,0,none⟩) S.l.length cap/\S.l.length<=cap/\
 w.cell? ⟨g,i*3,none⟩=some (.int .u64 t.d)/\w.cell? ⟨g,i*3+1,none⟩=some (.int .u64 t.bU)/\w.cell? ⟨g,i*3+2,none⟩=some (.int .i64 t.h)/\g<w.heap.size:=by
 have k:=(List.getElem?_eq_some_iff.1 a).1;obtain⟨g,cap,l,rfl,c,-,-,-⟩:=h.sl (by omega);obtain⟨e,f,j,-,d,-,-⟩:=h.cell a;exact⟨g,cap,rfl,c,e,f,j,d⟩
theorem tU(b mb:Nat)(v:Value)(S:ah)(i:Nat)(d:i<S.l.length)(t:ba)(w:World)(h:aN w b mb v S)(a:Int)(c:a=i):
 Calls prog 183 #[(b,0),a,.agg #[.int .u64 t.d,.int .u64 t.bU,.int .i64 t.h]] w (lF b mb v (S.lay i t) w):=by
 subst c;exact BA b mb v S i d t w h
theorem eT(a b:ba)(r:Bool)(w:World)(h:eN a b=r):Calls prog 206 #[.agg #[.int .u64 a.d,.int .u64 a.bU,.int .i64 a.h],.agg #[.int .u64 b.d,.int .u64 b.bU,.int .i64 b.h]] w (dc (.bool r) w):=by
 subst h;exact wG a b w
theorem DQ(b mb:Nat)(v:Value)(S:ah)(i:Nat)(W:i<S.l.length)(hb:S.l.length<=1000000)(w:World)(h:aN w b mb v S):
 Calls prog 184 #[(b,0),.int .i64 i] w (lF b mb v (S.up i) w):=by
 obtain⟨t,O⟩:∃t,S.l[i]?=some t:=⟨_,List.getElem?_eq_getElem W⟩;have G:Hid (S.up i=(gX (i+1) S i t).1.lay (gX (i+1) S i t).2 t):=Z (by unfold ah.up;rw[O]);obtain⟨g,cap,rfl,bi,bv,bw,bx,V⟩:=h.at O;have H:=Z h;have r:=h.head.c1;obtain⟨N,K⟩:=mn S.l.length;rw[<-K]at r W hb bi H⊢;have a3:=Z K;have c0:(i:Int)<N:=by omega
 clear h O K;go_wp2
 obtain⟨tb,B⟩:=mn w.heap.size;rw[<-B];obtain⟨w1,z⟩:=nm (w.alloc (.cells #[.int .u64 t.d,.int .u64 t.bU,.int .i64 t.h] 318));have a0:Hid (aN w1 b mb (.slice (some (g,0)) N cap) S):=Z (by rw[<-z];exact H.alloc _);have Y:Hid (Ch (cy b mb (.slice (some (g,0)) N cap)) w w1):=Z (by rw[<-z];exact(Ch.refl _ _).alloc _);have am:Hid (Row w1 tb 318 t.cells):=Z (by rw[<-z,B];exact Row.new w _ _);rw[z];have ad:Hid (w.heap.size=tb/\g<w.heap.size/\b<w.heap.size/\mb<w.heap.size):=Z ⟨B.symm,V,H.head.lt,H.out.map.lt⟩;clear z B r bv bw bx V;go_loopw [1] (fun s wr=>∃(k f:Nat) (a:ah),s=.int .i64 k/\k<=i/\k<f/\Hid (gX f a k t=gX (i+1) S i t/\a.l.length=N/\aN wr b mb (.slice (some (g,0)) N cap) a/\Row wr tb 318 t.cells/\Ch (cy b mb (.slice (some (g,0)) N cap)) w wr)) (fun s _=>(intOf s).toNat)
 case atStart=>exact⟨i,i+1,S,rfl,Nat.le_refl _,Nat.lt_succ_self _,rfl,a3.symm,a0,am,Y⟩
 case round=>
  obtain⟨k,f,a,rfl,c6,c5,l⟩:=hrel;have q:=Z l.2.1;have A:=Z l.2.2.1;have U:=Z l.2.2.2.1;have R:=Z l.2.2.2.2;have r:=A.head.c1;obtain⟨t0,t1,t2⟩:=U.c3;have J:=Z (fun(j:Nat) (c1:j<N) (x:ba) (w:World) (S:ah) (c7:S.l.length=N) h al ax=>tU b mb (.slice (some (g,0)) N cap) S j (by omega) x w h al ax);obtain⟨n,rfl⟩:∃n,f=n+1:=⟨f-1,by omega⟩;have fin:Hid (∀w2,aN w2 b mb (.slice (some (g,0)) N cap) a->gX (n+1) a k t=(a,k)->aN w2 b mb (.slice (some (g,0)) N cap) a/\S.up i=a.lay k t):=Z (fun w2 av e=>⟨av,by rw[G,<-l.1,e]⟩);by_cases M:k=0
  ·subst M
   have E:Hid (S.up i=a.lay 0 t):=Z (by rw[G,<-l.1];rfl);go_wp2
   go_quiet (fail)
   go_wp2_with fail
   with_reducible refine(J.out 0 (by omega) t _ a q.out (A.out.drewN _) _ ?_).mono ?_
   ·rfl
   rintro e w3 ⟨rfl,m,c⟩;have a2:=Z m;have a1:=Z c;clear m c;go_wp2
   go_end0
   rw[E];exact⟨rfl,a2,(R.drewN _).trans a1⟩
  ·have c2:(1:Int)<=k:=by omega
   have c3:(0:Int)<k:=(by omega);have c4:0<k:=(by omega);obtain⟨p,X⟩:=mn ((k-1)/2);have c8:((k:Int)-1).tdiv 2=(p:Int):=(by rw[Int.tdiv_eq_ediv_of_nonneg (by omega)];omega);have c9:((k:Int)-1)/2=(p:Int):=(by omega);have ce:IntKind.i64.wrap ((k:Int)-1)=(k:Int)-1:=IntWalk.i64_in _ (by omega);have cf:IntKind.i64.wrap (p:Int)=(p:Int):=IntWalk.i64_in _ (by omega);have cb:(p:Int)<N:=(by omega);have cd:p<k:=(by omega);obtain⟨x,P⟩:∃x,a.l[p]?=some x:=⟨_,List.getElem?_eq_getElem (by rw[q];omega)⟩;obtain⟨x0,x1,x2,-,-,-,-⟩:=A.cell P;have T:=Z X;have I:=Z P;clear X P;have Q:Hid (∀w3,Ch ag wr.drew w3->aN w3 b mb (.slice (some (g,0)) N cap) a/\Row w3 tb 318 t.cells/\Ch (cy b mb (.slice (some (g,0)) N cap)) w w3):=Z (fun w3 c=>
    ⟨A.drew.ch c id id (fun _ _ h=>h),U.drew.ch c id,R.drew.trans c.af⟩)
   cases o:eN t x
   ·have E:Hid (S.up i=a.lay k t):=Z (by
     have e:gX (n+1) a k t=(a,k):=(by unfold gX;rw[if_neg M,<-T,I];simp only[o];rfl);rw[G,<-l.1,e])
    have C:=Z (fun w=>eT t x false w o);clear o;go_wp2
    go_still_tail 13,(by kernel_rfl)
    change wpList _ _ _ _ _ wr.drew;go_wp2_with fail
    refine(C _).mono ?_;rintro e w3 ⟨rfl,y⟩;have d:=Z (Q w3 y);have ap:=d.1.head.cell (i:=0) rfl;have ch:=d.2.1.cell (i:=0) rfl;have ci:=d.2.1.cell (i:=1) rfl;have ck:=d.2.1.cell (i:=2) rfl;clear r t0 t1 t2 x0 x1 x2 y;go_wp2_with fail
    with_reducible refine(J.out k (by omega) t _ a q.out d.out.1 _ ?_).mono ?_
    ·rfl
    rintro e w4 ⟨rfl,m,c⟩;have F:=Z m;have D:=Z c;clear m c;go_wp2
    go_end0
    rw[E];exact⟨rfl,F,d.2.2.trans D⟩
   ·have E:Hid (gX n (a.lay k x) p t=gX (i+1) S i t):=Z (by
     rw[<-l.1]
     conv=>rhs;unfold gX
     rw[if_neg M,<-T,I];simp only[o];rfl)
    have C:=Z (fun w=>eT t x true w o);clear o;go_wp2
    go_still_tail 13,(by kernel_rfl)
    change wpList _ _ _ _ _ wr.drew;go_wp2_with fail
    refine(C _).mono ?_;rintro e w3 ⟨rfl,y⟩;have d:=Z (Q w3 y);have ap:=d.1.head.cell (i:=0) rfl;obtain⟨cl,cm,cq,-,-,-,-⟩:=d.1.cell I;have L:Hid (tb≠b/\tb≠mb/\tb≠g):=Z (by
     have:=ad.out;refine⟨by omega,by omega,by omega⟩)
    clear r t0 t1 t2 x0 x1 x2 y;go_wp2_with fail
    with_reducible refine(J.out k (by omega) x _ a q.out d.out.1 _ ?_).mono ?_
    ·rfl
    rintro e w4 ⟨rfl,m,c⟩;have F:=Z m;have D:=Z c;have ab:Hid (Row w4 tb 318 t.cells):=Z (d.2.1.ch c (by
     rintro(u|u|u)
     ·exact L.1 u
     ·exact L.2.1 u
     ·exact L.2.2 (Option.some.inj u).symm))
    clear m c;go_wp2
    go_roundw
    case rel=>exact⟨p,n,a.lay k x,rfl,by omega,by omega,E,by rw[ah.b9];exact q,F,ab,d.2.2.trans D⟩
    case measure=>simp[intOf];omega
def aT(w:World)(v a:Value):Prop:=∀g,a.ownBlock=some g->v.ownBlock=some g∨w.heap.size<=g
theorem aT.refl(w:World)(v:Value):aT w v v:=fun _ h=>Or.inl h
theorem aT.of_eq{w:World}{v a:Value}(h:a.ownBlock=v.ownBlock):aT w v a:=fun _ b=>Or.inl (h▸b)
theorem aT.trans{w w1:World}{a b c:Value}(h:aT w a b)(f:w.heap.size<=w1.heap.size)(k:aT w1 b c):aT w a c:=fun g e=>by
 rcases k g e with d|d
 ·exact h g d
 ·exact Or.inr (Nat.le_trans f d)
theorem aT.nil(w:World)(v:Value):aT w v (.slice none 0 0):=fun g a=>by cases a
theorem aT.at{w:World}{v:Value}{a n c:Nat}(h:v.ownBlock=some a∨w.heap.size<=a):aT w v (.slice (some (a,0)) n c):=fun i b=>by
 have:a=i:=by simpa[Value.ownBlock]using b
 subst this;exact h
end Go.Proofs.YtfnilkpkogipfaaGreatDoor
