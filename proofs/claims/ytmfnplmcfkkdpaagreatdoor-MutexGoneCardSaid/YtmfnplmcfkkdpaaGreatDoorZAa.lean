import Derived.Test.YtmfnplmcfkkdpaaGreatDoorProg
import Derived.WalkKit
import Derived.WalkSpells
import Derived.WalkLawsBesides
import Derived.Lib.Hide
import Derived.IntWalk
import Derived.StillTailTactics
import Derived.BigQuiet
import Derived.Deep.QuietTactic
import Derived.Deep.DeepCutAuto
import Derived.Deep.CutBlock
import Derived.Deep.RegionHeld3
import Derived.Deep.RegionLaw
import Derived.Deep.AppendLies
set_option linter.all false
set_option maxRecDepth 100000
set_option maxHeartbeats 0
namespace Go.Proofs.YtmfnplmcfkkdpaaGreatDoor
open Go.RowKit Go.Proofs.Tryz
variable{v:Value}{D:Nat->Prop}{a w':World}{p:Addr}
def aK(v:Int):Prop:=0<=v/\v<18446744073709551616
theorem aK.lo{v:Int}(h:aK v):0<=v:=h.1
theorem aK.hi{v:Int}(h:aK v):v<18446744073709551616:=h.2
structure Ch(D:Nat->Prop)(w w':World):Prop where
 os:w'.os=w.os
 tape:w'.tape=w.tape
 output:w'.output=w.output
 size:w.heap.size<=w'.heap.size
 same:∀b,b<w.heap.size->¬D b->w'.heap[b]?=w.heap[b]?
theorem Ch.refl(D:Nat->Prop)(w:World):Ch D w w:=⟨rfl,rfl,rfl,Nat.le_refl _,fun _ _ _=>rfl⟩
theorem Ch.trans{b c:World}(h:Ch D a b)(k:Ch D b c):Ch D a c:=
 ⟨k.os.trans h.os,k.tape.trans h.tape,k.output.trans h.output,Nat.le_trans h.size k.size,fun i e d=>(k.same i (Nat.lt_of_lt_of_le e h.size) d).trans (h.same i e d)⟩
theorem Ch.mono{E:Nat->Prop}{b:World}(h:Ch D a b)(c:∀i,D i->E i):Ch E a b:=
 ⟨h.os,h.tape,h.output,h.size,fun i e d=>h.same i e (fun k=>d (c i k))⟩
theorem Ch.drew{b:World}(h:Ch D a b):Ch D a b.drew:=⟨h.os,h.tape,h.output,h.size,h.same⟩
theorem Ch.drewN{b:World}(h:Ch D a b)(n:Nat):Ch D a (b.drewN n):=⟨h.os,h.tape,h.output,h.size,h.same⟩
theorem Ch.alloc{b:World}(h:Ch D a b)(o:Obj):Ch D a (b.alloc o):=
 ⟨h.os,h.tape,h.output,by simp;have:=h.size;omega,fun i c d=>by rw[Below.heap_alloc _ _ _ (Nat.lt_of_lt_of_le c h.size)];exact h.same i c d⟩
theorem Ch.set{b:World}(h:Ch D a b)(c:D p.block∨a.heap.size<=p.block)(u:Value):Ch D a (b.setCell p u):=
 ⟨h.os,h.tape,h.output,by simp;exact h.size,fun i f d=>by
  rw[Below.heap_setCell _ _ _ _ (fun e=>by subst e;rcases c with c|c;exact d c;omega)];exact h.same i f d⟩
theorem Ch.hj{b:World}(h:Ch D a b)(c:D p.block)(u:Value):Ch D a (b.setCell p u):=h.set (Or.inl c) u
theorem Ch.cell{w:World}(h:Ch D w w')(d:p.block<w.heap.size)(c:¬D p.block):w'.cell? p=w.cell? p:=World.cell?_of_block (w:=w) (h.same p.block d c)
theorem Ch.frozen{w:World}(h:Ch D w w')(d:p.block<w.heap.size)(c:¬D p.block):w'.frozen? p=w.frozen? p:=World.frozen?_of_block (w:=w) (h.same p.block d c)
theorem Ch.below{w:World}(h:Ch D w w'){B:Nat}(e:B<=w.heap.size)(c:∀b,D b->B<=b):Below B w w':=
 ⟨h.os,h.tape,h.output,h.size,fun k f=>h.same k (by omega) (fun d=>by have:=c k d;omega)⟩
theorem aQ{w:World}{a:Addr}(h:w.cell? a=some v):a.block<w.heap.size:=World.block_lt_of_cell? _ _ h
theorem ia{w:World}{a:Addr}(h:w.cell? a=some v)(o:Obj):(w.alloc o).cell? a=some v:=by
 rw[World.cell?_alloc_lt _ _ _ (aQ h)];exact h
def Row(w:World)(b:Nat)(t:TypeId)(l:List Value):Prop:=w.heap[b]?=some (.cells l.toArray t (0,0))
theorem Row.lt{w:World}{b:Nat}{t:TypeId}{l:List Value}(h:Row w b t l):b<w.heap.size:=(Array.getElem?_eq_some_iff.1 h).1
theorem Row.cell{w:World}{b:Nat}{t:TypeId}{l:List Value}(h:Row w b t l){i:Nat}(c:l[i]?=some v):w.cell? ⟨b,i,none⟩=some v:=by
 rw[cell_of_row w b i _ _ _ h];simpa using c
theorem Row.free{w:World}{b:Nat}{t:TypeId}{l:List Value}(h:Row w b t l)(i:Nat):w.frozen? ⟨b,i,none⟩=false:=by
 unfold Row at h;unfold World.frozen?;simp only[h];simp
theorem Row.ch{w:World}{b:Nat}{t:TypeId}{l:List Value}(h:Row w b t l)(c:Ch D w w')(d:¬D b):Row w' b t l:=by
 unfold Row;rw[c.same b h.lt d];exact h
theorem Row.drew{w:World}{b:Nat}{t:TypeId}{l:List Value}(h:Row w b t l):Row w.drew b t l:=h
theorem Row.drewN{w:World}{b:Nat}{t:TypeId}{l:List Value}(h:Row w b t l)(n:Nat):Row (w.drewN n) b t l:=h
theorem Row.alloc{w:World}{b:Nat}{t:TypeId}{l:List Value}(h:Row w b t l)(o:Obj):Row (w.alloc o) b t l:=by
 unfold Row;rw[Below.heap_alloc _ _ _ h.lt];exact h
theorem Row.other{w:World}{b:Nat}{t:TypeId}{l:List Value}(h:Row w b t l)(c:b≠p.block)(v:Value):Row (w.setCell p v) b t l:=by
 unfold Row;rw[Below.heap_setCell _ _ _ _ c];exact h
theorem Row.set{w:World}{b:Nat}{t:TypeId}{l:List Value}(h:Row w b t l)(i:Nat)(v:Value):Row (w.setCell ⟨b,i,none⟩ v) b t (l.set i v):=by
 unfold Row World.setCell;unfold Row at h;have hb:=(Array.getElem?_eq_some_iff.1 h).1;have c:=(Array.getElem?_eq_some_iff.1 h).2;rw[Array.getElem?_eq_some_iff];refine⟨by simpa using hb,?_⟩;rw[Array.getElem_modify_self,c];simp
theorem Row.bc{w:World}{b:Nat}{t:TypeId}{l l':List Value}(h:Row w b t l)(i:Nat)(v:Value)(c:l.set i v=l'):Row (w.setCell ⟨b,i,none⟩ v) b t l':=c▸h.set i v
theorem Row.new(w:World)(c:Array Value)(t:TypeId):Row (w.alloc (.cells c t (0,0))) w.heap.size t c.toList:=by
 unfold Row;simpa using heap_alloc_new w (.cells c t (0,0))
theorem Row.ne{w:World}{a b:Nat}{s t:TypeId}{l k:List Value}(h:Row w a s l)(c:Row w b t k)(f:s≠t):a≠b:=by
 intro e;subst e;unfold Row at h c;rw[h]at c;injection c with c;injection c with _ d _;exact f d
def ez(v:Value)(w:World)(e:Ending)(w':World):Prop:=e=.returned v/\w=w'
theorem ez.mk{u:Value}{w:World}(h:v=u):ez v w (.returned u) w:=⟨by rw[h],rfl⟩
def ar(v:Value):Prop:=∃t x,v=.iface t x
theorem ar.mk(t:TypeId)(x:Value):ar (.iface t x):=⟨t,x,rfl⟩
theorem Z{p:Prop}(h:p):Hid p:=Lib.hid h
theorem nm{α:Sort _}(e:α):∃a,e=a:=⟨_,rfl⟩
theorem mn{α:Sort _}(e:α):∃a,a=e:=⟨_,rfl⟩
theorem Ch.k{w:World}{a:Addr}(h:Ch (fun _=>False) w w')(r:w.cell? a=some v):w'.cell? a=some v:=(h.cell (aQ r) id).trans r
theorem Ch.al{w:World}{o:Obj}(h:w.alloc o=w'):Ch D w w':=h▸(Ch.refl _ _).alloc _
theorem Ch.dN{w:World}{n:Nat}(h:w.drewN n=w'):Ch D w w':=h▸(Ch.refl _ _).drewN _
theorem Row.al{w:World}{l:List Value}{t:TypeId}(h:w.alloc (.cells l.toArray t)=w'):Row w' w.heap.size t l:=h▸Row.new w _ _
variable{w:World}{b:Nat}{t:TypeId}{l:List Value}
theorem Row.k(h:Row w b t l)(i:Nat)(c:l[i]?=some v):w.cell? ⟨b,i,none⟩=some v:=h.cell c
variable{x0 x1 x2 x3 x4 x5 x6 x7 x8 x9 y0:Value}
theorem Row.c1(h:Row w b t (x0::l)):w.cell? ⟨b,0,none⟩=some x0:=h.cell rfl
theorem Row.c2(h:Row w b t (x0::x1::l)):w.cell? ⟨b,0,none⟩=some x0/\w.cell? ⟨b,1,none⟩=some x1:=⟨h.cell rfl,h.cell rfl⟩
theorem Row.c3(h:Row w b t (x0::x1::x2::l)):w.cell? ⟨b,0,none⟩=some x0/\w.cell? ⟨b,1,none⟩=some x1/\w.cell? ⟨b,2,none⟩=some x2:=⟨h.cell rfl,h.cell rfl,h.cell rfl⟩
theorem Row.c4(h:Row w b t (x0::x1::x2::x3::l)):w.cell? ⟨b,0,none⟩=some x0/\w.cell? ⟨b,1,none⟩=some x1/\w.cell? ⟨b,2,none⟩=some x2/\w.cell? ⟨b,3,none⟩=some x3:=⟨h.cell rfl,h.cell rfl,h.cell rfl,h.cell rfl⟩
theorem Row.c5(h:Row w b t (x0::x1::x2::x3::x4::l)):w.cell? ⟨b,0,none⟩=some x0/\w.cell? ⟨b,1,none⟩=some x1/\w.cell? ⟨b,2,none⟩=some x2/\w.cell? ⟨b,3,none⟩=some x3/\w.cell? ⟨b,4,none⟩=some x4:=⟨h.cell rfl,h.cell rfl,h.cell rfl,h.cell rfl,h.cell rfl⟩
theorem Row.c6(h:Row w b t (x0::x1::x2::x3::x4::x5::l)):w.cell? ⟨b,0,none⟩=some x0/\w.cell? ⟨b,1,none⟩=some x1/\w.cell? ⟨b,2,none⟩=some x2/\w.cell? ⟨b,3,none⟩=some x3/\w.cell? ⟨b,4,none⟩=some x4/\w.cell? ⟨b,5,none⟩=some x5:=⟨h.cell rfl,h.cell rfl,h.cell rfl,h.cell rfl,h.cell rfl,h.cell rfl⟩
theorem Row.c7(h:Row w b t (x0::x1::x2::x3::x4::x5::x6::l)):w.cell? ⟨b,0,none⟩=some x0/\w.cell? ⟨b,1,none⟩=some x1/\w.cell? ⟨b,2,none⟩=some x2/\w.cell? ⟨b,3,none⟩=some x3/\w.cell? ⟨b,4,none⟩=some x4/\w.cell? ⟨b,5,none⟩=some x5/\w.cell? ⟨b,6,none⟩=some x6:=⟨h.cell rfl,h.cell rfl,h.cell rfl,h.cell rfl,h.cell rfl,h.cell rfl,h.cell rfl⟩
theorem Row.c9(h:Row w b t (x0::x1::x2::x3::x4::x5::x6::x7::x8::l)):w.cell? ⟨b,0,none⟩=some x0/\w.cell? ⟨b,1,none⟩=some x1/\w.cell? ⟨b,2,none⟩=some x2/\w.cell? ⟨b,3,none⟩=some x3/\w.cell? ⟨b,4,none⟩=some x4/\w.cell? ⟨b,5,none⟩=some x5/\w.cell? ⟨b,6,none⟩=some x6/\w.cell? ⟨b,7,none⟩=some x7/\w.cell? ⟨b,8,none⟩=some x8:=⟨h.cell rfl,h.cell rfl,h.cell rfl,h.cell rfl,h.cell rfl,h.cell rfl,h.cell rfl,h.cell rfl,h.cell rfl⟩
theorem Row.BJ(h:Row w b t (x0::x1::x2::x3::x4::x5::x6::x7::x8::x9::y0::l)):w.cell? ⟨b,0,none⟩=some x0/\w.cell? ⟨b,1,none⟩=some x1/\w.cell? ⟨b,2,none⟩=some x2/\w.cell? ⟨b,3,none⟩=some x3/\w.cell? ⟨b,4,none⟩=some x4/\w.cell? ⟨b,5,none⟩=some x5/\w.cell? ⟨b,6,none⟩=some x6/\w.cell? ⟨b,7,none⟩=some x7/\w.cell? ⟨b,8,none⟩=some x8/\w.cell? ⟨b,9,none⟩=some x9/\w.cell? ⟨b,10,none⟩=some y0:=⟨h.cell rfl,h.cell rfl,h.cell rfl,h.cell rfl,h.cell rfl,h.cell rfl,h.cell rfl,h.cell rfl,h.cell rfl,h.cell rfl,h.cell rfl⟩
instance(b k:Nat):CoeDep (Nat×Nat) (b,k) Addr:=⟨⟨b,k,none⟩⟩
instance(b k:Nat):CoeDep (Nat×Nat) (b,k) Value:=⟨.pointer (some ⟨b,k,none⟩)⟩
instance:CoeTail Int Value:=⟨.int .i64⟩
