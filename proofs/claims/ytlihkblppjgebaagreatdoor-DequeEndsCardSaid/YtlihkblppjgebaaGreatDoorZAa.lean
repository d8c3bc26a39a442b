import Derived.Test.YtlihkblppjgebaaGreatDoorProg
import Derived.WalkKit
import Derived.WalkSpells
import Derived.WalkLawsBesides
import Derived.Lib.Hide
import Derived.IntWalk
import Derived.StillTailTactics
import Derived.BigQuiet
import Derived.Deep.QuietTactic
import Derived.Deep.DeepCutAuto
import Derived.Deep.CutBlock
import Derived.Deep.RegionHeld3
import Derived.Deep.RegionLaw
import Derived.Deep.AppendLies
set_option linter.all false
set_option maxRecDepth 100000
set_option maxHeartbeats 8000000
namespace Go.Proofs.YtlihkblppjgebaaGreatDoor
open Go.RowKit Go.Proofs.Tryz
section
def aH(v:Int):Prop:=0<=v/\v<18446744073709551616
theorem aH.lo{v:Int}(h:aH v):0<=v:=h.1
theorem aH.hi{v:Int}(h:aH v):v<18446744073709551616:=h.2
structure Ch(D:Nat->Prop)(w w':World):Prop where
 os:w'.os=w.os
 tape:w'.tape=w.tape
 output:w'.output=w.output
 size:w.heap.size<=w'.heap.size
 same:∀b,b<w.heap.size->¬D b->w'.heap[b]?=w.heap[b]?
theorem Ch.refl(D:Nat->Prop)(w:World):Ch D w w:=⟨rfl,rfl,rfl,Nat.le_refl _,fun _ _ _=>rfl⟩
theorem Ch.trans{D:Nat->Prop}{a b c:World}(h:Ch D a b)(k:Ch D b c):Ch D a c:=
 ⟨k.os.trans h.os,k.tape.trans h.tape,k.output.trans h.output,Nat.le_trans h.size k.size,fun i e d=>(k.same i (Nat.lt_of_lt_of_le e h.size) d).trans (h.same i e d)⟩
theorem Ch.mono{D E:Nat->Prop}{a b:World}(h:Ch D a b)(c:∀i,D i->E i):Ch E a b:=
 ⟨h.os,h.tape,h.output,h.size,fun i e d=>h.same i e (fun k=>d (c i k))⟩
theorem Ch.drew{D:Nat->Prop}{a b:World}(h:Ch D a b):Ch D a b.drew:=⟨h.os,h.tape,h.output,h.size,h.same⟩
theorem Ch.drewN{D:Nat->Prop}{a b:World}(h:Ch D a b)(n:Nat):Ch D a (b.drewN n):=⟨h.os,h.tape,h.output,h.size,h.same⟩
theorem Ch.alloc{D:Nat->Prop}{a b:World}(h:Ch D a b)(e:Obj):Ch D a (b.alloc e):=
 ⟨h.os,h.tape,h.output,by simp;have:=h.size;omega,fun i c d=>by rw[Below.heap_alloc _ _ _ (Nat.lt_of_lt_of_le c h.size)];exact h.same i c d⟩
theorem Ch.set{D:Nat->Prop}{a b:World}(h:Ch D a b){p:Addr}(c:D p.block∨a.heap.size<=p.block)(u:Value):Ch D a (b.setCell p u):=
 ⟨h.os,h.tape,h.output,by simp;exact h.size,fun i f d=>by
  rw[Below.heap_setCell _ _ _ _ (fun e=>by subst e;rcases c with c|c;exact d c;omega)];exact h.same i f d⟩
theorem Ch.gS{D:Nat->Prop}{a b:World}(h:Ch D a b){p:Addr}(c:D p.block)(u:Value):Ch D a (b.setCell p u):=h.set (Or.inl c) u
theorem Ch.cell{D:Nat->Prop}{w w':World}(h:Ch D w w'){p:Addr}(c:p.block<w.heap.size)(a:¬D p.block):w'.cell? p=w.cell? p:=World.cell?_of_block (w:=w) (h.same p.block c a)
theorem Ch.frozen{D:Nat->Prop}{w w':World}(h:Ch D w w'){p:Addr}(c:p.block<w.heap.size)(a:¬D p.block):w'.frozen? p=w.frozen? p:=World.frozen?_of_block (w:=w) (h.same p.block c a)
theorem Ch.below{D:Nat->Prop}{w w':World}(h:Ch D w w'){B:Nat}(d:B<=w.heap.size)(a:∀b,D b->B<=b):Below B w w':=
 ⟨h.os,h.tape,h.output,h.size,fun k e=>h.same k (by omega) (fun c=>by have:=a k c;omega)⟩
theorem aE{w:World}{a:Addr}{v:Value}(h:w.cell? a=some v):a.block<w.heap.size:=World.block_lt_of_cell? _ _ h
theorem mU{w:World}{a:Addr}{v:Value}(h:w.cell? a=some v)(c:Obj):(w.alloc c).cell? a=some v:=by
 rw[World.cell?_alloc_lt _ _ _ (aE h)];exact h
def Row(w:World)(b:Nat)(t:TypeId)(l:List Value):Prop:=w.heap[b]?=some (.cells l.toArray t (0,0))
theorem Row.lt{w:World}{b:Nat}{t:TypeId}{l:List Value}(h:Row w b t l):b<w.heap.size:=(Array.getElem?_eq_some_iff.1 h).1
theorem Row.cell{w:World}{b:Nat}{t:TypeId}{l:List Value}(h:Row w b t l){i:Nat}{v:Value}(a:l[i]?=some v):w.cell? ⟨b,i,none⟩=some v:=by
 rw[cell_of_row w b i _ _ _ h];simpa using a
theorem Row.free{w:World}{b:Nat}{t:TypeId}{l:List Value}(h:Row w b t l)(i:Nat):w.frozen? ⟨b,i,none⟩=false:=by
 unfold Row at h;unfold World.frozen?;simp only[h];simp
theorem Row.ch{w w':World}{D:Nat->Prop}{b:Nat}{t:TypeId}{l:List Value}(h:Row w b t l)(c:Ch D w w')(a:¬D b):Row w' b t l:=by
 unfold Row;rw[c.same b h.lt a];exact h
theorem Row.drew{w:World}{b:Nat}{t:TypeId}{l:List Value}(h:Row w b t l):Row w.drew b t l:=h
theorem Row.drewN{w:World}{b:Nat}{t:TypeId}{l:List Value}(h:Row w b t l)(n:Nat):Row (w.drewN n) b t l:=h
theorem Row.alloc{w:World}{b:Nat}{t:TypeId}{l:List Value}(h:Row w b t l)(a:Obj):Row (w.alloc a) b t l:=by
 unfold Row;rw[Below.heap_alloc _ _ _ h.lt];exact h
theorem Row.other{w:World}{b:Nat}{t:TypeId}{l:List Value}(h:Row w b t l){p:Addr}(a:b≠p.block)(v:Value):Row (w.setCell p v) b t l:=by
 unfold Row;rw[Below.heap_setCell _ _ _ _ a];exact h
theorem Row.set{w:World}{b:Nat}{t:TypeId}{l:List Value}(h:Row w b t l)(i:Nat)(v:Value):Row (w.setCell ⟨b,i,none⟩ v) b t (l.set i v):=by
 unfold Row World.setCell;unfold Row at h;have hb:=(Array.getElem?_eq_some_iff.1 h).1;have a:=(Array.getElem?_eq_some_iff.1 h).2;rw[Array.getElem?_eq_some_iff];refine⟨by simpa using hb,?_⟩;rw[Array.getElem_modify_self,a];simp
theorem Row.a'{w:World}{b:Nat}{t:TypeId}{l l':List Value}(h:Row w b t l)(i:Nat)(v:Value)(a:l.set i v=l'):Row (w.setCell ⟨b,i,none⟩ v) b t l':=a▸h.set i v
theorem Row.new(w:World)(c:Array Value)(t:TypeId):Row (w.alloc (.cells c t (0,0))) w.heap.size t c.toList:=by
 unfold Row;simpa using heap_alloc_new w (.cells c t (0,0))
theorem Row.ne{w:World}{a b:Nat}{s t:TypeId}{l k:List Value}(h:Row w a s l)(c:Row w b t k)(f:s≠t):a≠b:=by
 intro e;subst e;unfold Row at h c;rw[h]at c;injection c with c;injection c with _ d _;exact f d
def d'(v:Value)(w:World)(e:Ending)(w':World):Prop:=e=.returned v/\w=w'
theorem d'.mk{v u:Value}{w:World}(h:v=u):d' v w (.returned u) w:=⟨by rw[h],rfl⟩
def aq(v:Value):Prop:=∃t x,v=.iface t x
theorem aq.mk(t:TypeId)(x:Value):aq (.iface t x):=⟨t,x,rfl⟩
theorem Z{p:Prop}(h:p):Hid p:=Lib.hid h
theorem nm{α:Sort _}(e:α):∃a,e=a:=⟨_,rfl⟩
theorem mn{α:Sort _}(e:α):∃a,a=e:=⟨_,rfl⟩
theorem Ch.k{w w':World}{a:Addr}{v:Value}(h:Ch (fun _=>False) w w')(r:w.cell? a=some v):w'.cell? a=some v:=(h.cell (aE r) (fun h=>h)).trans r
theorem Ch.al{D:Nat->Prop}{w w':World}{a:Obj}(h:w.alloc a=w'):Ch D w w':=h▸(Ch.refl _ _).alloc _
theorem Ch.dN{D:Nat->Prop}{w w':World}{n:Nat}(h:w.drewN n=w'):Ch D w w':=h▸(Ch.refl _ _).drewN _
theorem Row.al{w w':World}{l:List Value}{t:TypeId}(h:w.alloc (.cells l.toArray t)=w'):Row w' w.heap.size t l:=h▸Row.new w _ _
section
variable{w:World}{b:Nat}{t:TypeId}{l:List Value}
theorem Row.k(h:Row w b t l)(i:Nat){v:Value}(a:l[i]?=some v):w.cell? ⟨b,i,none⟩=some v:=h.cell a
variable{x0 x1 x2 x3 x4 x5 x6 x7 x8 x9 y0:Value}
theorem Row.c1(h:Row w b t (x0::l)):w.cell? ⟨b,0,none⟩=some x0:=h.cell rfl
theorem Row.c2(h:Row w b t (x0::x1::l)):w.cell? ⟨b,0,none⟩=some x0/\w.cell? ⟨b,1,none⟩=some x1:=⟨h.cell rfl,h.cell rfl⟩
theorem Row.c3(h:Row w b t (x0::x1::x2::l)):w.cell? ⟨b,0,none⟩=some x0/\w.cell? ⟨b,1,none⟩=some x1/\w.cell? ⟨b,2,none⟩=some x2:=⟨h.cell rfl,h.cell rfl,h.cell rfl⟩
theorem Row.c4(h:Row w b t (x0::x1::x2::x3::l)):w.cell? ⟨b,0,none⟩=some x0/\w.cell? ⟨b,1,none⟩=some x1/\w.cell? ⟨b,2,none⟩=some x2/\w.cell? ⟨b,3,none⟩=some x3:=⟨h.cell rfl,h.cell rfl,h.cell rfl,h.cell rfl⟩
theorem Row.c5(h:Row w b t (x0::x1::x2::x3::x4::l)):w.cell? ⟨b,0,none⟩=some x0/\w.cell? ⟨b,1,none⟩=some x1/\w.cell? ⟨b,2,none⟩=some x2/\w.cell? ⟨b,3,none⟩=some x3/\w.cell? ⟨b,4,none⟩=some x4:=⟨h.cell rfl,h.cell rfl,h.cell rfl,h.cell rfl,h.cell rfl⟩
theorem Row.c6(h:Row w b t (x0::x1::x2::x3::x4::x5::l)):w.cell? ⟨b,0,none⟩=some x0/\w.cell? ⟨b,1,none⟩=some x1/\w.cell? ⟨b,2,none⟩=some x2/\w.cell? ⟨b,3,none⟩=some x3/\w.cell? ⟨b,4,none⟩=some x4/\w.cell? ⟨b,5,none⟩=some x5:=⟨h.cell rfl,h.cell rfl,h.cell rfl,h.cell rfl,h.cell rfl,h.cell rfl⟩
theorem Row.c7(h:Row w b t (x0::x1::x2::x3::x4::x5::x6::l)):w.cell? ⟨b,0,none⟩=some x0/\w.cell? ⟨b,1,none⟩=some x1/\w.cell? ⟨b,2,none⟩=some x2/\w.cell? ⟨b,3,none⟩=some x3/\w.cell? ⟨b,4,none⟩=some x4/\w.cell? ⟨b,5,none⟩=some x5/\w.cell? ⟨b,6,none⟩=some x6:=⟨h.cell rfl,h.cell rfl,h.cell rfl,h.cell rfl,h.cell rfl,h.cell rfl,h.cell rfl⟩
theorem Row.c9(h:Row w b t (x0::x1::x2::x3::x4::x5::x6::x7::x8::l)):w.cell? ⟨b,0,none⟩=some x0/\w.cell? ⟨b,1,none⟩=some x1/\w.cell? ⟨b,2,none⟩=some x2/\w.cell? ⟨b,3,none⟩=some x3/\w.cell? ⟨b,4,none⟩=some x4/\w.cell? ⟨b,5,none⟩=some x5/\w.cell? ⟨b,6,none⟩=some x6/\w.cell? ⟨b,7,none⟩=some x7/\w.cell? ⟨b,8,none⟩=some x8:=⟨h.cell rfl,h.cell rfl,h.cell rfl,h.cell rfl,h.cell rfl,h.cell rfl,h.cell rfl,h.cell rfl,h.cell rfl⟩
theorem Row.Am(h:Row w b t (x0::x1::x2::x3::x4::x5::x6::x7::x8::x9::y0::l)):w.cell? ⟨b,0,none⟩=some x0/\w.cell? ⟨b,1,none⟩=some x1/\w.cell? ⟨b,2,none⟩=some x2/\w.cell? ⟨b,3,none⟩=some x3/\w.cell? ⟨b,4,none⟩=some x4/\w.cell? ⟨b,5,none⟩=some x5/\w.cell? ⟨b,6,none⟩=some x6/\w.cell? ⟨b,7,none⟩=some x7/\w.cell? ⟨b,8,none⟩=some x8/\w.cell? ⟨b,9,none⟩=some x9/\w.cell? ⟨b,10,none⟩=some y0:=⟨h.cell rfl,h.cell rfl,h.cell rfl,h.cell rfl,h.cell rfl,h.cell rfl,h.cell rfl,h.cell rfl,h.cell rfl,h.cell rfl,h.cell rfl⟩
end
instance(b k:Nat):CoeDep (Nat×Nat) (b,k) Addr:=⟨⟨b,k,none⟩⟩
instance(b k:Nat):CoeDep (Nat×Nat) (b,k) Value:=⟨.pointer (some ⟨b,k,none⟩)⟩
instance:CoeTail Int Value:=⟨.int .i64⟩
end
end Go.Proofs.YtlihkblppjgebaaGreatDoor
