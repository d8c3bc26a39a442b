import Derived.Test.YtfnilkpkogipfaaGreatDoorProg
import Derived.WalkKit
import Derived.WalkSpells
import Derived.WalkLawsBesides
import Derived.Lib.Hide
import Derived.IntWalk
import Derived.StillTailTactics
import Derived.BigQuiet
import Derived.Deep.QuietTactic
import Derived.Deep.DeepCutAuto
import Derived.Deep.CutBlock
import Derived.Deep.RegionHeld3
import Derived.Deep.RegionLaw
import Derived.Deep.AppendLies
set_option linter.unusedVariables false
set_option linter.unusedSimpArgs false
set_option maxRecDepth 100000
set_option maxHeartbeats 8000000
namespace Go.Proofs.YtfnilkpkogipfaaGreatDoor
open Go.RowKit Go.Proofs.Tryz
section
def aH(v:Int):Prop:=0<=v/\v<18446744073709551616
theorem aH.lo{v:Int}(h:aH v):0<=v:=h.1
theorem aH.hi{v:Int}(h:aH v):v<18446744073709551616:=h.2
structure Ch(D:Nat->Prop)(w w':World):Prop where
 os:w'.os=w.os
 tape:w'.tape=w.tape
 output:w'.output=w.output
 size:w.heap.size<=w'.heap.size
 same:∀b,b<w.heap.size->¬D b->w'.heap[b]?=w.heap[b]?
theorem Ch.refl(D:Nat->Prop)(w:World):Ch D w w:=⟨rfl,rfl,rfl,Nat.le_refl _,fun _ _ _=>rfl⟩
theorem Ch.trans{D:Nat->Prop}{a b c:World}(h:Ch D a b)(k:Ch D b c):Ch D a c:=
 ⟨k.os.trans h.os,k.tape.trans h.tape,k.output.trans h.output,Nat.le_trans h.size k.size,fun i e d=>(k.same i (Nat.lt_of_lt_of_le e h.size) d).trans (h.same i e d)⟩
theorem Ch.mono{D E:Nat->Prop}{a b:World}(h:Ch D a b)(c:∀i,D i->E i):Ch E a b:=
 ⟨h.os,h.tape,h.output,h.size,fun i e d=>h.same i e (fun k=>d (c i k))⟩
theorem Ch.drew{D:Nat->Prop}{a b:World}(h:Ch D a b):Ch D a b.drew:=⟨h.os,h.tape,h.output,h.size,h.same⟩
theorem Ch.drewN{D:Nat->Prop}{a b:World}(h:Ch D a b)(n:Nat):Ch D a (b.drewN n):=⟨h.os,h.tape,h.output,h.size,h.same⟩
theorem Ch.alloc{D:Nat->Prop}{a b:World}(h:Ch D a b)(e:Obj):Ch D a (b.alloc e):=
 ⟨h.os,h.tape,h.output,by simp;have:=h.size;omega,fun i c d=>by rw[Below.heap_alloc _ _ _ (Nat.lt_of_lt_of_le c h.size)];exact h.same i c d⟩
theorem Ch.set{D:Nat->Prop}{a b:World}(h:Ch D a b){p:Addr}(c:D p.block∨a.heap.size<=p.block)(u:Value):Ch D a (b.setCell p u):=
 ⟨h.os,h.tape,h.output,by simp;exact h.size,fun i f d=>by
  rw[Below.heap_setCell _ _ _ _ (fun e=>by subst e;rcases c with c|c;exact d c;omega)];exact h.same i f d⟩
theorem Ch.gS{D:Nat->Prop}{a b:World}(h:Ch D a b){p:Addr}(c:D p.block)(u:Value):Ch D a (b.setCell p u):=h.set (Or.inl c) u
theorem Ch.cell{D:Nat->Prop}{w w':World}(h:Ch D w w'){p:Addr}(c:p.block<w.heap.size)(a:¬D p.block):w'.cell? p=w.cell? p:=World.cell?_of_block (w:=w) (h.same p.block c a)
theorem Ch.frozen{D:Nat->Prop}{w w':World}(h:Ch D w w'){p:Addr}(c:p.block<w.heap.size)(a:¬D p.block):w'.frozen? p=w.frozen? p:=World.frozen?_of_block (w:=w) (h.same p.block c a)
theorem Ch.below{D:Nat->Prop}{w w':World}(h:Ch D w w'){B:Nat}(d:B<=w.heap.size)(a:∀b,D b->B<=b):Below B w w':=
 ⟨h.os,h.tape,h.output,h.size,fun k e=>h.same k (by omega) (fun c=>by have:=a k c;omega)⟩
theorem aE{w:World}{a:Addr}{v:Value}(h:w.cell? a=some v):a.block<w.heap.size:=World.block_lt_of_cell? _ _ h
theorem mU{w:World}{a:Addr}{v:Value}(h:w.cell? a=some v)(c:Obj):(w.alloc c).cell? a=some v:=by
 rw[World.cell?_alloc_lt _ _ _ (aE h)];exact h
def Row(w:World)(b:Nat)(t:TypeId)(l:List Value):Prop:=w.heap[b]?=some (.cells l.toArray t (0,0))
theorem Row.lt{w:World}{b:Nat}{t:TypeId}{l:List Value}(h:Row w b t l):b<w.heap.size:=(Array.getElem?_eq_some_iff.1 h).1
theorem Row.cell{w:World}{b:Nat}{t:TypeId}{l:List Value}(h:Row w b t l){i:Nat}{v:Value}(a:l[i]?=some v):w.cell? ⟨b,i,none⟩=some v:=by
 rw[cell_of_row w b i _ _ _ h];simpa using a
theorem Row.free{w:World}{b:Nat}{t:TypeId}{l:List Value}(h:Row w b t l)(i:Nat):w.frozen? ⟨b,i,none⟩=false:=by
 unfold Row at h;unfold World.frozen?;simp only[h];simp
theorem Row.ch{w w':World}{D:Nat->Prop}{b:Nat}{t:TypeId}{l:List Value}(h:Row w b t l)(c:Ch D w w')(a:¬D b):Row w' b t l:=by
 unfold Row;rw[c.same b h.lt a];exact h
theorem Row.drew{w:World}{b:Nat}{t:TypeId}{l:List Value}(h:Row w b t l):Row w.drew b t l:=h
theorem Row.drewN{w:World}{b:Nat}{t:TypeId}{l:List Value}(h:Row w b t l)(n:Nat):Row (w.drewN n) b t l:=h
theorem Row.alloc{w:World}{b:Nat}{t:TypeId}{l:List Value}(h:Row w b t l)(a:Obj):Row (w.alloc a) b t l:=by
 unfold Row;rw[Below.heap_alloc _ _ _ h.lt];exact h
theorem Row.other{w:World}{b:Nat}{t:TypeId}{l:List Value}(h:Row w b t l){p:Addr}(a:b≠p.block)(v:Value):Row (w.setCell p v) b t l:=by
 unfold Row;rw[Below.heap_setCell _ _ _ _ a];exact h
theorem Row.set{w:World}{b:Nat}{t:TypeId}{l:List Value}(h:Row w b t l)(i:Nat)(v:Value):Row (w.setCell ⟨b,i,none⟩ v) b t (l.set i v):=by
 unfold Row World.setCell;unfold Row at h;have hb:=(Array.getElem?_eq_some_iff.1 h).1;have a:=(Array.getElem?_eq_some_iff.1 h).2;rw[Array.getElem?_eq_some_iff];refine⟨by simpa using hb,?_⟩;rw[Array.getElem_modify_self,a];simp
theorem Row.a'{w:World}{b:Nat}{t:TypeId}{l l':List Value}(h:Row w b t l)(i:Nat)(v:Value)(a:l.set i v=l'):Row (w.setCell ⟨b,i,none⟩ v) b t l':=a▸h.set i v
theorem Row.new(w:World)(c:Array Value)(t:TypeId):Row (w.alloc (.cells c t (0,0))) w.heap.size t c.toList:=by
 unfold Row;simpa using heap_alloc_new w (.cells c t (0,0))
theorem Row.ne{w:World}{a b:Nat}{s t:TypeId}{l k:List Value}(h:Row w a s l)(c:Row w b t k)(f:s≠t):a≠b:=by
 intro e;subst e;unfold Row at h c;rw[h]at c;injection c with c;injection c with _ d _;exact f d
def d'(v:Value)(w:World)(e:Ending)(w':World):Prop:=e=.returned v/\w=w'
theorem d'.mk{v u:Value}{w:World}(h:v=u):d' v w (.returned u) w:=⟨by rw[h],rfl⟩
def aq(v:Value):Prop:=∃t x,v=.iface t x
theorem aq.mk(t:TypeId)(x:Value):aq (.iface t x):=⟨t,x,rfl⟩
theorem Z{p:Prop}(h:p):Hid p:=Lib.hid h
theorem nm{α:Sort _}(e:α):∃a,e=a:=⟨_,rfl⟩
theorem mn{α:Sort _}(e:α):∃a,a=e:=⟨_,rfl⟩
theorem Ch.k{w w':World}{a:Addr}{v:Value}(h:Ch (fun _=>False) w w')(r:w.cell? a=some v):w'.cell? a=some v:=(h.cell (aE r) (fun h=>h)).trans r
theorem Ch.al{D:Nat->Prop}{w w':World}{a:Obj}(h:w.alloc a=w'):Ch D w w':=h▸(Ch.refl _ _).alloc _
theorem Ch.dN{D:Nat->Prop}{w w':World}{n:Nat}(h:w.drewN n=w'):Ch D w w':=h▸(Ch.refl _ _).drewN _
theorem Row.al{w w':World}{l:List Value}{t:TypeId}(h:w.alloc (.cells l.toArray t)=w'):Row w' w.heap.size t l:=h▸Row.new w _ _
section
variable{w:World}{b:Nat}{t:TypeId}{l:List Value}
theorem Row.k(h:Row w b t l)(i:Nat){v:Value}(a:l[i]?=some v):w.cell? ⟨b,i,none⟩=some v:=h.cell a
variable{x0 x1 x2 x3 x4 x5 x6 x7 x8 x9 y0:Value}
theorem Row.c1(h:Row w b t (x0::l)):w.cell? ⟨b,0,none⟩=some x0:=h.cell rfl
theorem Row.c2(h:Row w b t (x0::x1::l)):w.cell? ⟨b,0,none⟩=some x0/\w.cell? ⟨b,1,none⟩=some x1:=⟨h.cell rfl,h.cell rfl⟩
theorem Row.c3(h:Row w b t (x0::x1::x2::l)):w.cell? ⟨b,0,none⟩=some x0/\w.cell? ⟨b,1,none⟩=some x1/\w.cell? ⟨b,2,none⟩=some x2:=⟨h.cell rfl,h.cell rfl,h.cell rfl⟩
theorem Row.c4(h:Row w b t (x0::x1::x2::x3::l)):w.cell? ⟨b,0,none⟩=some x0/\w.cell? ⟨b,1,none⟩=some x1/\w.cell? ⟨b,2,none⟩=some x2/\w.cell? ⟨b,3,none⟩=some x3:=⟨h.cell rfl,h.cell rfl,h.cell rfl,h.cell rfl⟩
theorem Row.c5(h:Row w b t (x0::x1::x2::x3::x4::l)):w.cell? ⟨b,0,none⟩=some x0/\w.cell? ⟨b,1,none⟩=some x1/\w.cell? ⟨b,2,none⟩=some x2/\w.cell? ⟨b,3,none⟩=some x3/\w.cell? ⟨b,4,none⟩=some x4:=⟨h.cell rfl,h.cell rfl,h.cell rfl,h.cell rfl,h.cell rfl⟩
theorem Row.c6(h:Row w b t (x0::x1::x2::x3::x4::x5::l)):w.cell? ⟨b,0,none⟩=some x0/\w.cell? ⟨b,1,none⟩=some x1/\w.cell? ⟨b,2,none⟩=some x2/\w.cell? ⟨b,3,none⟩=some x3/\w.cell? ⟨b,4,none⟩=some x4/\w.cell? ⟨b,5,none⟩=some x5:=⟨h.cell rfl,h.cell rfl,h.cell rfl,h.cell rfl,h.cell rfl,h.cell rfl⟩
theorem Row.c7(h:Row w b t (x0::x1::x2::x3::x4::x5::x6::l)):w.cell? ⟨b,0,none⟩=some x0/\w.cell? ⟨b,1,none⟩=some x1/\w.cell? ⟨b,2,none⟩=some x2/\w.cell? ⟨b,3,none⟩=some x3/\w.cell? ⟨b,4,none⟩=some x4/\w.cell? ⟨b,5,none⟩=some x5/\w.cell? ⟨b,6,none⟩=some x6:=⟨h.cell rfl,h.cell rfl,h.cell rfl,h.cell rfl,h.cell rfl,h.cell rfl,h.cell rfl⟩
theorem Row.c9(h:Row w b t (x0::x1::x2::x3::x4::x5::x6::x7::x8::l)):w.cell? ⟨b,0,none⟩=some x0/\w.cell? ⟨b,1,none⟩=some x1/\w.cell? ⟨b,2,none⟩=some x2/\w.cell? ⟨b,3,none⟩=some x3/\w.cell? ⟨b,4,none⟩=some x4/\w.cell? ⟨b,5,none⟩=some x5/\w.cell? ⟨b,6,none⟩=some x6/\w.cell? ⟨b,7,none⟩=some x7/\w.cell? ⟨b,8,none⟩=some x8:=⟨h.cell rfl,h.cell rfl,h.cell rfl,h.cell rfl,h.cell rfl,h.cell rfl,h.cell rfl,h.cell rfl,h.cell rfl⟩
theorem Row.Am(h:Row w b t (x0::x1::x2::x3::x4::x5::x6::x7::x8::x9::y0::l)):w.cell? ⟨b,0,none⟩=some x0/\w.cell? ⟨b,1,none⟩=some x1/\w.cell? ⟨b,2,none⟩=some x2/\w.cell? ⟨b,3,none⟩=some x3/\w.cell? ⟨b,4,none⟩=some x4/\w.cell? ⟨b,5,none⟩=some x5/\w.cell? ⟨b,6,none⟩=some x6/\w.cell? ⟨b,7,none⟩=some x7/\w.cell? ⟨b,8,none⟩=some x8/\w.cell? ⟨b,9,none⟩=some x9/\w.cell? ⟨b,10,none⟩=some y0:=⟨h.cell rfl,h.cell rfl,h.cell rfl,h.cell rfl,h.cell rfl,h.cell rfl,h.cell rfl,h.cell rfl,h.cell rfl,h.cell rfl,h.cell rfl⟩
end
instance(b k:Nat):CoeDep (Nat×Nat) (b,k) Addr:=⟨⟨b,k,none⟩⟩
instance(b k:Nat):CoeDep (Nat×Nat) (b,k) Value:=⟨.pointer (some ⟨b,k,none⟩)⟩
instance:CoeTail Int Value:=⟨.int .i64⟩
end
def gT(width v:Int):Int:=if width=32 then bits .and .u64 v 4294967295 else if width=64 then v else 0
theorem cj(v:Int):aH (IntKind.u64.wrap v):=by
 unfold aH IntKind.wrap IntKind.bits IntKind.signed;simp;omega
theorem iN(c:BinOp)(a b:Int):aH (bits c .u64 a b):=by
 unfold bits;split<;>exact cj _
theorem hX(n v:Int)(h:aH v):aH (gT n v):=by
 unfold gT;split
 ·exact iN _ _ _
 ·split
  ·exact h
  ·exact⟨by omega,by omega⟩
theorem j8(n v:Int)(w:World):Calls prog 122 #[n,.int .u64 v] w (d' (.int .u64 (gT n v)) w):=by
 by_cases a:n=32
 ·subst a
  go_enter func122,ntmps122
  go_wp2
  go_ret;exact d'.mk rfl
 ·by_cases b:n=64
  ·subst b
   go_enter func122,ntmps122
   go_wp2
   go_ret;exact d'.mk rfl
  ·have c:(n==32)=false:=by simpa using a
   have d:(n==64)=false:=by simpa using b
   have E:Hid (gT n v=0):=by unfold gT;rw[if_neg a,if_neg b];rfl
   go_enter func122,ntmps122
   go_wp2
   go_ret;exact d'.mk (by rw[E];rfl)
def sQ(n a b:Int):Int:=gT n (IntKind.u64.wrap (gT n a+gT n b))
def xO(n a b:Int):Int:=gT n (IntKind.u64.wrap (gT n a-gT n b))
theorem mD(n a b:Int):aH (sQ n a b):=hX _ _ (cj _)
theorem xP(n a b:Int):aH (xO n a b):=hX _ _ (cj _)
theorem pH(n a b:Int)(w:World):Calls prog 117 #[n,.int .u64 a,.int .u64 b] w (d' (.int .u64 (sQ n a b)) w):=by
 go_enter func117,ntmps117
 go_wp2_with (go_at_call 122;refine(j8 _ _ _).mono ?_;rintro e w' ⟨rfl,rfl⟩)
 go_ret;exact d'.mk rfl
theorem xQ(n a b:Int)(w:World):Calls prog 118 #[n,.int .u64 a,.int .u64 b] w (d' (.int .u64 (xO n a b)) w):=by
 go_enter func118,ntmps118
 go_wp2_with (go_at_call 122;refine(j8 _ _ _).mono ?_;rintro e w' ⟨rfl,rfl⟩)
 go_ret;exact d'.mk rfl
def qR(a b:Int):Bool:=bits .and .u64 a b !=0
theorem qS(a b:Int)(w:World):Calls prog 211 #[.int .u64 a,.int .u64 b] w (d' (.bool (qR a b)) w):=by
 go_enter func211,ntmps211
 go_wp2
 go_ret;exact d'.mk rfl
def bc(a n:Int):Int:=IntKind.u64.wrap (a*11400714819323198485)/4294967296%n
theorem k6(a:Int)(n:Nat)(h:1<=n):0<=bc a n/\bc a n<n:=by
 unfold bc;exact⟨Int.emod_nonneg _ (by omega),Int.emod_lt_of_pos _ (by omega)⟩
theorem bucket_eq(a:Int)(n:Nat)(h:1<=n)(b:n<=64):wrap64 ((IntKind.u64.wrap (a*11400714819323198485)/4294967296).tmod n)=bc a n:=by
 have c:=(cj (a*11400714819323198485)).lo;have hb:=k6 a n h;unfold bc at hb⊢;rw[Int.tmod_eq_emod_of_nonneg (by omega)];exact IntWalk.wrap64_in _ (by omega)
theorem mV(a:Int)(n:Nat)(h:1<=n)(b:n<=64)(w:World):Calls prog 149 #[.int .u64 a,.int .i64 n] w (d' (.int .i64 (bc a n)) w):=by
 have E:=Z (bucket_eq a n h b);go_enter func149,ntmps149
 go_wp2
 go_ret;refine d'.mk ?_;rw[<-E];rfl
def ag:Nat->Prop:=fun _=>False
def aK(g:Nat):Nat->Prop:=fun i=>i=g
def di(g k:Nat):Nat->Prop:=fun i=>i=g∨i=k
theorem Ch.only{g:Nat}{a b:World}(h:Ch (aK g) a b)(c:Nat)(v:Value):Ch (aK g) a (b.setCell (g,c) v):=h.gS (p:=⟨g,c,none⟩) (show g=g from rfl) v
theorem Ch.g8{g k:Nat}{a b:World}(h:Ch (di g k) a b)(c:Nat)(v:Value):Ch (di g k) a (b.setCell (g,c) v):=h.gS (p:=⟨g,c,none⟩) (show g=g∨g=k from Or.inl rfl) v
theorem Ch.jD{g k:Nat}{a b:World}(h:Ch (di g k) a b)(c:Nat)(v:Value):Ch (di g k) a (b.setCell (k,c) v):=h.gS (p:=⟨k,c,none⟩) (show k=g∨k=k from Or.inr rfl) v
theorem Ch.af{D:Nat->Prop}{a b:World}(h:Ch ag a b):Ch D a b:=h.mono (fun _ c=>c.elim)
def dt(v:Value)(w:World)(e:Ending)(w':World):Prop:=e=.returned v/\Ch ag w w'
theorem dt.mk{v u:Value}{w w':World}(h:v=u)(c:Ch ag w w'):dt v w (.returned u) w':=⟨by rw[h],c⟩
theorem Ch.bY{w w':World}(h:Below w.heap.size w w'):Ch ag w w':=⟨h.os,h.tape,h.output,h.size,fun b hb _=>h.block b hb⟩
theorem Ch.gU{w w':World}(h:Ch ag w w'):Below w.heap.size w w':=h.below (Nat.le_refl _) (fun _ hb=>hb.elim)
def j9(b:Bool)(w:World)(e:Ending)(w':World):Prop:=e=.returned (.bool b)/\w=w'
theorem j9.mk{b c:Bool}{w:World}(h:b=c):j9 b w (.returned (.bool c)) w:=⟨by rw[h],rfl⟩
structure aV where
 op:Int
 a:Int
 b:Int
 c:Int
 v:Int
 m:Int
 wh:Int
 deriving DecidableEq,Repr,Inhabited
def aC(X:aV):Array Value:=#[X.op,X.a,X.b,X.c,.int .u64 X.v,X.m,X.wh]
def aI(X:aV):Value:=.agg (aC X)
def b'(l:List aV):List Value:=l.flatMap fun X=>(aC X).toList
theorem j'(X:aV)(l:List aV):b' (X::l)=(aC X).toList++b' l:=rfl
theorem lU(l:List aV):(b' l).length=7*l.length:=by
 induction l with
 |nil=>rfl
 |cons x l ih=>rw[j',List.length_append,ih,List.length_cons];show 7+_=_;omega
theorem eJ:∀(l:List aV) (a:Nat) (X:aV),l[a]?=some X->(b' l)[a*7]?=some (.int .i64 X.op)/\(b' l)[a*7+1]?=some (.int .i64 X.a)/\(b' l)[a*7+2]?=some (.int .i64 X.b)/\(b' l)[a*7+3]?=some (.int .i64 X.c)/\(b' l)[a*7+4]?=some (.int .u64 X.v)/\(b' l)[a*7+5]?=some (.int .i64 X.m)/\(b' l)[a*7+6]?=some (.int .i64 X.wh)
 |[],a,X,h=>by simp at h
 |Y::l,0,X,h=>by
  have:Y=X:=by simpa using h
  subst this;exact⟨rfl,rfl,rfl,rfl,rfl,rfl,rfl⟩
 |Y::l,a+1,X,h=>by
  obtain⟨b,c,d,f,g,i,j⟩:=eJ l a X (by simpa using h);have e:(aC Y).toList.length=7:=rfl;rw[j'];refine⟨?_,?_,?_,?_,?_,?_,?_⟩<;>rw[List.getElem?_append_right (by rw[e];omega),e]
  ·rw[show(a+1)*7-7=a*7 from by omega];exact b
  ·rw[show(a+1)*7+1-7=a*7+1 from by omega];exact c
  ·rw[show(a+1)*7+2-7=a*7+2 from by omega];exact d
  ·rw[show(a+1)*7+3-7=a*7+3 from by omega];exact f
  ·rw[show(a+1)*7+4-7=a*7+4 from by omega];exact g
  ·rw[show(a+1)*7+5-7=a*7+5 from by omega];exact i
  ·rw[show(a+1)*7+6-7=a*7+6 from by omega];exact j
structure eE(w:World)(g:Nat)(l:List aV):Prop where
 lt:g<w.heap.size
 cell:∀j u,(b' l)[j]?=some u->w.cell? ⟨g,j,none⟩=some u
theorem e4{B g i:Nat}{w w':World}(h:Below B w w')(a:g<B):w'.cell? (g,i)=w.cell? (g,i):=by
 unfold World.cell?;simp only[h.block g a]
theorem eE.below{w w':World}{g:Nat}{l:List aV}(h:eE w g l)(hb:Below w.heap.size w w'):eE w' g l:=
 ⟨Nat.lt_of_lt_of_le h.lt hb.size,fun j u a=>(e4 hb h.lt).trans (h.cell j u a)⟩
theorem eE.ch{w w':World}{D:Nat->Prop}{g:Nat}{l:List aV}(h:eE w g l)(c:Ch D w w')(a:¬D g):eE w' g l:=
 ⟨Nat.lt_of_lt_of_le h.lt c.size,fun j u b=>(c.cell (p:=⟨g,j,none⟩) h.lt a).trans (h.cell j u b)⟩
theorem hs{w:World}{a:Obj}:(w.alloc a).heap[w.heap.size]?=some a:=heap_alloc_new w a
theorem bZ{P:Program}{f:FuncId}{args:Array Value}{w:World}{v:Value}(h:Calls P f args w (d' v w)):Calls P f args w (fun e w'=>e=.returned v/\w'=w):=
 h.mono fun _ _ ⟨a,b⟩=>⟨a,b.symm⟩
section
section
variable{α:Type}{enc:α->List Value}{k:Nat}
theorem a7(a:∀x,(enc x).length=k):∀(l:List α),(l.flatMap enc).length=l.length*k
 |[]=>by simp
 |x::l=>by rw[List.flatMap_cons,List.length_append,a,a7 a l,List.length_cons,Nat.succ_mul];omega
theorem bP(a:∀x,(enc x).length=k):∀{l:List α} {i:Nat} {x:α} {j:Nat},l[i]?=some x->j<k->(l.flatMap enc)[i*k+j]?=(enc x)[j]?
 |[],i,x,j,h,_=>by simp at h
 |y::l,0,x,j,h,b=>by
  have:y=x:=by simpa using h
  subst this;rw[List.flatMap_cons,Nat.zero_mul,Nat.zero_add,List.getElem?_append_left (by rw[a];exact b)]
 |y::l,i+1,x,j,h,b=>by
  have e:(i+1)*k=i*k+k:=Nat.succ_mul i k;rw[List.flatMap_cons,List.getElem?_append_right (by rw[a,e];omega),a,show(i+1)*k+j-k=i*k+j from by rw[e];omega];exact bP a (by simpa using h) b
theorem fg(a:∀x,(enc x).length=k):∀{l:List α} {i:Nat} {x y:α} {j:Nat} {v:Value},l[i]?=some x->j<k->(enc x).set j v=enc y->(l.flatMap enc).set (i*k+j) v=(l.set i y).flatMap enc
 |[],i,x,y,j,v,h,_,_=>by simp at h
 |z::l,0,x,y,j,v,h,c,b=>by
  have:z=x:=by simpa using h
  subst this;rw[List.flatMap_cons,Nat.zero_mul,Nat.zero_add,List.set_append_left _ _ (by rw[a];exact c),b];simp
 |z::l,i+1,x,y,j,v,h,c,b=>by
  have e:(i+1)*k=i*k+k:=Nat.succ_mul i k;rw[List.flatMap_cons,List.set_append_right _ _ (by rw[a,e];omega),a,show(i+1)*k+j-k=i*k+j from by rw[e];omega,fg a (by simpa using h) c b];simp
end
theorem Row.at{α:Type}{enc:α->List Value}{k:Nat}{w:World}{b:Nat}{t:TypeId}{l:List α}(h:Row w b t (l.flatMap enc))(c:∀x,(enc x).length=k){i:Nat}{x:α}(e:l[i]?=some x){j:Nat}{v:Value}(a:j<k)(d:(enc x)[j]?=some v):w.cell? (b,i*k+j)=some v:=
 h.cell ((bP c e a).trans d)
theorem Row.put{α:Type}{enc:α->List Value}{k:Nat}{w:World}{b:Nat}{t:TypeId}{l:List α}(h:Row w b t (l.flatMap enc))(c:∀x,(enc x).length=k){i:Nat}{x y:α}(e:l[i]?=some x){j:Nat}{v:Value}(a:j<k)(d:(enc x).set j v=enc y):Row (w.setCell (b,i*k+j) v) b t ((l.set i y).flatMap enc):=
 h.a' _ _ (fg c e a d)
end
structure lV where
 id:Int
 state:Int
 home:Int
 value:Int
 bI:Int
 loose:Bool
 aJ:Bool
 deriving DecidableEq,Repr,Inhabited
def lV.zero:lV:=⟨0,0,0,0,0,false,false⟩
def lV.cells(t:lV):List Value:=[.int .u64 t.id,.int .i64 t.state,.int .u64 t.home,.int .u64 t.value,.int .u64 t.bI,.bool t.loose,.bool t.aJ]
def lV.val(t:lV):Value:=.agg #[.int .u64 t.id,.int .i64 t.state,.int .u64 t.home,.int .u64 t.value,.int .u64 t.bI,.bool t.loose,.bool t.aJ]
structure aD where
 times:Int
 taken:Bool
 bE:Bool
 t:lV
 deriving DecidableEq,Repr,Inhabited
def aD.cells(r:aD):List Value:=[.int .u64 r.times,.bool r.taken,.bool r.bE,.int .u64 r.t.id,.int .i64 r.t.state,.int .u64 r.t.home,.int .u64 r.t.value,.int .u64 r.t.bI,.bool r.t.loose,.bool r.t.aJ]
theorem aD.len(r:aD):r.cells.length=10:=rfl
structure aU(w:World)(b g:Nat)(l:List aD):Prop where
 head:Row w b 217 [.slice (some (g,0)) 64 64]
 rows:Row w g 251 (l.flatMap aD.cells)
 len:l.length=64
def dS(l:List aD)(id:Int):Option Nat:=
 match l[(id%64).toNat]? with
 |none=>none
 |some r=>if r.taken&&r.t.id==id then some (id%64).toNat else none
theorem eb{l:List aD}{id:Int}{p:Nat}(h:dS l id=some p):p=(id%64).toNat/\∃r,l[p]?=some r/\r.taken=true/\r.t.id=id:=by
 unfold dS at h;split at h
 ·cases h
 ·rename_i r c
  split at h
  ·rename_i a
   have b:(id%64).toNat=p:=by simpa using h
   rw[Bool.and_eq_true,beq_iff_eq]at a;subst b;exact⟨rfl,r,c,a.1,a.2⟩
  ·cases h
def b0(g:Nat):Option Nat->Value
 |none=> .pointer none
 |some p=> .pointer (some (g,p*10))
theorem e5(b g:Nat)(l:List aD)(id:Int)(hid:aH id)(w:World)(h:aU w b g l):Calls prog 160 #[(b,0),.int .u64 id] w (d' (b0 g (dS l id)) w):=by
 have q:=hid.lo;have y:=h.head.c1;obtain⟨p,e⟩:∃p:Nat,(p:Int)=id%64:=⟨(id%64).toNat,by omega⟩;have m:p<64:=by omega
 obtain⟨r,a⟩:∃r,l[p]?=some r:=⟨_,List.getElem?_eq_getElem (by rw[h.len];exact m)⟩;have f:(id%64).toNat=p:=by omega
 have s:=h.rows.at aD.len a (j:=1) (by omega) rfl;have t:=h.rows.at aD.len a (j:=3) (by omega) rfl;have z:=h.rows.lt;have E:=Z f;have v:=Z e;have x:=Z a;have c:Hid (dS l id=if r.taken&&r.t.id==id then some p else none):=Z (by unfold dS;rw[f,a]);have A:(p:Int)<64:=by omega
 have B:id.tmod 64=(p:Int):=by rw[Int.tmod_eq_emod_of_nonneg q];exact e.symm
 clear e f a h m;obtain⟨n,i⟩:=nm r.t.id;obtain⟨u,k⟩:=nm r.taken;rw[i,k]at c;rw[i]at t;rw[k]at s;clear i k;cases u
 ·go_enter func160,ntmps160
  go_wp2
  go_ret;exact d'.mk (by rw[c];rfl)
 ·by_cases d:n=id
  ·subst d
   go_enter func160,ntmps160
   go_wp2
   go_ret;exact d'.mk (by rw[c];simp[b0])
  ·have hb:(n !=id)=true:=by simpa using d
   have o:=Z d;clear d;go_enter func160,ntmps160
   go_wp2
   go_ret;exact d'.mk (by rw[c];simp[b0,o.out])
theorem a5(t:TypeId)(x:Value)(w:World):Calls prog 93 #[.iface t x] w (fun e w'=>e=.returned (.iface 197 (.pointer (some (w.heap.size,0))))/\w.alloc (.cells #[.string ⟨#[116,97,98,108,101]⟩,.int .i64 0,.iface t x] 199)=w'):=by
 go_enter func93,ntmps93
 go_wp2
 go_ret;exact⟨rfl,rfl⟩
theorem aU.ne{w:World}{b g:Nat}{l:List aD}(h:aU w b g l):b≠g:=h.head.ne h.rows (by decide)
theorem aU.alloc{w:World}{b g:Nat}{l:List aD}(h:aU w b g l)(a:Obj):aU (w.alloc a) b g l:=⟨h.head.alloc a,h.rows.alloc a,h.len⟩
theorem aU.put{w:World}{b g:Nat}{l:List aD}(h:aU w b g l){p:Nat}{r y:aD}(e:l[p]?=some r)(j:Nat)(d:j<10){a:Nat}(c:a=p*10+j){v:Value}(f:r.cells.set j v=y.cells):aU (w.setCell (g,a) v) b g (l.set p y):=by
 subst c;exact⟨h.head.other h.ne v,h.rows.put aD.len e d f,by simpa using h.len⟩
theorem aU.drew{w:World}{b g:Nat}{l:List aD}(h:aU w b g l):aU w.drew b g l:=⟨h.head,h.rows,h.len⟩
theorem aU.drewN{w:World}{b g:Nat}{l:List aD}(h:aU w b g l)(n:Nat):aU (w.drewN n) b g l:=⟨h.head,h.rows,h.len⟩
theorem aU.ch{w w':World}{D:Nat->Prop}{b g:Nat}{l:List aD}(h:aU w b g l)(c:Ch D w w')(hb:¬D b)(a:¬D g):aU w' b g l:=⟨h.head.ch c hb,h.rows.ch c a,h.len⟩
structure Cg(w:World)(g p:Nat)(r:aD):Prop where
 c0:w.cell? (g,p*10)=some (.int .u64 r.times)
 c1:w.cell? (g,p*10+1)=some (.bool r.taken)
 c2:w.cell? (g,p*10+2)=some (.bool r.bE)
 c3:w.cell? (g,p*10+3)=some (.int .u64 r.t.id)
 c4:w.cell? (g,p*10+4)=some (.int .i64 r.t.state)
 c5:w.cell? (g,p*10+5)=some (.int .u64 r.t.home)
 c6:w.cell? (g,p*10+6)=some (.int .u64 r.t.value)
 c7:w.cell? (g,p*10+7)=some (.int .u64 r.t.bI)
 c8:w.cell? (g,p*10+8)=some (.bool r.t.loose)
 c9:w.cell? (g,p*10+9)=some (.bool r.t.aJ)
 fr:∀j,w.frozen? ⟨g,j,none⟩=false
 lt:g<w.heap.size
theorem aU.cells{w:World}{b g:Nat}{l:List aD}(h:aU w b g l){p:Nat}{r:aD}(a:l[p]?=some r):Cg w g p r:=
 ⟨h.rows.at aD.len a (j:=0) (by omega) rfl,h.rows.at aD.len a (by omega) rfl,h.rows.at aD.len a (by omega) rfl,h.rows.at aD.len a (by omega) rfl,h.rows.at aD.len a (by omega) rfl,
  h.rows.at aD.len a (by omega) rfl,h.rows.at aD.len a (by omega) rfl,h.rows.at aD.len a (by omega) rfl,h.rows.at aD.len a (by omega) rfl,h.rows.at aD.len a (by omega) rfl,fun j=>h.rows.free j,h.rows.lt⟩
def mX(ok:Bool)(b g:Nat)(l':List aD)(w:World)(e:Ending)(w':World):Prop:=
 (∃v,e=.returned v/\(if ok then v=.nilIface else aq v))/\aU w' b g l'/\Ch (aK g) w w'
def fM(s:Int):Bool:=s==1||s==2||s==3
theorem vv(s:Int)(w:World):Calls prog 161 #[s] w (d' (.bool (fM s)) w):=by
 go_enter func161,ntmps161
 go_wp2
 all_goals
  go_ret;refine d'.mk ?_;unfold fM;simp[*]
def jJ(l:List aD)(id s:Int):Bool×List aD:=
 match dS l id with
 |none=>(false,l)
 |some p=>match l[p]? with
  |none=>(false,l)
  |some r=>if !fM s then(false,l)else if r.t.state==4 then(false,l)else(true,l.set p {r with t:={r.t with state:=s}})
theorem vw(b g:Nat)(l:List aD)(id s:Int)(hid:aH id)(w:World)(h:aU w b g l):
 Calls prog 139 #[(b,0),.int .u64 id,s] w (mX (jJ l id s).1 b g (jJ l id s).2 w):=by
 have H:=Z h;have c:=Z (e5 b g l id hid w h);cases a:dS l id with
 |none=>
  have E:Hid (jJ l id s=(false,l)):=Z (by unfold jJ;rw[a]);rw[a]at c;clear h a;go_enter func139,ntmps139
  go_wp2_with (first|(go_at_call 160;refine c.mono ?_;rintro e w' ⟨rfl,rfl⟩;simp only[b0])|(go_at_call 93;refine(a5 _ _ _).mono ?_;rintro e w' ⟨rfl,rfl⟩))
  go_ret;rw[E];exact⟨⟨_,rfl,aq.mk _ _⟩,H.alloc _,(Ch.refl _ _).alloc _⟩
 |some p=>
  obtain⟨-,r,i,-,-⟩:=eb a;obtain⟨m,n,o,q,u,v,x,y,z,A,fr,B⟩:=h.cells i;have E:Hid (jJ l id s=if !fM s then(false,l)else if r.t.state==4 then(false,l)else(true,l.set p {r with t:={r.t with state:=s}})):=Z (by unfold jJ;rw[a];simp only[i]);have k:=Z i;rw[a]at c;have d:=Z (vv s);clear h a i;cases f:fM s
  ·rw[f]at E d
   clear f;go_enter func139,ntmps139
   go_wp2_with (first|(go_at_call 160;refine c.mono ?_;rintro e w' ⟨rfl,rfl⟩;simp only[b0])|(go_at_call 93;refine(a5 _ _ _).mono ?_;rintro e w' ⟨rfl,rfl⟩)|(go_at_call 161;refine(d _).mono ?_;rintro e w' ⟨rfl,rfl⟩))
   go_ret;rw[E];exact⟨⟨_,rfl,aq.mk _ _⟩,H.alloc _,(Ch.refl _ _).alloc _⟩
  ·rw[f]at E d
   clear f;cases j:r.t.state==4
   ·rw[j]at E
    go_enter func139,ntmps139
    go_wp2_with (first|(go_at_call 160;refine c.mono ?_;rintro e w' ⟨rfl,rfl⟩;simp only[b0])|(go_at_call 93;refine(a5 _ _ _).mono ?_;rintro e w' ⟨rfl,rfl⟩)|(go_at_call 161;refine(d _).mono ?_;rintro e w' ⟨rfl,rfl⟩))
    go_ret;rw[E];exact⟨⟨_,rfl,rfl⟩,H.put k 4 (by omega) (by omega) rfl,(Ch.refl _ _).only _ _⟩
   ·rw[j]at E
    go_enter func139,ntmps139
    go_wp2_with (first|(go_at_call 160;refine c.mono ?_;rintro e w' ⟨rfl,rfl⟩;simp only[b0])|(go_at_call 93;refine(a5 _ _ _).mono ?_;rintro e w' ⟨rfl,rfl⟩)|(go_at_call 161;refine(d _).mono ?_;rintro e w' ⟨rfl,rfl⟩))
    go_ret;rw[E];exact⟨⟨_,rfl,aq.mk _ _⟩,H.alloc _,(Ch.refl _ _).alloc _⟩
theorem aU.jK{w:World}{b g:Nat}{l:List aD}{p:Nat}{r y:aD}(h:aU w b g (l.set p r))(e:p<l.length)(j:Nat)(d:j<10){a:Nat}(c:a=p*10+j){v:Value}(f:r.cells.set j v=y.cells):aU (w.setCell (g,a) v) b g (l.set p y):=by
 have:=h.put (p:=p) (r:=r) (y:=y) (by simp[e]) j d c f
 rwa [List.set_set]at this
theorem jL{α:Type}{l:List α}{p:Nat}{r:α}(h:l[p]?=some r):l.set p r=l:=by
 obtain⟨b,a⟩:=List.getElem?_eq_some_iff.1 h;subst a;simp
theorem mE{α:Type}{l:List α}{p:Nat}{y:α}(h:p<l.length):(l.set p y)[p]?=some y:=by simp[h]
theorem aU.start{w:World}{b g:Nat}{l:List aD}(h:aU w b g l){p:Nat}{r:aD}(a:l[p]?=some r):aU w b g (l.set p r)/\p<l.length:=⟨(jL a).symm▸h,(List.getElem?_eq_some_iff.1 a).1⟩
theorem aU.s0{w:World}{b g:Nat}{l:List aD}{p:Nat}{r:aD}(h:aU w b g (l.set p r))(d:p<l.length){a:Nat}{v:Int}(c:a=p*10+0):aU (w.setCell (g,a) (.int .u64 v)) b g (l.set p {r with times:=v}):=h.jK d 0 (by omega) c rfl
theorem aU.s1{w:World}{b g:Nat}{l:List aD}{p:Nat}{r:aD}(h:aU w b g (l.set p r))(d:p<l.length){a:Nat}{v:Bool}(c:a=p*10+1):aU (w.setCell (g,a) (.bool v)) b g (l.set p {r with taken:=v}):=h.jK d 1 (by omega) c rfl
theorem aU.s2{w:World}{b g:Nat}{l:List aD}{p:Nat}{r:aD}(h:aU w b g (l.set p r))(d:p<l.length){a:Nat}{v:Bool}(c:a=p*10+2):aU (w.setCell (g,a) (.bool v)) b g (l.set p {r with bE:=v}):=h.jK d 2 (by omega) c rfl
theorem aU.s3{w:World}{b g:Nat}{l:List aD}{p:Nat}{r:aD}(h:aU w b g (l.set p r))(d:p<l.length){a:Nat}{v:Int}(c:a=p*10+3):aU (w.setCell (g,a) (.int .u64 v)) b g (l.set p {r with t:={r.t with id:=v}}):=h.jK d 3 (by omega) c rfl
theorem aU.s4{w:World}{b g:Nat}{l:List aD}{p:Nat}{r:aD}(h:aU w b g (l.set p r))(d:p<l.length){a:Nat}{v:Int}(c:a=p*10+4):aU (w.setCell (g,a) (.int .i64 v)) b g (l.set p {r with t:={r.t with state:=v}}):=h.jK d 4 (by omega) c rfl
theorem aU.s5{w:World}{b g:Nat}{l:List aD}{p:Nat}{r:aD}(h:aU w b g (l.set p r))(d:p<l.length){a:Nat}{v:Int}(c:a=p*10+5):aU (w.setCell (g,a) (.int .u64 v)) b g (l.set p {r with t:={r.t with home:=v}}):=h.jK d 5 (by omega) c rfl
theorem aU.s6{w:World}{b g:Nat}{l:List aD}{p:Nat}{r:aD}(h:aU w b g (l.set p r))(d:p<l.length){a:Nat}{v:Int}(c:a=p*10+6):aU (w.setCell (g,a) (.int .u64 v)) b g (l.set p {r with t:={r.t with value:=v}}):=h.jK d 6 (by omega) c rfl
theorem aU.s7{w:World}{b g:Nat}{l:List aD}{p:Nat}{r:aD}(h:aU w b g (l.set p r))(d:p<l.length){a:Nat}{v:Int}(c:a=p*10+7):aU (w.setCell (g,a) (.int .u64 v)) b g (l.set p {r with t:={r.t with bI:=v}}):=h.jK d 7 (by omega) c rfl
theorem aU.s8{w:World}{b g:Nat}{l:List aD}{p:Nat}{r:aD}(h:aU w b g (l.set p r))(d:p<l.length){a:Nat}{v:Bool}(c:a=p*10+8):aU (w.setCell (g,a) (.bool v)) b g (l.set p {r with t:={r.t with loose:=v}}):=h.jK d 8 (by omega) c rfl
theorem aU.s9{w:World}{b g:Nat}{l:List aD}{p:Nat}{r:aD}(h:aU w b g (l.set p r))(d:p<l.length){a:Nat}{v:Bool}(c:a=p*10+9):aU (w.setCell (g,a) (.bool v)) b g (l.set p {r with t:={r.t with aJ:=v}}):=h.jK d 9 (by omega) c rfl
def aD.gone(r:aD):aD:={times:=r.times,taken:=false,bE:=false,t:=lV.zero}
def DB(b g:Nat)(l':List aD)(w:World)(e:Ending)(w':World):Prop:=e=.returned (.tuple #[])/\aU w' b g l'/\Ch (aK g) w w'
theorem hY(b g p:Nat)(l:List aD)(r:aD)(w:World)(h:aU w b g l)(c:l[p]?=some r):Calls prog 209 #[(g,p*10)] w (DB b g (l.set p r.gone) w):=by
 obtain⟨f,i,j,k,m,n,o,q,s,t,fr,u⟩:=h.cells c;obtain⟨d,a⟩:=h.start c;have e:=Z d;clear d c h;go_enter func209,ntmps209
 go_wp2
 go_end0
 refine⟨rfl,?_,?_⟩
 ·exact((((((((e.s1 a rfl).s2 a rfl).s3 a rfl).s4 a rfl).s5 a rfl).s6 a rfl).s7 a rfl).s8 a rfl).s9 a rfl
 ·exact(((((((((Ch.refl _ _).only _ _).only _ _).only _ _).only _ _).only _ _).only _ _).only _ _).only _ _).only _ _
def g9(l:List aD)(id a:Int):Bool×List aD:=
 match dS l id with
 |none=>(false,l)
 |some p=>match l[p]? with
  |none=>(false,l)
  |some r=>if a==0 then(false,l)else if r.t.bI !=0||r.t.loose then(false,l)else(true,l.set p {r with t:={r.t with bI:=a}})
def eZ(l:List aD)(id:Int):Bool×List aD:=
 match dS l id with
 |none=>(false,l)
 |some p=>match l[p]? with
  |none=>(false,l)
  |some r=>if r.t.bI !=0||r.t.loose then(false,l)else if r.t.state==4&& !r.t.aJ then(true,l.set p r.gone)else(true,l.set p {r with t:={r.t with loose:=true}})
def fW(l:List aD)(id v:Int):Bool×List aD:=
 match dS l id with
 |none=>(false,l)
 |some p=>match l[p]? with
  |none=>(false,l)
  |some r=>if r.t.state==4 then(false,l)else(true,l.set p {r with t:={r.t with state:=4,value:=v,aJ:=true}})
def eF(l:List aD)(id:Int):Bool×List aD:=
 match dS l id with
 |none=>(false,l)
 |some p=>match l[p]? with
  |none=>(false,l)
  |some r=>if !r.t.aJ then(false,l)else if r.t.loose||r.bE then(true,l.set p r.gone)else(true,l.set p {r with t:={r.t with aJ:=false}})
theorem qT(b g:Nat)(l:List aD)(id a:Int)(hid:aH id)(w:World)(h:aU w b g l):
 Calls prog 188 #[(b,0),.int .u64 id,.int .u64 a] w (mX (g9 l id a).1 b g (g9 l id a).2 w):=by
 have H:=Z h;have c:=Z (e5 b g l id hid w h);cases d:dS l id with
 |none=>
  have E:Hid (g9 l id a=(false,l)):=Z (by unfold g9;rw[d]);rw[d]at c;clear h d;go_enter func188,ntmps188
  go_wp2_with (first|(go_at_call 160;refine c.mono ?_;rintro e w' ⟨rfl,rfl⟩;simp only[b0])|(go_at_call 93;refine(a5 _ _ _).mono ?_;rintro e w' ⟨rfl,rfl⟩))
  go_ret;rw[E];exact⟨⟨_,rfl,aq.mk _ _⟩,H.alloc _,(Ch.refl _ _).alloc _⟩
 |some p=>
  obtain⟨-,r,f,-,-⟩:=eb d;obtain⟨s,u,v,x,y,z,A,B,C,D,fr,F⟩:=h.cells f;obtain⟨k,n⟩:=h.start f;have E:Hid (g9 l id a=if a==0 then(false,l)else if r.t.bI !=0||r.t.loose then(false,l)else(true,l.set p {r with t:={r.t with bI:=a}})):=Z (by unfold g9;rw[d];simp only[f]);have q:=Z f;have m:=Z k;rw[d]at c;clear h d f k;obtain⟨times,taken,G,⟨tid,state,home,value,o,loose,I⟩⟩:=r;dsimp only at*;cases i:a==0
  ·cases j:o !=0
   ·cases loose
    ·rw[i,j]at E
     go_enter func188,ntmps188
     go_wp2_with (first|(go_at_call 160;refine c.mono ?_;rintro e w' ⟨rfl,rfl⟩;simp only[b0])|(go_at_call 93;refine(a5 _ _ _).mono ?_;rintro e w' ⟨rfl,rfl⟩))
     go_ret;rw[E];exact⟨⟨_,rfl,rfl⟩,m.s7 n (by omega),(Ch.refl _ _).only _ _⟩
    ·rw[i,j]at E
     go_enter func188,ntmps188
     go_wp2_with (first|(go_at_call 160;refine c.mono ?_;rintro e w' ⟨rfl,rfl⟩;simp only[b0])|(go_at_call 93;refine(a5 _ _ _).mono ?_;rintro e w' ⟨rfl,rfl⟩))
     go_ret;rw[E];exact⟨⟨_,rfl,aq.mk _ _⟩,H.alloc _,(Ch.refl _ _).alloc _⟩
   ·rw[i,j]at E
    go_enter func188,ntmps188
    go_wp2_with (first|(go_at_call 160;refine c.mono ?_;rintro e w' ⟨rfl,rfl⟩;simp only[b0])|(go_at_call 93;refine(a5 _ _ _).mono ?_;rintro e w' ⟨rfl,rfl⟩))
    go_ret;rw[E];exact⟨⟨_,rfl,aq.mk _ _⟩,H.alloc _,(Ch.refl _ _).alloc _⟩
  ·rw[i]at E
   go_enter func188,ntmps188
   go_wp2_with (first|(go_at_call 160;refine c.mono ?_;rintro e w' ⟨rfl,rfl⟩;simp only[b0])|(go_at_call 93;refine(a5 _ _ _).mono ?_;rintro e w' ⟨rfl,rfl⟩))
   go_ret;rw[E];exact⟨⟨_,rfl,aq.mk _ _⟩,H.alloc _,(Ch.refl _ _).alloc _⟩
theorem sR(b g:Nat)(l:List aD)(id v:Int)(hid:aH id)(w:World)(h:aU w b g l):
 Calls prog 173 #[(b,0),.int .u64 id,.int .u64 v] w (mX (fW l id v).1 b g (fW l id v).2 w):=by
 have H:=Z h;have c:=Z (e5 b g l id hid w h);cases a:dS l id with
 |none=>
  have E:Hid (fW l id v=(false,l)):=Z (by unfold fW;rw[a]);rw[a]at c;clear h a;go_enter func173,ntmps173
  go_wp2_with (first|(go_at_call 160;refine c.mono ?_;rintro e w' ⟨rfl,rfl⟩;simp only[b0])|(go_at_call 93;refine(a5 _ _ _).mono ?_;rintro e w' ⟨rfl,rfl⟩))
  go_ret;rw[E];exact⟨⟨_,rfl,aq.mk _ _⟩,H.alloc _,(Ch.refl _ _).alloc _⟩
 |some p=>
  obtain⟨-,r,d,-,-⟩:=eb a;obtain⟨n,o,q,s,u,x,y,z,A,B,fr,C⟩:=h.cells d;obtain⟨i,f⟩:=h.start d;have E:Hid (fW l id v=if r.t.state==4 then(false,l)else(true,l.set p {r with t:={r.t with state:=4,value:=v,aJ:=true}})):=Z (by unfold fW;rw[a];simp only[d]);have m:=Z d;have k:=Z i;rw[a]at c;clear h a d i;obtain⟨times,taken,F,⟨tid,state,home,value,D,loose,G⟩⟩:=r;dsimp only at*;cases j:state==4
  ·rw[j]at E
   go_enter func173,ntmps173
   go_wp2_with (first|(go_at_call 160;refine c.mono ?_;rintro e w' ⟨rfl,rfl⟩;simp only[b0])|(go_at_call 93;refine(a5 _ _ _).mono ?_;rintro e w' ⟨rfl,rfl⟩))
   go_ret;rw[E];exact⟨⟨_,rfl,rfl⟩,((k.s4 f (by omega)).s6 f (by omega)).s9 f (by omega),(((Ch.refl _ _).only _ _).only _ _).only _ _⟩
  ·rw[j]at E
   go_enter func173,ntmps173
   go_wp2_with (first|(go_at_call 160;refine c.mono ?_;rintro e w' ⟨rfl,rfl⟩;simp only[b0])|(go_at_call 93;refine(a5 _ _ _).mono ?_;rintro e w' ⟨rfl,rfl⟩))
   go_ret;rw[E];exact⟨⟨_,rfl,aq.mk _ _⟩,H.alloc _,(Ch.refl _ _).alloc _⟩
structure aF where
 cells:List Int
 width:List Int
 there:Int
 count:Int
structure aO(w:World)(m c d:Nat)(S:aF):Prop where
 head:Row w m 163 [.slice (some (c,0)) S.cells.length S.cells.length,.slice (some (d,0)) S.cells.length S.cells.length,.int .i64 S.there,.int .i64 S.count]
 cells:Row w c 56 (S.cells.map (Value.int .u64))
 width:Row w d 5 (S.width.map (Value.int .u8))
 len:S.width.length=S.cells.length
 oP:S.cells.length<=65536
 ok:∀(i:Nat) (x:Int),S.width[i]?=some x->0<=x/\x<=255
 u64:∀(i:Nat) (x:Int),S.cells[i]?=some x->aH x
theorem aO.mc{w:World}{m c a:Nat}{S:aF}(h:aO w m c a S):m≠c:=h.head.ne h.cells (by decide)
theorem aO.md{w:World}{m c a:Nat}{S:aF}(h:aO w m c a S):m≠a:=h.head.ne h.width (by decide)
theorem aO.cd{w:World}{m c a:Nat}{S:aF}(h:aO w m c a S):c≠a:=h.cells.ne h.width (by decide)
theorem aO.alloc{w:World}{m c b:Nat}{S:aF}(h:aO w m c b S)(a:Obj):aO (w.alloc a) m c b S:=⟨h.head.alloc a,h.cells.alloc a,h.width.alloc a,h.len,h.oP,h.ok,h.u64⟩
theorem aO.drew{w:World}{m c a:Nat}{S:aF}(h:aO w m c a S):aO w.drew m c a S:=⟨h.head,h.cells,h.width,h.len,h.oP,h.ok,h.u64⟩
theorem aO.drewN{w:World}{m c a:Nat}{S:aF}(h:aO w m c a S)(n:Nat):aO (w.drewN n) m c a S:=⟨h.head,h.cells,h.width,h.len,h.oP,h.ok,h.u64⟩
theorem aO.ch{w w':World}{D:Nat->Prop}{m c a:Nat}{S:aF}(h:aO w m c a S)(k:Ch D w w')(e:¬D m)(b:¬D c)(d:¬D a):aO w' m c a S:=⟨h.head.ch k e,h.cells.ch k b,h.width.ch k d,h.len,h.oP,h.ok,h.u64⟩
theorem aO.count{w:World}{m c a:Nat}{S:aF}(h:aO w m c a S)(n:Int):aO (w.setCell (m,3) (.int .i64 n)) m c a {S with count:=n}:=
 ⟨h.head.a' _ _ rfl,h.cells.other (fun e=>h.mc e.symm) _,h.width.other (fun e=>h.md e.symm) _,h.len,h.oP,h.ok,h.u64⟩
theorem aO.lay{w:World}{m c b:Nat}{S:aF}(h:aO w m c b S)(i:Nat)(v:Int)(f:aH v):aO (w.setCell (c,i) (.int .u64 v)) m c b {S with cells:=S.cells.set i v}:=
 ⟨by simpa using h.head.other h.mc _,h.cells.a' _ _ (by rw[List.map_set]),h.width.other (fun e=>h.cd e.symm) _,by simpa using h.len,by simpa using h.oP,h.ok,fun j x a=>by
  by_cases e:i=j
  ·subst e
   rw[List.getElem?_set_self']at a;cases d:S.cells[i]? with
   |none=>rw[d]at a;simp at a
   |some y=>rw[d]at a;have:v=x:=by simpa using a
            subst this;exact f
  ·rw[List.getElem?_set_ne e]at a;exact h.u64 j x a⟩
def aF.wid(S:aF)(at_:Int):Int:=S.width.getD at_.toNat 0
theorem dQ(n:Int)(t:TypeId)(x:Value)(w:World):Calls prog 65 #[n,.iface t x] w (fun e w'=>e=.returned (.iface 197 (.pointer (some (w.heap.size,0))))/\w.alloc (.cells #[.string ⟨#[109,101,109]⟩,n,.iface t x] 199)=w'):=by
 go_enter func65,ntmps65
 go_wp2
 go_ret;exact⟨rfl,rfl⟩
theorem oQ(m c f:Nat)(S:aF)(a:Int)(g:aH a)(w:World)(h:aO w m c f S):
 Calls prog 121 #[(m,0),.int .u64 a] w (d' (.int .i64 (S.wid a)) w):=by
 obtain⟨i,j⟩:=h.head.c2;have l:=h.oP;obtain⟨k,rfl⟩:=Int.eq_ofNat_of_zero_le g.lo;clear g;obtain⟨N,b⟩:=mn S.cells.length;rw[<-b]at i j l;by_cases n:k<N
 ·obtain⟨x,d⟩:∃x,S.width[k]?=some x:=⟨_,List.getElem?_eq_getElem (by rw[h.len,<-b];exact n)⟩
  have e:=h.ok k x d;have E:Hid (S.wid k=x):=Z (by unfold aF.wid;rw[Int.toNat_natCast,List.getD_eq_getElem?_getD,d];rfl);have q:w.cell? (f,k)=some (.int .u8 x):=h.width.cell (by rw[List.getElem?_map,d];rfl);have o:(k:Int)<N:=by omega
  have p:=e.1;have r:=e.2;clear h b d e;go_enter func121,ntmps121
  go_wp2
  go_ret;exact d'.mk (by rw[E];rfl)
 ·have E:Hid (S.wid k=0):=Z (by unfold aF.wid;rw[Int.toNat_natCast,List.getD_eq_getElem?_getD,List.getElem?_eq_none (by rw[h.len];omega)];rfl)
  have o:¬(k:Int)<N:=by omega
  clear h b;go_enter func121,ntmps121
  go_wp2
  go_ret;exact d'.mk (by rw[E];rfl)
def aF.acc(S:aF)(kind a c v:Int):Option Int×aF:=
 if S.wid a=0 then(none,S)else
 let held:=S.cells.getD a.toNat 0
 let b:={S with count:=wrap64 (S.count+1)}
 if kind=3 then(some held,{b with cells:=b.cells.set a.toNat (sQ (S.wid a) held v)})
 else if kind=4 then
  if held=gT (S.wid a) c then(some held,{b with cells:=b.cells.set a.toNat (gT (S.wid a) v)})else(some held,b)
 else if kind=1∨kind=2 then(some held,{b with cells:=b.cells.set a.toNat (gT (S.wid a) v)})
 else(some held,b)
def dE(a b c:Nat):Nat->Prop:=fun i=>i=a∨i=b∨i=c
def k7(x:Option Int×aF)(m c a:Nat)(w:World)(e:Ending)(w':World):Prop:=
 (match x.1 with
  |some v=>e=.returned (.tuple #[.int .u64 v,.nilIface])
  |none=>∃v,e=.returned (.tuple #[.int .u64 0,v])/\aq v)/\aO w' m c a x.2/\Ch (di m c) w w'
theorem aO.held{w:World}{m c b:Nat}{S:aF}(h:aO w m c b S){k:Nat}(d:k<S.cells.length):w.cell? (c,k)=some (.int .u64 (S.cells.getD k 0))/\aH (S.cells.getD k 0):=by
 have a:S.cells[k]?=some (S.cells.getD k 0):=by rw[List.getD_eq_getElem?_getD,List.getElem?_eq_getElem d];rfl
 exact⟨h.cells.cell (by rw[List.getElem?_map,a];rfl),h.u64 _ _ a⟩
theorem gV(m c r:Nat)(S:aF)(kind a j v:Int)(Q:kind=0∨kind=1∨kind=2∨kind=3∨kind=4)(G:aH a)(T:aH v)(w:World)(h:aO w m c r S):
 Calls prog 74 #[(m,0),kind,.int .u64 a,.int .u64 j,.int .u64 v] w (k7 (S.acc kind a j v) m c r w):=by
 have H:=Z h;obtain⟨y,z⟩:=h.head.c2;have C:=h.head.k 3 rfl;have f3:=h.head.free 3;have V:=h.oP;have I:=h.mc;have ad:=h.head.lt;have a2:=h.cells.lt;obtain⟨k,rfl⟩:=Int.eq_ofNat_of_zero_le G.lo;have l:=Z (fun w h=>oQ m c r S k G w h);have a0:=Z G;have K:=Z T;clear G T;obtain⟨N,F⟩:=mn S.cells.length;obtain⟨g,s⟩:=nm (S.wid k);rw[s]at l;rw[<-F]at y z V;by_cases A:g=0
 ·subst A
  have E:Hid (S.acc kind k j v=(none,S)):=Z (by unfold aF.acc;rw[if_pos s]);clear h s F Q;have X:(k:Int)<=4611686018427387904∨¬(k:Int)<=4611686018427387904:=by omega
  rcases X with Y|Y
  all_goals
   go_enter func74,ntmps74
   go_wp2_with (first|(go_at_call 121;refine(l _ H).mono ?_;rintro e w' ⟨rfl,rfl⟩)|(go_at_call 65;refine(dQ _ _ _ _).mono ?_;rintro e w' ⟨rfl,rfl⟩))
   go_ret2;rw[E];exact⟨⟨_,rfl,aq.mk _ _⟩,H.alloc _,(Ch.refl _ _).alloc _⟩
 ·have ab:k<N:=by
   rcases Nat.lt_or_ge k N with O|O
   ·exact O
   ·exact absurd (by rw[<-s];unfold aF.wid;rw[Int.toNat_natCast,List.getD_eq_getElem?_getD,List.getElem?_eq_none (by rw[h.len];omega)];rfl) A
  obtain⟨q,R⟩:=h.held (k:=k) (by omega);have D:=h.cells.free k;have al:(g==0)=false:=by rw[beq_eq_false_iff_ne];exact A
  have a3:(k:Int)<N:=by omega
  have E:Hid (S.acc kind k j v=let held:=S.cells.getD k 0
   let o:={S with count:=wrap64 (S.count+1)}
   if kind=3 then(some held,{o with cells:=o.cells.set k (sQ g held v)})
   else if kind=4 then
    if held=gT g j then(some held,{o with cells:=o.cells.set k (gT g v)})else(some held,o)
   else if kind=1∨kind=2 then(some held,{o with cells:=o.cells.set k (gT g v)})
   else(some held,o)):=Z (by unfold aF.acc;rw[if_neg (by rw[s];exact A),s,Int.toNat_natCast])
  obtain⟨held,P⟩:=nm (S.cells.getD k 0);rw[P]at q E;have a1:=Z R;have t:=Z (fun n=>h.count n);have B:=Z F;clear h s F A P R;have x:=Z (fun v w=>j8 g v w);have U:=Z (fun a b w=>pH g a b w);rcases Q with rfl|rfl|rfl|rfl|rfl
  ·go_enter func74,ntmps74
   go_wp2_with (go_at_call 121;refine(l _ H).mono ?_;rintro e w' ⟨rfl,rfl⟩)
   go_ret2;rw[E];exact⟨rfl,t _,(Ch.refl _ _).g8 _ _⟩
  ·go_enter func74,ntmps74
   go_wp2_with (go_at_call 121;refine(l _ H).mono ?_;rintro e w' ⟨rfl,rfl⟩)
   obtain⟨w1,d⟩:=nm (w.setCell (m,3) (.int .i64 (wrap64 (S.count+1))));rw[d];have f:Hid (aO w1 m c r {S with count:=wrap64 (S.count+1)}):=Z (by rw[<-d];exact t _);have p:Hid (Ch (di m c) w w1):=Z (by rw[<-d];exact(Ch.refl _ _).g8 _ _);have d0:w1.cell? (m,0)=some (.slice (some (c,0)) N N):=by rw[B];exact f.head.cell (i:=0) rfl
   have M:w1.cell? (c,k)=some (.int .u64 held):=by rw[<-d,World.cell?_setCell_other _ _ _ _ (by intro e;exact I (congrArg Addr.block e))];exact q
   have L:=f.cells.free k;clear d q D y z C f3;refine wp_region_still_tail 8 (by kernel_rfl) (by kernel_rfl) ?_;simp only[List.take_succ_cons,List.take_zero,List.drop_succ_cons,List.drop_zero]
   repeat still_step
   still_call (bZ (x _ _))
   repeat still_step
   try refine wpStill_nil ?_
   change wpList _ _ _ _ _ w1.drew;go_wp2
   go_ret2;rw[E];exact⟨rfl,f.drew.lay k _ (hX _ _ K),p.drew.jD _ _⟩
  ·go_enter func74,ntmps74
   go_wp2_with (go_at_call 121;refine(l _ H).mono ?_;rintro e w' ⟨rfl,rfl⟩)
   obtain⟨w1,d⟩:=nm (w.setCell (m,3) (.int .i64 (wrap64 (S.count+1))));rw[d];have f:Hid (aO w1 m c r {S with count:=wrap64 (S.count+1)}):=Z (by rw[<-d];exact t _);have p:Hid (Ch (di m c) w w1):=Z (by rw[<-d];exact(Ch.refl _ _).g8 _ _);have d0:w1.cell? (m,0)=some (.slice (some (c,0)) N N):=by rw[B];exact f.head.cell (i:=0) rfl
   have M:w1.cell? (c,k)=some (.int .u64 held):=by rw[<-d,World.cell?_setCell_other _ _ _ _ (by intro e;exact I (congrArg Addr.block e))];exact q
   have L:=f.cells.free k;clear d q D y z C f3;refine wp_region_still_tail 8 (by kernel_rfl) (by kernel_rfl) ?_;simp only[List.take_succ_cons,List.take_zero,List.drop_succ_cons,List.drop_zero]
   repeat still_step
   still_call (bZ (x _ _))
   repeat still_step
   try refine wpStill_nil ?_
   change wpList _ _ _ _ _ w1.drew;go_wp2
   go_ret2;rw[E];exact⟨rfl,f.drew.lay k _ (hX _ _ K),p.drew.jD _ _⟩
  ·go_enter func74,ntmps74
   go_wp2_with (go_at_call 121;refine(l _ H).mono ?_;rintro e w' ⟨rfl,rfl⟩)
   obtain⟨w1,d⟩:=nm (w.setCell (m,3) (.int .i64 (wrap64 (S.count+1))));rw[d];have f:Hid (aO w1 m c r {S with count:=wrap64 (S.count+1)}):=Z (by rw[<-d];exact t _);have p:Hid (Ch (di m c) w w1):=Z (by rw[<-d];exact(Ch.refl _ _).g8 _ _);have d0:w1.cell? (m,0)=some (.slice (some (c,0)) N N):=by rw[B];exact f.head.cell (i:=0) rfl
   have M:w1.cell? (c,k)=some (.int .u64 held):=by rw[<-d,World.cell?_setCell_other _ _ _ _ (by intro e;exact I (congrArg Addr.block e))];exact q
   have L:=f.cells.free k;clear d q D y z C f3;refine wp_region_still_tail 9 (by kernel_rfl) (by kernel_rfl) ?_;simp only[List.take_succ_cons,List.take_zero,List.drop_succ_cons,List.drop_zero]
   repeat still_step
   still_call (bZ (U _ _ _))
   repeat still_step
   try refine wpStill_nil ?_
   change wpList _ _ _ _ _ w1.drew;go_wp2
   go_ret2;rw[E];exact⟨rfl,f.drew.lay k _ (mD _ _ _),p.drew.jD _ _⟩
  ·by_cases u:held=gT g j
   ·have W:(held !=gT g j)=false:=by rw[bne_eq_false_iff_eq];exact u
    have J:Hid (S.acc 4 k j v=(some held,{S with count:=wrap64 (S.count+1),cells:=S.cells.set k (gT g v)})):=Z (by rw[E];simp only[if_pos u];rfl);clear u;go_enter func74,ntmps74
    go_wp2_with (first|(go_at_call 121;refine(l _ H).mono ?_;rintro e w' ⟨rfl,rfl⟩)|(go_at_call 122;refine(x _ _).mono ?_;rintro e w' ⟨rfl,rfl⟩))
    obtain⟨w1,d⟩:=nm (w.setCell (m,3) (.int .i64 (wrap64 (S.count+1))));rw[d];have f:Hid (aO w1 m c r {S with count:=wrap64 (S.count+1)}):=Z (by rw[<-d];exact t _);have p:Hid (Ch (di m c) w w1):=Z (by rw[<-d];exact(Ch.refl _ _).g8 _ _);have d0:w1.cell? (m,0)=some (.slice (some (c,0)) N N):=by rw[B];exact f.head.cell (i:=0) rfl
    have M:w1.cell? (c,k)=some (.int .u64 held):=by rw[<-d,World.cell?_setCell_other _ _ _ _ (by intro e;exact I (congrArg Addr.block e))];exact q
    have L:=f.cells.free k;clear d q D y z C f3;refine wp_region_still_tail 8 (by kernel_rfl) (by kernel_rfl) ?_;simp only[List.take_succ_cons,List.take_zero,List.drop_succ_cons,List.drop_zero]
    repeat still_step
    still_call (bZ (x _ _))
    repeat still_step
    try refine wpStill_nil ?_
    change wpList _ _ _ _ _ w1.drew;go_wp2
    go_ret2;rw[J];exact⟨rfl,f.drew.lay k _ (hX _ _ K),p.drew.jD _ _⟩
   ·have W:(held !=gT g j)=true:=by rw[bne_iff_ne];exact u
    have J:Hid (S.acc 4 k j v=(some held,{S with count:=wrap64 (S.count+1)})):=Z (by rw[E];simp only[if_neg u];rfl);clear u;go_enter func74,ntmps74
    go_wp2_with (first|(go_at_call 121;refine(l _ H).mono ?_;rintro e w' ⟨rfl,rfl⟩)|(go_at_call 122;refine(x _ _).mono ?_;rintro e w' ⟨rfl,rfl⟩))
    go_ret2;rw[J];exact⟨rfl,t _,(Ch.refl _ _).g8 _ _⟩
theorem lW(m c j:Nat)(S:aF)(a:Int)(k:aH a)(w:World)(h:aO w m c j S):
 Calls prog 30 #[(m,0),.int .u64 a] w (k7 (S.acc 0 a 0 0) m c j w):=by
 have f:=Z (gV m c j S 0 a 0 0 (by omega) k ⟨by omega,by omega⟩ w h);clear h k;rcases l:S.acc 0 a 0 0 with⟨_|held,o⟩
 all_goals
  rw[l]at f;clear l
 ·go_enter func30,ntmps30
  go_wp2_with (go_at_call 74;refine f.mono ?_;rintro e w' ⟨⟨v,rfl,n⟩,d,b⟩;obtain⟨t,x,rfl⟩:=n;have i:=Z d;have g:=Z b;clear d b)
  go_ret2;exact⟨⟨_,rfl,aq.mk _ _⟩,i,g⟩
 ·go_enter func30,ntmps30
  go_wp2_with (go_at_call 74;refine f.mono ?_;rintro e w' ⟨rfl,d,b⟩;have i:=Z d;have g:=Z b;clear d b)
  go_ret2;exact⟨rfl,i,g⟩
theorem lX(m c k:Nat)(S:aF)(a v:Int)(l:aH a)(f:aH v)(w:World)(h:aO w m c k S):
 Calls prog 230 #[(m,0),.int .u64 a,.int .u64 v] w (k7 (S.acc 2 a 0 v) m c k w):=by
 have g:=Z (gV m c k S 2 a 0 v (by omega) l f w h);clear h l f;rcases n:S.acc 2 a 0 v with⟨_|held,o⟩
 all_goals
  rw[n]at g;clear n
 ·go_enter func230,ntmps230
  go_wp2_with (go_at_call 74;refine g.mono ?_;rintro e w' ⟨⟨v,rfl,f⟩,d,b⟩;obtain⟨t,x,rfl⟩:=f;have j:=Z d;have i:=Z b;clear d b)
  go_ret2;exact⟨⟨_,rfl,aq.mk _ _⟩,j,i⟩
 ·go_enter func230,ntmps230
  go_wp2_with (go_at_call 74;refine g.mono ?_;rintro e w' ⟨rfl,d,b⟩;have j:=Z d;have i:=Z b;clear d b)
  go_ret2;exact⟨rfl,j,i⟩
theorem mY(m c k:Nat)(S:aF)(a v:Int)(l:aH a)(f:aH v)(w:World)(h:aO w m c k S):
 Calls prog 140 #[(m,0),.int .u64 a,.int .u64 v] w (k7 (S.acc 3 a 0 v) m c k w):=by
 have g:=Z (gV m c k S 3 a 0 v (by omega) l f w h);clear h l f;rcases n:S.acc 3 a 0 v with⟨_|held,o⟩
 all_goals
  rw[n]at g;clear n
 ·go_enter func140,ntmps140
  go_wp2_with (go_at_call 74;refine g.mono ?_;rintro e w' ⟨⟨v,rfl,f⟩,d,b⟩;obtain⟨t,x,rfl⟩:=f;have j:=Z d;have i:=Z b;clear d b)
  go_ret2;exact⟨⟨_,rfl,aq.mk _ _⟩,j,i⟩
 ·go_enter func140,ntmps140
  go_wp2_with (go_at_call 74;refine g.mono ?_;rintro e w' ⟨rfl,d,b⟩;have j:=Z d;have i:=Z b;clear d b)
  go_ret2;exact⟨rfl,j,i⟩
theorem mZ(m c l:Nat)(S:aF)(a g v:Int)(n:aH a)(f:aH v)(w:World)(h:aO w m c l S):
 Calls prog 189 #[(m,0),.int .u64 a,.int .u64 g,.int .u64 v] w (k7 (S.acc 4 a g v) m c l w):=by
 have i:=Z (gV m c l S 4 a g v (by omega) n f w h);clear h n f;rcases o:S.acc 4 a g v with⟨_|held,p⟩
 all_goals
  rw[o]at i;clear o
 ·go_enter func189,ntmps189
  go_wp2_with (go_at_call 74;refine i.mono ?_;rintro e w' ⟨⟨v,rfl,f⟩,d,b⟩;obtain⟨t,x,rfl⟩:=f;have k:=Z d;have j:=Z b;clear d b)
  go_ret2;exact⟨⟨_,rfl,aq.mk _ _⟩,k,j⟩
 ·go_enter func189,ntmps189
  go_wp2_with (go_at_call 74;refine i.mono ?_;rintro e w' ⟨rfl,d,b⟩;have k:=Z d;have j:=Z b;clear d b)
  go_ret2;exact⟨rfl,k,j⟩
def pI(ok:Bool)(e:Ending):Prop:=∃v,e=.returned v/\(if ok then v=.nilIface else aq v)
theorem eo(m c k:Nat)(S:aF)(a v:Int)(l:aH a)(f:aH v)(w:World)(h:aO w m c k S):
 Calls prog 95 #[(m,0),.int .u64 a,.int .u64 v] w (fun e w'=>pI (S.acc 1 a 0 v).1.isSome e/\aO w' m c k (S.acc 1 a 0 v).2/\Ch (di m c) w w'):=by
 have g:=Z (gV m c k S 1 a 0 v (by omega) l f w h);clear h l f;rcases n:S.acc 1 a 0 v with⟨_|held,o⟩
 all_goals
  rw[n]at g;clear n
 ·go_enter func95,ntmps95
  go_wp2_with (go_at_call 74;refine g.mono ?_;rintro e w' ⟨⟨v,rfl,f⟩,d,b⟩;obtain⟨t,x,rfl⟩:=f;have j:=Z d;have i:=Z b;clear d b)
  go_ret;exact⟨⟨_,rfl,aq.mk _ _⟩,j,i⟩
 ·go_enter func95,ntmps95
  go_wp2_with (go_at_call 74;refine g.mono ?_;rintro e w' ⟨rfl,d,b⟩;have j:=Z d;have i:=Z b;clear d b)
  go_ret;exact⟨⟨_,rfl,rfl⟩,j,i⟩
def aF.iO(S:aF)(a n:Nat)(there:Bool):Bool:=decide (a+n<=S.cells.length)&&(List.range n).all fun i=>(S.width.getD (a+i) 0 !=0)==there
theorem jq{S:aF}{a n:Nat}{there:Bool}(h:S.iO a n there=true):a+n<=S.cells.length/\∀i,i<n->(S.width.getD (a+i) 0 !=0)=there:=by
 unfold aF.iO at h;rw[Bool.and_eq_true,decide_eq_true_eq,List.all_eq_true]at h;exact⟨h.1,fun i b=>by simpa using h.2 i (List.mem_range.2 b)⟩
theorem An{S:aF}{a n:Nat}{there:Bool}(b:a+n<=S.cells.length)(c:∀i,i<n->(S.width.getD (a+i) 0 !=0)=there):S.iO a n there=true:=by
 unfold aF.iO;rw[Bool.and_eq_true,decide_eq_true_eq,List.all_eq_true];exact⟨b,fun i d=>by simpa using c i (List.mem_range.1 d)⟩
theorem uw{S:aF}{a n:Nat}{there:Bool}{i:Nat}(b:i<n)(h:(S.width.getD (a+i) 0 !=0)≠there):S.iO a n there=false:=by
 cases hb:S.iO a n there
 ·rfl
 ·exact absurd ((jq hb).2 i b) h
theorem jM(m c y:Nat)(S:aF)(a n:Nat)(there:Bool)(I:a<=1000000)(Q:n<=1000000)(w:World)(h:aO w m c y S):
 Calls prog 66 #[(m,0),.int .i64 a,.int .i64 n,.bool there] w (fun e w'=>pI (S.iO a n there) e/\Ch ag w w'):=by
 obtain⟨C,D⟩:=h.head.c2;have F:=h.oP;have P:=h.head.lt;have J:=h.width.lt;obtain⟨N,g⟩:=mn S.cells.length;rw[<-g]at C D F;by_cases z:a+n<=N
 ·have A:Hid (∀j,j<n->w.cell? ⟨y,a+j,none⟩=some (.int .u8 (S.width.getD (a+j) 0))/\0<=S.width.getD (a+j) 0/\S.width.getD (a+j) 0<=255):=Z (fun j l=>by
   have f:S.width[a+j]?=some (S.width.getD (a+j) 0):=by rw[List.getD_eq_getElem?_getD,List.getElem?_eq_getElem (by rw[h.len,<-g];omega)];rfl
   exact⟨h.width.cell (by rw[List.getElem?_map,f];rfl),h.ok _ _ f⟩)
  have B:=Z g;have R:(a:Int)+n<=N:=by omega
  have E:¬((N:Int)-a<n):=by omega
  clear h g z;go_enter func66,ntmps66
  go_wp2
  go_loop [9] (fun s=>∃k:Nat,s=.int .i64 ((a+k:Nat):Int)/\k<=n/\Hid (∀j,j<k->(S.width.getD (a+j) 0 !=0)=there)) (fun s=>a+n-(intOf s).toNat)
  case atStart=>exact⟨0,by go_num,Nat.zero_le _,fun j l=>absurd l (Nat.not_lt_zero _)⟩
  case round=>
   obtain⟨k,rfl,M,p⟩:=hrel;by_cases u:k<n
   ·obtain⟨q,G,H⟩:=A k u
    obtain⟨x,f⟩:=nm (S.width.getD (a+k) 0);rw[f]at q G H;have o:=Z f;clear f;obtain⟨i,d⟩:=mn (a+k);rw[<-d]at q⊢;have K:(i:Int)<a+n:=by omega
    have L:(i:Int)<N:=by omega
    have v:=Z d;cases hb:(x !=0)
    ·cases there
     ·skip
      have r:Hid (∀j,j<k+1->(S.width.getD (a+j) 0 !=0)=false):=Z (fun j l=>by
       by_cases t:j=k
       ·subst t;rw[o];exact hb
       ·exact p j (by omega))
      clear d;go_wp2
      go_round
      case rel=>exact⟨k+1,by rw[show a+(k+1)=i+1 from by have:=v.out;omega];go_num,by omega,r⟩
      case measure=>simp[intOf];omega
     ·skip
      have b:Hid (S.iO a n true=false):=Z (uw u (by rw[o,hb];decide));clear d;go_wp2_with (go_at_call 65;refine(dQ _ _ _ _).mono ?_;rintro e w' ⟨rfl,rfl⟩)
      go_ret;rw[b];exact⟨⟨_,rfl,aq.mk _ _⟩,(Ch.refl _ _).alloc _⟩
    ·cases there
     ·skip
      have b:Hid (S.iO a n false=false):=Z (uw u (by rw[o,hb];decide));clear d;go_wp2_with (go_at_call 65;refine(dQ _ _ _ _).mono ?_;rintro e w' ⟨rfl,rfl⟩)
      go_ret;rw[b];exact⟨⟨_,rfl,aq.mk _ _⟩,(Ch.refl _ _).alloc _⟩
     ·skip
      have r:Hid (∀j,j<k+1->(S.width.getD (a+j) 0 !=0)=true):=Z (fun j l=>by
       by_cases t:j=k
       ·subst t;rw[o];exact hb
       ·exact p j (by omega))
      clear d;go_wp2
      go_round
      case rel=>exact⟨k+1,by rw[show a+(k+1)=i+1 from by have:=v.out;omega];go_num,by omega,r⟩
      case measure=>simp[intOf];omega
   ·have O:¬(((a+k:Nat):Int)<a+n):=by omega
    have b:Hid (S.iO a n there=true):=Z (An (by rw[<-B];omega) (fun j l=>p j (by omega)));go_wp2
    go_ret;rw[b];exact⟨⟨_,rfl,rfl⟩,Ch.refl _ _⟩
 ·have b:Hid (S.iO a n there=false):=Z (by
   cases hb:S.iO a n there
   ·rfl
   ·exact absurd (jq hb).1 (by omega))
  have E:(N:Int)-a<n:=by omega
  clear h g z;go_enter func66,ntmps66
  go_wp2_with (go_at_call 65;refine(dQ _ _ _ _).mono ?_;rintro e w' ⟨rfl,rfl⟩)
  go_ret;rw[b];exact⟨⟨_,rfl,aq.mk _ _⟩,(Ch.refl _ _).alloc _⟩
end Go.Proofs.YtfnilkpkogipfaaGreatDoor
