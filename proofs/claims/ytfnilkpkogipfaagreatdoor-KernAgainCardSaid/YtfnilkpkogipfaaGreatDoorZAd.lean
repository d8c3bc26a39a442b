import Derived.Laws.MakeOwn
import Derived.Test.YtfnilkpkogipfaaGreatDoorZAa
set_option linter.all false
set_option maxRecDepth 100000
set_option maxHeartbeats 8000000
namespace Go.Proofs.YtfnilkpkogipfaaGreatDoor
open Go.RowKit Go.Proofs.Tryz
structure iZ where
 id:Int
 state:Int
 home:Int
 value:Int
 bG:Int
 loose:Bool
 aH:Bool
 deriving DecidableEq,Repr,Inhabited
def iZ.zero:iZ:=⟨0,0,0,0,0,false,false⟩
def iZ.cells(t:iZ):List Value:=[.int .u64 t.id,.int .i64 t.state,.int .u64 t.home,.int .u64 t.value,.int .u64 t.bG,.bool t.loose,.bool t.aH]
def iZ.val(t:iZ):Value:=.agg #[.int .u64 t.id,.int .i64 t.state,.int .u64 t.home,.int .u64 t.value,.int .u64 t.bG,.bool t.loose,.bool t.aH]
structure aE where
 times:Int
 taken:Bool
 bI:Bool
 t:iZ
 deriving DecidableEq,Repr,Inhabited
def aE.cells(r:aE):List Value:=[.int .u64 r.times,.bool r.taken,.bool r.bI,.int .u64 r.t.id,.int .i64 r.t.state,.int .u64 r.t.home,.int .u64 r.t.value,.int .u64 r.t.bG,.bool r.t.loose,.bool r.t.aH]
theorem aE.len(r:aE):r.cells.length=10:=rfl
structure a5(w:World)(b g:Nat)(l:List aE):Prop where
 head:Row w b 217 [.slice (some (g,0)) 64 64]
 rows:Row w g 251 (l.flatMap aE.cells)
 len:l.length=64
def dX(l:List aE)(id:Int):Option Nat:=
 match l[(id%64).toNat]? with
 |none=>none
 |some r=>if r.taken&&r.t.id==id then some (id%64).toNat else none
theorem eh{l:List aE}{id:Int}{p:Nat}(h:dX l id=some p):p=(id%64).toNat/\∃r,l[p]?=some r/\r.taken=true/\r.t.id=id:=by
 unfold dX at h;split at h
 ·cases h
 ·rename_i r c
  split at h
  ·rename_i a
   have b:(id%64).toNat=p:=(by simpa using h);rw[Bool.and_eq_true,beq_iff_eq]at a;subst b;exact⟨rfl,r,c,a.1,a.2⟩
  ·cases h
def b6(g:Nat):Option Nat->Value
 |none=> .pointer none
 |some p=> .pointer (some (g,p*10))
theorem fc(b g:Nat)(l:List aE)(id:Int)(hid:aI id)(w:World)(h:a5 w b g l):Calls prog 160 #[(b,0),.int .u64 id] w (eg (b6 g (dX l id)) w):=by
 have q:=hid.lo;have y:=h.head.c1;obtain⟨p,e⟩:∃p:Nat,(p:Int)=id%64:=⟨(id%64).toNat,by omega⟩;have m:p<64:=by omega
 obtain⟨r,a⟩:∃r,l[p]?=some r:=⟨_,List.getElem?_eq_getElem (by rw[h.len];exact m)⟩;have f:(id%64).toNat=p:=by omega
 have s:=h.rows.at aE.len a (j:=1) (by omega) rfl;have t:=h.rows.at aE.len a (j:=3) (by omega) rfl;have z:=h.rows.lt;have E:=Z f;have v:=Z e;have x:=Z a;have c:Hid (dX l id=if r.taken&&r.t.id==id then some p else none):=Z (by unfold dX;rw[f,a]);have A:(p:Int)<64:=by omega
 have B:id.tmod 64=(p:Int):=by rw[Int.tmod_eq_emod_of_nonneg q];exact e.symm
 clear e f a h m;obtain⟨n,i⟩:=nm r.t.id;obtain⟨u,k⟩:=nm r.taken;rw[i,k]at c;rw[i]at t;rw[k]at s;clear i k;cases u
 ·go_in
  go_wp2
  go_ret;exact eg.mk (by rw[c];rfl)
 ·by_cases d:n=id
  ·subst d
   go_wp2
   go_ret;exact eg.mk (by rw[c];simp[b6])
  ·have hb:(n !=id)=true:=by simpa using d
   have o:=Z d;clear d;go_wp2
   go_ret;exact eg.mk (by rw[c];simp[b6,o.out])
theorem a7(t:TypeId)(x:Value)(w:World):Calls prog 93 #[.iface t x] w (fun e w'=>e=.returned (.iface 197 (.pointer (some (w.heap.size,0))))/\w.alloc (.cells #[.string ⟨#[116,97,98,108,101]⟩,.int .i64 0,.iface t x] 199)=w'):=by
 go_wp2
 go_ret;exact⟨rfl,rfl⟩
theorem a5.ne{w:World}{b g:Nat}{l:List aE}(h:a5 w b g l):b≠g:=h.head.ne h.rows (by decide)
theorem a5.alloc{w:World}{b g:Nat}{l:List aE}(h:a5 w b g l)(a:Obj):a5 (w.alloc a) b g l:=⟨h.head.alloc a,h.rows.alloc a,h.len⟩
theorem a5.put{w:World}{b g:Nat}{l:List aE}(h:a5 w b g l){p:Nat}{r y:aE}(e:l[p]?=some r)(j:Nat)(d:j<10){a:Nat}(c:a=p*10+j){v:Value}(f:r.cells.set j v=y.cells):a5 (w.setCell (g,a) v) b g (l.set p y):=by
 subst c;exact⟨h.head.other h.ne v,h.rows.put aE.len e d f,by simpa using h.len⟩
theorem a5.drewN{w:World}{b g:Nat}{l:List aE}(h:a5 w b g l)(n:Nat):a5 (w.drewN n) b g l:=⟨h.head,h.rows,h.len⟩
theorem a5.ch{w w':World}{D:Nat->Prop}{b g:Nat}{l:List aE}(h:a5 w b g l)(c:Ch D w w')(hb:¬D b)(a:¬D g):a5 w' b g l:=⟨h.head.ch c hb,h.rows.ch c a,h.len⟩
structure DI(w:World)(g p:Nat)(r:aE):Prop where
 c0:w.cell? (g,p*10)=some (.int .u64 r.times)
 c1:w.cell? (g,p*10+1)=some (.bool r.taken)
 c2:w.cell? (g,p*10+2)=some (.bool r.bI)
 c3:w.cell? (g,p*10+3)=some (.int .u64 r.t.id)
 c4:w.cell? (g,p*10+4)=some (.int .i64 r.t.state)
 c5:w.cell? (g,p*10+5)=some (.int .u64 r.t.home)
 c6:w.cell? (g,p*10+6)=some (.int .u64 r.t.value)
 c7:w.cell? (g,p*10+7)=some (.int .u64 r.t.bG)
 c8:w.cell? (g,p*10+8)=some (.bool r.t.loose)
 c9:w.cell? (g,p*10+9)=some (.bool r.t.aH)
 fr:∀j,w.frozen? ⟨g,j,none⟩=false
 lt:g<w.heap.size
theorem a5.cells{w:World}{b g:Nat}{l:List aE}(h:a5 w b g l){p:Nat}{r:aE}(a:l[p]?=some r):DI w g p r:=
 ⟨h.rows.at aE.len a (j:=0) (by omega) rfl,h.rows.at aE.len a (by omega) rfl,h.rows.at aE.len a (by omega) rfl,h.rows.at aE.len a (by omega) rfl,h.rows.at aE.len a (by omega) rfl,
  h.rows.at aE.len a (by omega) rfl,h.rows.at aE.len a (by omega) rfl,h.rows.at aE.len a (by omega) rfl,h.rows.at aE.len a (by omega) rfl,h.rows.at aE.len a (by omega) rfl,fun j=>h.rows.free j,h.rows.lt⟩
def ng(ok:Bool)(b g:Nat)(l':List aE)(w:World)(e:Ending)(w':World):Prop:=
 (∃v,e=.returned v/\(if ok then v=.nilIface else ar v))/\a5 w' b g l'/\Ch (aL g) w w'
def fS(s:Int):Bool:=s==1||s==2||s==3
theorem wB(s:Int)(w:World):Calls prog 161 #[s] w (eg (.bool (fS s)) w):=by
 go_wp2
 all_goals
  go_ret;refine eg.mk ?_;unfold fS;simp[*]
def j3(l:List aE)(id s:Int):Bool×List aE:=
 match dX l id with
 |none=>(false,l)
 |some p=>match l[p]? with
  |none=>(false,l)
  |some r=>if !fS s then(false,l)else if r.t.state==4 then(false,l)else(true,l.set p {r with t:={r.t with state:=s}})
theorem wC(b g:Nat)(l:List aE)(id s:Int)(hid:aI id)(w:World)(h:a5 w b g l):
 Calls prog 139 #[(b,0),.int .u64 id,s] w (ng (j3 l id s).1 b g (j3 l id s).2 w):=by
 have H:=Z h;have c:=Z (fc b g l id hid w h);cases a:dX l id with
 |none=>
  have E:Hid (j3 l id s=(false,l)):=Z (by unfold j3;rw[a]);rw[a]at c;clear h a;go_in
  go_wp2_with (first|(go_at_call 160;refine c.mono ?_;rintro e w' ⟨rfl,rfl⟩;simp only[b6])|(go_at_call 93;refine(a7 _ _ _).mono ?_;rintro e w' ⟨rfl,rfl⟩))
  go_ret;rw[E];exact⟨⟨_,rfl,ar.mk _ _⟩,H.alloc _,(Ch.refl _ _).alloc _⟩
 |some p=>
  obtain⟨-,r,i,-,-⟩:=eh a;obtain⟨m,n,o,q,u,v,x,y,z,A,fr,B⟩:=h.cells i;have E:Hid (j3 l id s=if !fS s then(false,l)else if r.t.state==4 then(false,l)else(true,l.set p {r with t:={r.t with state:=s}})):=Z (by unfold j3;rw[a];simp only[i]);have k:=Z i;rw[a]at c;have d:=Z (wB s);clear h a i;cases f:fS s
  ·rw[f]at E d
   clear f;go_in
   go_wp2_with (first|(go_at_call 160;refine c.mono ?_;rintro e w' ⟨rfl,rfl⟩;simp only[b6])|(go_at_call 93;refine(a7 _ _ _).mono ?_;rintro e w' ⟨rfl,rfl⟩)|(go_at_call 161;refine(d _).mono ?_;rintro e w' ⟨rfl,rfl⟩))
   go_ret;rw[E];exact⟨⟨_,rfl,ar.mk _ _⟩,H.alloc _,(Ch.refl _ _).alloc _⟩
  ·rw[f]at E d
   clear f;cases j:r.t.state==4
   ·rw[j]at E
    go_in
    go_wp2_with (first|(go_at_call 160;refine c.mono ?_;rintro e w' ⟨rfl,rfl⟩;simp only[b6])|(go_at_call 93;refine(a7 _ _ _).mono ?_;rintro e w' ⟨rfl,rfl⟩)|(go_at_call 161;refine(d _).mono ?_;rintro e w' ⟨rfl,rfl⟩))
    go_ret;rw[E];exact⟨⟨_,rfl,rfl⟩,H.put k 4 (by omega) (by omega) rfl,(Ch.refl _ _).only _ _⟩
   ·rw[j]at E
    go_in
    go_wp2_with (first|(go_at_call 160;refine c.mono ?_;rintro e w' ⟨rfl,rfl⟩;simp only[b6])|(go_at_call 93;refine(a7 _ _ _).mono ?_;rintro e w' ⟨rfl,rfl⟩)|(go_at_call 161;refine(d _).mono ?_;rintro e w' ⟨rfl,rfl⟩))
    go_ret;rw[E];exact⟨⟨_,rfl,ar.mk _ _⟩,H.alloc _,(Ch.refl _ _).alloc _⟩
theorem a5.j4{w:World}{b g:Nat}{l:List aE}{p:Nat}{r y:aE}(h:a5 w b g (l.set p r))(e:p<l.length)(j:Nat)(d:j<10){a:Nat}(c:a=p*10+j){v:Value}(f:r.cells.set j v=y.cells):a5 (w.setCell (g,a) v) b g (l.set p y):=by
 have:=h.put (p:=p) (r:=r) (y:=y) (by simp[e]) j d c f
 rwa [List.set_set]at this
theorem j5{α:Type}{l:List α}{p:Nat}{r:α}(h:l[p]?=some r):l.set p r=l:=by
 obtain⟨b,a⟩:=List.getElem?_eq_some_iff.1 h;subst a;simp
theorem mZ{α:Type}{l:List α}{p:Nat}{y:α}(h:p<l.length):(l.set p y)[p]?=some y:=by simp[h]
theorem a5.start{w:World}{b g:Nat}{l:List aE}(h:a5 w b g l){p:Nat}{r:aE}(a:l[p]?=some r):a5 w b g (l.set p r)/\p<l.length:=⟨(j5 a).symm▸h,(List.getElem?_eq_some_iff.1 a).1⟩
theorem a5.s0{w:World}{b g:Nat}{l:List aE}{p:Nat}{r:aE}(h:a5 w b g (l.set p r))(d:p<l.length){a:Nat}{v:Int}(c:a=p*10+0):a5 (w.setCell (g,a) (.int .u64 v)) b g (l.set p {r with times:=v}):=h.j4 d 0 (by omega) c rfl
theorem a5.s1{w:World}{b g:Nat}{l:List aE}{p:Nat}{r:aE}(h:a5 w b g (l.set p r))(d:p<l.length){a:Nat}{v:Bool}(c:a=p*10+1):a5 (w.setCell (g,a) (.bool v)) b g (l.set p {r with taken:=v}):=h.j4 d 1 (by omega) c rfl
theorem a5.s2{w:World}{b g:Nat}{l:List aE}{p:Nat}{r:aE}(h:a5 w b g (l.set p r))(d:p<l.length){a:Nat}{v:Bool}(c:a=p*10+2):a5 (w.setCell (g,a) (.bool v)) b g (l.set p {r with bI:=v}):=h.j4 d 2 (by omega) c rfl
theorem a5.s3{w:World}{b g:Nat}{l:List aE}{p:Nat}{r:aE}(h:a5 w b g (l.set p r))(d:p<l.length){a:Nat}{v:Int}(c:a=p*10+3):a5 (w.setCell (g,a) (.int .u64 v)) b g (l.set p {r with t:={r.t with id:=v}}):=h.j4 d 3 (by omega) c rfl
theorem a5.s4{w:World}{b g:Nat}{l:List aE}{p:Nat}{r:aE}(h:a5 w b g (l.set p r))(d:p<l.length){a:Nat}{v:Int}(c:a=p*10+4):a5 (w.setCell (g,a) (.int .i64 v)) b g (l.set p {r with t:={r.t with state:=v}}):=h.j4 d 4 (by omega) c rfl
theorem a5.s5{w:World}{b g:Nat}{l:List aE}{p:Nat}{r:aE}(h:a5 w b g (l.set p r))(d:p<l.length){a:Nat}{v:Int}(c:a=p*10+5):a5 (w.setCell (g,a) (.int .u64 v)) b g (l.set p {r with t:={r.t with home:=v}}):=h.j4 d 5 (by omega) c rfl
theorem a5.s6{w:World}{b g:Nat}{l:List aE}{p:Nat}{r:aE}(h:a5 w b g (l.set p r))(d:p<l.length){a:Nat}{v:Int}(c:a=p*10+6):a5 (w.setCell (g,a) (.int .u64 v)) b g (l.set p {r with t:={r.t with value:=v}}):=h.j4 d 6 (by omega) c rfl
theorem a5.s7{w:World}{b g:Nat}{l:List aE}{p:Nat}{r:aE}(h:a5 w b g (l.set p r))(d:p<l.length){a:Nat}{v:Int}(c:a=p*10+7):a5 (w.setCell (g,a) (.int .u64 v)) b g (l.set p {r with t:={r.t with bG:=v}}):=h.j4 d 7 (by omega) c rfl
theorem a5.s8{w:World}{b g:Nat}{l:List aE}{p:Nat}{r:aE}(h:a5 w b g (l.set p r))(d:p<l.length){a:Nat}{v:Bool}(c:a=p*10+8):a5 (w.setCell (g,a) (.bool v)) b g (l.set p {r with t:={r.t with loose:=v}}):=h.j4 d 8 (by omega) c rfl
theorem a5.s9{w:World}{b g:Nat}{l:List aE}{p:Nat}{r:aE}(h:a5 w b g (l.set p r))(d:p<l.length){a:Nat}{v:Bool}(c:a=p*10+9):a5 (w.setCell (g,a) (.bool v)) b g (l.set p {r with t:={r.t with aH:=v}}):=h.j4 d 9 (by omega) c rfl
def aE.gone(r:aE):aE:={times:=r.times,taken:=false,bI:=false,t:=iZ.zero}
def E'(b g:Nat)(l':List aE)(w:World)(e:Ending)(w':World):Prop:=e=.returned (.tuple #[])/\a5 w' b g l'/\Ch (aL g) w w'
theorem ir(b g p:Nat)(l:List aE)(r:aE)(w:World)(h:a5 w b g l)(c:l[p]?=some r):Calls prog 209 #[(g,p*10)] w (E' b g (l.set p r.gone) w):=by
 obtain⟨f,i,j,k,m,n,o,q,s,t,fr,u⟩:=h.cells c;obtain⟨d,a⟩:=h.start c;have e:=Z d;clear d c h;go_wp2
 go_end0
 refine⟨rfl,?_,?_⟩
 ·exact((((((((e.s1 a rfl).s2 a rfl).s3 a rfl).s4 a rfl).s5 a rfl).s6 a rfl).s7 a rfl).s8 a rfl).s9 a rfl
 ·exact(((((((((Ch.refl _ _).only _ _).only _ _).only _ _).only _ _).only _ _).only _ _).only _ _).only _ _).only _ _
def hs(l:List aE)(id a:Int):Bool×List aE:=
 match dX l id with
 |none=>(false,l)
 |some p=>match l[p]? with
  |none=>(false,l)
  |some r=>if a==0 then(false,l)else if r.t.bG !=0||r.t.loose then(false,l)else(true,l.set p {r with t:={r.t with bG:=a}})
def e8(l:List aE)(id:Int):Bool×List aE:=
 match dX l id with
 |none=>(false,l)
 |some p=>match l[p]? with
  |none=>(false,l)
  |some r=>if r.t.bG !=0||r.t.loose then(false,l)else if r.t.state==4&& !r.t.aH then(true,l.set p r.gone)else(true,l.set p {r with t:={r.t with loose:=true}})
def gj(l:List aE)(id v:Int):Bool×List aE:=
 match dX l id with
 |none=>(false,l)
 |some p=>match l[p]? with
  |none=>(false,l)
  |some r=>if r.t.state==4 then(false,l)else(true,l.set p {r with t:={r.t with state:=4,value:=v,aH:=true}})
def eM(l:List aE)(id:Int):Bool×List aE:=
 match dX l id with
 |none=>(false,l)
 |some p=>match l[p]? with
  |none=>(false,l)
  |some r=>if !r.t.aH then(false,l)else if r.t.loose||r.bI then(true,l.set p r.gone)else(true,l.set p {r with t:={r.t with aH:=false}})
theorem rv(b g:Nat)(l:List aE)(id a:Int)(hid:aI id)(w:World)(h:a5 w b g l):
 Calls prog 188 #[(b,0),.int .u64 id,.int .u64 a] w (ng (hs l id a).1 b g (hs l id a).2 w):=by
 have H:=Z h;have c:=Z (fc b g l id hid w h);cases d:dX l id with
 |none=>
  have E:Hid (hs l id a=(false,l)):=Z (by unfold hs;rw[d]);rw[d]at c;clear h d;go_in
  go_wp2_with (first|(go_at_call 160;refine c.mono ?_;rintro e w' ⟨rfl,rfl⟩;simp only[b6])|(go_at_call 93;refine(a7 _ _ _).mono ?_;rintro e w' ⟨rfl,rfl⟩))
  go_ret;rw[E];exact⟨⟨_,rfl,ar.mk _ _⟩,H.alloc _,(Ch.refl _ _).alloc _⟩
 |some p=>
  obtain⟨-,r,f,-,-⟩:=eh d;obtain⟨s,u,v,x,y,z,A,B,C,D,fr,F⟩:=h.cells f;obtain⟨k,n⟩:=h.start f;have E:Hid (hs l id a=if a==0 then(false,l)else if r.t.bG !=0||r.t.loose then(false,l)else(true,l.set p {r with t:={r.t with bG:=a}})):=Z (by unfold hs;rw[d];simp only[f]);have q:=Z f;have m:=Z k;rw[d]at c;clear h d f k;obtain⟨times,taken,G,⟨tid,state,home,value,o,loose,I⟩⟩:=r;dsimp only at*;cases i:a==0
  ·cases j:o !=0
   ·cases loose
    ·rw[i,j]at E
     go_in
     go_wp2_with (first|(go_at_call 160;refine c.mono ?_;rintro e w' ⟨rfl,rfl⟩;simp only[b6])|(go_at_call 93;refine(a7 _ _ _).mono ?_;rintro e w' ⟨rfl,rfl⟩))
     go_ret;rw[E];exact⟨⟨_,rfl,rfl⟩,m.s7 n (by omega),(Ch.refl _ _).only _ _⟩
    ·rw[i,j]at E
     go_in
     go_wp2_with (first|(go_at_call 160;refine c.mono ?_;rintro e w' ⟨rfl,rfl⟩;simp only[b6])|(go_at_call 93;refine(a7 _ _ _).mono ?_;rintro e w' ⟨rfl,rfl⟩))
     go_ret;rw[E];exact⟨⟨_,rfl,ar.mk _ _⟩,H.alloc _,(Ch.refl _ _).alloc _⟩
   ·rw[i,j]at E
    go_in
    go_wp2_with (first|(go_at_call 160;refine c.mono ?_;rintro e w' ⟨rfl,rfl⟩;simp only[b6])|(go_at_call 93;refine(a7 _ _ _).mono ?_;rintro e w' ⟨rfl,rfl⟩))
    go_ret;rw[E];exact⟨⟨_,rfl,ar.mk _ _⟩,H.alloc _,(Ch.refl _ _).alloc _⟩
  ·rw[i]at E
   go_in
   go_wp2_with (first|(go_at_call 160;refine c.mono ?_;rintro e w' ⟨rfl,rfl⟩;simp only[b6])|(go_at_call 93;refine(a7 _ _ _).mono ?_;rintro e w' ⟨rfl,rfl⟩))
   go_ret;rw[E];exact⟨⟨_,rfl,ar.mk _ _⟩,H.alloc _,(Ch.refl _ _).alloc _⟩
theorem tO(b g:Nat)(l:List aE)(id v:Int)(hid:aI id)(w:World)(h:a5 w b g l):
 Calls prog 173 #[(b,0),.int .u64 id,.int .u64 v] w (ng (gj l id v).1 b g (gj l id v).2 w):=by
 have H:=Z h;have c:=Z (fc b g l id hid w h);cases a:dX l id with
 |none=>
  have E:Hid (gj l id v=(false,l)):=Z (by unfold gj;rw[a]);rw[a]at c;clear h a;go_in
  go_wp2_with (first|(go_at_call 160;refine c.mono ?_;rintro e w' ⟨rfl,rfl⟩;simp only[b6])|(go_at_call 93;refine(a7 _ _ _).mono ?_;rintro e w' ⟨rfl,rfl⟩))
  go_ret;rw[E];exact⟨⟨_,rfl,ar.mk _ _⟩,H.alloc _,(Ch.refl _ _).alloc _⟩
 |some p=>
  obtain⟨-,r,d,-,-⟩:=eh a;obtain⟨n,o,q,s,u,x,y,z,A,B,fr,C⟩:=h.cells d;obtain⟨i,f⟩:=h.start d;have E:Hid (gj l id v=if r.t.state==4 then(false,l)else(true,l.set p {r with t:={r.t with state:=4,value:=v,aH:=true}})):=Z (by unfold gj;rw[a];simp only[d]);have m:=Z d;have k:=Z i;rw[a]at c;clear h a d i;obtain⟨times,taken,F,⟨tid,state,home,value,D,loose,G⟩⟩:=r;dsimp only at*;cases j:state==4
  ·rw[j]at E
   go_in
   go_wp2_with (first|(go_at_call 160;refine c.mono ?_;rintro e w' ⟨rfl,rfl⟩;simp only[b6])|(go_at_call 93;refine(a7 _ _ _).mono ?_;rintro e w' ⟨rfl,rfl⟩))
   go_ret;rw[E];exact⟨⟨_,rfl,rfl⟩,((k.s4 f (by omega)).s6 f (by omega)).s9 f (by omega),(((Ch.refl _ _).only _ _).only _ _).only _ _⟩
  ·rw[j]at E
   go_in
   go_wp2_with (first|(go_at_call 160;refine c.mono ?_;rintro e w' ⟨rfl,rfl⟩;simp only[b6])|(go_at_call 93;refine(a7 _ _ _).mono ?_;rintro e w' ⟨rfl,rfl⟩))
   go_ret;rw[E];exact⟨⟨_,rfl,ar.mk _ _⟩,H.alloc _,(Ch.refl _ _).alloc _⟩
def nr(op:Int):Bool:=op==12||op==13||op==14||op==15
def bz(x:aR)(n:Nat):Bool:=
 if nr x.op then decide (x.v<n)&&eB {x with v:=0,m:=0,wh:=0} 1 (x.op !=22)
 else eB {x with m:=0,wh:=0} 1 (x.op !=22)
theorem ns(y:aR)(g:Nat)(c:Bool)(w:World)(h:Row w g 121 (aG y).toList):
 Calls prog 115 #[.slice (some (g,0)) 1 1,.bool c] w (fun e w'=>(∃u,e=.returned u/\(if eB y 1 c then u=.nilIface else ar u))/\Ch ag w w'):=by
 have l:fo w g [y]:=⟨h.lt,fun j u k=>h.cell (by simpa[b2]using k)⟩;refine(pg [y] (some ⟨g,0,none⟩) 1 c (by simp) (by simp) w (fun _=>⟨g,rfl,l⟩)).mono ?_;intro e w' a;have hb:gS ([y]:List aR).length c [y] 0=if eB y 1 c then none else some 0:=rfl
 rw[hb]at a;cases d:eB y 1 c
 ·rw[d]at a
  obtain⟨b,i,_,_,f⟩:=a;exact⟨⟨_,i,ar.mk _ _⟩,Ch.b4 f⟩
 ·rw[d]at a
  exact⟨⟨_,a.1,rfl⟩,Ch.b4 a.2⟩
theorem rz(x:aR)(n:Nat)(z:n<=100000)(w:World):Calls prog 67 #[aK x,.int .i64 n] w (dc (.bool (bz x n)) w):=by
 obtain⟨op,a,b,c,v,m,o⟩:=x;unfold aK aG;dsimp only;cases f:nr op
 ·have t:(op==12)=false/\(op==13)=false/\(op==14)=false/\(op==15)=false:=by
   unfold nr at f;simp only[Bool.or_eq_false_iff]at f;exact⟨f.1.1.1,f.1.1.2,f.1.2,f.2⟩
  obtain⟨A,B,C,D⟩:=t;have E:Hid (bz ⟨op,a,b,c,v,m,o⟩ n=eB ⟨op,a,b,c,v,0,0⟩ 1 (op !=22)):=Z (by unfold bz;rw[show nr (aR.mk op a b c v m o).op=false from f];rfl);have p:=Z (fun g q w h=>ns ⟨op,a,b,c,v,0,0⟩ g q w h);clear f;go_in
  go_wp2_with fail
  have l:Row ((w.alloc (.cells #[op,a,b,c,.int .u64 v,.int .i64 0,.int .i64 0] 121)).alloc (.cells #[op,a,b,c,.int .u64 v,.int .i64 0,.int .i64 0] 121)) (w.heap.size+1) 121 (aG ⟨op,a,b,c,v,0,0⟩).toList:=by
   have:=Row.new (w.alloc (.cells #[op,a,b,c,.int .u64 v,.int .i64 0,.int .i64 0] 121)) #[op,a,b,c,.int .u64 v,.int .i64 0,.int .i64 0] 121;rw[World.size_alloc]at this;exact this
  refine(p _ _ _ l).mono ?_;rintro e w2 ⟨⟨u,rfl,d⟩,j⟩;have i:Hid (Ch ag w w2):=Z ((((Ch.refl _ _).alloc _).alloc _).trans j);clear j l;obtain⟨r,k⟩:=nm (eB ⟨op,a,b,c,v,0,0⟩ 1 (op !=22));rw[k]at d E;clear k;cases r
  ·obtain⟨tt,y,rfl⟩:ar u:=d
   go_wp2
   go_ret;exact dc.mk (by rw[E];rfl) i
  ·obtain rfl:u=.nilIface:=d
   go_wp2
   go_ret;exact dc.mk (by rw[E];rfl) i
 ·have t:op=12∨op=13∨op=14∨op=15:=by
   unfold nr at f;simpa[or_assoc]using f
  by_cases s:v<n
  ·rcases t with rfl|rfl|rfl|rfl
   ·have E:Hid (bz ⟨12,a,b,c,v,m,o⟩ n=eB ⟨12,a,b,c,0,0,0⟩ 1 true):=Z (by unfold bz;rw[if_pos (by rfl),decide_eq_true s];rfl)
    have p:=Z (fun g q w h=>ns ⟨12,a,b,c,0,0,0⟩ g q w h);clear f;go_in
    go_wp2_with fail
    have l:Row ((w.alloc (.cells #[.int .i64 12,a,b,c,.int .u64 0,.int .i64 0,.int .i64 0] 121)).alloc (.cells #[.int .i64 12,a,b,c,.int .u64 0,.int .i64 0,.int .i64 0] 121)) (w.heap.size+1) 121 (aG ⟨12,a,b,c,0,0,0⟩).toList:=by
     have:=Row.new (w.alloc (.cells #[.int .i64 12,a,b,c,.int .u64 0,.int .i64 0,.int .i64 0] 121)) #[.int .i64 12,a,b,c,.int .u64 0,.int .i64 0,.int .i64 0] 121;rw[World.size_alloc]at this;exact this
    refine(p _ _ _ l).mono ?_;rintro e w2 ⟨⟨u,rfl,d⟩,j⟩;have i:Hid (Ch ag w w2):=Z ((((Ch.refl _ _).alloc _).alloc _).trans j);clear j l;obtain⟨r,k⟩:=nm (eB ⟨12,a,b,c,0,0,0⟩ 1 true);rw[k]at d E;clear k;cases r
    ·obtain⟨tt,y,rfl⟩:ar u:=d
     go_wp2
     go_ret;exact dc.mk (by rw[E];rfl) i
    ·obtain rfl:u=.nilIface:=d
     go_wp2
     go_ret;exact dc.mk (by rw[E];rfl) i
   ·have E:Hid (bz ⟨13,a,b,c,v,m,o⟩ n=eB ⟨13,a,b,c,0,0,0⟩ 1 true):=Z (by unfold bz;rw[if_pos (by rfl),decide_eq_true s];rfl)
    have p:=Z (fun g q w h=>ns ⟨13,a,b,c,0,0,0⟩ g q w h);clear f;go_in
    go_wp2_with fail
    have l:Row ((w.alloc (.cells #[.int .i64 13,a,b,c,.int .u64 0,.int .i64 0,.int .i64 0] 121)).alloc (.cells #[.int .i64 13,a,b,c,.int .u64 0,.int .i64 0,.int .i64 0] 121)) (w.heap.size+1) 121 (aG ⟨13,a,b,c,0,0,0⟩).toList:=by
     have:=Row.new (w.alloc (.cells #[.int .i64 13,a,b,c,.int .u64 0,.int .i64 0,.int .i64 0] 121)) #[.int .i64 13,a,b,c,.int .u64 0,.int .i64 0,.int .i64 0] 121;rw[World.size_alloc]at this;exact this
    refine(p _ _ _ l).mono ?_;rintro e w2 ⟨⟨u,rfl,d⟩,j⟩;have i:Hid (Ch ag w w2):=Z ((((Ch.refl _ _).alloc _).alloc _).trans j);clear j l;obtain⟨r,k⟩:=nm (eB ⟨13,a,b,c,0,0,0⟩ 1 true);rw[k]at d E;clear k;cases r
    ·obtain⟨tt,y,rfl⟩:ar u:=d
     go_wp2
     go_ret;exact dc.mk (by rw[E];rfl) i
    ·obtain rfl:u=.nilIface:=d
     go_wp2
     go_ret;exact dc.mk (by rw[E];rfl) i
   ·have E:Hid (bz ⟨14,a,b,c,v,m,o⟩ n=eB ⟨14,a,b,c,0,0,0⟩ 1 true):=Z (by unfold bz;rw[if_pos (by rfl),decide_eq_true s];rfl)
    have p:=Z (fun g q w h=>ns ⟨14,a,b,c,0,0,0⟩ g q w h);clear f;go_in
    go_wp2_with fail
    have l:Row ((w.alloc (.cells #[.int .i64 14,a,b,c,.int .u64 0,.int .i64 0,.int .i64 0] 121)).alloc (.cells #[.int .i64 14,a,b,c,.int .u64 0,.int .i64 0,.int .i64 0] 121)) (w.heap.size+1) 121 (aG ⟨14,a,b,c,0,0,0⟩).toList:=by
     have:=Row.new (w.alloc (.cells #[.int .i64 14,a,b,c,.int .u64 0,.int .i64 0,.int .i64 0] 121)) #[.int .i64 14,a,b,c,.int .u64 0,.int .i64 0,.int .i64 0] 121;rw[World.size_alloc]at this;exact this
    refine(p _ _ _ l).mono ?_;rintro e w2 ⟨⟨u,rfl,d⟩,j⟩;have i:Hid (Ch ag w w2):=Z ((((Ch.refl _ _).alloc _).alloc _).trans j);clear j l;obtain⟨r,k⟩:=nm (eB ⟨14,a,b,c,0,0,0⟩ 1 true);rw[k]at d E;clear k;cases r
    ·obtain⟨tt,y,rfl⟩:ar u:=d
     go_wp2
     go_ret;exact dc.mk (by rw[E];rfl) i
    ·obtain rfl:u=.nilIface:=d
     go_wp2
     go_ret;exact dc.mk (by rw[E];rfl) i
   ·have E:Hid (bz ⟨15,a,b,c,v,m,o⟩ n=eB ⟨15,a,b,c,0,0,0⟩ 1 true):=Z (by unfold bz;rw[if_pos (by rfl),decide_eq_true s];rfl)
    have p:=Z (fun g q w h=>ns ⟨15,a,b,c,0,0,0⟩ g q w h);clear f;go_in
    go_wp2_with fail
    have l:Row ((w.alloc (.cells #[.int .i64 15,a,b,c,.int .u64 0,.int .i64 0,.int .i64 0] 121)).alloc (.cells #[.int .i64 15,a,b,c,.int .u64 0,.int .i64 0,.int .i64 0] 121)) (w.heap.size+1) 121 (aG ⟨15,a,b,c,0,0,0⟩).toList:=by
     have:=Row.new (w.alloc (.cells #[.int .i64 15,a,b,c,.int .u64 0,.int .i64 0,.int .i64 0] 121)) #[.int .i64 15,a,b,c,.int .u64 0,.int .i64 0,.int .i64 0] 121;rw[World.size_alloc]at this;exact this
    refine(p _ _ _ l).mono ?_;rintro e w2 ⟨⟨u,rfl,d⟩,j⟩;have i:Hid (Ch ag w w2):=Z ((((Ch.refl _ _).alloc _).alloc _).trans j);clear j l;obtain⟨r,k⟩:=nm (eB ⟨15,a,b,c,0,0,0⟩ 1 true);rw[k]at d E;clear k;cases r
    ·obtain⟨tt,y,rfl⟩:ar u:=d
     go_wp2
     go_ret;exact dc.mk (by rw[E];rfl) i
    ·obtain rfl:u=.nilIface:=d
     go_wp2
     go_ret;exact dc.mk (by rw[E];rfl) i
  ·rcases t with rfl|rfl|rfl|rfl
   ·have E:Hid (bz ⟨12,a,b,c,v,m,o⟩ n=false):=Z (by unfold bz;rw[if_pos (by rfl),decide_eq_false s,Bool.false_and])
    clear f;go_wp2
    go_ret;exact dc.mk (by rw[E];rfl) ((Ch.refl _ _).alloc _)
   ·have E:Hid (bz ⟨13,a,b,c,v,m,o⟩ n=false):=Z (by unfold bz;rw[if_pos (by rfl),decide_eq_false s,Bool.false_and])
    clear f;go_wp2
    go_ret;exact dc.mk (by rw[E];rfl) ((Ch.refl _ _).alloc _)
   ·have E:Hid (bz ⟨14,a,b,c,v,m,o⟩ n=false):=Z (by unfold bz;rw[if_pos (by rfl),decide_eq_false s,Bool.false_and])
    clear f;go_wp2
    go_ret;exact dc.mk (by rw[E];rfl) ((Ch.refl _ _).alloc _)
   ·have E:Hid (bz ⟨15,a,b,c,v,m,o⟩ n=false):=Z (by unfold bz;rw[if_pos (by rfl),decide_eq_false s,Bool.false_and])
    clear f;go_wp2
    go_ret;exact dc.mk (by rw[E];rfl) ((Ch.refl _ _).alloc _)
theorem qv(b g:Nat)(l:List aE)(id:Int)(hid:aI id)(w:World)(h:a5 w b g l):
 Calls prog 195 #[(b,0),.int .u64 id] w (ng (e8 l id).1 b g (e8 l id).2 w):=by
 have H:=Z h;have a:=Z (fc b g l id hid w h);cases c:dX l id with
 |none=>
  have E:Hid (e8 l id=(false,l)):=Z (by unfold e8;rw[c]);rw[c]at a;clear h c;go_in
  go_wp2_with (first|(go_at_call 160;refine a.mono ?_;rintro e w' ⟨rfl,rfl⟩;simp only[b6])|(go_at_call 93;refine(a7 _ _ _).mono ?_;rintro e w' ⟨rfl,rfl⟩))
  go_ret;rw[E];exact⟨⟨_,rfl,ar.mk _ _⟩,H.alloc _,(Ch.refl _ _).alloc _⟩
 |some p=>
  obtain⟨-,r,i,-,-⟩:=eh c;obtain⟨x,y,z,A,B,C,D,F,G,I,fr,J⟩:=h.cells i;obtain⟨d,j⟩:=h.start i;have E:Hid (e8 l id=if r.t.bG !=0||r.t.loose then(false,l)else if r.t.state==4&& !r.t.aH then(true,l.set p r.gone)else(true,l.set p {r with t:={r.t with loose:=true}})):=Z (by unfold e8;rw[c];simp only[i]);have v:=Z i;have k:=Z d;rw[c]at a;clear h c i d;obtain⟨times,taken,K,⟨tid,state,home,value,s,loose,u⟩⟩:=r;dsimp only at*;cases f:s !=0
  ·cases loose
   ·cases d:state==4
    ·rw[f,d]at E
     go_in
     go_wp2_with (first|(go_at_call 160;refine a.mono ?_;rintro e w' ⟨rfl,rfl⟩;simp only[b6])|(go_at_call 93;refine(a7 _ _ _).mono ?_;rintro e w' ⟨rfl,rfl⟩))
     go_ret;rw[E];exact⟨⟨_,rfl,rfl⟩,k.s8 j (by omega),(Ch.refl _ _).only _ _⟩
    ·cases u
     ·rw[f,d]at E
      go_in
      go_wp2_with (first|(go_at_call 160;refine a.mono ?_;rintro e w' ⟨rfl,rfl⟩;simp only[b6])|(go_at_call 93;refine(a7 _ _ _).mono ?_;rintro e w' ⟨rfl,rfl⟩)|(go_at_call 209;refine(ir b g p _ _ _ (k.s8 j (by omega)) (mZ j)).mono ?_;rintro e w1 ⟨rfl,n,m⟩;have q:=Z n;have o:=Z m;clear n m))
      go_ret;rw[E];exact⟨⟨_,rfl,rfl⟩,(by have:=q.out;rw[List.set_set]at this;exact this),((Ch.refl _ _).only _ _).trans o⟩
     ·rw[f,d]at E
      go_in
      go_wp2_with (first|(go_at_call 160;refine a.mono ?_;rintro e w' ⟨rfl,rfl⟩;simp only[b6])|(go_at_call 93;refine(a7 _ _ _).mono ?_;rintro e w' ⟨rfl,rfl⟩))
      go_ret;rw[E];exact⟨⟨_,rfl,rfl⟩,k.s8 j (by omega),(Ch.refl _ _).only _ _⟩
   ·rw[f]at E
    go_in
    go_wp2_with (first|(go_at_call 160;refine a.mono ?_;rintro e w' ⟨rfl,rfl⟩;simp only[b6])|(go_at_call 93;refine(a7 _ _ _).mono ?_;rintro e w' ⟨rfl,rfl⟩))
    go_ret;rw[E];exact⟨⟨_,rfl,ar.mk _ _⟩,H.alloc _,(Ch.refl _ _).alloc _⟩
  ·rw[f]at E
   go_in
   go_wp2_with (first|(go_at_call 160;refine a.mono ?_;rintro e w' ⟨rfl,rfl⟩;simp only[b6])|(go_at_call 93;refine(a7 _ _ _).mono ?_;rintro e w' ⟨rfl,rfl⟩))
   go_ret;rw[E];exact⟨⟨_,rfl,ar.mk _ _⟩,H.alloc _,(Ch.refl _ _).alloc _⟩
theorem qw(b g:Nat)(l:List aE)(id:Int)(hid:aI id)(w:World)(h:a5 w b g l):
 Calls prog 204 #[(b,0),.int .u64 id] w (ng (eM l id).1 b g (eM l id).2 w):=by
 have H:=Z h;have a:=Z (fc b g l id hid w h);cases c:dX l id with
 |none=>
  have E:Hid (eM l id=(false,l)):=Z (by unfold eM;rw[c]);rw[c]at a;clear h c;go_in
  go_wp2_with (first|(go_at_call 160;refine a.mono ?_;rintro e w' ⟨rfl,rfl⟩;simp only[b6])|(go_at_call 93;refine(a7 _ _ _).mono ?_;rintro e w' ⟨rfl,rfl⟩))
  go_ret;rw[E];exact⟨⟨_,rfl,ar.mk _ _⟩,H.alloc _,(Ch.refl _ _).alloc _⟩
 |some p=>
  obtain⟨-,r,i,-,-⟩:=eh c;obtain⟨v,x,y,z,A,B,C,D,F,G,fr,I⟩:=h.cells i;obtain⟨o,f⟩:=h.start i;have E:Hid (eM l id=if !r.t.aH then(false,l)else if r.t.loose||r.bI then(true,l.set p r.gone)else(true,l.set p {r with t:={r.t with aH:=false}})):=Z (by unfold eM;rw[c];simp only[i]);have u:=Z i;have m:=Z o;rw[c]at a;clear h c i o;obtain⟨times,taken,q,⟨tid,state,home,value,J,loose,s⟩⟩:=r;dsimp only at*;cases s
  ·skip
   go_in
   go_wp2_with (first|(go_at_call 160;refine a.mono ?_;rintro e w' ⟨rfl,rfl⟩;simp only[b6])|(go_at_call 93;refine(a7 _ _ _).mono ?_;rintro e w' ⟨rfl,rfl⟩))
   go_ret;rw[E];exact⟨⟨_,rfl,ar.mk _ _⟩,H.alloc _,(Ch.refl _ _).alloc _⟩
  ·cases loose
   ·cases q
    ·skip
     go_in
     go_wp2_with (first|(go_at_call 160;refine a.mono ?_;rintro e w' ⟨rfl,rfl⟩;simp only[b6])|(go_at_call 93;refine(a7 _ _ _).mono ?_;rintro e w' ⟨rfl,rfl⟩))
     go_ret;rw[E];exact⟨⟨_,rfl,rfl⟩,m.s9 f (by omega),(Ch.refl _ _).only _ _⟩
    ·skip
     go_in
     go_wp2_with (first|(go_at_call 160;refine a.mono ?_;rintro e w' ⟨rfl,rfl⟩;simp only[b6])|(go_at_call 93;refine(a7 _ _ _).mono ?_;rintro e w' ⟨rfl,rfl⟩)|(go_at_call 209;refine(ir b g p _ _ _ (m.s9 f (by omega)) (mZ f)).mono ?_;rintro e w1 ⟨rfl,j,d⟩;have n:=Z j;have k:=Z d;clear j d))
     go_ret;rw[E];exact⟨⟨_,rfl,rfl⟩,(by have:=n.out;rw[List.set_set]at this;exact this),((Ch.refl _ _).only _ _).trans k⟩
   ·skip
    go_in
    go_wp2_with (first|(go_at_call 160;refine a.mono ?_;rintro e w' ⟨rfl,rfl⟩;simp only[b6])|(go_at_call 93;refine(a7 _ _ _).mono ?_;rintro e w' ⟨rfl,rfl⟩)|(go_at_call 209;refine(ir b g p _ _ _ (m.s9 f (by omega)) (mZ f)).mono ?_;rintro e w1 ⟨rfl,j,d⟩;have n:=Z j;have k:=Z d;clear j d))
    go_ret;rw[E];exact⟨⟨_,rfl,rfl⟩,(by have:=n.out;rw[List.set_set]at this;exact this),((Ch.refl _ _).only _ _).trans k⟩
def d'(l:List aE)(id:Int):Int:=
 match dX l id with
 |none=>0
 |some p=>match l[p]? with
  |none=>0
  |some r=>if r.bI then 0 else if r.t.loose then 2 else if r.t.bG !=0 then 4 else if r.t.state==4 then 3 else 1
theorem o3(b g:Nat)(l:List aE)(id:Int)(hid:aI id)(w:World)(h:a5 w b g l):
 Calls prog 198 #[(b,0),.int .u64 id] w (eg (.int .i64 (d' l id)) w):=by
 have a:=Z (fc b g l id hid w h);cases c:dX l id with
 |none=>
  have E:Hid (d' l id=0):=Z (by unfold d';rw[c]);rw[c]at a;clear h c;go_in
  go_wp2_with (go_at_call 160;refine a.mono ?_;rintro e w' ⟨rfl,rfl⟩;simp only[b6])
  go_ret;exact eg.mk (by rw[E];rfl)
 |some p=>
  obtain⟨-,r,j,-,-⟩:=eh c;obtain⟨n,o,q,s,t,u,v,x,y,z,fr,A⟩:=h.cells j;have E:Hid (d' l id=if r.bI then 0 else if r.t.loose then 2 else if r.t.bG !=0 then 4 else if r.t.state==4 then 3 else 1):=Z (by unfold d';rw[c];simp only[j]);rw[c]at a;clear h c j;obtain⟨times,taken,m,⟨tid,state,home,value,f,loose,B⟩⟩:=r;dsimp only at*;have i:(f !=0)=true∨((f !=0)=false/\(state==4)=true)∨((f !=0)=false/\(state==4)=false):=by
   cases f !=0<;>cases state==4<;>simp
  cases m
  ·cases loose
   ·rcases i with d|⟨d,k⟩|⟨d,k⟩
    ·rw[d]at E
     go_in
     go_wp2_with (go_at_call 160;refine a.mono ?_;rintro e w' ⟨rfl,rfl⟩;simp only[b6])
     go_ret;exact eg.mk (by rw[E];rfl)
    ·rw[d,k]at E
     go_in
     go_wp2_with (go_at_call 160;refine a.mono ?_;rintro e w' ⟨rfl,rfl⟩;simp only[b6])
     go_ret;exact eg.mk (by rw[E];rfl)
    ·rw[d,k]at E
     go_in
     go_wp2_with (go_at_call 160;refine a.mono ?_;rintro e w' ⟨rfl,rfl⟩;simp only[b6])
     go_ret;exact eg.mk (by rw[E];rfl)
   ·clear i
    go_in
    go_wp2_with (go_at_call 160;refine a.mono ?_;rintro e w' ⟨rfl,rfl⟩;simp only[b6])
    go_ret;exact eg.mk (by rw[E];rfl)
  ·clear i
   go_in
   go_wp2_with (go_at_call 160;refine a.mono ?_;rintro e w' ⟨rfl,rfl⟩;simp only[b6])
   go_ret;exact eg.mk (by rw[E];rfl)
def fy(l:List aE)(id:Int):iZ×Bool:=
 match dX l id with
 |none=>(iZ.zero,false)
 |some p=>match l[p]? with
  |none=>(iZ.zero,false)
  |some r=>(r.t,true)
theorem rI(b g:Nat)(l:List aE)(id:Int)(hid:aI id)(w:World)(h:a5 w b g l):
 Calls prog 138 #[(b,0),.int .u64 id] w (dc (.tuple #[(fy l id).1.val,.bool (fy l id).2]) w):=by
 have c:=Z (fun d=>fc b g l id hid (w.alloc d) (h.alloc d));cases a:dX l id with
 |none=>
  have E:Hid (fy l id=(iZ.zero,false)):=Z (by unfold fy;rw[a]);rw[a]at c;clear h a;go_in
  go_wp2_with (go_at_call 160;refine(c _).mono ?_;rintro e w' ⟨rfl,rfl⟩;simp only[b6])
  refine bodyPost_ret (v:=.tuple #[iZ.zero.val,.bool false]) (by simp[results,Tryz.results138,go_sem,iZ.val,iZ.zero]) rfl ?_;rw[E];exact⟨rfl,(Ch.refl _ _).alloc _⟩
 |some p=>
  obtain⟨-,r,f,-,-⟩:=eh a;have i:=Z (fun d=>(h.alloc d).cells f);have E:Hid (fy l id=(r.t,true)):=Z (by unfold fy;rw[a];simp only[f]);rw[a]at c;have B:=h.rows.lt;clear h a f;obtain⟨times,taken,C,⟨tid,state,home,value,u,loose,x⟩⟩:=r;dsimp only at*;obtain⟨y,z,A,j,k,m,n,o,q,s,fr,t⟩:=i (.cells iZ.zero.cells.toArray 101);dsimp only[iZ.cells,iZ.zero]at j k m n o q s;clear fr t;go_in
  go_wp2_with (go_at_call 160;refine(c _).mono ?_;rintro e w' ⟨rfl,rfl⟩;simp only[b6])
  refine bodyPost_ret (v:=.tuple #[(iZ.mk tid state home value u loose x).val,.bool true]) (by simp[results,Tryz.results138,go_sem,iZ.val]) rfl ?_;rw[E];exact⟨rfl,(Ch.refl _ _).alloc _⟩
def fA(l:List aE)(id:Int):Bool×Int×Int×Bool×List aE:=
 match dX l id with
 |none=>(false,0,0,false,l)
 |some p=>match l[p]? with
  |none=>(false,0,0,false,l)
  |some r=>if r.t.state !=4||r.t.loose||r.bI then(false,0,0,false,l)
   else(true,r.t.value,r.t.home,!r.t.aH,if r.t.aH then l.set p {r with bI:=true}else l.set p r.gone)
def BP(x:Bool×Int×Int×Bool×List aE)(b g:Nat)(w:World)(e:Ending)(w':World):Prop:=
 (∃v,e=.returned (.tuple #[.int .u64 x.2.1,.int .u64 x.2.2.1,.bool x.2.2.2.1,v])/\(if x.1 then v=.nilIface else ar v))/\a5 w' b g x.2.2.2.2/\Ch (aL g) w w'
theorem rJ(b g:Nat)(l:List aE)(id:Int)(hid:aI id)(w:World)(h:a5 w b g l):
 Calls prog 197 #[(b,0),.int .u64 id] w (BP (fA l id) b g w):=by
 have H:=Z h;have a:=Z (fc b g l id hid w h);cases c:dX l id with
 |none=>
  have E:Hid (fA l id=(false,0,0,false,l)):=Z (by unfold fA;rw[c]);rw[c]at a;clear h c;go_in
  go_wp2_with (first|(go_at_call 160;refine a.mono ?_;rintro e w' ⟨rfl,rfl⟩;simp only[b6])|(go_at_call 93;refine(a7 _ _ _).mono ?_;rintro e w' ⟨rfl,rfl⟩))
  refine bodyPost_ret (ds rfl _ _ _) rfl ?_;rw[E];exact⟨⟨_,rfl,ar.mk _ _⟩,H.alloc _,(Ch.refl _ _).alloc _⟩
 |some p=>
  obtain⟨-,r,d,-,-⟩:=eh c;obtain⟨x,y,z,A,B,C,D,F,G,I,fr,J⟩:=h.cells d;obtain⟨m,j⟩:=h.start d;have E:Hid (fA l id=if r.t.state !=4||r.t.loose||r.bI then(false,0,0,false,l)else(true,r.t.value,r.t.home,!r.t.aH,if r.t.aH then l.set p {r with bI:=true}else l.set p r.gone)):=Z (by unfold fA;rw[c];simp only[d]);have v:=Z d;have i:=Z m;rw[c]at a;clear h c d m;obtain⟨times,taken,s,⟨tid,state,home,value,K,loose,t⟩⟩:=r;dsimp only at*;cases f:state !=4
  ·cases loose
   ·cases s
    ·rw[f]at E
     have u:=Z (i);cases t
     all_goals
      go_in
      go_wp2_with (first|(go_at_call 160;refine a.mono ?_;rintro e w' ⟨rfl,rfl⟩;simp only[b6])|(go_at_call 93;refine(a7 _ _ _).mono ?_;rintro e w' ⟨rfl,rfl⟩))
      go_quiet (fail)
      go_wp2_with (go_at_call 209;refine(ir b g p _ _ _ ((i.drewN _).s2 j (by omega)) (mZ j)).mono ?_;rintro e w1 ⟨rfl,n,k⟩;have q:=Z n;have o:=Z k;clear n k)
      refine bodyPost_ret (ds rfl _ _ _) rfl ?_;rw[E]
     ·exact⟨⟨_,rfl,rfl⟩,(by have:=q.out;rw[List.set_set]at this;exact this),(((Ch.refl _ _).drewN _).only _ _).trans o⟩
     ·exact⟨⟨_,rfl,rfl⟩,(i.drewN _).s2 j (by omega),((Ch.refl _ _).drewN _).only _ _⟩
    ·rw[f]at E
     go_in
     go_wp2_with (first|(go_at_call 160;refine a.mono ?_;rintro e w' ⟨rfl,rfl⟩;simp only[b6])|(go_at_call 93;refine(a7 _ _ _).mono ?_;rintro e w' ⟨rfl,rfl⟩))
     refine bodyPost_ret (ds rfl _ _ _) rfl ?_;rw[E];exact⟨⟨_,rfl,ar.mk _ _⟩,H.alloc _,(Ch.refl _ _).alloc _⟩
   ·rw[f]at E
    go_in
    go_wp2_with (first|(go_at_call 160;refine a.mono ?_;rintro e w' ⟨rfl,rfl⟩;simp only[b6])|(go_at_call 93;refine(a7 _ _ _).mono ?_;rintro e w' ⟨rfl,rfl⟩))
    refine bodyPost_ret (ds rfl _ _ _) rfl ?_;rw[E];exact⟨⟨_,rfl,ar.mk _ _⟩,H.alloc _,(Ch.refl _ _).alloc _⟩
  ·rw[f]at E
   go_in
   go_wp2_with (first|(go_at_call 160;refine a.mono ?_;rintro e w' ⟨rfl,rfl⟩;simp only[b6])|(go_at_call 93;refine(a7 _ _ _).mono ?_;rintro e w' ⟨rfl,rfl⟩))
   refine bodyPost_ret (ds rfl _ _ _) rfl ?_;rw[E];exact⟨⟨_,rfl,ar.mk _ _⟩,H.alloc _,(Ch.refl _ _).alloc _⟩
def iL:List aE->Nat->Option Nat
 |[],_=>none
 |r::l,k=>if r.taken then iL l (k+1)else some k
def df(l:List aE)(home:Int):Option Int×List aE:=
 match iL l 0 with
 |none=>(none,l)
 |some p=>match l[p]? with
  |none=>(none,l)
  |some r=>
   let n:=IntKind.u64.wrap (r.times+1)
   let id:=IntKind.u64.wrap (p+IntKind.u64.wrap (64*n))
   (some id,l.set p {times:=n,taken:=true,bI:=r.bI,t:=⟨id,1,home,0,0,false,false⟩})
def BQ(x:Option Int×List aE)(b g:Nat)(w:World)(e:Ending)(w':World):Prop:=
 (match x.1 with
  |some id=>e=.returned (.tuple #[.int .u64 id,.nilIface])
  |none=>∃v,e=.returned (.tuple #[.int .u64 0,v])/\ar v)/\a5 w' b g x.2/\Ch (aL g) w w'
theorem mq(b g:Nat)(l:List aE)(home:Int)(w:World)(h:a5 w b g l):
 Calls prog 99 #[(b,0),.int .u64 home] w (BQ (df l home) b g w):=by
 have H:=Z h;have z:=h.head.c1;have hlen:=Z h.len;have L:=h.head.lt;clear h;go_wp2
 go_loop [13] (fun s=>∃k:Nat,s=.int .i64 k/\k<=64/\Hid (iL (l.drop k) k=iL l 0)) (fun s=>64-(intOf s).toNat)
 case atStart=>exact⟨0,rfl,Nat.zero_le _,rfl⟩
 case round=>
  obtain⟨k,rfl,M,d⟩:=hrel;by_cases v:k<64
  ·obtain⟨r,c⟩:∃r,l[k]?=some r:=⟨_,List.getElem?_eq_getElem (by rw[hlen.out];exact v)⟩
   obtain⟨y,A,B,C,D,F,G,I,J,K,fr,P⟩:=H.cells c;have j:l.drop k=r::l.drop (k+1):=by
    obtain⟨q,u⟩:=List.getElem?_eq_some_iff.1 c;rw[List.drop_eq_getElem_cons q,u]
   have i:=Z j;obtain⟨m,a⟩:=H.start c;have p:=Z m;have o:=Z c;have O:(k:Int)<64:=(by omega);clear j m c;obtain⟨times,taken,x,⟨tid,state,Q,value,R,loose,S⟩⟩:=r;dsimp only at*;cases taken
   ·have E:Hid (df l home=(some (IntKind.u64.wrap (k+IntKind.u64.wrap (64*IntKind.u64.wrap (times+1)))),l.set k {times:=IntKind.u64.wrap (times+1),taken:=true,bI:=x,t:=⟨IntKind.u64.wrap (k+IntKind.u64.wrap (64*IntKind.u64.wrap (times+1))),1,home,0,0,false,false⟩})):=Z (by
     have f:iL l 0=some k:=(by rw[<-d,i];rfl);unfold df;rw[f];simp only[o.out])
    go_wp2
    go_ret2;rw[E];refine⟨rfl,?_,?_⟩
    ·exact((((((((p.s0 a rfl).s1 a rfl).s3 a rfl).s4 a rfl).s5 a rfl).s6 a rfl).s7 a rfl).s8 a rfl).s9 a rfl
    ·exact(((((((((Ch.refl _ _).only _ _).only _ _).only _ _).only _ _).only _ _).only _ _).only _ _).only _ _).only _ _
   ·have n:Hid (iL (l.drop (k+1)) (k+1)=iL l 0):=Z (by rw[<-d,i];rfl)
    go_wp2
    go_round
    case rel=>exact⟨k+1,by go_num,by omega,n⟩
    case measure=>simp[intOf];omega
  ·have N:¬(k:Int)<64:=by omega
   have E:Hid (df l home=(none,l)):=Z (by
    have f:iL l 0=none:=(by rw[<-d,List.drop_eq_nil_of_le (by rw[hlen.out];omega)];rfl);unfold df;rw[f])
   go_wp2_with (go_at_call 93;refine(a7 _ _ _).mono ?_;rintro e w' ⟨rfl,rfl⟩)
   go_ret2;rw[E];exact⟨⟨_,rfl,ar.mk _ _⟩,H.alloc _,(Ch.refl _ _).alloc _⟩
structure bK where
 times:Int
 handle:Int
 kind:Int
 addr:Int
 deriving DecidableEq,Repr,Inhabited
def bK.cells(r:bK):List Value:=[.int .u64 r.times,.int .u64 r.handle,.int .i64 r.kind,.int .u64 r.addr]
theorem bK.len(r:bK):r.cells.length=4:=rfl
structure bX(w:World)(b g:Nat)(l:List bK):Prop where
 head:Row w b 220 [.slice (some (g,0)) 64 64]
 rows:Row w g 262 (l.flatMap bK.cells)
 len:l.length=64
theorem bX.ne{w:World}{b g:Nat}{l:List bK}(h:bX w b g l):b≠g:=h.head.ne h.rows (by decide)
theorem bX.alloc{w:World}{b g:Nat}{l:List bK}(h:bX w b g l)(a:Obj):bX (w.alloc a) b g l:=⟨h.head.alloc a,h.rows.alloc a,h.len⟩
theorem bX.ch{w w':World}{D:Nat->Prop}{b g:Nat}{l:List bK}(h:bX w b g l)(c:Ch D w w')(hb:¬D b)(a:¬D g):bX w' b g l:=⟨h.head.ch c hb,h.rows.ch c a,h.len⟩
theorem bX.put{w:World}{b g:Nat}{l:List bK}(h:bX w b g l){p:Nat}{r y:bK}(e:l[p]?=some r)(j:Nat)(d:j<4){a:Nat}(c:a=p*4+j){v:Value}(f:r.cells.set j v=y.cells):bX (w.setCell (g,a) v) b g (l.set p y):=by
 subst c;exact⟨h.head.other h.ne v,h.rows.put bK.len e d f,by simpa using h.len⟩
theorem bX.j4{w:World}{b g:Nat}{l:List bK}{p:Nat}{r y:bK}(h:bX w b g (l.set p r))(e:p<l.length)(j:Nat)(d:j<4){a:Nat}(c:a=p*4+j){v:Value}(f:r.cells.set j v=y.cells):bX (w.setCell (g,a) v) b g (l.set p y):=by
 have:=h.put (p:=p) (r:=r) (y:=y) (by simp[e]) j d c f
 rwa [List.set_set]at this
theorem bX.start{w:World}{b g:Nat}{l:List bK}(h:bX w b g l){p:Nat}{r:bK}(a:l[p]?=some r):bX w b g (l.set p r)/\p<l.length:=⟨(j5 a).symm▸h,(List.getElem?_eq_some_iff.1 a).1⟩
theorem bX.s0{w:World}{b g:Nat}{l:List bK}{p:Nat}{r:bK}(h:bX w b g (l.set p r))(d:p<l.length){a:Nat}{v:Int}(c:a=p*4+0):bX (w.setCell (g,a) (.int .u64 v)) b g (l.set p {r with times:=v}):=h.j4 d 0 (by omega) c rfl
theorem bX.s1{w:World}{b g:Nat}{l:List bK}{p:Nat}{r:bK}(h:bX w b g (l.set p r))(d:p<l.length){a:Nat}{v:Int}(c:a=p*4+1):bX (w.setCell (g,a) (.int .u64 v)) b g (l.set p {r with handle:=v}):=h.j4 d 1 (by omega) c rfl
theorem bX.s2{w:World}{b g:Nat}{l:List bK}{p:Nat}{r:bK}(h:bX w b g (l.set p r))(d:p<l.length){a:Nat}{v:Int}(c:a=p*4+2):bX (w.setCell (g,a) (.int .i64 v)) b g (l.set p {r with kind:=v}):=h.j4 d 2 (by omega) c rfl
theorem bX.s3{w:World}{b g:Nat}{l:List bK}{p:Nat}{r:bK}(h:bX w b g (l.set p r))(d:p<l.length){a:Nat}{v:Int}(c:a=p*4+3):bX (w.setCell (g,a) (.int .u64 v)) b g (l.set p {r with addr:=v}):=h.j4 d 3 (by omega) c rfl
structure DY(w:World)(g p:Nat)(r:bK):Prop where
 c0:w.cell? (g,p*4)=some (.int .u64 r.times)
 c1:w.cell? (g,p*4+1)=some (.int .u64 r.handle)
 c2:w.cell? (g,p*4+2)=some (.int .i64 r.kind)
 c3:w.cell? (g,p*4+3)=some (.int .u64 r.addr)
 fr:∀j,w.frozen? ⟨g,j,none⟩=false
 lt:g<w.heap.size
theorem bX.cells{w:World}{b g:Nat}{l:List bK}(h:bX w b g l){p:Nat}{r:bK}(a:l[p]?=some r):DY w g p r:=
 ⟨h.rows.at bK.len a (j:=0) (by omega) rfl,h.rows.at bK.len a (by omega) rfl,h.rows.at bK.len a (by omega) rfl,h.rows.at bK.len a (by omega) rfl,fun j=>h.rows.free j,h.rows.lt⟩
theorem fe(t:TypeId)(x:Value)(w:World):Calls prog 94 #[.iface t x] w (fun e w'=>e=.returned (.iface 197 (.pointer (some (w.heap.size,0))))/\w.alloc (.cells #[.string ⟨#[111,98,106,101,99,116,115]⟩,.int .i64 0,.iface t x] 199)=w'):=by
 go_wp2
 go_ret;exact⟨rfl,rfl⟩
def rK(h:Int):Nat:=(IntKind.u64.wrap (h-1)%64).toNat
def jb(l:List bK)(h:Int):Option Nat:=
 if h==0 then none else
 match l[rK h]? with
 |none=>none
 |some r=>if r.handle==h then some (rK h)else none
theorem nE{l:List bK}{h:Int}{p:Nat}(a:jb l h=some p):∃r,l[p]?=some r/\r.handle=h/\h≠0:=by
 unfold jb at a;split at a
 ·cases a
 ·rename_i b
  split at a
  ·cases a
  ·rename_i r d
   split at a
   ·rename_i c
    have:rK h=p:=(by simpa using a);subst this;exact⟨r,d,by simpa using c,by simpa using b⟩
   ·cases a
def wX(g:Nat):Option Nat->Value
 |none=> .pointer none
 |some p=> .pointer (some (g,p*4))
theorem pq(b g:Nat)(l:List bK)(h:Int)(w:World)(H:bX w b g l):Calls prog 203 #[(b,0),.int .u64 h] w (eg (wX g (jb l h)) w):=by
 cases f:h==0
 ·have hb:=cx (h-1)
  have i:=hb.lo;have u:=H.head.c1;obtain⟨p,j⟩:∃p:Nat,(p:Int)=IntKind.u64.wrap (h-1)%64:=⟨(IntKind.u64.wrap (h-1)%64).toNat,by omega⟩;have k:p<64:=by omega
  obtain⟨r,d⟩:∃r,l[p]?=some r:=⟨_,List.getElem?_eq_getElem (by rw[H.len];exact k)⟩;have m:rK h=p:=by unfold rK;omega
  obtain⟨o,q,s,t,fr,v⟩:=H.cells d;have c:Hid (jb l h=if r.handle==h then some p else none):=Z (by unfold jb;rw[f,m,d];rfl);have x:(p:Int)<64:=by omega
  have y:(IntKind.u64.wrap (h-1)).tmod 64=(p:Int):=by rw[Int.tmod_eq_emod_of_nonneg i];exact j.symm
  clear j m d H k o s t fr hb i;obtain⟨e,n⟩:=nm r.handle;rw[n]at c q;clear n;cases a:e==h
  ·rw[a]at c
   have hb:(e !=h)=true:=(by simpa using a);clear a;go_wp2
   go_ret;exact eg.mk (by rw[c];rfl)
  ·rw[a]at c
   have hb:(e !=h)=false:=(by simpa using a);clear a;go_wp2
   go_ret;exact eg.mk (by rw[c];rfl)
 ·have E:Hid (jb l h=none):=Z (by unfold jb;rw[f];rfl)
  clear H;go_wp2
  go_ret;exact eg.mk (by rw[E];rfl)
def gu(l:List bK)(h kind:Int):Option Int:=
 match jb l h with
 |none=>none
 |some p=>match l[p]? with
  |none=>none
  |some r=>if r.kind !=kind then none else some r.addr
def zi(x:Option Int)(w:World)(e:Ending)(w':World):Prop:=
 (match x with
  |some a=>e=.returned (.tuple #[.int .u64 a,.nilIface])
  |none=>∃v,e=.returned (.tuple #[.int .u64 0,v])/\ar v)/\Ch ag w w'
theorem rL(b g:Nat)(l:List bK)(h kind:Int)(w:World)(H:bX w b g l):
 Calls prog 172 #[(b,0),.int .u64 h,kind] w (zi (gu l h kind) w):=by
 have c:=Z (pq b g l h w H);cases a:jb l h with
 |none=>
  have E:Hid (gu l h kind=none):=Z (by unfold gu;rw[a]);rw[a]at c;clear H a;go_in
  go_wp2_with (first|(go_at_call 203;refine c.mono ?_;rintro e w' ⟨rfl,rfl⟩;simp only[wX])|(go_at_call 94;refine(fe _ _ _).mono ?_;rintro e w' ⟨rfl,rfl⟩))
  go_ret2;rw[E];exact⟨⟨_,rfl,ar.mk _ _⟩,(Ch.refl _ _).alloc _⟩
 |some p=>
  obtain⟨r,d,-,-⟩:=nE a;obtain⟨j,k,m,n,fr,o⟩:=H.cells d;have E:Hid (gu l h kind=if r.kind !=kind then none else some r.addr):=Z (by unfold gu;rw[a];simp only[d]);rw[a]at c;clear H a d;obtain⟨times,handle,i,addr⟩:=r;dsimp only at*;cases f:i !=kind
  ·rw[f]at E
   go_in
   go_wp2_with (first|(go_at_call 203;refine c.mono ?_;rintro e w' ⟨rfl,rfl⟩;simp only[wX])|(go_at_call 94;refine(fe _ _ _).mono ?_;rintro e w' ⟨rfl,rfl⟩))
   go_ret2;rw[E];exact⟨rfl,Ch.refl _ _⟩
  ·rw[f]at E
   go_in
   go_wp2_with (first|(go_at_call 203;refine c.mono ?_;rintro e w' ⟨rfl,rfl⟩;simp only[wX])|(go_at_call 94;refine(fe _ _ _).mono ?_;rintro e w' ⟨rfl,rfl⟩))
   go_ret2;rw[E];exact⟨⟨_,rfl,ar.mk _ _⟩,(Ch.refl _ _).alloc _⟩
def bK.gone(r:bK):bK:=⟨r.times,0,0,0⟩
def iM(l:List bK)(h:Int):Bool×List bK:=
 match jb l h with
 |none=>(false,l)
 |some p=>match l[p]? with
  |none=>(false,l)
  |some r=>(true,l.set p r.gone)
def DZ(ok:Bool)(b g:Nat)(l':List bK)(w:World)(e:Ending)(w':World):Prop:=
 (∃v,e=.returned v/\(if ok then v=.nilIface else ar v))/\bX w' b g l'/\Ch (aL g) w w'
theorem rM(b g:Nat)(l:List bK)(h:Int)(w:World)(H:bX w b g l):
 Calls prog 193 #[(b,0),.int .u64 h] w (DZ (iM l h).1 b g (iM l h).2 w):=by
 have j:=Z H;have c:=Z (pq b g l h w H);cases a:jb l h with
 |none=>
  have E:Hid (iM l h=(false,l)):=Z (by unfold iM;rw[a]);rw[a]at c;clear H a;go_in
  go_wp2_with (first|(go_at_call 203;refine c.mono ?_;rintro e w' ⟨rfl,rfl⟩;simp only[wX])|(go_at_call 94;refine(fe _ _ _).mono ?_;rintro e w' ⟨rfl,rfl⟩))
  go_ret;rw[E];exact⟨⟨_,rfl,ar.mk _ _⟩,j.alloc _,(Ch.refl _ _).alloc _⟩
 |some p=>
  obtain⟨r,d,-,-⟩:=nE a;obtain⟨m,n,o,q,fr,s⟩:=H.cells d;have E:Hid (iM l h=(true,l.set p r.gone)):=Z (by unfold iM;rw[a];simp only[d]);obtain⟨i,f⟩:=H.start d;have k:=Z i;rw[a]at c;clear H a d i;obtain⟨times,handle,t,addr⟩:=r;dsimp only at*;go_in
  go_wp2_with (first|(go_at_call 203;refine c.mono ?_;rintro e w' ⟨rfl,rfl⟩;simp only[wX])|(go_at_call 94;refine(fe _ _ _).mono ?_;rintro e w' ⟨rfl,rfl⟩))
  go_ret;rw[E];exact⟨⟨_,rfl,rfl⟩,((k.s1 f rfl).s2 f rfl).s3 f rfl,(((Ch.refl _ _).only _ _).only _ _).only _ _⟩
def kJ:List bK->Nat->Option Nat
 |[],_=>none
 |r::l,k=>if r.handle !=0 then kJ l (k+1)else some k
def fN(l:List bK)(kind addr:Int):Option Int×List bK:=
 if kind<1∨6<kind then(none,l)else
 match kJ l 0 with
 |none=>(none,l)
 |some p=>match l[p]? with
  |none=>(none,l)
  |some r=>
   let h:=IntKind.u64.wrap (p+1+IntKind.u64.wrap (64*r.times))
   (some h,l.set p ⟨IntKind.u64.wrap (r.times+1),h,kind,addr⟩)
def BT(x:Option Int×List bK)(b g:Nat)(w:World)(e:Ending)(w':World):Prop:=
 (match x.1 with
  |some id=>e=.returned (.tuple #[.int .u64 id,.nilIface])
  |none=>∃v,e=.returned (.tuple #[.int .u64 0,v])/\ar v)/\bX w' b g x.2/\Ch (aL g) w w'
theorem rN(b g:Nat)(l:List bK)(kind addr:Int)(w:World)(H:bX w b g l):
 Calls prog 192 #[(b,0),kind,.int .u64 addr] w (BT (fN l kind addr) b g w):=by
 have a:=Z H;have A:=H.head.c1;have hlen:=Z H.len;have F:=H.head.lt;clear H;have y:(kind<1)∨(¬kind<1/\6<kind)∨(¬kind<1/\¬6<kind):=by omega
 rcases y with k1|⟨k1,k2⟩|⟨k1,k2⟩
 ·have E:Hid (fN l kind addr=(none,l)):=Z (by unfold fN;rw[if_pos (Or.inl k1)])
  go_in
  go_wp2_with (go_at_call 94;refine(fe _ _ _).mono ?_;rintro e w' ⟨rfl,rfl⟩)
  go_ret2;rw[E];exact⟨⟨_,rfl,ar.mk _ _⟩,a.alloc _,(Ch.refl _ _).alloc _⟩
 ·have E:Hid (fN l kind addr=(none,l)):=Z (by unfold fN;rw[if_pos (Or.inr k2)])
  go_in
  go_wp2_with (go_at_call 94;refine(fe _ _ _).mono ?_;rintro e w' ⟨rfl,rfl⟩)
  go_ret2;rw[E];exact⟨⟨_,rfl,ar.mk _ _⟩,a.alloc _,(Ch.refl _ _).alloc _⟩
 have m:Hid (¬(kind<1∨6<kind)):=Z (by omega);have d1:decide (kind<1)=false:=by simpa using k1
 have d2:decide (6<kind)=false:=by simpa using k2
 clear k1 k2;go_wp2
 go_loop [23] (fun s=>∃k:Nat,s=.int .i64 k/\k<=64/\Hid (kJ (l.drop k) k=kJ l 0)) (fun s=>64-(intOf s).toNat)
 case atStart=>exact⟨0,rfl,Nat.zero_le _,rfl⟩
 case round=>
  obtain⟨k,rfl,G,f⟩:=hrel;by_cases x:k<64
  ·obtain⟨r,c⟩:∃r,l[k]?=some r:=⟨_,List.getElem?_eq_getElem (by rw[hlen.out];exact x)⟩
   obtain⟨z,B,C,D,fr,K⟩:=a.cells c;have j:l.drop k=r::l.drop (k+1):=by
    obtain⟨u,v⟩:=List.getElem?_eq_some_iff.1 c;rw[List.drop_eq_getElem_cons u,v]
   have i:=Z j;obtain⟨n,d⟩:=a.start c;have t:=Z n;have q:=Z c;have J:(k:Int)<64:=(by omega);clear j n c;obtain⟨times,handle,M,L⟩:=r;dsimp only at*;cases o:handle !=0
   ·have E:Hid (fN l kind addr=(some (IntKind.u64.wrap (k+1+IntKind.u64.wrap (64*times))),l.set k ⟨IntKind.u64.wrap (times+1),IntKind.u64.wrap (k+1+IntKind.u64.wrap (64*times)),kind,addr⟩)):=Z (by
     have h:kJ l 0=some k:=(by rw[<-f,i,kJ];simp only[o];rfl);unfold fN;rw[if_neg m.out,h];simp only[q.out])
    go_wp2
    go_ret2;rw[E];refine⟨rfl,?_,?_⟩
    ·exact(((t.s1 d rfl).s2 d rfl).s3 d rfl).s0 d rfl
    ·exact((((Ch.refl _ _).only _ _).only _ _).only _ _).only _ _
   ·have p:Hid (kJ (l.drop (k+1)) (k+1)=kJ l 0):=Z (by rw[<-f,i];show _=if(handle !=0)=true then _ else _;rw[if_pos o])
    go_wp2
    go_round
    case rel=>exact⟨k+1,by go_num,by omega,p⟩
    case measure=>simp[intOf];omega
  ·have I:¬(k:Int)<64:=by omega
   have E:Hid (fN l kind addr=(none,l)):=Z (by
    have h:kJ l 0=none:=(by rw[<-f,List.drop_eq_nil_of_le (by rw[hlen.out];omega)];rfl);unfold fN;rw[if_neg m.out,h])
   go_wp2_with (go_at_call 94;refine(fe _ _ _).mono ?_;rintro e w' ⟨rfl,rfl⟩)
   go_ret2;rw[E];exact⟨⟨_,rfl,ar.mk _ _⟩,a.alloc _,(Ch.refl _ _).alloc _⟩
def ca(s:ByteArray)(i:Nat):Int:=((s.data.toList.getD i 0).toNat:Int)
theorem cj(s:ByteArray)(i:Nat)(h:i<s.size):(s[i].toNat:Int)=ca s i:=by
 unfold ca;rw[List.getD_eq_getElem?_getD,List.getElem?_eq_getElem (by simpa using h)];rfl
theorem drop_cons(s:ByteArray)(k:Nat)(h:k<s.size):s.data.toList.drop k=s[k]::s.data.toList.drop (k+1):=by
 rw[List.drop_eq_getElem_cons (by simpa using h)];rfl
theorem ib(s:ByteArray)(k:Nat)(h:s.size<=k):s.data.toList.drop k=[]:=by
 rw[List.drop_eq_nil_iff];simpa using h
theorem vY(b:UInt8):0<=(b.toNat:Int):=Int.natCast_nonneg _
theorem vZ(b:UInt8):(b.toNat:Int)<=255:=by have:=b.toNat_lt;omega
def Cy(k:IntKind)(n:Int)(w:World)(e:Ending)(w':World):Prop:=e=.returned (.int k n)/\w=w'
theorem Cy.mk{k:IntKind}{n m:Int}{w:World}(h:n=m):Cy k n w (.returned (.int k m)) w:=⟨by rw[h],rfl⟩
def yS(k:IntKind)(p:Int×Bool)(w:World)(e:Ending)(w':World):Prop:=e=.returned (.tuple #[.int k p.1,.bool p.2])/\∃n,w'=w.drewN n
theorem yS.mk{k:IntKind}{p:Int×Bool}{n:Int}{b:Bool}{w:World}(m:Nat)(h:p=(n,b)):yS k p w (.returned (.tuple #[.int k n,.bool b])) (w.drewN m):=⟨by rw[h],m,rfl⟩
theorem yS.Dv{k:IntKind}{p:Int×Bool}{n:Int}{b:Bool}{w:World}(h:p=(n,b)):yS k p w (.returned (.tuple #[.int k n,.bool b])) w:=⟨by rw[h],0,rfl⟩
def dU(s:ByteArray):Int×Bool:=
 if(s.size:Int)=2/\ca s 0=114/\48<=ca s 1/\ca s 1<=57 then(ca s 1-48,true)
 else if(s.size:Int)=3/\ca s 0=114/\49<=ca s 1/\ca s 1<=51/\48<=ca s 2/\ca s 2<=57 then(10*(ca s 1-48)+(ca s 2-48),decide (10*(ca s 1-48)+(ca s 2-48)<32))
 else(0,false)
theorem sY(s:ByteArray)(n:s.size<=maxLen)(w:World):Calls prog 154 #[.string s] w (yS .i64 (dU s) w):=by
 unfold maxLen at n;by_cases p:s.size=2
 ·have g:0<s.size:=by omega
  have p1:1<s.size:=by omega
  have b:=cj s 0 g;have c:=cj s 1 p1;have a:=Z (show dU s=_ from by unfold dU;rw[<-b,<-c]);clear b c;go_wp2
  all_goals
   go_ret2;refine yS.Dv ?_;rw[a]
   first
    |(rw[if_pos (by omega)])
    |(rw[if_neg (by omega),if_neg (by omega)])
 ·by_cases q:s.size=3
  ·have g:0<s.size:=by omega
   have p1:1<s.size:=(by omega);have p2:2<s.size:=(by omega);have b:=cj s 0 g;have c:=cj s 1 p1;have i:=cj s 2 p2;have a:=Z (show dU s=_ from by unfold dU;rw[<-b,<-c,<-i]);clear b c i;go_in
   by_cases f:(s[0].toNat:Int)=114/\49<=(s[1].toNat:Int)/\(s[1].toNat:Int)<=51/\48<=(s[2].toNat:Int)/\(s[2].toNat:Int)<=57
   ·obtain⟨e,j,k,l,m⟩:=f
    have o:((s[0].toNat:Int)==114)=true:=(by rw[e];rfl);have d:=Z (And.intro e (And.intro j (And.intro k (And.intro l m))));have u1:IntKind.u8.wrap ((s[1].toNat:Int)-48)=(s[1].toNat:Int)-48:=IntWalk.u8_in _ (by omega);have u2:IntKind.u8.wrap ((s[2].toNat:Int)-48)=(s[2].toNat:Int)-48:=IntWalk.u8_in _ (by omega);have u3:IntKind.i64.wrap (10*((s[1].toNat:Int)-48))=10*((s[1].toNat:Int)-48):=IntWalk.i64_in _ (by omega);have u4:IntKind.i64.wrap (10*((s[1].toNat:Int)-48)+((s[2].toNat:Int)-48))=10*((s[1].toNat:Int)-48)+((s[2].toNat:Int)-48):=IntWalk.i64_in _ (by omega);have u5:IntKind.i64.wrap ((s[1].toNat:Int)-48)=(s[1].toNat:Int)-48:=IntWalk.i64_in _ (by omega);have u6:IntKind.i64.wrap ((s[2].toNat:Int)-48)=(s[2].toNat:Int)-48:=IntWalk.i64_in _ (by omega);clear e;go_wp2
    go_quiet (fail)
    go_wp2
    go_ret2;refine yS.mk _ ?_;have h:=d.out;rw[a,if_neg (by omega),if_pos (by omega)]
   ·have d:=Z f
    clear f;go_wp2
    all_goals
     first
      |(exfalso;exact d ⟨by assumption,by assumption,by assumption,by assumption,by assumption⟩)
      |(go_ret2
        refine yS.Dv ?_;have h:=d.out;rw[a,if_neg (by omega),if_neg (by omega)])
  ·have a:=Z (show dU s=(0,false)from by unfold dU;rw[if_neg (by omega),if_neg (by omega)])
   go_wp2
   all_goals
    go_ret2;exact yS.Dv a
def QB(b:Bool)(w:World)(e:Ending)(w':World):Prop:=e=.returned (.bool b)/\∃n,w'=w.drewN n
theorem QB.Dv{b c:Bool}{w:World}(h:b=c):QB b w (.returned (.bool c)) w:=⟨by rw[h],0,rfl⟩
theorem QB.mk{b c:Bool}{w:World}(n:Nat)(h:b=c):QB b w (.returned (.bool c)) (w.drewN n):=⟨by rw[h],n,rfl⟩
def hP(c:UInt8):Bool:=decide ((97<=(c.toNat:Int)/\(c.toNat:Int)<=122)∨(48<=(c.toNat:Int)/\(c.toNat:Int)<=57))
def m6(s:ByteArray):Bool:=decide ((s.size:Int)<1∨16<(s.size:Int)∨ca s 0<97∨122<ca s 0)
def fY(s:ByteArray):Bool:=if m6 s then false else if s.data.toList.all hP then !(dU s).2 else false
theorem yh(s:ByteArray)(m:s.size<=maxLen)(w:World):Calls prog 130 #[.string s] w (QB (fY s) w):=by
 have o:s.size<=maxLen:=m;have q:=Z o;clear o;unfold maxLen at m;by_cases hb:m6 s=true
 ·have b:Hid (fY s=false):=by show _=_;unfold fY;rw[if_pos hb]
  unfold m6 at hb
  replace hb:=of_decide_eq_true hb
  have p:=Z hb;clear hb;go_wp2
  all_goals first
   |(go_ret;exact QB.Dv b)
   |(exfalso;have hb:=p.out;simp only[cj]at*;omega)
 ·have b:Hid (fY s=if s.data.toList.all hP then !(dU s).2 else false):=by show _=_;unfold fY;rw[if_neg hb]
  unfold m6 at hb;simp only[decide_eq_true_eq]at hb;have x:1<=s.size:=by omega
  have y:s.size<=16:=by omega
  have A:0<s.size:=by omega
  have t:97<=(s[0].toNat:Int):=by rw[cj];omega
  have u:(s[0].toNat:Int)<=122:=by rw[cj];omega
  clear hb;go_wp2
  go_loop [3] (fun i=>∃(k:Nat),k<=s.size/\i=.int .i64 k/\Hid (s.data.toList.all hP=(s.data.toList.drop k).all hP)) (fun i=>s.size-(intOf i).toNat)
  case atStart=>exact⟨0,by omega,rfl,rfl⟩
  case round=>
   obtain⟨k,z,rfl,d⟩:=hrel;by_cases r:k<s.size
   ·have f:Hid (s.data.toList.drop k=s[k]::s.data.toList.drop (k+1)):=drop_cons s k r
    by_cases a:hP s[k]=true
    ·have c:Hid ((s.data.toList.drop k).all hP=(s.data.toList.drop (k+1)).all hP):=by
      show _=_
      rw[f,List.all_cons,a,Bool.true_and]
     unfold hP at a;rw[decide_eq_true_eq]at a;have j:((97<=(s[k].toNat:Int))/\(s[k].toNat:Int)<=122)∨((s[k].toNat:Int)<97/\48<=(s[k].toNat:Int)/\(s[k].toNat:Int)<=57):=(by omega);clear a;rcases j with⟨g,h⟩|⟨g,h,l⟩
     all_goals
      go_wp2
      go_round
      case rel=>exact⟨k+1,by omega,by go_num,d.trans c⟩
      case measure=>simp[intOf];omega
    ·have c:Hid ((s.data.toList.drop k).all hP=false):=by
      show _=_
      rw[f,List.all_cons];simp only[Bool.not_eq_true]at a;rw[a,Bool.false_and]
     unfold hP at a;rw[decide_eq_true_eq]at a;have j:(s[k].toNat:Int)<48∨(57<(s[k].toNat:Int)/\(s[k].toNat:Int)<97)∨(122<(s[k].toNat:Int)):=(by omega);clear a;rcases j with g|⟨g,h⟩|g
     ·have h:(s[k].toNat:Int)<97:=by omega
      go_wp2
      all_goals first
       |(exfalso;simp only[Bool.not_eq_false',decide_eq_true_eq]at*;omega)
       |(go_ret;exact QB.Dv (by rw[b,d,c];rfl))
     ·have l:48<=(s[k].toNat:Int):=by omega
      go_wp2
      all_goals first
       |(exfalso;simp only[Bool.not_eq_false',decide_eq_true_eq]at*;omega)
       |(go_ret;exact QB.Dv (by rw[b,d,c];rfl))
     ·have h:97<=(s[k].toNat:Int):=by omega
      have l:48<=(s[k].toNat:Int):=(by omega);have v:57<(s[k].toNat:Int):=(by omega);go_wp2
      all_goals first
       |(exfalso;simp only[Bool.not_eq_false',decide_eq_true_eq]at*;omega)
       |(go_ret;exact QB.Dv (by rw[b,d,c];rfl))
   ·have f:Hid (s.data.toList.drop k=[]):=ib s k (by omega)
    go_wp2_with (go_at_call 154;refine(sY _ q _).mono ?_;rintro e w' ⟨rfl,n,rfl⟩)
    go_ret;exact QB.mk _ (by rw[b,d,f];rfl)
def mV(c:Int):Int:=
 if 48<=c/\c<=57 then c-48 else if 97<=c/\c<=102 then c-87 else if 65<=c/\c<=70 then c-55 else 99
theorem v3(c:Int):0<=mV c:=by unfold mV;split;omega;split;omega;split;omega;omega
theorem ow(c:Int)(a:0<=c)(b:c<=255)(w:World):Calls prog 205 #[.int .u8 c] w (Cy .u64 (mV c) w):=by
 go_wp2
 all_goals(go_ret;refine Cy.mk ?_)
 all_goals(first
  |(unfold mV;rw[if_pos (by omega)])
  |(unfold mV;rw[if_neg (by omega),if_pos (by omega)];omega)
  |(unfold mV;rw[if_neg (by omega),if_neg (by omega),if_pos (by omega)];omega)
  |(unfold mV;rw[if_neg (by omega),if_neg (by omega),if_neg (by omega)]))
def sZ:List UInt8->Int->Int->Option Int
 |[],_,v=>some v
 |c::cs,j,v=>if mV c.toNat<10/\j<20/\v<=1844674407370955161/\v*10<=18446744073709551615-mV c.toNat then sZ cs (j+1) (v*10+mV c.toNat)else none
def yi(s:ByteArray):Option Int:=if 2<=(s.size:Int)/\ca s 0=48/\ca s 1=120 then none else if s.size=0 then none else sZ s.data.toList 0 0
def FP(v:Int)(w:World)(e:Ending)(w':World):Prop:=e=.returned (.tuple #[.int .u64 v,.pointer none])/\aI v/\w=w'
theorem uM(s:ByteArray)(I:s.size<=maxLen)(v:Int)(h:yi s=some v)(w:World):Calls prog 181 #[.string s] w (FP v w):=by
 unfold maxLen at I;unfold yi at h;split at h
 ·cases h
 ·rename_i y
  split at h
  ·cases h
  ·rename_i L
   have x:=Z h;clear h;have J:1<=s.size:=(by omega);have M:0<s.size:=(by omega);have z:=Z y;clear y;by_cases p:2<=s.size/\ca s 0=48
   ·obtain⟨K,q⟩:=p
    have p1:1<s.size:=(by omega);have f:((s[0].toNat:Int)==48)=true:=(by rw[cj,beq_iff_eq];exact q);have A:((s[1].toNat:Int)==120)=false:=(by rw[cj,beq_eq_false_iff_ne];intro e;exact z ⟨by omega,q,e⟩);clear q;go_wp2
    clear f A p1;go_loop [7,8] (fun n i=>∃(k:Nat) (m:Int),k<=s.size/\i=.int .i64 k/\n=.int .u64 m/\0<=m/\m<=18446744073709551615/\Hid (sZ (s.data.toList.drop k) k m=some v)) (fun _ i=>s.size-(intOf i).toNat)
    case atStart=>exact⟨0,0,by omega,rfl,rfl,by omega,by omega,x⟩
    case round=>
     obtain⟨k,m,F,rfl,rfl,u,H,b⟩:=hrel;by_cases t:k<s.size
     ·have a:Hid (s.data.toList.drop k=s[k]::s.data.toList.drop (k+1)):=drop_cons s k t
      have h:=b.out;rw[a,sZ]at h;split at h
      ·rename_i j
       have d:=Z h;clear h;have r:=v3 s[k].toNat;obtain⟨l,g⟩:=nm (mV s[k].toNat);have c:=Z (fun w=>ow s[k].toNat (vY _) (vZ _) w);rw[g]at c j r d;obtain⟨B,C,D,E⟩:=j;have G:k<=19:=(by omega);clear g;go_wp2_with (go_at_call 205;refine(c _).mono ?_;rintro e w' ⟨rfl,rfl⟩)
       go_round
       case rel=>exact⟨k+1,m*10+l,by omega,by go_num,rfl,by omega,by omega,d⟩
       case measure=>simp[intOf];omega
      ·cases h
     ·have a:Hid (s.data.toList.drop k=[]):=ib s k (by omega)
      have h:=b.out;rw[a,sZ]at h;obtain rfl:m=v:=Option.some.inj h;clear h b;go_wp2
      go_ret2;exact⟨rfl,⟨u,by omega⟩,rfl⟩
   ·have f:(2<=s.size->((s[0].toNat:Int)==48)=false):=fun o=>by rw[cj,beq_eq_false_iff_ne];intro e;exact p ⟨o,e⟩
    clear p;by_cases o:2<=s.size
    all_goals
     (try have f:=f o)
     go_wp2
     clear f;go_loop [7,8] (fun n i=>∃(k:Nat) (m:Int),k<=s.size/\i=.int .i64 k/\n=.int .u64 m/\0<=m/\m<=18446744073709551615/\Hid (sZ (s.data.toList.drop k) k m=some v)) (fun _ i=>s.size-(intOf i).toNat)
     case atStart=>exact⟨0,0,by omega,rfl,rfl,by omega,by omega,x⟩
     case round=>
      obtain⟨k,m,F,rfl,rfl,u,H,b⟩:=hrel;by_cases t:k<s.size
      ·have a:Hid (s.data.toList.drop k=s[k]::s.data.toList.drop (k+1)):=drop_cons s k t
       have h:=b.out;rw[a,sZ]at h;split at h
       ·rename_i j
        have d:=Z h;clear h;have r:=v3 s[k].toNat;obtain⟨l,g⟩:=nm (mV s[k].toNat);have c:=Z (fun w=>ow s[k].toNat (vY _) (vZ _) w);rw[g]at c j r d;obtain⟨B,C,D,E⟩:=j;have G:k<=19:=(by omega);clear g;go_wp2_with (go_at_call 205;refine(c _).mono ?_;rintro e w' ⟨rfl,rfl⟩)
        go_round
        case rel=>exact⟨k+1,m*10+l,by omega,by go_num,rfl,by omega,by omega,d⟩
        case measure=>simp[intOf];omega
       ·cases h
      ·have a:Hid (s.data.toList.drop k=[]):=ib s k (by omega)
       have h:=b.out;rw[a,sZ]at h;obtain rfl:m=v:=Option.some.inj h;clear h b;go_wp2
       go_ret2;exact⟨rfl,⟨u,by omega⟩,rfl⟩
theorem Cz(t:ByteArray)(n:Int)(w:World):Calls prog 182 #[.string t,n,.pointer none] w (eg (.pointer none) w):=by
 go_wp2
 go_ret;exact⟨rfl,rfl⟩
theorem cV(s:ByteArray)(a:s.size<=maxLen)(v:Int)(h:yi s=some v)(p:Nat)(line:Int)(w:World)(f:w.cell? (p,4)=some (.int .i64 line)):
 Calls prog 158 #[(p,0),.string s] w (FP v w):=by
 have c:=Z (uM s a v h);clear h a;go_in
 go_wp2_with (first|(go_at_call 181;refine(c _).mono ?_;rintro e w' ⟨rfl,b,rfl⟩;have d:=Z b;clear b)|(go_at_call 182;refine(Cz _ _ _).mono ?_;rintro e w' ⟨rfl,rfl⟩))
 go_ret2;exact⟨rfl,d,rfl⟩
def aq(w:World)(b:Nat)(X:aR):Prop:=Row w b 121 (aG X).toList
theorem aq.FQ{w:World}{b:Nat}{X:aR}(h:aq w b X)(n:Int):aq (w.setCell (b,1) (.int .i64 n)) b {X with a:=n}:=Row.bc h _ _ rfl
theorem aq.ox{w:World}{b:Nat}{X:aR}(h:aq w b X)(n:Int):aq (w.setCell (b,2) (.int .i64 n)) b {X with b:=n}:=Row.bc h _ _ rfl
theorem aq.v5{w:World}{b:Nat}{X:aR}(h:aq w b X)(n:Int):aq (w.setCell (b,3) (.int .i64 n)) b {X with c:=n}:=Row.bc h _ _ rfl
theorem aq.mH{w:World}{b:Nat}{X:aR}(h:aq w b X)(n:Int):aq (w.setCell (b,4) (.int .u64 n)) b {X with v:=n}:=Row.bc h _ _ rfl
theorem aq.v7{w:World}{b:Nat}{X:aR}(h:aq w b X)(n:Int):aq (w.setCell (b,5) (.int .i64 n)) b {X with m:=n}:=Row.bc h _ _ rfl
theorem aq.Aw{w:World}{b:Nat}{X:aR}(h:aq w b X)(n:Int):aq (w.setCell (b,6) (.int .i64 n)) b {X with wh:=n}:=Row.bc h _ _ rfl
theorem aq.drewN{w:World}{b:Nat}{X:aR}(h:aq w b X)(n:Nat):aq (w.drewN n) b X:=h
theorem aq.drew{w:World}{b:Nat}{X:aR}(h:aq w b X):aq w.drew b X:=h
def G9(X:aR)(a:Nat)(w:World)(e:Ending)(w':World):Prop:=e=.returned (.pointer none)/\aq w' a X/\Ch (aL a) w w'
def hj:List UInt8->Int->Int
 |[],_=>-1
 |c::cs,i=>if(c.toNat:Int)=43 then i else hj cs (i+1)
theorem Ax(l:List UInt8):∀i,hj l i=-1∨(i<=hj l i/\hj l i<i+l.length):=by
 induction l with
 |nil=>intro i;exact Or.inl rfl
 |cons c l ih=>
  intro i;unfold hj;split
  ·right;simp only[List.length_cons];omega
  ·rcases ih (i+1)with h|h
   ·exact Or.inl h
   ·right;simp only[List.length_cons];omega
def G'(s:ByteArray):ByteArray:=s.extract 1 (s.size-1)
def v8(t:ByteArray)(X:aR):Option aR:=
 if(dU t).2 then some {X with b:=(dU t).1}
 else if 0<=hj t.data.toList 0 then
  (if(dU (t.extract 0 (hj t.data.toList 0).toNat)).2 then(yi (t.extract ((hj t.data.toList 0).toNat+1) t.size)).map fun v=>{X with b:=(dU (t.extract 0 (hj t.data.toList 0).toNat)).1,v:=v}else none)
 else(yi t).map fun v=>{X with b:=-1,v:=v}
def uN(s:ByteArray)(X:aR):Option aR:=
 if(s.size:Int)<2∨ca s 0≠91∨ca s (s.size-1)≠93 then none else v8 (G' s) X
theorem jQ(s:ByteArray)(a:s.size<=maxLen)(n:Int)(b:Bool)(h:dU s=(n,b))(w:World):Calls prog 154 #[.string s] w (yS .i64 (n,b) w):=by rw[<-h];exact sY s a w
theorem yj(s:ByteArray)(bi:s.size<=65536)(X g:aR)(h:uN s X=some g)(p j:Nat)(line:Int)(w:World)(N:w.cell? (p,4)=some (.int .i64 line))(f:aq w j X):
 Calls prog 157 #[(p,0),.string s,(j,0)] w (G9 g j w):=by
 unfold uN at h;split at h
 ·cases h
 ·rename_i a1
  have am:2<=s.size:=by omega
  have bw:0<s.size:=by omega
  have p1:s.size-1<s.size:=by omega
  have V:((s[0].toNat:Int) !=91)=false:=by rw[cj,bne_eq_false_iff_eq];omega
  have W:((s[s.size-1].toNat:Int) !=93)=false:=by rw[cj,bne_eq_false_iff_eq];omega
  clear a1;have f1:=f.free 2;have f2:=f.free 4;have ad:w.cell? (j,2)=some (.int .i64 X.b):=f.cell rfl;have al:w.cell? (j,4)=some (.int .u64 X.v):=f.cell rfl;have F:=Z f;clear f;obtain⟨t,H⟩:=nm (s.extract 1 (s.size-1));have bv:t.size<=65536:=by rw[<-H];simp;omega
  have K:G' s=t:=H;rw[K]at h;have U:=Z h;clear h K;go_in
  go_upto_block 0 with fail
  clear H V W;obtain⟨P,G⟩:=nm (hj t.data.toList 0);have r:=Ax t.data.toList 0;rw[G]at r;have L:t.data.toList.length=t.size:=by simp
  rw[L]at r;have J:=Z G;clear G L;go_cut [7] (fun q wc=>q=.int .i64 P/\w=wc)
  case first=>
   go_wp2
   go_loop [7,8] (fun q i=>∃(k:Nat) (m:Int),k<=t.size/\i=.int .i64 k/\q=.int .i64 m/\((m<0/\-1<=m/\Hid (hj (t.data.toList.drop k) k=P))∨(0<=m/\m<t.size/\Hid (m=P)))) (fun _ i=>t.size-(intOf i).toNat)
   case atStart=>exact⟨0,-1,by omega,rfl,rfl,Or.inl ⟨by omega,by omega,J⟩⟩
   case round=>
    obtain⟨k,m,ap,rfl,rfl,a2⟩:=hrel;rcases a2 with⟨R,S,C⟩|⟨R,S,c⟩
    ·by_cases M:k<t.size
     ·have o:Hid (t.data.toList.drop k=t[k]::t.data.toList.drop (k+1)):=drop_cons t k M
      by_cases d:(t[k].toNat:Int)=43
      ·have c:Hid ((k:Int)=P):=by
        show _=_
        have:=C.out;rw[o,hj,if_pos d]at this;exact this
       have a0:((t[k].toNat:Int)==43)=true:=(by rw[d];rfl);clear d;go_wp2
       go_round
       case rel=>exact⟨k+1,k,by omega,by go_num,rfl,Or.inr ⟨by omega,by omega,c⟩⟩
       case measure=>simp[intOf];omega
      ·have c:Hid (hj (t.data.toList.drop (k+1)) ((k+1:Nat):Int)=P):=by
        show _=_
        have:=C.out;rw[o,hj,if_neg d]at this;exact this
       have a0:((t[k].toNat:Int)==43)=false:=(by simpa using d);clear d;go_wp2
       go_round
       case rel=>exact⟨k+1,m,by omega,by go_num,rfl,Or.inl ⟨R,S,c⟩⟩
       case measure=>simp[intOf];omega
     ·have o:Hid (t.data.toList.drop k=[]):=ib t k (by omega)
      have c:Hid (m=P):=by
       show _=_
       have:=C.out;rw[o,hj]at this;omega
      go_wp2
      go_meet
      exact⟨by rw[c],rfl⟩
    ·by_cases M:k<t.size
     all_goals
      go_wp2
      go_meet
      exact⟨by rw[c],rfl⟩
  case rest=>
   obtain⟨rfl,rfl⟩:=hcut;have h:=U.out;unfold v8 at h;rw[J]at h;have A:t.size<=maxLen:=(by unfold maxLen;omega);rcases u:dU t with⟨n,b⟩
   have E:=Z (jQ t A n b u);rw[u]at h;cases b with
   |true=>
    obtain rfl:g={X with b:=n}:=(Option.some.inj h).symm;clear h u;go_wp2_with (go_at_call 154;(with_reducible refine(E.out _).mono ?_);rintro e w' ⟨rfl,I,rfl⟩)
    go_ret;exact⟨rfl,(F.drewN I).ox n,((Ch.refl _ _).drewN _).only _ _⟩
   |false=>
    simp only[Bool.false_eq_true,if_false]at h;clear u;by_cases l:0<=P
    ·rw[if_pos l]at h
     obtain⟨q,rfl⟩:=Int.eq_ofNat_of_zero_le l;have ax:q<t.size:=(by omega);simp only[Int.toNat_natCast]at h;rcases x:dU (t.extract 0 q)with⟨B,Y⟩
     rw[x]at h;cases Y with
     |false=>cases h
     |true=>
      simp only[if_true]at h;obtain⟨y,O⟩:=nm (t.extract 0 q);obtain⟨z,Q⟩:=nm (t.extract (q+1) t.size);have a3:y.size<=maxLen:=(by rw[<-O];unfold maxLen;simp;omega);have ab:z.size<=maxLen:=(by rw[<-Q];unfold maxLen;simp;omega);rw[O]at x;rw[Q]at h;have T:=Z (jQ y a3 B true x);cases a:yi z with
      |none=>rw[a]at h;cases h
      |some v=>
       rw[a]at h;obtain rfl:g={X with b:=B,v:=v}:=(Option.some.inj h).symm;have D:=Z (cV z ab v a p line);clear h x a r l;go_wp2_with (first|(go_at_call 154;(with_reducible refine(E.out _).mono ?_);rintro e w' ⟨rfl,I,rfl⟩)|(go_at_call 154;(with_reducible refine(T.out _).mono ?_);rintro e w' ⟨rfl,nq,rfl⟩)|(go_at_call 158;(with_reducible refine(D.out _ ?_).mono ?_);exact N;rintro e w' ⟨rfl,A,rfl⟩))
       go_ret;refine⟨rfl,?_,by repeat(first|exact Ch.refl _ _|with_reducible refine Ch.drewN ?_ _|with_reducible refine Ch.drew ?_|with_reducible refine Ch.only ?_ _ _)⟩
       (repeat(first|with_reducible refine aq.drewN ?_ _|with_reducible refine aq.drew ?_))
       refine aq.mH (X:={X with b:=B}) ?_ v
       (repeat(first|with_reducible refine aq.drewN ?_ _|with_reducible refine aq.drew ?_))
       refine aq.ox (X:=X) ?_ B
       (repeat(first|with_reducible refine aq.drewN ?_ _|with_reducible refine aq.drew ?_))
       exact F
    ·rw[if_neg l]at h
     have av:P<0:=(by omega);cases a:yi t with
     |none=>rw[a]at h;cases h
     |some v=>
      rw[a]at h;obtain rfl:g={X with b:=-1,v:=v}:=(Option.some.inj h).symm;have D:=Z (cV t A v a p line);clear h a r l;go_wp2_with (first|(go_at_call 154;(with_reducible refine(E.out _).mono ?_);rintro e w' ⟨rfl,I,rfl⟩)|(go_at_call 158;(with_reducible refine(D.out _ ?_).mono ?_);exact N;rintro e w' ⟨rfl,A,rfl⟩))
      go_ret;refine⟨rfl,?_,by repeat(first|exact Ch.refl _ _|with_reducible refine Ch.drewN ?_ _|with_reducible refine Ch.drew ?_|with_reducible refine Ch.only ?_ _ _)⟩
      (repeat(first|with_reducible refine aq.drewN ?_ _|with_reducible refine aq.drew ?_))
      refine aq.mH (X:={X with b:=-1}) ?_ v
      (repeat(first|with_reducible refine aq.drewN ?_ _|with_reducible refine aq.drew ?_))
      refine aq.ox (X:=X) ?_ (-1)
      (repeat(first|with_reducible refine aq.drewN ?_ _|with_reducible refine aq.drew ?_))
      exact F
def fI(t:ByteArray)(a:Int):Int×ByteArray:=
 if 2<=t.size/\((t.extract (t.size-2) t.size).data.toList==[61,48])=true then(1,t.extract 0 (t.size-2))
 else if 2<=t.size/\((t.extract (t.size-2) t.size).data.toList==[62,48])=true then(2,t.extract 0 (t.size-2))
 else(a,t)
def jq(X:aR)(p:Int×ByteArray):Option aR:=
 match yi p.2 with
 |none=>none
 |some v=>if v<1∨99<v then none else some {X with wh:=p.1,m:=v}
def q4(s:ByteArray)(X:aR):Option aR:=jq X (fI (s.extract 1 s.size) X.wh)
theorem yl(s:ByteArray)(E:s.size<=65536)(D:1<=s.size)(X i:aR)(h:q4 s X=some i)(p j:Nat)(line:Int)(w:World)(o:w.cell? (p,4)=some (.int .i64 line))(A:p≠j)(k:aq w j X):
 Calls prog 135 #[(p,0),.string s,(j,0)] w (G9 i j w):=by
 have B:w.cell? (j,5)=some (.int .i64 X.m):=k.cell rfl;have C:w.cell? (j,6)=some (.int .i64 X.wh):=k.cell rfl;have f5:=k.free 5;have f6:=k.free 6;have l:=Z k;clear k;unfold q4 at h;obtain⟨t,r⟩:=nm (s.extract 1 s.size);have F:t.size<=65536:=by rw[<-r];simp;omega
 rw[r]at h;go_in
 go_upto_region 2 with fail
 clear r;by_cases n:2<=t.size
 ·cases q:(t.extract (t.size-2) t.size).toList==[61,48]with
  |true=>
   have c:fI t X.wh=(1,t.extract 0 (t.size-2)):=(by unfold fI;rw[if_pos ⟨n,ByteArray.toList_eq (t.extract (t.size-2) t.size)▸q⟩]);rw[c]at h;clear c;unfold jq at h;dsimp only at h;cases a:yi (t.extract 0 (t.size-2))with
   |none=>rw[a]at h;cases h
   |some v=>
    rw[a]at h;dsimp only at h;split at h
    ·cases h
    ·rename_i g
     obtain rfl:i={X with wh:=1,m:=v}:=(Option.some.inj h).symm;have d:=Z (cV (t.extract 0 (t.size-2)) (by unfold maxLen;first|omega|(simp;omega)) v a p line);have x:1<=v:=(by omega);have y:v<=99:=(by omega);clear h a g;go_upto_region 3 with fail
     obtain⟨u,f⟩:=nm (t.extract 0 (t.size-2));rw[f]at d;go_region
     go_wp2_with (go_at_call 158;(with_reducible refine(d.out _ ?_).mono ?_);(simp[go_sem,A,o]);rintro e w' ⟨rfl,f,rfl⟩)
     go_ret;refine⟨rfl,?_,by repeat(first|exact Ch.refl _ _|with_reducible refine Ch.drewN ?_ _|with_reducible refine Ch.drew ?_|with_reducible refine Ch.only ?_ _ _)⟩
     (repeat(first|with_reducible refine aq.drewN ?_ _|with_reducible refine aq.drew ?_))
     refine aq.v7 (X:={X with wh:=1}) ?_ v
     (repeat(first|with_reducible refine aq.drewN ?_ _|with_reducible refine aq.drew ?_))
     refine aq.Aw (X:=X) ?_ 1
     (repeat(first|with_reducible refine aq.drewN ?_ _|with_reducible refine aq.drew ?_))
     exact l
  |false=>
   cases z:(t.extract (t.size-2) t.size).toList==[62,48]with
   |true=>
    have c:fI t X.wh=(2,t.extract 0 (t.size-2)):=(by unfold fI;rw[if_neg (fun b=>by rw[<-ByteArray.toList_eq,q]at b;cases b.2),if_pos ⟨n,ByteArray.toList_eq (t.extract (t.size-2) t.size)▸z⟩]);rw[c]at h;clear c;unfold jq at h;dsimp only at h;cases a:yi (t.extract 0 (t.size-2))with
    |none=>rw[a]at h;cases h
    |some v=>
     rw[a]at h;dsimp only at h;split at h
     ·cases h
     ·rename_i g
      obtain rfl:i={X with wh:=2,m:=v}:=(Option.some.inj h).symm;have d:=Z (cV (t.extract 0 (t.size-2)) (by unfold maxLen;first|omega|(simp;omega)) v a p line);have x:1<=v:=(by omega);have y:v<=99:=(by omega);clear h a g;go_upto_region 5 with fail
      obtain⟨u,f⟩:=nm (t.extract 0 (t.size-2));rw[f]at d;go_region
      go_wp2_with (go_at_call 158;(with_reducible refine(d.out _ ?_).mono ?_);(simp[go_sem,A,o]);rintro e w' ⟨rfl,f,rfl⟩)
      go_ret;refine⟨rfl,?_,by repeat(first|exact Ch.refl _ _|with_reducible refine Ch.drewN ?_ _|with_reducible refine Ch.drew ?_|with_reducible refine Ch.only ?_ _ _)⟩
      (repeat(first|with_reducible refine aq.drewN ?_ _|with_reducible refine aq.drew ?_))
      refine aq.v7 (X:={X with wh:=2}) ?_ v
      (repeat(first|with_reducible refine aq.drewN ?_ _|with_reducible refine aq.drew ?_))
      refine aq.Aw (X:=X) ?_ 2
      (repeat(first|with_reducible refine aq.drewN ?_ _|with_reducible refine aq.drew ?_))
      exact l
   |false=>
    have c:fI t X.wh=(X.wh,t):=(by unfold fI;rw[if_neg (fun b=>by rw[<-ByteArray.toList_eq,q]at b;cases b.2),if_neg (fun b=>by rw[<-ByteArray.toList_eq,z]at b;cases b.2)]);rw[c]at h;clear c;unfold jq at h;dsimp only at h;cases a:yi t with
    |none=>rw[a]at h;cases h
    |some v=>
     rw[a]at h;dsimp only at h;split at h
     ·cases h
     ·rename_i g
      obtain rfl:i={X with wh:=X.wh,m:=v}:=(Option.some.inj h).symm;have d:=Z (cV t (by unfold maxLen;first|omega|(simp;omega)) v a p line);have x:1<=v:=(by omega);have y:v<=99:=(by omega);clear h a g;go_wp2_with (go_at_call 158;(with_reducible refine(d.out _ ?_).mono ?_);exact o;rintro e w' ⟨rfl,f,rfl⟩)
      go_ret;refine⟨rfl,?_,by repeat(first|exact Ch.refl _ _|with_reducible refine Ch.drewN ?_ _|with_reducible refine Ch.drew ?_|with_reducible refine Ch.only ?_ _ _)⟩
      (repeat(first|with_reducible refine aq.drewN ?_ _|with_reducible refine aq.drew ?_))
      refine aq.v7 (X:={X with wh:=X.wh}) ?_ v
      (repeat(first|with_reducible refine aq.drewN ?_ _|with_reducible refine aq.drew ?_))
      exact l
 ·have c:fI t X.wh=(X.wh,t):=by unfold fI;rw[if_neg (fun b=>n b.1),if_neg (fun b=>n b.1)]
  rw[c]at h;clear c;unfold jq at h;dsimp only at h;cases a:yi t with
  |none=>rw[a]at h;cases h
  |some v=>
   rw[a]at h;dsimp only at h;split at h
   ·cases h
   ·rename_i g
    obtain rfl:i={X with wh:=X.wh,m:=v}:=(Option.some.inj h).symm;have d:=Z (cV t (by unfold maxLen;first|omega|(simp;omega)) v a p line);have x:1<=v:=(by omega);have y:v<=99:=(by omega);clear h a g;go_wp2_with (go_at_call 158;(with_reducible refine(d.out _ ?_).mono ?_);exact o;rintro e w' ⟨rfl,f,rfl⟩)
    go_ret;refine⟨rfl,?_,by repeat(first|exact Ch.refl _ _|with_reducible refine Ch.drewN ?_ _|with_reducible refine Ch.drew ?_|with_reducible refine Ch.only ?_ _ _)⟩
    (repeat(first|with_reducible refine aq.drewN ?_ _|with_reducible refine aq.drew ?_))
    refine aq.v7 (X:={X with wh:=X.wh}) ?_ v
    (repeat(first|with_reducible refine aq.drewN ?_ _|with_reducible refine aq.drew ?_))
    exact l
end Go.Proofs.YtfnilkpkogipfaaGreatDoor
