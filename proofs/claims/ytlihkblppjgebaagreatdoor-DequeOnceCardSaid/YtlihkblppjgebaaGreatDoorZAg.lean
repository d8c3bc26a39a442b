import Derived.Laws.MakeOwn
import Derived.Test.YtlihkblppjgebaaGreatDoorZAb
import Derived.Test.YtlihkblppjgebaaGreatDoorZAd
import Derived.Test.YtlihkblppjgebaaGreatDoorZAe
set_option linter.all false
set_option maxRecDepth 100000
set_option maxHeartbeats 8000000
namespace Go.Proofs.YtlihkblppjgebaaGreatDoor
open Go.RowKit Go.Proofs.Tryz
structure lV where
 id:Int
 state:Int
 home:Int
 value:Int
 bI:Int
 loose:Bool
 aJ:Bool
 deriving DecidableEq,Repr,Inhabited
def lV.zero:lV:=⟨0,0,0,0,0,false,false⟩
def lV.cells(t:lV):List Value:=[.int .u64 t.id,.int .i64 t.state,.int .u64 t.home,.int .u64 t.value,.int .u64 t.bI,.bool t.loose,.bool t.aJ]
def lV.val(t:lV):Value:=.agg #[.int .u64 t.id,.int .i64 t.state,.int .u64 t.home,.int .u64 t.value,.int .u64 t.bI,.bool t.loose,.bool t.aJ]
structure aD where
 times:Int
 taken:Bool
 bE:Bool
 t:lV
 deriving DecidableEq,Repr,Inhabited
def aD.cells(r:aD):List Value:=[.int .u64 r.times,.bool r.taken,.bool r.bE,.int .u64 r.t.id,.int .i64 r.t.state,.int .u64 r.t.home,.int .u64 r.t.value,.int .u64 r.t.bI,.bool r.t.loose,.bool r.t.aJ]
theorem aD.len(r:aD):r.cells.length=10:=rfl
structure aU(w:World)(b g:Nat)(l:List aD):Prop where
 head:Row w b 208 [.slice (some ⟨g,0,none⟩) 64 64]
 rows:Row w g 210 (l.flatMap aD.cells)
 len:l.length=64
def dS(l:List aD)(id:Int):Option Nat:=
 match l[(id%64).toNat]? with
 |none=>none
 |some r=>if r.taken&&r.t.id==id then some (id%64).toNat else none
theorem eb{l:List aD}{id:Int}{p:Nat}(h:dS l id=some p):p=(id%64).toNat/\∃r,l[p]?=some r/\r.taken=true/\r.t.id=id:=by
 unfold dS at h;split at h
 ·cases h
 ·rename_i r c
  split at h
  ·rename_i a
   have b:(id%64).toNat=p:=(by simpa using h);rw[Bool.and_eq_true,beq_iff_eq]at a;subst b;exact⟨rfl,r,c,a.1,a.2⟩
  ·cases h
def b0(g:Nat):Option Nat->Value
 |none=> .pointer none
 |some p=> .pointer (some ⟨g,p*10,none⟩)
theorem e5(b g:Nat)(l:List aD)(id:Int)(hid:aH id)(w:World)(h:aU w b g l):Calls prog 162 #[.pointer (some ⟨b,0,none⟩),.int .u64 id] w (d' (b0 g (dS l id)) w):=by
 have q:=hid.lo;have y:=h.head.c1;obtain⟨p,e⟩:∃p:Nat,(p:Int)=id%64:=⟨(id%64).toNat,by omega⟩;have m:p<64:=by omega
 obtain⟨r,a⟩:∃r,l[p]?=some r:=⟨_,List.getElem?_eq_getElem (by rw[h.len];exact m)⟩;have f:(id%64).toNat=p:=by omega
 have s:=h.rows.at aD.len a (j:=1) (by omega) rfl;have t:=h.rows.at aD.len a (j:=3) (by omega) rfl;have z:=h.rows.lt;have E:=Z f;have v:=Z e;have x:=Z a;have c:Hid (dS l id=if r.taken&&r.t.id==id then some p else none):=Z (by unfold dS;rw[f,a]);have A:(p:Int)<64:=by omega
 have B:id.tmod 64=(p:Int):=by rw[Int.tmod_eq_emod_of_nonneg q];exact e.symm
 clear e f a h m;obtain⟨n,i⟩:=nm r.t.id;obtain⟨u,k⟩:=nm r.taken;rw[i,k]at c;rw[i]at t;rw[k]at s;clear i k;cases u
 ·go_enter func162,ntmps162
  go_wp2
  go_ret;exact d'.mk (by rw[c.out];rfl)
 ·by_cases d:n=id
  ·subst d
   go_enter func162,ntmps162
   go_wp2
   go_ret;exact d'.mk (by rw[c.out];simp[b0])
  ·have hb:(n !=id)=true:=by simpa using d
   have o:=Z d;clear d;go_enter func162,ntmps162
   go_wp2
   go_ret;exact d'.mk (by rw[c.out];simp[b0,o.out])
theorem a5(t:TypeId)(x:Value)(w:World):Calls prog 106 #[.iface t x] w (fun e w'=>e=.returned (.iface 247 (.pointer (some ⟨w.heap.size,0,none⟩)))/\w.alloc (.cells #[.string ⟨#[116,97,98,108,101]⟩,.int .i64 0,.iface t x] 249)=w'):=by
 go_enter func106,ntmps106
 go_wp2
 go_ret;exact⟨rfl,rfl⟩
theorem aU.ne{w:World}{b g:Nat}{l:List aD}(h:aU w b g l):b≠g:=h.head.ne h.rows (by decide)
theorem aU.alloc{w:World}{b g:Nat}{l:List aD}(h:aU w b g l)(a:Obj):aU (w.alloc a) b g l:=⟨h.head.alloc a,h.rows.alloc a,h.len⟩
theorem aU.put{w:World}{b g:Nat}{l:List aD}(h:aU w b g l){p:Nat}{r y:aD}(d:l[p]?=some r)(j:Nat)(hj:j<10){a:Nat}(c:a=p*10+j){v:Value}(e:r.cells.set j v=y.cells):aU (w.setCell ⟨g,a,none⟩ v) b g (l.set p y):=by
 subst c;exact⟨h.head.other h.ne v,h.rows.put aD.len d hj e,by simpa using h.len⟩
theorem aU.drew{w:World}{b g:Nat}{l:List aD}(h:aU w b g l):aU w.drew b g l:=⟨h.head,h.rows,h.len⟩
theorem aU.drewN{w:World}{b g:Nat}{l:List aD}(h:aU w b g l)(n:Nat):aU (w.drewN n) b g l:=⟨h.head,h.rows,h.len⟩
theorem aU.ch{w w':World}{D:Nat->Prop}{b g:Nat}{l:List aD}(h:aU w b g l)(c:Ch D w w')(hb:¬D b)(a:¬D g):aU w' b g l:=⟨h.head.ch c hb,h.rows.ch c a,h.len⟩
structure Cg(w:World)(g p:Nat)(r:aD):Prop where
 c0:w.cell? ⟨g,p*10,none⟩=some (.int .u64 r.times)
 c1:w.cell? ⟨g,p*10+1,none⟩=some (.bool r.taken)
 c2:w.cell? ⟨g,p*10+2,none⟩=some (.bool r.bE)
 c3:w.cell? ⟨g,p*10+3,none⟩=some (.int .u64 r.t.id)
 c4:w.cell? ⟨g,p*10+4,none⟩=some (.int .i64 r.t.state)
 c5:w.cell? ⟨g,p*10+5,none⟩=some (.int .u64 r.t.home)
 c6:w.cell? ⟨g,p*10+6,none⟩=some (.int .u64 r.t.value)
 c7:w.cell? ⟨g,p*10+7,none⟩=some (.int .u64 r.t.bI)
 c8:w.cell? ⟨g,p*10+8,none⟩=some (.bool r.t.loose)
 c9:w.cell? ⟨g,p*10+9,none⟩=some (.bool r.t.aJ)
 fr:∀j,w.frozen? ⟨g,j,none⟩=false
 lt:g<w.heap.size
theorem aU.cells{w:World}{b g:Nat}{l:List aD}(h:aU w b g l){p:Nat}{r:aD}(a:l[p]?=some r):Cg w g p r:=
 ⟨h.rows.at aD.len a (j:=0) (by omega) rfl,h.rows.at aD.len a (by omega) rfl,h.rows.at aD.len a (by omega) rfl,h.rows.at aD.len a (by omega) rfl,h.rows.at aD.len a (by omega) rfl,
  h.rows.at aD.len a (by omega) rfl,h.rows.at aD.len a (by omega) rfl,h.rows.at aD.len a (by omega) rfl,h.rows.at aD.len a (by omega) rfl,h.rows.at aD.len a (by omega) rfl,fun j=>h.rows.free j,h.rows.lt⟩
def mX(ok:Bool)(b g:Nat)(l':List aD)(w:World)(e:Ending)(w':World):Prop:=
 (∃v,e=.returned v/\(if ok then v=.nilIface else aq v))/\aU w' b g l'/\Ch (aK g) w w'
def fM(s:Int):Bool:=s==1||s==2||s==3
theorem vv(s:Int)(w:World):Calls prog 163 #[.int .i64 s] w (d' (.bool (fM s)) w):=by
 go_enter func163,ntmps163
 go_wp2
 all_goals
  go_ret;refine d'.mk ?_;unfold fM;simp[*]
def jJ(l:List aD)(id s:Int):Bool×List aD:=
 match dS l id with
 |none=>(false,l)
 |some p=>match l[p]? with
  |none=>(false,l)
  |some r=>if !fM s then(false,l)else if r.t.state==4 then(false,l)else(true,l.set p {r with t:={r.t with state:=s}})
theorem vw(b g:Nat)(l:List aD)(id s:Int)(hid:aH id)(w:World)(h:aU w b g l):
 Calls prog 130 #[.pointer (some ⟨b,0,none⟩),.int .u64 id,.int .i64 s] w (mX (jJ l id s).1 b g (jJ l id s).2 w):=by
 have H:=Z h;have c:=Z (e5 b g l id hid w h);cases a:dS l id with
 |none=>
  have E:Hid (jJ l id s=(false,l)):=Z (by unfold jJ;rw[a]);rw[a]at c;clear h a;go_enter func130,ntmps130
  go_wp2_with (first|(go_at_call 162;refine c.out.mono ?_;rintro e w' ⟨rfl,rfl⟩;simp only[b0])|(go_at_call 106;refine(a5 _ _ _).mono ?_;rintro e w' ⟨rfl,rfl⟩))
  go_ret;rw[E.out];exact⟨⟨_,rfl,aq.mk _ _⟩,H.out.alloc _,(Ch.refl _ _).alloc _⟩
 |some p=>
  obtain⟨-,r,f,-,-⟩:=eb a;obtain⟨k,m,n,o,q,u,v,x,y,z,fr,A⟩:=h.cells f;have E:Hid (jJ l id s=if !fM s then(false,l)else if r.t.state==4 then(false,l)else(true,l.set p {r with t:={r.t with state:=s}})):=Z (by unfold jJ;rw[a];simp only[f]);have j:=Z f;rw[a]at c;have HA:=Z (vv s);clear h a f;cases d:fM s
  ·rw[d]at E HA
   clear d;go_enter func130,ntmps130
   go_wp2_with (first|(go_at_call 162;refine c.out.mono ?_;rintro e w' ⟨rfl,rfl⟩;simp only[b0])|(go_at_call 106;refine(a5 _ _ _).mono ?_;rintro e w' ⟨rfl,rfl⟩)|(go_at_call 163;refine(HA.out _).mono ?_;rintro e w' ⟨rfl,rfl⟩))
   go_ret;rw[E.out];exact⟨⟨_,rfl,aq.mk _ _⟩,H.out.alloc _,(Ch.refl _ _).alloc _⟩
  ·rw[d]at E HA
   clear d;cases i:r.t.state==4
   ·rw[i]at E
    go_enter func130,ntmps130
    go_wp2_with (first|(go_at_call 162;refine c.out.mono ?_;rintro e w' ⟨rfl,rfl⟩;simp only[b0])|(go_at_call 106;refine(a5 _ _ _).mono ?_;rintro e w' ⟨rfl,rfl⟩)|(go_at_call 163;refine(HA.out _).mono ?_;rintro e w' ⟨rfl,rfl⟩))
    go_ret;rw[E.out];exact⟨⟨_,rfl,rfl⟩,H.out.put j.out 4 (by omega) (by omega) rfl,(Ch.refl _ _).only _ _⟩
   ·rw[i]at E
    go_enter func130,ntmps130
    go_wp2_with (first|(go_at_call 162;refine c.out.mono ?_;rintro e w' ⟨rfl,rfl⟩;simp only[b0])|(go_at_call 106;refine(a5 _ _ _).mono ?_;rintro e w' ⟨rfl,rfl⟩)|(go_at_call 163;refine(HA.out _).mono ?_;rintro e w' ⟨rfl,rfl⟩))
    go_ret;rw[E.out];exact⟨⟨_,rfl,aq.mk _ _⟩,H.out.alloc _,(Ch.refl _ _).alloc _⟩
theorem aU.jK{w:World}{b g:Nat}{l:List aD}{p:Nat}{r y:aD}(h:aU w b g (l.set p r))(d:p<l.length)(j:Nat)(hj:j<10){a:Nat}(c:a=p*10+j){v:Value}(e:r.cells.set j v=y.cells):aU (w.setCell ⟨g,a,none⟩ v) b g (l.set p y):=by
 have:=h.put (p:=p) (r:=r) (y:=y) (by simp[d]) j hj c e
 rwa [List.set_set]at this
theorem jL{α:Type}{l:List α}{p:Nat}{r:α}(h:l[p]?=some r):l.set p r=l:=by
 obtain⟨b,a⟩:=List.getElem?_eq_some_iff.1 h;subst a;simp
theorem aU.start{w:World}{b g:Nat}{l:List aD}(h:aU w b g l){p:Nat}{r:aD}(a:l[p]?=some r):aU w b g (l.set p r)/\p<l.length:=⟨(jL a).symm▸h,(List.getElem?_eq_some_iff.1 a).1⟩
theorem aU.s0{w:World}{b g:Nat}{l:List aD}{p:Nat}{r:aD}(h:aU w b g (l.set p r))(d:p<l.length){a:Nat}{v:Int}(c:a=p*10+0):aU (w.setCell ⟨g,a,none⟩ (.int .u64 v)) b g (l.set p {r with times:=v}):=h.jK d 0 (by omega) c rfl
theorem aU.s1{w:World}{b g:Nat}{l:List aD}{p:Nat}{r:aD}(h:aU w b g (l.set p r))(d:p<l.length){a:Nat}{v:Bool}(c:a=p*10+1):aU (w.setCell ⟨g,a,none⟩ (.bool v)) b g (l.set p {r with taken:=v}):=h.jK d 1 (by omega) c rfl
theorem aU.s2{w:World}{b g:Nat}{l:List aD}{p:Nat}{r:aD}(h:aU w b g (l.set p r))(d:p<l.length){a:Nat}{v:Bool}(c:a=p*10+2):aU (w.setCell ⟨g,a,none⟩ (.bool v)) b g (l.set p {r with bE:=v}):=h.jK d 2 (by omega) c rfl
theorem aU.s3{w:World}{b g:Nat}{l:List aD}{p:Nat}{r:aD}(h:aU w b g (l.set p r))(d:p<l.length){a:Nat}{v:Int}(c:a=p*10+3):aU (w.setCell ⟨g,a,none⟩ (.int .u64 v)) b g (l.set p {r with t:={r.t with id:=v}}):=h.jK d 3 (by omega) c rfl
theorem aU.s4{w:World}{b g:Nat}{l:List aD}{p:Nat}{r:aD}(h:aU w b g (l.set p r))(d:p<l.length){a:Nat}{v:Int}(c:a=p*10+4):aU (w.setCell ⟨g,a,none⟩ (.int .i64 v)) b g (l.set p {r with t:={r.t with state:=v}}):=h.jK d 4 (by omega) c rfl
theorem aU.s5{w:World}{b g:Nat}{l:List aD}{p:Nat}{r:aD}(h:aU w b g (l.set p r))(d:p<l.length){a:Nat}{v:Int}(c:a=p*10+5):aU (w.setCell ⟨g,a,none⟩ (.int .u64 v)) b g (l.set p {r with t:={r.t with home:=v}}):=h.jK d 5 (by omega) c rfl
theorem aU.s6{w:World}{b g:Nat}{l:List aD}{p:Nat}{r:aD}(h:aU w b g (l.set p r))(d:p<l.length){a:Nat}{v:Int}(c:a=p*10+6):aU (w.setCell ⟨g,a,none⟩ (.int .u64 v)) b g (l.set p {r with t:={r.t with value:=v}}):=h.jK d 6 (by omega) c rfl
theorem aU.s7{w:World}{b g:Nat}{l:List aD}{p:Nat}{r:aD}(h:aU w b g (l.set p r))(d:p<l.length){a:Nat}{v:Int}(c:a=p*10+7):aU (w.setCell ⟨g,a,none⟩ (.int .u64 v)) b g (l.set p {r with t:={r.t with bI:=v}}):=h.jK d 7 (by omega) c rfl
theorem aU.s8{w:World}{b g:Nat}{l:List aD}{p:Nat}{r:aD}(h:aU w b g (l.set p r))(d:p<l.length){a:Nat}{v:Bool}(c:a=p*10+8):aU (w.setCell ⟨g,a,none⟩ (.bool v)) b g (l.set p {r with t:={r.t with loose:=v}}):=h.jK d 8 (by omega) c rfl
theorem aU.s9{w:World}{b g:Nat}{l:List aD}{p:Nat}{r:aD}(h:aU w b g (l.set p r))(d:p<l.length){a:Nat}{v:Bool}(c:a=p*10+9):aU (w.setCell ⟨g,a,none⟩ (.bool v)) b g (l.set p {r with t:={r.t with aJ:=v}}):=h.jK d 9 (by omega) c rfl
def aD.gone(r:aD):aD:={times:=r.times,taken:=false,bE:=false,t:=lV.zero}
def g9(l:List aD)(id a:Int):Bool×List aD:=
 match dS l id with
 |none=>(false,l)
 |some p=>match l[p]? with
  |none=>(false,l)
  |some r=>if a==0 then(false,l)else if r.t.bI !=0||r.t.loose then(false,l)else(true,l.set p {r with t:={r.t with bI:=a}})
def eZ(l:List aD)(id:Int):Bool×List aD:=
 match dS l id with
 |none=>(false,l)
 |some p=>match l[p]? with
  |none=>(false,l)
  |some r=>if r.t.bI !=0||r.t.loose then(false,l)else if r.t.state==4&& !r.t.aJ then(true,l.set p r.gone)else(true,l.set p {r with t:={r.t with loose:=true}})
def fW(l:List aD)(id v:Int):Bool×List aD:=
 match dS l id with
 |none=>(false,l)
 |some p=>match l[p]? with
  |none=>(false,l)
  |some r=>if r.t.state==4 then(false,l)else(true,l.set p {r with t:={r.t with state:=4,value:=v,aJ:=true}})
def eF(l:List aD)(id:Int):Bool×List aD:=
 match dS l id with
 |none=>(false,l)
 |some p=>match l[p]? with
  |none=>(false,l)
  |some r=>if !r.t.aJ then(false,l)else if r.t.loose||r.bE then(true,l.set p r.gone)else(true,l.set p {r with t:={r.t with aJ:=false}})
structure aF where
 cells:List Int
 width:List Int
structure aO(w:World)(m c d:Nat)(S:aF):Prop where
 hd:∃t n:Int,Row w m 310 [.slice (some ⟨c,0,none⟩) S.cells.length S.cells.length,.slice (some ⟨d,0,none⟩) S.cells.length S.cells.length,.int .i64 t,.int .i64 n]
 cells:Row w c 39 (S.cells.map (Value.int .u64))
 width:Row w d 5 (S.width.map (Value.int .u8))
 len:S.width.length=S.cells.length
 oP:S.cells.length<=65536
 ok:∀(i:Nat) (x:Int),S.width[i]?=some x->0<=x/\x<=255
 u64:∀(i:Nat) (x:Int),S.cells[i]?=some x->aH x
theorem aO.head{w:World}{m c d:Nat}{S:aF}(h:aO w m c d S):Row w m 310 [.slice (some ⟨c,0,none⟩) S.cells.length S.cells.length,.slice (some ⟨d,0,none⟩) S.cells.length S.cells.length,.int .i64 h.hd.choose,.int .i64 h.hd.choose_spec.choose]:=h.hd.choose_spec.choose_spec
theorem aO.mc{w:World}{m c d:Nat}{S:aF}(h:aO w m c d S):m≠c:=h.head.ne h.cells (by decide)
theorem aO.md{w:World}{m c d:Nat}{S:aF}(h:aO w m c d S):m≠d:=h.head.ne h.width (by decide)
theorem aO.cd{w:World}{m c d:Nat}{S:aF}(h:aO w m c d S):c≠d:=h.cells.ne h.width (by decide)
theorem aO.alloc{w:World}{m c d:Nat}{S:aF}(h:aO w m c d S)(a:Obj):aO (w.alloc a) m c d S:=⟨⟨_,_,h.head.alloc a⟩,h.cells.alloc a,h.width.alloc a,h.len,h.oP,h.ok,h.u64⟩
theorem aO.drew{w:World}{m c d:Nat}{S:aF}(h:aO w m c d S):aO w.drew m c d S:=⟨h.hd,h.cells,h.width,h.len,h.oP,h.ok,h.u64⟩
theorem aO.drewN{w:World}{m c d:Nat}{S:aF}(h:aO w m c d S)(n:Nat):aO (w.drewN n) m c d S:=⟨h.hd,h.cells,h.width,h.len,h.oP,h.ok,h.u64⟩
theorem aO.ch{w w':World}{D:Nat->Prop}{m c d:Nat}{S:aF}(h:aO w m c d S)(k:Ch D w w')(e:¬D m)(a:¬D c)(b:¬D d):aO w' m c d S:=⟨⟨_,_,h.head.ch k e⟩,h.cells.ch k a,h.width.ch k b,h.len,h.oP,h.ok,h.u64⟩
theorem aO.count{w:World}{m c d:Nat}{S:aF}(h:aO w m c d S)(n:Int):aO (w.setCell ⟨m,3,none⟩ (.int .i64 n)) m c d S:=
 ⟨⟨_,_,h.head.a' _ _ rfl⟩,h.cells.other (fun e=>h.mc e.symm) _,h.width.other (fun e=>h.md e.symm) _,h.len,h.oP,h.ok,h.u64⟩
theorem aO.lay{w:World}{m c d:Nat}{S:aF}(h:aO w m c d S)(i:Nat)(v:Int)(f:aH v):aO (w.setCell ⟨c,i,none⟩ (.int .u64 v)) m c d {S with cells:=S.cells.set i v}:=
 ⟨⟨_,_,by simpa using h.head.other h.mc _⟩,h.cells.a' _ _ (by rw[List.map_set]),h.width.other (fun e=>h.cd e.symm) _,by simpa using h.len,by simpa using h.oP,h.ok,fun j x a=>by
  by_cases e:i=j
  ·subst e
   rw[List.getElem?_set_self']at a;cases b:S.cells[i]? with
   |none=>rw[b]at a;simp at a
   |some y=>rw[b]at a;have:v=x:=by simpa using a
            subst this;exact f
  ·rw[List.getElem?_set_ne e]at a;exact h.u64 j x a⟩
def aF.wid(S:aF)(at_:Int):Int:=S.width.getD at_.toNat 0
theorem dQ(n:Int)(t:TypeId)(x:Value)(w:World):Calls prog 147 #[.int .i64 n,.iface t x] w (fun e w'=>e=.returned (.iface 247 (.pointer (some ⟨w.heap.size,0,none⟩)))/\w.alloc (.cells #[.string ⟨#[109,101,109]⟩,.int .i64 n,.iface t x] 249)=w'):=by
 go_enter func147,ntmps147
 go_wp2
 go_ret;exact⟨rfl,rfl⟩
theorem oQ(m c d:Nat)(S:aF)(a:Int)(g:aH a)(w:World)(h:aO w m c d S):
 Calls prog 158 #[.pointer (some ⟨m,0,none⟩),.int .u64 a] w (d' (.int .i64 (S.wid a)) w):=by
 obtain⟨i,j⟩:=h.head.c2;have l:=h.oP;obtain⟨k,rfl⟩:=Int.eq_ofNat_of_zero_le g.lo;clear g;obtain⟨N,b⟩:=mn S.cells.length;rw[<-b]at i j l;by_cases n:k<N
 ·obtain⟨x,e⟩:∃x,S.width[k]?=some x:=⟨_,List.getElem?_eq_getElem (by rw[h.len,<-b];exact n)⟩
  have f:=h.ok k x e;have E:Hid (S.wid k=x):=Z (by unfold aF.wid;rw[Int.toNat_natCast,List.getD_eq_getElem?_getD,e];rfl);have q:w.cell? ⟨d,k,none⟩=some (.int .u8 x):=h.width.cell (by rw[List.getElem?_map,e];rfl);have o:(k:Int)<N:=by omega
  have p:=f.1;have r:=f.2;clear h b e f;go_enter func158,ntmps158
  go_wp2
  go_ret;exact d'.mk (by rw[E.out];rfl)
 ·have E:Hid (S.wid k=0):=Z (by unfold aF.wid;rw[Int.toNat_natCast,List.getD_eq_getElem?_getD,List.getElem?_eq_none (by rw[h.len];omega)];rfl)
  have o:¬(k:Int)<N:=by omega
  clear h b;go_enter func158,ntmps158
  go_wp2
  go_ret;exact d'.mk (by rw[E.out];rfl)
def aF.acc(S:aF)(kind a b v:Int):Option Int×aF:=
 if S.wid a=0 then(none,S)else
 let held:=S.cells.getD a.toNat 0
 if kind=3 then(some held,{S with cells:=S.cells.set a.toNat (sQ (S.wid a) held v)})
 else if kind=4 then
  if held=gT (S.wid a) b then(some held,{S with cells:=S.cells.set a.toNat (gT (S.wid a) v)})else(some held,S)
 else if kind=1∨kind=2 then(some held,{S with cells:=S.cells.set a.toNat (gT (S.wid a) v)})
 else(some held,S)
def dE(a b c:Nat):Nat->Prop:=fun i=>i=a∨i=b∨i=c
def k7(x:Option Int×aF)(m c d:Nat)(w:World)(e:Ending)(w':World):Prop:=
 (match x.1 with
  |some v=>e=.returned (.tuple #[.int .u64 v,.nilIface])
  |none=>∃v,e=.returned (.tuple #[.int .u64 0,v])/\aq v)/\aO w' m c d x.2/\Ch (di m c) w w'
theorem aO.held{w:World}{m c d:Nat}{S:aF}(h:aO w m c d S){k:Nat}(b:k<S.cells.length):w.cell? ⟨c,k,none⟩=some (.int .u64 (S.cells.getD k 0))/\aH (S.cells.getD k 0):=by
 have a:S.cells[k]?=some (S.cells.getD k 0):=by rw[List.getD_eq_getElem?_getD,List.getElem?_eq_getElem b];rfl
 exact⟨h.cells.cell (by rw[List.getElem?_map,a];rfl),h.u64 _ _ a⟩
theorem gV(m c d:Nat)(S:aF)(kind a j v:Int)(P:kind=0∨kind=1∨kind=2∨kind=3∨kind=4)(F:aH a)(R:aH v)(w:World)(h:aO w m c d S):
 Calls prog 126 #[.pointer (some ⟨m,0,none⟩),.int .i64 kind,.int .u64 a,.int .u64 j,.int .u64 v] w (k7 (S.acc kind a j v) m c d w):=by
 have H:=Z h;obtain⟨x,y⟩:=h.head.c2;obtain⟨s,B⟩:∃s:Int,w.cell? ⟨m,3,none⟩=some (.int .i64 s):=⟨_,h.head.cell (i:=3) rfl⟩;have f3:=h.head.free 3;have U:=h.oP;have G:=h.mc;have a3:=h.head.lt;have a0:=h.cells.lt;obtain⟨k,rfl⟩:=Int.eq_ofNat_of_zero_le F.lo;have l:=Z (fun w h=>oQ m c d S k F w h);have HA:=Z F;have J:=Z R;clear F R;obtain⟨N,D⟩:=mn S.cells.length;obtain⟨wd,p⟩:=nm (S.wid k);rw[p]at l;rw[<-D]at x y U;by_cases z:wd=0
 ·subst z
  have E:Hid (S.acc kind k j v=(none,S)):=Z (by unfold aF.acc;rw[if_pos p]);clear h p D P;have W:(k:Int)<=4611686018427387904∨¬(k:Int)<=4611686018427387904:=by omega
  rcases W with X|X
  all_goals
   go_enter func126,ntmps126
   go_wp2_with (first|(go_at_call 158;refine(l.out _ H.out).mono ?_;rintro e w' ⟨rfl,rfl⟩)|(go_at_call 147;refine(dQ _ _ _ _).mono ?_;rintro e w' ⟨rfl,rfl⟩))
   go_ret2;rw[E.out];exact⟨⟨_,rfl,aq.mk _ _⟩,H.out.alloc _,(Ch.refl _ _).alloc _⟩
 ·have a2:k<N:=by
   rcases Nat.lt_or_ge k N with M|M
   ·exact M
   ·exact absurd (by rw[<-p];unfold aF.wid;rw[Int.toNat_natCast,List.getD_eq_getElem?_getD,List.getElem?_eq_none (by rw[h.len];omega)];rfl) z
  obtain⟨q,Q⟩:=h.held (k:=k) (by omega);have C:=h.cells.free k;have ab:(wd==0)=false:=by rw[beq_eq_false_iff_ne];exact z
  have a1:(k:Int)<N:=by omega
  have E:Hid (S.acc kind k j v=let held:=S.cells.getD k 0
   if kind=3 then(some held,{S with cells:=S.cells.set k (sQ wd held v)})
   else if kind=4 then
    if held=gT wd j then(some held,{S with cells:=S.cells.set k (gT wd v)})else(some held,S)
   else if kind=1∨kind=2 then(some held,{S with cells:=S.cells.set k (gT wd v)})
   else(some held,S)):=Z (by unfold aF.acc;rw[if_neg (by rw[p];exact z),p,Int.toNat_natCast])
  obtain⟨held,O⟩:=nm (S.cells.getD k 0);rw[O]at q E;have Y:=Z Q;have r:=Z (fun n=>h.count n);have A:=Z D;clear h p D z O Q;have u:=Z (fun v w=>j8 wd v w);have T:=Z (fun a b w=>pH wd a b w);rcases P with rfl|rfl|rfl|rfl|rfl
  ·go_enter func126,ntmps126
   go_wp2_with (go_at_call 158;refine(l.out _ H.out).mono ?_;rintro e w' ⟨rfl,rfl⟩)
   go_ret2;rw[E.out];exact⟨rfl,r.out _,(Ch.refl _ _).g8 _ _⟩
  ·go_enter func126,ntmps126
   go_wp2_with (go_at_call 158;refine(l.out _ H.out).mono ?_;rintro e w' ⟨rfl,rfl⟩)
   obtain⟨w1,f⟩:=nm (w.setCell ⟨m,3,none⟩ (.int .i64 (wrap64 (s+1))));rw[f];have g:Hid (aO w1 m c d S):=Z (by rw[<-f];exact r.out _);have o:Hid (Ch (di m c) w w1):=Z (by rw[<-f];exact(Ch.refl _ _).g8 _ _);have d0:w1.cell? ⟨m,0,none⟩=some (.slice (some ⟨c,0,none⟩) N N):=(by rw[A.out];exact g.out.head.cell (i:=0) rfl);have L:w1.cell? ⟨c,k,none⟩=some (.int .u64 held):=(by rw[<-f,World.cell?_setCell_other _ _ _ _ (by intro e;exact G (congrArg Addr.block e))];exact q);have K:=g.out.cells.free k;clear f q C x y B f3;refine wp_region_still_tail 8 (by kernel_rfl) (by kernel_rfl) ?_;simp only[List.take_succ_cons,List.take_zero,List.drop_succ_cons,List.drop_zero]
   repeat still_step
   still_call (bZ (u.out _ _))
   repeat still_step
   try refine wpStill_nil ?_
   change wpList _ _ _ _ _ w1.drew;go_wp2
   go_ret2;rw[E.out];exact⟨rfl,g.out.drew.lay k _ (hX _ _ J.out),o.out.drew.jD _ _⟩
  ·go_enter func126,ntmps126
   go_wp2_with (go_at_call 158;refine(l.out _ H.out).mono ?_;rintro e w' ⟨rfl,rfl⟩)
   obtain⟨w1,f⟩:=nm (w.setCell ⟨m,3,none⟩ (.int .i64 (wrap64 (s+1))));rw[f];have g:Hid (aO w1 m c d S):=Z (by rw[<-f];exact r.out _);have o:Hid (Ch (di m c) w w1):=Z (by rw[<-f];exact(Ch.refl _ _).g8 _ _);have d0:w1.cell? ⟨m,0,none⟩=some (.slice (some ⟨c,0,none⟩) N N):=(by rw[A.out];exact g.out.head.cell (i:=0) rfl);have L:w1.cell? ⟨c,k,none⟩=some (.int .u64 held):=(by rw[<-f,World.cell?_setCell_other _ _ _ _ (by intro e;exact G (congrArg Addr.block e))];exact q);have K:=g.out.cells.free k;clear f q C x y B f3;refine wp_region_still_tail 8 (by kernel_rfl) (by kernel_rfl) ?_;simp only[List.take_succ_cons,List.take_zero,List.drop_succ_cons,List.drop_zero]
   repeat still_step
   still_call (bZ (u.out _ _))
   repeat still_step
   try refine wpStill_nil ?_
   change wpList _ _ _ _ _ w1.drew;go_wp2
   go_ret2;rw[E.out];exact⟨rfl,g.out.drew.lay k _ (hX _ _ J.out),o.out.drew.jD _ _⟩
  ·go_enter func126,ntmps126
   go_wp2_with (go_at_call 158;refine(l.out _ H.out).mono ?_;rintro e w' ⟨rfl,rfl⟩)
   obtain⟨w1,f⟩:=nm (w.setCell ⟨m,3,none⟩ (.int .i64 (wrap64 (s+1))));rw[f];have g:Hid (aO w1 m c d S):=Z (by rw[<-f];exact r.out _);have o:Hid (Ch (di m c) w w1):=Z (by rw[<-f];exact(Ch.refl _ _).g8 _ _);have d0:w1.cell? ⟨m,0,none⟩=some (.slice (some ⟨c,0,none⟩) N N):=(by rw[A.out];exact g.out.head.cell (i:=0) rfl);have L:w1.cell? ⟨c,k,none⟩=some (.int .u64 held):=(by rw[<-f,World.cell?_setCell_other _ _ _ _ (by intro e;exact G (congrArg Addr.block e))];exact q);have K:=g.out.cells.free k;clear f q C x y B f3;refine wp_region_still_tail 9 (by kernel_rfl) (by kernel_rfl) ?_;simp only[List.take_succ_cons,List.take_zero,List.drop_succ_cons,List.drop_zero]
   repeat still_step
   still_call (bZ (T.out _ _ _))
   repeat still_step
   try refine wpStill_nil ?_
   change wpList _ _ _ _ _ w1.drew;go_wp2
   go_ret2;rw[E.out];exact⟨rfl,g.out.drew.lay k _ (mD _ _ _),o.out.drew.jD _ _⟩
  ·by_cases t:held=gT wd j
   ·have V:(held !=gT wd j)=false:=by rw[bne_eq_false_iff_eq];exact t
    have I:Hid (S.acc 4 k j v=(some held,{S with cells:=S.cells.set k (gT wd v)})):=Z (by rw[E.out];simp only[if_pos t];rfl);clear t;go_enter func126,ntmps126
    go_wp2_with (first|(go_at_call 158;refine(l.out _ H.out).mono ?_;rintro e w' ⟨rfl,rfl⟩)|(go_at_call 160;refine(u.out _ _).mono ?_;rintro e w' ⟨rfl,rfl⟩))
    obtain⟨w1,f⟩:=nm (w.setCell ⟨m,3,none⟩ (.int .i64 (wrap64 (s+1))));rw[f];have g:Hid (aO w1 m c d S):=Z (by rw[<-f];exact r.out _);have o:Hid (Ch (di m c) w w1):=Z (by rw[<-f];exact(Ch.refl _ _).g8 _ _);have d0:w1.cell? ⟨m,0,none⟩=some (.slice (some ⟨c,0,none⟩) N N):=(by rw[A.out];exact g.out.head.cell (i:=0) rfl);have L:w1.cell? ⟨c,k,none⟩=some (.int .u64 held):=(by rw[<-f,World.cell?_setCell_other _ _ _ _ (by intro e;exact G (congrArg Addr.block e))];exact q);have K:=g.out.cells.free k;clear f q C x y B f3;refine wp_region_still_tail 8 (by kernel_rfl) (by kernel_rfl) ?_;simp only[List.take_succ_cons,List.take_zero,List.drop_succ_cons,List.drop_zero]
    repeat still_step
    still_call (bZ (u.out _ _))
    repeat still_step
    try refine wpStill_nil ?_
    change wpList _ _ _ _ _ w1.drew;go_wp2
    go_ret2;rw[I.out];exact⟨rfl,g.out.drew.lay k _ (hX _ _ J.out),o.out.drew.jD _ _⟩
   ·have V:(held !=gT wd j)=true:=by rw[bne_iff_ne];exact t
    have I:Hid (S.acc 4 k j v=(some held,S)):=Z (by rw[E.out];simp only[if_neg t];rfl);clear t;go_enter func126,ntmps126
    go_wp2_with (first|(go_at_call 158;refine(l.out _ H.out).mono ?_;rintro e w' ⟨rfl,rfl⟩)|(go_at_call 160;refine(u.out _ _).mono ?_;rintro e w' ⟨rfl,rfl⟩))
    go_ret2;rw[I.out];exact⟨rfl,r.out _,(Ch.refl _ _).g8 _ _⟩
theorem lW(m c d:Nat)(S:aF)(a:Int)(j:aH a)(w:World)(h:aO w m c d S):
 Calls prog 81 #[.pointer (some ⟨m,0,none⟩),.int .u64 a] w (k7 (S.acc 0 a 0 0) m c d w):=by
 have HA:=Z (gV m c d S 0 a 0 0 (by omega) j ⟨by omega,by omega⟩ w h);clear h j;rcases k:S.acc 0 a 0 0 with⟨_|held,S'⟩
 all_goals
  rw[k]at HA;clear k
 ·go_enter func81,ntmps81
  go_wp2_with (go_at_call 126;refine HA.out.mono ?_;rintro e w' ⟨⟨v,rfl,l⟩,f,b⟩;obtain⟨t,x,rfl⟩:=l;have i:=Z f;have g:=Z b;clear f b)
  go_ret2;exact⟨⟨_,rfl,aq.mk _ _⟩,i.out,g.out⟩
 ·go_enter func81,ntmps81
  go_wp2_with (go_at_call 126;refine HA.out.mono ?_;rintro e w' ⟨rfl,f,b⟩;have i:=Z f;have g:=Z b;clear f b)
  go_ret2;exact⟨rfl,i.out,g.out⟩
theorem lX(m c d:Nat)(S:aF)(a v:Int)(k:aH a)(g:aH v)(w:World)(h:aO w m c d S):
 Calls prog 277 #[.pointer (some ⟨m,0,none⟩),.int .u64 a,.int .u64 v] w (k7 (S.acc 2 a 0 v) m c d w):=by
 have HA:=Z (gV m c d S 2 a 0 v (by omega) k g w h);clear h k g;rcases l:S.acc 2 a 0 v with⟨_|held,S'⟩
 all_goals
  rw[l]at HA;clear l
 ·go_enter func277,ntmps277
  go_wp2_with (go_at_call 126;refine HA.out.mono ?_;rintro e w' ⟨⟨v,rfl,g⟩,f,b⟩;obtain⟨t,x,rfl⟩:=g;have j:=Z f;have i:=Z b;clear f b)
  go_ret2;exact⟨⟨_,rfl,aq.mk _ _⟩,j.out,i.out⟩
 ·go_enter func277,ntmps277
  go_wp2_with (go_at_call 126;refine HA.out.mono ?_;rintro e w' ⟨rfl,f,b⟩;have j:=Z f;have i:=Z b;clear f b)
  go_ret2;exact⟨rfl,j.out,i.out⟩
theorem mY(m c d:Nat)(S:aF)(a v:Int)(k:aH a)(g:aH v)(w:World)(h:aO w m c d S):
 Calls prog 131 #[.pointer (some ⟨m,0,none⟩),.int .u64 a,.int .u64 v] w (k7 (S.acc 3 a 0 v) m c d w):=by
 have HA:=Z (gV m c d S 3 a 0 v (by omega) k g w h);clear h k g;rcases l:S.acc 3 a 0 v with⟨_|held,S'⟩
 all_goals
  rw[l]at HA;clear l
 ·go_enter func131,ntmps131
  go_wp2_with (go_at_call 126;refine HA.out.mono ?_;rintro e w' ⟨⟨v,rfl,g⟩,f,b⟩;obtain⟨t,x,rfl⟩:=g;have j:=Z f;have i:=Z b;clear f b)
  go_ret2;exact⟨⟨_,rfl,aq.mk _ _⟩,j.out,i.out⟩
 ·go_enter func131,ntmps131
  go_wp2_with (go_at_call 126;refine HA.out.mono ?_;rintro e w' ⟨rfl,f,b⟩;have j:=Z f;have i:=Z b;clear f b)
  go_ret2;exact⟨rfl,j.out,i.out⟩
theorem mZ(m c d:Nat)(S:aF)(a i v:Int)(l:aH a)(g:aH v)(w:World)(h:aO w m c d S):
 Calls prog 204 #[.pointer (some ⟨m,0,none⟩),.int .u64 a,.int .u64 i,.int .u64 v] w (k7 (S.acc 4 a i v) m c d w):=by
 have HA:=Z (gV m c d S 4 a i v (by omega) l g w h);clear h l g;rcases n:S.acc 4 a i v with⟨_|held,S'⟩
 all_goals
  rw[n]at HA;clear n
 ·go_enter func204,ntmps204
  go_wp2_with (go_at_call 126;refine HA.out.mono ?_;rintro e w' ⟨⟨v,rfl,g⟩,f,b⟩;obtain⟨t,x,rfl⟩:=g;have k:=Z f;have j:=Z b;clear f b)
  go_ret2;exact⟨⟨_,rfl,aq.mk _ _⟩,k.out,j.out⟩
 ·go_enter func204,ntmps204
  go_wp2_with (go_at_call 126;refine HA.out.mono ?_;rintro e w' ⟨rfl,f,b⟩;have k:=Z f;have j:=Z b;clear f b)
  go_ret2;exact⟨rfl,k.out,j.out⟩
def pI(ok:Bool)(e:Ending):Prop:=∃v,e=.returned v/\(if ok then v=.nilIface else aq v)
theorem eo(m c d:Nat)(S:aF)(a v:Int)(k:aH a)(g:aH v)(w:World)(h:aO w m c d S):
 Calls prog 110 #[.pointer (some ⟨m,0,none⟩),.int .u64 a,.int .u64 v] w (fun e w'=>pI (S.acc 1 a 0 v).1.isSome e/\aO w' m c d (S.acc 1 a 0 v).2/\Ch (di m c) w w'):=by
 have HA:=Z (gV m c d S 1 a 0 v (by omega) k g w h);clear h k g;rcases l:S.acc 1 a 0 v with⟨_|held,S'⟩
 all_goals
  rw[l]at HA;clear l
 ·go_enter func110,ntmps110
  go_wp2_with (go_at_call 126;refine HA.out.mono ?_;rintro e w' ⟨⟨v,rfl,g⟩,f,b⟩;obtain⟨t,x,rfl⟩:=g;have j:=Z f;have i:=Z b;clear f b)
  go_ret;exact⟨⟨_,rfl,aq.mk _ _⟩,j.out,i.out⟩
 ·go_enter func110,ntmps110
  go_wp2_with (go_at_call 126;refine HA.out.mono ?_;rintro e w' ⟨rfl,f,b⟩;have j:=Z f;have i:=Z b;clear f b)
  go_ret;exact⟨⟨_,rfl,rfl⟩,j.out,i.out⟩
def aF.iO(S:aF)(a n:Nat)(there:Bool):Bool:=decide (a+n<=S.cells.length)&&(List.range n).all fun i=>(S.width.getD (a+i) 0 !=0)==there
theorem jq{S:aF}{a n:Nat}{there:Bool}(h:S.iO a n there=true):a+n<=S.cells.length/\∀i,i<n->(S.width.getD (a+i) 0 !=0)=there:=by
 unfold aF.iO at h;rw[Bool.and_eq_true,decide_eq_true_eq,List.all_eq_true]at h;exact⟨h.1,fun i b=>by simpa using h.2 i (List.mem_range.2 b)⟩
theorem An{S:aF}{a n:Nat}{there:Bool}(b:a+n<=S.cells.length)(c:∀i,i<n->(S.width.getD (a+i) 0 !=0)=there):S.iO a n there=true:=by
 unfold aF.iO;rw[Bool.and_eq_true,decide_eq_true_eq,List.all_eq_true];exact⟨b,fun i d=>by simpa using c i (List.mem_range.1 d)⟩
theorem uw{S:aF}{a n:Nat}{there:Bool}{i:Nat}(b:i<n)(h:(S.width.getD (a+i) 0 !=0)≠there):S.iO a n there=false:=by
 cases hb:S.iO a n there
 ·rfl
 ·exact absurd ((jq hb).2 i b) h
theorem jM(m c d:Nat)(S:aF)(a n:Nat)(there:Bool)(H:a<=1000000)(P:n<=1000000)(w:World)(h:aO w m c d S):
 Calls prog 148 #[.pointer (some ⟨m,0,none⟩),.int .i64 a,.int .i64 n,.bool there] w (fun e w'=>pI (S.iO a n there) e/\Ch ag w w'):=by
 obtain⟨B,C⟩:=h.head.c2;have E:=h.oP;have O:=h.head.lt;have I:=h.width.lt;obtain⟨N,l⟩:=mn S.cells.length;rw[<-l]at B C E;by_cases y:a+n<=N
 ·have z:Hid (∀j,j<n->w.cell? ⟨d,a+j,none⟩=some (.int .u8 (S.width.getD (a+j) 0))/\0<=S.width.getD (a+j) 0/\S.width.getD (a+j) 0<=255):=Z (fun j hj=>by
   have g:S.width[a+j]?=some (S.width.getD (a+j) 0):=(by rw[List.getD_eq_getElem?_getD,List.getElem?_eq_getElem (by rw[h.len,<-l];omega)];rfl);exact⟨h.width.cell (by rw[List.getElem?_map,g];rfl),h.ok _ _ g⟩)
  have A:=Z l;have Q:(a:Int)+n<=N:=by omega
  have D:¬((N:Int)-a<n):=by omega
  clear h l y;go_enter func148,ntmps148
  go_wp2
  go_loop [9] (fun s=>∃k:Nat,s=.int .i64 ((a+k:Nat):Int)/\k<=n/\Hid (∀j,j<k->(S.width.getD (a+j) 0 !=0)=there)) (fun s=>a+n-(intOf s).toNat)
  case atStart=>exact⟨0,by go_num,Nat.zero_le _,fun j hj=>absurd hj (Nat.not_lt_zero _)⟩
  case round=>
   obtain⟨k,rfl,L,p⟩:=hrel;by_cases u:k<n
   ·obtain⟨q,F,G⟩:=z.out k u
    obtain⟨x,g⟩:=nm (S.width.getD (a+k) 0);rw[g]at q F G;have o:=Z g;clear g;obtain⟨i,f⟩:=mn (a+k);rw[<-f]at q⊢;have J:(i:Int)<a+n:=(by omega);have K:(i:Int)<N:=(by omega);have v:=Z f;cases hb:(x !=0)
    ·cases there
     ·skip
      have r:Hid (∀j,j<k+1->(S.width.getD (a+j) 0 !=0)=false):=Z (fun j hj=>by
       by_cases t:j=k
       ·subst t;rw[o.out];exact hb
       ·exact p.out j (by omega))
      clear f;go_wp2
      go_round
      case rel=>exact⟨k+1,by rw[show a+(k+1)=i+1 from by have:=v.out;omega];go_num,by omega,r⟩
      case measure=>simp[intOf];omega
     ·skip
      have b:Hid (S.iO a n true=false):=Z (uw u (by rw[o.out,hb];decide));clear f;go_wp2_with (go_at_call 147;refine(dQ _ _ _ _).mono ?_;rintro e w' ⟨rfl,rfl⟩)
      go_ret;rw[b.out];exact⟨⟨_,rfl,aq.mk _ _⟩,(Ch.refl _ _).alloc _⟩
    ·cases there
     ·skip
      have b:Hid (S.iO a n false=false):=Z (uw u (by rw[o.out,hb];decide));clear f;go_wp2_with (go_at_call 147;refine(dQ _ _ _ _).mono ?_;rintro e w' ⟨rfl,rfl⟩)
      go_ret;rw[b.out];exact⟨⟨_,rfl,aq.mk _ _⟩,(Ch.refl _ _).alloc _⟩
     ·skip
      have r:Hid (∀j,j<k+1->(S.width.getD (a+j) 0 !=0)=true):=Z (fun j hj=>by
       by_cases t:j=k
       ·subst t;rw[o.out];exact hb
       ·exact p.out j (by omega))
      clear f;go_wp2
      go_round
      case rel=>exact⟨k+1,by rw[show a+(k+1)=i+1 from by have:=v.out;omega];go_num,by omega,r⟩
      case measure=>simp[intOf];omega
   ·have M:¬(((a+k:Nat):Int)<a+n):=by omega
    have b:Hid (S.iO a n there=true):=Z (An (by rw[<-A.out];omega) (fun j hj=>p.out j (by omega)));go_wp2
    go_ret;rw[b.out];exact⟨⟨_,rfl,rfl⟩,Ch.refl _ _⟩
 ·have b:Hid (S.iO a n there=false):=Z (by
   cases hb:S.iO a n there
   ·rfl
   ·exact absurd (jq hb).1 (by omega))
  have D:(N:Int)-a<n:=by omega
  clear h l y;go_enter func148,ntmps148
  go_wp2_with (go_at_call 147;refine(dQ _ _ _ _).mono ?_;rintro e w' ⟨rfl,rfl⟩)
  go_ret;rw[b.out];exact⟨⟨_,rfl,aq.mk _ _⟩,(Ch.refl _ _).alloc _⟩
def au(l:List Int)(a:Nat)(v:Int):Nat->List Int
 |0=>l
 |k+1=>(au l a v k).set (a+k) v
theorem dj(l:List Int)(a:Nat)(v:Int):∀k,(au l a v k).length=l.length
 |0=>rfl
 |k+1=>by rw[au,List.length_set,dj l a v k]
theorem aO.Ci{w:World}{m c d:Nat}{S:aF}(h:aO w m c d S)(i:Nat)(v:Int)(f:0<=v/\v<=255):aO (w.setCell ⟨d,i,none⟩ (.int .u8 v)) m c d {S with width:=S.width.set i v}:=
 ⟨⟨_,_,h.head.other h.md _⟩,h.cells.other h.cd _,h.width.a' _ _ (by rw[List.map_set]),by simpa using h.len,h.oP,fun j x a=>by
  by_cases e:i=j
  ·subst e
   rw[List.getElem?_set_self']at a;cases b:S.width[i]? with
   |none=>rw[b]at a;simp at a
   |some y=>rw[b]at a;have:v=x:=by simpa using a
            subst this;exact f
  ·rw[List.getElem?_set_ne e]at a;exact h.ok j x a,h.u64⟩
theorem aO.there{w:World}{m c d:Nat}{S:aF}(h:aO w m c d S)(n:Int):aO (w.setCell ⟨m,2,none⟩ (.int .i64 n)) m c d S:=
 ⟨⟨_,_,h.head.a' _ _ rfl⟩,h.cells.other (fun e=>h.mc e.symm) _,h.width.other (fun e=>h.md e.symm) _,h.len,h.oP,h.ok,h.u64⟩
def aF.laid(S:aF)(a n:Nat)(wd:Int):aF:={S with width:=au S.width a wd n,cells:=au S.cells a 0 n}
def aF.map(S:aF)(a n:Nat)(wd:Int):Bool×aF:=
 if n≠0/\S.iO a n false=true then(true,S.laid a n wd)else(false,S)
def aF.fX(S:aF)(a n:Nat):Bool×aF:=
 if n≠0/\S.iO a n true=true then(true,S.laid a n 0)else(false,S)
def sS(x:Bool×aF)(m c d:Nat)(w:World)(e:Ending)(w':World):Prop:=pI x.1 e/\aO w' m c d x.2/\Ch (dE m c d) w w'
theorem Ch.EC{a b c:Nat}{v w:World}(h:Ch (dE a b c) v w)(d:Nat)(x:Value):Ch (dE a b c) v (w.setCell ⟨a,d,none⟩ x):=h.gS (p:=⟨a,d,none⟩) (show a=a∨a=b∨a=c from Or.inl rfl) x
theorem Ch.ED{a b c:Nat}{v w:World}(h:Ch (dE a b c) v w)(d:Nat)(x:Value):Ch (dE a b c) v (w.setCell ⟨b,d,none⟩ x):=h.gS (p:=⟨b,d,none⟩) (show b=a∨b=b∨b=c from Or.inr (Or.inl rfl)) x
theorem Ch.EE{a b c:Nat}{v w:World}(h:Ch (dE a b c) v w)(d:Nat)(x:Value):Ch (dE a b c) v (w.setCell ⟨c,d,none⟩ x):=h.gS (p:=⟨c,d,none⟩) (show c=a∨c=b∨c=c from Or.inr (Or.inr rfl)) x
theorem ka(m c d:Nat)(S:aF)(a n:Nat)(L:a<=1000000)(U:n<=1000000)(w:World)(h:aO w m c d S):
 Calls prog 109 #[.pointer (some ⟨m,0,none⟩),.int .i64 a,.int .i64 n,.int .i64 32] w (sS (S.map a n 32) m c d w):=by
 have H:=Z h;have q:=Z (jM m c d S a n false L U w h);by_cases r:n=0
 ·subst r
  have E:Hid (S.map a 0 32=(false,S)):=Z (by unfold aF.map;rw[if_neg (by simp)]);clear h;go_enter func109,ntmps109
  go_wp2_with (go_at_call 147;refine(dQ _ _ _ _).mono ?_;rintro e w' ⟨rfl,rfl⟩)
  go_ret;rw[E.out];exact⟨⟨_,rfl,aq.mk _ _⟩,H.out.alloc _,(Ch.refl _ _).alloc _⟩
 have ap:(1:Int)<=n:=by omega
 cases g:S.iO a n false
 ·have E:Hid (S.map a n 32=(false,S)):=Z (by unfold aF.map;rw[if_neg (by rw[g];simp)])
  rw[g]at q;clear h g r
  all_goals
   go_enter func109,ntmps109
   go_wp2_with (first|(go_at_call 148;refine q.out.mono ?_;rintro e w1 ⟨⟨v,rfl,A⟩,j⟩;obtain⟨t,x,rfl⟩:=A;have o:=Z j;clear j)|(go_at_call 147;refine(dQ _ _ _ _).mono ?_;rintro e w' ⟨rfl,rfl⟩))
   go_ret;rw[E.out];exact⟨⟨_,rfl,aq.mk _ _⟩,H.out.ch o.out (fun b=>b) (fun b=>b) (fun b=>b),o.out.af⟩
 ·have P:=(jq g).1
  have E:Hid (S.map a n 32=(true,S.laid a n 32)):=Z (by unfold aF.map;rw[if_pos ⟨r,g⟩]);rw[g]at q;obtain⟨N,y⟩:=mn S.cells.length;have M:=h.oP;rw[<-y]at M P;have p:=Z y;clear h g r y
  all_goals
   go_enter func109,ntmps109
   go_wp2_with fail
   refine q.out.mono ?_;rintro e w1 ⟨⟨v,rfl,A⟩,j⟩;obtain rfl:v=.nilIface:=A;have I:=Z (H.out.ch j (fun b=>b) (fun b=>b) (fun b=>b));have o:=Z (j.af (D:=dE m c d));clear j;go_wp2
   go_loopw [10] (fun s wr=>∃k:Nat,s=.int .i64 ((a+k:Nat):Int)/\k<=n/\Hid (aO wr m c d (S.laid a k 32)/\Ch (dE m c d) w wr)) (fun s _=>a+n-(intOf s).toNat)
   case atStart=>exact⟨0,by go_num,Nat.zero_le _,I.out,o.out⟩
   case round=>
    obtain⟨k,rfl,a3,l⟩:=hrel;have f:=l.out.1;have V:wr.cell? ⟨m,0,none⟩=some (.slice (some ⟨c,0,none⟩) N N):=(by have:=f.head.cell (i:=0) rfl;rwa [show(S.laid a k 32).cells.length=N from by unfold aF.laid;rw[dj];exact p.out.symm]at this);have W:wr.cell? ⟨m,1,none⟩=some (.slice (some ⟨d,0,none⟩) N N):=(by have:=f.head.cell (i:=1) rfl;rwa [show(S.laid a k 32).cells.length=N from by unfold aF.laid;rw[dj];exact p.out.symm]at this);obtain⟨C,J⟩:∃C:Int,wr.cell? ⟨m,2,none⟩=some (.int .i64 C):=⟨_,f.head.cell (i:=2) rfl⟩;have f2:=f.head.free 2;have R:=f.mc;have T:=f.md;have O:=f.cd;by_cases ad:k<n
    ·obtain⟨i,b⟩:=mn (a+k)
     have F:∃u,wr.cell? ⟨c,i,none⟩=some u:=by
      have z:(S.laid a k 32).cells.length=N:=(by unfold aF.laid;rw[dj];exact p.out.symm);exact⟨_,f.cells.cell (by rw[List.getElem?_map,List.getElem?_eq_getElem (by rw[z];omega)];rfl)⟩
     have G:∃u,wr.cell? ⟨d,i,none⟩=some u:=by
      have z:(S.laid a k 32).width.length=N:=(by rw[f.len];unfold aF.laid;rw[dj];exact p.out.symm);exact⟨_,f.width.cell (by rw[List.getElem?_map,List.getElem?_eq_getElem (by rw[z];omega)];rfl)⟩
     obtain⟨u1,F⟩:=F;obtain⟨u2,G⟩:=G;have X:=f.cells.free i;have Y:=f.width.free i;have a1:(i:Int)<a+n:=(by omega);have a2:(i:Int)<N:=(by omega);have B:=Z b;rw[<-b];have a0:d≠c:=(fun e=>O e.symm);have al:c≠m:=(fun e=>R e.symm);have am:d≠m:=(fun e=>T e.symm);clear b f J f2;go_wp2
     go_roundw
     case rel=>
      refine⟨k+1,by rw[show a+(k+1)=i+1 from by have:=B.out;omega];go_num,by omega,?_,?_⟩
      ·have K:=B.out
       subst K;exact(l.out.1.Ci (a+k) 32 (by omega)).lay (a+k) 0 ⟨by omega,by omega⟩
      ·exact(l.out.2.EE _ _).ED _ _
     case measure=>simp[intOf];omega
    ·have Q:k=n:=by omega
     subst Q;have ab:¬(((a+k:Nat):Int)<a+k):=(by omega);clear f;go_wp2
     go_ret;rw[E.out];exact⟨⟨_,rfl,rfl⟩,l.out.1.there _,l.out.2.EC _ _⟩
theorem fh(m c d:Nat)(S:aF)(a n:Nat)(L:a<=1000000)(U:n<=1000000)(w:World)(h:aO w m c d S):
 Calls prog 109 #[.pointer (some ⟨m,0,none⟩),.int .i64 a,.int .i64 n,.int .i64 64] w (sS (S.map a n 64) m c d w):=by
 have H:=Z h;have q:=Z (jM m c d S a n false L U w h);by_cases r:n=0
 ·subst r
  have E:Hid (S.map a 0 64=(false,S)):=Z (by unfold aF.map;rw[if_neg (by simp)]);clear h;go_enter func109,ntmps109
  go_wp2_with (go_at_call 147;refine(dQ _ _ _ _).mono ?_;rintro e w' ⟨rfl,rfl⟩)
  go_ret;rw[E.out];exact⟨⟨_,rfl,aq.mk _ _⟩,H.out.alloc _,(Ch.refl _ _).alloc _⟩
 have ap:(1:Int)<=n:=by omega
 cases g:S.iO a n false
 ·have E:Hid (S.map a n 64=(false,S)):=Z (by unfold aF.map;rw[if_neg (by rw[g];simp)])
  rw[g]at q;clear h g r
  all_goals
   go_enter func109,ntmps109
   go_wp2_with (first|(go_at_call 148;refine q.out.mono ?_;rintro e w1 ⟨⟨v,rfl,A⟩,j⟩;obtain⟨t,x,rfl⟩:=A;have o:=Z j;clear j)|(go_at_call 147;refine(dQ _ _ _ _).mono ?_;rintro e w' ⟨rfl,rfl⟩))
   go_ret;rw[E.out];exact⟨⟨_,rfl,aq.mk _ _⟩,H.out.ch o.out (fun b=>b) (fun b=>b) (fun b=>b),o.out.af⟩
 ·have P:=(jq g).1
  have E:Hid (S.map a n 64=(true,S.laid a n 64)):=Z (by unfold aF.map;rw[if_pos ⟨r,g⟩]);rw[g]at q;obtain⟨N,y⟩:=mn S.cells.length;have M:=h.oP;rw[<-y]at M P;have p:=Z y;clear h g r y
  all_goals
   go_enter func109,ntmps109
   go_wp2_with fail
   refine q.out.mono ?_;rintro e w1 ⟨⟨v,rfl,A⟩,j⟩;obtain rfl:v=.nilIface:=A;have I:=Z (H.out.ch j (fun b=>b) (fun b=>b) (fun b=>b));have o:=Z (j.af (D:=dE m c d));clear j;go_wp2
   go_loopw [10] (fun s wr=>∃k:Nat,s=.int .i64 ((a+k:Nat):Int)/\k<=n/\Hid (aO wr m c d (S.laid a k 64)/\Ch (dE m c d) w wr)) (fun s _=>a+n-(intOf s).toNat)
   case atStart=>exact⟨0,by go_num,Nat.zero_le _,I.out,o.out⟩
   case round=>
    obtain⟨k,rfl,a3,l⟩:=hrel;have f:=l.out.1;have V:wr.cell? ⟨m,0,none⟩=some (.slice (some ⟨c,0,none⟩) N N):=(by have:=f.head.cell (i:=0) rfl;rwa [show(S.laid a k 64).cells.length=N from by unfold aF.laid;rw[dj];exact p.out.symm]at this);have W:wr.cell? ⟨m,1,none⟩=some (.slice (some ⟨d,0,none⟩) N N):=(by have:=f.head.cell (i:=1) rfl;rwa [show(S.laid a k 64).cells.length=N from by unfold aF.laid;rw[dj];exact p.out.symm]at this);obtain⟨C,J⟩:∃C:Int,wr.cell? ⟨m,2,none⟩=some (.int .i64 C):=⟨_,f.head.cell (i:=2) rfl⟩;have f2:=f.head.free 2;have R:=f.mc;have T:=f.md;have O:=f.cd;by_cases ad:k<n
    ·obtain⟨i,b⟩:=mn (a+k)
     have F:∃u,wr.cell? ⟨c,i,none⟩=some u:=by
      have z:(S.laid a k 64).cells.length=N:=(by unfold aF.laid;rw[dj];exact p.out.symm);exact⟨_,f.cells.cell (by rw[List.getElem?_map,List.getElem?_eq_getElem (by rw[z];omega)];rfl)⟩
     have G:∃u,wr.cell? ⟨d,i,none⟩=some u:=by
      have z:(S.laid a k 64).width.length=N:=(by rw[f.len];unfold aF.laid;rw[dj];exact p.out.symm);exact⟨_,f.width.cell (by rw[List.getElem?_map,List.getElem?_eq_getElem (by rw[z];omega)];rfl)⟩
     obtain⟨u1,F⟩:=F;obtain⟨u2,G⟩:=G;have X:=f.cells.free i;have Y:=f.width.free i;have a1:(i:Int)<a+n:=(by omega);have a2:(i:Int)<N:=(by omega);have B:=Z b;rw[<-b];have a0:d≠c:=(fun e=>O e.symm);have al:c≠m:=(fun e=>R e.symm);have am:d≠m:=(fun e=>T e.symm);clear b f J f2;go_wp2
     go_roundw
     case rel=>
      refine⟨k+1,by rw[show a+(k+1)=i+1 from by have:=B.out;omega];go_num,by omega,?_,?_⟩
      ·have K:=B.out
       subst K;exact(l.out.1.Ci (a+k) 64 (by omega)).lay (a+k) 0 ⟨by omega,by omega⟩
      ·exact(l.out.2.EE _ _).ED _ _
     case measure=>simp[intOf];omega
    ·have Q:k=n:=by omega
     subst Q;have ab:¬(((a+k:Nat):Int)<a+k):=(by omega);clear f;go_wp2
     go_ret;rw[E.out];exact⟨⟨_,rfl,rfl⟩,l.out.1.there _,l.out.2.EC _ _⟩
theorem kc(m c d:Nat)(S:aF)(a n:Nat)(L:a<=1000000)(U:n<=1000000)(w:World)(h:aO w m c d S):
 Calls prog 152 #[.pointer (some ⟨m,0,none⟩),.int .i64 a,.int .i64 n] w (sS (S.fX a n) m c d w):=by
 have H:=Z h;have q:=Z (jM m c d S a n true L U w h);by_cases r:n=0
 ·subst r
  have E:Hid (S.fX a 0=(false,S)):=Z (by unfold aF.fX;rw[if_neg (by simp)]);clear h;go_enter func152,ntmps152
  go_wp2_with (go_at_call 147;refine(dQ _ _ _ _).mono ?_;rintro e w' ⟨rfl,rfl⟩)
  go_ret;rw[E.out];exact⟨⟨_,rfl,aq.mk _ _⟩,H.out.alloc _,(Ch.refl _ _).alloc _⟩
 have ap:(1:Int)<=n:=by omega
 cases g:S.iO a n true
 ·have E:Hid (S.fX a n=(false,S)):=Z (by unfold aF.fX;rw[if_neg (by rw[g];simp)])
  rw[g]at q;clear h g r
  all_goals
   go_enter func152,ntmps152
   go_wp2_with (first|(go_at_call 148;refine q.out.mono ?_;rintro e w1 ⟨⟨v,rfl,A⟩,j⟩;obtain⟨t,x,rfl⟩:=A;have o:=Z j;clear j)|(go_at_call 147;refine(dQ _ _ _ _).mono ?_;rintro e w' ⟨rfl,rfl⟩))
   go_ret;rw[E.out];exact⟨⟨_,rfl,aq.mk _ _⟩,H.out.ch o.out (fun b=>b) (fun b=>b) (fun b=>b),o.out.af⟩
 ·have P:=(jq g).1
  have E:Hid (S.fX a n=(true,S.laid a n 0)):=Z (by unfold aF.fX;rw[if_pos ⟨r,g⟩]);rw[g]at q;obtain⟨N,y⟩:=mn S.cells.length;have M:=h.oP;rw[<-y]at M P;have p:=Z y;clear h g r y
  all_goals
   go_enter func152,ntmps152
   go_wp2_with fail
   refine q.out.mono ?_;rintro e w1 ⟨⟨v,rfl,A⟩,j⟩;obtain rfl:v=.nilIface:=A;have I:=Z (H.out.ch j (fun b=>b) (fun b=>b) (fun b=>b));have o:=Z (j.af (D:=dE m c d));clear j;go_wp2
   go_loopw [8] (fun s wr=>∃k:Nat,s=.int .i64 ((a+k:Nat):Int)/\k<=n/\Hid (aO wr m c d (S.laid a k 0)/\Ch (dE m c d) w wr)) (fun s _=>a+n-(intOf s).toNat)
   case atStart=>exact⟨0,by go_num,Nat.zero_le _,I.out,o.out⟩
   case round=>
    obtain⟨k,rfl,a3,l⟩:=hrel;have f:=l.out.1;have V:wr.cell? ⟨m,0,none⟩=some (.slice (some ⟨c,0,none⟩) N N):=(by have:=f.head.cell (i:=0) rfl;rwa [show(S.laid a k 0).cells.length=N from by unfold aF.laid;rw[dj];exact p.out.symm]at this);have W:wr.cell? ⟨m,1,none⟩=some (.slice (some ⟨d,0,none⟩) N N):=(by have:=f.head.cell (i:=1) rfl;rwa [show(S.laid a k 0).cells.length=N from by unfold aF.laid;rw[dj];exact p.out.symm]at this);obtain⟨C,J⟩:∃C:Int,wr.cell? ⟨m,2,none⟩=some (.int .i64 C):=⟨_,f.head.cell (i:=2) rfl⟩;have f2:=f.head.free 2;have R:=f.mc;have T:=f.md;have O:=f.cd;by_cases ad:k<n
    ·obtain⟨i,b⟩:=mn (a+k)
     have F:∃u,wr.cell? ⟨c,i,none⟩=some u:=by
      have z:(S.laid a k 0).cells.length=N:=(by unfold aF.laid;rw[dj];exact p.out.symm);exact⟨_,f.cells.cell (by rw[List.getElem?_map,List.getElem?_eq_getElem (by rw[z];omega)];rfl)⟩
     have G:∃u,wr.cell? ⟨d,i,none⟩=some u:=by
      have z:(S.laid a k 0).width.length=N:=(by rw[f.len];unfold aF.laid;rw[dj];exact p.out.symm);exact⟨_,f.width.cell (by rw[List.getElem?_map,List.getElem?_eq_getElem (by rw[z];omega)];rfl)⟩
     obtain⟨u1,F⟩:=F;obtain⟨u2,G⟩:=G;have X:=f.cells.free i;have Y:=f.width.free i;have a1:(i:Int)<a+n:=(by omega);have a2:(i:Int)<N:=(by omega);have B:=Z b;rw[<-b];have a0:d≠c:=(fun e=>O e.symm);have al:c≠m:=(fun e=>R e.symm);have am:d≠m:=(fun e=>T e.symm);clear b f J f2;go_wp2
     go_roundw
     case rel=>
      refine⟨k+1,by rw[show a+(k+1)=i+1 from by have:=B.out;omega];go_num,by omega,?_,?_⟩
      ·have K:=B.out
       subst K;exact(l.out.1.Ci (a+k) 0 (by omega)).lay (a+k) 0 ⟨by omega,by omega⟩
      ·exact(l.out.2.EE _ _).ED _ _
     case measure=>simp[intOf];omega
    ·have Q:k=n:=by omega
     subst Q;have ab:¬(((a+k:Nat):Int)<a+k):=(by omega);clear f;go_wp2
     go_ret;rw[E.out];exact⟨⟨_,rfl,rfl⟩,l.out.1.there _,l.out.2.EC _ _⟩
def dV(l:List aD)(id:Int):Int:=
 match dS l id with
 |none=>0
 |some p=>match l[p]? with
  |none=>0
  |some r=>if r.bE then 0 else if r.t.loose then 2 else if r.t.bI !=0 then 4 else if r.t.state==4 then 3 else 1
def fq(l:List aD)(id:Int):lV×Bool:=
 match dS l id with
 |none=>(lV.zero,false)
 |some p=>match l[p]? with
  |none=>(lV.zero,false)
  |some r=>(r.t,true)
theorem q4(b g:Nat)(l:List aD)(id:Int)(hid:aH id)(w:World)(h:aU w b g l):
 Calls prog 129 #[.pointer (some ⟨b,0,none⟩),.int .u64 id] w (dt (.tuple #[(fq l id).1.val,.bool (fq l id).2]) w):=by
 have c:=Z (fun d=>e5 b g l id hid (w.alloc d) (h.alloc d));cases a:dS l id with
 |none=>
  have E:Hid (fq l id=(lV.zero,false)):=Z (by unfold fq;rw[a]);rw[a]at c;clear h a;go_enter func129,ntmps129
  go_wp2_with (go_at_call 162;refine(c.out _).mono ?_;rintro e w' ⟨rfl,rfl⟩;simp only[b0])
  refine bodyPost_ret (v:=.tuple #[lV.zero.val,.bool false]) (by simp[results,Tryz.results129,go_sem,lV.val,lV.zero]) rfl ?_;rw[E.out];exact⟨rfl,(Ch.refl _ _).alloc _⟩
 |some p=>
  obtain⟨-,r,f,-,-⟩:=eb a;have i:=Z (fun d=>(h.alloc d).cells f);have E:Hid (fq l id=(r.t,true)):=Z (by unfold fq;rw[a];simp only[f]);rw[a]at c;have B:=h.rows.lt;clear h a f;obtain⟨times,taken,C,⟨tid,state,home,value,u,loose,x⟩⟩:=r;dsimp only at*;obtain⟨y,z,A,j,k,m,n,o,q,s,fr,t⟩:=i.out (.cells lV.zero.cells.toArray 48);dsimp only[lV.cells,lV.zero]at j k m n o q s;clear fr t;go_enter func129,ntmps129
  go_wp2_with (go_at_call 162;refine(c.out _).mono ?_;rintro e w' ⟨rfl,rfl⟩;simp only[b0])
  refine bodyPost_ret (v:=.tuple #[(lV.mk tid state home value u loose x).val,.bool true]) (by simp[results,Tryz.results129,go_sem,lV.val]) rfl ?_;rw[E.out];exact⟨rfl,(Ch.refl _ _).alloc _⟩
def fs(l:List aD)(id:Int):Bool×Int×Int×Bool×List aD:=
 match dS l id with
 |none=>(false,0,0,false,l)
 |some p=>match l[p]? with
  |none=>(false,0,0,false,l)
  |some r=>if r.t.state !=4||r.t.loose||r.bE then(false,0,0,false,l)
   else(true,r.t.value,r.t.home,!r.t.aJ,if r.t.aJ then l.set p {r with bE:=true}else l.set p r.gone)
def iB:List aD->Nat->Option Nat
 |[],_=>none
 |r::l,k=>if r.taken then iB l (k+1)else some k
def db(l:List aD)(home:Int):Option Int×List aD:=
 match iB l 0 with
 |none=>(none,l)
 |some p=>match l[p]? with
  |none=>(none,l)
  |some r=>
   let n:=IntKind.u64.wrap (r.times+1)
   let id:=IntKind.u64.wrap (p+IntKind.u64.wrap (64*n))
   (some id,l.set p {times:=n,taken:=true,bE:=r.bE,t:=⟨id,1,home,0,0,false,false⟩})
def AQ(x:Option Int×List aD)(b g:Nat)(w:World)(e:Ending)(w':World):Prop:=
 (match x.1 with
  |some id=>e=.returned (.tuple #[.int .u64 id,.nilIface])
  |none=>∃v,e=.returned (.tuple #[.int .u64 0,v])/\aq v)/\aU w' b g x.2/\Ch (aK g) w w'
theorem l5(b g:Nat)(l:List aD)(home:Int)(w:World)(h:aU w b g l):
 Calls prog 114 #[.pointer (some ⟨b,0,none⟩),.int .u64 home] w (AQ (db l home) b g w):=by
 have H:=Z h;have z:=h.head.c1;have hlen:=Z h.len;have L:=h.head.lt;clear h;go_enter func114,ntmps114
 go_wp2
 go_loop [13] (fun s=>∃k:Nat,s=.int .i64 k/\k<=64/\Hid (iB (l.drop k) k=iB l 0)) (fun s=>64-(intOf s).toNat)
 case atStart=>exact⟨0,rfl,Nat.zero_le _,rfl⟩
 case round=>
  obtain⟨k,rfl,M,d⟩:=hrel;by_cases v:k<64
  ·obtain⟨r,c⟩:∃r,l[k]?=some r:=⟨_,List.getElem?_eq_getElem (by rw[hlen.out];exact v)⟩
   obtain⟨y,A,B,C,D,F,G,I,J,K,fr,P⟩:=H.out.cells c;have j:l.drop k=r::l.drop (k+1):=by
    obtain⟨q,u⟩:=List.getElem?_eq_some_iff.1 c;rw[List.drop_eq_getElem_cons q,u]
   have i:=Z j;obtain⟨m,a⟩:=H.out.start c;have p:=Z m;have o:=Z c;have O:(k:Int)<64:=(by omega);clear j m c;obtain⟨times,taken,x,⟨tid,state,Q,value,R,loose,S⟩⟩:=r;dsimp only at*;cases taken
   ·have E:Hid (db l home=(some (IntKind.u64.wrap (k+IntKind.u64.wrap (64*IntKind.u64.wrap (times+1)))),l.set k {times:=IntKind.u64.wrap (times+1),taken:=true,bE:=x,t:=⟨IntKind.u64.wrap (k+IntKind.u64.wrap (64*IntKind.u64.wrap (times+1))),1,home,0,0,false,false⟩})):=Z (by
     have f:iB l 0=some k:=(by rw[<-d.out,i.out];rfl);unfold db;rw[f];simp only[o.out])
    go_wp2
    go_ret2;rw[E.out];refine⟨rfl,?_,?_⟩
    ·exact((((((((p.out.s0 a rfl).s1 a rfl).s3 a rfl).s4 a rfl).s5 a rfl).s6 a rfl).s7 a rfl).s8 a rfl).s9 a rfl
    ·exact(((((((((Ch.refl _ _).only _ _).only _ _).only _ _).only _ _).only _ _).only _ _).only _ _).only _ _).only _ _
   ·have n:Hid (iB (l.drop (k+1)) (k+1)=iB l 0):=Z (by rw[<-d.out,i.out];rfl)
    go_wp2
    go_round
    case rel=>exact⟨k+1,by go_num,by omega,n⟩
    case measure=>simp[intOf];omega
  ·have N:¬(k:Int)<64:=by omega
   have E:Hid (db l home=(none,l)):=Z (by
    have f:iB l 0=none:=(by rw[<-d.out,List.drop_eq_nil_of_le (by rw[hlen.out];omega)];rfl);unfold db;rw[f])
   go_wp2_with (go_at_call 106;refine(a5 _ _ _).mono ?_;rintro e w' ⟨rfl,rfl⟩)
   go_ret2;rw[E.out];exact⟨⟨_,rfl,aq.mk _ _⟩,H.out.alloc _,(Ch.refl _ _).alloc _⟩
structure dm(w:World)(b g:Nat)(cs:List Int)(fr n:Nat):Prop where
 head:Row w b 229 [.slice (some ⟨g,0,none⟩) 64 64,.int .i64 fr,.int .i64 n]
 rows:Row w g 39 (cs.map (Value.int .u64))
 len:cs.length=64
 hf:fr<64
 hn:n<=64
def eH(w:World)(b g:Nat)(q:List Int):Prop:=
 ∃cs fr,dm w b g cs fr q.length/\∀i,i<q.length->cs[(fr+i)%64]?=q[i]?
theorem dm.alloc{w:World}{b g:Nat}{cs:List Int}{fr n:Nat}(h:dm w b g cs fr n)(a:Obj):dm (w.alloc a) b g cs fr n:=⟨h.head.alloc a,h.rows.alloc a,h.len,h.hf,h.hn⟩
theorem dm.drew{w:World}{b g:Nat}{cs:List Int}{fr n:Nat}(h:dm w b g cs fr n):dm w.drew b g cs fr n:=⟨h.head,h.rows,h.len,h.hf,h.hn⟩
theorem dm.drewN{w:World}{b g:Nat}{cs:List Int}{fr n:Nat}(h:dm w b g cs fr n)(k:Nat):dm (w.drewN k) b g cs fr n:=⟨h.head,h.rows,h.len,h.hf,h.hn⟩
theorem dm.ne{w:World}{b g:Nat}{cs:List Int}{fr n:Nat}(h:dm w b g cs fr n):b≠g:=h.head.ne h.rows (by decide)
theorem dm.ch{w w':World}{D:Nat->Prop}{b g:Nat}{cs:List Int}{fr n:Nat}(h:dm w b g cs fr n)(c:Ch D w w')(hb:¬D b)(a:¬D g):dm w' b g cs fr n:=⟨h.head.ch c hb,h.rows.ch c a,h.len,h.hf,h.hn⟩
theorem eH.ch{w w':World}{D:Nat->Prop}{b g:Nat}{q:List Int}(h:eH w b g q)(c:Ch D w w')(hb:¬D b)(e:¬D g):eH w' b g q:=by
 obtain⟨cs,fr,a,d⟩:=h;exact⟨cs,fr,a.ch c hb e,d⟩
theorem jS(b g:Nat)(cs:List Int)(fr n i:Nat)(s:i<=64)(w:World)(h:dm w b g cs fr n):
 Calls prog 94 #[.pointer (some ⟨b,0,none⟩),.int .i64 i] w (fun e w'=>e=.returned (.pointer (some ⟨g,(fr+i)%64,none⟩))/\∃k,w'=w.drewN k):=by
 obtain⟨l,o⟩:=h.head.c2;have r:=h.hf;have t:=h.rows.lt;have q:=h.head.lt;have p:IntKind.i64.wrap ((fr:Int)+i)=(fr:Int)+i:=IntWalk.i64_in _ (by omega);have c:((fr:Int)+i).tmod 64=(((fr+i)%64:Nat):Int):=by rw[Int.tmod_eq_emod_of_nonneg (by omega)];omega
 have d:(0:Int)<=(((fr+i)%64:Nat):Int):=by omega
 have f:(((fr+i)%64:Nat):Int)<64:=by omega
 have j:IntKind.i64.wrap (((fr+i)%64:Nat):Int)=(((fr+i)%64:Nat):Int):=IntWalk.i64_in _ (by omega);obtain⟨m,a⟩:=mn ((fr+i)%64);rw[<-a]at c d f j⊢;clear a h;go_enter func94,ntmps94
 go_wp2
 go_quiet (fail)
 go_wp2
 go_ret;exact⟨rfl,_,rfl⟩
theorem ym{cs:List Int}{fr:Nat}{q:List Int}{v:Int}(c:cs.length=64)(d:q.length<64)(h:∀i,i<q.length->cs[(fr+i)%64]?=q[i]?):
 ∀i,i<(q++[v]).length->(cs.set ((fr+q.length)%64) v)[(fr+i)%64]?=(q++[v])[i]?:=by
 intro i b;rw[List.length_append,List.length_cons,List.length_nil]at b;by_cases a:i=q.length
 ·subst a
  rw[List.getElem?_set_self (by omega),List.getElem?_append_right (Nat.le_refl _)];simp
 ·rw[List.getElem?_set_ne (by omega),List.getElem?_append_left (by omega)]
  exact h i (by omega)
theorem dm.set{w:World}{b g:Nat}{cs:List Int}{fr n:Nat}(h:dm w b g cs fr n)(m:Nat)(v:Int):dm (w.setCell ⟨g,m,none⟩ (.int .u64 v)) b g (cs.set m v) fr n:=
 ⟨h.head.other h.ne _,h.rows.a' _ _ (by rw[List.map_set]),by simpa using h.len,h.hf,h.hn⟩
theorem dm.DF{w:World}{b g:Nat}{cs:List Int}{fr n:Nat}(h:dm w b g cs fr n)(m:Nat)(a:m<=64){v:Int}(c:v=(m:Int)):dm (w.setCell ⟨b,2,none⟩ (.int .i64 v)) b g cs fr m:=by
 subst c;exact⟨h.head.a' _ _ rfl,h.rows.other (fun e=>h.ne e.symm) _,h.len,h.hf,a⟩
theorem dm.cH{w:World}{b g:Nat}{cs:List Int}{fr n:Nat}(h:dm w b g cs fr n)(m:Nat)(a:m<64){v:Int}(c:v=(m:Int)):dm (w.setCell ⟨b,1,none⟩ (.int .i64 v)) b g cs m n:=by
 subst c;exact⟨h.head.a' _ _ rfl,h.rows.other (fun e=>h.ne e.symm) _,h.len,a,h.hn⟩
def AR(ok:Bool)(b g:Nat)(a:List Int)(w:World)(e:Ending)(w':World):Prop:=
 (∃v,e=.returned v/\(if ok then v=.nilIface else aq v))/\eH w' b g a/\Ch (di b g) w w'
def g6(q:List Int)(v:Int):Bool×List Int:=if q.length=64 then(false,q)else(true,q++[v])
theorem l6(b g:Nat)(q:List Int)(v:Int)(w:World)(h:eH w b g q):
 Calls prog 69 #[.pointer (some ⟨b,0,none⟩),.int .u64 v] w (AR (g6 q v).1 b g (g6 q v).2 w):=by
 obtain⟨cs,fr,d,o⟩:=h;have a:=Z d;have n:=Z o;have B:=d.head.c1;have r:=d.head.k 2 rfl;have f2:=d.head.free 2;have x:=d.hn;obtain⟨N,i⟩:=mn q.length;rw[<-i]at r x;have c:=Z i;clear d o i;by_cases f:N=64
 ·subst f
  have E:Hid (g6 q v=(false,q)):=Z (by unfold g6;rw[if_pos c.out.symm]);go_enter func69,ntmps69
  go_wp2
  go_quiet (fail)
  go_wp2
  go_ret;rw[E.out];exact⟨⟨_,rfl,aq.mk _ _⟩,⟨cs,fr,(a.out.drewN _).alloc _,n.out⟩,((Ch.refl _ _).drewN _).alloc _⟩
 ·have E:Hid (g6 q v=(true,q++[v])):=Z (by unfold g6;rw[if_neg (by rw[<-c.out];exact f)])
  have hb:((N:Int)==64)=false:=by rw[beq_eq_false_iff_ne];omega
  have y:N<64:=by omega
  have l:Hid (dm w b g cs fr N):=Z (by rw[c.out];exact a.out);clear f;go_enter func69,ntmps69
  go_wp2
  go_quiet (fail)
  go_wp2_with fail
  refine(jS b g cs fr N N (by omega) _ (l.out.drewN _)).mono ?_;rintro e w1 ⟨rfl,k,rfl⟩;have s:∃u,w.cell? ⟨g,(fr+N)%64,none⟩=some u:=by
   have C:=a.out.len;have:(cs.map (Value.int .u64))[(fr+N)%64]?=some (.int .u64 (cs[(fr+N)%64]'(by omega))):=(by rw[List.getElem?_map,List.getElem?_eq_getElem (by omega)];rfl);exact⟨_,a.out.rows.cell this⟩
  obtain⟨u,A⟩:=s;have t:=a.out.rows.free ((fr+N)%64);have z:=a.out.ne;obtain⟨m,j⟩:=mn ((fr+N)%64);rw[<-j]at A t⊢;have p:=Z j;have D:g≠b:=fun e=>z e.symm
  clear j;go_wp2
  go_ret;rw[E.out];refine⟨⟨_,rfl,rfl⟩,⟨cs.set m v,fr,?_,?_⟩,?_⟩
  ·rw[List.length_append,<-c.out]
   exact((l.out.drewN _).set m v).DF (N+1) (by omega) rfl
  ·rw[p.out,c.out]
   exact ym a.out.len (by rw[<-c.out];exact y) n.out
  ·exact(((Ch.refl _ _).drewN _).jD _ _).g8 _ _
def gG:List Int->Int×Bool×List Int
 |[]=>(0,false,[])
 |x::q=>(x,true,q)
structure bC where
 times:Int
 handle:Int
 kind:Int
 addr:Int
 deriving DecidableEq,Repr,Inhabited
def bC.cells(r:bC):List Value:=[.int .u64 r.times,.int .u64 r.handle,.int .i64 r.kind,.int .u64 r.addr]
theorem bC.len(r:bC):r.cells.length=4:=rfl
structure bL(w:World)(b g:Nat)(l:List bC):Prop where
 head:Row w b 235 [.slice (some ⟨g,0,none⟩) 64 64]
 rows:Row w g 237 (l.flatMap bC.cells)
 len:l.length=64
theorem bL.ne{w:World}{b g:Nat}{l:List bC}(h:bL w b g l):b≠g:=h.head.ne h.rows (by decide)
theorem bL.alloc{w:World}{b g:Nat}{l:List bC}(h:bL w b g l)(a:Obj):bL (w.alloc a) b g l:=⟨h.head.alloc a,h.rows.alloc a,h.len⟩
theorem bL.drew{w:World}{b g:Nat}{l:List bC}(h:bL w b g l):bL w.drew b g l:=⟨h.head,h.rows,h.len⟩
theorem bL.ch{w w':World}{D:Nat->Prop}{b g:Nat}{l:List bC}(h:bL w b g l)(c:Ch D w w')(hb:¬D b)(a:¬D g):bL w' b g l:=⟨h.head.ch c hb,h.rows.ch c a,h.len⟩
theorem bL.put{w:World}{b g:Nat}{l:List bC}(h:bL w b g l){p:Nat}{r y:bC}(d:l[p]?=some r)(j:Nat)(hj:j<4){a:Nat}(c:a=p*4+j){v:Value}(e:r.cells.set j v=y.cells):bL (w.setCell ⟨g,a,none⟩ v) b g (l.set p y):=by
 subst c;exact⟨h.head.other h.ne v,h.rows.put bC.len d hj e,by simpa using h.len⟩
theorem bL.jK{w:World}{b g:Nat}{l:List bC}{p:Nat}{r y:bC}(h:bL w b g (l.set p r))(d:p<l.length)(j:Nat)(hj:j<4){a:Nat}(c:a=p*4+j){v:Value}(e:r.cells.set j v=y.cells):bL (w.setCell ⟨g,a,none⟩ v) b g (l.set p y):=by
 have:=h.put (p:=p) (r:=r) (y:=y) (by simp[d]) j hj c e
 rwa [List.set_set]at this
theorem bL.start{w:World}{b g:Nat}{l:List bC}(h:bL w b g l){p:Nat}{r:bC}(a:l[p]?=some r):bL w b g (l.set p r)/\p<l.length:=⟨(jL a).symm▸h,(List.getElem?_eq_some_iff.1 a).1⟩
theorem bL.s0{w:World}{b g:Nat}{l:List bC}{p:Nat}{r:bC}(h:bL w b g (l.set p r))(d:p<l.length){a:Nat}{v:Int}(c:a=p*4+0):bL (w.setCell ⟨g,a,none⟩ (.int .u64 v)) b g (l.set p {r with times:=v}):=h.jK d 0 (by omega) c rfl
theorem bL.s1{w:World}{b g:Nat}{l:List bC}{p:Nat}{r:bC}(h:bL w b g (l.set p r))(d:p<l.length){a:Nat}{v:Int}(c:a=p*4+1):bL (w.setCell ⟨g,a,none⟩ (.int .u64 v)) b g (l.set p {r with handle:=v}):=h.jK d 1 (by omega) c rfl
theorem bL.s2{w:World}{b g:Nat}{l:List bC}{p:Nat}{r:bC}(h:bL w b g (l.set p r))(d:p<l.length){a:Nat}{v:Int}(c:a=p*4+2):bL (w.setCell ⟨g,a,none⟩ (.int .i64 v)) b g (l.set p {r with kind:=v}):=h.jK d 2 (by omega) c rfl
theorem bL.s3{w:World}{b g:Nat}{l:List bC}{p:Nat}{r:bC}(h:bL w b g (l.set p r))(d:p<l.length){a:Nat}{v:Int}(c:a=p*4+3):bL (w.setCell ⟨g,a,none⟩ (.int .u64 v)) b g (l.set p {r with addr:=v}):=h.jK d 3 (by omega) c rfl
structure Cx(w:World)(g p:Nat)(r:bC):Prop where
 c0:w.cell? ⟨g,p*4,none⟩=some (.int .u64 r.times)
 c1:w.cell? ⟨g,p*4+1,none⟩=some (.int .u64 r.handle)
 c2:w.cell? ⟨g,p*4+2,none⟩=some (.int .i64 r.kind)
 c3:w.cell? ⟨g,p*4+3,none⟩=some (.int .u64 r.addr)
 fr:∀j,w.frozen? ⟨g,j,none⟩=false
 lt:g<w.heap.size
theorem bL.cells{w:World}{b g:Nat}{l:List bC}(h:bL w b g l){p:Nat}{r:bC}(a:l[p]?=some r):Cx w g p r:=
 ⟨h.rows.at bC.len a (j:=0) (by omega) rfl,h.rows.at bC.len a (by omega) rfl,h.rows.at bC.len a (by omega) rfl,h.rows.at bC.len a (by omega) rfl,fun j=>h.rows.free j,h.rows.lt⟩
def q6(h:Int):Nat:=(IntKind.u64.wrap (h-1)%64).toNat
def iR(l:List bC)(h:Int):Option Nat:=
 if h==0 then none else
 match l[q6 h]? with
 |none=>none
 |some r=>if r.handle==h then some (q6 h)else none
def ga(l:List bC)(h kind:Int):Option Int:=
 match iR l h with
 |none=>none
 |some p=>match l[p]? with
  |none=>none
  |some r=>if r.kind !=kind then none else some r.addr
def bC.gone(r:bC):bC:=⟨r.times,0,0,0⟩
def iC(l:List bC)(h:Int):Bool×List bC:=
 match iR l h with
 |none=>(false,l)
 |some p=>match l[p]? with
  |none=>(false,l)
  |some r=>(true,l.set p r.gone)
def km:List bC->Nat->Option Nat
 |[],_=>none
 |r::l,k=>if r.handle !=0 then km l (k+1)else some k
def fH(l:List bC)(kind addr:Int):Option Int×List bC:=
 if kind<1∨6<kind then(none,l)else
 match km l 0 with
 |none=>(none,l)
 |some p=>match l[p]? with
  |none=>(none,l)
  |some r=>
   let h:=IntKind.u64.wrap (p+1+IntKind.u64.wrap (64*r.times))
   (some h,l.set p ⟨IntKind.u64.wrap (r.times+1),h,kind,addr⟩)
end Go.Proofs.YtlihkblppjgebaaGreatDoor
