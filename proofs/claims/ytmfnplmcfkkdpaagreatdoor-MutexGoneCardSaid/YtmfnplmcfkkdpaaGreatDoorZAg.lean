import Derived.Laws.MakeOwn
import Derived.Test.YtmfnplmcfkkdpaaGreatDoorZAb
import Derived.Test.YtmfnplmcfkkdpaaGreatDoorZAd
import Derived.Test.YtmfnplmcfkkdpaaGreatDoorZAe
set_option linter.all false
set_option maxRecDepth 100000
set_option maxHeartbeats 0
namespace Go.Proofs.YtmfnplmcfkkdpaaGreatDoor
open Go.RowKit Go.Proofs.Tryz
variable{a b g p:Nat}{w:World}{v:Int}
structure iD where
 id:Int
 state:Int
 home:Int
 value:Int
 bH:Int
 loose:Bool
 aG:Bool
 deriving DecidableEq,Repr,Inhabited
def iD.zero:iD:=⟨0,0,0,0,0,false,false⟩
def iD.cells(t:iD):List Value:=[.int .u64 t.id,.int .i64 t.state,.int .u64 t.home,.int .u64 t.value,.int .u64 t.bH,.bool t.loose,.bool t.aG]
def iD.val(t:iD):Value:=.agg #[.int .u64 t.id,.int .i64 t.state,.int .u64 t.home,.int .u64 t.value,.int .u64 t.bH,.bool t.loose,.bool t.aG]
structure aF where
 times:Int
 taken:Bool
 bL:Bool
 t:iD
 deriving DecidableEq,Repr,Inhabited
def aF.cells(r:aF):List Value:=[.int .u64 r.times,.bool r.taken,.bool r.bL,.int .u64 r.t.id,.int .i64 r.t.state,.int .u64 r.t.home,.int .u64 r.t.value,.int .u64 r.t.bH,.bool r.t.loose,.bool r.t.aG]
theorem aF.len(r:aF):r.cells.length=10:=rfl
structure aW(w:World)(b g:Nat)(l:List aF):Prop where
 head:Row w b 205 [.slice (some (g,0)) 64 64]
 rows:Row w g 245 (l.flatMap aF.cells)
 len:l.length=64
def d'(l:List aF)(id:Int):Option Nat:=
 match l[(id%64).toNat]? with
 |none=>none
 |some r=>if r.taken&&r.t.id==id then some (id%64).toNat else none
theorem ei{l:List aF}{id:Int}(h:d' l id=some p):p=(id%64).toNat/\∃r,l[p]?=some r/\r.taken=true/\r.t.id=id:=by
 unfold d' at h;split at h
 ·cases h
 ·rename_i r e
  split at h
  ·rename_i c
   have d:(id%64).toNat=p:=(by simpa using h);rw[Bool.and_eq_true,beq_iff_eq]at c;subst d;exact⟨rfl,r,e,c.1,c.2⟩
  ·cases h
def b6(g:Nat):Option Nat->Value
 |none=> .pointer none
 |some p=> .pointer (some (g,p*10))
theorem fc(b g:Nat)(l:List aF)(id:Int)(hid:aK id)(w:World)(h:aW w b g l):Calls prog 134 #[(b,0),.int .u64 id] w (ez (b6 g (d' l id)) w):=by
 have q:=hid.lo;have A:=h.head.c1;obtain⟨p,f⟩:∃p:Nat,(p:Int)=id%64:=⟨(id%64).toNat,by omega⟩;have s:p<64:=by omega
 obtain⟨r,d⟩:∃r,l[p]?=some r:=⟨_,List.getElem?_eq_getElem (by rw[h.len];exact s)⟩;have i:(id%64).toNat=p:=by omega
 have t:=h.rows.at aF.len d (j:=1) (by omega) rfl;have u:=h.rows.at aF.len d (j:=3) (by omega) rfl;have B:=h.rows.lt;have E:=Z i;have y:=Z f;have z:=Z d;have c:Hid (d' l id=if r.taken&&r.t.id==id then some p else none):=Z (by unfold d';rw[i,d]);have C:(p:Int)<64:=by omega
 have D:id.tmod 64=(p:Int):=by rw[Int.tmod_eq_emod_of_nonneg q];exact f.symm
 obtain⟨n,k⟩:=nm r.t.id;obtain⟨x,m⟩:=nm r.taken;rw[k,m]at c;rw[k]at u;rw[m]at t;cases x
 ·go_in
  go_wp2
  go_ret;exact ez.mk (by rw[c];rfl)
 ·by_cases e:n=id
  ·subst e
   go_wp2
   go_ret;exact ez.mk (by rw[c];simp[b6])
  ·have hb:(n !=id)=true:=by simpa using e
   have o:=Z e;go_wp2
   go_ret;exact ez.mk (by rw[c];simp[b6,o.out])
theorem a6(t:TypeId)(x:Value)(w:World):Calls prog 77 #[.iface t x] w (fun e w'=>e=.returned (.iface 185 (.pointer (some (w.heap.size,0))))/\w.alloc (.cells #[.string ⟨#[116,97,98,108,101]⟩,.int .i64 0,.iface t x] 187)=w'):=by
 go_wp2
 go_ret;exact⟨rfl,rfl⟩
theorem aW.ne{l:List aF}(h:aW w b g l):b≠g:=h.head.ne h.rows (by decide)
theorem aW.alloc{l:List aF}(h:aW w b g l)(o:Obj):aW (w.alloc o) b g l:=⟨h.head.alloc o,h.rows.alloc o,h.len⟩
theorem aW.put{l:List aF}(h:aW w b g l){r y:aF}(e:l[p]?=some r)(j:Nat)(d:j<10)(c:a=p*10+j){v:Value}(f:r.cells.set j v=y.cells):aW (w.setCell (g,a) v) b g (l.set p y):=by
 subst c;exact⟨h.head.other h.ne v,h.rows.put aF.len e d f,by simpa using h.len⟩
theorem aW.drew{l:List aF}(h:aW w b g l):aW w.drew b g l:=⟨h.head,h.rows,h.len⟩
theorem aW.drewN{l:List aF}(h:aW w b g l)(n:Nat):aW (w.drewN n) b g l:=⟨h.head,h.rows,h.len⟩
theorem aW.ch{w':World}{D:Nat->Prop}{l:List aF}(h:aW w b g l)(c:Ch D w w')(hb:¬D b)(d:¬D g):aW w' b g l:=⟨h.head.ch c hb,h.rows.ch c d,h.len⟩
structure DT(w:World)(g p:Nat)(r:aF):Prop where
 c0:w.cell? (g,p*10)=some (.int .u64 r.times)
 c1:w.cell? (g,p*10+1)=some (.bool r.taken)
 c2:w.cell? (g,p*10+2)=some (.bool r.bL)
 c3:w.cell? (g,p*10+3)=some (.int .u64 r.t.id)
 c4:w.cell? (g,p*10+4)=some (.int .i64 r.t.state)
 c5:w.cell? (g,p*10+5)=some (.int .u64 r.t.home)
 c6:w.cell? (g,p*10+6)=some (.int .u64 r.t.value)
 c7:w.cell? (g,p*10+7)=some (.int .u64 r.t.bH)
 c8:w.cell? (g,p*10+8)=some (.bool r.t.loose)
 c9:w.cell? (g,p*10+9)=some (.bool r.t.aG)
 fr:∀j,w.frozen? ⟨g,j,none⟩=false
 lt:g<w.heap.size
theorem aW.cells{l:List aF}(h:aW w b g l){r:aF}(c:l[p]?=some r):DT w g p r:=
 ⟨h.rows.at aF.len c (j:=0) (by omega) rfl,h.rows.at aF.len c (by omega) rfl,h.rows.at aF.len c (by omega) rfl,h.rows.at aF.len c (by omega) rfl,h.rows.at aF.len c (by omega) rfl,
  h.rows.at aF.len c (by omega) rfl,h.rows.at aF.len c (by omega) rfl,h.rows.at aF.len c (by omega) rfl,h.rows.at aF.len c (by omega) rfl,h.rows.at aF.len c (by omega) rfl,fun j=>h.rows.free j,h.rows.lt⟩
def ny(ok:Bool)(b g:Nat)(l':List aF)(w:World)(e:Ending)(w':World):Prop:=
 (∃v,e=.returned v/\(if ok then v=.nilIface else ar v))/\aW w' b g l'/\Ch (aH g) w w'
def fU(s:Int):Bool:=s==1||s==2||s==3
theorem wV(s:Int)(w:World):Calls prog 135 #[s] w (ez (.bool (fU s)) w):=by
 go_wp2
 all_goals
  go_ret;refine ez.mk ?_;unfold fU;simp[*]
def j4(l:List aF)(id s:Int):Bool×List aF:=
 match d' l id with
 |none=>(false,l)
 |some p=>match l[p]? with
  |none=>(false,l)
  |some r=>if !fU s then(false,l)else if r.t.state==4 then(false,l)else(true,l.set p {r with t:={r.t with state:=s}})
theorem wW(b g:Nat)(l:List aF)(id s:Int)(hid:aK id)(w:World)(h:aW w b g l):
 Calls prog 98 #[(b,0),.int .u64 id,s] w (ny (j4 l id s).1 b g (j4 l id s).2 w):=by
 have i:=Z h;have c:=Z (fc b g l id hid w h);cases f:d' l id with
 |none=>
  have E:Hid (j4 l id s=(false,l)):=Z (by unfold j4;rw[f]);rw[f]at c;go_in
  go_wp2_with (first|(go_at_call 134;refine c.mono ?_;rintro e w' ⟨rfl,rfl⟩;simp only[b6])|(go_at_call 77;refine(a6 _ _ _).mono ?_;rintro e w' ⟨rfl,rfl⟩))
  go_ret;rw[E];exact⟨⟨_,rfl,ar.mk _ _⟩,i.alloc _,ay⟩
 |some p=>
  obtain⟨-,r,j,-,-⟩:=ei f;obtain⟨o,q,u,x,y,z,A,B,C,D,fr,F⟩:=h.cells j;have E:Hid (j4 l id s=if !fU s then(false,l)else if r.t.state==4 then(false,l)else(true,l.set p {r with t:={r.t with state:=s}})):=Z (by unfold j4;rw[f];simp only[j]);have n:=Z j;rw[f]at c;have d:=Z (wV s);cases k:fU s
  ·rw[k]at E d
   go_in
   go_wp2_with (first|(go_at_call 134;refine c.mono ?_;rintro e w' ⟨rfl,rfl⟩;simp only[b6])|(go_at_call 77;refine(a6 _ _ _).mono ?_;rintro e w' ⟨rfl,rfl⟩)|(go_at_call 135;refine(d _).mono ?_;rintro e w' ⟨rfl,rfl⟩))
   go_ret;rw[E];exact⟨⟨_,rfl,ar.mk _ _⟩,i.alloc _,ay⟩
  ·rw[k]at E d
   cases m:r.t.state==4
   ·rw[m]at E
    go_in
    go_wp2_with (first|(go_at_call 134;refine c.mono ?_;rintro e w' ⟨rfl,rfl⟩;simp only[b6])|(go_at_call 77;refine(a6 _ _ _).mono ?_;rintro e w' ⟨rfl,rfl⟩)|(go_at_call 135;refine(d _).mono ?_;rintro e w' ⟨rfl,rfl⟩))
    go_ret;rw[E];exact⟨⟨_,rfl,rfl⟩,i.put n 4 (by omega) (by omega) rfl,ay⟩
   ·rw[m]at E
    go_in
    go_wp2_with (first|(go_at_call 134;refine c.mono ?_;rintro e w' ⟨rfl,rfl⟩;simp only[b6])|(go_at_call 77;refine(a6 _ _ _).mono ?_;rintro e w' ⟨rfl,rfl⟩)|(go_at_call 135;refine(d _).mono ?_;rintro e w' ⟨rfl,rfl⟩))
    go_ret;rw[E];exact⟨⟨_,rfl,ar.mk _ _⟩,i.alloc _,ay⟩
theorem aW.j5{l:List aF}{r y:aF}(h:aW w b g (l.set p r))(e:p<l.length)(j:Nat)(d:j<10)(c:a=p*10+j){v:Value}(f:r.cells.set j v=y.cells):aW (w.setCell (g,a) v) b g (l.set p y):=by
 have:=h.put (p:=p) (r:=r) (y:=y) (by simp[e]) j d c f
 rwa [List.set_set]at this
theorem j6{α:Type}{l:List α}{r:α}(h:l[p]?=some r):l.set p r=l:=by
 obtain⟨d,c⟩:=List.getElem?_eq_some_iff.1 h;subst c;simp
theorem m'{α:Type}{l:List α}{y:α}(h:p<l.length):(l.set p y)[p]?=some y:=by simp[h]
theorem aW.start{l:List aF}(h:aW w b g l){r:aF}(c:l[p]?=some r):aW w b g (l.set p r)/\p<l.length:=⟨(j6 c).symm▸h,(List.getElem?_eq_some_iff.1 c).1⟩
theorem aW.s0{l:List aF}{r:aF}(h:aW w b g (l.set p r))(d:p<l.length)(c:a=p*10+0):aW (w.setCell (g,a) (.int .u64 v)) b g (l.set p {r with times:=v}):=h.j5 d 0 (by omega) c rfl
theorem aW.s1{l:List aF}{r:aF}(h:aW w b g (l.set p r))(d:p<l.length){v:Bool}(c:a=p*10+1):aW (w.setCell (g,a) (.bool v)) b g (l.set p {r with taken:=v}):=h.j5 d 1 (by omega) c rfl
theorem aW.s2{l:List aF}{r:aF}(h:aW w b g (l.set p r))(d:p<l.length){v:Bool}(c:a=p*10+2):aW (w.setCell (g,a) (.bool v)) b g (l.set p {r with bL:=v}):=h.j5 d 2 (by omega) c rfl
theorem aW.s3{l:List aF}{r:aF}(h:aW w b g (l.set p r))(d:p<l.length)(c:a=p*10+3):aW (w.setCell (g,a) (.int .u64 v)) b g (l.set p {r with t:={r.t with id:=v}}):=h.j5 d 3 (by omega) c rfl
theorem aW.s4{l:List aF}{r:aF}(h:aW w b g (l.set p r))(d:p<l.length)(c:a=p*10+4):aW (w.setCell (g,a) (.int .i64 v)) b g (l.set p {r with t:={r.t with state:=v}}):=h.j5 d 4 (by omega) c rfl
theorem aW.s5{l:List aF}{r:aF}(h:aW w b g (l.set p r))(d:p<l.length)(c:a=p*10+5):aW (w.setCell (g,a) (.int .u64 v)) b g (l.set p {r with t:={r.t with home:=v}}):=h.j5 d 5 (by omega) c rfl
theorem aW.s6{l:List aF}{r:aF}(h:aW w b g (l.set p r))(d:p<l.length)(c:a=p*10+6):aW (w.setCell (g,a) (.int .u64 v)) b g (l.set p {r with t:={r.t with value:=v}}):=h.j5 d 6 (by omega) c rfl
theorem aW.s7{l:List aF}{r:aF}(h:aW w b g (l.set p r))(d:p<l.length)(c:a=p*10+7):aW (w.setCell (g,a) (.int .u64 v)) b g (l.set p {r with t:={r.t with bH:=v}}):=h.j5 d 7 (by omega) c rfl
theorem aW.s8{l:List aF}{r:aF}(h:aW w b g (l.set p r))(d:p<l.length){v:Bool}(c:a=p*10+8):aW (w.setCell (g,a) (.bool v)) b g (l.set p {r with t:={r.t with loose:=v}}):=h.j5 d 8 (by omega) c rfl
theorem aW.s9{l:List aF}{r:aF}(h:aW w b g (l.set p r))(d:p<l.length){v:Bool}(c:a=p*10+9):aW (w.setCell (g,a) (.bool v)) b g (l.set p {r with t:={r.t with aG:=v}}):=h.j5 d 9 (by omega) c rfl
def aF.gone(r:aF):aF:={times:=r.times,taken:=false,bL:=false,t:=iD.zero}
def Fv(b g:Nat)(l':List aF)(w:World)(e:Ending)(w':World):Prop:=e=.returned (.tuple #[])/\aW w' b g l'/\Ch (aH g) w w'
theorem iG(b g p:Nat)(l:List aF)(r:aF)(w:World)(h:aW w b g l)(d:l[p]?=some r):Calls prog 216 #[(g,p*10)] w (Fv b g (l.set p r.gone) w):=by
 obtain⟨i,j,k,m,n,o,q,s,t,u,fr,x⟩:=h.cells d;obtain⟨f,c⟩:=h.start d;have e:=Z f;go_wp2
 go_end0
 refine⟨rfl,?_,?_⟩
 ·exact((((((((e.s1 c rfl).s2 c rfl).s3 c rfl).s4 c rfl).s5 c rfl).s6 c rfl).s7 c rfl).s8 c rfl).s9 c rfl
 ·exact ay
def hJ(l:List aF)(id c:Int):Bool×List aF:=
 match d' l id with
 |none=>(false,l)
 |some p=>match l[p]? with
  |none=>(false,l)
  |some r=>if c==0 then(false,l)else if r.t.bH !=0||r.t.loose then(false,l)else(true,l.set p {r with t:={r.t with bH:=c}})
def e8(l:List aF)(id:Int):Bool×List aF:=
 match d' l id with
 |none=>(false,l)
 |some p=>match l[p]? with
  |none=>(false,l)
  |some r=>if r.t.bH !=0||r.t.loose then(false,l)else if r.t.state==4&& !r.t.aG then(true,l.set p r.gone)else(true,l.set p {r with t:={r.t with loose:=true}})
def gi(l:List aF)(id v:Int):Bool×List aF:=
 match d' l id with
 |none=>(false,l)
 |some p=>match l[p]? with
  |none=>(false,l)
  |some r=>if r.t.state==4 then(false,l)else(true,l.set p {r with t:={r.t with state:=4,value:=v,aG:=true}})
def eN(l:List aF)(id:Int):Bool×List aF:=
 match d' l id with
 |none=>(false,l)
 |some p=>match l[p]? with
  |none=>(false,l)
  |some r=>if !r.t.aG then(false,l)else if r.t.loose||r.bL then(true,l.set p r.gone)else(true,l.set p {r with t:={r.t with aG:=false}})
theorem rG(b g:Nat)(l:List aF)(id c:Int)(hid:aK id)(w:World)(h:aW w b g l):
 Calls prog 179 #[(b,0),.int .u64 id,.int .u64 c] w (ny (hJ l id c).1 b g (hJ l id c).2 w):=by
 have i:=Z h;have d:=Z (fc b g l id hid w h);cases f:d' l id with
 |none=>
  have E:Hid (hJ l id c=(false,l)):=Z (by unfold hJ;rw[f]);rw[f]at d;go_in
  go_wp2_with (first|(go_at_call 134;refine d.mono ?_;rintro e w' ⟨rfl,rfl⟩;simp only[b6])|(go_at_call 77;refine(a6 _ _ _).mono ?_;rintro e w' ⟨rfl,rfl⟩))
  go_ret;rw[E];exact⟨⟨_,rfl,ar.mk _ _⟩,i.alloc _,ay⟩
 |some p=>
  obtain⟨-,r,j,-,-⟩:=ei f;obtain⟨x,y,z,A,B,C,D,F,G,H,fr,I⟩:=h.cells j;obtain⟨q,o⟩:=h.start j;have E:Hid (hJ l id c=if c==0 then(false,l)else if r.t.bH !=0||r.t.loose then(false,l)else(true,l.set p {r with t:={r.t with bH:=c}})):=Z (by unfold hJ;rw[f];simp only[j]);have u:=Z j;have n:=Z q;rw[f]at d;obtain⟨times,taken,J,⟨tid,state,home,value,s,loose,K⟩⟩:=r;dsimp only at*;cases k:c==0
  ·cases m:s !=0
   ·cases loose
    ·rw[k,m]at E
     go_in
     go_wp2_with (first|(go_at_call 134;refine d.mono ?_;rintro e w' ⟨rfl,rfl⟩;simp only[b6])|(go_at_call 77;refine(a6 _ _ _).mono ?_;rintro e w' ⟨rfl,rfl⟩))
     go_ret;rw[E];exact⟨⟨_,rfl,rfl⟩,n.s7 o (by omega),ay⟩
    ·rw[k,m]at E
     go_in
     go_wp2_with (first|(go_at_call 134;refine d.mono ?_;rintro e w' ⟨rfl,rfl⟩;simp only[b6])|(go_at_call 77;refine(a6 _ _ _).mono ?_;rintro e w' ⟨rfl,rfl⟩))
     go_ret;rw[E];exact⟨⟨_,rfl,ar.mk _ _⟩,i.alloc _,ay⟩
   ·rw[k,m]at E
    go_in
    go_wp2_with (first|(go_at_call 134;refine d.mono ?_;rintro e w' ⟨rfl,rfl⟩;simp only[b6])|(go_at_call 77;refine(a6 _ _ _).mono ?_;rintro e w' ⟨rfl,rfl⟩))
    go_ret;rw[E];exact⟨⟨_,rfl,ar.mk _ _⟩,i.alloc _,ay⟩
  ·rw[k]at E
   go_in
   go_wp2_with (first|(go_at_call 134;refine d.mono ?_;rintro e w' ⟨rfl,rfl⟩;simp only[b6])|(go_at_call 77;refine(a6 _ _ _).mono ?_;rintro e w' ⟨rfl,rfl⟩))
   go_ret;rw[E];exact⟨⟨_,rfl,ar.mk _ _⟩,i.alloc _,ay⟩
theorem tW(b g:Nat)(l:List aF)(id v:Int)(hid:aK id)(w:World)(h:aW w b g l):
 Calls prog 155 #[(b,0),.int .u64 id,.int .u64 v] w (ny (gi l id v).1 b g (gi l id v).2 w):=by
 have j:=Z h;have c:=Z (fc b g l id hid w h);cases d:d' l id with
 |none=>
  have E:Hid (gi l id v=(false,l)):=Z (by unfold gi;rw[d]);rw[d]at c;go_in
  go_wp2_with (first|(go_at_call 134;refine c.mono ?_;rintro e w' ⟨rfl,rfl⟩;simp only[b6])|(go_at_call 77;refine(a6 _ _ _).mono ?_;rintro e w' ⟨rfl,rfl⟩))
  go_ret;rw[E];exact⟨⟨_,rfl,ar.mk _ _⟩,j.alloc _,ay⟩
 |some p=>
  obtain⟨-,r,f,-,-⟩:=ei d;obtain⟨q,s,u,x,y,z,A,B,C,D,fr,F⟩:=h.cells f;obtain⟨n,i⟩:=h.start f;have E:Hid (gi l id v=if r.t.state==4 then(false,l)else(true,l.set p {r with t:={r.t with state:=4,value:=v,aG:=true}})):=Z (by unfold gi;rw[d];simp only[f]);have o:=Z f;have m:=Z n;rw[d]at c;obtain⟨times,taken,H,⟨tid,state,home,value,G,loose,I⟩⟩:=r;dsimp only at*;cases k:state==4
  ·rw[k]at E
   go_in
   go_wp2_with (first|(go_at_call 134;refine c.mono ?_;rintro e w' ⟨rfl,rfl⟩;simp only[b6])|(go_at_call 77;refine(a6 _ _ _).mono ?_;rintro e w' ⟨rfl,rfl⟩))
   go_ret;rw[E];exact⟨⟨_,rfl,rfl⟩,((m.s4 i (by omega)).s6 i (by omega)).s9 i (by omega),ay⟩
  ·rw[k]at E
   go_in
   go_wp2_with (first|(go_at_call 134;refine c.mono ?_;rintro e w' ⟨rfl,rfl⟩;simp only[b6])|(go_at_call 77;refine(a6 _ _ _).mono ?_;rintro e w' ⟨rfl,rfl⟩))
   go_ret;rw[E];exact⟨⟨_,rfl,ar.mk _ _⟩,j.alloc _,ay⟩
variable{c d m:Nat}
structure aI where
 cells:List Int
 width:List Int
structure aO(w:World)(m c d:Nat)(S:aI):Prop where
 hd:∃t n:Int,Row w m 255 [.slice (some (c,0)) S.cells.length S.cells.length,.slice (some (d,0)) S.cells.length S.cells.length,t,n]
 cells:Row w c 22 (S.cells.map (Value.int .u64))
 width:Row w d 5 (S.width.map (Value.int .u8))
 len:S.width.length=S.cells.length
 qg:S.cells.length<=65536
 ok:∀(i:Nat) (x:Int),S.width[i]?=some x->0<=x/\x<=255
 u64:∀(i:Nat) (x:Int),S.cells[i]?=some x->aK x
theorem aO.head{S:aI}(h:aO w m c d S):Row w m 255 [.slice (some (c,0)) S.cells.length S.cells.length,.slice (some (d,0)) S.cells.length S.cells.length,.int .i64 h.hd.choose,.int .i64 h.hd.choose_spec.choose]:=h.hd.choose_spec.choose_spec
theorem aO.mc{S:aI}(h:aO w m c d S):m≠c:=h.head.ne h.cells (by decide)
theorem aO.md{S:aI}(h:aO w m c d S):m≠d:=h.head.ne h.width (by decide)
theorem aO.cd{S:aI}(h:aO w m c d S):c≠d:=h.cells.ne h.width (by decide)
theorem aO.alloc{S:aI}(h:aO w m c d S)(o:Obj):aO (w.alloc o) m c d S:=⟨⟨_,_,h.head.alloc o⟩,h.cells.alloc o,h.width.alloc o,h.len,h.qg,h.ok,h.u64⟩
theorem aO.drew{S:aI}(h:aO w m c d S):aO w.drew m c d S:=⟨h.hd,h.cells,h.width,h.len,h.qg,h.ok,h.u64⟩
theorem aO.drewN{S:aI}(h:aO w m c d S)(n:Nat):aO (w.drewN n) m c d S:=⟨h.hd,h.cells,h.width,h.len,h.qg,h.ok,h.u64⟩
theorem aO.ch{w':World}{D:Nat->Prop}{S:aI}(h:aO w m c d S)(k:Ch D w w')(e:¬D m)(a:¬D c)(b:¬D d):aO w' m c d S:=⟨⟨_,_,h.head.ch k e⟩,h.cells.ch k a,h.width.ch k b,h.len,h.qg,h.ok,h.u64⟩
theorem aO.count{S:aI}(h:aO w m c d S)(n:Int):aO (w.setCell (m,3) (.int .i64 n)) m c d S:=
 ⟨⟨_,_,h.head.bc _ _ rfl⟩,h.cells.other (fun e=>h.mc e.symm) _,h.width.other (fun e=>h.md e.symm) _,h.len,h.qg,h.ok,h.u64⟩
theorem aO.lay{S:aI}(h:aO w m c d S)(i:Nat)(v:Int)(f:aK v):aO (w.setCell (c,i) (.int .u64 v)) m c d {S with cells:=S.cells.set i v}:=
 ⟨⟨_,_,by simpa using h.head.other h.mc _⟩,h.cells.bc _ _ (by rw[List.map_set]),h.width.other (fun e=>h.cd e.symm) _,by simpa using h.len,by simpa using h.qg,h.ok,fun j x a=>by
  by_cases e:i=j
  ·subst e
   rw[List.getElem?_set_self']at a;cases b:S.cells[i]? with
   |none=>rw[b]at a;simp at a
   |some y=>rw[b]at a;have:v=x:=by simpa using a
            subst this;exact f
  ·rw[List.getElem?_set_ne e]at a;exact h.u64 j x a⟩
def aI.wid(S:aI)(at_:Int):Int:=S.width.getD at_.toNat 0
theorem dX(n:Int)(t:TypeId)(x:Value)(w:World):Calls prog 111 #[n,.iface t x] w (fun e w'=>e=.returned (.iface 185 (.pointer (some (w.heap.size,0))))/\w.alloc (.cells #[.string ⟨#[109,101,109]⟩,n,.iface t x] 187)=w'):=by
 go_wp2
 go_ret;exact⟨rfl,rfl⟩
theorem ps(m c d:Nat)(S:aI)(a:Int)(g:aK a)(w:World)(h:aO w m c d S):
 Calls prog 110 #[(m,0),.int .u64 a] w (ez (.int .i64 (S.wid a)) w):=by
 obtain⟨i,j⟩:=h.head.c2;have l:=h.qg;obtain⟨k,rfl⟩:=Int.eq_ofNat_of_zero_le g.lo;clear g;obtain⟨N,b⟩:=mn S.cells.length;rw[<-b]at i j l;by_cases n:k<N
 ·obtain⟨x,e⟩:∃x,S.width[k]?=some x:=⟨_,List.getElem?_eq_getElem (by rw[h.len,<-b];exact n)⟩
  have f:=h.ok k x e;have E:Hid (S.wid k=x):=Z (by unfold aI.wid;rw[Int.toNat_natCast,List.getD_eq_getElem?_getD,e];rfl);have q:w.cell? (d,k)=some (.int .u8 x):=h.width.cell (by rw[List.getElem?_map,e];rfl);have o:(k:Int)<N:=by omega
  have p:=f.1;have r:=f.2;clear h b e f;go_wp2
  go_ret;exact ez.mk (by rw[E];rfl)
 ·have E:Hid (S.wid k=0):=Z (by unfold aI.wid;rw[Int.toNat_natCast,List.getD_eq_getElem?_getD,List.getElem?_eq_none (by rw[h.len];omega)];rfl)
  have o:¬(k:Int)<N:=by omega
  clear h b;go_wp2
  go_ret;exact ez.mk (by rw[E];rfl)
def aI.acc(S:aI)(kind a b v:Int):Option Int×aI:=
 if S.wid a=0 then(none,S)else
 let held:=S.cells.getD a.toNat 0
 if kind=3 then(some held,{S with cells:=S.cells.set a.toNat (tV (S.wid a) held v)})
 else if kind=4 then
  if held=hk (S.wid a) b then(some held,{S with cells:=S.cells.set a.toNat (hk (S.wid a) v)})else(some held,S)
 else if kind=1∨kind=2 then(some held,{S with cells:=S.cells.set a.toNat (hk (S.wid a) v)})
 else(some held,S)
def dL(a b c:Nat):Nat->Prop:=fun i=>i=a∨i=b∨i=c
def lE(x:Option Int×aI)(m c d:Nat)(w:World)(e:Ending)(w':World):Prop:=
 (match x.1 with
  |some v=>e=.returned (.tuple #[.int .u64 v,.nilIface])
  |none=>∃v,e=.returned (.tuple #[.int .u64 0,v])/\ar v)/\aO w' m c d x.2/\Ch (cK m c) w w'
theorem aO.held{S:aI}(h:aO w m c d S){k:Nat}(b:k<S.cells.length):w.cell? (c,k)=some (.int .u64 (S.cells.getD k 0))/\aK (S.cells.getD k 0):=by
 have a:S.cells[k]?=some (S.cells.getD k 0):=by rw[List.getD_eq_getElem?_getD,List.getElem?_eq_getElem b];rfl
 exact⟨h.cells.cell (by rw[List.getElem?_map,a];rfl),h.u64 _ _ a⟩
theorem ho(m c d:Nat)(S:aI)(kind a l v:Int)(Q:kind=0∨kind=1∨kind=2∨kind=3∨kind=4)(H:aK a)(T:aK v)(w:World)(h:aO w m c d S):
 Calls prog 68 #[(m,0),kind,.int .u64 a,.int .u64 l,.int .u64 v] w (lE (S.acc kind a l v) m c d w):=by
 have o:=Z h;obtain⟨z,A⟩:=h.head.c2;obtain⟨u,D⟩:∃u:Int,w.cell? (m,3)=some (.int .i64 u):=⟨_,h.head.cell (i:=3) rfl⟩;have f3:=h.head.free 3;have V:=h.qg;have I:=h.mc;have a5:=h.head.lt;have a2:=h.cells.lt;obtain⟨k,rfl⟩:=Int.eq_ofNat_of_zero_le H.lo;have p:=Z (fun w h=>ps m c d S k H w h);have a0:=Z H;have K:=Z T;clear H T;obtain⟨N,G⟩:=mn S.cells.length;obtain⟨j,s⟩:=nm (S.wid k);rw[s]at p;rw[<-G]at z A V;by_cases B:j=0
 ·subst B
  have E:Hid (S.acc kind k l v=(none,S)):=Z (by unfold aI.acc;rw[if_pos s]);clear h s G Q;have X:(k:Int)<=4611686018427387904∨¬(k:Int)<=4611686018427387904:=by omega
  rcases X with Y|Y
  all_goals
   go_in
   go_wp2_with (first|(go_at_call 110;refine(p _ o).mono ?_;rintro e w' ⟨rfl,rfl⟩)|(go_at_call 111;refine(dX _ _ _ _).mono ?_;rintro e w' ⟨rfl,rfl⟩))
   go_ret2;rw[E];exact⟨⟨_,rfl,ar.mk _ _⟩,o.alloc _,ay⟩
 ·have a4:k<N:=by
   rcases Nat.lt_or_ge k N with O|O
   ·exact O
   ·exact absurd (by rw[<-s];unfold aI.wid;rw[Int.toNat_natCast,List.getD_eq_getElem?_getD,List.getElem?_eq_none (by rw[h.len];omega)];rfl) B
  obtain⟨q,R⟩:=h.held (k:=k) (by omega);have F:=h.cells.free k;have a9:(j==0)=false:=by rw[beq_eq_false_iff_ne];exact B
  have a3:(k:Int)<N:=by omega
  have E:Hid (S.acc kind k l v=let held:=S.cells.getD k 0
   if kind=3 then(some held,{S with cells:=S.cells.set k (tV j held v)})
   else if kind=4 then
    if held=hk j l then(some held,{S with cells:=S.cells.set k (hk j v)})else(some held,S)
   else if kind=1∨kind=2 then(some held,{S with cells:=S.cells.set k (hk j v)})
   else(some held,S)):=Z (by unfold aI.acc;rw[if_neg (by rw[s];exact B),s,Int.toNat_natCast])
  obtain⟨held,P⟩:=nm (S.cells.getD k 0);rw[P]at q E;have a1:=Z R;have t:=Z (fun n=>h.count n);have C:=Z G;clear h s G B P R;have y:=Z (fun v w=>ky j v w);have U:=Z (fun a b w=>qf j a b w);rcases Q with rfl|rfl|rfl|rfl|rfl
  ·go_in
   go_wp2_with (go_at_call 110;refine(p _ o).mono ?_;rintro e w' ⟨rfl,rfl⟩)
   go_ret2;rw[E];exact⟨rfl,t _,ay⟩
  ·go_in
   go_wp2_with (go_at_call 110;refine(p _ o).mono ?_;rintro e w' ⟨rfl,rfl⟩)
   obtain⟨w1,f⟩:=nm (w.setCell (m,3) (.int .i64 (wrap64 (u+1))));rw[f];have g:Hid (aO w1 m c d S):=Z (by rw[<-f];exact t _);have r:Hid (Ch (cK m c) w w1):=Z (by rw[<-f];exact ay);have d0:w1.cell? (m,0)=some (.slice (some (c,0)) N N):=(by rw[C];exact g.head.cell (i:=0) rfl);have M:w1.cell? (c,k)=some (.int .u64 held):=(by rw[<-f,World.cell?_setCell_other _ _ _ _ (by intro e;exact I (congrArg Addr.block e))];exact q);have L:=g.cells.free k;clear f q F z A D f3;refine wp_region_still_tail 8 (by kernel_rfl) (by kernel_rfl) ?_;simp only[List.take_succ_cons,List.take_zero,List.drop_succ_cons,List.drop_zero]
   repeat still_step
   still_call (b5 (y _ _))
   repeat still_step
   try refine wpStill_nil ?_
   change wpList _ _ _ _ _ w1.drew;go_wp2
   go_ret2;rw[E];exact⟨rfl,g.drew.lay k _ (iF _ _ K),r.drew.mr _ _⟩
  ·go_in
   go_wp2_with (go_at_call 110;refine(p _ o).mono ?_;rintro e w' ⟨rfl,rfl⟩)
   obtain⟨w1,f⟩:=nm (w.setCell (m,3) (.int .i64 (wrap64 (u+1))));rw[f];have g:Hid (aO w1 m c d S):=Z (by rw[<-f];exact t _);have r:Hid (Ch (cK m c) w w1):=Z (by rw[<-f];exact ay);have d0:w1.cell? (m,0)=some (.slice (some (c,0)) N N):=(by rw[C];exact g.head.cell (i:=0) rfl);have M:w1.cell? (c,k)=some (.int .u64 held):=(by rw[<-f,World.cell?_setCell_other _ _ _ _ (by intro e;exact I (congrArg Addr.block e))];exact q);have L:=g.cells.free k;clear f q F z A D f3;refine wp_region_still_tail 8 (by kernel_rfl) (by kernel_rfl) ?_;simp only[List.take_succ_cons,List.take_zero,List.drop_succ_cons,List.drop_zero]
   repeat still_step
   still_call (b5 (y _ _))
   repeat still_step
   try refine wpStill_nil ?_
   change wpList _ _ _ _ _ w1.drew;go_wp2
   go_ret2;rw[E];exact⟨rfl,g.drew.lay k _ (iF _ _ K),r.drew.mr _ _⟩
  ·go_in
   go_wp2_with (go_at_call 110;refine(p _ o).mono ?_;rintro e w' ⟨rfl,rfl⟩)
   obtain⟨w1,f⟩:=nm (w.setCell (m,3) (.int .i64 (wrap64 (u+1))));rw[f];have g:Hid (aO w1 m c d S):=Z (by rw[<-f];exact t _);have r:Hid (Ch (cK m c) w w1):=Z (by rw[<-f];exact ay);have d0:w1.cell? (m,0)=some (.slice (some (c,0)) N N):=(by rw[C];exact g.head.cell (i:=0) rfl);have M:w1.cell? (c,k)=some (.int .u64 held):=(by rw[<-f,World.cell?_setCell_other _ _ _ _ (by intro e;exact I (congrArg Addr.block e))];exact q);have L:=g.cells.free k;clear f q F z A D f3;refine wp_region_still_tail 9 (by kernel_rfl) (by kernel_rfl) ?_;simp only[List.take_succ_cons,List.take_zero,List.drop_succ_cons,List.drop_zero]
   repeat still_step
   still_call (b5 (U _ _ _))
   repeat still_step
   try refine wpStill_nil ?_
   change wpList _ _ _ _ _ w1.drew;go_wp2
   go_ret2;rw[E];exact⟨rfl,g.drew.lay k _ (m9 _ _ _),r.drew.mr _ _⟩
  ·by_cases x:held=hk j l
   ·have W:(held !=hk j l)=false:=by rw[bne_eq_false_iff_eq];exact x
    have J:Hid (S.acc 4 k l v=(some held,{S with cells:=S.cells.set k (hk j v)})):=Z (by rw[E];simp only[if_pos x];rfl);clear x;go_in
    go_wp2_with (first|(go_at_call 110;refine(p _ o).mono ?_;rintro e w' ⟨rfl,rfl⟩)|(go_at_call 113;refine(y _ _).mono ?_;rintro e w' ⟨rfl,rfl⟩))
    obtain⟨w1,f⟩:=nm (w.setCell (m,3) (.int .i64 (wrap64 (u+1))));rw[f];have g:Hid (aO w1 m c d S):=Z (by rw[<-f];exact t _);have r:Hid (Ch (cK m c) w w1):=Z (by rw[<-f];exact ay);have d0:w1.cell? (m,0)=some (.slice (some (c,0)) N N):=(by rw[C];exact g.head.cell (i:=0) rfl);have M:w1.cell? (c,k)=some (.int .u64 held):=(by rw[<-f,World.cell?_setCell_other _ _ _ _ (by intro e;exact I (congrArg Addr.block e))];exact q);have L:=g.cells.free k;clear f q F z A D f3;refine wp_region_still_tail 8 (by kernel_rfl) (by kernel_rfl) ?_;simp only[List.take_succ_cons,List.take_zero,List.drop_succ_cons,List.drop_zero]
    repeat still_step
    still_call (b5 (y _ _))
    repeat still_step
    try refine wpStill_nil ?_
    change wpList _ _ _ _ _ w1.drew;go_wp2
    go_ret2;rw[J];exact⟨rfl,g.drew.lay k _ (iF _ _ K),r.drew.mr _ _⟩
   ·have W:(held !=hk j l)=true:=by rw[bne_iff_ne];exact x
    have J:Hid (S.acc 4 k l v=(some held,S)):=Z (by rw[E];simp only[if_neg x];rfl);clear x;go_in
    go_wp2_with (first|(go_at_call 110;refine(p _ o).mono ?_;rintro e w' ⟨rfl,rfl⟩)|(go_at_call 113;refine(y _ _).mono ?_;rintro e w' ⟨rfl,rfl⟩))
    go_ret2;rw[J];exact⟨rfl,t _,ay⟩
variable{S:aI}{n:Nat}
theorem ji(m c d:Nat)(S:aI)(a:Int)(k:aK a)(w:World)(h:aO w m c d S):
 Calls prog 34 #[(m,0),.int .u64 a] w (lE (S.acc 0 a 0 0) m c d w):=by
 have g:=Z (ho m c d S 0 a 0 0 (by omega) k ⟨by omega,by omega⟩ w h);clear h k;rcases l:S.acc 0 a 0 0 with⟨_|held,S'⟩
 all_goals
  rw[l]at g;clear l
 ·go_in
  go_wp2_with (go_at_call 68;refine g.mono ?_;rintro e w' ⟨⟨v,rfl,o⟩,f,b⟩;obtain⟨t,x,rfl⟩:=o;have j:=Z f;have i:=Z b;clear f b)
  go_ret2;exact⟨⟨_,rfl,ar.mk _ _⟩,j,i⟩
 ·go_in
  go_wp2_with (go_at_call 68;refine g.mono ?_;rintro e w' ⟨rfl,f,b⟩;have j:=Z f;have i:=Z b;clear f b)
  go_ret2;exact⟨rfl,j,i⟩
theorem mw(m c d:Nat)(S:aI)(a v:Int)(l:aK a)(g:aK v)(w:World)(h:aO w m c d S):
 Calls prog 246 #[(m,0),.int .u64 a,.int .u64 v] w (lE (S.acc 2 a 0 v) m c d w):=by
 have i:=Z (ho m c d S 2 a 0 v (by omega) l g w h);clear h l g;rcases o:S.acc 2 a 0 v with⟨_|held,S'⟩
 all_goals
  rw[o]at i;clear o
 ·go_in
  go_wp2_with (go_at_call 68;refine i.mono ?_;rintro e w' ⟨⟨v,rfl,g⟩,f,b⟩;obtain⟨t,x,rfl⟩:=g;have k:=Z f;have j:=Z b;clear f b)
  go_ret2;exact⟨⟨_,rfl,ar.mk _ _⟩,k,j⟩
 ·go_in
  go_wp2_with (go_at_call 68;refine i.mono ?_;rintro e w' ⟨rfl,f,b⟩;have k:=Z f;have j:=Z b;clear f b)
  go_ret2;exact⟨rfl,k,j⟩
theorem nz(m c d:Nat)(S:aI)(a v:Int)(l:aK a)(g:aK v)(w:World)(h:aO w m c d S):
 Calls prog 99 #[(m,0),.int .u64 a,.int .u64 v] w (lE (S.acc 3 a 0 v) m c d w):=by
 have i:=Z (ho m c d S 3 a 0 v (by omega) l g w h);clear h l g;rcases o:S.acc 3 a 0 v with⟨_|held,S'⟩
 all_goals
  rw[o]at i;clear o
 ·go_in
  go_wp2_with (go_at_call 68;refine i.mono ?_;rintro e w' ⟨⟨v,rfl,g⟩,f,b⟩;obtain⟨t,x,rfl⟩:=g;have k:=Z f;have j:=Z b;clear f b)
  go_ret2;exact⟨⟨_,rfl,ar.mk _ _⟩,k,j⟩
 ·go_in
  go_wp2_with (go_at_call 68;refine i.mono ?_;rintro e w' ⟨rfl,f,b⟩;have k:=Z f;have j:=Z b;clear f b)
  go_ret2;exact⟨rfl,k,j⟩
theorem nA(m c d:Nat)(S:aI)(a i v:Int)(o:aK a)(g:aK v)(w:World)(h:aO w m c d S):
 Calls prog 180 #[(m,0),.int .u64 a,.int .u64 i,.int .u64 v] w (lE (S.acc 4 a i v) m c d w):=by
 have j:=Z (ho m c d S 4 a i v (by omega) o g w h);clear h o g;rcases p:S.acc 4 a i v with⟨_|held,S'⟩
 all_goals
  rw[p]at j;clear p
 ·go_in
  go_wp2_with (go_at_call 68;refine j.mono ?_;rintro e w' ⟨⟨v,rfl,g⟩,f,b⟩;obtain⟨t,x,rfl⟩:=g;have l:=Z f;have k:=Z b;clear f b)
  go_ret2;exact⟨⟨_,rfl,ar.mk _ _⟩,l,k⟩
 ·go_in
  go_wp2_with (go_at_call 68;refine j.mono ?_;rintro e w' ⟨rfl,f,b⟩;have l:=Z f;have k:=Z b;clear f b)
  go_ret2;exact⟨rfl,l,k⟩
def qh(ok:Bool)(e:Ending):Prop:=∃v,e=.returned v/\(if ok then v=.nilIface else ar v)
theorem eB(m c d:Nat)(S:aI)(a v:Int)(l:aK a)(g:aK v)(w:World)(h:aO w m c d S):
 Calls prog 81 #[(m,0),.int .u64 a,.int .u64 v] w (fun e w'=>qh (S.acc 1 a 0 v).1.isSome e/\aO w' m c d (S.acc 1 a 0 v).2/\Ch (cK m c) w w'):=by
 have i:=Z (ho m c d S 1 a 0 v (by omega) l g w h);clear h l g;rcases o:S.acc 1 a 0 v with⟨_|held,S'⟩
 all_goals
  rw[o]at i;clear o
 ·go_in
  go_wp2_with (go_at_call 68;refine i.mono ?_;rintro e w' ⟨⟨v,rfl,g⟩,f,b⟩;obtain⟨t,x,rfl⟩:=g;have k:=Z f;have j:=Z b;clear f b)
  go_ret;exact⟨⟨_,rfl,ar.mk _ _⟩,k,j⟩
 ·go_in
  go_wp2_with (go_at_call 68;refine i.mono ?_;rintro e w' ⟨rfl,f,b⟩;have k:=Z f;have j:=Z b;clear f b)
  go_ret;exact⟨⟨_,rfl,rfl⟩,k,j⟩
def aI.jj(S:aI)(a n:Nat)(there:Bool):Bool:=decide (a+n<=S.cells.length)&&(List.range n).all fun i=>(S.width.getD (a+i) 0 !=0)==there
theorem jN{there:Bool}(h:S.jj a n there=true):a+n<=S.cells.length/\∀i,i<n->(S.width.getD (a+i) 0 !=0)=there:=by
 unfold aI.jj at h;rw[Bool.and_eq_true,decide_eq_true_eq,List.all_eq_true]at h;exact⟨h.1,fun i b=>by simpa using h.2 i (List.mem_range.2 b)⟩
theorem BK{there:Bool}(b:a+n<=S.cells.length)(c:∀i,i<n->(S.width.getD (a+i) 0 !=0)=there):S.jj a n there=true:=by
 unfold aI.jj;rw[Bool.and_eq_true,decide_eq_true_eq,List.all_eq_true];exact⟨b,fun i d=>by simpa using c i (List.mem_range.1 d)⟩
theorem vH{there:Bool}{i:Nat}(b:i<n)(h:(S.width.getD (a+i) 0 !=0)≠there):S.jj a n there=false:=by
 cases hb:S.jj a n there
 ·rfl
 ·exact absurd ((jN hb).2 i b) h
theorem j7(m c d:Nat)(S:aI)(a n:Nat)(there:Bool)(I:a<=1000000)(Q:n<=1000000)(w:World)(h:aO w m c d S):
 Calls prog 123 #[(m,0),.int .i64 a,.int .i64 n,.bool there] w (fun e w'=>qh (S.jj a n there) e/\Ch ag w w'):=by
 obtain⟨C,D⟩:=h.head.c2;have F:=h.qg;have P:=h.head.lt;have J:=h.width.lt;obtain⟨N,l⟩:=mn S.cells.length;rw[<-l]at C D F;by_cases z:a+n<=N
 ·have A:Hid (∀j,j<n->w.cell? ⟨d,a+j,none⟩=some (.int .u8 (S.width.getD (a+j) 0))/\0<=S.width.getD (a+j) 0/\S.width.getD (a+j) 0<=255):=Z (fun j o=>by
   have g:S.width[a+j]?=some (S.width.getD (a+j) 0):=(by rw[List.getD_eq_getElem?_getD,List.getElem?_eq_getElem (by rw[h.len,<-l];omega)];rfl);exact⟨h.width.cell (by rw[List.getElem?_map,g];rfl),h.ok _ _ g⟩)
  have B:=Z l;have R:(a:Int)+n<=N:=by omega
  have E:¬((N:Int)-a<n):=by omega
  clear h l z;go_wp2
  go_loop [9] (fun s=>∃k:Nat,s=.int .i64 ((a+k:Nat):Int)/\k<=n/\Hid (∀j,j<k->(S.width.getD (a+j) 0 !=0)=there)) (fun s=>a+n-(intOf s).toNat)
  case atStart=>exact⟨0,by go_num,Nat.zero_le _,fun j o=>absurd o (Nat.not_lt_zero _)⟩
  case round=>
   obtain⟨k,rfl,M,r⟩:=hrel;by_cases v:k<n
   ·obtain⟨q,G,H⟩:=A k v
    obtain⟨x,g⟩:=nm (S.width.getD (a+k) 0);rw[g]at q G H;have p:=Z g;clear g;obtain⟨i,f⟩:=mn (a+k);rw[<-f]at q⊢;have K:(i:Int)<a+n:=(by omega);have L:(i:Int)<N:=(by omega);have y:=Z f;cases hb:(x !=0)
    ·cases there
     ·skip
      have t:Hid (∀j,j<k+1->(S.width.getD (a+j) 0 !=0)=false):=Z (fun j o=>by
       by_cases u:j=k
       ·subst u;rw[p];exact hb
       ·exact r j (by omega))
      clear f;go_wp2
      go_round
      case rel=>exact⟨k+1,by rw[show a+(k+1)=i+1 from by have:=y.out;omega];go_num,by omega,t⟩
      case measure=>simp[intOf];omega
     ·skip
      have b:Hid (S.jj a n true=false):=Z (vH v (by rw[p,hb];decide));clear f;go_wp2_with (go_at_call 111;refine(dX _ _ _ _).mono ?_;rintro e w' ⟨rfl,rfl⟩)
      go_ret;rw[b];exact⟨⟨_,rfl,ar.mk _ _⟩,ay⟩
    ·cases there
     ·skip
      have b:Hid (S.jj a n false=false):=Z (vH v (by rw[p,hb];decide));clear f;go_wp2_with (go_at_call 111;refine(dX _ _ _ _).mono ?_;rintro e w' ⟨rfl,rfl⟩)
      go_ret;rw[b];exact⟨⟨_,rfl,ar.mk _ _⟩,ay⟩
     ·skip
      have t:Hid (∀j,j<k+1->(S.width.getD (a+j) 0 !=0)=true):=Z (fun j o=>by
       by_cases u:j=k
       ·subst u;rw[p];exact hb
       ·exact r j (by omega))
      clear f;go_wp2
      go_round
      case rel=>exact⟨k+1,by rw[show a+(k+1)=i+1 from by have:=y.out;omega];go_num,by omega,t⟩
      case measure=>simp[intOf];omega
   ·have O:¬(((a+k:Nat):Int)<a+n):=by omega
    have b:Hid (S.jj a n there=true):=Z (BK (by rw[<-B];omega) (fun j o=>r j (by omega)));go_wp2
    go_ret;rw[b];exact⟨⟨_,rfl,rfl⟩,Ch.refl _ _⟩
 ·have b:Hid (S.jj a n there=false):=Z (by
   cases hb:S.jj a n there
   ·rfl
   ·exact absurd (jN hb).1 (by omega))
  have E:(N:Int)-a<n:=by omega
  clear h l z;go_in
  go_wp2_with (go_at_call 111;refine(dX _ _ _ _).mono ?_;rintro e w' ⟨rfl,rfl⟩)
  go_ret;rw[b];exact⟨⟨_,rfl,ar.mk _ _⟩,ay⟩
variable{v:World}
def ax(l:List Int)(a:Nat)(v:Int):Nat->List Int
 |0=>l
 |k+1=>(ax l a v k).set (a+k) v
theorem dt(l:List Int)(a:Nat)(v:Int):∀k,(ax l a v k).length=l.length
 |0=>rfl
 |k+1=>by rw[ax,List.length_set,dt l a v k]
theorem aO.DU(h:aO w m c d S)(i:Nat)(v:Int)(k:0<=v/\v<=255):aO (w.setCell (d,i) (.int .u8 v)) m c d {S with width:=S.width.set i v}:=
 ⟨⟨_,_,h.head.other h.md _⟩,h.cells.other h.cd _,h.width.bc _ _ (by rw[List.map_set]),by simpa using h.len,h.qg,fun j x f=>by
  by_cases e:i=j
  ·subst e
   rw[List.getElem?_set_self']at f;cases g:S.width[i]? with
   |none=>rw[g]at f;simp at f
   |some y=>rw[g]at f;have:v=x:=by simpa using f
            subst this;exact k
  ·rw[List.getElem?_set_ne e]at f;exact h.ok j x f,h.u64⟩
theorem aO.there(h:aO w m c d S)(n:Int):aO (w.setCell (m,2) (.int .i64 n)) m c d S:=
 ⟨⟨_,_,h.head.bc _ _ rfl⟩,h.cells.other (fun e=>h.mc e.symm) _,h.width.other (fun e=>h.md e.symm) _,h.len,h.qg,h.ok,h.u64⟩
def aI.laid(S:aI)(a n:Nat)(e:Int):aI:={S with width:=ax S.width a e n,cells:=ax S.cells a 0 n}
def aI.map(S:aI)(a n:Nat)(e:Int):Bool×aI:=
 if n≠0/\S.jj a n false=true then(true,S.laid a n e)else(false,S)
def aI.gj(S:aI)(a n:Nat):Bool×aI:=
 if n≠0/\S.jj a n true=true then(true,S.laid a n 0)else(false,S)
def tX(x:Bool×aI)(m c d:Nat)(w:World)(e:Ending)(w':World):Prop:=qh x.1 e/\aO w' m c d x.2/\Ch (dL m c d) w w'
theorem Ch.GJ(h:Ch (dL a b c) v w)(o:Nat)(x:Value):Ch (dL a b c) v (w.setCell (a,o) x):=h.hj (p:=⟨a,o,none⟩) (show a=a∨a=b∨a=c from Or.inl rfl) x
theorem Ch.GK(h:Ch (dL a b c) v w)(o:Nat)(x:Value):Ch (dL a b c) v (w.setCell (b,o) x):=h.hj (p:=⟨b,o,none⟩) (show b=a∨b=b∨b=c from Or.inr (Or.inl rfl)) x
theorem Ch.GL(h:Ch (dL a b c) v w)(o:Nat)(x:Value):Ch (dL a b c) v (w.setCell (c,o) x):=h.hj (p:=⟨c,o,none⟩) (show c=a∨c=b∨c=c from Or.inr (Or.inr rfl)) x
theorem kB(m c d:Nat)(S:aI)(a n:Nat)(M:a<=1000000)(V:n<=1000000)(w:World)(h:aO w m c d S):
 Calls prog 80 #[(m,0),.int .i64 a,.int .i64 n,.int .i64 32] w (tX (S.map a n 32) m c d w):=by
 have y:=Z h;have q:=Z (j7 m c d S a n false M V w h);by_cases r:n=0
 ·subst r
  have E:Hid (S.map a 0 32=(false,S)):=Z (by unfold aI.map;rw[if_neg (by simp)]);clear h;go_in
  go_wp2_with (go_at_call 111;refine(dX _ _ _ _).mono ?_;rintro e w' ⟨rfl,rfl⟩)
  go_ret;rw[E];exact⟨⟨_,rfl,ar.mk _ _⟩,y.alloc _,ay⟩
 have al:(1:Int)<=n:=by omega
 cases g:S.jj a n false
 ·have E:Hid (S.map a n 32=(false,S)):=Z (by unfold aI.map;rw[if_neg (by rw[g];simp)])
  rw[g]at q;clear h g r
  all_goals
   go_in
   go_wp2_with (first|(go_at_call 123;refine q.mono ?_;rintro e w1 ⟨⟨v,rfl,C⟩,j⟩;obtain⟨t,x,rfl⟩:=C;have o:=Z j;clear j)|(go_at_call 111;refine(dX _ _ _ _).mono ?_;rintro e w' ⟨rfl,rfl⟩))
   go_ret;rw[E];exact⟨⟨_,rfl,ar.mk _ _⟩,y.ch o id id id,o.af⟩
 ·have Q:=(jN g).1
  have E:Hid (S.map a n 32=(true,S.laid a n 32)):=Z (by unfold aI.map;rw[if_pos ⟨r,g⟩]);rw[g]at q;obtain⟨N,z⟩:=mn S.cells.length;have O:=h.qg;rw[<-z]at O Q;have p:=Z z;clear h g r z
  all_goals
   go_in
   go_wp2_with fail
   refine q.mono ?_;rintro e w1 ⟨⟨v,rfl,C⟩,j⟩;obtain rfl:v=.nilIface:=C;have J:=Z (y.ch j id id id);have o:=Z (j.af (D:=dL m c d));clear j;go_wp2
   go_loopw [10] (fun s wr=>∃k:Nat,s=.int .i64 ((a+k:Nat):Int)/\k<=n/\Hid (aO wr m c d (S.laid a k 32)/\Ch (dL m c d) w wr)) (fun s _=>a+n-(intOf s).toNat)
   case atStart=>exact⟨0,by go_num,Nat.zero_le _,J,o⟩
   case round=>
    obtain⟨k,rfl,a4,l⟩:=hrel;have f:=l.1;have W:wr.cell? (m,0)=some (.slice (some (c,0)) N N):=(by have:=f.head.cell (i:=0) rfl;rwa [show(S.laid a k 32).cells.length=N from by unfold aI.laid;rw[dt];exact p.symm]at this);have X:wr.cell? (m,1)=some (.slice (some (d,0)) N N):=(by have:=f.head.cell (i:=1) rfl;rwa [show(S.laid a k 32).cells.length=N from by unfold aI.laid;rw[dt];exact p.symm]at this);obtain⟨G,K⟩:∃G:Int,wr.cell? (m,2)=some (.int .i64 G):=⟨_,f.head.cell (i:=2) rfl⟩;have f2:=f.head.free 2;have T:=f.mc;have U:=f.md;have P:=f.cd;by_cases a9:k<n
    ·obtain⟨i,A⟩:=mn (a+k)
     have H:∃u,wr.cell? (c,i)=some u:=by
      have B:(S.laid a k 32).cells.length=N:=(by unfold aI.laid;rw[dt];exact p.symm);exact⟨_,f.cells.cell (by rw[List.getElem?_map,List.getElem?_eq_getElem (by rw[B];omega)];rfl)⟩
     have I:∃u,wr.cell? (d,i)=some u:=by
      have B:(S.laid a k 32).width.length=N:=(by rw[f.len];unfold aI.laid;rw[dt];exact p.symm);exact⟨_,f.width.cell (by rw[List.getElem?_map,List.getElem?_eq_getElem (by rw[B];omega)];rfl)⟩
     obtain⟨u1,H⟩:=H;obtain⟨u2,I⟩:=I;have Y:=f.cells.free i;have a0:=f.width.free i;have a2:(i:Int)<a+n:=(by omega);have a3:(i:Int)<N:=(by omega);have F:=Z A;rw[<-A];have a1:d≠c:=(fun e=>P e.symm);have ab:c≠m:=(fun e=>T e.symm);have ad:d≠m:=(fun e=>U e.symm);clear A f K f2;go_wp2
     go_roundw
     case rel=>
      refine⟨k+1,by rw[show a+(k+1)=i+1 from by have:=F.out;omega];go_num,by omega,?_,?_⟩
      ·have L:=F.out
       subst L;exact(l.1.DU (a+k) 32 (by omega)).lay (a+k) 0 ⟨by omega,by omega⟩
      ·exact(l.2.GL _ _).GK _ _
     case measure=>simp[intOf];omega
    ·have R:k=n:=by omega
     subst R;have a5:¬(((a+k:Nat):Int)<a+k):=(by omega);clear f;go_wp2
     go_ret;rw[E];exact⟨⟨_,rfl,rfl⟩,l.1.there _,l.2.GJ _ _⟩
theorem fo(m c d:Nat)(S:aI)(a n:Nat)(M:a<=1000000)(V:n<=1000000)(w:World)(h:aO w m c d S):
 Calls prog 80 #[(m,0),.int .i64 a,.int .i64 n,.int .i64 64] w (tX (S.map a n 64) m c d w):=by
 have y:=Z h;have q:=Z (j7 m c d S a n false M V w h);by_cases r:n=0
 ·subst r
  have E:Hid (S.map a 0 64=(false,S)):=Z (by unfold aI.map;rw[if_neg (by simp)]);clear h;go_in
  go_wp2_with (go_at_call 111;refine(dX _ _ _ _).mono ?_;rintro e w' ⟨rfl,rfl⟩)
  go_ret;rw[E];exact⟨⟨_,rfl,ar.mk _ _⟩,y.alloc _,ay⟩
 have al:(1:Int)<=n:=by omega
 cases g:S.jj a n false
 ·have E:Hid (S.map a n 64=(false,S)):=Z (by unfold aI.map;rw[if_neg (by rw[g];simp)])
  rw[g]at q;clear h g r
  all_goals
   go_in
   go_wp2_with (first|(go_at_call 123;refine q.mono ?_;rintro e w1 ⟨⟨v,rfl,C⟩,j⟩;obtain⟨t,x,rfl⟩:=C;have o:=Z j;clear j)|(go_at_call 111;refine(dX _ _ _ _).mono ?_;rintro e w' ⟨rfl,rfl⟩))
   go_ret;rw[E];exact⟨⟨_,rfl,ar.mk _ _⟩,y.ch o id id id,o.af⟩
 ·have Q:=(jN g).1
  have E:Hid (S.map a n 64=(true,S.laid a n 64)):=Z (by unfold aI.map;rw[if_pos ⟨r,g⟩]);rw[g]at q;obtain⟨N,z⟩:=mn S.cells.length;have O:=h.qg;rw[<-z]at O Q;have p:=Z z;clear h g r z
  all_goals
   go_in
   go_wp2_with fail
   refine q.mono ?_;rintro e w1 ⟨⟨v,rfl,C⟩,j⟩;obtain rfl:v=.nilIface:=C;have J:=Z (y.ch j id id id);have o:=Z (j.af (D:=dL m c d));clear j;go_wp2
   go_loopw [10] (fun s wr=>∃k:Nat,s=.int .i64 ((a+k:Nat):Int)/\k<=n/\Hid (aO wr m c d (S.laid a k 64)/\Ch (dL m c d) w wr)) (fun s _=>a+n-(intOf s).toNat)
   case atStart=>exact⟨0,by go_num,Nat.zero_le _,J,o⟩
   case round=>
    obtain⟨k,rfl,a4,l⟩:=hrel;have f:=l.1;have W:wr.cell? (m,0)=some (.slice (some (c,0)) N N):=(by have:=f.head.cell (i:=0) rfl;rwa [show(S.laid a k 64).cells.length=N from by unfold aI.laid;rw[dt];exact p.symm]at this);have X:wr.cell? (m,1)=some (.slice (some (d,0)) N N):=(by have:=f.head.cell (i:=1) rfl;rwa [show(S.laid a k 64).cells.length=N from by unfold aI.laid;rw[dt];exact p.symm]at this);obtain⟨G,K⟩:∃G:Int,wr.cell? (m,2)=some (.int .i64 G):=⟨_,f.head.cell (i:=2) rfl⟩;have f2:=f.head.free 2;have T:=f.mc;have U:=f.md;have P:=f.cd;by_cases a9:k<n
    ·obtain⟨i,A⟩:=mn (a+k)
     have H:∃u,wr.cell? (c,i)=some u:=by
      have B:(S.laid a k 64).cells.length=N:=(by unfold aI.laid;rw[dt];exact p.symm);exact⟨_,f.cells.cell (by rw[List.getElem?_map,List.getElem?_eq_getElem (by rw[B];omega)];rfl)⟩
     have I:∃u,wr.cell? (d,i)=some u:=by
      have B:(S.laid a k 64).width.length=N:=(by rw[f.len];unfold aI.laid;rw[dt];exact p.symm);exact⟨_,f.width.cell (by rw[List.getElem?_map,List.getElem?_eq_getElem (by rw[B];omega)];rfl)⟩
     obtain⟨u1,H⟩:=H;obtain⟨u2,I⟩:=I;have Y:=f.cells.free i;have a0:=f.width.free i;have a2:(i:Int)<a+n:=(by omega);have a3:(i:Int)<N:=(by omega);have F:=Z A;rw[<-A];have a1:d≠c:=(fun e=>P e.symm);have ab:c≠m:=(fun e=>T e.symm);have ad:d≠m:=(fun e=>U e.symm);clear A f K f2;go_wp2
     go_roundw
     case rel=>
      refine⟨k+1,by rw[show a+(k+1)=i+1 from by have:=F.out;omega];go_num,by omega,?_,?_⟩
      ·have L:=F.out
       subst L;exact(l.1.DU (a+k) 64 (by omega)).lay (a+k) 0 ⟨by omega,by omega⟩
      ·exact(l.2.GL _ _).GK _ _
     case measure=>simp[intOf];omega
    ·have R:k=n:=by omega
     subst R;have a5:¬(((a+k:Nat):Int)<a+k):=(by omega);clear f;go_wp2
     go_ret;rw[E];exact⟨⟨_,rfl,rfl⟩,l.1.there _,l.2.GJ _ _⟩
theorem kC(m c d:Nat)(S:aI)(a n:Nat)(M:a<=1000000)(V:n<=1000000)(w:World)(h:aO w m c d S):
 Calls prog 127 #[(m,0),.int .i64 a,.int .i64 n] w (tX (S.gj a n) m c d w):=by
 have y:=Z h;have q:=Z (j7 m c d S a n true M V w h);by_cases r:n=0
 ·subst r
  have E:Hid (S.gj a 0=(false,S)):=Z (by unfold aI.gj;rw[if_neg (by simp)]);clear h;go_in
  go_wp2_with (go_at_call 111;refine(dX _ _ _ _).mono ?_;rintro e w' ⟨rfl,rfl⟩)
  go_ret;rw[E];exact⟨⟨_,rfl,ar.mk _ _⟩,y.alloc _,ay⟩
 have al:(1:Int)<=n:=by omega
 cases g:S.jj a n true
 ·have E:Hid (S.gj a n=(false,S)):=Z (by unfold aI.gj;rw[if_neg (by rw[g];simp)])
  rw[g]at q;clear h g r
  all_goals
   go_in
   go_wp2_with (first|(go_at_call 123;refine q.mono ?_;rintro e w1 ⟨⟨v,rfl,C⟩,j⟩;obtain⟨t,x,rfl⟩:=C;have o:=Z j;clear j)|(go_at_call 111;refine(dX _ _ _ _).mono ?_;rintro e w' ⟨rfl,rfl⟩))
   go_ret;rw[E];exact⟨⟨_,rfl,ar.mk _ _⟩,y.ch o id id id,o.af⟩
 ·have Q:=(jN g).1
  have E:Hid (S.gj a n=(true,S.laid a n 0)):=Z (by unfold aI.gj;rw[if_pos ⟨r,g⟩]);rw[g]at q;obtain⟨N,z⟩:=mn S.cells.length;have O:=h.qg;rw[<-z]at O Q;have p:=Z z;clear h g r z
  all_goals
   go_in
   go_wp2_with fail
   refine q.mono ?_;rintro e w1 ⟨⟨v,rfl,C⟩,j⟩;obtain rfl:v=.nilIface:=C;have J:=Z (y.ch j id id id);have o:=Z (j.af (D:=dL m c d));clear j;go_wp2
   go_loopw [8] (fun s wr=>∃k:Nat,s=.int .i64 ((a+k:Nat):Int)/\k<=n/\Hid (aO wr m c d (S.laid a k 0)/\Ch (dL m c d) w wr)) (fun s _=>a+n-(intOf s).toNat)
   case atStart=>exact⟨0,by go_num,Nat.zero_le _,J,o⟩
   case round=>
    obtain⟨k,rfl,a4,l⟩:=hrel;have f:=l.1;have W:wr.cell? (m,0)=some (.slice (some (c,0)) N N):=(by have:=f.head.cell (i:=0) rfl;rwa [show(S.laid a k 0).cells.length=N from by unfold aI.laid;rw[dt];exact p.symm]at this);have X:wr.cell? (m,1)=some (.slice (some (d,0)) N N):=(by have:=f.head.cell (i:=1) rfl;rwa [show(S.laid a k 0).cells.length=N from by unfold aI.laid;rw[dt];exact p.symm]at this);obtain⟨G,K⟩:∃G:Int,wr.cell? (m,2)=some (.int .i64 G):=⟨_,f.head.cell (i:=2) rfl⟩;have f2:=f.head.free 2;have T:=f.mc;have U:=f.md;have P:=f.cd;by_cases a9:k<n
    ·obtain⟨i,A⟩:=mn (a+k)
     have H:∃u,wr.cell? (c,i)=some u:=by
      have B:(S.laid a k 0).cells.length=N:=(by unfold aI.laid;rw[dt];exact p.symm);exact⟨_,f.cells.cell (by rw[List.getElem?_map,List.getElem?_eq_getElem (by rw[B];omega)];rfl)⟩
     have I:∃u,wr.cell? (d,i)=some u:=by
      have B:(S.laid a k 0).width.length=N:=(by rw[f.len];unfold aI.laid;rw[dt];exact p.symm);exact⟨_,f.width.cell (by rw[List.getElem?_map,List.getElem?_eq_getElem (by rw[B];omega)];rfl)⟩
     obtain⟨u1,H⟩:=H;obtain⟨u2,I⟩:=I;have Y:=f.cells.free i;have a0:=f.width.free i;have a2:(i:Int)<a+n:=(by omega);have a3:(i:Int)<N:=(by omega);have F:=Z A;rw[<-A];have a1:d≠c:=(fun e=>P e.symm);have ab:c≠m:=(fun e=>T e.symm);have ad:d≠m:=(fun e=>U e.symm);clear A f K f2;go_wp2
     go_roundw
     case rel=>
      refine⟨k+1,by rw[show a+(k+1)=i+1 from by have:=F.out;omega];go_num,by omega,?_,?_⟩
      ·have L:=F.out
       subst L;exact(l.1.DU (a+k) 0 (by omega)).lay (a+k) 0 ⟨by omega,by omega⟩
      ·exact(l.2.GL _ _).GK _ _
     case measure=>simp[intOf];omega
    ·have R:k=n:=by omega
     subst R;have a5:¬(((a+k:Nat):Int)<a+k):=(by omega);clear f;go_wp2
     go_ret;rw[E];exact⟨⟨_,rfl,rfl⟩,l.1.there _,l.2.GJ _ _⟩
theorem qy(b g:Nat)(l:List aF)(id:Int)(hid:aK id)(w:World)(h:aW w b g l):
 Calls prog 186 #[(b,0),.int .u64 id] w (ny (e8 l id).1 b g (e8 l id).2 w):=by
 have k:=Z h;have a:=Z (fc b g l id hid w h);cases c:d' l id with
 |none=>
  have E:Hid (e8 l id=(false,l)):=Z (by unfold e8;rw[c]);rw[c]at a;clear h c;go_in
  go_wp2_with (first|(go_at_call 134;refine a.mono ?_;rintro e w' ⟨rfl,rfl⟩;simp only[b6])|(go_at_call 77;refine(a6 _ _ _).mono ?_;rintro e w' ⟨rfl,rfl⟩))
  go_ret;rw[E];exact⟨⟨_,rfl,ar.mk _ _⟩,k.alloc _,ay⟩
 |some p=>
  obtain⟨-,r,i,-,-⟩:=ei c;obtain⟨y,z,A,B,C,D,F,G,H,I,fr,J⟩:=h.cells i;obtain⟨d,j⟩:=h.start i;have E:Hid (e8 l id=if r.t.bH !=0||r.t.loose then(false,l)else if r.t.state==4&& !r.t.aG then(true,l.set p r.gone)else(true,l.set p {r with t:={r.t with loose:=true}})):=Z (by unfold e8;rw[c];simp only[i]);have x:=Z i;have m:=Z d;rw[c]at a;clear h c i d;obtain⟨times,taken,K,⟨tid,state,home,value,u,loose,v⟩⟩:=r;dsimp only at*;cases f:u !=0
  ·cases loose
   ·cases d:state==4
    ·rw[f,d]at E
     go_in
     go_wp2_with (first|(go_at_call 134;refine a.mono ?_;rintro e w' ⟨rfl,rfl⟩;simp only[b6])|(go_at_call 77;refine(a6 _ _ _).mono ?_;rintro e w' ⟨rfl,rfl⟩))
     go_ret;rw[E];exact⟨⟨_,rfl,rfl⟩,m.s8 j (by omega),ay⟩
    ·cases v
     ·rw[f,d]at E
      go_in
      go_wp2_with (first|(go_at_call 134;refine a.mono ?_;rintro e w' ⟨rfl,rfl⟩;simp only[b6])|(go_at_call 77;refine(a6 _ _ _).mono ?_;rintro e w' ⟨rfl,rfl⟩)|(go_at_call 216;refine(iG b g p _ _ _ (m.s8 j (by omega)) (m' j)).mono ?_;rintro e w1 ⟨rfl,o,n⟩;have s:=Z o;have q:=Z n;clear o n))
      go_ret;rw[E];exact⟨⟨_,rfl,rfl⟩,(by have:=s.out;rw[List.set_set]at this;exact this),((Ch.refl _ _).only _ _).trans q⟩
     ·rw[f,d]at E
      go_in
      go_wp2_with (first|(go_at_call 134;refine a.mono ?_;rintro e w' ⟨rfl,rfl⟩;simp only[b6])|(go_at_call 77;refine(a6 _ _ _).mono ?_;rintro e w' ⟨rfl,rfl⟩))
      go_ret;rw[E];exact⟨⟨_,rfl,rfl⟩,m.s8 j (by omega),ay⟩
   ·rw[f]at E
    go_in
    go_wp2_with (first|(go_at_call 134;refine a.mono ?_;rintro e w' ⟨rfl,rfl⟩;simp only[b6])|(go_at_call 77;refine(a6 _ _ _).mono ?_;rintro e w' ⟨rfl,rfl⟩))
    go_ret;rw[E];exact⟨⟨_,rfl,ar.mk _ _⟩,k.alloc _,ay⟩
  ·rw[f]at E
   go_in
   go_wp2_with (first|(go_at_call 134;refine a.mono ?_;rintro e w' ⟨rfl,rfl⟩;simp only[b6])|(go_at_call 77;refine(a6 _ _ _).mono ?_;rintro e w' ⟨rfl,rfl⟩))
   go_ret;rw[E];exact⟨⟨_,rfl,ar.mk _ _⟩,k.alloc _,ay⟩
theorem qz(b g:Nat)(l:List aF)(id:Int)(hid:aK id)(w:World)(h:aW w b g l):
 Calls prog 198 #[(b,0),.int .u64 id] w (ny (eN l id).1 b g (eN l id).2 w):=by
 have o:=Z h;have a:=Z (fc b g l id hid w h);cases c:d' l id with
 |none=>
  have E:Hid (eN l id=(false,l)):=Z (by unfold eN;rw[c]);rw[c]at a;go_in
  go_wp2_with (first|(go_at_call 134;refine a.mono ?_;rintro e w' ⟨rfl,rfl⟩;simp only[b6])|(go_at_call 77;refine(a6 _ _ _).mono ?_;rintro e w' ⟨rfl,rfl⟩))
  go_ret;rw[E];exact⟨⟨_,rfl,ar.mk _ _⟩,o.alloc _,ay⟩
 |some p=>
  obtain⟨-,r,f,-,-⟩:=ei c;obtain⟨x,y,z,A,B,C,D,F,G,H,fr,I⟩:=h.cells f;obtain⟨q,d⟩:=h.start f;have E:Hid (eN l id=if !r.t.aG then(false,l)else if r.t.loose||r.bL then(true,l.set p r.gone)else(true,l.set p {r with t:={r.t with aG:=false}})):=Z (by unfold eN;rw[c];simp only[f]);have v:=Z f;have j:=Z q;rw[c]at a;obtain⟨times,taken,s,⟨tid,state,home,value,J,loose,u⟩⟩:=r;dsimp only at*;cases u
  ·skip
   go_in
   go_wp2_with (first|(go_at_call 134;refine a.mono ?_;rintro e w' ⟨rfl,rfl⟩;simp only[b6])|(go_at_call 77;refine(a6 _ _ _).mono ?_;rintro e w' ⟨rfl,rfl⟩))
   go_ret;rw[E];exact⟨⟨_,rfl,ar.mk _ _⟩,o.alloc _,ay⟩
  ·cases loose
   ·cases s
    ·skip
     go_in
     go_wp2_with (first|(go_at_call 134;refine a.mono ?_;rintro e w' ⟨rfl,rfl⟩;simp only[b6])|(go_at_call 77;refine(a6 _ _ _).mono ?_;rintro e w' ⟨rfl,rfl⟩))
     go_ret;rw[E];exact⟨⟨_,rfl,rfl⟩,j.s9 d (by omega),ay⟩
    ·skip
     go_in
     go_wp2_with (first|(go_at_call 134;refine a.mono ?_;rintro e w' ⟨rfl,rfl⟩;simp only[b6])|(go_at_call 77;refine(a6 _ _ _).mono ?_;rintro e w' ⟨rfl,rfl⟩)|(go_at_call 216;refine(iG b g p _ _ _ (j.s9 d (by omega)) (m' d)).mono ?_;rintro e w1 ⟨rfl,n,m⟩;have k:=Z n;have i:=Z m))
     go_ret;rw[E];exact⟨⟨_,rfl,rfl⟩,(by have:=k.out;rw[List.set_set]at this;exact this),((Ch.refl _ _).only _ _).trans i⟩
   ·skip
    go_in
    go_wp2_with (first|(go_at_call 134;refine a.mono ?_;rintro e w' ⟨rfl,rfl⟩;simp only[b6])|(go_at_call 77;refine(a6 _ _ _).mono ?_;rintro e w' ⟨rfl,rfl⟩)|(go_at_call 216;refine(iG b g p _ _ _ (j.s9 d (by omega)) (m' d)).mono ?_;rintro e w1 ⟨rfl,n,m⟩;have k:=Z n;have i:=Z m))
    go_ret;rw[E];exact⟨⟨_,rfl,rfl⟩,(by have:=k.out;rw[List.set_set]at this;exact this),((Ch.refl _ _).only _ _).trans i⟩
def ed(l:List aF)(id:Int):Int:=
 match d' l id with
 |none=>0
 |some p=>match l[p]? with
  |none=>0
  |some r=>if r.bL then 0 else if r.t.loose then 2 else if r.t.bH !=0 then 4 else if r.t.state==4 then 3 else 1
theorem pb(b g:Nat)(l:List aF)(id:Int)(hid:aK id)(w:World)(h:aW w b g l):
 Calls prog 189 #[(b,0),.int .u64 id] w (ez (.int .i64 (ed l id)) w):=by
 have a:=Z (fc b g l id hid w h);cases d:d' l id with
 |none=>
  have E:Hid (ed l id=0):=Z (by unfold ed;rw[d]);rw[d]at a;go_in
  go_wp2_with (go_at_call 134;refine a.mono ?_;rintro e w' ⟨rfl,rfl⟩;simp only[b6])
  go_ret;exact ez.mk (by rw[E];rfl)
 |some p=>
  obtain⟨-,r,k,-,-⟩:=ei d;obtain⟨n,o,q,s,t,u,v,x,y,z,fr,A⟩:=h.cells k;have E:Hid (ed l id=if r.bL then 0 else if r.t.loose then 2 else if r.t.bH !=0 then 4 else if r.t.state==4 then 3 else 1):=Z (by unfold ed;rw[d];simp only[k]);rw[d]at a;obtain⟨times,taken,m,⟨tid,state,home,value,f,loose,B⟩⟩:=r;dsimp only at*;have i:(f !=0)=true∨((f !=0)=false/\(state==4)=true)∨((f !=0)=false/\(state==4)=false):=by
   cases f !=0<;>cases state==4<;>simp
  cases m
  ·cases loose
   ·rcases i with c|⟨c,j⟩|⟨c,j⟩
    ·rw[c]at E
     go_in
     go_wp2_with (go_at_call 134;refine a.mono ?_;rintro e w' ⟨rfl,rfl⟩;simp only[b6])
     go_ret;exact ez.mk (by rw[E];rfl)
    ·rw[c,j]at E
     go_in
     go_wp2_with (go_at_call 134;refine a.mono ?_;rintro e w' ⟨rfl,rfl⟩;simp only[b6])
     go_ret;exact ez.mk (by rw[E];rfl)
    ·rw[c,j]at E
     go_in
     go_wp2_with (go_at_call 134;refine a.mono ?_;rintro e w' ⟨rfl,rfl⟩;simp only[b6])
     go_ret;exact ez.mk (by rw[E];rfl)
   ·clear i
    go_in
    go_wp2_with (go_at_call 134;refine a.mono ?_;rintro e w' ⟨rfl,rfl⟩;simp only[b6])
    go_ret;exact ez.mk (by rw[E];rfl)
  ·clear i
   go_in
   go_wp2_with (go_at_call 134;refine a.mono ?_;rintro e w' ⟨rfl,rfl⟩;simp only[b6])
   go_ret;exact ez.mk (by rw[E];rfl)
def fx(l:List aF)(id:Int):iD×Bool:=
 match d' l id with
 |none=>(iD.zero,false)
 |some p=>match l[p]? with
  |none=>(iD.zero,false)
  |some r=>(r.t,true)
theorem rR(b g:Nat)(l:List aF)(id:Int)(hid:aK id)(w:World)(h:aW w b g l):
 Calls prog 97 #[(b,0),.int .u64 id] w (ds (.tuple #[(fx l id).1.val,.bool (fx l id).2]) w):=by
 have c:=Z (fun o=>fc b g l id hid (w.alloc o) (h.alloc o));cases a:d' l id with
 |none=>
  have E:Hid (fx l id=(iD.zero,false)):=Z (by unfold fx;rw[a]);rw[a]at c;go_in
  go_wp2_with (go_at_call 134;refine(c _).mono ?_;rintro e w' ⟨rfl,rfl⟩;simp only[b6])
  refine bodyPost_ret (v:=.tuple #[iD.zero.val,.bool false]) (by simp[results,Tryz.results97,go_sem,iD.val,iD.zero]) rfl ?_;rw[E];exact⟨rfl,ay⟩
 |some p=>
  obtain⟨-,r,d,-,-⟩:=ei a;have f:=Z (fun o=>(h.alloc o).cells d);have E:Hid (fx l id=(r.t,true)):=Z (by unfold fx;rw[a];simp only[d]);rw[a]at c;have A:=h.rows.lt;obtain⟨times,taken,C,⟨tid,state,home,value,t,loose,u⟩⟩:=r;dsimp only at*;obtain⟨x,y,z,i,j,k,m,n,q,s,fr,B⟩:=f (.cells iD.zero.cells.toArray 99);dsimp only[iD.cells,iD.zero]at i j k m n q s;go_in
  go_wp2_with (go_at_call 134;refine(c _).mono ?_;rintro e w' ⟨rfl,rfl⟩;simp only[b6])
  refine bodyPost_ret (v:=.tuple #[(iD.mk tid state home value t loose u).val,.bool true]) (by simp[results,Tryz.results97,go_sem,iD.val]) rfl ?_;rw[E];exact⟨rfl,ay⟩
def fy(l:List aF)(id:Int):Bool×Int×Int×Bool×List aF:=
 match d' l id with
 |none=>(false,0,0,false,l)
 |some p=>match l[p]? with
  |none=>(false,0,0,false,l)
  |some r=>if r.t.state !=4||r.t.loose||r.bL then(false,0,0,false,l)
   else(true,r.t.value,r.t.home,!r.t.aG,if r.t.aG then l.set p {r with bL:=true}else l.set p r.gone)
def Cc(x:Bool×Int×Int×Bool×List aF)(b g:Nat)(w:World)(e:Ending)(w':World):Prop:=
 (∃v,e=.returned (.tuple #[.int .u64 x.2.1,.int .u64 x.2.2.1,.bool x.2.2.2.1,v])/\(if x.1 then v=.nilIface else ar v))/\aW w' b g x.2.2.2.2/\Ch (aH g) w w'
theorem rS(b g:Nat)(l:List aF)(id:Int)(hid:aK id)(w:World)(h:aW w b g l):
 Calls prog 188 #[(b,0),.int .u64 id] w (Cc (fy l id) b g w):=by
 have d:=Z h;have a:=Z (fc b g l id hid w h);cases c:d' l id with
 |none=>
  have E:Hid (fy l id=(false,0,0,false,l)):=Z (by unfold fy;rw[c]);rw[c]at a;go_in
  go_wp2_with (first|(go_at_call 134;refine a.mono ?_;rintro e w' ⟨rfl,rfl⟩;simp only[b6])|(go_at_call 77;refine(a6 _ _ _).mono ?_;rintro e w' ⟨rfl,rfl⟩))
  refine bodyPost_ret (du rfl _ _ _) rfl ?_;rw[E];exact⟨⟨_,rfl,ar.mk _ _⟩,d.alloc _,ay⟩
 |some p=>
  obtain⟨-,r,f,-,-⟩:=ei c;obtain⟨y,z,A,B,C,D,F,G,H,I,fr,J⟩:=h.cells f;obtain⟨q,k⟩:=h.start f;have E:Hid (fy l id=if r.t.state !=4||r.t.loose||r.bL then(false,0,0,false,l)else(true,r.t.value,r.t.home,!r.t.aG,if r.t.aG then l.set p {r with bL:=true}else l.set p r.gone)):=Z (by unfold fy;rw[c];simp only[f]);have x:=Z f;have j:=Z q;rw[c]at a;obtain⟨times,taken,t,⟨tid,state,home,value,K,loose,u⟩⟩:=r;dsimp only at*;cases i:state !=4
  ·cases loose
   ·cases t
    ·rw[i]at E
     have v:=Z (j);cases u
     all_goals
      go_in
      go_wp2_with (first|(go_at_call 134;refine a.mono ?_;rintro e w' ⟨rfl,rfl⟩;simp only[b6])|(go_at_call 77;refine(a6 _ _ _).mono ?_;rintro e w' ⟨rfl,rfl⟩))
      go_quiet (fail)
      go_wp2_with (go_at_call 216;refine(iG b g p _ _ _ ((j.drewN _).s2 k (by omega)) (m' k)).mono ?_;rintro e w1 ⟨rfl,s,o⟩;have n:=Z s;have m:=Z o)
      refine bodyPost_ret (du rfl _ _ _) rfl ?_;rw[E]
     ·exact⟨⟨_,rfl,rfl⟩,(by have:=n.out;rw[List.set_set]at this;exact this),(((Ch.refl _ _).drewN _).only _ _).trans m⟩
     ·exact⟨⟨_,rfl,rfl⟩,(j.drewN _).s2 k (by omega),ay⟩
    ·rw[i]at E
     go_in
     go_wp2_with (first|(go_at_call 134;refine a.mono ?_;rintro e w' ⟨rfl,rfl⟩;simp only[b6])|(go_at_call 77;refine(a6 _ _ _).mono ?_;rintro e w' ⟨rfl,rfl⟩))
     refine bodyPost_ret (du rfl _ _ _) rfl ?_;rw[E];exact⟨⟨_,rfl,ar.mk _ _⟩,d.alloc _,ay⟩
   ·rw[i]at E
    go_in
    go_wp2_with (first|(go_at_call 134;refine a.mono ?_;rintro e w' ⟨rfl,rfl⟩;simp only[b6])|(go_at_call 77;refine(a6 _ _ _).mono ?_;rintro e w' ⟨rfl,rfl⟩))
    refine bodyPost_ret (du rfl _ _ _) rfl ?_;rw[E];exact⟨⟨_,rfl,ar.mk _ _⟩,d.alloc _,ay⟩
  ·rw[i]at E
   go_in
   go_wp2_with (first|(go_at_call 134;refine a.mono ?_;rintro e w' ⟨rfl,rfl⟩;simp only[b6])|(go_at_call 77;refine(a6 _ _ _).mono ?_;rintro e w' ⟨rfl,rfl⟩))
   refine bodyPost_ret (du rfl _ _ _) rfl ?_;rw[E];exact⟨⟨_,rfl,ar.mk _ _⟩,d.alloc _,ay⟩
def iY:List aF->Nat->Option Nat
 |[],_=>none
 |r::l,k=>if r.taken then iY l (k+1)else some k
def dh(l:List aF)(home:Int):Option Int×List aF:=
 match iY l 0 with
 |none=>(none,l)
 |some p=>match l[p]? with
  |none=>(none,l)
  |some r=>
   let n:=IntKind.u64.wrap (r.times+1)
   let id:=IntKind.u64.wrap (p+IntKind.u64.wrap (64*n))
   (some id,l.set p {times:=n,taken:=true,bL:=r.bL,t:=⟨id,1,home,0,0,false,false⟩})
def Cd(x:Option Int×List aF)(b g:Nat)(w:World)(e:Ending)(w':World):Prop:=
 (match x.1 with
  |some id=>e=.returned (.tuple #[.int .u64 id,.nilIface])
  |none=>∃v,e=.returned (.tuple #[.int .u64 0,v])/\ar v)/\aW w' b g x.2/\Ch (aH g) w w'
theorem mE(b g:Nat)(l:List aF)(home:Int)(w:World)(h:aW w b g l):
 Calls prog 86 #[(b,0),.int .u64 home] w (Cd (dh l home) b g w):=by
 have d:=Z h;have A:=h.head.c1;have hlen:=Z h.len;have L:=h.head.lt;go_wp2
 go_loop [13] (fun s=>∃k:Nat,s=.int .i64 k/\k<=64/\Hid (iY (l.drop k) k=iY l 0)) (fun s=>64-(intOf s).toNat)
 case atStart=>exact⟨0,rfl,Nat.zero_le _,rfl⟩
 case round=>
  obtain⟨k,rfl,M,f⟩:=hrel;by_cases v:k<64
  ·obtain⟨r,c⟩:∃r,l[k]?=some r:=⟨_,List.getElem?_eq_getElem (by rw[hlen.out];exact v)⟩
   obtain⟨z,B,C,D,F,G,H,I,J,K,fr,P⟩:=d.cells c;have u:l.drop k=r::l.drop (k+1):=by
    obtain⟨p,q⟩:=List.getElem?_eq_some_iff.1 c;rw[List.drop_eq_getElem_cons p,q]
   have j:=Z u;obtain⟨x,a⟩:=d.start c;have o:=Z x;have n:=Z c;have O:(k:Int)<64:=(by omega);obtain⟨times,taken,y,⟨tid,state,Q,value,R,loose,S⟩⟩:=r;dsimp only at*;cases taken
   ·have E:Hid (dh l home=(some (IntKind.u64.wrap (k+IntKind.u64.wrap (64*IntKind.u64.wrap (times+1)))),l.set k {times:=IntKind.u64.wrap (times+1),taken:=true,bL:=y,t:=⟨IntKind.u64.wrap (k+IntKind.u64.wrap (64*IntKind.u64.wrap (times+1))),1,home,0,0,false,false⟩})):=Z (by
     have i:iY l 0=some k:=(by rw[<-f,j];rfl);unfold dh;rw[i];simp only[n.out])
    go_wp2
    go_ret2;rw[E];refine⟨rfl,?_,?_⟩
    ·exact((((((((o.s0 a rfl).s1 a rfl).s3 a rfl).s4 a rfl).s5 a rfl).s6 a rfl).s7 a rfl).s8 a rfl).s9 a rfl
    ·exact ay
   ·have m:Hid (iY (l.drop (k+1)) (k+1)=iY l 0):=Z (by rw[<-f,j];rfl)
    go_wp2
    go_round
    case rel=>exact⟨k+1,by go_num,by omega,m⟩
    case measure=>simp[intOf];omega
  ·have N:¬(k:Int)<64:=by omega
   have E:Hid (dh l home=(none,l)):=Z (by
    have i:iY l 0=none:=(by rw[<-f,List.drop_eq_nil_of_le (by rw[hlen.out];omega)];rfl);unfold dh;rw[i])
   go_wp2_with (go_at_call 77;refine(a6 _ _ _).mono ?_;rintro e w' ⟨rfl,rfl⟩)
   go_ret2;rw[E];exact⟨⟨_,rfl,ar.mk _ _⟩,d.alloc _,ay⟩
variable{w':World}{fr:Nat}{cs q:List Int}{D:Nat->Prop}{v:Int}
structure dv(w:World)(b g:Nat)(cs:List Int)(fr n:Nat):Prop where
 head:Row w b 197 [.slice (some (g,0)) 64 64,.int .i64 fr,.int .i64 n]
 rows:Row w g 22 (cs.map (Value.int .u64))
 len:cs.length=64
 hf:fr<64
 hn:n<=64
def eP(w:World)(b g:Nat)(q:List Int):Prop:=
 ∃cs fr,dv w b g cs fr q.length/\∀i,i<q.length->cs[(fr+i)%64]?=q[i]?
theorem dv.alloc(h:dv w b g cs fr n)(o:Obj):dv (w.alloc o) b g cs fr n:=⟨h.head.alloc o,h.rows.alloc o,h.len,h.hf,h.hn⟩
theorem dv.drew(h:dv w b g cs fr n):dv w.drew b g cs fr n:=⟨h.head,h.rows,h.len,h.hf,h.hn⟩
theorem dv.drewN(h:dv w b g cs fr n)(k:Nat):dv (w.drewN k) b g cs fr n:=⟨h.head,h.rows,h.len,h.hf,h.hn⟩
theorem dv.ne(h:dv w b g cs fr n):b≠g:=h.head.ne h.rows (by decide)
theorem dv.ch(h:dv w b g cs fr n)(c:Ch D w w')(hb:¬D b)(a:¬D g):dv w' b g cs fr n:=⟨h.head.ch c hb,h.rows.ch c a,h.len,h.hf,h.hn⟩
theorem eP.ch(h:eP w b g q)(c:Ch D w w')(hb:¬D b)(e:¬D g):eP w' b g q:=by
 obtain⟨cs,fr,a,d⟩:=h;exact⟨cs,fr,a.ch c hb e,d⟩
theorem ke(b g:Nat)(cs:List Int)(fr n i:Nat)(t:i<=64)(w:World)(h:dv w b g cs fr n):
 Calls prog 88 #[(b,0),.int .i64 i] w (fun e w'=>e=.returned (.pointer (some (g,(fr+i)%64)))/\∃k,w'=w.drewN k):=by
 obtain⟨l,o⟩:=h.head.c2;have s:=h.hf;have u:=h.rows.lt;have r:=h.head.lt;have p:IntKind.i64.wrap ((fr:Int)+i)=(fr:Int)+i:=IntWalk.i64_in _ (by omega);have c:((fr:Int)+i).tmod 64=(((fr+i)%64:Nat):Int):=by rw[Int.tmod_eq_emod_of_nonneg (by omega)];omega
 have d:(0:Int)<=(((fr+i)%64:Nat):Int):=by omega
 have f:(((fr+i)%64:Nat):Int)<64:=by omega
 have j:IntKind.i64.wrap (((fr+i)%64:Nat):Int)=(((fr+i)%64:Nat):Int):=IntWalk.i64_in _ (by omega);obtain⟨m,a⟩:=mn ((fr+i)%64);rw[<-a]at c d f j⊢;clear a h;go_wp2
 go_quiet (fail)
 go_wp2
 go_ret;exact⟨rfl,_,rfl⟩
theorem zB(d:cs.length=64)(e:q.length<64)(h:∀i,i<q.length->cs[(fr+i)%64]?=q[i]?):
 ∀i,i<(q++[v]).length->(cs.set ((fr+q.length)%64) v)[(fr+i)%64]?=(q++[v])[i]?:=by
 intro i c;rw[List.length_append,List.length_cons,List.length_nil]at c;by_cases a:i=q.length
 ·subst a
  rw[List.getElem?_set_self (by omega),List.getElem?_append_right (Nat.le_refl _)];simp
 ·rw[List.getElem?_set_ne (by omega),List.getElem?_append_left (by omega)]
  exact h i (by omega)
theorem dv.set(h:dv w b g cs fr n)(m:Nat)(v:Int):dv (w.setCell (g,m) (.int .u64 v)) b g (cs.set m v) fr n:=
 ⟨h.head.other h.ne _,h.rows.bc _ _ (by rw[List.map_set]),by simpa using h.len,h.hf,h.hn⟩
theorem dv.Fy(h:dv w b g cs fr n)(m:Nat)(a:m<=64)(c:v=(m:Int)):dv (w.setCell (b,2) (.int .i64 v)) b g cs fr m:=by
 subst c;exact⟨h.head.bc _ _ rfl,h.rows.other (fun e=>h.ne e.symm) _,h.len,h.hf,a⟩
theorem dv.cI(h:dv w b g cs fr n)(m:Nat)(a:m<64)(c:v=(m:Int)):dv (w.setCell (b,1) (.int .i64 v)) b g cs m n:=by
 subst c;exact⟨h.head.bc _ _ rfl,h.rows.other (fun e=>h.ne e.symm) _,h.len,a,h.hn⟩
def Ce(ok:Bool)(b g:Nat)(a:List Int)(w:World)(e:Ending)(w':World):Prop:=
 (∃v,e=.returned v/\(if ok then v=.nilIface else ar v))/\eP w' b g a/\Ch (cK b g) w w'
def hG(q:List Int)(v:Int):Bool×List Int:=if q.length=64 then(false,q)else(true,q++[v])
theorem mF(b g:Nat)(q:List Int)(v:Int)(w:World)(h:eP w b g q):
 Calls prog 49 #[(b,0),.int .u64 v] w (Ce (hG q v).1 b g (hG q v).2 w):=by
 obtain⟨cs,fr,d,p⟩:=h;have a:=Z d;have o:=Z p;have C:=d.head.c1;have s:=d.head.k 2 rfl;have f2:=d.head.free 2;have y:=d.hn;obtain⟨N,i⟩:=mn q.length;rw[<-i]at s y;have c:=Z i;clear d p i;by_cases f:N=64
 ·subst f
  have E:Hid (hG q v=(false,q)):=Z (by unfold hG;rw[if_pos c.out.symm]);go_wp2
  go_quiet (fail)
  go_wp2
  go_ret;rw[E];exact⟨⟨_,rfl,ar.mk _ _⟩,⟨cs,fr,(a.drewN _).alloc _,o⟩,ay⟩
 ·have E:Hid (hG q v=(true,q++[v])):=Z (by unfold hG;rw[if_neg (by rw[<-c.out];exact f)])
  have hb:((N:Int)==64)=false:=by rw[beq_eq_false_iff_ne];omega
  have z:N<64:=by omega
  have l:Hid (dv w b g cs fr N):=Z (by rw[c];exact a);clear f;go_wp2
  go_quiet (fail)
  go_wp2_with fail
  refine(ke b g cs fr N N (by omega) _ (l.drewN _)).mono ?_;rintro e w1 ⟨rfl,k,rfl⟩;have t:∃u,w.cell? (g,(fr+N)%64)=some u:=by
   have F:=a.len;have:(cs.map (Value.int .u64))[(fr+N)%64]?=some (.int .u64 (cs[(fr+N)%64]'(by omega))):=(by rw[List.getElem?_map,List.getElem?_eq_getElem (by omega)];rfl);exact⟨_,a.rows.cell this⟩
  obtain⟨u,B⟩:=t;have x:=a.rows.free ((fr+N)%64);have A:=a.ne;obtain⟨m,j⟩:=mn ((fr+N)%64);rw[<-j]at B x⊢;have r:=Z j;have G:g≠b:=fun e=>A e.symm
  clear j;go_wp2
  go_ret;rw[E];refine⟨⟨_,rfl,rfl⟩,⟨cs.set m v,fr,?_,?_⟩,?_⟩
  ·rw[List.length_append,<-c]
   exact((l.drewN _).set m v).Fy (N+1) (by omega) rfl
  ·rw[r,c]
   exact zB a.len (by rw[<-c];exact z) o
  ·exact ay
def gS:List Int->Int×Bool×List Int
 |[]=>(0,false,[])
 |x::q=>(x,true,q)
def Cf(x:Int×Bool×List Int)(b g:Nat)(w:World)(e:Ending)(w':World):Prop:=
 e=.returned (.tuple #[.int .u64 x.1,.bool x.2.1])/\eP w' b g x.2.2/\Ch (cK b g) w w'
theorem xk{x:Int}(h:∀i,i<(x::q).length->cs[(fr+i)%64]?=(x::q)[i]?):
 ∀i,i<q.length->cs[((fr+1)%64+i)%64]?=q[i]?:=by
 intro i a;have:=h (i+1) (by simp;omega);rw[List.getElem?_cons_succ]at this;rw[<-this]
 congr 1
 omega
theorem qA(b g:Nat)(q:List Int)(w:World)(h:eP w b g q):
 Calls prog 182 #[(b,0)] w (Cf (gS q) b g w):=by
 obtain⟨cs,fr,a,f⟩:=h;have B:=Z a;have t:=Z f;obtain⟨E,F,j⟩:=a.head.c3;have f1:=a.head.free 1;have f2:=a.head.free 2;cases q with
 |nil=>
  clear a f;go_wp2
  go_ret2;exact⟨rfl,⟨cs,fr,B,t⟩,Ch.refl _ _⟩
 |cons x q=>
  obtain⟨N,l⟩:=mn q.length;have J:=a.hn;rw[List.length_cons,<-l]at j J;have s:=Z l;have r:Hid (dv w b g cs fr (N+1)):=Z (by rw[s];exact a);have hb:(((N+1:Nat):Int)==0)=false:=by rw[beq_eq_false_iff_ne];omega
  have z:=a.hf;have p:=f 0 (by simp);rw[Nat.add_zero,Nat.mod_eq_of_lt z]at p;have u:w.cell? (g,fr)=some (.int .u64 x):=a.rows.cell (by rw[List.getElem?_map,p];rfl);have O:IntKind.i64.wrap ((fr:Int)+1)=(fr:Int)+1:=IntWalk.i64_in _ (by omega);have G:((fr:Int)+1).tmod 64=(((fr+1)%64:Nat):Int):=by rw[Int.tmod_eq_emod_of_nonneg (by omega)];omega
  have H:IntKind.i64.wrap (((fr+1)%64:Nat):Int)=(((fr+1)%64:Nat):Int):=IntWalk.i64_in _ (by omega);obtain⟨m,o⟩:=mn ((fr+1)%64);rw[<-o]at G H;have C:=Z o;have I:m<64:=by omega
  have y:((N+1:Nat):Int)=(N:Int)+1:=by omega
  rw[y]at j hb;have P:(N:Int)+1-1=(N:Int):=by omega
  clear a f l o p y;go_in
  go_wp2_with fail
  refine(ke b g cs fr (N+1) 0 (by omega) _ r).mono ?_;rw[Nat.add_zero,Nat.mod_eq_of_lt z];rintro e w1 ⟨rfl,d⟩;have c:Hid (dv w1 b g cs fr (N+1)):=Z (by obtain⟨k,rfl⟩:=d;exact r.drewN _);have A:Hid (Ch (cK b g) w w1):=Z (by obtain⟨k,rfl⟩:=d;exact ay);obtain⟨d0,d1⟩:=c.head.c2;have d2:w1.cell? (b,2)=some (.int .i64 ((N:Int)+1)):=c.head.cell (i:=2) rfl;have M:w1.cell? (g,fr)=some (.int .u64 x):=by obtain⟨k,rfl⟩:=d;exact u
  have K:=c.head.free 1;have L:=c.head.free 2;clear E F j u f1 f2 d;go_wp2
  go_still_tail 12,(by kernel_rfl)
  change wpList _ _ _ _ _ w1.drew;go_wp2
  go_ret2;refine⟨rfl,⟨cs,m,?_,?_⟩,?_⟩
  ·show dv _ b g cs m q.length
   rw[<-s];exact(c.drew.cI m I rfl).Fy N (by omega) (by omega)
  ·rw[C]
   exact xk t
  ·exact(A.drew.rF _ _).rF _ _
structure bq where
 times:Int
 handle:Int
 kind:Int
 addr:Int
 deriving DecidableEq,Repr,Inhabited
def bq.cells(r:bq):List Value:=[.int .u64 r.times,.int .u64 r.handle,.int .i64 r.kind,.int .u64 r.addr]
theorem bq.len(r:bq):r.cells.length=4:=rfl
structure bP(w:World)(b g:Nat)(l:List bq):Prop where
 head:Row w b 109 [.slice (some (g,0)) 64 64]
 rows:Row w g 111 (l.flatMap bq.cells)
 len:l.length=64
theorem bP.ne{l:List bq}(h:bP w b g l):b≠g:=h.head.ne h.rows (by decide)
theorem bP.alloc{l:List bq}(h:bP w b g l)(o:Obj):bP (w.alloc o) b g l:=⟨h.head.alloc o,h.rows.alloc o,h.len⟩
theorem bP.drew{l:List bq}(h:bP w b g l):bP w.drew b g l:=⟨h.head,h.rows,h.len⟩
theorem bP.ch{w':World}{D:Nat->Prop}{l:List bq}(h:bP w b g l)(c:Ch D w w')(hb:¬D b)(d:¬D g):bP w' b g l:=⟨h.head.ch c hb,h.rows.ch c d,h.len⟩
theorem bP.put{l:List bq}(h:bP w b g l){r y:bq}(e:l[p]?=some r)(j:Nat)(d:j<4)(c:a=p*4+j){v:Value}(f:r.cells.set j v=y.cells):bP (w.setCell (g,a) v) b g (l.set p y):=by
 subst c;exact⟨h.head.other h.ne v,h.rows.put bq.len e d f,by simpa using h.len⟩
theorem bP.j5{l:List bq}{r y:bq}(h:bP w b g (l.set p r))(e:p<l.length)(j:Nat)(d:j<4)(c:a=p*4+j){v:Value}(f:r.cells.set j v=y.cells):bP (w.setCell (g,a) v) b g (l.set p y):=by
 have:=h.put (p:=p) (r:=r) (y:=y) (by simp[e]) j d c f
 rwa [List.set_set]at this
theorem bP.start{l:List bq}(h:bP w b g l){r:bq}(c:l[p]?=some r):bP w b g (l.set p r)/\p<l.length:=⟨(j6 c).symm▸h,(List.getElem?_eq_some_iff.1 c).1⟩
theorem bP.s0{l:List bq}{r:bq}(h:bP w b g (l.set p r))(d:p<l.length)(c:a=p*4+0):bP (w.setCell (g,a) (.int .u64 v)) b g (l.set p {r with times:=v}):=h.j5 d 0 (by omega) c rfl
theorem bP.s1{l:List bq}{r:bq}(h:bP w b g (l.set p r))(d:p<l.length)(c:a=p*4+1):bP (w.setCell (g,a) (.int .u64 v)) b g (l.set p {r with handle:=v}):=h.j5 d 1 (by omega) c rfl
theorem bP.s2{l:List bq}{r:bq}(h:bP w b g (l.set p r))(d:p<l.length)(c:a=p*4+2):bP (w.setCell (g,a) (.int .i64 v)) b g (l.set p {r with kind:=v}):=h.j5 d 2 (by omega) c rfl
theorem bP.s3{l:List bq}{r:bq}(h:bP w b g (l.set p r))(d:p<l.length)(c:a=p*4+3):bP (w.setCell (g,a) (.int .u64 v)) b g (l.set p {r with addr:=v}):=h.j5 d 3 (by omega) c rfl
structure D9(w:World)(g p:Nat)(r:bq):Prop where
 c0:w.cell? (g,p*4)=some (.int .u64 r.times)
 c1:w.cell? (g,p*4+1)=some (.int .u64 r.handle)
 c2:w.cell? (g,p*4+2)=some (.int .i64 r.kind)
 c3:w.cell? (g,p*4+3)=some (.int .u64 r.addr)
 fr:∀j,w.frozen? ⟨g,j,none⟩=false
 lt:g<w.heap.size
theorem bP.cells{l:List bq}(h:bP w b g l){r:bq}(c:l[p]?=some r):D9 w g p r:=
 ⟨h.rows.at bq.len c (j:=0) (by omega) rfl,h.rows.at bq.len c (by omega) rfl,h.rows.at bq.len c (by omega) rfl,h.rows.at bq.len c (by omega) rfl,fun j=>h.rows.free j,h.rows.lt⟩
theorem fe(t:TypeId)(x:Value)(w:World):Calls prog 78 #[.iface t x] w (fun e w'=>e=.returned (.iface 185 (.pointer (some (w.heap.size,0))))/\w.alloc (.cells #[.string ⟨#[111,98,106,101,99,116,115]⟩,.int .i64 0,.iface t x] 187)=w'):=by
 go_wp2
 go_ret;exact⟨rfl,rfl⟩
def rT(h:Int):Nat:=(IntKind.u64.wrap (h-1)%64).toNat
def jl(l:List bq)(h:Int):Option Nat:=
 if h==0 then none else
 match l[rT h]? with
 |none=>none
 |some r=>if r.handle==h then some (rT h)else none
theorem nP{l:List bq}{h:Int}(c:jl l h=some p):∃r,l[p]?=some r/\r.handle=h/\h≠0:=by
 unfold jl at c;split at c
 ·cases c
 ·rename_i d
  split at c
  ·cases c
  ·rename_i r f
   split at c
   ·rename_i e
    have:rT h=p:=(by simpa using c);subst this;exact⟨r,f,by simpa using e,by simpa using d⟩
   ·cases c
def xl(g:Nat):Option Nat->Value
 |none=> .pointer none
 |some p=> .pointer (some (g,p*4))
theorem pA(b g:Nat)(l:List bq)(h:Int)(w:World)(d:bP w b g l):Calls prog 197 #[(b,0),.int .u64 h] w (ez (xl g (jl l h)) w):=by
 cases j:h==0
 ·have hb:=bO (h-1)
  have k:=hb.lo;have y:=d.head.c1;obtain⟨p,m⟩:∃p:Nat,(p:Int)=IntKind.u64.wrap (h-1)%64:=⟨(IntKind.u64.wrap (h-1)%64).toNat,by omega⟩;have n:p<64:=by omega
  obtain⟨r,f⟩:∃r,l[p]?=some r:=⟨_,List.getElem?_eq_getElem (by rw[d.len];exact n)⟩;have o:rT h=p:=by unfold rT;omega
  obtain⟨s,t,u,x,fr,z⟩:=d.cells f;have e:Hid (jl l h=if r.handle==h then some p else none):=Z (by unfold jl;rw[j,o,f];rfl);have A:(p:Int)<64:=by omega
  have B:(IntKind.u64.wrap (h-1)).tmod 64=(p:Int):=by rw[Int.tmod_eq_emod_of_nonneg k];exact m.symm
  clear m o f d n s u x fr hb k;obtain⟨i,q⟩:=nm r.handle;rw[q]at e t;clear q;cases c:i==h
  ·rw[c]at e
   have hb:(i !=h)=true:=(by simpa using c);clear c;go_wp2
   go_ret;exact ez.mk (by rw[e];rfl)
  ·rw[c]at e
   have hb:(i !=h)=false:=(by simpa using c);clear c;go_wp2
   go_ret;exact ez.mk (by rw[e];rfl)
 ·have E:Hid (jl l h=none):=Z (by unfold jl;rw[j];rfl)
  clear d;go_wp2
  go_ret;exact ez.mk (by rw[E];rfl)
def gp(l:List bq)(h kind:Int):Option Int:=
 match jl l h with
 |none=>none
 |some p=>match l[p]? with
  |none=>none
  |some r=>if r.kind !=kind then none else some r.addr
def zC(x:Option Int)(w:World)(e:Ending)(w':World):Prop:=
 (match x with
  |some a=>e=.returned (.tuple #[.int .u64 a,.nilIface])
  |none=>∃v,e=.returned (.tuple #[.int .u64 0,v])/\ar v)/\Ch ag w w'
theorem rU(b g:Nat)(l:List bq)(h kind:Int)(w:World)(f:bP w b g l):
 Calls prog 154 #[(b,0),.int .u64 h,kind] w (zC (gp l h kind) w):=by
 have c:=Z (pA b g l h w f);cases d:jl l h with
 |none=>
  have E:Hid (gp l h kind=none):=Z (by unfold gp;rw[d]);rw[d]at c;go_in
  go_wp2_with (first|(go_at_call 197;refine c.mono ?_;rintro e w' ⟨rfl,rfl⟩;simp only[xl])|(go_at_call 78;refine(fe _ _ _).mono ?_;rintro e w' ⟨rfl,rfl⟩))
  go_ret2;rw[E];exact⟨⟨_,rfl,ar.mk _ _⟩,ay⟩
 |some p=>
  obtain⟨r,j,-,-⟩:=nP d;obtain⟨m,n,o,q,fr,s⟩:=f.cells j;have E:Hid (gp l h kind=if r.kind !=kind then none else some r.addr):=Z (by unfold gp;rw[d];simp only[j]);rw[d]at c;obtain⟨times,handle,k,addr⟩:=r;dsimp only at*;cases i:k !=kind
  ·rw[i]at E
   go_in
   go_wp2_with (first|(go_at_call 197;refine c.mono ?_;rintro e w' ⟨rfl,rfl⟩;simp only[xl])|(go_at_call 78;refine(fe _ _ _).mono ?_;rintro e w' ⟨rfl,rfl⟩))
   go_ret2;rw[E];exact⟨rfl,Ch.refl _ _⟩
  ·rw[i]at E
   go_in
   go_wp2_with (first|(go_at_call 197;refine c.mono ?_;rintro e w' ⟨rfl,rfl⟩;simp only[xl])|(go_at_call 78;refine(fe _ _ _).mono ?_;rintro e w' ⟨rfl,rfl⟩))
   go_ret2;rw[E];exact⟨⟨_,rfl,ar.mk _ _⟩,ay⟩
def bq.gone(r:bq):bq:=⟨r.times,0,0,0⟩
def iZ(l:List bq)(h:Int):Bool×List bq:=
 match jl l h with
 |none=>(false,l)
 |some p=>match l[p]? with
  |none=>(false,l)
  |some r=>(true,l.set p r.gone)
def D'(ok:Bool)(b g:Nat)(l':List bq)(w:World)(e:Ending)(w':World):Prop:=
 (∃v,e=.returned v/\(if ok then v=.nilIface else ar v))/\bP w' b g l'/\Ch (aH g) w w'
theorem rV(b g:Nat)(l:List bq)(h:Int)(w:World)(d:bP w b g l):
 Calls prog 184 #[(b,0),.int .u64 h] w (D' (iZ l h).1 b g (iZ l h).2 w):=by
 have k:=Z d;have f:=Z (pA b g l h w d);cases c:jl l h with
 |none=>
  have E:Hid (iZ l h=(false,l)):=Z (by unfold iZ;rw[c]);rw[c]at f;go_in
  go_wp2_with (first|(go_at_call 197;refine f.mono ?_;rintro e w' ⟨rfl,rfl⟩;simp only[xl])|(go_at_call 78;refine(fe _ _ _).mono ?_;rintro e w' ⟨rfl,rfl⟩))
  go_ret;rw[E];exact⟨⟨_,rfl,ar.mk _ _⟩,k.alloc _,ay⟩
 |some p=>
  obtain⟨r,j,-,-⟩:=nP c;obtain⟨o,q,s,t,fr,u⟩:=d.cells j;have E:Hid (iZ l h=(true,l.set p r.gone)):=Z (by unfold iZ;rw[c];simp only[j]);obtain⟨n,i⟩:=d.start j;have m:=Z n;rw[c]at f;obtain⟨times,handle,x,addr⟩:=r;dsimp only at*;go_in
  go_wp2_with (first|(go_at_call 197;refine f.mono ?_;rintro e w' ⟨rfl,rfl⟩;simp only[xl])|(go_at_call 78;refine(fe _ _ _).mono ?_;rintro e w' ⟨rfl,rfl⟩))
  go_ret;rw[E];exact⟨⟨_,rfl,rfl⟩,((m.s1 i rfl).s2 i rfl).s3 i rfl,ay⟩
def kL:List bq->Nat->Option Nat
 |[],_=>none
 |r::l,k=>if r.handle !=0 then kL l (k+1)else some k
def fP(l:List bq)(kind addr:Int):Option Int×List bq:=
 if kind<1∨6<kind then(none,l)else
 match kL l 0 with
 |none=>(none,l)
 |some p=>match l[p]? with
  |none=>(none,l)
  |some r=>
   let h:=IntKind.u64.wrap (p+1+IntKind.u64.wrap (64*r.times))
   (some h,l.set p ⟨IntKind.u64.wrap (r.times+1),h,kind,addr⟩)
def Cg(x:Option Int×List bq)(b g:Nat)(w:World)(e:Ending)(w':World):Prop:=
 (match x.1 with
  |some id=>e=.returned (.tuple #[.int .u64 id,.nilIface])
  |none=>∃v,e=.returned (.tuple #[.int .u64 0,v])/\ar v)/\bP w' b g x.2/\Ch (aH g) w w'
theorem rW(b g:Nat)(l:List bq)(kind addr:Int)(w:World)(d:bP w b g l):
 Calls prog 183 #[(b,0),kind,.int .u64 addr] w (Cg (fP l kind addr) b g w):=by
 have c:=Z d;have F:=d.head.c1;have hlen:=Z d.len;have J:=d.head.lt;have B:(kind<1)∨(¬kind<1/\6<kind)∨(¬kind<1/\¬6<kind):=by omega
 rcases B with k1|⟨k1,k2⟩|⟨k1,k2⟩
 ·have E:Hid (fP l kind addr=(none,l)):=Z (by unfold fP;rw[if_pos (Or.inl k1)])
  go_in
  go_wp2_with (go_at_call 78;refine(fe _ _ _).mono ?_;rintro e w' ⟨rfl,rfl⟩)
  go_ret2;rw[E];exact⟨⟨_,rfl,ar.mk _ _⟩,c.alloc _,ay⟩
 ·have E:Hid (fP l kind addr=(none,l)):=Z (by unfold fP;rw[if_pos (Or.inr k2)])
  go_in
  go_wp2_with (go_at_call 78;refine(fe _ _ _).mono ?_;rintro e w' ⟨rfl,rfl⟩)
  go_ret2;rw[E];exact⟨⟨_,rfl,ar.mk _ _⟩,c.alloc _,ay⟩
 have n:Hid (¬(kind<1∨6<kind)):=Z (by omega);have d1:decide (kind<1)=false:=by simpa using k1
 have d2:decide (6<kind)=false:=by simpa using k2
 go_wp2
 go_loop [23] (fun s=>∃k:Nat,s=.int .i64 k/\k<=64/\Hid (kL (l.drop k) k=kL l 0)) (fun s=>64-(intOf s).toNat)
 case atStart=>exact⟨0,rfl,Nat.zero_le _,rfl⟩
 case round=>
  obtain⟨k,rfl,K,i⟩:=hrel;by_cases A:k<64
  ·obtain⟨r,h⟩:∃r,l[k]?=some r:=⟨_,List.getElem?_eq_getElem (by rw[hlen.out];exact A)⟩
   obtain⟨D,G,H,I,fr,N⟩:=c.cells h;have z:l.drop k=r::l.drop (k+1):=by
    obtain⟨x,y⟩:=List.getElem?_eq_some_iff.1 h;rw[List.drop_eq_getElem_cons x,y]
   have m:=Z z;obtain⟨C,f⟩:=c.start h;have u:=Z C;have t:=Z h;have M:(k:Int)<64:=(by omega);obtain⟨times,handle,P,O⟩:=r;dsimp only at*;cases o:handle !=0
   ·have E:Hid (fP l kind addr=(some (IntKind.u64.wrap (k+1+IntKind.u64.wrap (64*times))),l.set k ⟨IntKind.u64.wrap (times+1),IntKind.u64.wrap (k+1+IntKind.u64.wrap (64*times)),kind,addr⟩)):=Z (by
     have j:kL l 0=some k:=(by rw[<-i,m,kL];simp only[o];rfl);unfold fP;rw[if_neg n.out,j];simp only[t.out])
    go_wp2
    go_ret2;rw[E];refine⟨rfl,?_,?_⟩
    ·exact(((u.s1 f rfl).s2 f rfl).s3 f rfl).s0 f rfl
    ·exact ay
   ·have q:Hid (kL (l.drop (k+1)) (k+1)=kL l 0):=Z (by rw[<-i,m];show _=if(handle !=0)=true then _ else _;rw[if_pos o])
    go_wp2
    go_round
    case rel=>exact⟨k+1,by go_num,by omega,q⟩
    case measure=>simp[intOf];omega
  ·have L:¬(k:Int)<64:=by omega
   have E:Hid (fP l kind addr=(none,l)):=Z (by
    have j:kL l 0=none:=(by rw[<-i,List.drop_eq_nil_of_le (by rw[hlen.out];omega)];rfl);unfold fP;rw[if_neg n.out,j])
   go_wp2_with (go_at_call 78;refine(fe _ _ _).mono ?_;rintro e w' ⟨rfl,rfl⟩)
   go_ret2;rw[E];exact⟨⟨_,rfl,ar.mk _ _⟩,c.alloc _,ay⟩
