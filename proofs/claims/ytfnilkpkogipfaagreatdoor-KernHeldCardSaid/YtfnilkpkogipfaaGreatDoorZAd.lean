import Derived.Maps.Keyed
import Derived.Test.YtfnilkpkogipfaaGreatDoorZAc
set_option linter.unusedVariables false
set_option linter.unusedSimpArgs false
set_option maxRecDepth 100000
set_option maxHeartbeats 8000000
namespace Go.Proofs.YtfnilkpkogipfaaGreatDoor
open Go.RowKit Go.Proofs.Tryz
def DE(b c:Int):Int:=IntKind.u64.wrap (b*2^min (bits .and .u64 c 63).toNat 64)
def Av(b c:Int):Int:=b.fdiv (2^min (bits .and .u64 c 63).toNat 64)
theorem Aw(b c:Int)(w:World):(Op.shift .shl .u64 b .u64 (bits .and .u64 c 63)).run prog w=.ok (.int .u64 (DE b c)) w:=by
 have:=(iN .and c 63).lo;unfold Op.shift;rw[if_neg (by omega)];rfl
theorem Ax(b c:Int)(w:World):(Op.shift .shr .u64 b .u64 (bits .and .u64 c 63)).run prog w=.ok (.int .u64 (Av b c)) w:=by
 have:=(iN .and c 63).lo;unfold Op.shift;rw[if_neg (by omega)];rfl
theorem Ay(b c:Int)(h:aH b):aH (Av b c):=by
 have a:=h.lo;have d:=h.hi;unfold Av;have e:(0:Int)<2^min (bits .and .u64 c 63).toNat 64:=Int.pow_pos (by omega);rw[Int.fdiv_eq_ediv_of_nonneg _ (by omega)];exact⟨Int.ediv_nonneg a (by omega),Int.lt_of_le_of_lt (Int.ediv_le_self _ a) d⟩
def ha(x:aV)(b c:Int):Int:=
 if x.op=1 then x.v
 else if x.op=3 then sQ 64 b c
 else if x.op=4 then xO 64 b c
 else if x.op=5 then bits .and .u64 b c
 else if x.op=6 then bits .or .u64 b c
 else if x.op=7 then bits .xor .u64 b c
 else if x.op=8 then DE b c
 else if x.op=9 then Av b c
 else if x.op=10 then uy (b==c)
 else if x.op=11 then uy (decide (b<c))
 else b
theorem xZ(b:Bool):aH (uy b):=by cases b<;>exact⟨by decide,by decide⟩
theorem sV(x:aV)(b c:Int)(a:aH x.v)(hb:aH b):aH (ha x b c):=by
 unfold ha
 repeat' split
 all_goals first|exact a|exact mD _ _ _|exact xP _ _ _|exact iN _ _ _|exact cj _|exact Ay _ _ hb|exact xZ _|exact hb
theorem sW(x:aV)(b c:Int)(w:World):Calls prog 71 #[aI x,.int .u64 b,.int .u64 c] w (dt (.int .u64 (ha x b c)) w):=by
 unfold aI aC;have a:=Aw b c;have d:=Ax b c;go_enter func71,ntmps71
 go_wp2_with (first|(go_at_call 117;refine(pH _ _ _ _).mono ?_;rintro e w' ⟨rfl,rfl⟩)|(go_at_call 118;refine(xQ _ _ _ _).mono ?_;rintro e w' ⟨rfl,rfl⟩)|(go_at_call 119;refine(xY _ _).mono ?_;rintro e w' ⟨rfl,rfl⟩))
 all_goals
  go_ret;refine dt.mk ?_ ((Ch.refl _ _).alloc _);simp only[beq_iff_eq,beq_eq_false_iff_ne,ne_eq]at*;unfold ha
  repeat first
   |rfl
   |rw[if_pos (by omega)]
   |rw[if_neg (by omega)]
def m4(op:Int):Bool:=op==12||op==13||op==14||op==15
def bt(x:aV)(n:Nat):Bool:=
 if m4 x.op then decide (x.v<n)&&ep {x with v:=0,m:=0,wh:=0} 1 (x.op !=22)
 else ep {x with m:=0,wh:=0} 1 (x.op !=22)
theorem m5(y:aV)(g:Nat)(c:Bool)(w:World)(h:Row w g 121 (aC y).toList):
 Calls prog 115 #[.slice (some (g,0)) 1 1,.bool c] w (fun e w'=>(∃u,e=.returned u/\(if ep y 1 c then u=.nilIface else aq u))/\Ch ag w w'):=by
 have l:eE w g [y]:=⟨h.lt,fun j u k=>h.cell (by simpa[b']using k)⟩;refine(oR [y] (some ⟨g,0,none⟩) 1 c (by simp) (by simp) w (fun _=>⟨g,rfl,l⟩)).mono ?_;intro e w' a;have hb:gE ([y]:List aV).length c [y] 0=if ep y 1 c then none else some 0:=rfl
 rw[hb]at a;cases d:ep y 1 c
 ·rw[d]at a
  obtain⟨b,i,_,_,f⟩:=a;exact⟨⟨_,i,aq.mk _ _⟩,Ch.bY f⟩
 ·rw[d]at a
  exact⟨⟨_,a.1,rfl⟩,Ch.bY a.2⟩
theorem qV(x:aV)(n:Nat)(z:n<=100000)(w:World):Calls prog 67 #[aI x,.int .i64 n] w (dt (.bool (bt x n)) w):=by
 obtain⟨op,a,b,c,v,m,o⟩:=x;unfold aI aC;dsimp only;cases f:m4 op
 ·have t:(op==12)=false/\(op==13)=false/\(op==14)=false/\(op==15)=false:=by
   unfold m4 at f;simp only[Bool.or_eq_false_iff]at f;exact⟨f.1.1.1,f.1.1.2,f.1.2,f.2⟩
  obtain⟨A,B,C,D⟩:=t;have E:Hid (bt ⟨op,a,b,c,v,m,o⟩ n=ep ⟨op,a,b,c,v,0,0⟩ 1 (op !=22)):=Z (by unfold bt;rw[show m4 (aV.mk op a b c v m o).op=false from f];rfl);have p:=Z (fun g q w h=>m5 ⟨op,a,b,c,v,0,0⟩ g q w h);clear f;go_enter func67,ntmps67
  go_wp2_with fail
  have l:Row ((w.alloc (.cells #[op,a,b,c,.int .u64 v,.int .i64 0,.int .i64 0] 121)).alloc (.cells #[op,a,b,c,.int .u64 v,.int .i64 0,.int .i64 0] 121)) (w.heap.size+1) 121 (aC ⟨op,a,b,c,v,0,0⟩).toList:=by
   have:=Row.new (w.alloc (.cells #[op,a,b,c,.int .u64 v,.int .i64 0,.int .i64 0] 121)) #[op,a,b,c,.int .u64 v,.int .i64 0,.int .i64 0] 121;rw[World.size_alloc]at this;exact this
  refine(p _ _ _ l).mono ?_;rintro e w2 ⟨⟨u,rfl,d⟩,j⟩;have i:Hid (Ch ag w w2):=Z ((((Ch.refl _ _).alloc _).alloc _).trans j);clear j l;obtain⟨r,k⟩:=nm (ep ⟨op,a,b,c,v,0,0⟩ 1 (op !=22));rw[k]at d E;clear k;cases r
  ·obtain⟨tt,y,rfl⟩:aq u:=d
   go_wp2
   go_ret;exact dt.mk (by rw[E];rfl) i
  ·obtain rfl:u=.nilIface:=d
   go_wp2
   go_ret;exact dt.mk (by rw[E];rfl) i
 ·have t:op=12∨op=13∨op=14∨op=15:=by
   unfold m4 at f;simpa[or_assoc]using f
  by_cases s:v<n
  ·rcases t with rfl|rfl|rfl|rfl
   ·have E:Hid (bt ⟨12,a,b,c,v,m,o⟩ n=ep ⟨12,a,b,c,0,0,0⟩ 1 true):=Z (by unfold bt;rw[if_pos (by rfl),decide_eq_true s];rfl)
    have p:=Z (fun g q w h=>m5 ⟨12,a,b,c,0,0,0⟩ g q w h);clear f;go_enter func67,ntmps67
    go_wp2_with fail
    have l:Row ((w.alloc (.cells #[.int .i64 12,a,b,c,.int .u64 0,.int .i64 0,.int .i64 0] 121)).alloc (.cells #[.int .i64 12,a,b,c,.int .u64 0,.int .i64 0,.int .i64 0] 121)) (w.heap.size+1) 121 (aC ⟨12,a,b,c,0,0,0⟩).toList:=by
     have:=Row.new (w.alloc (.cells #[.int .i64 12,a,b,c,.int .u64 0,.int .i64 0,.int .i64 0] 121)) #[.int .i64 12,a,b,c,.int .u64 0,.int .i64 0,.int .i64 0] 121;rw[World.size_alloc]at this;exact this
    refine(p _ _ _ l).mono ?_;rintro e w2 ⟨⟨u,rfl,d⟩,j⟩;have i:Hid (Ch ag w w2):=Z ((((Ch.refl _ _).alloc _).alloc _).trans j);clear j l;obtain⟨r,k⟩:=nm (ep ⟨12,a,b,c,0,0,0⟩ 1 true);rw[k]at d E;clear k;cases r
    ·obtain⟨tt,y,rfl⟩:aq u:=d
     go_wp2
     go_ret;exact dt.mk (by rw[E];rfl) i
    ·obtain rfl:u=.nilIface:=d
     go_wp2
     go_ret;exact dt.mk (by rw[E];rfl) i
   ·have E:Hid (bt ⟨13,a,b,c,v,m,o⟩ n=ep ⟨13,a,b,c,0,0,0⟩ 1 true):=Z (by unfold bt;rw[if_pos (by rfl),decide_eq_true s];rfl)
    have p:=Z (fun g q w h=>m5 ⟨13,a,b,c,0,0,0⟩ g q w h);clear f;go_enter func67,ntmps67
    go_wp2_with fail
    have l:Row ((w.alloc (.cells #[.int .i64 13,a,b,c,.int .u64 0,.int .i64 0,.int .i64 0] 121)).alloc (.cells #[.int .i64 13,a,b,c,.int .u64 0,.int .i64 0,.int .i64 0] 121)) (w.heap.size+1) 121 (aC ⟨13,a,b,c,0,0,0⟩).toList:=by
     have:=Row.new (w.alloc (.cells #[.int .i64 13,a,b,c,.int .u64 0,.int .i64 0,.int .i64 0] 121)) #[.int .i64 13,a,b,c,.int .u64 0,.int .i64 0,.int .i64 0] 121;rw[World.size_alloc]at this;exact this
    refine(p _ _ _ l).mono ?_;rintro e w2 ⟨⟨u,rfl,d⟩,j⟩;have i:Hid (Ch ag w w2):=Z ((((Ch.refl _ _).alloc _).alloc _).trans j);clear j l;obtain⟨r,k⟩:=nm (ep ⟨13,a,b,c,0,0,0⟩ 1 true);rw[k]at d E;clear k;cases r
    ·obtain⟨tt,y,rfl⟩:aq u:=d
     go_wp2
     go_ret;exact dt.mk (by rw[E];rfl) i
    ·obtain rfl:u=.nilIface:=d
     go_wp2
     go_ret;exact dt.mk (by rw[E];rfl) i
   ·have E:Hid (bt ⟨14,a,b,c,v,m,o⟩ n=ep ⟨14,a,b,c,0,0,0⟩ 1 true):=Z (by unfold bt;rw[if_pos (by rfl),decide_eq_true s];rfl)
    have p:=Z (fun g q w h=>m5 ⟨14,a,b,c,0,0,0⟩ g q w h);clear f;go_enter func67,ntmps67
    go_wp2_with fail
    have l:Row ((w.alloc (.cells #[.int .i64 14,a,b,c,.int .u64 0,.int .i64 0,.int .i64 0] 121)).alloc (.cells #[.int .i64 14,a,b,c,.int .u64 0,.int .i64 0,.int .i64 0] 121)) (w.heap.size+1) 121 (aC ⟨14,a,b,c,0,0,0⟩).toList:=by
     have:=Row.new (w.alloc (.cells #[.int .i64 14,a,b,c,.int .u64 0,.int .i64 0,.int .i64 0] 121)) #[.int .i64 14,a,b,c,.int .u64 0,.int .i64 0,.int .i64 0] 121;rw[World.size_alloc]at this;exact this
    refine(p _ _ _ l).mono ?_;rintro e w2 ⟨⟨u,rfl,d⟩,j⟩;have i:Hid (Ch ag w w2):=Z ((((Ch.refl _ _).alloc _).alloc _).trans j);clear j l;obtain⟨r,k⟩:=nm (ep ⟨14,a,b,c,0,0,0⟩ 1 true);rw[k]at d E;clear k;cases r
    ·obtain⟨tt,y,rfl⟩:aq u:=d
     go_wp2
     go_ret;exact dt.mk (by rw[E];rfl) i
    ·obtain rfl:u=.nilIface:=d
     go_wp2
     go_ret;exact dt.mk (by rw[E];rfl) i
   ·have E:Hid (bt ⟨15,a,b,c,v,m,o⟩ n=ep ⟨15,a,b,c,0,0,0⟩ 1 true):=Z (by unfold bt;rw[if_pos (by rfl),decide_eq_true s];rfl)
    have p:=Z (fun g q w h=>m5 ⟨15,a,b,c,0,0,0⟩ g q w h);clear f;go_enter func67,ntmps67
    go_wp2_with fail
    have l:Row ((w.alloc (.cells #[.int .i64 15,a,b,c,.int .u64 0,.int .i64 0,.int .i64 0] 121)).alloc (.cells #[.int .i64 15,a,b,c,.int .u64 0,.int .i64 0,.int .i64 0] 121)) (w.heap.size+1) 121 (aC ⟨15,a,b,c,0,0,0⟩).toList:=by
     have:=Row.new (w.alloc (.cells #[.int .i64 15,a,b,c,.int .u64 0,.int .i64 0,.int .i64 0] 121)) #[.int .i64 15,a,b,c,.int .u64 0,.int .i64 0,.int .i64 0] 121;rw[World.size_alloc]at this;exact this
    refine(p _ _ _ l).mono ?_;rintro e w2 ⟨⟨u,rfl,d⟩,j⟩;have i:Hid (Ch ag w w2):=Z ((((Ch.refl _ _).alloc _).alloc _).trans j);clear j l;obtain⟨r,k⟩:=nm (ep ⟨15,a,b,c,0,0,0⟩ 1 true);rw[k]at d E;clear k;cases r
    ·obtain⟨tt,y,rfl⟩:aq u:=d
     go_wp2
     go_ret;exact dt.mk (by rw[E];rfl) i
    ·obtain rfl:u=.nilIface:=d
     go_wp2
     go_ret;exact dt.mk (by rw[E];rfl) i
  ·rcases t with rfl|rfl|rfl|rfl
   ·have E:Hid (bt ⟨12,a,b,c,v,m,o⟩ n=false):=Z (by unfold bt;rw[if_pos (by rfl),decide_eq_false s,Bool.false_and])
    clear f;go_enter func67,ntmps67
    go_wp2
    go_ret;exact dt.mk (by rw[E];rfl) ((Ch.refl _ _).alloc _)
   ·have E:Hid (bt ⟨13,a,b,c,v,m,o⟩ n=false):=Z (by unfold bt;rw[if_pos (by rfl),decide_eq_false s,Bool.false_and])
    clear f;go_enter func67,ntmps67
    go_wp2
    go_ret;exact dt.mk (by rw[E];rfl) ((Ch.refl _ _).alloc _)
   ·have E:Hid (bt ⟨14,a,b,c,v,m,o⟩ n=false):=Z (by unfold bt;rw[if_pos (by rfl),decide_eq_false s,Bool.false_and])
    clear f;go_enter func67,ntmps67
    go_wp2
    go_ret;exact dt.mk (by rw[E];rfl) ((Ch.refl _ _).alloc _)
   ·have E:Hid (bt ⟨15,a,b,c,v,m,o⟩ n=false):=Z (by unfold bt;rw[if_pos (by rfl),decide_eq_false s,Bool.false_and])
    clear f;go_enter func67,ntmps67
    go_wp2
    go_ret;exact dt.mk (by rw[E];rfl) ((Ch.refl _ _).alloc _)
section
open Go.MapKept
section
variable{α:Type}
def dU:List (Int×α)->Int->Nat->Option (Nat×α)
 |[],_,_=>none
 |x::l,k,i=>if k==x.1 then some (i,x.2)else dU l k (i+1)
def aw(l:List (Int×α))(k:Int):Option α:=(dU l k 0).map (·.2)
def b8(l:List (Int×α))(k:Int)(v:α):List (Int×α):=
 match dU l k 0 with
 |some (i,_)=>l.set i (k,v)
 |none=>l++[(k,v)]
def fk(l:List (Int×α))(k:Int):List (Int×α):=
 match dU l k 0 with
 |some (i,_)=>l.eraseIdx i
 |none=>l
theorem fY:∀(l:List (Int×α)) (k:Int) (i:Nat),dU l k i=(dU l k 0).map fun x=>(x.1+i,x.2)
 |[],_,_=>rfl
 |x::l,k,i=>by
  unfold dU;split
  ·simp
  ·rw[fY l k (i+1),fY l k (0+1)]
   cases dU l k 0 with
   |none=>rfl
   |some y=>simp;omega
theorem m6:∀(l:List (Int×α)) (k:Int) (i j:Nat) (v:α),dU l k i=some (j,v)->i<=j/\j<i+l.length/\l[j-i]?=some (k,v)
 |[],_,_,_,_,h=>by cases h
 |x::l,k,i,j,v,h=>by
  unfold dU at h;split at h
  ·rename_i c
   have:i=j/\x.2=v:=by simpa using h
   obtain⟨rfl,rfl⟩:=this;have d:k=x.1:=by simpa using c
   exact⟨Nat.le_refl _,by simp,by simp[d]⟩
  ·obtain⟨e,f,a⟩:=m6 l k (i+1) j v h
   refine⟨by omega,by simp;omega,?_⟩;rw[show j-i=(j-(i+1))+1 from by omega,List.getElem?_cons_succ];exact a
end
def bH{α:Type}(w:World)(b:Nat)(q:IntKind)(enc:α->Value)(l:List (Int×α)):Prop:=
 ∃a clock,w.heap[b]?=some (.map a clock)/\a.toList.map (fun e=>(e.key,e.val))=l.map fun x=>(Value.int q x.1,enc x.2)
theorem bH.lt{α:Type}{w:World}{b:Nat}{q:IntKind}{enc:α->Value}{l:List (Int×α)}(h:bH w b q enc l):b<w.heap.size:=by
 obtain⟨d,c,a,_⟩:=h;exact(Array.getElem?_eq_some_iff.1 a).1
theorem bH.ch{α:Type}{w w':World}{D:Nat->Prop}{b:Nat}{q:IntKind}{enc:α->Value}{l:List (Int×α)}(h:bH w b q enc l)(c:Ch D w w')(f:¬D b):bH w' b q enc l:=by
 have hb:=h.lt;obtain⟨a,k,d,e⟩:=h;exact⟨a,k,(c.same b hb f).trans d,e⟩
theorem bH.alloc{α:Type}{w:World}{b:Nat}{q:IntKind}{enc:α->Value}{l:List (Int×α)}(h:bH w b q enc l)(a:Obj):bH (w.alloc a) b q enc l:=h.ch ((Ch.refl ag w).alloc a) (fun h=>h)
theorem bH.drew{α:Type}{w:World}{b:Nat}{q:IntKind}{enc:α->Value}{l:List (Int×α)}(h:bH w b q enc l):bH w.drew b q enc l:=h
theorem bH.drewN{α:Type}{w:World}{b:Nat}{q:IntKind}{enc:α->Value}{l:List (Int×α)}(h:bH w b q enc l)(n:Nat):bH (w.drewN n) b q enc l:=h
theorem bH.ne{α:Type}{w:World}{b g:Nat}{q:IntKind}{enc:α->Value}{l:List (Int×α)}{t:TypeId}{cs:List Value}(h:bH w b q enc l)(d:Row w g t cs):b≠g:=by
 intro e;subst e;obtain⟨f,c,a,_⟩:=h;unfold Row at d;rw[d]at a;cases a
theorem bH.other{α:Type}{w:World}{b:Nat}{q:IntKind}{enc:α->Value}{l:List (Int×α)}(h:bH w b q enc l){p:Addr}(f:b≠p.block)(v:Value):bH (w.setCell p v) b q enc l:=by
 obtain⟨a,c,d,e⟩:=h;exact⟨a,c,(Below.heap_setCell _ _ _ _ f).trans d,e⟩
theorem hG{α:Type}(q:IntKind)(enc:α->Value)(k:Int):∀(a:List MapEntry) (l:List (Int×α)) (i:Nat),a.map (fun e=>(e.key,e.val))=l.map (fun x=>(Value.int q x.1,enc x.2))->
 Instr.findNow (.int q) (.int q k) a i=some ((dU l k i).map fun x=>(x.1,enc x.2))
 |[],[],i,_=>rfl
 |[],x::l,i,h=>by cases h
 |e::a,[],i,h=>by cases h
 |e::a,x::l,i,h=>by
  simp only[List.map_cons,List.cons.injEq,Prod.mk.injEq]at h;obtain⟨⟨c,d⟩,f⟩:=h;have ih:=hG q enc k a l (i+1) f;unfold Instr.findNow Instr.sameNow dU;rw[c];simp only[if_pos rfl];cases g:(k==x.1)
  ·simpa using ih
  ·simp[d]
section
variable{P:Program}{w:World}{b:Nat}{q:IntKind}{α:Type}{enc:α->Value}{l:List (Int×α)}
theorem fl{T K E:TypeId}{z:Value}(g:P.underlying T=some (.map K E))(d:P.underlying K=some (.int q))(m:(zeroValue E).run P w=.ok z w)(h:bH w b q enc l)(k:Int):
 (Instr.lookup T (.map (some b)) (.int q k) false).run P w=.ok (((aw l k).map enc).getD z) w:=by
 obtain⟨a,c,e,f⟩:=h;have i:=hG q enc k a.toList l 0 f;have j:Go.MapKept.IsKey (.int q) (.int q k):=by simp[Go.MapKept.IsKey]
 simp[Instr.lookup,run_underlying g, @Go.MapKept.run_getObj_map P w b a c e, @Go.MapKept.run_checkKey P w K _ _ d j, @Go.MapKept.run_findKey P w K _ _ _ _ d i,Result.andThen];unfold aw;cases dU l k 0<;>simp[m,Result.andThen]
theorem ht{T K E:TypeId}{z:Value}(g:P.underlying T=some (.map K E))(d:P.underlying K=some (.int q))(m:(zeroValue E).run P w=.ok z w)(h:bH w b q enc l)(k:Int):
 (Instr.lookup T (.map (some b)) (.int q k) true).run P w=.ok (.tuple #[((aw l k).map enc).getD z,.bool (aw l k).isSome]) w:=by
 obtain⟨a,c,e,f⟩:=h;have i:=hG q enc k a.toList l 0 f;have j:Go.MapKept.IsKey (.int q) (.int q k):=by simp[Go.MapKept.IsKey]
 simp[Instr.lookup,run_underlying g, @Go.MapKept.run_getObj_map P w b a c e, @Go.MapKept.run_checkKey P w K _ _ d j, @Go.MapKept.run_findKey P w K _ _ _ _ d i,Result.andThen];unfold aw;cases dU l k 0<;>simp[m,Result.andThen]
def putObj(w:World)(b:Nat)(a:Obj):World:={w with heap:=w.heap.setIfInBounds b a}
theorem hc(w:World)(b:Nat)(a:Obj)(hb:b<w.heap.size):(putObj w b a).heap[b]?=some a:=by simp[putObj,hb]
theorem jr{D:Nat->Prop}(w:World)(b:Nat)(d:Obj)(a:D b):Ch D w (putObj w b d):=
 ⟨rfl,rfl,rfl,by simp[putObj],fun i f c=>by
  have:b≠i:=fun e=>c (e▸a)
  simp[putObj,this]⟩
theorem fm{T K E:TypeId}(s:P.underlying T=some (.map K E))(n:P.underlying K=some (.int q))(h:bH w b q enc l)(k:Int)(v:α):
 ∃w',(Instr.mapUpdate T (.map (some b)) (.int q k) (enc v)).run P w=.ok () w'/\bH w' b q enc (b8 l k v)/\Ch (aK b) w w':=by
 have hb:=h.lt;obtain⟨a,c,m,f⟩:=h;have o:=hG q enc k a.toList l 0 f;have r:Go.MapKept.IsKey (.int q) (.int q k):=by simp[Go.MapKept.IsKey]
 cases g:dU l k 0 with
 |none=>
  rw[g]at o;refine⟨putObj w b (.map (a.push {key:=.int q k,val:=enc v,born:=c}) (c+1)),?_,⟨_,_,hc _ _ _ hb,?_⟩,jr _ _ _ rfl⟩
  ·simp[Instr.mapUpdate,run_underlying s, @Go.MapKept.run_getObj_map P w b a c m, @Go.MapKept.run_checkKey P w K _ _ n r, @Go.MapKept.run_findKey P w K _ _ _ _ n o,Result.andThen, @Go.MapKept.run_setObj_map P w b a c _ m,putObj]
  ·unfold b8;rw[g];simp[f]
 |some x=>
  obtain⟨j,u⟩:=x;rw[g]at o;obtain⟨-,D,y⟩:=m6 l k 0 j u g;rw[Nat.sub_zero]at y;have hlen:a.size=l.length:=by have:=congrArg List.length f;simpa using this
  have p:j<a.size:=by omega
  have B:a[j].key=.int q k:=by
   have d:(a.toList.map (fun e=>(e.key,e.val)))[j]?=(l.map fun x=>(Value.int q x.1,enc x.2))[j]?:=by rw[f]
   rw[List.getElem?_map,List.getElem?_map,y]at d;have z:a.toList[j]?=some a[j]:=by simp[p]
   rw[z]at d;have:=Option.some.inj d;exact congrArg Prod.fst this
  refine⟨putObj w b (.map (a.modify j fun e=>{e with key:=.int q k,val:=enc v}) c),?_,⟨_,_,hc _ _ _ hb,?_⟩,jr _ _ _ rfl⟩
  ·have C:= @Go.MapKept.run_keyThatStays P w _ _ r
   simp[Instr.mapUpdate,run_underlying s, @Go.MapKept.run_getObj_map P w b a c m, @Go.MapKept.run_checkKey P w K _ _ n r, @Go.MapKept.run_findKey P w K _ _ _ _ n o,Result.andThen, @Go.MapKept.run_setObj_map P w b a c _ m,putObj,p,B,C]
  ·unfold b8;rw[g]
   apply List.ext_getElem?;intro i;have d:(a.toList.map (fun e=>(e.key,e.val)))[i]?=(l.map fun x=>(Value.int q x.1,enc x.2))[i]?:=by rw[f]
   simp only[List.getElem?_map,List.getElem?_set,Array.toList_modify,List.getElem?_modify]at d⊢;by_cases t:j=i
   ·subst t
    have A:j<l.length:=by omega
    simp[p,A]
   ·simp[t]
    simpa using d
theorem fo{T K E ty kT:TypeId}(m:P.underlying T=some (.map K E))(g:P.underlying K=some (.int q))(h:bH w b q enc l)(k:Int):
 ∃w',(Builtin.delete_ #[T,kT] ty #[.map (some b),.int q k]).run P w=.ok (.tuple #[]) w'/\bH w' b q enc (fk l k)/\Ch (aK b) w w':=by
 have hb:=h.lt;obtain⟨a,c,e,f⟩:=h;have i:=hG q enc k a.toList l 0 f;have n:Go.MapKept.IsKey (.int q) (.int q k):=by simp[Go.MapKept.IsKey]
 cases d:dU l k 0 with
 |none=>
  rw[d]at i;refine⟨putObj w b (.map a c),?_,⟨_,_,hc _ _ _ hb,by unfold fk;rw[d];exact f⟩,jr _ _ _ rfl⟩;simp[Builtin.delete_,run_underlying m, @Go.MapKept.run_getObj_map P w b a c e, @Go.MapKept.run_checkKey P w K _ _ g n, @Go.MapKept.run_findKey P w K _ _ _ _ g i,Result.andThen, @Go.MapKept.run_setObj_map P w b a c _ e,putObj]
 |some x=>
  obtain⟨j,u⟩:=x;rw[d]at i;obtain⟨-,p,r⟩:=m6 l k 0 j u d;have hlen:a.size=l.length:=by have:=congrArg List.length f;simpa using this
  refine⟨putObj w b (.map (a.eraseIdxIfInBounds j) c),?_,⟨_,_,hc _ _ _ hb,?_⟩,jr _ _ _ rfl⟩
  ·simp[Builtin.delete_,run_underlying m, @Go.MapKept.run_getObj_map P w b a c e, @Go.MapKept.run_checkKey P w K _ _ g n, @Go.MapKept.run_findKey P w K _ _ _ _ g i,Result.andThen, @Go.MapKept.run_setObj_map P w b a c _ e,putObj]
  ·unfold fk;rw[d]
   have o:j<a.size:=by omega
   simp only[Array.eraseIdxIfInBounds,o,dite_true,Array.toList_eraseIdx];rw[Go.ChangeMaps.map_eraseIdx,f,<-Go.ChangeMaps.map_eraseIdx]
end
end
structure a8 where
 d:Int
 bS:Int
 h:Int
 deriving DecidableEq,Repr,Inhabited
def a8.cells(t:a8):List Value:=[.int .u64 t.d,.int .u64 t.bS,.int .i64 t.h]
def a8.val(t:a8):Value:=.agg #[.int .u64 t.d,.int .u64 t.bS,.int .i64 t.h]
theorem a8.len(t:a8):t.cells.length=3:=rfl
structure ah where
 l:List a8
 at_:List (Int×Int)
 last:Int
structure aM(w:World)(b mb:Nat)(v:Value)(S:ah):Prop where
 head:Row w b 268 [v,.map (some mb),.int .i64 S.last]
 own:w.ownsRow 0 318 3 v S.l.length (S.l.flatMap a8.cells)
 map:bH w mb .i64 (Value.int .i64) S.at_
def cn(b mb:Nat)(v:Value):Nat->Prop:=fun i=>i=b∨i=mb∨v.ownBlock=some i
theorem ar{w w':World}{D:Nat->Prop}{B:Nat}{e:TypeId}{size:Nat}{v:Value}{n:Nat}{b:List Value}(h:w.ownsRow B e size v n b)(c:Ch D w w')(j:∀g,v.ownBlock=some g->¬D g):w'.ownsRow B e size v n b:=by
 refine⟨h.1,?_⟩;rcases h.2 with d|⟨g,cap,cur,rfl,i,a,f⟩
 ·exact Or.inl d
 ·exact Or.inr ⟨g,cap,cur,rfl,i,(c.same g (Array.getElem?_eq_some_iff.1 a).1 (j g rfl)).trans a,f⟩
theorem aM.alloc{w:World}{b mb:Nat}{v:Value}{S:ah}(h:aM w b mb v S)(a:Obj):aM (w.alloc a) b mb v S:=⟨h.head.alloc a,h.own.alloc a,h.map.alloc a⟩
theorem aM.drew{w:World}{b mb:Nat}{v:Value}{S:ah}(h:aM w b mb v S):aM w.drew b mb v S:=⟨h.head,h.own.drew,h.map⟩
theorem aM.drewN{w:World}{b mb:Nat}{v:Value}{S:ah}(h:aM w b mb v S)(n:Nat):aM (w.drewN n) b mb v S:=⟨h.head,⟨h.own.1,h.own.2⟩,h.map⟩
theorem aM.ch{w w':World}{D:Nat->Prop}{b mb:Nat}{v:Value}{S:ah}(h:aM w b mb v S)(c:Ch D w w')(hb:¬D b)(d:¬D mb)(a:∀g,v.ownBlock=some g->¬D g):aM w' b mb v S:=⟨h.head.ch c hb,ar h.own c a,h.map.ch c d⟩
theorem aM.sl{w:World}{b mb:Nat}{v:Value}{S:ah}(h:aM w b mb v S)(k:0<S.l.length):∃g cap c,v=.slice (some ⟨g,0,none⟩) S.l.length cap/\S.l.length<=cap/\cap<=maxLen/\Row w g 318 (S.l.flatMap a8.cells++c)/\(S.l.flatMap a8.cells++c).length=cap*3:=by
 rcases h.own.2 with⟨_,j⟩|⟨g,cap,cur,rfl,_,e,d,f,i,a⟩
 ·omega
 ·refine⟨g,cap,cur.toList.drop (S.l.length*3),rfl,d,f,?_,?_⟩
  ·unfold Row;rw[<-a,List.take_append_drop];simpa using e
  ·rw[<-a,List.take_append_drop];simpa using i
theorem aM.cell{w:World}{b mb g n cap:Nat}{S:ah}(h:aM w b mb (.slice (some (g,0)) n cap) S){i:Nat}{t:a8}(d:S.l[i]?=some t):
 w.cell? (g,i*3)=some (.int .u64 t.d)/\w.cell? (g,i*3+1)=some (.int .u64 t.bS)/\w.cell? (g,i*3+2)=some (.int .i64 t.h)/\(∀j,w.frozen? ⟨g,j,none⟩=false)/\g<w.heap.size/\g≠b/\mb≠g:=by
 have s:=(List.getElem?_eq_some_iff.1 d).1;obtain⟨o,m,y,f,r,x,c,u⟩:=h.sl (by omega);injection f with a p q
 injection a with a
 injection a with a
 subst a;have e:=a7 a8.len S.l;have key:∀j v,j<3->(t.cells)[j]?=some v->w.cell? ⟨g,i*3+j,none⟩=some v:=fun j v k l=>c.cell (by
  rw[List.getElem?_append_left (by rw[e];omega)];exact(bP a8.len d k).trans l)
 exact⟨key 0 _ (by omega) rfl,key 1 _ (by omega) rfl,key 2 _ (by omega) rfl,fun j=>c.free j,c.lt,c.ne h.head (by decide),h.map.ne c⟩
theorem aM.lay{w:World}{b mb g n cap:Nat}{S:ah}(h:aM w b mb (.slice (some (g,0)) n cap) S){i:Nat}(d:i<S.l.length)(t:a8){i1 i2:Nat}(q:i1=i*3+1)(r:i2=i*3+2):
 aM (((w.setCell (g,i*3) (.int .u64 t.d)).setCell (g,i1) (.int .u64 t.bS)).setCell (g,i2) (.int .i64 t.h)) b mb (.slice (some (g,0)) n cap) {S with l:=S.l.set i t}:=by
 subst q r;obtain⟨x,p⟩:∃x,S.l[i]?=some x:=⟨_,List.getElem?_eq_getElem d⟩;obtain⟨-,-,-,-,-,c,f⟩:=h.cell p;obtain⟨I,H,m,A,z,C,D,B⟩:=h.sl (by omega);injection A with a s u
 injection a with a
 injection a with a
 subst a s u;have o:=a7 a8.len S.l;refine⟨((h.head.other (fun e=>c e.symm) _).other (fun e=>c e.symm) _).other (fun e=>c e.symm) _,?_,((h.map.other f _).other f _).other f _⟩;have E:=D.a' (i*3) (.int .u64 t.d) (l':=(S.l.set i ⟨t.d,x.bS,x.h⟩).flatMap a8.cells++m) (by
  rw[List.set_append_left _ _ (by rw[o];omega)];congr 1;exact fg (j:=0) a8.len p (by omega) rfl)
 have F:=E.a' (i*3+1) (.int .u64 t.bS) (l':=(S.l.set i ⟨t.d,t.bS,x.h⟩).flatMap a8.cells++m) (by
  rw[List.set_append_left _ _ (by rw[a7 a8.len,List.length_set];omega)];congr 1;have:=fg (enc:=a8.cells) (k:=3) (l:=S.l.set i ⟨t.d,x.bS,x.h⟩) (i:=i) (x:=⟨t.d,x.bS,x.h⟩) (y:=⟨t.d,t.bS,x.h⟩) (j:=1) (v:=.int .u64 t.bS) a8.len (by simp[d]) (by omega) rfl
  rwa [List.set_set]at this)
 have G:=F.a' (i*3+2) (.int .i64 t.h) (l':=(S.l.set i t).flatMap a8.cells++m) (by
  rw[List.set_append_left _ _ (by rw[a7 a8.len,List.length_set];omega)];congr 1;have:=fg (enc:=a8.cells) (k:=3) (l:=S.l.set i ⟨t.d,t.bS,x.h⟩) (i:=i) (x:=⟨t.d,t.bS,x.h⟩) (y:=t) (j:=2) (v:=.int .i64 t.h) a8.len (by simp[d]) (by omega) rfl
  rwa [List.set_set]at this)
 refine⟨by rw[a7 a8.len],Or.inr ⟨g,_,_,by rw[List.length_set],Nat.zero_le _,G,by simpa using z,C,?_,?_⟩⟩
 ·rw[List.size_toArray,List.length_append,a7 a8.len,List.length_set,<-o,<-List.length_append];exact B
 ·rw[List.toList_toArray]
  show List.take ((S.l.set i t).length*3) _=_
  rw[List.take_left' (a7 a8.len _)]
theorem aM.Fe{w w':World}{b mb:Nat}{v:Value}{S:ah}{at':List (Int×Int)}(h:aM w b mb v S)(j:bH w' mb .i64 (Value.int .i64) at')(c:Ch (aK mb) w w'):aM w' b mb v {S with at_:=at'}:=
 ⟨h.head.ch c (fun e=>h.map.ne h.head e.symm),ar h.own c (fun g a e=>by
  subst e;rcases h.own.2 with⟨rfl,_⟩|⟨f,cap,cur,rfl,_,d,_⟩
  ·cases a
  ·have:f=g:=by simpa[Value.ownBlock]using a
   subst this;obtain⟨l,k,i,_⟩:=h.map;rw[i]at d;cases d),j⟩
def eG(a b:a8):Bool:=decide (a.d<b.d)||(a.d==b.d&&decide (a.h<b.h))
theorem vA(a b:a8)(w:World):Calls prog 206 #[a.val,b.val] w (dt (.bool (eG a b)) w):=by
 unfold a8.val;obtain⟨c,g,e⟩:=a;obtain⟨d,h,f⟩:=b;dsimp only;by_cases i:c<d
 ·have E:Hid (eG ⟨c,g,e⟩ ⟨d,h,f⟩=true):=Z (by unfold eG;simp[i])
  go_enter func206,ntmps206
  go_wp2
  go_ret;exact dt.mk (by rw[E];rfl) (((Ch.refl _ _).alloc _).alloc _)
 ·cases j:(c==d)
  ·have E:Hid (eG ⟨c,g,e⟩ ⟨d,h,f⟩=false):=Z (by unfold eG;simp only[j];simp[i])
   go_enter func206,ntmps206
   go_wp2
   go_ret;exact dt.mk (by rw[E];rfl) (((Ch.refl _ _).alloc _).alloc _)
  ·have E:Hid (eG ⟨c,g,e⟩ ⟨d,h,f⟩=decide (e<f)):=Z (by unfold eG;simp only[j];simp[i])
   go_enter func206,ntmps206
   go_wp2
   go_ret;exact dt.mk (by rw[E];rfl) (((Ch.refl _ _).alloc _).alloc _)
def ah.lay(S:ah)(i:Nat)(t:a8):ah:={S with l:=S.l.set i t,at_:=b8 S.at_ t.h i}
theorem qW{b mb:Nat}{v:Value}{w w':World}(h:Ch (aK mb) w w'):Ch (cn b mb v) w w':=h.mono fun i a=>Or.inr (Or.inl a)
theorem k9{b mb g n cap:Nat}{a w:World}(h:Ch (cn b mb (.slice (some (g,0)) n cap)) a w)(c:Nat)(x:Value):Ch (cn b mb (.slice (some (g,0)) n cap)) a (w.setCell (g,c) x):=
 h.gS (p:=⟨g,c,none⟩) (Or.inr (Or.inr rfl)) x
def k'(b mb:Nat)(v:Value)(a:ah)(w:World)(e:Ending)(w':World):Prop:=e=.returned (.tuple #[])/\aM w' b mb v a/\Ch (cn b mb v) w w'
theorem Az(b mb:Nat)(v:Value)(S:ah)(i:Nat)(m:i<S.l.length)(t:a8)(w:World)(h:aM w b mb v S):
 Calls prog 183 #[(b,0),.int .i64 i,t.val] w (k' b mb v (S.lay i t) w):=by
 unfold a8.val;obtain⟨g,cap,V,rfl,F,-,-,-⟩:=h.sl (by omega);have H:=Z h;obtain⟨x,u⟩:∃x,S.l[i]?=some x:=⟨_,List.getElem?_eq_getElem m⟩;have o:=Z u;have B:=Z m;have I:(i:Int)<S.l.length:=by omega
 obtain⟨N,k⟩:=mn S.l.length;rw[<-k]at I H F⊢;have R:=Z k;clear h u m k;go_enter func183,ntmps183
 go_wp2
 obtain⟨w1,a⟩:=nm (w.alloc (.cells #[.int .u64 t.d,.int .u64 t.bS,.int .i64 t.h] 318));have f:Hid (aM w1 b mb (.slice (some (g,0)) N cap) S):=Z (by rw[<-a];exact H.alloc _);have z:Hid (Ch (cn b mb (.slice (some (g,0)) N cap)) w w1):=Z (by rw[<-a];exact(Ch.refl _ _).alloc _);have y:w1.heap.size=w.heap.size+1:=by rw[<-a];simp
 have t0:w1.cell? (w.heap.size,0)=some (.int .u64 t.d):=by rw[<-a];simp
 have t1:w1.cell? (w.heap.size,1)=some (.int .u64 t.bS):=by rw[<-a];simp
 have t2:w1.cell? (w.heap.size,2)=some (.int .i64 t.h):=by rw[<-a];simp
 have r:g<w.heap.size:=(H.cell o).2.2.2.2.1;rw[a];clear a;obtain⟨tb,s⟩:=mn w.heap.size;rw[<-s]at y t0 t1 t2 r⊢;clear s;have D:=f.head.c1;obtain⟨M,O,Q,fr,J,G,L⟩:=f.cell o;have d:g≠tb:=by omega
 clear r y J;go_still_tail 6,(by kernel_rfl)
 change wpList _ _ _ _ _ w1.drew;go_wp2
 obtain⟨w2,c⟩:=nm ((((w1.setCell (g,i*3) (.int .u64 t.d)).setCell (g,i*3+1) (.int .u64 t.bS)).setCell (g,i*3+2) (.int .i64 t.h)).drew);have j:Hid (aM w2 b mb (.slice (some (g,0)) N cap) {S with l:=S.l.set i t}):=Z (by rw[<-c];exact(f.lay B t rfl rfl).drew);have A:Hid (Ch (cn b mb (.slice (some (g,0)) N cap)) w w2):=Z (by rw[<-c];exact(k9 (k9 (k9 z _ _) _ _) _ _).drew);have W:w2.cell? (tb,2)=some (.int .i64 t.h):=by
  rw[<-c,World.cell?_drew,World.cell?_setCell_other _ _ _ _ (fun e=>d (congrArg Addr.block e)),World.cell?_setCell_other _ _ _ _ (fun e=>d (congrArg Addr.block e)),World.cell?_setCell_other _ _ _ _ (fun e=>d (congrArg Addr.block e))];exact t2
 rw[c];clear c;have d1:=j.head.k 1 rfl;obtain⟨X,U,q,p⟩:=fm (P:=prog) (T:=265) (K:=3) (E:=3) underlying265 underlying3 j.drew.map t.h (i:Int);have C:=Z q;have n:=Z p;clear q p D M O Q fr t0 t1 t2 d G L;go_still_tail 7,(by kernel_rfl)
 change wpList _ _ _ _ _ w2.drew;go_wp2
 go_end0
 exact⟨rfl,j.drew.Fe C n,A.drew.trans (qW n)⟩
end Go.Proofs.YtfnilkpkogipfaaGreatDoor
