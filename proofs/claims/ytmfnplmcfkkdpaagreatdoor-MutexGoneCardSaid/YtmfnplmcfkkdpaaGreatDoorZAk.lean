import Derived.Test.YtmfnplmcfkkdpaaGreatDoorZAg
import Derived.Test.YtmfnplmcfkkdpaaGreatDoorZAh
set_option linter.all false
set_option maxRecDepth 100000
set_option maxHeartbeats 0
namespace Go.Proofs.YtmfnplmcfkkdpaaGreatDoor
open Go.RowKit Go.Proofs.Tryz
variable{w:World}{b o:Nat}{pc:Int}
structure fq(w:World)(b o:Nat)(pc:Int)(r:Nat->Int):Prop where
 pc:w.cell? (b,o)=some (.int .i64 pc)
 o9:∀k,k<32->w.cell? ⟨b,o+1+k,none⟩=some (.int .u64 (r k))
def iH(n:Int):Bool:=decide (0<=n)&&decide (n<32)
theorem pw(n:Int)(w:World):Calls prog 196 #[n] w (ez (.bool (iH n)) w):=by
 by_cases a:0<=n
 ·have E:Hid (iH n=decide (n<32)):=Z (by unfold iH;simp[a])
  go_wp2
  go_ret;exact ez.mk (by rw[E];rfl)
 ·have c:decide (0<=n)=false:=by simpa using a
  have E:Hid (iH n=false):=Z (by unfold iH;simp[a]);go_wp2
  go_ret;exact ez.mk (by rw[E];rfl)
def gR(r:Nat->Int)(n:Int):Int:=if 0<=n/\n<32 then r n.toNat else 0
theorem nF(b o:Nat)(pc:Int)(r:Nat->Int)(n:Int)(w:World)(h:fq w b o pc r):Calls prog 151 #[(b,o),n] w (ez (.int .u64 (gR r n)) w):=by
 by_cases a:0<=n/\n<32
 ·have E:Hid (gR r n=r n.toNat):=Z (by unfold gR;rw[if_pos a])
  have d:iH n=true:=by unfold iH;simp[a]
  have c:=Z d;obtain⟨f,g⟩:=a;have i:=h.o9 n.toNat (by omega);go_in
  go_wp2_with (go_at_call 196;refine(pw _ _).mono ?_;rw[c];rintro e w' ⟨rfl,rfl⟩)
  go_ret;exact ez.mk (by rw[E];rfl)
 ·have E:Hid (gR r n=0):=Z (by unfold gR;rw[if_neg a])
  have d:iH n=false:=by unfold iH;simp;omega
  have c:=Z d;go_in
  go_wp2_with (go_at_call 196;refine(pw _ _).mono ?_;rw[c];rintro e w' ⟨rfl,rfl⟩)
  go_ret;exact ez.mk (by rw[E];rfl)
def iI(r:Nat->Int)(x:be):Int:=if x.c=-1 then x.v else gR r x.c
theorem fq.alloc{r:Nat->Int}(h:fq w b o pc r)(x:Obj):fq (w.alloc x) b o pc r:=
 ⟨ia h.pc x,fun k a=>ia (h.o9 k a) x⟩
theorem wZ(b o:Nat)(pc:Int)(r:Nat->Int)(x:be)(w:World)(h:fq w b o pc r):Calls prog 152 #[(b,o),aL x] w (ds (.int .u64 (iI r x)) w):=by
 have c:=Z (h.alloc (.cells (aD x) 152 (0,0)));unfold aL aD;by_cases a:x.c=-1
 ·have E:Hid (iI r x=x.v):=Z (by unfold iI;rw[if_pos a])
  go_wp2
  go_ret;exact ds.mk (by rw[E];rfl) ay
 ·have E:Hid (iI r x=gR r x.c):=Z (by unfold iI;rw[if_neg a])
  have hb:(x.c==-1)=false:=by simpa using a
  go_in
  go_wp2_with (go_at_call 151;refine(nF b o pc r _ _ c).mono ?_;rintro e w' ⟨rfl,rfl⟩)
  go_ret;exact ds.mk (by rw[E];rfl) ay
theorem fq.ch{w':World}{D:Nat->Prop}{r:Nat->Int}(h:fq w b o pc r)(c:Ch D w w')(a:¬D b):fq w' b o pc r:=
 ⟨(c.cell (aQ h.pc) a).trans h.pc,fun k d=>(c.cell (aQ (h.o9 k d)) a).trans (h.o9 k d)⟩
theorem fq.drew{r:Nat->Int}(h:fq w b o pc r):fq w.drew b o pc r:=⟨h.pc,h.o9⟩
def dE(r:Nat->Int)(x:be):Int:=if x.b=-1 then x.v else tV 64 (gR r x.b) x.v
theorem kD(b o:Nat)(pc:Int)(r:Nat->Int)(x:be)(w:World)(h:fq w b o pc r):Calls prog 108 #[(b,o),aL x] w (ds (.int .u64 (dE r x)) w):=by
 have g:=Z (h.alloc (.cells (aD x) 152 (0,0)));unfold aL aD;by_cases c:x.b=-1
 ·have E:Hid (dE r x=x.v):=Z (by unfold dE;rw[if_pos c])
  go_wp2
  go_ret;exact ds.mk (by rw[E];rfl) ay
 ·have E:Hid (dE r x=tV 64 (gR r x.b) x.v):=Z (by unfold dE;rw[if_neg c])
  have hb:(x.b==-1)=false:=by simpa using c
  clear c;go_wp2
  obtain⟨w1,a⟩:=nm (w.alloc (.cells #[x.op,x.a,x.b,x.c,.int .u64 x.v,x.m,x.wh] 152));have d:Hid (fq w1 b o pc r):=Z (by rw[<-a];exact g);have f:=Z (Ch.al (D:=ag) a);have t2:w1.cell? (w.heap.size,2)=some (.int .i64 x.b):=by rw[<-a];simp
  have t4:w1.cell? (w.heap.size,4)=some (.int .u64 x.v):=by rw[<-a];simp
  rw[a];clear a;obtain⟨tb,e⟩:=mn w.heap.size;rw[<-e]at t2 t4⊢;clear e;go_quiet ((first|(go_at_call 151;exact Calls.quiet_of_same (b5 (nF b o pc r _ _ (show fq _ b o pc r from⟨d.pc,d.o9⟩))))|(go_at_call 112;exact Calls.quiet_of_same (b5 (qf _ _ _ _)))))
  go_wp2
  go_ret;exact ds.mk (by rw[E];rfl) (f.drewN _)
def vJ(b:Bool):Int:=if b then 1 else 0
theorem zn(b:Bool)(w:World):Calls prog 195 #[.bool b] w (ez (.int .u64 (vJ b)) w):=by
 cases b
 all_goals
  go_wp2
  go_ret;exact ez.mk rfl
def Fx(b c:Int):Int:=IntKind.u64.wrap (b*2^min (bits .and .u64 c 63).toNat 64)
def BR(b c:Int):Int:=b.fdiv (2^min (bits .and .u64 c 63).toNat 64)
theorem BS(b c:Int)(w:World):(Op.shift .shl .u64 b .u64 (bits .and .u64 c 63)).run prog w=.ok (.int .u64 (Fx b c)) w:=by
 have:=(jh .and c 63).lo;unfold Op.shift;rw[if_neg (by omega)];rfl
theorem BT(b c:Int)(w:World):(Op.shift .shr .u64 b .u64 (bits .and .u64 c 63)).run prog w=.ok (.int .u64 (BR b c)) w:=by
 have:=(jh .and c 63).lo;unfold Op.shift;rw[if_neg (by omega)];rfl
theorem BU(b c:Int)(h:aK b):aK (BR b c):=by
 have a:=h.lo;have d:=h.hi;unfold BR;have e:(0:Int)<2^min (bits .and .u64 c 63).toNat 64:=Int.pow_pos (by omega);rw[Int.fdiv_eq_ediv_of_nonneg _ (by omega)];exact⟨Int.ediv_nonneg a (by omega),Int.lt_of_le_of_lt (Int.ediv_le_self _ a) d⟩
def hL(x:be)(b c:Int):Int:=
 if x.op=1 then x.v
 else if x.op=3 then tV 64 b c
 else if x.op=4 then zc 64 b c
 else if x.op=5 then bits .and .u64 b c
 else if x.op=6 then bits .or .u64 b c
 else if x.op=7 then bits .xor .u64 b c
 else if x.op=8 then Fx b c
 else if x.op=9 then BR b c
 else if x.op=10 then vJ (b==c)
 else if x.op=11 then vJ (decide (b<c))
 else b
theorem zo(b:Bool):aK (vJ b):=by cases b<;>exact⟨by decide,by decide⟩
theorem t'(x:be)(b c:Int)(a:aK x.v)(hb:aK b):aK (hL x b c):=by
 unfold hL
 repeat' split
 all_goals first|exact a|exact m9 _ _ _|exact zd _ _ _|exact jh _ _ _|exact bO _|exact BU _ _ hb|exact zo _|exact hb
theorem ua(x:be)(b c:Int)(w:World):Calls prog 150 #[aL x,.int .u64 b,.int .u64 c] w (ds (.int .u64 (hL x b c)) w):=by
 unfold aL aD;have a:=BS b c;have d:=BT b c;go_in
 go_wp2_with (first|(go_at_call 112;refine(qf _ _ _ _).mono ?_;rintro e w' ⟨rfl,rfl⟩)|(go_at_call 194;refine(ze _ _ _ _).mono ?_;rintro e w' ⟨rfl,rfl⟩)|(go_at_call 195;refine(zn _ _).mono ?_;rintro e w' ⟨rfl,rfl⟩))
 all_goals
  go_ret;refine ds.mk ?_ ay;simp only[beq_iff_eq,beq_eq_false_iff_ne,ne_eq]at*;unfold hL
  repeat first
   |rfl
   |rw[if_pos (by omega)]
   |rw[if_neg (by omega)]
def nG(op:Int):Bool:=op==12||op==13||op==14||op==15
def bC(x:be)(n:Nat):Bool:=
 if nG x.op then decide (x.v<n)&&eD {x with v:=0,m:=0,wh:=0} 1 (x.op !=22)
 else eD {x with m:=0,wh:=0} 1 (x.op !=22)
theorem nH(y:be)(g:Nat)(cg:Bool)(w:World)(h:Row w g 152 (aD y).toList):
 Calls prog 121 #[.slice (some (g,0)) 1 1,.bool cg] w (fun e w'=>(∃u,e=.returned u/\(if eD y 1 cg then u=.nilIface else ar u))/\Ch ag w w'):=by
 have k:fN w g [y]:=⟨h.lt,fun j u i=>h.cell (by simpa[b4]using i)⟩;refine(pt [y] (some ⟨g,0,none⟩) 1 cg (by simp) (by simp) w (fun _=>⟨g,rfl,k⟩)).mono ?_;intro e w' a;have hb:gQ ([y]:List be).length cg [y] 0=if eD y 1 cg then none else some 0:=rfl
 rw[hb]at a;cases c:eD y 1 cg
 ·rw[c]at a
  obtain⟨b,f,_,_,d⟩:=a;exact⟨⟨_,f,ar.mk _ _⟩,Ch.bT d⟩
 ·rw[c]at a
  exact⟨⟨_,a.1,rfl⟩,Ch.bT a.2⟩
theorem rI(x:be)(n:Nat)(y:n<=100000)(w:World):Calls prog 146 #[aL x,.int .i64 n] w (ds (.bool (bC x n)) w):=by
 obtain⟨op,a,b,c,v,m,i⟩:=x;unfold aL aD;dsimp only;cases l:nG op
 ·have s:(op==12)=false/\(op==13)=false/\(op==14)=false/\(op==15)=false:=by
   unfold nG at l;simp only[Bool.or_eq_false_iff]at l;exact⟨l.1.1.1,l.1.1.2,l.1.2,l.2⟩
  obtain⟨z,A,B,C⟩:=s;have E:Hid (bC ⟨op,a,b,c,v,m,i⟩ n=eD ⟨op,a,b,c,v,0,0⟩ 1 (op !=22)):=Z (by unfold bC;rw[show nG (be.mk op a b c v m i).op=false from l];rfl);have j:=Z (fun g cg w h=>nH ⟨op,a,b,c,v,0,0⟩ g cg w h);go_in
  go_wp2_with fail
  have p:Row ((w.alloc (.cells #[op,a,b,c,.int .u64 v,.int .i64 0,.int .i64 0] 152)).alloc (.cells #[op,a,b,c,.int .u64 v,.int .i64 0,.int .i64 0] 152)) (w.heap.size+1) 152 (aD ⟨op,a,b,c,v,0,0⟩).toList:=by
   have:=Row.new (w.alloc (.cells #[op,a,b,c,.int .u64 v,.int .i64 0,.int .i64 0] 152)) #[op,a,b,c,.int .u64 v,.int .i64 0,.int .i64 0] 152;rw[World.size_alloc]at this;exact this
  refine(j _ _ _ p).mono ?_;rintro e w2 ⟨⟨u,rfl,d⟩,k⟩;have f:Hid (Ch ag w w2):=Z ((((Ch.refl _ _).alloc _).alloc _).trans k);obtain⟨r,o⟩:=nm (eD ⟨op,a,b,c,v,0,0⟩ 1 (op !=22));rw[o]at d E;cases r
  ·obtain⟨tt,t,rfl⟩:ar u:=d
   go_wp2
   go_ret;exact ds.mk (by rw[E];rfl) f
  ·obtain rfl:u=.nilIface:=d
   go_wp2
   go_ret;exact ds.mk (by rw[E];rfl) f
 ·have s:op=12∨op=13∨op=14∨op=15:=by
   unfold nG at l;simpa[or_assoc]using l
  by_cases q:v<n
  ·rcases s with rfl|rfl|rfl|rfl
   ·have E:Hid (bC ⟨12,a,b,c,v,m,i⟩ n=eD ⟨12,a,b,c,0,0,0⟩ 1 true):=Z (by unfold bC;rw[if_pos (by rfl),decide_eq_true q];rfl)
    have j:=Z (fun g cg w h=>nH ⟨12,a,b,c,0,0,0⟩ g cg w h);go_in
    go_wp2_with fail
    have p:Row ((w.alloc (.cells #[.int .i64 12,a,b,c,.int .u64 0,.int .i64 0,.int .i64 0] 152)).alloc (.cells #[.int .i64 12,a,b,c,.int .u64 0,.int .i64 0,.int .i64 0] 152)) (w.heap.size+1) 152 (aD ⟨12,a,b,c,0,0,0⟩).toList:=by
     have:=Row.new (w.alloc (.cells #[.int .i64 12,a,b,c,.int .u64 0,.int .i64 0,.int .i64 0] 152)) #[.int .i64 12,a,b,c,.int .u64 0,.int .i64 0,.int .i64 0] 152;rw[World.size_alloc]at this;exact this
    refine(j _ _ _ p).mono ?_;rintro e w2 ⟨⟨u,rfl,d⟩,k⟩;have f:Hid (Ch ag w w2):=Z ((((Ch.refl _ _).alloc _).alloc _).trans k);obtain⟨r,o⟩:=nm (eD ⟨12,a,b,c,0,0,0⟩ 1 true);rw[o]at d E;cases r
    ·obtain⟨tt,t,rfl⟩:ar u:=d
     go_wp2
     go_ret;exact ds.mk (by rw[E];rfl) f
    ·obtain rfl:u=.nilIface:=d
     go_wp2
     go_ret;exact ds.mk (by rw[E];rfl) f
   ·have E:Hid (bC ⟨13,a,b,c,v,m,i⟩ n=eD ⟨13,a,b,c,0,0,0⟩ 1 true):=Z (by unfold bC;rw[if_pos (by rfl),decide_eq_true q];rfl)
    have j:=Z (fun g cg w h=>nH ⟨13,a,b,c,0,0,0⟩ g cg w h);go_in
    go_wp2_with fail
    have p:Row ((w.alloc (.cells #[.int .i64 13,a,b,c,.int .u64 0,.int .i64 0,.int .i64 0] 152)).alloc (.cells #[.int .i64 13,a,b,c,.int .u64 0,.int .i64 0,.int .i64 0] 152)) (w.heap.size+1) 152 (aD ⟨13,a,b,c,0,0,0⟩).toList:=by
     have:=Row.new (w.alloc (.cells #[.int .i64 13,a,b,c,.int .u64 0,.int .i64 0,.int .i64 0] 152)) #[.int .i64 13,a,b,c,.int .u64 0,.int .i64 0,.int .i64 0] 152;rw[World.size_alloc]at this;exact this
    refine(j _ _ _ p).mono ?_;rintro e w2 ⟨⟨u,rfl,d⟩,k⟩;have f:Hid (Ch ag w w2):=Z ((((Ch.refl _ _).alloc _).alloc _).trans k);obtain⟨r,o⟩:=nm (eD ⟨13,a,b,c,0,0,0⟩ 1 true);rw[o]at d E;cases r
    ·obtain⟨tt,t,rfl⟩:ar u:=d
     go_wp2
     go_ret;exact ds.mk (by rw[E];rfl) f
    ·obtain rfl:u=.nilIface:=d
     go_wp2
     go_ret;exact ds.mk (by rw[E];rfl) f
   ·have E:Hid (bC ⟨14,a,b,c,v,m,i⟩ n=eD ⟨14,a,b,c,0,0,0⟩ 1 true):=Z (by unfold bC;rw[if_pos (by rfl),decide_eq_true q];rfl)
    have j:=Z (fun g cg w h=>nH ⟨14,a,b,c,0,0,0⟩ g cg w h);go_in
    go_wp2_with fail
    have p:Row ((w.alloc (.cells #[.int .i64 14,a,b,c,.int .u64 0,.int .i64 0,.int .i64 0] 152)).alloc (.cells #[.int .i64 14,a,b,c,.int .u64 0,.int .i64 0,.int .i64 0] 152)) (w.heap.size+1) 152 (aD ⟨14,a,b,c,0,0,0⟩).toList:=by
     have:=Row.new (w.alloc (.cells #[.int .i64 14,a,b,c,.int .u64 0,.int .i64 0,.int .i64 0] 152)) #[.int .i64 14,a,b,c,.int .u64 0,.int .i64 0,.int .i64 0] 152;rw[World.size_alloc]at this;exact this
    refine(j _ _ _ p).mono ?_;rintro e w2 ⟨⟨u,rfl,d⟩,k⟩;have f:Hid (Ch ag w w2):=Z ((((Ch.refl _ _).alloc _).alloc _).trans k);obtain⟨r,o⟩:=nm (eD ⟨14,a,b,c,0,0,0⟩ 1 true);rw[o]at d E;cases r
    ·obtain⟨tt,t,rfl⟩:ar u:=d
     go_wp2
     go_ret;exact ds.mk (by rw[E];rfl) f
    ·obtain rfl:u=.nilIface:=d
     go_wp2
     go_ret;exact ds.mk (by rw[E];rfl) f
   ·have E:Hid (bC ⟨15,a,b,c,v,m,i⟩ n=eD ⟨15,a,b,c,0,0,0⟩ 1 true):=Z (by unfold bC;rw[if_pos (by rfl),decide_eq_true q];rfl)
    have j:=Z (fun g cg w h=>nH ⟨15,a,b,c,0,0,0⟩ g cg w h);go_in
    go_wp2_with fail
    have p:Row ((w.alloc (.cells #[.int .i64 15,a,b,c,.int .u64 0,.int .i64 0,.int .i64 0] 152)).alloc (.cells #[.int .i64 15,a,b,c,.int .u64 0,.int .i64 0,.int .i64 0] 152)) (w.heap.size+1) 152 (aD ⟨15,a,b,c,0,0,0⟩).toList:=by
     have:=Row.new (w.alloc (.cells #[.int .i64 15,a,b,c,.int .u64 0,.int .i64 0,.int .i64 0] 152)) #[.int .i64 15,a,b,c,.int .u64 0,.int .i64 0,.int .i64 0] 152;rw[World.size_alloc]at this;exact this
    refine(j _ _ _ p).mono ?_;rintro e w2 ⟨⟨u,rfl,d⟩,k⟩;have f:Hid (Ch ag w w2):=Z ((((Ch.refl _ _).alloc _).alloc _).trans k);obtain⟨r,o⟩:=nm (eD ⟨15,a,b,c,0,0,0⟩ 1 true);rw[o]at d E;cases r
    ·obtain⟨tt,t,rfl⟩:ar u:=d
     go_wp2
     go_ret;exact ds.mk (by rw[E];rfl) f
    ·obtain rfl:u=.nilIface:=d
     go_wp2
     go_ret;exact ds.mk (by rw[E];rfl) f
  ·rcases s with rfl|rfl|rfl|rfl
   ·have E:Hid (bC ⟨12,a,b,c,v,m,i⟩ n=false):=Z (by unfold bC;rw[if_pos (by rfl),decide_eq_false q,Bool.false_and])
    go_wp2
    go_ret;exact ds.mk (by rw[E];rfl) ay
   ·have E:Hid (bC ⟨13,a,b,c,v,m,i⟩ n=false):=Z (by unfold bC;rw[if_pos (by rfl),decide_eq_false q,Bool.false_and])
    go_wp2
    go_ret;exact ds.mk (by rw[E];rfl) ay
   ·have E:Hid (bC ⟨14,a,b,c,v,m,i⟩ n=false):=Z (by unfold bC;rw[if_pos (by rfl),decide_eq_false q,Bool.false_and])
    go_wp2
    go_ret;exact ds.mk (by rw[E];rfl) ay
   ·have E:Hid (bC ⟨15,a,b,c,v,m,i⟩ n=false):=Z (by unfold bC;rw[if_pos (by rfl),decide_eq_false q,Bool.false_and])
    go_wp2
    go_ret;exact ds.mk (by rw[E];rfl) ay
