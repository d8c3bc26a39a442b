import Derived.Test.YtlihkblppjgebaaGreatDoorZAg
import Derived.Test.YtlihkblppjgebaaGreatDoorZAh
set_option linter.all false
set_option maxRecDepth 100000
set_option maxHeartbeats 8000000
namespace Go.Proofs.YtlihkblppjgebaaGreatDoor
open Go.RowKit Go.Proofs.Tryz
structure fj(w:World)(b o:Nat)(pc:Int)(r:Nat->Int):Prop where
 pc:w.cell? ⟨b,o,none⟩=some (.int .i64 pc)
 oD:∀k,k<32->w.cell? ⟨b,o+1+k,none⟩=some (.int .u64 (r k))
def hZ(n:Int):Bool:=decide (0<=n)&&decide (n<32)
theorem oS(n:Int)(w:World):Calls prog 221 #[.int .i64 n] w (d' (.bool (hZ n)) w):=by
 by_cases a:0<=n
 ·have E:Hid (hZ n=decide (n<32)):=Z (by unfold hZ;simp[a])
  go_enter func221,ntmps221
  go_wp2
  go_ret;exact d'.mk (by rw[E.out];rfl)
 ·have b:decide (0<=n)=false:=by simpa using a
  have E:Hid (hZ n=false):=Z (by unfold hZ;simp[a]);go_enter func221,ntmps221
  go_wp2
  go_ret;exact d'.mk (by rw[E.out];rfl)
def gF(r:Nat->Int)(n:Int):Int:=if 0<=n/\n<32 then r n.toNat else 0
theorem m3(b f:Nat)(pc:Int)(r:Nat->Int)(n:Int)(w:World)(h:fj w b f pc r):Calls prog 178 #[.pointer (some ⟨b,f,none⟩),.int .i64 n] w (d' (.int .u64 (gF r n)) w):=by
 by_cases c:0<=n/\n<32
 ·have E:Hid (gF r n=r n.toNat):=Z (by unfold gF;rw[if_pos c])
  have a:hZ n=true:=by unfold hZ;simp[c]
  have d:=Z a;obtain⟨g,i⟩:=c;have j:=h.oD n.toNat (by omega);clear a;go_enter func178,ntmps178
  go_wp2_with (go_at_call 221;refine(oS _ _).mono ?_;rw[d.out];rintro e w' ⟨rfl,rfl⟩)
  go_ret;exact d'.mk (by rw[E.out];rfl)
 ·have E:Hid (gF r n=0):=Z (by unfold gF;rw[if_neg c])
  have a:hZ n=false:=by unfold hZ;simp;omega
  have d:=Z a;clear a;go_enter func178,ntmps178
  go_wp2_with (go_at_call 221;refine(oS _ _).mono ?_;rw[d.out];rintro e w' ⟨rfl,rfl⟩)
  go_ret;exact d'.mk (by rw[E.out];rfl)
def h'(r:Nat->Int)(x:aV):Int:=if x.c=-1 then x.v else gF r x.c
theorem fj.alloc{w:World}{b a:Nat}{pc:Int}{r:Nat->Int}(h:fj w b a pc r)(x:Obj):fj (w.alloc x) b a pc r:=
 ⟨mU h.pc x,fun k c=>mU (h.oD k c) x⟩
theorem vz(b c:Nat)(pc:Int)(r:Nat->Int)(x:aV)(w:World)(h:fj w b c pc r):Calls prog 179 #[.pointer (some ⟨b,c,none⟩),aI x] w (dt (.int .u64 (h' r x)) w):=by
 have H:=Z (h.alloc (.cells (aC x) 184 (0,0)));unfold aI aC;by_cases a:x.c=-1
 ·have E:Hid (h' r x=x.v):=Z (by unfold h';rw[if_pos a])
  go_enter func179,ntmps179
  go_wp2
  go_ret;exact dt.mk (by rw[E.out];rfl) ((Ch.refl _ _).alloc _)
 ·have E:Hid (h' r x=gF r x.c):=Z (by unfold h';rw[if_neg a])
  have hb:(x.c==-1)=false:=by simpa using a
  go_enter func179,ntmps179
  go_wp2_with (go_at_call 178;refine(m3 b c pc r _ _ H.out).mono ?_;rintro e w' ⟨rfl,rfl⟩)
  go_ret;exact dt.mk (by rw[E.out];rfl) ((Ch.refl _ _).alloc _)
theorem fj.ch{w w':World}{D:Nat->Prop}{b e:Nat}{pc:Int}{r:Nat->Int}(h:fj w b e pc r)(c:Ch D w w')(a:¬D b):fj w' b e pc r:=
 ⟨(c.cell (aE h.pc) a).trans h.pc,fun k d=>(c.cell (aE (h.oD k d)) a).trans (h.oD k d)⟩
theorem fj.drew{w:World}{b a:Nat}{pc:Int}{r:Nat->Int}(h:fj w b a pc r):fj w.drew b a pc r:=⟨h.pc,h.oD⟩
def du(r:Nat->Int)(x:aV):Int:=if x.b=-1 then x.v else sQ 64 (gF r x.b) x.v
theorem ke(b c:Nat)(pc:Int)(r:Nat->Int)(x:aV)(w:World)(h:fj w b c pc r):Calls prog 140 #[.pointer (some ⟨b,c,none⟩),aI x] w (dt (.int .u64 (du r x)) w):=by
 have H:=Z (h.alloc (.cells (aC x) 184 (0,0)));unfold aI aC;by_cases d:x.b=-1
 ·have E:Hid (du r x=x.v):=Z (by unfold du;rw[if_pos d])
  go_enter func140,ntmps140
  go_wp2
  go_ret;exact dt.mk (by rw[E.out];rfl) ((Ch.refl _ _).alloc _)
 ·have E:Hid (du r x=sQ 64 (gF r x.b) x.v):=Z (by unfold du;rw[if_neg d])
  have hb:(x.b==-1)=false:=by simpa using d
  clear d;go_enter func140,ntmps140
  go_wp2
  obtain⟨w1,a⟩:=nm (w.alloc (.cells #[.int .i64 x.op,.int .i64 x.a,.int .i64 x.b,.int .i64 x.c,.int .u64 x.v,.int .i64 x.m,.int .i64 x.wh] 184));have e:Hid (fj w1 b c pc r):=Z (by rw[<-a];exact H.out);have g:=Z (Ch.al (D:=ag) a);have t2:w1.cell? ⟨w.heap.size,2,none⟩=some (.int .i64 x.b):=by rw[<-a];simp
  have t4:w1.cell? ⟨w.heap.size,4,none⟩=some (.int .u64 x.v):=by rw[<-a];simp
  rw[a];clear a;obtain⟨tb,f⟩:=mn w.heap.size;rw[<-f]at t2 t4⊢;clear f;go_quiet ((first|(go_at_call 178;exact Calls.quiet_of_same (bZ (m3 b c pc r _ _ (show fj _ b c pc r from⟨e.out.pc,e.out.oD⟩))))|(go_at_call 159;exact Calls.quiet_of_same (bZ (pH _ _ _ _)))))
  go_wp2
  go_ret;exact dt.mk (by rw[E.out];rfl) (g.out.drewN _)
def uy(b:Bool):Int:=if b then 1 else 0
theorem xY(b:Bool)(w:World):Calls prog 220 #[.bool b] w (d' (.int .u64 (uy b)) w):=by
 cases b
 all_goals
  go_enter func220,ntmps220
  go_wp2
  go_ret;exact d'.mk rfl
def DE(b c:Int):Int:=IntKind.u64.wrap (b*2^min (bits .and .u64 c 63).toNat 64)
def Av(b c:Int):Int:=b.fdiv (2^min (bits .and .u64 c 63).toNat 64)
theorem Aw(b c:Int)(w:World):(Op.shift .shl .u64 b .u64 (bits .and .u64 c 63)).run prog w=.ok (.int .u64 (DE b c)) w:=by
 have:=(iN .and c 63).lo;unfold Op.shift;rw[if_neg (by omega)];rfl
theorem Ax(b c:Int)(w:World):(Op.shift .shr .u64 b .u64 (bits .and .u64 c 63)).run prog w=.ok (.int .u64 (Av b c)) w:=by
 have:=(iN .and c 63).lo;unfold Op.shift;rw[if_neg (by omega)];rfl
theorem Ay(b c:Int)(h:aH b):aH (Av b c):=by
 have a:=h.lo;have d:=h.hi;unfold Av;have e:(0:Int)<2^min (bits .and .u64 c 63).toNat 64:=Int.pow_pos (by omega);rw[Int.fdiv_eq_ediv_of_nonneg _ (by omega)];exact⟨Int.ediv_nonneg a (by omega),Int.lt_of_le_of_lt (Int.ediv_le_self _ a) d⟩
def ha(x:aV)(b c:Int):Int:=
 if x.op=1 then x.v
 else if x.op=3 then sQ 64 b c
 else if x.op=4 then xO 64 b c
 else if x.op=5 then bits .and .u64 b c
 else if x.op=6 then bits .or .u64 b c
 else if x.op=7 then bits .xor .u64 b c
 else if x.op=8 then DE b c
 else if x.op=9 then Av b c
 else if x.op=10 then uy (b==c)
 else if x.op=11 then uy (decide (b<c))
 else b
theorem xZ(b:Bool):aH (uy b):=by cases b<;>exact⟨by decide,by decide⟩
theorem sV(x:aV)(b c:Int)(a:aH x.v)(hb:aH b):aH (ha x b c):=by
 unfold ha
 repeat' split
 all_goals first|exact a|exact mD _ _ _|exact xP _ _ _|exact iN _ _ _|exact cj _|exact Ay _ _ hb|exact xZ _|exact hb
theorem sW(x:aV)(b c:Int)(w:World):Calls prog 177 #[aI x,.int .u64 b,.int .u64 c] w (dt (.int .u64 (ha x b c)) w):=by
 unfold aI aC;have a:=Aw b c;have d:=Ax b c;go_enter func177,ntmps177
 go_wp2_with (first|(go_at_call 159;refine(pH _ _ _ _).mono ?_;rintro e w' ⟨rfl,rfl⟩)|(go_at_call 219;refine(xQ _ _ _ _).mono ?_;rintro e w' ⟨rfl,rfl⟩)|(go_at_call 220;refine(xY _ _).mono ?_;rintro e w' ⟨rfl,rfl⟩))
 all_goals
  go_ret;refine dt.mk ?_ ((Ch.refl _ _).alloc _);simp only[beq_iff_eq,beq_eq_false_iff_ne,ne_eq]at*;unfold ha
  repeat first
   |rfl
   |rw[if_pos (by omega)]
   |rw[if_neg (by omega)]
def m4(op:Int):Bool:=op==12||op==13||op==14||op==15
def bt(x:aV)(n:Nat):Bool:=
 if m4 x.op then decide (x.v<n)&&ep {x with v:=0,m:=0,wh:=0} 1 (x.op !=22)
 else ep {x with m:=0,wh:=0} 1 (x.op !=22)
theorem m5(y:aV)(g:Nat)(c:Bool)(w:World)(h:Row w g 184 (aC y).toList):
 Calls prog 145 #[.slice (some ⟨g,0,none⟩) 1 1,.bool c] w (fun e w'=>(∃u,e=.returned u/\(if ep y 1 c then u=.nilIface else aq u))/\Ch ag w w'):=by
 have k:eE w g [y]:=⟨h.lt,fun j u hj=>h.cell (by simpa[b']using hj)⟩;refine(oR [y] (some ⟨g,0,none⟩) 1 c (by simp) (by simp) w (fun _=>⟨g,rfl,k⟩)).mono ?_;intro e w' a;have hb:gE ([y]:List aV).length c [y] 0=if ep y 1 c then none else some 0:=rfl
 rw[hb]at a;cases d:ep y 1 c
 ·rw[d]at a
  obtain⟨b,i,_,_,f⟩:=a;exact⟨⟨_,i,aq.mk _ _⟩,Ch.bY f⟩
 ·rw[d]at a
  exact⟨⟨_,a.1,rfl⟩,Ch.bY a.2⟩
theorem qV(x:aV)(n:Nat)(y:n<=100000)(w:World):Calls prog 173 #[aI x,.int .i64 n] w (dt (.bool (bt x n)) w):=by
 obtain⟨op,a,b,c,v,m,l⟩:=x;unfold aI aC;dsimp only;cases hj:m4 op
 ·have s:(op==12)=false/\(op==13)=false/\(op==14)=false/\(op==15)=false:=by
   unfold m4 at hj;simp only[Bool.or_eq_false_iff]at hj;exact⟨hj.1.1.1,hj.1.1.2,hj.1.2,hj.2⟩
  obtain⟨z,A,B,C⟩:=s;have E:Hid (bt ⟨op,a,b,c,v,m,l⟩ n=ep ⟨op,a,b,c,v,0,0⟩ 1 (op !=22)):=Z (by unfold bt;rw[show m4 (aV.mk op a b c v m l).op=false from hj];rfl);have o:=Z (fun g p w h=>m5 ⟨op,a,b,c,v,0,0⟩ g p w h);clear hj;go_enter func173,ntmps173
  go_wp2_with fail
  have k:Row ((w.alloc (.cells #[.int .i64 op,.int .i64 a,.int .i64 b,.int .i64 c,.int .u64 v,.int .i64 0,.int .i64 0] 184)).alloc (.cells #[.int .i64 op,.int .i64 a,.int .i64 b,.int .i64 c,.int .u64 v,.int .i64 0,.int .i64 0] 184)) (w.heap.size+1) 184 (aC ⟨op,a,b,c,v,0,0⟩).toList:=by
   have:=Row.new (w.alloc (.cells #[.int .i64 op,.int .i64 a,.int .i64 b,.int .i64 c,.int .u64 v,.int .i64 0,.int .i64 0] 184)) #[.int .i64 op,.int .i64 a,.int .i64 b,.int .i64 c,.int .u64 v,.int .i64 0,.int .i64 0] 184;rw[World.size_alloc]at this;exact this
  refine(o.out _ _ _ k).mono ?_;rintro e w2 ⟨⟨u,rfl,d⟩,i⟩;have f:Hid (Ch ag w w2):=Z ((((Ch.refl _ _).alloc _).alloc _).trans i);clear i k;obtain⟨r,j⟩:=nm (ep ⟨op,a,b,c,v,0,0⟩ 1 (op !=22));rw[j]at d E;clear j;cases r
  ·obtain⟨tt,t,rfl⟩:aq u:=d
   go_wp2
   go_ret;exact dt.mk (by rw[E.out];rfl) f.out
  ·obtain rfl:u=.nilIface:=d
   go_wp2
   go_ret;exact dt.mk (by rw[E.out];rfl) f.out
 ·have s:op=12∨op=13∨op=14∨op=15:=by
   unfold m4 at hj;simpa[or_assoc]using hj
  by_cases q:v<n
  ·rcases s with rfl|rfl|rfl|rfl
   ·have E:Hid (bt ⟨12,a,b,c,v,m,l⟩ n=ep ⟨12,a,b,c,0,0,0⟩ 1 true):=Z (by unfold bt;rw[if_pos (by rfl),decide_eq_true q];rfl)
    have o:=Z (fun g p w h=>m5 ⟨12,a,b,c,0,0,0⟩ g p w h);clear hj;go_enter func173,ntmps173
    go_wp2_with fail
    have k:Row ((w.alloc (.cells #[.int .i64 12,.int .i64 a,.int .i64 b,.int .i64 c,.int .u64 0,.int .i64 0,.int .i64 0] 184)).alloc (.cells #[.int .i64 12,.int .i64 a,.int .i64 b,.int .i64 c,.int .u64 0,.int .i64 0,.int .i64 0] 184)) (w.heap.size+1) 184 (aC ⟨12,a,b,c,0,0,0⟩).toList:=by
     have:=Row.new (w.alloc (.cells #[.int .i64 12,.int .i64 a,.int .i64 b,.int .i64 c,.int .u64 0,.int .i64 0,.int .i64 0] 184)) #[.int .i64 12,.int .i64 a,.int .i64 b,.int .i64 c,.int .u64 0,.int .i64 0,.int .i64 0] 184;rw[World.size_alloc]at this;exact this
    refine(o.out _ _ _ k).mono ?_;rintro e w2 ⟨⟨u,rfl,d⟩,i⟩;have f:Hid (Ch ag w w2):=Z ((((Ch.refl _ _).alloc _).alloc _).trans i);clear i k;obtain⟨r,j⟩:=nm (ep ⟨12,a,b,c,0,0,0⟩ 1 true);rw[j]at d E;clear j;cases r
    ·obtain⟨tt,t,rfl⟩:aq u:=d
     go_wp2
     go_ret;exact dt.mk (by rw[E.out];rfl) f.out
    ·obtain rfl:u=.nilIface:=d
     go_wp2
     go_ret;exact dt.mk (by rw[E.out];rfl) f.out
   ·have E:Hid (bt ⟨13,a,b,c,v,m,l⟩ n=ep ⟨13,a,b,c,0,0,0⟩ 1 true):=Z (by unfold bt;rw[if_pos (by rfl),decide_eq_true q];rfl)
    have o:=Z (fun g p w h=>m5 ⟨13,a,b,c,0,0,0⟩ g p w h);clear hj;go_enter func173,ntmps173
    go_wp2_with fail
    have k:Row ((w.alloc (.cells #[.int .i64 13,.int .i64 a,.int .i64 b,.int .i64 c,.int .u64 0,.int .i64 0,.int .i64 0] 184)).alloc (.cells #[.int .i64 13,.int .i64 a,.int .i64 b,.int .i64 c,.int .u64 0,.int .i64 0,.int .i64 0] 184)) (w.heap.size+1) 184 (aC ⟨13,a,b,c,0,0,0⟩).toList:=by
     have:=Row.new (w.alloc (.cells #[.int .i64 13,.int .i64 a,.int .i64 b,.int .i64 c,.int .u64 0,.int .i64 0,.int .i64 0] 184)) #[.int .i64 13,.int .i64 a,.int .i64 b,.int .i64 c,.int .u64 0,.int .i64 0,.int .i64 0] 184;rw[World.size_alloc]at this;exact this
    refine(o.out _ _ _ k).mono ?_;rintro e w2 ⟨⟨u,rfl,d⟩,i⟩;have f:Hid (Ch ag w w2):=Z ((((Ch.refl _ _).alloc _).alloc _).trans i);clear i k;obtain⟨r,j⟩:=nm (ep ⟨13,a,b,c,0,0,0⟩ 1 true);rw[j]at d E;clear j;cases r
    ·obtain⟨tt,t,rfl⟩:aq u:=d
     go_wp2
     go_ret;exact dt.mk (by rw[E.out];rfl) f.out
    ·obtain rfl:u=.nilIface:=d
     go_wp2
     go_ret;exact dt.mk (by rw[E.out];rfl) f.out
   ·have E:Hid (bt ⟨14,a,b,c,v,m,l⟩ n=ep ⟨14,a,b,c,0,0,0⟩ 1 true):=Z (by unfold bt;rw[if_pos (by rfl),decide_eq_true q];rfl)
    have o:=Z (fun g p w h=>m5 ⟨14,a,b,c,0,0,0⟩ g p w h);clear hj;go_enter func173,ntmps173
    go_wp2_with fail
    have k:Row ((w.alloc (.cells #[.int .i64 14,.int .i64 a,.int .i64 b,.int .i64 c,.int .u64 0,.int .i64 0,.int .i64 0] 184)).alloc (.cells #[.int .i64 14,.int .i64 a,.int .i64 b,.int .i64 c,.int .u64 0,.int .i64 0,.int .i64 0] 184)) (w.heap.size+1) 184 (aC ⟨14,a,b,c,0,0,0⟩).toList:=by
     have:=Row.new (w.alloc (.cells #[.int .i64 14,.int .i64 a,.int .i64 b,.int .i64 c,.int .u64 0,.int .i64 0,.int .i64 0] 184)) #[.int .i64 14,.int .i64 a,.int .i64 b,.int .i64 c,.int .u64 0,.int .i64 0,.int .i64 0] 184;rw[World.size_alloc]at this;exact this
    refine(o.out _ _ _ k).mono ?_;rintro e w2 ⟨⟨u,rfl,d⟩,i⟩;have f:Hid (Ch ag w w2):=Z ((((Ch.refl _ _).alloc _).alloc _).trans i);clear i k;obtain⟨r,j⟩:=nm (ep ⟨14,a,b,c,0,0,0⟩ 1 true);rw[j]at d E;clear j;cases r
    ·obtain⟨tt,t,rfl⟩:aq u:=d
     go_wp2
     go_ret;exact dt.mk (by rw[E.out];rfl) f.out
    ·obtain rfl:u=.nilIface:=d
     go_wp2
     go_ret;exact dt.mk (by rw[E.out];rfl) f.out
   ·have E:Hid (bt ⟨15,a,b,c,v,m,l⟩ n=ep ⟨15,a,b,c,0,0,0⟩ 1 true):=Z (by unfold bt;rw[if_pos (by rfl),decide_eq_true q];rfl)
    have o:=Z (fun g p w h=>m5 ⟨15,a,b,c,0,0,0⟩ g p w h);clear hj;go_enter func173,ntmps173
    go_wp2_with fail
    have k:Row ((w.alloc (.cells #[.int .i64 15,.int .i64 a,.int .i64 b,.int .i64 c,.int .u64 0,.int .i64 0,.int .i64 0] 184)).alloc (.cells #[.int .i64 15,.int .i64 a,.int .i64 b,.int .i64 c,.int .u64 0,.int .i64 0,.int .i64 0] 184)) (w.heap.size+1) 184 (aC ⟨15,a,b,c,0,0,0⟩).toList:=by
     have:=Row.new (w.alloc (.cells #[.int .i64 15,.int .i64 a,.int .i64 b,.int .i64 c,.int .u64 0,.int .i64 0,.int .i64 0] 184)) #[.int .i64 15,.int .i64 a,.int .i64 b,.int .i64 c,.int .u64 0,.int .i64 0,.int .i64 0] 184;rw[World.size_alloc]at this;exact this
    refine(o.out _ _ _ k).mono ?_;rintro e w2 ⟨⟨u,rfl,d⟩,i⟩;have f:Hid (Ch ag w w2):=Z ((((Ch.refl _ _).alloc _).alloc _).trans i);clear i k;obtain⟨r,j⟩:=nm (ep ⟨15,a,b,c,0,0,0⟩ 1 true);rw[j]at d E;clear j;cases r
    ·obtain⟨tt,t,rfl⟩:aq u:=d
     go_wp2
     go_ret;exact dt.mk (by rw[E.out];rfl) f.out
    ·obtain rfl:u=.nilIface:=d
     go_wp2
     go_ret;exact dt.mk (by rw[E.out];rfl) f.out
  ·rcases s with rfl|rfl|rfl|rfl
   ·have E:Hid (bt ⟨12,a,b,c,v,m,l⟩ n=false):=Z (by unfold bt;rw[if_pos (by rfl),decide_eq_false q,Bool.false_and])
    clear hj;go_enter func173,ntmps173
    go_wp2
    go_ret;exact dt.mk (by rw[E.out];rfl) ((Ch.refl _ _).alloc _)
   ·have E:Hid (bt ⟨13,a,b,c,v,m,l⟩ n=false):=Z (by unfold bt;rw[if_pos (by rfl),decide_eq_false q,Bool.false_and])
    clear hj;go_enter func173,ntmps173
    go_wp2
    go_ret;exact dt.mk (by rw[E.out];rfl) ((Ch.refl _ _).alloc _)
   ·have E:Hid (bt ⟨14,a,b,c,v,m,l⟩ n=false):=Z (by unfold bt;rw[if_pos (by rfl),decide_eq_false q,Bool.false_and])
    clear hj;go_enter func173,ntmps173
    go_wp2
    go_ret;exact dt.mk (by rw[E.out];rfl) ((Ch.refl _ _).alloc _)
   ·have E:Hid (bt ⟨15,a,b,c,v,m,l⟩ n=false):=Z (by unfold bt;rw[if_pos (by rfl),decide_eq_false q,Bool.false_and])
    clear hj;go_enter func173,ntmps173
    go_wp2
    go_ret;exact dt.mk (by rw[E.out];rfl) ((Ch.refl _ _).alloc _)
end Go.Proofs.YtlihkblppjgebaaGreatDoor
