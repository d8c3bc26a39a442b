import Derived.Deep.DeepCutAuto
import Derived.Deep.RegionHeld3
import Derived.Deep.AppendLies
import Derived.Deep.RegionLaw
import Derived.Test.YtlihkblppjgebaaGreatDoorZAb
import Derived.Test.YtlihkblppjgebaaGreatDoorZAc
import Derived.Test.YtlihkblppjgebaaGreatDoorZAe
set_option linter.all false
set_option maxRecDepth 100000
set_option maxHeartbeats 0
namespace Go.Proofs.YtlihkblppjgebaaGreatDoor
open Go.RowKit Go.Proofs.Tryz
def fp(n:Int)(used less:Bool):Bool:=if used then decide (0<=n/\n<32)||(less&&decide (n=-1))else decide (n=0)
theorem nD(n:Int)(used less:Bool)(w:World):Calls prog 232 #[n,.bool used,.bool less] w (kz (fp n used less) w):=by
 have e:(0<=n/\n<32)∨(0<=n/\¬n<32)∨(¬0<=n/\n≠-1)∨(¬0<=n/\n=-1):=by omega
 cases used
 ·by_cases d:n=0
  ·subst d
   go_wp2
   go_ret;exact kz.mk rfl
  ·have hb:(n==0)=false:=by rw[beq_eq_false_iff_ne];exact d
   have c:Hid (fp n false less=false):=(by show _=_;unfold fp;simp[d]);go_wp2
   go_ret;exact kz.mk c
 ·rcases e with⟨a,b⟩|⟨a,b⟩|⟨a,b⟩|⟨a,b⟩
  ·have c:Hid (fp n true less=true):=by show _=_;unfold fp;simp[a,b]
   go_wp2
   go_ret;exact kz.mk c
  ·have c:Hid (fp n true less=false):=by show _=_;unfold fp;simp[b];omega
   have hb:(n==-1)=false:=(by rw[beq_eq_false_iff_ne];omega);cases less
   all_goals
    go_wp2
    go_ret;exact kz.mk c
  ·have c:Hid (fp n true less=false):=by show _=_;unfold fp;simp[a,b]
   have hb:(n==-1)=false:=(by rw[beq_eq_false_iff_ne];exact b);cases less
   all_goals
    go_wp2
    go_ret;exact kz.mk c
  ·subst b
   cases less
   all_goals
    go_wp2
    go_ret;exact kz.mk rfl
def rH(X:be)(used:Bool)(n:Int):Bool:=
 if X.op=12∨X.op=13∨X.op=14∨X.op=15 then decide (X.v<n)
 else if X.op=22 then decide (X.v<1000)
 else if X.op=3∨X.op=4∨X.op=5∨X.op=6∨X.op=7∨X.op=8∨X.op=9∨X.op=10∨X.op=11 then decide (X.c=-1)||decide (X.v=0)
 else if X.op=43 then decide (X.b=-1)||decide (X.v=0)
 else used||decide (X.v=0)
def ea(b:Bool)(w:World)(e:Ending)(w':World):Prop:=e=.returned (.bool b)/\Below w.heap.size w w'
theorem ea.mk{b c:Bool}{w w':World}(h:b=c)(hb:Below w.heap.size w w'):ea b w (.returned (.bool c)) w':=⟨by rw[h],hb⟩
theorem zf(X:be)(used:Bool)(n:Nat)(a:n<=1000000)(w:World):Calls prog 233 #[aL X,.bool used,.int .i64 n] w (ea (rH X used n) w):=by
 unfold aL aD;go_wp2
 all_goals
  go_ret;refine ea.mk ?_ ((Below.refl _ _).alloc (Nat.le_refl _) _);simp only[beq_iff_eq,beq_eq_false_iff_ne,ne_eq]at*;unfold rH
  repeat first
   |rfl
   |rw[if_pos (by omega)]
   |rw[if_neg (by omega)]
  try first
   |(simp[*];done)
   |(cases used
     ·rfl
     ·simp at*)
def nE(op:Int):Bool:=decide (op=17∨op=18∨op=19∨op=20∨op=21∨op=31∨op=32∨op=43)
def mx(op:Int):Bool:=decide (op=3∨op=4∨op=5∨op=6∨op=7∨op=8∨op=9∨op=10∨op=11)
def my(X:be)(cg:Bool):Bool:=decide (1<=X.op/\X.op<=58)&&(if cg then decide (X.op≠22)else decide (X.op<=22/\X.m=0))
def j8(X:be)(n:Int):Bool:=fp X.a (e5 X.op).1 false&&fp X.b (e5 X.op).2.1 (nE X.op)&&fp X.c (e5 X.op).2.2.1 (mx X.op)&&rH X (e5 X.op).2.2.2 n
def gI(X:be):Bool:=decide (0<=X.m/\X.m<=99/\0<=X.wh/\X.wh<=2)&&(decide (X.wh=0)||(decide (0<X.m)&&(e5 X.op).1))
def eD(X:be)(n:Int)(cg:Bool):Bool:=my X cg&&j8 X n&&gI X
theorem BM(X:be)(n:Nat)(cg:Bool)(w:World)(h:my X cg=false):Calls prog 191 #[aL X,.int .i64 n,.bool cg] w (ea (eD X n cg) w):=by
 have f:Hid (eD X n cg=false):=by show _=_;unfold eD;rw[h];rfl
 unfold aL aD;unfold my at h;have k:X.op<1∨(¬X.op<1/\58<X.op)∨(¬X.op<1/\¬58<X.op/\cg=true/\X.op=22)∨(¬X.op<1/\¬58<X.op/\cg=false/\22<X.op)∨(¬X.op<1/\¬58<X.op/\cg=false/\¬22<X.op/\X.m≠0):=by
  by_cases k1:X.op<1
  ·exact Or.inl k1
  by_cases k2:58<X.op
  ·exact Or.inr (Or.inl ⟨k1,k2⟩)
  have k3:decide (1<=X.op/\X.op<=58)=true:=decide_eq_true (by omega);rw[k3,Bool.true_and]at h;cases cg
  ·have g:=of_decide_eq_false (show decide (X.op<=22/\X.m=0)=false from h)
   by_cases i:22<X.op
   ·exact Or.inr (Or.inr (Or.inr (Or.inl ⟨k1,k2,rfl,i⟩)))
   ·exact Or.inr (Or.inr (Or.inr (Or.inr ⟨k1,k2,rfl,i,fun e=>g ⟨by omega,e⟩⟩)))
  ·have g:=of_decide_eq_false (show decide (X.op≠22)=false from h)
   exact Or.inr (Or.inr (Or.inl ⟨k1,k2,rfl,by omega⟩))
 rcases k with a|⟨a,b⟩|⟨a,b,rfl,c⟩|⟨a,b,rfl,c⟩|⟨a,b,rfl,c,d⟩
 ·go_in
  go_wp2
  go_ret;exact ea.mk f ((Below.refl _ _).alloc (Nat.le_refl _) _)
 ·go_in
  go_wp2
  go_ret;exact ea.mk f ((Below.refl _ _).alloc (Nat.le_refl _) _)
 ·have j:(X.op==22)=true:=by rw[beq_iff_eq];exact c
  go_wp2
  go_ret;exact ea.mk f ((Below.refl _ _).alloc (Nat.le_refl _) _)
 ·go_in
  go_wp2
  go_ret;exact ea.mk f ((Below.refl _ _).alloc (Nat.le_refl _) _)
 ·have j:(X.m !=0)=true:=by rw[bne_iff_ne];exact d
  go_wp2
  go_ret;exact ea.mk f ((Below.refl _ _).alloc (Nat.le_refl _) _)
def DV(X:be)(b c:Value):Prop:=b=.bool (nE X.op)/\c=.bool (mx X.op)
theorem zg(X:be)(n:Nat)(M:n<=1000000)(cg:Bool)(w:World)(h:my X cg=true):Calls prog 191 #[aL X,.int .i64 n,.bool cg] w (ea (eD X n cg) w):=by
 have J:Hid (eD X n cg=(j8 X n&&gI X)):=by show _=_;unfold eD;rw[h];rfl
 have O:Hid (aL X=.agg (aD X)):=rfl;unfold aL aD;unfold my at h;rw[Bool.and_eq_true,decide_eq_true_eq]at h;obtain⟨⟨a,b⟩,c⟩:=h;have P:¬X.op<1:=by omega
 have Q:¬58<X.op:=by omega
 have K:(cg=true/\(X.op==22)=false)∨(cg=false/\¬22<X.op/\(X.m !=0)=false):=by
  cases cg
  ·right
   have u:=of_decide_eq_true (show decide (X.op<=22/\X.m=0)=true from c);exact⟨rfl,by omega,by rw[bne_eq_false_iff_eq];exact u.2⟩
  ·left
   have u:=of_decide_eq_true (show decide (X.op≠22)=true from c);exact⟨rfl,by rw[beq_eq_false_iff_ne];exact u⟩
 obtain⟨m,fb,q,r,hF⟩:∃m fb q r,e5 X.op=(m,fb,q,r):=⟨_,_,_,_,rfl⟩;have t:=Z hF;obtain⟨v,A⟩:=nm (fp X.a m false);obtain⟨x,B⟩:=nm (fp X.b fb (nE X.op));obtain⟨y,C⟩:=nm (fp X.c q (mx X.op));obtain⟨z,D⟩:=nm (rH X r n);have F:Hid (∀w,Calls prog 232 #[X.a,.bool m,.bool false] w (kz v w)):=fun w=>A▸nD X.a m false w
 have G:Hid (∀w,Calls prog 232 #[X.b,.bool fb,.bool (nE X.op)] w (kz x w)):=fun w=>B▸nD X.b fb _ w
 have H:Hid (∀w,Calls prog 232 #[X.c,.bool q,.bool (mx X.op)] w (kz y w)):=fun w=>C▸nD X.c q _ w
 have I:Hid (∀w,Calls prog 233 #[.agg (aD X),.bool r,.int .i64 n] w (ea z w)):=fun w=>D▸zf X r n M w
 have f:Hid (eD X n cg=(v&&x&&y&&z&&gI X)):=by
  show _=_;rw[J];unfold j8;rw[t];dsimp only;rw[A,B,C,D]
 have L:(¬0<=X.m/\gI X=false)∨(0<=X.m/\¬X.m<=99/\gI X=false)∨(0<=X.m/\X.m<=99/\¬0<=X.wh/\gI X=false)∨(0<=X.m/\X.m<=99/\0<=X.wh/\¬X.wh<=2/\gI X=false)∨
  (0<=X.m/\X.m<=99/\0<=X.wh/\X.wh<=2/\(X.wh==0)=true/\gI X=true)∨(0<=X.m/\X.m<=99/\0<=X.wh/\X.wh<=2/\(X.wh==0)=false/\¬0<X.m/\gI X=false)∨(0<=X.m/\X.m<=99/\0<=X.wh/\X.wh<=2/\(X.wh==0)=false/\0<X.m/\gI X=m):=by
  have e:gI X=(decide (0<=X.m/\X.m<=99/\0<=X.wh/\X.wh<=2)&&(decide (X.wh=0)||(decide (0<X.m)&&m))):=by unfold gI;rw[t]
  rw[e];by_cases k1:0<=X.m
  ·by_cases k2:X.m<=99
   ·by_cases k3:0<=X.wh
    ·by_cases g:X.wh<=2
     ·by_cases i:X.wh=0
      ·right;right;right;right;left;exact⟨k1,k2,k3,g,by rw[beq_iff_eq];exact i,by simp[k1,k2,i]⟩
      ·by_cases o:0<X.m
       ·right;right;right;right;right;right;exact⟨k1,k2,k3,g,by rw[beq_eq_false_iff_ne];exact i,o,by simp[k1,k2,k3,g,i,o]⟩
       ·right;right;right;right;right;left;exact⟨k1,k2,k3,g,by rw[beq_eq_false_iff_ne];exact i,o,by simp[i,o]⟩
     ·right;right;right;left;exact⟨k1,k2,k3,g,by simp[g]⟩
    ·right;right;left;exact⟨k1,k2,k3,by simp[k3]⟩
   ·right;left;exact⟨k1,k2,by simp[k2]⟩
  ·left;exact⟨k1,by simp[k1]⟩
 have E:=Z L;rcases K with⟨rfl,c⟩|⟨rfl,c,d⟩
 all_goals
  go_in
  go_upto_block 0 with(go_at_call 218;refine(nB _ _).mono ?_;rintro e w' ⟨rfl,rfl⟩;rw[t])
  go_cut [11,12] (fun b c N=>DV X b c/\N=w.alloc (.cells #[X.op,X.a,X.b,X.c,.int .u64 X.v,X.m,X.wh] 184))
  case first=>
   go_wp2
   all_goals
    go_meet
    refine⟨⟨?_,?_⟩,rfl⟩
    ·simp only[beq_iff_eq,beq_eq_false_iff_ne,ne_eq]at*
     unfold nE
     first|rw[decide_eq_true (by omega)]|rw[decide_eq_false (by omega)]
    ·simp only[beq_iff_eq,beq_eq_false_iff_ne,ne_eq]at*
     unfold mx
     first|rw[decide_eq_true (by omega)]|rw[decide_eq_false (by omega)]
  case rest=>
   obtain⟨⟨rfl,rfl⟩,rfl⟩:=hcut;have p:Hid (Below w.heap.size w (w.alloc (.cells #[X.op,X.a,X.b,X.c,.int .u64 X.v,X.m,X.wh] 184))):=(Below.refl _ _).alloc (Nat.le_refl _) _;go_wp2_with fail
   refine(F _).mono ?_;rintro e w' ⟨rfl,rfl⟩;cases v
   ·go_wp2
    go_ret;exact ea.mk (by rw[f];rfl) p
   go_wp2_with fail
   refine(G _).mono ?_;rintro e w' ⟨rfl,rfl⟩;cases x
   ·go_wp2
    go_ret;exact ea.mk (by rw[f];rfl) p
   go_wp2_with fail
   refine(H _).mono ?_;rintro e w' ⟨rfl,rfl⟩;cases y
   ·go_wp2
    go_ret;exact ea.mk (by rw[f];rfl) p
   go_wp2_with fail
   refine(I _).mono ?_;rintro e w2 ⟨rfl,s⟩;have j:Hid (Below w.heap.size w w2):=p.trans (s.mono p.size);have R:w2.cell? ⟨w.heap.size,5,none⟩=some (.int .i64 X.m):=(fa s (by simp)).trans (by simp);have S:w2.cell? ⟨w.heap.size,6,none⟩=some (.int .i64 X.wh):=(fa s (by simp)).trans (by simp);have T:w.heap.size<w2.heap.size:=(by have:=s.size;simp at this;omega);cases z
   ·go_wp2
    go_ret;exact ea.mk (by rw[f];rfl) j
   rcases E with⟨k1,k⟩|⟨k1,k2,k⟩|⟨k1,k2,k3,k⟩|⟨k1,k2,k3,g,k⟩|⟨k1,k2,k3,g,i,k⟩|⟨k1,k2,k3,g,i,o,k⟩|⟨k1,k2,k3,g,i,o,k⟩
   all_goals
    have l:=Z k
   ·go_wp2
    go_ret;exact ea.mk (by rw[f,l];rfl) j
   ·go_wp2
    go_ret;exact ea.mk (by rw[f,l];rfl) j
   ·go_wp2
    go_ret;exact ea.mk (by rw[f,l];rfl) j
   ·go_wp2
    go_ret;exact ea.mk (by rw[f,l];rfl) j
   ·go_wp2
    go_ret;exact ea.mk (by rw[f,l];rfl) j
   ·go_wp2
    go_ret;exact ea.mk (by rw[f,l];rfl) j
   ·go_wp2
    go_ret;exact ea.mk (by rw[f,l];rfl) j
theorem BN(X:be)(n:Nat)(a:n<=1000000)(cg:Bool)(w:World):Calls prog 191 #[aL X,.int .i64 n,.bool cg] w (ea (eD X n cg) w):=by
 cases h:my X cg
 ·exact BM X n cg w h
 ·exact zg X n a cg w h
theorem bo(n:Int)(t:TypeId)(x:Value)(w:World):
 Calls prog 101 #[n,.iface t x] w fun e w'=>
  e=.returned (.iface 247 (.pointer (some (w.heap.size,0))))/\w.alloc (.cells #[.string ⟨#[99,111,100,101]⟩,n,.iface t x] 249)=w':=by
 go_wp2
 go_ret;exact⟨rfl,rfl⟩
def gQ(n:Int)(cg:Bool):List be->Nat->Option Nat
 |[],_=>none
 |X::l,i=>if eD X n cg then gQ n cg l (i+1)else some i
def zm(r:Option Nat)(w:World)(e:Ending)(w':World):Prop:=
 match r with
 |none=>e=.returned .nilIface/\Below w.heap.size w w'
 |some i=>∃b,e=.returned (.iface 247 (.pointer (some ⟨b,0,none⟩)))/\w.heap.size<=b/\w'.heap[b]?=some (.cells #[.string ⟨#[99,111,100,101]⟩,.int .i64 i,.iface 152 (.int .i64 5)] 249 (0,0))/\Below w.heap.size w w'
theorem pt(l:List be)(a:Option Addr)(c:Nat)(cg:Bool)(D:l.length<=2048)(A:l.length<=c)(w:World)(u:l≠[]->∃g,a=some ⟨g,0,none⟩/\fN w g l):
 Calls prog 145 #[.slice a l.length c,.bool cg] w (zm (gQ l.length cg l 0) w):=by
 have y:=Z u;clear u;obtain⟨N,h⟩:=mn l.length;rw[<-h];have r:=Z h;rw[<-h]at D A;have x:=Z (fun X w=>BN X N (by omega) cg w);clear h;go_wp2
 go_loopw [14] (fun s F=>∃k:Nat,s=.int .i64 k/\k<=N/\Below w.heap.size w F/\Hid (gQ N cg (l.drop k) k=gQ N cg l 0)) (fun s _=>N-(intOf s).toNat)
 case atStart=>exact⟨0,rfl,Nat.zero_le _,Below.refl _ _,rfl⟩
 case round=>
  obtain⟨k,rfl,J,hb,m⟩:=hrel;have q:=Z hb;have z:=hb.size;by_cases C:k<N
  ·have p:k<l.length:=by rw[<-r];exact C
   obtain⟨g,rfl,v⟩:=y (by intro e;subst e;simp at p);have n:l[k]?=some l[k]:=List.getElem?_eq_getElem p;have j:Hid (l.drop k=l[k]::l.drop (k+1)):=List.drop_eq_getElem_cons p;obtain⟨X,t⟩:=mn (l[k]);rw[<-t]at n j;obtain⟨f0,f1,f2,f3,f4,f5,f6⟩:=eU l k X n;have b:=v.below hb;have a0:=b.cell _ _ f0;have a1:=b.cell _ _ f1;have a2:=b.cell _ _ f2;have a3:=b.cell _ _ f3;have a4:=b.cell _ _ f4;have G:=b.cell _ _ f5;have H:=b.cell _ _ f6;have B:(k:Int)<(N:Int):=(by omega);have I:=b.lt;clear t n f0 f1 f2 f3 f4 f5 f6 hb b v;go_wp2_with fail
   refine(x X _).mono ?_;rintro e w2 ⟨rfl,o⟩;have E:=o.size;have f:Hid (Below w.heap.size w w2):=(q.alloc z _).trans (o.mono (by simp;omega));clear o;cases i:eD X N cg
   ·have d:Hid (gQ N cg l 0=some k):=by
     show _=_;rw[<-m,j,gQ,i];rfl
    clear i;simp at E;go_wp2_with (go_at_call 101;refine(bo _ _ _ _).mono ?_;rintro e w' ⟨rfl,rfl⟩)
    go_ret;rw[d];exact⟨_,rfl,f.size,hU,f.alloc f.size _⟩
   ·have d:Hid (gQ N cg (l.drop (k+1)) (k+1)=gQ N cg l 0):=by
     show _=_;rw[<-m,j,gQ,i];rfl
    clear i;go_wp2
    go_roundw
    case rel=>exact⟨k+1,by go_num,by omega,f,d⟩
    case measure=>simp[intOf];omega
  ·have B:¬(k:Int)<(N:Int):=by omega
   have d:Hid (gQ N cg l 0=none):=by
    show _=_;rw[<-m,List.drop_eq_nil_of_le (by rw[<-r];omega)];rfl
   clear hb;go_wp2
   go_ret;rw[d];exact⟨rfl,q⟩
def tc(ok:Bool)(w:World)(e:Ending)(w':World):Prop:=(∃u,e=.returned u/\(if ok then u=.nilIface else ar u))/\Ch ag w w'
theorem l6(p n:Int)(w:World):Calls prog 103 #[p,n] w (tc (decide (0<=p/\p<n)) w):=by
 have c:p<0∨(¬p<0/\n<=p)∨(¬p<0/\¬n<=p):=by omega
 rcases c with a|⟨a,b⟩|⟨a,b⟩
 ·have E:Hid (decide (0<=p/\p<n)=false):=Z (by rw[decide_eq_false_iff_not];omega)
  go_in
  go_wp2_with (go_at_call 101;refine(bo _ _ _ _).mono ?_;rintro e w' ⟨rfl,rfl⟩)
  go_ret;rw[E];exact⟨⟨_,rfl,ar.mk _ _⟩,ay⟩
 ·have E:Hid (decide (0<=p/\p<n)=false):=Z (by rw[decide_eq_false_iff_not];omega)
  have d:0<=p:=by omega
  go_in
  go_wp2_with (go_at_call 101;refine(bo _ _ _ _).mono ?_;rintro e w' ⟨rfl,rfl⟩)
  go_ret;rw[E];exact⟨⟨_,rfl,ar.mk _ _⟩,ay⟩
 ·have E:Hid (decide (0<=p/\p<n)=true):=Z (by rw[decide_eq_true_iff];omega)
  go_wp2
  go_ret;exact⟨⟨_,rfl,rfl⟩,Ch.refl _ _⟩
theorem wz(e:Addr)(tb:Nat)(c:Value)(w:World)(g:w.cell? (0,0)=some (.iface 390 (.agg #[(4,85)])))(b:w.cell? (tb,0)=some c)(f:w.frozen? (tb,0)=false):
 Calls prog 146 #[.iface 247 (.pointer (some e)),.iface 303 (.pointer (some (tb,0)))] w fun d w'=>d=.returned (.bool true)/\w'.cell? (tb,0)=some (.pointer (some e))/\Ch (aH tb) w w':=by
 have a:=World.block_lt_of_cell? w _ b;refine(D0 e ⟨tb,0,none⟩ c w g b f).mono ?_;rintro d w' ⟨rfl,rfl⟩;refine⟨rfl,?_,ay⟩;refine World.cell?_setCell_same _ _ _ (?_:World.cell? _ _=some c);rw[World.cell?_alloc_past _ _ _ (by simp at a⊢;omega),World.cell?_alloc_past _ _ _ (by simp at a⊢;omega),World.cell?_alloc_past _ _ _ (by simp at a⊢;omega),World.cell?_alloc_past _ _ _ (by simpa using a)];exact b
theorem td(l:List be)(a:Option Addr)(c:Nat)(cg:Bool)(A:l.length<=2048)(x:l.length<=c)(w:World)(B:l≠[]->∃g,a=some ⟨g,0,none⟩/\fN w g l)
 (q:w.cell? (0,0)=some (.iface 390 (.agg #[(4,85)]))):
 Calls prog 102 #[.slice a l.length c,.bool cg] w (tc (gQ l.length cg l 0).isNone w):=by
 obtain⟨w1,C⟩:=nm (w.alloc (.cells #[.pointer none] 247));have f:=Z (Ch.al (D:=ag) C);have E:Hid (l≠[]->∃g,a=some ⟨g,0,none⟩/\fN w1 g l):=Z (fun h=>by obtain⟨g,e,q⟩:=B h;exact⟨g,e,q.ch f id⟩);have r:=Z (Row.al C);have u:Hid (w1.cell? (0,0)=some (.iface 390 (.agg #[(4,85)]))):=Z (f.k q);have o:=Z (pt l a c cg A x w1 E);obtain⟨N,v⟩:=mn l.length;rw[<-v]at o⊢;obtain⟨k,z⟩:=nm (gQ N cg l 0);rw[z]at o⊢;clear B q A x v z;cases k with
 |none=>
  go_in
  go_wp2_with (first|(go_at_call 145;refine o.mono ?_;rintro e w2 ⟨rfl,n⟩;have d:=Z (Ch.bT n);clear n)|(go_at_call 146;refine(DW _ _).mono ?_;rintro e w' ⟨rfl,rfl⟩))
  go_ret;exact⟨⟨_,rfl,rfl⟩,f.trans d⟩
 |some i=>
  go_in
  go_wp2_with (first|(go_at_call 145;refine o.mono ?_;rintro e w2 ⟨b,rfl,F,hb,n⟩;have d:=Z (Ch.bT n);have t:=Z hb;clear n hb))
  refine(wz ⟨b,0,none⟩ w.heap.size (.pointer none) w2 ((d.cell (aQ u) id).trans u) ((r.ch d id).cell (i:=0) rfl) ((r.ch d id).free 0)).mono ?_;rintro e G ⟨rfl,I,s⟩;have m:=Z s;have J:w.heap.size<w1.heap.size:=r.lt;have H:G.cell? (b,1)=some (.int .i64 i):=(s.cell (p:=⟨b,1,none⟩) (Array.getElem?_eq_some_iff.1 t).1 (fun e=>by have:b=w.heap.size:=e;omega)).trans ((show Row w2 b 249 _ from t.out).cell (i:=1) rfl);clear s F;go_wp2_with (go_at_call 101;refine(bo _ _ _ _).mono ?_;rintro e w' ⟨rfl,rfl⟩)
  go_ret;refine⟨⟨_,rfl,ar.mk _ _⟩,Ch.alloc ?_ _⟩;exact⟨m.os.trans (f.trans d).os,m.tape.trans (f.trans d).tape,m.out.output.trans (f.trans d).output,Nat.le_trans (f.trans d).size m.size,fun j y hd=>(m.same j (Nat.lt_of_lt_of_le y (f.trans d).size) (fun e=>by have:j=w.heap.size:=e;omega)).trans ((f.trans d).same j y hd)⟩
variable{w w1:World}{b bx k n:Nat}{X:be}{v:Value}{r:Option Nat}
def nb(w:World)(b:Nat)(X:be):Prop:=w.heap[b]?=some (.cells (aD X) 184 (0,0))
theorem nb.lt(h:nb w b X):b<w.heap.size:=(Array.getElem?_eq_some_iff.1 h).1
theorem nb.cell(h:nb w b X)(i:Nat):w.cell? (b,i)=(aD X)[i]?:=cell_of_row w b i _ _ _ h
theorem nb.free(h:nb w b X)(i:Nat):w.frozen? (b,i)=false:=by
 unfold World.frozen?;unfold nb at h;simp only[h];simp
theorem HS{i:Nat}{c:Array Value}{t:TypeId}{f:Nat×Nat}(h:w.heap[b]?=some (.cells c t f)):(w.setCell (b,i) v).heap[b]?=some (.cells (c.setIfInBounds i v) t f):=by
 simp[World.setCell,Array.getElem?_modify,h]
theorem HL{a:Addr}(h:k≠a.block):(w.setCell a v).heap[k]?=w.heap[k]?:=Below.heap_setCell _ _ _ _ h
theorem nb.Gc(h:nb w b X)(n:Int):nb (w.setCell (b,1) (.int .i64 n)) b {X with a:=n}:=HS h
theorem nb.oJ(h:nb w b X)(n:Int):nb (w.setCell (b,2) (.int .i64 n)) b {X with b:=n}:=HS h
theorem nb.wE(h:nb w b X)(n:Int):nb (w.setCell (b,3) (.int .i64 n)) b {X with c:=n}:=HS h
theorem nb.mU(h:nb w b X)(n:Int):nb (w.setCell (b,4) (.int .u64 n)) b {X with v:=n}:=HS h
theorem nb.wF(h:nb w b X)(n:Int):nb (w.setCell (b,5) (.int .i64 n)) b {X with m:=n}:=HS h
theorem nb.AT(h:nb w b X)(n:Int):nb (w.setCell (b,6) (.int .i64 n)) b {X with wh:=n}:=HS h
theorem H7{o:Obj}(h:k<w.heap.size):(w.alloc o).heap[k]?=w.heap[k]?:=Below.heap_alloc w o k h
theorem nb.alloc(h:nb w b X)(o:Obj):nb (w.alloc o) b X:=by
 unfold nb;rw[H7 h.lt];exact h
theorem cf(w:World)(r:Option Nat):w.grownBy w r:=⟨rfl,rfl,rfl,Nat.le_refl _,fun _ _ _=>rfl⟩
theorem HT(h:w.grownBy w1 r)(o:Obj):w.grownBy (w1.alloc o) r:=
 ⟨h.os,h.tape,h.output,by have:=h.size;simp;omega,fun k a c=>by rw[H7 (by have:=h.size;omega)];exact h.block k a c⟩
theorem ec(h:w.grownBy w1 (some b))(i:Nat)(v:Value):w.grownBy (w1.setCell (b,i) v) (some b):=
 ⟨h.os,h.tape,h.output,by have:=h.size;simp;omega,fun k c a=>by rw[HL (fun e=>a (by rw[e]))];exact h.block k c a⟩
theorem KL{w2:World}(h:w.grownBy w1 r)(g:w1.grownBy w2 r):w.grownBy w2 r:=
 ⟨g.os.trans h.os,g.tape.trans h.tape,g.output.trans h.output,Nat.le_trans h.size g.size,fun k a c=>(g.block k (Nat.lt_of_lt_of_le a h.size) c).trans (h.block k a c)⟩
def JU(w':World)(a:Nat)(line:Int)(t:Bool)(v:Value):Prop:=
 ∃(b:Nat) (inner:Value),v=.iface 247 (.pointer (some (b,0)))/\a<=b/\w'.heap[b]?=some (.cells #[.string ⟨#[97,115,109]⟩,line,inner] 249 (0,0))/\(t=true->inner=.iface 152 (.int .i64 6))
def pk(r:Except Bool be)(bx:Nat)(line:Int)(w:World)(e:Ending)(w':World):Prop:=
 match r with
 |.ok X=>e=.returned .nilIface/\nb w' bx X/\w.grownBy w' (some bx)
 |.error t=>∃v,e=.returned v/\JU w' w.heap.size line t v/\w.grownBy w' (some bx)
theorem pk.vB{r:Except Bool be}{line:Int}{w':World}(X:be)(h:r=.ok X)(c:nb w' bx X)(a:w.grownBy w' (some bx)):pk r bx line w (.returned .nilIface) w':=by
 subst h;exact⟨rfl,c,a⟩
theorem pk.text{r:Except Bool be}{line:Int}(h:r=.error true)(c:n=w1.heap.size)(a:w.grownBy w1 (some bx)):
 pk r bx line w (.returned (.iface 247 (.pointer (some (n,0))))) (w1.alloc (.cells #[.string ⟨#[97,115,109]⟩,line,.iface 152 (.int .i64 6)] 249)):=by
 subst h;subst c;exact⟨_,rfl,⟨_,_,rfl,a.size,hU,fun _=>rfl⟩,HT a _⟩
theorem pk.num{r:Except Bool be}{line:Int}{x:Value}(h:r=.error false)(c:n=w1.heap.size)(a:w.grownBy w1 (some bx)):
 pk r bx line w (.returned (.iface 247 (.pointer (some (n,0))))) (w1.alloc (.cells #[.string ⟨#[97,115,109]⟩,line,x] 249)):=by
 subst h;subst c;exact⟨_,rfl,⟨_,_,rfl,a.size,hU,fun h=>by cases h⟩,HT a _⟩
theorem Jr(s p:ByteArray)(d:s.size<=9223372036854775807)(b:Bool)(h:Lib.hasSuffix s.data.toList p.data.toList=b)(w:World):Calls prog 231 #[.string s,.string p] w (JF b w):=
 (I2 s p w d).mono fun e w' ⟨a,c⟩=>⟨by rw[a,<-h],c.symm⟩
theorem KM{s p:ByteArray}(h:Lib.hasSuffix s.data.toList p.data.toList=true):p.size<=s.size:=by
 unfold Lib.hasSuffix at h;have:=(List.isSuffixOf_iff_suffix.1 h).length_le;simpa using this
def KN:ByteArray:=⟨#[61,48]⟩
def KO:ByteArray:=⟨#[62,48]⟩
def IU(t:ByteArray)(a:Int):Int×ByteArray:=
 if Lib.hasSuffix t.data.toList KN.data.toList then(1,t.extract 0 (t.size-2))
 else if Lib.hasSuffix t.data.toList KO.data.toList then(2,t.extract 0 (t.size-2))
 else(a,t)
def Js(X:be)(a:Int):Except Int Int->Except Bool be
 |.error _=> .error false
 |.ok v=>if v<1∨99<v then .error true else .ok {X with wh:=a,m:=v}
def H4(X:be)(s:ByteArray):Except Bool be:=
 Js X (IU (s.extract 1 s.size) X.wh).1 (vh (IU (s.extract 1 s.size) X.wh).2)
theorem LZ(s:ByteArray)(N:s.size<=65536)(L:1<=s.size)(line:Int)(bx:Nat)(X:be)(w:World)(p:nb w bx X):
 Calls prog 190 #[(bx,0),.string s,line] w (pk (H4 X s) bx line w):=by
 have J:w.cell? (bx,5)=some (.int .i64 X.m):=p.cell 5;have K:w.cell? (bx,6)=some (.int .i64 X.wh):=p.cell 6;have f5:=p.free 5;have f6:=p.free 6;have M:=p.lt;have A:=Z p;clear p;have O:(s.extract 1 s.size).size<=65536:=by simp;omega
 have C:Hid (∀t,s.extract 1 s.size=t->H4 X s=Js X (IU t X.wh).1 (vh (IU t X.wh).2)):=by
  intro t h;subst h;rfl
 go_enter func190,ntmps190
 go_wp2_with fail
 generalize H:s.extract 1 s.size=t at*;have q:=Z (C t rfl);clear C H;by_cases i:Lib.hasSuffix t.data.toList KN.data.toList=true
 ·have G:2<=t.size:=KM i
  have g:Hid (H4 X s=Js X 1 (vh (t.extract 0 (t.size-2)))):=by show _=_;rw[q];unfold IU;rw[if_pos i]
  refine(Jr t KN (by omega) true i _).mono ?_;clear i q;rintro e w' ⟨rfl,rfl⟩;go_wp2_with fail
  have l:(t.extract 0 (t.size-2)).size<=maxLen:=by unfold maxLen;simp;omega
  generalize t.extract 0 (t.size-2)=u at*;rcases a:vh u with j|v
  ·have d:Hid (H4 X s=.error false):=by show _=_;rw[g,a];rfl
   have f:=Z (Ic u l j a);clear a;refine(f _ _).mono ?_;rintro e w' ⟨rfl,rfl⟩;go_wp2
   go_ret;exact pk.num d (by simp) (HT (ec (cf w _) _ _) _)
  ·have f:=Z (Ib u l v a)
   by_cases c:v<1∨99<v
   ·have d:Hid (H4 X s=.error true):=by show _=_;rw[g,a];exact if_pos c
    clear a;refine(f _ _).mono ?_;rintro e w' ⟨rfl,y,z,rfl⟩;rcases c with c|c
    all_goals
     go_wp2_with (go_at_call 142;refine(sz _ _ _ _).mono ?_;rintro e w' ⟨rfl,rfl⟩)
     go_ret;exact pk.text d (by simp) (ec (cf w _) _ _)
   ·have d:Hid (H4 X s=.ok {X with wh:=1,m:=v}):=by show _=_;rw[g,a];exact if_neg c
    have E:1<=v:=(by omega);have F:v<=99:=(by omega);clear a c;refine(f _ _).mono ?_;rintro e w' ⟨rfl,y,z,rfl⟩;go_wp2
    go_ret;exact pk.vB _ d ((A.AT 1).wF v) (ec (ec (cf w _) _ _) _ _)
 ·have B:Lib.hasSuffix t.data.toList KN.data.toList=false:=by simpa using i
  refine(Jr t KN (by omega) false B _).mono ?_;rintro e w' ⟨rfl,rfl⟩;by_cases o:Lib.hasSuffix t.data.toList KO.data.toList=true
  ·have G:2<=t.size:=KM o
   have g:Hid (H4 X s=Js X 2 (vh (t.extract 0 (t.size-2)))):=(by show _=_;rw[q];unfold IU;rw[if_neg i,if_pos o]);have x:=Z (Jr t KO (by omega) true o);clear i B o q;go_wp2_with fail
   refine(x _).mono ?_;rintro e w' ⟨rfl,rfl⟩;go_wp2_with fail
   have l:(t.extract 0 (t.size-2)).size<=maxLen:=(by unfold maxLen;simp;omega);clear x;generalize t.extract 0 (t.size-2)=u at*;rcases a:vh u with j|v
   ·have d:Hid (H4 X s=.error false):=by show _=_;rw[g,a];rfl
    have f:=Z (Ic u l j a);clear a;refine(f _ _).mono ?_;rintro e w' ⟨rfl,rfl⟩;go_wp2
    go_ret;exact pk.num d (by simp) (HT (ec (cf w _) _ _) _)
   ·have f:=Z (Ib u l v a)
    by_cases c:v<1∨99<v
    ·have d:Hid (H4 X s=.error true):=by show _=_;rw[g,a];exact if_pos c
     clear a;refine(f _ _).mono ?_;rintro e w' ⟨rfl,y,z,rfl⟩;rcases c with c|c
     all_goals
      go_wp2_with (go_at_call 142;refine(sz _ _ _ _).mono ?_;rintro e w' ⟨rfl,rfl⟩)
      go_ret;exact pk.text d (by simp) (ec (cf w _) _ _)
    ·have d:Hid (H4 X s=.ok {X with wh:=2,m:=v}):=by show _=_;rw[g,a];exact if_neg c
     have E:1<=v:=(by omega);have F:v<=99:=(by omega);clear a c;refine(f _ _).mono ?_;rintro e w' ⟨rfl,y,z,rfl⟩;go_wp2
     go_ret;exact pk.vB _ d ((A.AT 2).wF v) (ec (ec (cf w _) _ _) _ _)
  ·have D:Lib.hasSuffix t.data.toList KO.data.toList=false:=by simpa using o
   have g:Hid (H4 X s=Js X X.wh (vh t)):=(by show _=_;rw[q];unfold IU;rw[if_neg i,if_neg o]);have x:=Z (Jr t KO (by omega) false D);clear i B o D q;go_wp2_with fail
   refine(x _).mono ?_;rintro e w' ⟨rfl,rfl⟩;go_wp2_with fail
   have l:t.size<=maxLen:=(by unfold maxLen;omega);clear x;obtain⟨u,I⟩:=mn t;subst I;rcases a:vh u with j|v
   ·have d:Hid (H4 X s=.error false):=by show _=_;rw[g,a];rfl
    have f:=Z (Ic u l j a);clear a;refine(f _ _).mono ?_;rintro e w' ⟨rfl,rfl⟩;go_wp2
    go_ret;exact pk.num d (by simp) (HT (cf w _) _)
   ·have f:=Z (Ib u l v a)
    by_cases c:v<1∨99<v
    ·have d:Hid (H4 X s=.error true):=by show _=_;rw[g,a];exact if_pos c
     clear a;refine(f _ _).mono ?_;rintro e w' ⟨rfl,y,z,rfl⟩;rcases c with c|c
     all_goals
      go_wp2_with (go_at_call 142;refine(sz _ _ _ _).mono ?_;rintro e w' ⟨rfl,rfl⟩)
      go_ret;exact pk.text d (by simp) (cf w _)
    ·have d:Hid (H4 X s=.ok {X with wh:=X.wh,m:=v}):=by show _=_;rw[g,a];exact if_neg c
     have E:1<=v:=(by omega);have F:v<=99:=(by omega);clear a c;refine(f _ _).mono ?_;rintro e w' ⟨rfl,y,z,rfl⟩;go_wp2
     go_ret;exact pk.vB _ d ((A).wF v) (ec (cf w _) _ _)
variable{B:Nat}{w2:World}{l:Value}
def hl(t:ByteArray):Nat->Nat->Nat->List ByteArray
 |0,_,_=>[]
 |f+1,i,a=>
  if i<t.size/\sv t i≠32 then hl t f (i+1) a
  else if a<i then t.extract a i::hl t f (i+1) (i+1)
  else hl t f (i+1) (i+1)
def I3(s:ByteArray):ByteArray:=if 0<=Lib.indexByte s.data.toList 59 then s.extract 0 (Lib.indexByte s.data.toList 59).toNat else s
def H3(s:ByteArray):List ByteArray:=hl (I3 s) ((I3 s).size+1) 0 0
theorem MQ(l:List UInt8)(c:UInt8):Lib.indexByte l c<l.length∨l=[]:=by
 induction l with
 |nil=>exact Or.inr rfl
 |cons b l ih=>
  refine Or.inl ?_;unfold Lib.indexByte;split
  ·simp
  ·split
   ·simp only[List.length_cons];omega
   ·rcases ih with h|h
    ·simp only[List.length_cons];omega
    ·subst h;rename_i a;simp[Lib.indexByte]at a
theorem Nd(l:List UInt8)(c:UInt8):Lib.indexByte l c<=l.length:=by
 rcases MQ l c with h|h
 ·omega
 ·subst h;simp[Lib.indexByte]
theorem Nf:(prog.info? 9).map (fun i=>(i.zero,i.size,i.bytes))=some (some (.string ByteArray.empty),1,16):=by kernel_rfl
theorem IV{wr:World}{o:Obj}{n:Nat}{xs:List Value}(h:Below B w wr)(d:wr.ownsRow B 9 1 l n xs)(b:(wr.alloc o).grownBy w2 l.ownBlock)(a:B<=wr.heap.size:=by omega):Below B w w2:=
 (h.alloc a o).grown b (by simp;omega) (fun k c=>(d.lt k c).1)
theorem Jt{acc:List ByteArray}{x:ByteArray}(h:w2.ownsRow B 9 1 l (acc.length+1) (acc.map Value.string++[.string x])):w2.ownsRow B 9 1 l (acc++[x]).length ((acc++[x]).map Value.string):=by
 simpa using h
def IN(a:List ByteArray)(w:World)(e:Ending)(w':World):Prop:=
 ∃v,e=.returned v/\w'.ownsRow w.heap.size 9 1 v a.length (a.map Value.string)/\Below w.heap.size w w'
theorem IN.mk{a:List ByteArray}{w':World}{v:Value}(acc:List ByteArray)(h:a=acc)(b:w'.ownsRow w.heap.size 9 1 v acc.length (acc.map Value.string))(hb:Below w.heap.size w w'):IN a w (.returned v) w':=by
 subst h;exact⟨v,rfl,b,hb⟩
theorem KP(s:ByteArray)(n:Int)(h:Lib.indexByte s.data.toList 59=n)(w:World):Calls prog 227 #[.string s,.int .u8 59] w (JP .i64 n w):=
 (Iq s 59 w).mono fun e w' ⟨a,b⟩=>⟨by rw[a,<-h];rfl,b.symm⟩
theorem Io(s:ByteArray)(X:s.size<=65536)(w:World):Calls prog 185 #[.string s] w (IN (H3 s) w):=by
 obtain⟨H,C,E,F,G⟩:=info_parts Nf;have T:=Z C;by_cases K:0<=Lib.indexByte s.data.toList 59
 ·obtain⟨n,M⟩:=Int.eq_ofNat_of_zero_le K
  have hle:=Nd s.data.toList 59;have W:n<=s.size:=by rw[M]at hle;have:s.data.toList.length=s.size:=(by simp);omega
  have L:=KP s n M;have I:=Z L;have D:Hid (I3 s=s.extract 0 n):=by show _=_;unfold I3;rw[if_pos K,M];rfl
  go_in
  go_wp2_with (go_at_call 227;refine(I _).mono ?_;rintro e w' ⟨rfl,rfl⟩)
  have S:(s.extract 0 n).size<=s.size:=by simp;omega
  generalize V:s.extract 0 n=t at*;have J:Hid (hl t (t.size+1-0) 0 0=H3 s):=by show _=_;unfold H3;rw[D];rfl
  go_loopw [4,5,6] (fun l at_ i wr=>∃(k a:Nat) (acc:List ByteArray),k<=t.size+1/\a<=k/\at_=.int .i64 a/\i=.int .i64 k/\acc.length<=k/\wr.ownsRow w.heap.size 9 1 l acc.length (acc.map Value.string)/\Below w.heap.size w wr/\Hid (acc++hl t (t.size+1-k) k a=H3 s)) (fun _ _ i _=>t.size+1-(intOf i).toNat)
  case atStart=>exact⟨0,0,[],by omega,by omega,rfl,rfl,by simp,World.ownsRow_nil _ _ _ _,Below.refl _ _,J⟩
  case round=>
   obtain⟨k,a,acc,P,N,rfl,rfl,O,d,f,g⟩:=hrel;have R:=f.size;by_cases m:k<t.size
   ·by_cases A:((t[k].toNat:Int) !=32)=true
    ·have b:Hid (hl t (t.size+1-k) k a=hl t (t.size+1-(k+1)) (k+1) a):=by
      show _=_
      rw[show t.size+1-k=(t.size+1-(k+1))+1 from by omega,hl,if_pos ⟨m,by rw[<-ck t k m];simpa using A⟩]
     go_wp2
     go_roundw
     case rel=>exact⟨k+1,a,acc,by omega,by omega,rfl,by go_num,by omega,d,f,by show _=_;rw[<-b];exact g⟩
     case measure=>simp[intOf];omega
    ·have q:((t[k].toNat:Int) !=32)=false:=by simpa using A
     by_cases o:a<k
     ·have b:Hid (hl t (t.size+1-k) k a=t.extract a k::hl t (t.size+1-(k+1)) (k+1) (k+1)):=by
       show _=_
       rw[show t.size+1-k=(t.size+1-(k+1))+1 from by omega,hl,if_neg (by rw[<-ck t k m];simp at q;simp[q]),if_pos o]
      go_wp2_with (at_builtin;refine wpList_append_own _ rfl _ _ 190 rfl w.heap.size 9 H (.string ByteArray.empty) 1 16 underlying190 C E F G rfl (by decide) _ _ _ rfl (d.alloc _) ⟨wr.heap.size,0,none⟩ 1 1 [.string (t.extract a k)] rfl rfl ?c1A1 ?c2A1 ?c3A1 ?c4A1 ?c5A1 ?_)
      case c1A1=>
       intro j u c
       match j,c with
       |0,c=>simp at c;subst c;simp[Addr.add]
      case c2A1=>first|rfl|(intro u p;simp at p;subst p;rfl)
      case c3A1=>unfold maxLen;omega
      case c4A1=>omega
      case c5A1=>simp;omega
      intro v' w2 x v _;have r:=IV f d v;have y:=Jt x;go_wp2
      go_roundw
      case rel=>exact⟨k+1,k+1,acc++[t.extract a k],by omega,by omega,by go_num,by go_num,by simp;omega,y,r,by show _=_;rw[List.append_assoc,List.singleton_append,<-b];exact g⟩
      case measure=>simp[intOf];omega
     ·have b:Hid (hl t (t.size+1-k) k a=hl t (t.size+1-(k+1)) (k+1) (k+1)):=by
       show _=_
       rw[show t.size+1-k=(t.size+1-(k+1))+1 from by omega,hl,if_neg (by rw[<-ck t k m];simp at q;simp[q]),if_neg o]
      go_wp2
      go_roundw
      case rel=>exact⟨k+1,k+1,acc,by omega,by omega,by go_num,by go_num,by omega,d,f,by show _=_;rw[<-b];exact g⟩
      case measure=>simp[intOf];omega
   ·by_cases hle:k<=t.size
    ·by_cases o:a<k
     ·have b:Hid (hl t (t.size+1-k) k a=t.extract a k::hl t (t.size+1-(k+1)) (k+1) (k+1)):=by
       show _=_
       rw[show t.size+1-k=(t.size+1-(k+1))+1 from by omega,hl,if_neg (by intro h;exact m h.1),if_pos o]
      go_wp2_with (at_builtin;refine wpList_append_own _ rfl _ _ 190 rfl w.heap.size 9 H (.string ByteArray.empty) 1 16 underlying190 C E F G rfl (by decide) _ _ _ rfl (d.alloc _) ⟨wr.heap.size,0,none⟩ 1 1 [.string (t.extract a k)] rfl rfl ?c1A2 ?c2A2 ?c3A2 ?c4A2 ?c5A2 ?_)
      case c1A2=>
       intro j u c
       match j,c with
       |0,c=>simp at c;subst c;simp[Addr.add]
      case c2A2=>first|rfl|(intro u p;simp at p;subst p;rfl)
      case c3A2=>unfold maxLen;omega
      case c4A2=>omega
      case c5A2=>simp;omega
      intro v' w2 x v _;have r:=IV f d v;have y:=Jt x;go_wp2
      go_roundw
      case rel=>exact⟨k+1,k+1,acc++[t.extract a k],by omega,by omega,by go_num,by go_num,by simp;omega,y,r,by show _=_;rw[List.append_assoc,List.singleton_append,<-b];exact g⟩
      case measure=>simp[intOf];omega
     ·have b:Hid (hl t (t.size+1-k) k a=hl t (t.size+1-(k+1)) (k+1) (k+1)):=by
       show _=_
       rw[show t.size+1-k=(t.size+1-(k+1))+1 from by omega,hl,if_neg (by intro h;exact m h.1),if_neg o]
      go_wp2
      go_roundw
      case rel=>exact⟨k+1,k+1,acc,by omega,by omega,by go_num,by go_num,by omega,d,f,by show _=_;rw[<-b];exact g⟩
      case measure=>simp[intOf];omega
    ·have b:Hid (hl t (t.size+1-k) k a=[]):=by
      show _=_
      rw[show t.size+1-k=0 from by omega,hl]
     go_wp2
     go_ret;exact IN.mk acc (by have z:=g.out;rw[b,List.append_nil]at z;exact z.symm) d f
 ·have Q:Lib.indexByte s.data.toList 59=-1:=by have:=Lib.indexByte_ge s.data.toList 59;omega
  have L:=KP s (-1) Q;have I:=Z L;have D:Hid (I3 s=s):=by show _=_;unfold I3;rw[if_neg K]
  go_in
  go_wp2_with (go_at_call 227;refine(I _).mono ?_;rintro e w' ⟨rfl,rfl⟩)
  obtain⟨t,S,U⟩:∃t:ByteArray,t=s/\Hid (I3 s=t):=⟨s,rfl,D⟩;have J:Hid (hl s (s.size+1-0) 0 0=H3 s):=by show _=_;unfold H3;rw[D];rfl
  go_loopw [4,5,6] (fun l at_ i wr=>∃(k a:Nat) (acc:List ByteArray),k<=s.size+1/\a<=k/\at_=.int .i64 a/\i=.int .i64 k/\acc.length<=k/\wr.ownsRow w.heap.size 9 1 l acc.length (acc.map Value.string)/\Below w.heap.size w wr/\Hid (acc++hl s (s.size+1-k) k a=H3 s)) (fun _ _ i _=>s.size+1-(intOf i).toNat)
  case atStart=>exact⟨0,0,[],by omega,by omega,rfl,rfl,by simp,World.ownsRow_nil _ _ _ _,Below.refl _ _,J⟩
  case round=>
   obtain⟨k,a,acc,P,N,rfl,rfl,O,d,f,g⟩:=hrel;have R:=f.size;by_cases m:k<s.size
   ·by_cases A:((s[k].toNat:Int) !=32)=true
    ·have b:Hid (hl s (s.size+1-k) k a=hl s (s.size+1-(k+1)) (k+1) a):=by
      show _=_
      rw[show s.size+1-k=(s.size+1-(k+1))+1 from by omega,hl,if_pos ⟨m,by rw[<-ck s k m];simpa using A⟩]
     go_wp2
     go_roundw
     case rel=>exact⟨k+1,a,acc,by omega,by omega,rfl,by go_num,by omega,d,f,by show _=_;rw[<-b];exact g⟩
     case measure=>simp[intOf];omega
    ·have q:((s[k].toNat:Int) !=32)=false:=by simpa using A
     by_cases o:a<k
     ·have b:Hid (hl s (s.size+1-k) k a=s.extract a k::hl s (s.size+1-(k+1)) (k+1) (k+1)):=by
       show _=_
       rw[show s.size+1-k=(s.size+1-(k+1))+1 from by omega,hl,if_neg (by rw[<-ck s k m];simp at q;simp[q]),if_pos o]
      go_wp2_with (at_builtin;refine wpList_append_own _ rfl _ _ 190 rfl w.heap.size 9 H (.string ByteArray.empty) 1 16 underlying190 C E F G rfl (by decide) _ _ _ rfl (d.alloc _) ⟨wr.heap.size,0,none⟩ 1 1 [.string (s.extract a k)] rfl rfl ?c1B1 ?c2B1 ?c3B1 ?c4B1 ?c5B1 ?_)
      case c1B1=>
       intro j u c
       match j,c with
       |0,c=>simp at c;subst c;simp[Addr.add]
      case c2B1=>first|rfl|(intro u p;simp at p;subst p;rfl)
      case c3B1=>unfold maxLen;omega
      case c4B1=>omega
      case c5B1=>simp;omega
      intro v' w2 x v _;have r:=IV f d v;have y:=Jt x;go_wp2
      go_roundw
      case rel=>exact⟨k+1,k+1,acc++[s.extract a k],by omega,by omega,by go_num,by go_num,by simp;omega,y,r,by show _=_;rw[List.append_assoc,List.singleton_append,<-b];exact g⟩
      case measure=>simp[intOf];omega
     ·have b:Hid (hl s (s.size+1-k) k a=hl s (s.size+1-(k+1)) (k+1) (k+1)):=by
       show _=_
       rw[show s.size+1-k=(s.size+1-(k+1))+1 from by omega,hl,if_neg (by rw[<-ck s k m];simp at q;simp[q]),if_neg o]
      go_wp2
      go_roundw
      case rel=>exact⟨k+1,k+1,acc,by omega,by omega,by go_num,by go_num,by omega,d,f,by show _=_;rw[<-b];exact g⟩
      case measure=>simp[intOf];omega
   ·by_cases hle:k<=s.size
    ·by_cases o:a<k
     ·have b:Hid (hl s (s.size+1-k) k a=s.extract a k::hl s (s.size+1-(k+1)) (k+1) (k+1)):=by
       show _=_
       rw[show s.size+1-k=(s.size+1-(k+1))+1 from by omega,hl,if_neg (by intro h;exact m h.1),if_pos o]
      go_wp2_with (at_builtin;refine wpList_append_own _ rfl _ _ 190 rfl w.heap.size 9 H (.string ByteArray.empty) 1 16 underlying190 C E F G rfl (by decide) _ _ _ rfl (d.alloc _) ⟨wr.heap.size,0,none⟩ 1 1 [.string (s.extract a k)] rfl rfl ?c1B2 ?c2B2 ?c3B2 ?c4B2 ?c5B2 ?_)
      case c1B2=>
       intro j u c
       match j,c with
       |0,c=>simp at c;subst c;simp[Addr.add]
      case c2B2=>first|rfl|(intro u p;simp at p;subst p;rfl)
      case c3B2=>unfold maxLen;omega
      case c4B2=>omega
      case c5B2=>simp;omega
      intro v' w2 x v _;have r:=IV f d v;have y:=Jt x;go_wp2
      go_roundw
      case rel=>exact⟨k+1,k+1,acc++[s.extract a k],by omega,by omega,by go_num,by go_num,by simp;omega,y,r,by show _=_;rw[List.append_assoc,List.singleton_append,<-b];exact g⟩
      case measure=>simp[intOf];omega
     ·have b:Hid (hl s (s.size+1-k) k a=hl s (s.size+1-(k+1)) (k+1) (k+1)):=by
       show _=_
       rw[show s.size+1-k=(s.size+1-(k+1))+1 from by omega,hl,if_neg (by intro h;exact m h.1),if_neg o]
      go_wp2
      go_roundw
      case rel=>exact⟨k+1,k+1,acc,by omega,by omega,by go_num,by go_num,by omega,d,f,by show _=_;rw[<-b];exact g⟩
      case measure=>simp[intOf];omega
    ·have b:Hid (hl s (s.size+1-k) k a=[]):=by
      show _=_
      rw[show s.size+1-k=0 from by omega,hl]
     go_wp2
     go_ret;exact IN.mk acc (by have z:=g.out;rw[b,List.append_nil]at z;exact z.symm) d f
def JM(s:ByteArray):Bool:=decide ((s.size:Int)<2∨sv s 0≠91∨sv s (s.size-1)≠93)
def Jh(X:be):Except Int Int->Except Bool be
 |.ok v=> .ok {X with v:=v}
 |.error _=> .error false
def plusV(t:ByteArray):Int:=Lib.indexByte t.data.toList 43
def Kw(X:be)(t:ByteArray):Except Bool be:=
 if(Iz t).2 then .ok {X with b:=(Iz t).1}
 else if 0<=plusV t then
  (if(Iz (t.extract 0 (plusV t).toNat)).2 then Jh {X with b:=(Iz (t.extract 0 (plusV t).toNat)).1} (vh (t.extract ((plusV t).toNat+1) t.size))else .error true)
 else Jh {X with b:=-1} (vh t)
def H8(X:be)(s:ByteArray):Except Bool be:=
 if JM s then .error true else Kw X (s.extract 1 (s.size-1))
theorem Kh(s:ByteArray)(n:Int)(h:plusV s=n)(w:World):Calls prog 227 #[.string s,.int .u8 43] w (JP .i64 n w):=
 (Iq s 43 w).mono fun e w' ⟨a,b⟩=>⟨by rw[a,<-h];rfl,b.symm⟩
theorem IC(s:ByteArray)(a:s.size<=maxLen)(n:Int)(b:Bool)(h:Iz s=(n,b))(w:World):Calls prog 228 #[.string s] w (Jj .i64 (n,b) w):=by
 rw[<-h];exact Jp s a w
theorem KQ(s:ByteArray)(W:s.size<=65536)(line:Int)(bx:Nat)(X:be)(w:World)(i:nb w bx X):
 Calls prog 230 #[(bx,0),.string s,line] w (pk (H8 X s) bx line w):=by
 have S:w.cell? (bx,2)=some (.int .i64 X.b):=i.cell 2;have T:w.cell? (bx,4)=some (.int .u64 X.v):=i.cell 4;have f2:=i.free 2;have f4:=i.free 4;have U:=i.lt;have C:=Z i;clear i;by_cases hb:JM s=true
 ·have a:Hid (H8 X s=.error true):=by show _=_;unfold H8;rw[if_pos hb]
  unfold JM at hb
  replace hb:=of_decide_eq_true hb
  have I:=Z hb;clear hb;go_enter func230,ntmps230
  go_wp2_with (go_at_call 142;refine(sz _ _ _ _).mono ?_;rintro e w' ⟨rfl,rfl⟩)
  all_goals first
   |(go_ret;exact pk.text a (by simp) (cf w _))
   |(exfalso;have hb:=I.out;simp only[ck,bne_eq_false_iff_eq]at*;omega)
 ·have F:Hid (∀t,s.extract 1 (s.size-1)=t->H8 X s=Kw X t):=by
   intro t h;subst h;unfold H8;rw[if_neg hb]
  unfold JM at hb;simp only[decide_eq_true_eq]at hb;have p2:2<=s.size:=by omega
  have a0:0<s.size:=by omega
  have p1:s.size-1<s.size:=by omega
  have K:((s[0].toNat:Int) !=91)=false:=by rw[ck,bne_eq_false_iff_eq];omega
  have L:((s[s.size-1].toNat:Int) !=93)=false:=by rw[ck,bne_eq_false_iff_eq];omega
  clear hb;go_enter func230,ntmps230
  go_wp2_with fail
  have Y:(s.extract 1 (s.size-1)).size<=65536:=by simp;omega
  generalize N:s.extract 1 (s.size-1)=t at*;have B:=Z (F t rfl);clear F N K L;have g:t.size<=maxLen:=by unfold maxLen;omega
  rcases k:Iz t with⟨n,b⟩
  cases b
  ·have u:=Z (IC t g n false k)
   have r:Hid (H8 X s=if 0<=plusV t then
    (if(Iz (t.extract 0 (plusV t).toNat)).2 then Jh {X with b:=(Iz (t.extract 0 (plusV t).toNat)).1} (vh (t.extract ((plusV t).toNat+1) t.size))else .error true)
    else Jh {X with b:=-1} (vh t)):=by
    show _=_;rw[B];unfold Kw;rw[k];rfl
   clear k B;refine(u _).mono ?_;rintro e w' ⟨rfl,rfl⟩;clear u;by_cases m:0<=plusV t
   ·obtain⟨q,o⟩:=Int.eq_ofNat_of_zero_le m
    have V:q<t.size:=by
     rcases MQ t.data.toList 43 with h|h
     ·have:Lib.indexByte t.data.toList 43=q:=o
      rw[this]at h;simp at h;exact h
     ·exfalso;have:Lib.indexByte t.data.toList 43=q:=o
      rw[h]at this;simp[Lib.indexByte]at this
    have l:=Z (Kh t q o);have d:Hid (H8 X s=if(Iz (t.extract 0 q)).2 then Jh {X with b:=(Iz (t.extract 0 q)).1} (vh (t.extract (q+1) t.size))else .error true):=by
     show _=_;rw[r,if_pos m,o];rfl
    clear o m r;go_wp2_with (go_at_call 227;refine(l _).mono ?_;rintro e w' ⟨rfl,rfl⟩)
    clear l;have Q:(t.extract 0 q).size<=maxLen:=(by unfold maxLen;simp;omega);have R:(t.extract (q+1) t.size).size<=maxLen:=(by unfold maxLen;simp;omega);generalize O:t.extract 0 q=y at*;generalize D:t.extract (q+1) t.size=z at*;clear O;rcases p:Iz y with⟨x,G⟩
    have A:=Z (IC y Q x G p);cases G
    ·have a:Hid (H8 X s=.error true):=by show _=_;rw[d,p];rfl
     clear p d D;refine(A _).mono ?_;rintro e w' ⟨rfl,rfl⟩;go_wp2_with (go_at_call 142;refine(sz _ _ _ _).mono ?_;rintro e w' ⟨rfl,rfl⟩)
     go_ret;exact pk.text a (by simp) (ec (ec (cf w _) _ _) _ _)
    ·have E:Hid (H8 X s=Jh {X with b:=x} (vh z)):=by show _=_;rw[d,p];rfl
     clear p d;have J:=Z D;clear D;refine(A _).mono ?_;rintro e w' ⟨rfl,rfl⟩;clear A;go_wp2_with fail
     rw[J];have g:=R;rcases c:vh z with j|v
     ·have a:Hid (H8 X s=.error false):=by show _=_;rw[E,c];rfl
      have f:=Z (Ic z g j c);clear c;refine(f _ _).mono ?_;rintro e w' ⟨rfl,rfl⟩;go_wp2
      go_ret;exact pk.num a (by simp) (by repeat(first|exact cf _ _|refine ec ?_ _ _|refine HT ?_ _))
     ·have a:Hid (H8 X s=.ok {({X with b:=x}:be)with v:=v}):=by show _=_;rw[E,c];rfl
      have f:=Z (Ib z g v c);clear c;refine(f _ _).mono ?_;rintro e w' ⟨rfl,M,P,rfl⟩;go_wp2
      go_ret;exact pk.vB _ a (((C.oJ (-1)).oJ x).mU v) (ec (ec (ec (cf w _) _ _) _ _) _ _)
   ·have H:plusV t=-1:=by have:=Lib.indexByte_ge t.data.toList 43;unfold plusV at*;omega
    have l:=Z (Kh t (-1) H);have d:Hid (H8 X s=Jh {X with b:=-1} (vh t)):=by
     show _=_;rw[r,if_neg m]
    clear H m r;go_wp2_with (go_at_call 227;refine(l _).mono ?_;rintro e w' ⟨rfl,rfl⟩)
    clear l;rcases c:vh t with j|v
    ·have a:Hid (H8 X s=.error false):=by show _=_;rw[d,c];rfl
     have f:=Z (Ic t g j c);clear c;refine(f _ _).mono ?_;rintro e w' ⟨rfl,rfl⟩;go_wp2
     go_ret;exact pk.num a (by simp) (by repeat(first|exact cf _ _|refine ec ?_ _ _|refine HT ?_ _))
    ·have a:Hid (H8 X s=.ok {({X with b:=-1}:be)with v:=v}):=by show _=_;rw[d,c];rfl
     have f:=Z (Ib t g v c);clear c;refine(f _ _).mono ?_;rintro e w' ⟨rfl,M,P,rfl⟩;go_wp2
     go_ret;exact pk.vB _ a ((C.oJ (-1)).mU v) (ec (ec (cf w _) _ _) _ _)
  ·have u:=Z (IC t g n true k)
   have a:Hid (H8 X s=.ok {X with b:=n}):=(by show _=_;rw[B];unfold Kw;rw[k];rfl);clear k;refine(u _).mono ?_;rintro e w' ⟨rfl,rfl⟩;go_wp2
   go_ret;exact pk.vB _ a (C.oJ n) (ec (cf w _) _ _)
variable{w':World}{p:Nat}{e:TypeId}{xs:List Value}
structure w3 where
 code:List be
 labels:List (ByteArray×Int)
 lines:List Int
 bu:List (Int×Int×ByteArray)
def HV(l:List (ByteArray×Int)):List Value:=l.flatMap fun b=>[.string b.1,.int .i64 b.2]
def Ig(l:List Int):List Value:=l.map (Value.int .i64)
def HP(l:List (Int×Int×ByteArray)):List Value:=l.flatMap fun x=>[.int .i64 x.1,.int .i64 x.2.1,.string x.2.2]
def HM(l:List (ByteArray×Int)):Array MapEntry:=(l.zipIdx.map fun x=>({key:=.string x.1.1,val:=.int .i64 x.2,born:=x.2}:MapEntry)).toArray
def HQ(w:World)(B p bx:Nat)(st:w3):Prop:=
 ∃vl vb vn vw bm,w.heap[p]?=some (.cells #[vl,vb,vn,.map (some bm),vw] 296 (0,0))/\B<=p/\
  w.ownsRow B 184 7 vl st.code.length (b4 st.code)/\vl.ownBlock≠some bx/\
  w.ownsRow B 301 2 vb st.labels.length (HV st.labels)/\
  w.ownsRow B 3 1 vn st.lines.length (Ig st.lines)/\
  w.ownsRow B 300 3 vw st.bu.length (HP st.bu)/\
  B<=bm/\w.heap[bm]?=some (.map (HM st.labels) st.labels.length)
def H9(w w':World):Prop:=
 ∀(k:Nat) (c:Array Value) (t:TypeId) (f:Nat×Nat),(t=9∨t=249∨t=349)->w.heap[k]?=some (.cells c t f)->w'.heap[k]?=some (.cells c t f)
theorem H9.refl(w:World):H9 w w:=fun _ _ _ _ _ h=>h
theorem H9.trans{a b c:World}(h:H9 a b)(g:H9 b c):H9 a c:=fun k x t f d i=>g k x t f d (h k x t f d i)
theorem tw{size:Nat}(h:w.ownsRow B e size v n xs){c:Array Value}{t:TypeId}{f:Nat×Nat}(a:w.heap[k]?=some (.cells c t f))(j:t≠e):v.ownBlock≠some k:=by
 rcases h.2 with⟨rfl,_⟩|⟨g,cap,cur,rfl,_,d,_⟩
 ·simp[Value.ownBlock]
 ·intro i
  have:g=k:=by simpa[Value.ownBlock]using i
  subst this;rw[d]at a;injection a with a
  injection a with _ b _
  exact j b.symm
theorem Jb{size:Nat}(h:w.ownsRow B e size v n xs){c:Array MapEntry}{t:Nat}(a:w.heap[k]?=some (.map c t)):v.ownBlock≠some k:=by
 rcases h.2 with⟨rfl,_⟩|⟨g,cap,cur,rfl,_,b,_⟩
 ·simp[Value.ownBlock]
 ·intro d
  have:g=k:=by simpa[Value.ownBlock]using d
  subst this;rw[b]at a;injection a with a
  cases a
theorem JV{r:Option Nat}(g:w.grownBy w' r)(i:∀b,r=some b->∀c t f,w.heap[b]?=some (.cells c t f)->t≠9/\t≠249/\t≠349):H9 w w':=by
 intro k c t f j d;rw[g.block k (Array.getElem?_eq_some_iff.1 d).1 (fun e=>by
  have a:=i k e.symm c t f d;rcases j with h|h|h
  ·exact a.1 h
  ·exact a.2.1 h
  ·exact a.2.2 h)]
 exact d
theorem HQ.grown{st:w3}(h:HQ w B p bx st)(a:nb w bx X)(b:w.grownBy w' (some bx)):HQ w' B p bx st:=by
 obtain⟨vl,vb,vn,vw,bm,d,l,o,g,hb,f,i,m,c⟩:=h;refine⟨vl,vb,vn,vw,bm,?_,l,o.kept b (Or.inr g),g,hb.kept b (Or.inr (tw hb a (by decide))),f.kept b (Or.inr (tw f a (by decide))),i.kept b (Or.inr (tw i a (by decide))),m,?_⟩
 ·rw[b.block p (Array.getElem?_eq_some_iff.1 d).1 (fun e=>by
   injection e with e;subst e;unfold nb at a;rw[d]at a;injection a with a;injection a with _ j _;exact absurd j (by decide))]
  exact d
 ·rw[b.block bm (Array.getElem?_eq_some_iff.1 c).1 (fun e=>by
   injection e with e;subst e;unfold nb at a;rw[c]at a;injection a with a;cases a)]
  exact c
theorem Ki(a:nb w bx X)(g:w.grownBy w' (some bx)):H9 w w':=
 JV g fun b e c t f hb=>by
  injection e with e;subst e;unfold nb at a;rw[a]at hb;injection hb with hb;injection hb with _ d _;subst d;decide
theorem Jc(b:B<=bx)(d:bx<w.heap.size)(a:w.grownBy w' (some bx)):Below B w w':=
 ⟨a.os,a.tape,a.output,a.size,fun k c=>a.block k (by omega) (fun e=>by injection e with e;omega)⟩
theorem JU.mono{a c:Nat}{line:Int}{t:Bool}(h:JU w a line t v)(l:c<=a):JU w c line t v:=by
 obtain⟨b,i,d,j,f,g⟩:=h;exact⟨b,i,d,by omega,f,g⟩
def qu(X:be)(kind n:Int):be:=if kind=1 then {X with a:=n}else if kind=2∨kind=5 then {X with b:=n}else {X with c:=n}
def HN(X:be)(kind:Int)(s:ByteArray):Except Bool be:=
 if kind=6 then H8 X s
 else if kind<=5/\(Iz s).2 then .ok (qu X kind (Iz s).1)
 else if kind<=3 then .error true
 else Jh (if kind=5 then {X with b:=-1}else if kind=4 then {X with c:=-1}else X) (vh s)
def JW(st:w3):Except Bool be->Except Bool (w3×be)
 |.ok a=> .ok (st,a)
 |.error t=> .error t
def IP(st:w3)(X:be)(kind:Int)(s:ByteArray)(line:Int):Except Bool (w3×be):=
 if 8<=kind/\Iy s then .ok ({st with bu:=st.bu++[((st.code.length:Int),line,s)]},X)
 else if kind=8 then .error true
 else JW st (HN X kind s)
def Ie(r:Except Bool (w3×be))(B p bx:Nat)(line:Int)(w:World)(e:Ending)(w':World):Prop:=
 match r with
 |.ok (st,X)=>e=.returned .nilIface/\HQ w' B p bx st/\nb w' bx X/\Below B w w'/\H9 w w'
 |.error t=>∃v,e=.returned v/\JU w' B line t v/\Below B w w'
theorem Ie.of{r:Except Bool be}{r':Except Bool (w3×be)}{st:w3}{line:Int}{e:Ending}
 (h:pk r bx line w e w') (g:r'=JW st r) (i:HQ w B p bx st) (a:nb w bx X) (b:B<=bx):Ie r' B p bx line w e w':=by
 subst g;cases r with
 |ok j=>exact⟨h.1,i.grown a h.2.2,h.2.1,Jc b a.lt h.2.2,Ki a h.2.2⟩
 |error t=>
  obtain⟨v,c,d,f⟩:=h;exact⟨v,c,d.mono (by have:=a.lt;omega),Jc b a.lt f⟩
theorem L0(s:ByteArray)(r:s.size<=65536)(kind line:Int)(j:kind=1∨kind=2∨kind=3)(l bx:Nat)(X:be)(w:World)(f:nb w bx X):
 Calls prog 189 #[(l,0),(bx,0),kind,.string s,line] w (pk (HN X kind s) bx line w):=by
 have m:w.cell? (bx,1)=some (.int .i64 X.a):=f.cell 1;have o:w.cell? (bx,2)=some (.int .i64 X.b):=f.cell 2;have p:w.cell? (bx,3)=some (.int .i64 X.c):=f.cell 3;have f1:=f.free 1;have f2:=f.free 2;have f3:=f.free 3;have q:=f.lt;have i:=Z f;have k:s.size<=maxLen:=by unfold maxLen;omega
 rcases g:Iz s with⟨n,b⟩
 have h:=Z (IC s k n b g);cases b
 ·rcases j with rfl|rfl|rfl
  ·have d:Hid (HN X 1 s=.error true):=by show _=_;unfold HN;rw[g];rfl
   go_in
   go_wp2_with (first|(go_at_call 228;refine(h _).mono ?_;rintro e w' ⟨rfl,rfl⟩)|(go_at_call 142;refine(sz _ _ _ _).mono ?_;rintro e w' ⟨rfl,rfl⟩))
   go_ret;exact pk.text d (by simp) (cf w _)
  ·have d:Hid (HN X 2 s=.error true):=by show _=_;unfold HN;rw[g];rfl
   go_in
   go_wp2_with (first|(go_at_call 228;refine(h _).mono ?_;rintro e w' ⟨rfl,rfl⟩)|(go_at_call 142;refine(sz _ _ _ _).mono ?_;rintro e w' ⟨rfl,rfl⟩))
   go_ret;exact pk.text d (by simp) (cf w _)
  ·have d:Hid (HN X 3 s=.error true):=by show _=_;unfold HN;rw[g];rfl
   go_in
   go_wp2_with (first|(go_at_call 228;refine(h _).mono ?_;rintro e w' ⟨rfl,rfl⟩)|(go_at_call 142;refine(sz _ _ _ _).mono ?_;rintro e w' ⟨rfl,rfl⟩))
   go_ret;exact pk.text d (by simp) (cf w _)
 ·rcases j with rfl|rfl|rfl
  ·have d:Hid (HN X 1 s=.ok {X with a:=n}):=by show _=_;unfold HN;rw[g];rfl
   go_in
   go_wp2_with (go_at_call 228;refine(h _).mono ?_;rintro e w' ⟨rfl,rfl⟩)
   go_ret;exact pk.vB _ d (i.Gc n) (ec (cf w _) _ _)
  ·have d:Hid (HN X 2 s=.ok {X with b:=n}):=by show _=_;unfold HN;rw[g];rfl
   go_in
   go_wp2_with (go_at_call 228;refine(h _).mono ?_;rintro e w' ⟨rfl,rfl⟩)
   go_ret;exact pk.vB _ d (i.oJ n) (ec (cf w _) _ _)
  ·have d:Hid (HN X 3 s=.ok {X with c:=n}):=by show _=_;unfold HN;rw[g];rfl
   go_in
   go_wp2_with (go_at_call 228;refine(h _).mono ?_;rintro e w' ⟨rfl,rfl⟩)
   go_ret;exact pk.vB _ d (i.wE n) (ec (cf w _) _ _)
theorem L1(s:ByteArray)(y:s.size<=65536)(kind line:Int)(A:kind=4∨kind=5∨kind=7∨kind=6)(B bx:Nat)(X:be)(w:World)(i:nb w bx X):
 Calls prog 189 #[(B,0),(bx,0),kind,.string s,line] w (pk (HN X kind s) bx line w):=by
 have C:w.cell? (bx,2)=some (.int .i64 X.b):=i.cell 2;have D:w.cell? (bx,3)=some (.int .i64 X.c):=i.cell 3;have E:w.cell? (bx,4)=some (.int .u64 X.v):=i.cell 4;have f2:=i.free 2;have f3:=i.free 3;have f4:=i.free 4;have F:=i.lt;have k:=Z i;have l:s.size<=maxLen:=by unfold maxLen;omega
 rcases h:Iz s with⟨n,b⟩
 have g:=Z (IC s l n b h);rcases A with rfl|rfl|rfl|rfl
 ·cases b
  ·rcases d:vh s with j|v
   ·have a:Hid (HN X 4 s=.error false):=by show _=_;unfold HN;rw[h,d];rfl
    have f:=Z (Ic s l j d);go_in
    go_wp2_with (first|(go_at_call 228;refine(g _).mono ?_;rintro e w' ⟨rfl,rfl⟩)|(go_at_call 229;refine(f _ _).mono ?_;rintro e w' ⟨rfl,rfl⟩))
    go_ret;exact pk.num a (by simp) (by repeat(first|exact cf _ _|refine ec ?_ _ _|refine HT ?_ _))
   ·have a:Hid (HN X 4 s=.ok {({X with c:=-1}:be)with v:=v}):=by show _=_;unfold HN;rw[h,d];rfl
    have f:=Z (Ib s l v d);go_in
    go_wp2_with (first|(go_at_call 228;refine(g _).mono ?_;rintro e w' ⟨rfl,rfl⟩)|(go_at_call 229;refine(f _ _).mono ?_;rintro e w' ⟨rfl,x,z,rfl⟩))
    go_ret;exact pk.vB _ a ((k.wE (-1)).mU v) (ec (ec (cf w _) _ _) _ _)
  ·have a:Hid (HN X 4 s=.ok {X with c:=n}):=by show _=_;unfold HN;rw[h];rfl
   go_in
   go_wp2_with (go_at_call 228;refine(g _).mono ?_;rintro e w' ⟨rfl,rfl⟩)
   go_ret;exact pk.vB _ a (k.wE n) (ec (cf w _) _ _)
 ·cases b
  ·rcases d:vh s with j|v
   ·have a:Hid (HN X 5 s=.error false):=by show _=_;unfold HN;rw[h,d];rfl
    have f:=Z (Ic s l j d);go_in
    go_wp2_with (first|(go_at_call 228;refine(g _).mono ?_;rintro e w' ⟨rfl,rfl⟩)|(go_at_call 229;refine(f _ _).mono ?_;rintro e w' ⟨rfl,rfl⟩))
    go_ret;exact pk.num a (by simp) (by repeat(first|exact cf _ _|refine ec ?_ _ _|refine HT ?_ _))
   ·have a:Hid (HN X 5 s=.ok {({X with b:=-1}:be)with v:=v}):=by show _=_;unfold HN;rw[h,d];rfl
    have f:=Z (Ib s l v d);go_in
    go_wp2_with (first|(go_at_call 228;refine(g _).mono ?_;rintro e w' ⟨rfl,rfl⟩)|(go_at_call 229;refine(f _ _).mono ?_;rintro e w' ⟨rfl,x,z,rfl⟩))
    go_ret;exact pk.vB _ a ((k.oJ (-1)).mU v) (ec (ec (cf w _) _ _) _ _)
  ·have a:Hid (HN X 5 s=.ok {X with b:=n}):=by show _=_;unfold HN;rw[h];rfl
   go_in
   go_wp2_with (go_at_call 228;refine(g _).mono ?_;rintro e w' ⟨rfl,rfl⟩)
   go_ret;exact pk.vB _ a (k.oJ n) (ec (cf w _) _ _)
 ·rcases d:vh s with j|v
  ·have a:Hid (HN X 7 s=.error false):=by show _=_;unfold HN;rw[h,d];rfl
   have f:=Z (Ic s l j d);go_in
   go_wp2_with (first|(go_at_call 228;refine(g _).mono ?_;rintro e w' ⟨rfl,rfl⟩)|(go_at_call 229;refine(f _ _).mono ?_;rintro e w' ⟨rfl,rfl⟩))
   go_ret;exact pk.num a (by simp) (by repeat(first|exact cf _ _|refine ec ?_ _ _|refine HT ?_ _))
  ·have a:Hid (HN X 7 s=.ok {X with v:=v}):=by show _=_;unfold HN;rw[h,d];rfl
   have f:=Z (Ib s l v d);go_in
   go_wp2_with (first|(go_at_call 228;refine(g _).mono ?_;rintro e w' ⟨rfl,rfl⟩)|(go_at_call 229;refine(f _ _).mono ?_;rintro e w' ⟨rfl,x,z,rfl⟩))
   go_ret;exact pk.vB _ a ((k).mU v) (ec (cf w _) _ _)
 ·have a:Hid (HN X 6 s=H8 X s):=by show _=_;unfold HN;rfl
  rcases m:H8 X s with t|u
  ·have o:=Z (show Calls prog 230 #[(bx,0),.string s,line] w (pk (.error t) bx line w)from m▸KQ s y line bx X w k)
   have p:Hid (HN X 6 s=.error t):=a.trans m;go_in
   go_wp2_with (first|(go_at_call 228;refine(g _).mono ?_;rintro e w' ⟨rfl,rfl⟩)|(go_at_call 230;refine o.mono ?_;rintro e w' ⟨v,rfl,q,r⟩))
   go_ret;rw[p];exact⟨v,rfl,q,r⟩
  ·have o:=Z (show Calls prog 230 #[(bx,0),.string s,line] w (pk (.ok u) bx line w)from m▸KQ s y line bx X w k)
   have p:Hid (HN X 6 s=.ok u):=a.trans m;go_in
   go_wp2_with (first|(go_at_call 228;refine(g _).mono ?_;rintro e w' ⟨rfl,rfl⟩)|(go_at_call 230;refine o.mono ?_;rintro e w' ⟨rfl,q,r⟩))
   go_ret;rw[p];exact⟨rfl,q,r⟩
variable{i j:Nat}{t:TypeId}{u v':Value}
theorem MZ:(prog.info? 300).map (fun i=>(i.zero,i.size,i.bytes))=some (some (.agg #[.int .i64 0,.int .i64 0,.string ByteArray.empty]),3,32):=by kernel_rfl
theorem H2{size:Nat}(h:w.ownsRow B e size v n xs):∃a c,v=.slice a n c:=by
 rcases h.2 with⟨rfl,rfl⟩|⟨g,cap,cur,rfl,_⟩
 ·exact⟨_,_,rfl⟩
 ·exact⟨_,_,rfl⟩
theorem IW(s:ByteArray)(a:s.size<=maxLen)(b:Bool)(h:Iy s=b)(w:World):Calls prog 186 #[.string s] w (JF b w):=by rw[<-h];exact LB s a w
theorem sb{c:Array Value}(h:w.heap[b]?=some (.cells c t (0,0))):w.cell? (b,i)=c[i]?:=cell_of_row w b i _ _ _ h
theorem Jd{c:Array Value}(h:w.heap[b]?=some (.cells c t (0,0))):w.frozen? (b,i)=false:=by
 unfold World.frozen?;simp only[h];simp
theorem H5{c:Nat}{a:TypeId}{size m:Nat}{l:Nat}{o:List Value}(h:w.ownsRow B e size v n xs)(d:w.ownsRow c a m v' l o)(k:e≠a):v.ownBlock=none∨v.ownBlock≠v'.ownBlock:=by
 rcases h.2 with⟨rfl,_⟩|⟨g,cap,cur,rfl,_,f,_⟩
 ·exact Or.inl rfl
 ·refine Or.inr fun heq=> ?_
  have:=tw d f k;exact this heq.symm
theorem H6{size:Nat}{c:Array Value}{f:Nat×Nat}
 (h:w.ownsRow B e size v n xs) (a:w.grownBy w1 r) (d:v.ownBlock=none∨v.ownBlock≠r) (k:w1.heap[p]?=some (.cells c 296 f)) (g:e≠296):
 (w1.setCell (p,j) u).ownsRow B e size v n xs:=
 ownsRow_setCell_other (h.kept a d) (tw (h.kept a d) k (Ne.symm g)) u
theorem JN{size:Nat}{c:Array Value}{f:Nat×Nat}
 (h:w1.ownsRow B e size v n xs) (d:w1.heap[p]?=some (.cells c 296 f)) (a:e≠296):(w1.setCell (p,j) u).ownsRow B e size v n xs:=
 ownsRow_setCell_other h (tw h d (Ne.symm a)) u
theorem HO{o:Obj}(h:(w.alloc o).grownBy w1 r):w.grownBy w1 r:=
 KL (World.grownBy_alloc w o r) h
theorem HW(h:w.drew.grownBy w1 r):w.grownBy w1 r:=⟨h.os,h.tape,h.output,h.size,h.block⟩
theorem II(a:w.grownBy w1 r)(c:∀k,r=some k->B<=k)(d:B<=p)(g:p<w.heap.size):Below B w (w1.setCell (p,j) u):=
 ⟨a.os,a.tape,a.output,by have:=a.size;simp;omega,fun k f=>by
  rw[HL (by simp;omega)];exact a.block k (by omega) (fun e=>by have:=c k e.symm;omega)⟩
theorem IX{c:Array Value}{f:Nat×Nat}(s:w.heap[p]?=some (.cells c 296 f))(o:w.grownBy w1 r)
 (x:∀b,r=some b->∀c t f,w.heap[b]?=some (.cells c t f)->t≠9/\t≠249/\t≠349):H9 w (w1.setCell (p,j) u):=by
 intro k g t l d a;have q:k≠p:=by
  intro e;subst e;rw[s]at a;injection a with a;injection a with _ m _
  subst m;rcases d with h|h|h<;>exact absurd h (by decide)
 rw[HL (by simpa using q)];exact JV o x k g t l d a
theorem Je{size:Nat}(h:w.ownsRow B e size v n xs)(d:e≠9/\e≠249/\e≠349):
 ∀b,v.ownBlock=some b->∀c t f,w.heap[b]?=some (.cells c t f)->t≠9/\t≠249/\t≠349:=by
 intro b hb c t f g;by_cases a:t=e
 ·subst a;exact d
 ·exact absurd hb (tw h g a)
theorem Lu{bx:Nat}{st:w3}{X:be}{vl vb vn vw:Value}{bm:Nat}{y:Int×Int×ByteArray}
 (a:w.heap[p]?=some (.cells #[vl,vb,vn,.map (some bm),vw] 296 (0,0))) (l:B<=p) (m:w.ownsRow B 184 7 vl st.code.length (b4 st.code)) (A:vl.ownBlock≠some bx)
 (hb:w.ownsRow B 301 2 vb st.labels.length (HV st.labels)) (o:w.ownsRow B 3 1 vn st.lines.length (Ig st.lines)) (d:w.ownsRow B 300 3 vw st.bu.length (HP st.bu))
 (x:B<=bm) (h:w.heap[bm]?=some (.map (HM st.labels) st.labels.length)) (g:nb w bx X) (G:B<=bx)
 (C:w1.ownsRow B 300 3 v' (st.bu.length+1) (HP st.bu++[.int .i64 y.1,.int .i64 y.2.1,.string y.2.2])) (c:w.grownBy w1 vw.ownBlock):
 HQ (w1.setCell (p,4) v') B p bx {st with bu:=st.bu++[y]}/\nb (w1.setCell (p,4) v') bx X/\Below B w (w1.setCell (p,4) v')/\H9 w (w1.setCell (p,4) v'):=by
 have q:p<w.heap.size:=(Array.getElem?_eq_some_iff.1 a).1;have F:vw.ownBlock≠some p:=tw d a (by decide);have f:w1.heap[p]?=some (.cells #[vl,vb,vn,.map (some bm),vw] 296 (0,0)):=by rw[c.block p q (Ne.symm F)];exact a
 have E:bx≠p:=by
  intro e;subst e;unfold nb at g;rw[g]at a;injection a with a;injection a with _ s _;exact absurd s (by decide)
 have D:bm≠p:=by
  intro e;subst e;rw[h]at a;injection a with a;cases a
 refine⟨⟨vl,vb,vn,v',bm,?_,l,H6 m c (H5 m d (by decide)) f (by decide),A,H6 hb c (H5 hb d (by decide)) f (by decide),H6 o c (H5 o d (by decide)) f (by decide),?_,x,?_⟩,?_,?_,?_⟩
 ·exact HS f
 ·have:=JN (j:=4) (u:=v') C f (by decide)
  simpa[HP]using this
 ·rw[HL (by simpa using D),c.block bm (Array.getElem?_eq_some_iff.1 h).1 (Ne.symm (Jb d h))];exact h
 ·unfold nb
  rw[HL (by simpa using E),c.block bx g.lt (Ne.symm (tw d g (by decide)))];exact g
 ·exact II c (fun k z=>(d.lt k z).1) l q
 ·exact IX a c (Je d (by decide))
theorem LC(s:ByteArray)(am:s.size<=65536)(kind line:Int)(a0:kind=8∨kind=9)(a3:Iy s=true)(B p bx:Nat)(st:w3)(X:be)(w:World)
 (ad:nb w bx X) (ab:HQ w B p bx st) (J:B<=bx) (hlen:st.bu.length<=1048576):
 Calls prog 189 #[(p,0),(bx,0),kind,.string s,line] w
  (Ie (.ok ({st with bu:=st.bu++[((st.code.length:Int),line,s)]},X)) B p bx line w):=by
 obtain⟨R,Y,O,P,Q⟩:=info_parts MZ;obtain⟨vl,vb,vn,vw,bm,c,K,M,a4,hb,a5,d,L,a2⟩:=ab;obtain⟨T,U,rfl⟩:=H2 M;have ap:w.cell? (p,0)=some (.slice T st.code.length U):=sb c;have S:w.cell? (p,4)=some vw:=sb c;have I:w.frozen? (p,4)=false:=Jd c;have g:p<w.heap.size:=(Array.getElem?_eq_some_iff.1 c).1;have h:vw.ownBlock≠some p:=tw d c (by decide);have N:s.size<=maxLen:=by unfold maxLen;omega
 rcases a9:Iz s with⟨n,b⟩
 have G:=Z (IC s N n b a9);have C:=Z (IW s N true a3);have F:=Z c;have z:=Z M;have D:=Z a4;have q:=Z hb;have E:=Z a5;have A:=Z a2;have H:=Z ad;have x:=Z Y;rcases a0 with rfl|rfl
 ·go_in
  go_wp2_with (first|(go_at_call 228;refine(G _).mono ?_;rintro e w' ⟨rfl,rfl⟩)|(go_at_call 186;refine(C _).mono ?_;rintro e w' ⟨rfl,rfl⟩))
  go_region_law (first|(refine step_append_lies _ (by rfl) _ _ _ (by rfl) B 300 R _ 3 32 underlying294 x O P Q rfl (by omega) vw st.bu.length (HP st.bu) (by rfl) ((d.alloc _).drew) ⟨w.heap.size,0,none⟩ 1 1 [.int .i64 st.code.length,line,.string s] (by rfl) (by rfl) (World.news_of_block (cs:=#[.int .i64 st.code.length,line,.string s]) (t:=300) (fr:=(0,0)) (heap_alloc_new w _)) (by simp[Value.oneCell']) (by omega) (by unfold maxLen;omega) (by omega) (by simp;omega) (w.heap.size+1) (by simp) ?_;intro V cap w1 k a W a1;have f:w1.cell? (p,4)=some vw:=(a.cell_far ⟨p,4,none⟩ (by simp;omega) (Ne.symm h)).trans (by simp[go_sem,World.cell?_alloc_past,g,S]);have al:w1.frozen? (p,4)=false:=(a.frozen_far ⟨p,4,none⟩ (by simp;omega) (Ne.symm h)).trans (by simp[go_sem,World.frozen?_alloc_past,g,I])))
  all_goals
   go_wp2
   go_ret;obtain⟨l,m,o,f⟩:=Lu (y:=((st.code.length:Int),line,s)) F K z D q E d L A H J (by simpa using k) (HO (HW a));exact⟨rfl,l,m,o,f⟩
 ·go_in
  go_wp2_with (first|(go_at_call 228;refine(G _).mono ?_;rintro e w' ⟨rfl,rfl⟩)|(go_at_call 186;refine(C _).mono ?_;rintro e w' ⟨rfl,rfl⟩))
  go_region_law (first|(refine step_append_lies _ (by rfl) _ _ _ (by rfl) B 300 R _ 3 32 underlying294 x O P Q rfl (by omega) vw st.bu.length (HP st.bu) (by rfl) ((d.alloc _).drew) ⟨w.heap.size,0,none⟩ 1 1 [.int .i64 st.code.length,line,.string s] (by rfl) (by rfl) (World.news_of_block (cs:=#[.int .i64 st.code.length,line,.string s]) (t:=300) (fr:=(0,0)) (heap_alloc_new w _)) (by simp[Value.oneCell']) (by omega) (by unfold maxLen;omega) (by omega) (by simp;omega) (w.heap.size+1) (by simp) ?_;intro V cap w1 k a W a1;have f:w1.cell? (p,4)=some vw:=(a.cell_far ⟨p,4,none⟩ (by simp;omega) (Ne.symm h)).trans (by simp[go_sem,World.cell?_alloc_past,g,S]);have al:w1.frozen? (p,4)=false:=(a.frozen_far ⟨p,4,none⟩ (by simp;omega) (Ne.symm h)).trans (by simp[go_sem,World.frozen?_alloc_past,g,I])))
  all_goals
   go_wp2
   go_ret;obtain⟨l,m,o,f⟩:=Lu (y:=((st.code.length:Int),line,s)) F K z D q E d L A H J (by simpa using k) (HO (HW a));exact⟨rfl,l,m,o,f⟩
theorem LD(s:ByteArray)(t:s.size<=65536)(kind line:Int)(k:kind=8∨kind=9)(l:Iy s=false)(o bx:Nat)(X:be)(w:World)(c:nb w bx X):
 Calls prog 189 #[(o,0),(bx,0),kind,.string s,line] w
  (pk (if kind=8 then .error true else Jh X (vh s)) bx line w):=by
 have p:w.cell? (bx,4)=some (.int .u64 X.v):=c.cell 4;have f4:=c.free 4;have r:=c.lt;have i:=Z c;have a:s.size<=maxLen:=by unfold maxLen;omega
 rcases m:Iz s with⟨n,b⟩
 have g:=Z (IC s a n b m);have d:=Z (IW s a false l);rcases k with rfl|rfl
 ·rw[if_pos rfl]
  go_in
  go_wp2_with (first|(go_at_call 228;refine(g _).mono ?_;rintro e w' ⟨rfl,rfl⟩)|(go_at_call 186;refine(d _).mono ?_;rintro e w' ⟨rfl,rfl⟩)|(go_at_call 142;refine(sz _ _ _ _).mono ?_;rintro e w' ⟨rfl,rfl⟩))
  go_ret;exact pk.text rfl (by simp) (cf w _)
 ·rw[if_neg (by decide)]
  rcases h:vh s with j|v
  ·have f:=Z (Ic s a j h)
   go_in
   go_wp2_with (first|(go_at_call 228;refine(g _).mono ?_;rintro e w' ⟨rfl,rfl⟩)|(go_at_call 186;refine(d _).mono ?_;rintro e w' ⟨rfl,rfl⟩)|(go_at_call 229;refine(f _ _).mono ?_;rintro e w' ⟨rfl,rfl⟩))
   go_ret;exact pk.num rfl (by simp) (by repeat(first|exact cf _ _|refine ec ?_ _ _|refine HT ?_ _))
  ·have f:=Z (Ib s a v h)
   go_in
   go_wp2_with (first|(go_at_call 228;refine(g _).mono ?_;rintro e w' ⟨rfl,rfl⟩)|(go_at_call 186;refine(d _).mono ?_;rintro e w' ⟨rfl,rfl⟩)|(go_at_call 229;refine(f _ _).mono ?_;rintro e w' ⟨rfl,q,u,rfl⟩))
   go_ret;exact pk.vB _ rfl (i.mU v) (ec (cf w _) _ _)
theorem KR(s:ByteArray)(f:s.size<=65536)(kind line:Int)(l:1<=kind)(m:kind<=9)(B p bx:Nat)(st:w3)(X:be)(w:World)
 (a:nb w bx X) (d:HQ w B p bx st) (b:B<=bx) (hlen:st.bu.length<=1048576):
 Calls prog 189 #[(p,0),(bx,0),kind,.string s,line] w
  (Ie (IP st X kind s line) B p bx line w):=by
 by_cases g:8<=kind
 ·have i:kind=8∨kind=9:=by omega
  by_cases c:Iy s=true
  ·have e:IP st X kind s line=.ok ({st with bu:=st.bu++[((st.code.length:Int),line,s)]},X):=by
    unfold IP;rw[if_pos ⟨g,c⟩]
   rw[e];exact LC s f kind line i c B p bx st X w a d b hlen
  ·have j:Iy s=false:=by simpa using c
   refine(LD s f kind line i j p bx X w a).mono fun e w' h=>Ie.of h ?_ d a b
   unfold IP;rw[if_neg (fun h=>c h.2)];by_cases h:kind=8
   ·rw[if_pos h,if_pos h];rfl
   ·rw[if_neg h,if_neg h]
    have e:HN X kind s=Jh X (vh s):=by
     unfold HN;rw[if_neg (by omega),if_neg (by omega),if_neg (by omega),if_neg (by omega),if_neg (by omega)]
    rw[e]
 ·have e:IP st X kind s line=JW st (HN X kind s):=by
   unfold IP;rw[if_neg (fun h=>g h.1),if_neg (by omega)]
  by_cases k:kind<=3
  ·exact(L0 s f kind line (by omega) p bx X w a).mono fun _ w' h=>Ie.of h e d a b
  ·exact(L1 s f kind line (by omega) p bx X w a).mono fun _ w' h=>Ie.of h e d a b
