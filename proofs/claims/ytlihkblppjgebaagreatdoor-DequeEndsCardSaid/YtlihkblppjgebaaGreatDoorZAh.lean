import Derived.Deep.DeepCutAuto
import Derived.Deep.RegionHeld3
import Derived.StillTail
import Derived.Test.YtlihkblppjgebaaGreatDoorZAb
import Derived.Test.YtlihkblppjgebaaGreatDoorZAc
import Derived.Test.YtlihkblppjgebaaGreatDoorZAe
set_option linter.all false
set_option maxRecDepth 100000
set_option maxHeartbeats 8000000
namespace Go.Proofs.YtlihkblppjgebaaGreatDoor
open Go.RowKit Go.Proofs.Tryz
def fi(n:Int)(used less:Bool):Bool:=if used then decide (0<=n/\n<32)||(less&&decide (n=-1))else decide (n=0)
theorem m1(n:Int)(used less:Bool)(w:World):Calls prog 232 #[.int .i64 n,.bool used,.bool less] w (j9 (fi n used less) w):=by
 have e:(0<=n/\n<32)∨(0<=n/\¬n<32)∨(¬0<=n/\n≠-1)∨(¬0<=n/\n=-1):=by omega
 cases used
 ·by_cases d:n=0
  ·subst d
   go_enter func232,ntmps232
   go_wp2
   go_ret;exact j9.mk rfl
  ·have hb:(n==0)=false:=by rw[beq_eq_false_iff_ne];exact d
   have c:Hid (fi n false less=false):=(by show _=_;unfold fi;simp[d]);clear d;go_enter func232,ntmps232
   go_wp2
   go_ret;exact j9.mk c.out
 ·rcases e with⟨a,b⟩|⟨a,b⟩|⟨a,b⟩|⟨a,b⟩
  ·have c:Hid (fi n true less=true):=by show _=_;unfold fi;simp[a,b]
   go_enter func232,ntmps232
   go_wp2
   go_ret;exact j9.mk c.out
  ·have c:Hid (fi n true less=false):=by show _=_;unfold fi;simp[b];omega
   have hb:(n==-1)=false:=(by rw[beq_eq_false_iff_ne];omega);cases less
   all_goals
    go_enter func232,ntmps232
    go_wp2
    go_ret;exact j9.mk c.out
  ·have c:Hid (fi n true less=false):=by show _=_;unfold fi;simp[a,b]
   have hb:(n==-1)=false:=(by rw[beq_eq_false_iff_ne];exact b);clear b;cases less
   all_goals
    go_enter func232,ntmps232
    go_wp2
    go_ret;exact j9.mk c.out
  ·subst b
   cases less
   all_goals
    go_enter func232,ntmps232
    go_wp2
    go_ret;exact j9.mk rfl
def qU(X:aV)(used:Bool)(n:Int):Bool:=
 if X.op=12∨X.op=13∨X.op=14∨X.op=15 then decide (X.v<n)
 else if X.op=22 then decide (X.v<1000)
 else if X.op=3∨X.op=4∨X.op=5∨X.op=6∨X.op=7∨X.op=8∨X.op=9∨X.op=10∨X.op=11 then decide (X.c=-1)||decide (X.v=0)
 else if X.op=43 then decide (X.b=-1)||decide (X.v=0)
 else used||decide (X.v=0)
def dT(b:Bool)(w:World)(e:Ending)(w':World):Prop:=e=.returned (.bool b)/\Below w.heap.size w w'
theorem dT.mk{b c:Bool}{w w':World}(h:b=c)(hb:Below w.heap.size w w'):dT b w (.returned (.bool c)) w':=⟨by rw[h],hb⟩
theorem xR(X:aV)(used:Bool)(n:Nat)(a:n<=1000000)(w:World):Calls prog 233 #[aI X,.bool used,.int .i64 n] w (dT (qU X used n) w):=by
 unfold aI aC;go_enter func233,ntmps233
 go_wp2
 all_goals
  go_ret;refine dT.mk ?_ ((Below.refl _ _).alloc (Nat.le_refl _) _);simp only[beq_iff_eq,beq_eq_false_iff_ne,ne_eq]at*;unfold qU
  repeat first
   |rfl
   |rw[if_pos (by omega)]
   |rw[if_neg (by omega)]
  try first
   |(simp[*];done)
   |(cases used
     ·rfl
     ·simp at*)
def m2(op:Int):Bool:=decide (op=17∨op=18∨op=19∨op=20∨op=21∨op=31∨op=32∨op=43)
def lY(op:Int):Bool:=decide (op=3∨op=4∨op=5∨op=6∨op=7∨op=8∨op=9∨op=10∨op=11)
def lZ(X:aV)(a:Bool):Bool:=decide (1<=X.op/\X.op<=58)&&(if a then decide (X.op≠22)else decide (X.op<=22/\X.m=0))
def jN(X:aV)(n:Int):Bool:=fi X.a (eV X.op).1 false&&fi X.b (eV X.op).2.1 (m2 X.op)&&fi X.c (eV X.op).2.2.1 (lY X.op)&&qU X (eV X.op).2.2.2 n
def gu(X:aV):Bool:=decide (0<=X.m/\X.m<=99/\0<=X.wh/\X.wh<=2)&&(decide (X.wh=0)||(decide (0<X.m)&&(eV X.op).1))
def ep(X:aV)(n:Int)(a:Bool):Bool:=lZ X a&&jN X n&&gu X
theorem Ap(X:aV)(n:Nat)(f:Bool)(w:World)(h:lZ X f=false):Calls prog 191 #[aI X,.int .i64 n,.bool f] w (dT (ep X n f) w):=by
 have g:Hid (ep X n f=false):=by show _=_;unfold ep;rw[h];rfl
 unfold aI aC;unfold lZ at h;have l:X.op<1∨(¬X.op<1/\58<X.op)∨(¬X.op<1/\¬58<X.op/\f=true/\X.op=22)∨(¬X.op<1/\¬58<X.op/\f=false/\22<X.op)∨(¬X.op<1/\¬58<X.op/\f=false/\¬22<X.op/\X.m≠0):=by
  by_cases k1:X.op<1
  ·exact Or.inl k1
  by_cases k2:58<X.op
  ·exact Or.inr (Or.inl ⟨k1,k2⟩)
  have k3:decide (1<=X.op/\X.op<=58)=true:=decide_eq_true (by omega);rw[k3,Bool.true_and]at h;cases f
  ·have i:=of_decide_eq_false (show decide (X.op<=22/\X.m=0)=false from h)
   by_cases j:22<X.op
   ·exact Or.inr (Or.inr (Or.inr (Or.inl ⟨k1,k2,rfl,j⟩)))
   ·exact Or.inr (Or.inr (Or.inr (Or.inr ⟨k1,k2,rfl,j,fun e=>i ⟨by omega,e⟩⟩)))
  ·have i:=of_decide_eq_false (show decide (X.op≠22)=false from h)
   exact Or.inr (Or.inr (Or.inl ⟨k1,k2,rfl,by omega⟩))
 clear h;rcases l with a|⟨a,b⟩|⟨a,b,rfl,c⟩|⟨a,b,rfl,c⟩|⟨a,b,rfl,c,d⟩
 ·go_enter func191,ntmps191
  go_wp2
  go_ret;exact dT.mk g.out ((Below.refl _ _).alloc (Nat.le_refl _) _)
 ·go_enter func191,ntmps191
  go_wp2
  go_ret;exact dT.mk g.out ((Below.refl _ _).alloc (Nat.le_refl _) _)
 ·have k:(X.op==22)=true:=by rw[beq_iff_eq];exact c
  clear c;go_enter func191,ntmps191
  go_wp2
  go_ret;exact dT.mk g.out ((Below.refl _ _).alloc (Nat.le_refl _) _)
 ·go_enter func191,ntmps191
  go_wp2
  go_ret;exact dT.mk g.out ((Below.refl _ _).alloc (Nat.le_refl _) _)
 ·have k:(X.m !=0)=true:=by rw[bne_iff_ne];exact d
  clear d;go_enter func191,ntmps191
  go_wp2
  go_ret;exact dT.mk g.out ((Below.refl _ _).alloc (Nat.le_refl _) _)
def Cj(X:aV)(b c:Value):Prop:=b=.bool (m2 X.op)/\c=.bool (lY X.op)
theorem xS(X:aV)(n:Nat)(N:n<=1000000)(l:Bool)(w:World)(h:lZ X l=true):Calls prog 191 #[aI X,.int .i64 n,.bool l] w (dT (ep X n l) w):=by
 have F:Hid (ep X n l=(jN X n&&gu X)):=by show _=_;unfold ep;rw[h];rfl
 have HA:Hid (aI X=.agg (aC X)):=rfl;unfold aI aC;unfold lZ at h;rw[Bool.and_eq_true,decide_eq_true_eq]at h;obtain⟨⟨a,b⟩,c⟩:=h;have a':¬X.op<1:=by omega
 have P:¬58<X.op:=by omega
 have M:(l=true/\(X.op==22)=false)∨(l=false/\¬22<X.op/\(X.m !=0)=false):=by
  cases l
  ·right
   have v:=of_decide_eq_true (show decide (X.op<=22/\X.m=0)=true from c);exact⟨rfl,by omega,by rw[bne_eq_false_iff_eq];exact v.2⟩
  ·left
   have v:=of_decide_eq_true (show decide (X.op≠22)=true from c);exact⟨rfl,by rw[beq_eq_false_iff_ne];exact v⟩
 clear c;obtain⟨o,fb,r,s,hF⟩:∃o fb r s,eV X.op=(o,fb,r,s):=⟨_,_,_,_,rfl⟩;have u:=Z hF;clear hF;obtain⟨B,x⟩:=nm (fi X.a o false);obtain⟨C,y⟩:=nm (fi X.b fb (m2 X.op));obtain⟨D,z⟩:=nm (fi X.c r (lY X.op));obtain⟨E,A⟩:=nm (qU X s n);have I:Hid (∀w,Calls prog 232 #[.int .i64 X.a,.bool o,.bool false] w (j9 B w)):=fun w=>x▸m1 X.a o false w
 have J:Hid (∀w,Calls prog 232 #[.int .i64 X.b,.bool fb,.bool (m2 X.op)] w (j9 C w)):=fun w=>y▸m1 X.b fb _ w
 have K:Hid (∀w,Calls prog 232 #[.int .i64 X.c,.bool r,.bool (lY X.op)] w (j9 D w)):=fun w=>z▸m1 X.c r _ w
 have L:Hid (∀w,Calls prog 233 #[.agg (aC X),.bool s,.int .i64 n] w (dT E w)):=fun w=>A▸xR X s n N w
 have f:Hid (ep X n l=(B&&C&&D&&E&&gu X)):=by
  show _=_;rw[F.out];unfold jN;rw[u.out];dsimp only;rw[x,y,z,A]
 clear x y z A F;have G:(¬0<=X.m/\gu X=false)∨(0<=X.m/\¬X.m<=99/\gu X=false)∨(0<=X.m/\X.m<=99/\¬0<=X.wh/\gu X=false)∨(0<=X.m/\X.m<=99/\0<=X.wh/\¬X.wh<=2/\gu X=false)∨
  (0<=X.m/\X.m<=99/\0<=X.wh/\X.wh<=2/\(X.wh==0)=true/\gu X=true)∨(0<=X.m/\X.m<=99/\0<=X.wh/\X.wh<=2/\(X.wh==0)=false/\¬0<X.m/\gu X=false)∨(0<=X.m/\X.m<=99/\0<=X.wh/\X.wh<=2/\(X.wh==0)=false/\0<X.m/\gu X=o):=by
  have e:gu X=(decide (0<=X.m/\X.m<=99/\0<=X.wh/\X.wh<=2)&&(decide (X.wh=0)||(decide (0<X.m)&&o))):=by unfold gu;rw[u.out]
  rw[e];by_cases k1:0<=X.m
  ·by_cases k2:X.m<=99
   ·by_cases k3:0<=X.wh
    ·by_cases g:X.wh<=2
     ·by_cases i:X.wh=0
      ·right;right;right;right;left;exact⟨k1,k2,k3,g,by rw[beq_iff_eq];exact i,by simp[k1,k2,i]⟩
      ·by_cases p:0<X.m
       ·right;right;right;right;right;right;exact⟨k1,k2,k3,g,by rw[beq_eq_false_iff_ne];exact i,p,by simp[k1,k2,k3,g,i,p]⟩
       ·right;right;right;right;right;left;exact⟨k1,k2,k3,g,by rw[beq_eq_false_iff_ne];exact i,p,by simp[i,p]⟩
     ·right;right;right;left;exact⟨k1,k2,k3,g,by simp[g]⟩
    ·right;right;left;exact⟨k1,k2,k3,by simp[k3]⟩
   ·right;left;exact⟨k1,k2,by simp[k2]⟩
  ·left;exact⟨k1,by simp[k1]⟩
 have H:=Z G;clear G;rcases M with⟨rfl,c⟩|⟨rfl,c,d⟩
 all_goals
  go_enter func191,ntmps191
  go_upto_block 0 with(go_at_call 218;refine(m0 _ _).mono ?_;rintro e w' ⟨rfl,rfl⟩;rw[u.out])
  go_cut [11,12] (fun b c O=>Cj X b c/\O=w.alloc (.cells #[.int .i64 X.op,.int .i64 X.a,.int .i64 X.b,.int .i64 X.c,.int .u64 X.v,.int .i64 X.m,.int .i64 X.wh] 184))
  case first=>
   go_wp2
   all_goals
    go_meet
    refine⟨⟨?_,?_⟩,rfl⟩
    ·simp only[beq_iff_eq,beq_eq_false_iff_ne,ne_eq]at*
     unfold m2
     first|rw[decide_eq_true (by omega)]|rw[decide_eq_false (by omega)]
    ·simp only[beq_iff_eq,beq_eq_false_iff_ne,ne_eq]at*
     unfold lY
     first|rw[decide_eq_true (by omega)]|rw[decide_eq_false (by omega)]
  case rest=>
   obtain⟨⟨rfl,rfl⟩,rfl⟩:=hcut;have q:Hid (Below w.heap.size w (w.alloc (.cells #[.int .i64 X.op,.int .i64 X.a,.int .i64 X.b,.int .i64 X.c,.int .u64 X.v,.int .i64 X.m,.int .i64 X.wh] 184))):=(Below.refl _ _).alloc (Nat.le_refl _) _;go_wp2_with fail
   refine(I.out _).mono ?_;rintro e w' ⟨rfl,rfl⟩;cases B
   ·go_wp2
    go_ret;exact dT.mk (by rw[f.out];rfl) q.out
   go_wp2_with fail
   refine(J.out _).mono ?_;rintro e w' ⟨rfl,rfl⟩;cases C
   ·go_wp2
    go_ret;exact dT.mk (by rw[f.out];rfl) q.out
   go_wp2_with fail
   refine(K.out _).mono ?_;rintro e w' ⟨rfl,rfl⟩;cases D
   ·go_wp2
    go_ret;exact dT.mk (by rw[f.out];rfl) q.out
   go_wp2_with fail
   refine(L.out _).mono ?_;rintro e w2 ⟨rfl,t⟩;have j:Hid (Below w.heap.size w w2):=q.out.trans (t.mono q.out.size);have Q:w2.cell? ⟨w.heap.size,5,none⟩=some (.int .i64 X.m):=(e4 t (by simp)).trans (by simp);have R:w2.cell? ⟨w.heap.size,6,none⟩=some (.int .i64 X.wh):=(e4 t (by simp)).trans (by simp);have S:w.heap.size<w2.heap.size:=(by have:=t.size;simp at this;omega);clear t;cases E
   ·go_wp2
    go_ret;exact dT.mk (by rw[f.out];rfl) j.out
   rcases H.out with⟨k1,k⟩|⟨k1,k2,k⟩|⟨k1,k2,k3,k⟩|⟨k1,k2,k3,g,k⟩|⟨k1,k2,k3,g,i,k⟩|⟨k1,k2,k3,g,i,p,k⟩|⟨k1,k2,k3,g,i,p,k⟩
   all_goals
    have m:=Z k;clear k
   ·go_wp2
    go_ret;exact dT.mk (by rw[f.out,m.out];rfl) j.out
   ·go_wp2
    go_ret;exact dT.mk (by rw[f.out,m.out];rfl) j.out
   ·go_wp2
    go_ret;exact dT.mk (by rw[f.out,m.out];rfl) j.out
   ·go_wp2
    go_ret;exact dT.mk (by rw[f.out,m.out];rfl) j.out
   ·go_wp2
    go_ret;exact dT.mk (by rw[f.out,m.out];rfl) j.out
   ·go_wp2
    go_ret;exact dT.mk (by rw[f.out,m.out];rfl) j.out
   ·go_wp2
    go_ret;exact dT.mk (by rw[f.out,m.out];rfl) j.out
theorem Aq(X:aV)(n:Nat)(b:n<=1000000)(a:Bool)(w:World):Calls prog 191 #[aI X,.int .i64 n,.bool a] w (dT (ep X n a) w):=by
 cases h:lZ X a
 ·exact Ap X n a w h
 ·exact xS X n b a w h
theorem bk(n:Int)(t:TypeId)(x:Value)(w:World):
 Calls prog 101 #[.int .i64 n,.iface t x] w fun e w'=>
  e=.returned (.iface 247 (.pointer (some ⟨w.heap.size,0,none⟩)))/\w.alloc (.cells #[.string ⟨#[99,111,100,101]⟩,.int .i64 n,.iface t x] 249)=w':=by
 go_enter func101,ntmps101
 go_wp2
 go_ret;exact⟨rfl,rfl⟩
def gE(n:Int)(a:Bool):List aV->Nat->Option Nat
 |[],_=>none
 |X::l,i=>if ep X n a then gE n a l (i+1)else some i
def xX(r:Option Nat)(w:World)(e:Ending)(w':World):Prop:=
 match r with
 |none=>e=.returned .nilIface/\Below w.heap.size w w'
 |some i=>∃b,e=.returned (.iface 247 (.pointer (some ⟨b,0,none⟩)))/\w.heap.size<=b/\w'.heap[b]?=some (.cells #[.string ⟨#[99,111,100,101]⟩,.int .i64 i,.iface 152 (.int .i64 5)] 249 (0,0))/\Below w.heap.size w w'
theorem oR(l:List aV)(a:Option Addr)(c:Nat)(b:Bool)(E:l.length<=2048)(B:l.length<=c)(w:World)(v:l≠[]->∃g,a=some ⟨g,0,none⟩/\eE w g l):
 Calls prog 145 #[.slice a l.length c,.bool b] w (xX (gE l.length b l 0) w):=by
 have z:=Z v;clear v;obtain⟨N,i⟩:=mn l.length;rw[<-i];have t:=Z i;rw[<-i]at E B;have y:=Z (fun X w=>Aq X N (by omega) b w);clear i;go_enter func145,ntmps145
 go_wp2
 go_loopw [14] (fun s G=>∃k:Nat,s=.int .i64 k/\k<=N/\Below w.heap.size w G/\Hid (gE N b (l.drop k) k=gE N b l 0)) (fun s _=>N-(intOf s).toNat)
 case atStart=>exact⟨0,rfl,Nat.zero_le _,Below.refl _ _,rfl⟩
 case round=>
  obtain⟨k,rfl,K,hb,n⟩:=hrel;have r:=Z hb;have A:=hb.size;by_cases D:k<N
  ·have q:k<l.length:=by rw[<-t.out];exact D
   obtain⟨g,rfl,x⟩:=z.out (by intro e;subst e;simp at q);have o:l[k]?=some l[k]:=List.getElem?_eq_getElem q;have m:Hid (l.drop k=l[k]::l.drop (k+1)):=List.drop_eq_getElem_cons q;obtain⟨X,u⟩:=mn (l[k]);rw[<-u]at o m;obtain⟨f0,f1,f2,f3,f4,f5,f6⟩:=eJ l k X o;have d:=x.below hb;have a0:=d.cell _ _ f0;have a1:=d.cell _ _ f1;have a2:=d.cell _ _ f2;have a3:=d.cell _ _ f3;have a4:=d.cell _ _ f4;have H:=d.cell _ _ f5;have I:=d.cell _ _ f6;have C:(k:Int)<(N:Int):=(by omega);have J:=d.lt;clear u o f0 f1 f2 f3 f4 f5 f6 hb d x;go_wp2_with fail
   refine(y.out X _).mono ?_;rintro e w2 ⟨rfl,p⟩;have F:=p.size;have h:Hid (Below w.heap.size w w2):=(r.out.alloc A _).trans (p.mono (by simp;omega));clear p;cases j:ep X N b
   ·have f:Hid (gE N b l 0=some k):=by
     show _=_;rw[<-n.out,m.out,gE,j];rfl
    clear j;simp at F;go_wp2_with (go_at_call 101;refine(bk _ _ _ _).mono ?_;rintro e w' ⟨rfl,rfl⟩)
    go_ret;rw[f.out];exact⟨_,rfl,h.out.size,hs,h.out.alloc h.out.size _⟩
   ·have f:Hid (gE N b (l.drop (k+1)) (k+1)=gE N b l 0):=by
     show _=_;rw[<-n.out,m.out,gE,j];rfl
    clear j;go_wp2
    go_roundw
    case rel=>exact⟨k+1,by go_num,by omega,h.out,f.out⟩
    case measure=>simp[intOf];omega
  ·have C:¬(k:Int)<(N:Int):=by omega
   have f:Hid (gE N b l 0=none):=by
    show _=_;rw[<-n.out,List.drop_eq_nil_of_le (by rw[<-t.out];omega)];rfl
   clear hb;go_wp2
   go_ret;rw[f.out];exact⟨rfl,r.out⟩
def qz(ok:Bool)(w:World)(e:Ending)(w':World):Prop:=(∃u,e=.returned u/\(if ok then u=.nilIface else aq u))/\Ch ag w w'
theorem lF(p n:Int)(w:World):Calls prog 103 #[.int .i64 p,.int .i64 n] w (qz (decide (0<=p/\p<n)) w):=by
 have c:p<0∨(¬p<0/\n<=p)∨(¬p<0/\¬n<=p):=by omega
 rcases c with a|⟨a,b⟩|⟨a,b⟩
 ·have E:Hid (decide (0<=p/\p<n)=false):=Z (by rw[decide_eq_false_iff_not];omega)
  go_enter func103,ntmps103
  go_wp2_with (go_at_call 101;refine(bk _ _ _ _).mono ?_;rintro e w' ⟨rfl,rfl⟩)
  go_ret;rw[E.out];exact⟨⟨_,rfl,aq.mk _ _⟩,(Ch.refl _ _).alloc _⟩
 ·have E:Hid (decide (0<=p/\p<n)=false):=Z (by rw[decide_eq_false_iff_not];omega)
  have d:0<=p:=by omega
  go_enter func103,ntmps103
  go_wp2_with (go_at_call 101;refine(bk _ _ _ _).mono ?_;rintro e w' ⟨rfl,rfl⟩)
  go_ret;rw[E.out];exact⟨⟨_,rfl,aq.mk _ _⟩,(Ch.refl _ _).alloc _⟩
 ·have E:Hid (decide (0<=p/\p<n)=true):=Z (by rw[decide_eq_true_iff];omega)
  go_enter func103,ntmps103
  go_wp2_with fail
  go_ret;exact⟨⟨_,rfl,rfl⟩,Ch.refl _ _⟩
theorem vb(e:Addr)(tb:Nat)(c:Value)(w:World)(g:w.cell? ⟨0,0,none⟩=some (.iface 390 (.agg #[.pointer (some ⟨4,85,none⟩)])))(b:w.cell? ⟨tb,0,none⟩=some c)(f:w.frozen? ⟨tb,0,none⟩=false):
 Calls prog 146 #[.iface 247 (.pointer (some e)),.iface 303 (.pointer (some ⟨tb,0,none⟩))] w fun d w'=>d=.returned (.bool true)/\w'.cell? ⟨tb,0,none⟩=some (.pointer (some e))/\Ch (aK tb) w w':=by
 have a:=World.block_lt_of_cell? w _ b;refine(Co e ⟨tb,0,none⟩ c w g b f).mono ?_;rintro d w' ⟨rfl,rfl⟩;refine⟨rfl,?_,(((((Ch.refl _ _).alloc _).alloc _).alloc _).alloc _).only _ _⟩;refine World.cell?_setCell_same _ _ _ (?_:World.cell? _ _=some c);rw[World.cell?_alloc_past _ _ _ (by simp at a⊢;omega),World.cell?_alloc_past _ _ _ (by simp at a⊢;omega),World.cell?_alloc_past _ _ _ (by simp at a⊢;omega),World.cell?_alloc_past _ _ _ (by simpa using a)];exact b
theorem sh(l:List aV)(a:Option Addr)(c:Nat)(r:Bool)(A:l.length<=2048)(y:l.length<=c)(w:World)(B:l≠[]->∃g,a=some ⟨g,0,none⟩/\eE w g l)
 (q:w.cell? ⟨0,0,none⟩=some (.iface 390 (.agg #[.pointer (some ⟨4,85,none⟩)]))):
 Calls prog 102 #[.slice a l.length c,.bool r] w (qz (gE l.length r l 0).isNone w):=by
 obtain⟨w1,C⟩:=nm (w.alloc (.cells #[.pointer none] 247));have f:=Z (Ch.al (D:=ag) C);have E:Hid (l≠[]->∃g,a=some ⟨g,0,none⟩/\eE w1 g l):=Z (fun h=>by obtain⟨g,e,q⟩:=B h;exact⟨g,e,q.ch f.out (fun h=>h)⟩);have s:=Z (Row.al C);have v:Hid (w1.cell? ⟨0,0,none⟩=some (.iface 390 (.agg #[.pointer (some ⟨4,85,none⟩)]))):=Z (f.out.k q);have o:=Z (oR l a c r A y w1 E.out);obtain⟨N,x⟩:=mn l.length;rw[<-x]at o⊢;obtain⟨k,z⟩:=nm (gE N r l 0);rw[z]at o⊢;clear B q A y x z;cases k with
 |none=>
  go_enter func102,ntmps102
  go_wp2_with (first|(go_at_call 145;refine o.out.mono ?_;rintro e w2 ⟨rfl,n⟩;have d:=Z (Ch.bY n);clear n)|(go_at_call 146;refine(Ck _ _).mono ?_;rintro e w' ⟨rfl,rfl⟩))
  go_ret;exact⟨⟨_,rfl,rfl⟩,f.out.trans d.out⟩
 |some i=>
  go_enter func102,ntmps102
  go_wp2_with (first|(go_at_call 145;refine o.out.mono ?_;rintro e w2 ⟨b,rfl,F,hb,n⟩;have d:=Z (Ch.bY n);have u:=Z hb;clear n hb))
  refine(vb ⟨b,0,none⟩ w.heap.size (.pointer none) w2 ((d.out.cell (aE v.out) (fun h=>h)).trans v.out) ((s.out.ch d.out (fun h=>h)).cell (i:=0) rfl) ((s.out.ch d.out (fun h=>h)).free 0)).mono ?_;rintro e H ⟨rfl,J,t⟩;have m:=Z t;have K:w.heap.size<w1.heap.size:=s.out.lt;have I:H.cell? ⟨b,1,none⟩=some (.int .i64 i):=(t.cell (p:=⟨b,1,none⟩) (Array.getElem?_eq_some_iff.1 u.out).1 (fun e=>by have:b=w.heap.size:=e;omega)).trans ((show Row w2 b 249 _ from u.out).cell (i:=1) rfl);clear t F;go_wp2_with (go_at_call 101;refine(bk _ _ _ _).mono ?_;rintro e w' ⟨rfl,rfl⟩)
  go_ret;refine⟨⟨_,rfl,aq.mk _ _⟩,Ch.alloc ?_ _⟩;exact⟨m.out.os.trans (f.out.trans d.out).os,m.out.tape.trans (f.out.trans d.out).tape,m.out.output.trans (f.out.trans d.out).output,Nat.le_trans (f.out.trans d.out).size m.out.size,fun j hj G=>(m.out.same j (Nat.lt_of_lt_of_le hj (f.out.trans d.out).size) (fun e=>by have:j=w.heap.size:=e;omega)).trans ((f.out.trans d.out).same j hj G)⟩
section
class PK(a b:World):Prop where
 zh:Ch ag a b
instance(a:World):PK a a:=⟨Ch.refl _ _⟩
instance(a b:World) [c:PK a b]:PK a b.drew:=⟨c.zh.drew⟩
instance(a b:World)(o:Obj) [c:PK a b]:PK a (b.alloc o):=⟨c.zh.alloc o⟩
theorem PL{a b:World} [c:PK a b]:Ch ag a b:=c.zh
section
variable{P:Program}{Ri:Region.Mode}{ops:Array Oper}{Q:Exit->Act->World->Prop}{S:World->Prop}{h:Nat->Bool}
def aaE(Ri:Region.Mode)(ops:Array Oper)(h:Nat->Bool)(listed:Array Bool)(i:Nat):Prop:=
 ∀j a,ops[j]?=some a->listed.getD j true=false->h j=true∨∃e∈a.after,Region.binds Ri e=true/\e.on=i
theorem aaE.set{i j:Nat}{listed:Array Bool}(d:aaE Ri ops h listed i):aaE Ri ops h (listed.setIfInBounds j true) i:=fun k ok c a=>by
 by_cases e:j=k
 ·subst e
  rcases Nat.lt_or_ge j listed.size with b|b
  ·simp[b]at a
  ·simp[Array.getElem?_eq_none,b]at a
 ·rw[getD_set_ne true e]at a
  exact d k ok c a
end
end
end Go.Proofs.YtlihkblppjgebaaGreatDoor
