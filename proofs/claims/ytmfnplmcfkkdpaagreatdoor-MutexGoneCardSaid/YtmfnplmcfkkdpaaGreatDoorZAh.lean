import Derived.Deep.DeepCutAuto
import Derived.Test.YtmfnplmcfkkdpaaGreatDoorZAb
import Derived.Test.YtmfnplmcfkkdpaaGreatDoorZAc
import Derived.Test.YtmfnplmcfkkdpaaGreatDoorZAe
set_option linter.all false
set_option maxRecDepth 100000
set_option maxHeartbeats 0
namespace Go.Proofs.YtmfnplmcfkkdpaaGreatDoor
open Go.RowKit Go.Proofs.Tryz
def fp(n:Int)(used less:Bool):Bool:=if used then decide (0<=n/\n<32)||(less&&decide (n=-1))else decide (n=0)
theorem nD(n:Int)(used less:Bool)(w:World):Calls prog 206 #[n,.bool used,.bool less] w (kz (fp n used less) w):=by
 have e:(0<=n/\n<32)∨(0<=n/\¬n<32)∨(¬0<=n/\n≠-1)∨(¬0<=n/\n=-1):=by omega
 cases used
 ·by_cases d:n=0
  ·subst d
   go_wp2
   go_ret;exact kz.mk rfl
  ·have hb:(n==0)=false:=by rw[beq_eq_false_iff_ne];exact d
   have c:Hid (fp n false less=false):=(by show _=_;unfold fp;simp[d]);go_wp2
   go_ret;exact kz.mk c
 ·rcases e with⟨a,b⟩|⟨a,b⟩|⟨a,b⟩|⟨a,b⟩
  ·have c:Hid (fp n true less=true):=by show _=_;unfold fp;simp[a,b]
   go_wp2
   go_ret;exact kz.mk c
  ·have c:Hid (fp n true less=false):=by show _=_;unfold fp;simp[b];omega
   have hb:(n==-1)=false:=(by rw[beq_eq_false_iff_ne];omega);cases less
   all_goals
    go_wp2
    go_ret;exact kz.mk c
  ·have c:Hid (fp n true less=false):=by show _=_;unfold fp;simp[a,b]
   have hb:(n==-1)=false:=(by rw[beq_eq_false_iff_ne];exact b);cases less
   all_goals
    go_wp2
    go_ret;exact kz.mk c
  ·subst b
   cases less
   all_goals
    go_wp2
    go_ret;exact kz.mk rfl
def rH(X:be)(used:Bool)(n:Int):Bool:=
 if X.op=12∨X.op=13∨X.op=14∨X.op=15 then decide (X.v<n)
 else if X.op=22 then decide (X.v<1000)
 else if X.op=3∨X.op=4∨X.op=5∨X.op=6∨X.op=7∨X.op=8∨X.op=9∨X.op=10∨X.op=11 then decide (X.c=-1)||decide (X.v=0)
 else if X.op=43 then decide (X.b=-1)||decide (X.v=0)
 else used||decide (X.v=0)
def ea(b:Bool)(w:World)(e:Ending)(w':World):Prop:=e=.returned (.bool b)/\Below w.heap.size w w'
theorem ea.mk{b c:Bool}{w w':World}(h:b=c)(hb:Below w.heap.size w w'):ea b w (.returned (.bool c)) w':=⟨by rw[h],hb⟩
theorem zf(X:be)(used:Bool)(n:Nat)(a:n<=1000000)(w:World):Calls prog 207 #[aL X,.bool used,.int .i64 n] w (ea (rH X used n) w):=by
 unfold aL aD;go_wp2
 all_goals
  go_ret;refine ea.mk ?_ ((Below.refl _ _).alloc (Nat.le_refl _) _);simp only[beq_iff_eq,beq_eq_false_iff_ne,ne_eq]at*;unfold rH
  repeat first
   |rfl
   |rw[if_pos (by omega)]
   |rw[if_neg (by omega)]
  try first
   |(simp[*];done)
   |(cases used
     ·rfl
     ·simp at*)
def nE(op:Int):Bool:=decide (op=17∨op=18∨op=19∨op=20∨op=21∨op=31∨op=32∨op=43)
def mx(op:Int):Bool:=decide (op=3∨op=4∨op=5∨op=6∨op=7∨op=8∨op=9∨op=10∨op=11)
def my(X:be)(cg:Bool):Bool:=decide (1<=X.op/\X.op<=58)&&(if cg then decide (X.op≠22)else decide (X.op<=22/\X.m=0))
def j8(X:be)(n:Int):Bool:=fp X.a (e5 X.op).1 false&&fp X.b (e5 X.op).2.1 (nE X.op)&&fp X.c (e5 X.op).2.2.1 (mx X.op)&&rH X (e5 X.op).2.2.2 n
def gI(X:be):Bool:=decide (0<=X.m/\X.m<=99/\0<=X.wh/\X.wh<=2)&&(decide (X.wh=0)||(decide (0<X.m)&&(e5 X.op).1))
def eD(X:be)(n:Int)(cg:Bool):Bool:=my X cg&&j8 X n&&gI X
theorem BM(X:be)(n:Nat)(cg:Bool)(w:World)(h:my X cg=false):Calls prog 167 #[aL X,.int .i64 n,.bool cg] w (ea (eD X n cg) w):=by
 have f:Hid (eD X n cg=false):=by show _=_;unfold eD;rw[h];rfl
 unfold aL aD;unfold my at h;have k:X.op<1∨(¬X.op<1/\58<X.op)∨(¬X.op<1/\¬58<X.op/\cg=true/\X.op=22)∨(¬X.op<1/\¬58<X.op/\cg=false/\22<X.op)∨(¬X.op<1/\¬58<X.op/\cg=false/\¬22<X.op/\X.m≠0):=by
  by_cases k1:X.op<1
  ·exact Or.inl k1
  by_cases k2:58<X.op
  ·exact Or.inr (Or.inl ⟨k1,k2⟩)
  have k3:decide (1<=X.op/\X.op<=58)=true:=decide_eq_true (by omega);rw[k3,Bool.true_and]at h;cases cg
  ·have g:=of_decide_eq_false (show decide (X.op<=22/\X.m=0)=false from h)
   by_cases i:22<X.op
   ·exact Or.inr (Or.inr (Or.inr (Or.inl ⟨k1,k2,rfl,i⟩)))
   ·exact Or.inr (Or.inr (Or.inr (Or.inr ⟨k1,k2,rfl,i,fun e=>g ⟨by omega,e⟩⟩)))
  ·have g:=of_decide_eq_false (show decide (X.op≠22)=false from h)
   exact Or.inr (Or.inr (Or.inl ⟨k1,k2,rfl,by omega⟩))
 rcases k with a|⟨a,b⟩|⟨a,b,rfl,c⟩|⟨a,b,rfl,c⟩|⟨a,b,rfl,c,d⟩
 ·go_in
  go_wp2
  go_ret;exact ea.mk f ((Below.refl _ _).alloc (Nat.le_refl _) _)
 ·go_in
  go_wp2
  go_ret;exact ea.mk f ((Below.refl _ _).alloc (Nat.le_refl _) _)
 ·have j:(X.op==22)=true:=by rw[beq_iff_eq];exact c
  go_wp2
  go_ret;exact ea.mk f ((Below.refl _ _).alloc (Nat.le_refl _) _)
 ·go_in
  go_wp2
  go_ret;exact ea.mk f ((Below.refl _ _).alloc (Nat.le_refl _) _)
 ·have j:(X.m !=0)=true:=by rw[bne_iff_ne];exact d
  go_wp2
  go_ret;exact ea.mk f ((Below.refl _ _).alloc (Nat.le_refl _) _)
def DV(X:be)(b c:Value):Prop:=b=.bool (nE X.op)/\c=.bool (mx X.op)
theorem zg(X:be)(n:Nat)(M:n<=1000000)(cg:Bool)(w:World)(h:my X cg=true):Calls prog 167 #[aL X,.int .i64 n,.bool cg] w (ea (eD X n cg) w):=by
 have J:Hid (eD X n cg=(j8 X n&&gI X)):=by show _=_;unfold eD;rw[h];rfl
 have O:Hid (aL X=.agg (aD X)):=rfl;unfold aL aD;unfold my at h;rw[Bool.and_eq_true,decide_eq_true_eq]at h;obtain⟨⟨a,b⟩,c⟩:=h;have a':¬X.op<1:=by omega
 have P:¬58<X.op:=by omega
 have K:(cg=true/\(X.op==22)=false)∨(cg=false/\¬22<X.op/\(X.m !=0)=false):=by
  cases cg
  ·right
   have u:=of_decide_eq_true (show decide (X.op<=22/\X.m=0)=true from c);exact⟨rfl,by omega,by rw[bne_eq_false_iff_eq];exact u.2⟩
  ·left
   have u:=of_decide_eq_true (show decide (X.op≠22)=true from c);exact⟨rfl,by rw[beq_eq_false_iff_ne];exact u⟩
 obtain⟨m,fb,q,r,hF⟩:∃m fb q r,e5 X.op=(m,fb,q,r):=⟨_,_,_,_,rfl⟩;have t:=Z hF;obtain⟨v,A⟩:=nm (fp X.a m false);obtain⟨x,B⟩:=nm (fp X.b fb (nE X.op));obtain⟨y,C⟩:=nm (fp X.c q (mx X.op));obtain⟨z,D⟩:=nm (rH X r n);have F:Hid (∀w,Calls prog 206 #[X.a,.bool m,.bool false] w (kz v w)):=fun w=>A▸nD X.a m false w
 have G:Hid (∀w,Calls prog 206 #[X.b,.bool fb,.bool (nE X.op)] w (kz x w)):=fun w=>B▸nD X.b fb _ w
 have H:Hid (∀w,Calls prog 206 #[X.c,.bool q,.bool (mx X.op)] w (kz y w)):=fun w=>C▸nD X.c q _ w
 have I:Hid (∀w,Calls prog 207 #[.agg (aD X),.bool r,.int .i64 n] w (ea z w)):=fun w=>D▸zf X r n M w
 have f:Hid (eD X n cg=(v&&x&&y&&z&&gI X)):=by
  show _=_;rw[J];unfold j8;rw[t];dsimp only;rw[A,B,C,D]
 have L:(¬0<=X.m/\gI X=false)∨(0<=X.m/\¬X.m<=99/\gI X=false)∨(0<=X.m/\X.m<=99/\¬0<=X.wh/\gI X=false)∨(0<=X.m/\X.m<=99/\0<=X.wh/\¬X.wh<=2/\gI X=false)∨
  (0<=X.m/\X.m<=99/\0<=X.wh/\X.wh<=2/\(X.wh==0)=true/\gI X=true)∨(0<=X.m/\X.m<=99/\0<=X.wh/\X.wh<=2/\(X.wh==0)=false/\¬0<X.m/\gI X=false)∨(0<=X.m/\X.m<=99/\0<=X.wh/\X.wh<=2/\(X.wh==0)=false/\0<X.m/\gI X=m):=by
  have e:gI X=(decide (0<=X.m/\X.m<=99/\0<=X.wh/\X.wh<=2)&&(decide (X.wh=0)||(decide (0<X.m)&&m))):=by unfold gI;rw[t]
  rw[e];by_cases k1:0<=X.m
  ·by_cases k2:X.m<=99
   ·by_cases k3:0<=X.wh
    ·by_cases g:X.wh<=2
     ·by_cases i:X.wh=0
      ·right;right;right;right;left;exact⟨k1,k2,k3,g,by rw[beq_iff_eq];exact i,by simp[k1,k2,i]⟩
      ·by_cases o:0<X.m
       ·right;right;right;right;right;right;exact⟨k1,k2,k3,g,by rw[beq_eq_false_iff_ne];exact i,o,by simp[k1,k2,k3,g,i,o]⟩
       ·right;right;right;right;right;left;exact⟨k1,k2,k3,g,by rw[beq_eq_false_iff_ne];exact i,o,by simp[i,o]⟩
     ·right;right;right;left;exact⟨k1,k2,k3,g,by simp[g]⟩
    ·right;right;left;exact⟨k1,k2,k3,by simp[k3]⟩
   ·right;left;exact⟨k1,k2,by simp[k2]⟩
  ·left;exact⟨k1,by simp[k1]⟩
 have E:=Z L;rcases K with⟨rfl,c⟩|⟨rfl,c,d⟩
 all_goals
  go_in
  go_upto_block 0 with(go_at_call 163;refine(nB _ _).mono ?_;rintro e w' ⟨rfl,rfl⟩;rw[t])
  go_cut [11,12] (fun b c N=>DV X b c/\N=w.alloc (.cells #[X.op,X.a,X.b,X.c,.int .u64 X.v,X.m,X.wh] 152))
  case first=>
   go_wp2
   all_goals
    go_meet
    refine⟨⟨?_,?_⟩,rfl⟩
    ·simp only[beq_iff_eq,beq_eq_false_iff_ne,ne_eq]at*
     unfold nE
     first|rw[decide_eq_true (by omega)]|rw[decide_eq_false (by omega)]
    ·simp only[beq_iff_eq,beq_eq_false_iff_ne,ne_eq]at*
     unfold mx
     first|rw[decide_eq_true (by omega)]|rw[decide_eq_false (by omega)]
  case rest=>
   obtain⟨⟨rfl,rfl⟩,rfl⟩:=hcut;have p:Hid (Below w.heap.size w (w.alloc (.cells #[X.op,X.a,X.b,X.c,.int .u64 X.v,X.m,X.wh] 152))):=(Below.refl _ _).alloc (Nat.le_refl _) _;go_wp2_with fail
   refine(F _).mono ?_;rintro e w' ⟨rfl,rfl⟩;cases v
   ·go_wp2
    go_ret;exact ea.mk (by rw[f];rfl) p
   go_wp2_with fail
   refine(G _).mono ?_;rintro e w' ⟨rfl,rfl⟩;cases x
   ·go_wp2
    go_ret;exact ea.mk (by rw[f];rfl) p
   go_wp2_with fail
   refine(H _).mono ?_;rintro e w' ⟨rfl,rfl⟩;cases y
   ·go_wp2
    go_ret;exact ea.mk (by rw[f];rfl) p
   go_wp2_with fail
   refine(I _).mono ?_;rintro e w2 ⟨rfl,s⟩;have j:Hid (Below w.heap.size w w2):=p.trans (s.mono p.size);have Q:w2.cell? ⟨w.heap.size,5,none⟩=some (.int .i64 X.m):=(fa s (by simp)).trans (by simp);have R:w2.cell? ⟨w.heap.size,6,none⟩=some (.int .i64 X.wh):=(fa s (by simp)).trans (by simp);have S:w.heap.size<w2.heap.size:=(by have:=s.size;simp at this;omega);cases z
   ·go_wp2
    go_ret;exact ea.mk (by rw[f];rfl) j
   rcases E with⟨k1,k⟩|⟨k1,k2,k⟩|⟨k1,k2,k3,k⟩|⟨k1,k2,k3,g,k⟩|⟨k1,k2,k3,g,i,k⟩|⟨k1,k2,k3,g,i,o,k⟩|⟨k1,k2,k3,g,i,o,k⟩
   all_goals
    have l:=Z k
   ·go_wp2
    go_ret;exact ea.mk (by rw[f,l];rfl) j
   ·go_wp2
    go_ret;exact ea.mk (by rw[f,l];rfl) j
   ·go_wp2
    go_ret;exact ea.mk (by rw[f,l];rfl) j
   ·go_wp2
    go_ret;exact ea.mk (by rw[f,l];rfl) j
   ·go_wp2
    go_ret;exact ea.mk (by rw[f,l];rfl) j
   ·go_wp2
    go_ret;exact ea.mk (by rw[f,l];rfl) j
   ·go_wp2
    go_ret;exact ea.mk (by rw[f,l];rfl) j
theorem BN(X:be)(n:Nat)(a:n<=1000000)(cg:Bool)(w:World):Calls prog 167 #[aL X,.int .i64 n,.bool cg] w (ea (eD X n cg) w):=by
 cases h:my X cg
 ·exact BM X n cg w h
 ·exact zg X n a cg w h
theorem bo(n:Int)(t:TypeId)(x:Value)(w:World):
 Calls prog 72 #[n,.iface t x] w fun e w'=>
  e=.returned (.iface 185 (.pointer (some (w.heap.size,0))))/\w.alloc (.cells #[.string ⟨#[99,111,100,101]⟩,n,.iface t x] 187)=w':=by
 go_wp2
 go_ret;exact⟨rfl,rfl⟩
def gQ(n:Int)(cg:Bool):List be->Nat->Option Nat
 |[],_=>none
 |X::l,i=>if eD X n cg then gQ n cg l (i+1)else some i
def zm(r:Option Nat)(w:World)(e:Ending)(w':World):Prop:=
 match r with
 |none=>e=.returned .nilIface/\Below w.heap.size w w'
 |some i=>∃b,e=.returned (.iface 185 (.pointer (some ⟨b,0,none⟩)))/\w.heap.size<=b/\w'.heap[b]?=some (.cells #[.string ⟨#[99,111,100,101]⟩,.int .i64 i,.iface 125 (.int .i64 5)] 187 (0,0))/\Below w.heap.size w w'
theorem pt(l:List be)(a:Option Addr)(c:Nat)(cg:Bool)(D:l.length<=2048)(A:l.length<=c)(w:World)(u:l≠[]->∃g,a=some ⟨g,0,none⟩/\fN w g l):
 Calls prog 121 #[.slice a l.length c,.bool cg] w (zm (gQ l.length cg l 0) w):=by
 have y:=Z u;clear u;obtain⟨N,h⟩:=mn l.length;rw[<-h];have r:=Z h;rw[<-h]at D A;have x:=Z (fun X w=>BN X N (by omega) cg w);clear h;go_wp2
 go_loopw [14] (fun s F=>∃k:Nat,s=.int .i64 k/\k<=N/\Below w.heap.size w F/\Hid (gQ N cg (l.drop k) k=gQ N cg l 0)) (fun s _=>N-(intOf s).toNat)
 case atStart=>exact⟨0,rfl,Nat.zero_le _,Below.refl _ _,rfl⟩
 case round=>
  obtain⟨k,rfl,J,hb,m⟩:=hrel;have q:=Z hb;have z:=hb.size;by_cases C:k<N
  ·have p:k<l.length:=by rw[<-r];exact C
   obtain⟨g,rfl,v⟩:=y (by intro e;subst e;simp at p);have n:l[k]?=some l[k]:=List.getElem?_eq_getElem p;have j:Hid (l.drop k=l[k]::l.drop (k+1)):=List.drop_eq_getElem_cons p;obtain⟨X,t⟩:=mn (l[k]);rw[<-t]at n j;obtain⟨f0,f1,f2,f3,f4,f5,f6⟩:=eU l k X n;have b:=v.below hb;have a0:=b.cell _ _ f0;have a1:=b.cell _ _ f1;have a2:=b.cell _ _ f2;have a3:=b.cell _ _ f3;have a4:=b.cell _ _ f4;have G:=b.cell _ _ f5;have H:=b.cell _ _ f6;have B:(k:Int)<(N:Int):=(by omega);have I:=b.lt;clear t n f0 f1 f2 f3 f4 f5 f6 hb b v;go_wp2_with fail
   refine(x X _).mono ?_;rintro e w2 ⟨rfl,o⟩;have E:=o.size;have f:Hid (Below w.heap.size w w2):=(q.alloc z _).trans (o.mono (by simp;omega));clear o;cases i:eD X N cg
   ·have d:Hid (gQ N cg l 0=some k):=by
     show _=_;rw[<-m,j,gQ,i];rfl
    clear i;simp at E;go_wp2_with (go_at_call 72;refine(bo _ _ _ _).mono ?_;rintro e w' ⟨rfl,rfl⟩)
    go_ret;rw[d];exact⟨_,rfl,f.size,hU,f.alloc f.size _⟩
   ·have d:Hid (gQ N cg (l.drop (k+1)) (k+1)=gQ N cg l 0):=by
     show _=_;rw[<-m,j,gQ,i];rfl
    clear i;go_wp2
    go_roundw
    case rel=>exact⟨k+1,by go_num,by omega,f,d⟩
    case measure=>simp[intOf];omega
  ·have B:¬(k:Int)<(N:Int):=by omega
   have d:Hid (gQ N cg l 0=none):=by
    show _=_;rw[<-m,List.drop_eq_nil_of_le (by rw[<-r];omega)];rfl
   clear hb;go_wp2
   go_ret;rw[d];exact⟨rfl,q⟩
def tc(ok:Bool)(w:World)(e:Ending)(w':World):Prop:=(∃u,e=.returned u/\(if ok then u=.nilIface else ar u))/\Ch ag w w'
theorem l6(p n:Int)(w:World):Calls prog 74 #[p,n] w (tc (decide (0<=p/\p<n)) w):=by
 have c:p<0∨(¬p<0/\n<=p)∨(¬p<0/\¬n<=p):=by omega
 rcases c with a|⟨a,b⟩|⟨a,b⟩
 ·have E:Hid (decide (0<=p/\p<n)=false):=Z (by rw[decide_eq_false_iff_not];omega)
  go_in
  go_wp2_with (go_at_call 72;refine(bo _ _ _ _).mono ?_;rintro e w' ⟨rfl,rfl⟩)
  go_ret;rw[E];exact⟨⟨_,rfl,ar.mk _ _⟩,ay⟩
 ·have E:Hid (decide (0<=p/\p<n)=false):=Z (by rw[decide_eq_false_iff_not];omega)
  have d:0<=p:=by omega
  go_in
  go_wp2_with (go_at_call 72;refine(bo _ _ _ _).mono ?_;rintro e w' ⟨rfl,rfl⟩)
  go_ret;rw[E];exact⟨⟨_,rfl,ar.mk _ _⟩,ay⟩
 ·have E:Hid (decide (0<=p/\p<n)=true):=Z (by rw[decide_eq_true_iff];omega)
  go_wp2
  go_ret;exact⟨⟨_,rfl,rfl⟩,Ch.refl _ _⟩
theorem td(l:List be)(a:Option Addr)(c:Nat)(cg:Bool)(n:l.length<=2048)(m:l.length<=c)(w:World)(o:l≠[]->∃g,a=some ⟨g,0,none⟩/\fN w g l)
 (b:w.cell? (0,0)=some (.iface 346 (.agg #[(4,80)]))) (i:gQ l.length cg l 0=none):
 Calls prog 73 #[.slice a l.length c,.bool cg] w (tc true w):=by
 obtain⟨w1,p⟩:=nm (w.alloc (.cells #[.pointer none] 185));have d:=Z (Ch.al (D:=ag) p);have r:Hid (l≠[]->∃g,a=some ⟨g,0,none⟩/\fN w1 g l):=Z (fun h=>by obtain⟨g,e,b⟩:=o h;exact⟨g,e,b.ch d id⟩);have t:=Z (Row.al p);have s:Hid (w1.cell? (0,0)=some (.iface 346 (.agg #[(4,80)]))):=Z (d.k b);have f:=Z (pt l a c cg n m w1 r);obtain⟨N,j⟩:=mn l.length;rw[<-j]at f i⊢;rw[i]at f;clear o b n m j i;go_in
 go_wp2_with (first|(go_at_call 121;refine f.mono ?_;rintro e w2 ⟨rfl,k⟩;have q:=Z (Ch.bT k);clear k)|(go_at_call 122;refine(DW _ _).mono ?_;rintro e w' ⟨rfl,rfl⟩))
 go_ret;exact⟨⟨_,rfl,rfl⟩,d.trans q⟩
set_option maxRecDepth 100000
def I4:Bool×Bool×Bool×Bool->Int×Int×Int
 |(true,true,true,true)=>(1,2,4)
 |(true,true,true,false)=>(1,2,3)
 |(true,true,false,_)=>(1,2,0)
 |(true,false,true,true)=>(1,4,0)
 |(true,false,true,false)=>(1,3,0)
 |(true,false,false,_)=>(1,0,0)
 |(false,true,true,true)=>(2,4,0)
 |(false,true,true,false)=>(2,3,0)
 |(false,true,false,_)=>(2,0,0)
 |(false,false,true,true)=>(4,0,0)
 |(false,false,true,false)=>(3,0,0)
 |(false,false,false,_)=>(0,0,0)
def H0(op:Int):Int×Int×Int:=
 if op=1 then(1,9,0)
 else if op=13∨op=14 then(1,8,0)
 else if op=12∨op=15 then(8,0,0)
 else if op=22 then(7,0,0)
 else if op=43 then(1,5,0)
 else if op=45 then(1,2,7)
 else if op=21∨op=32 then(1,6,3)
 else if op=17∨op=18∨op=19∨op=20∨op=31 then(1,6,0)
 else I4 (e5 op)
def Mu(p:Int×Int×Int)(w:World)(e:Ending)(w':World):Prop:=
 e=.returned (.agg #[.int .i64 p.1,.int .i64 p.2.1,.int .i64 p.2.2])/\Below w.heap.size w w'
theorem Mu.mk{p:Int×Int×Int}{a b c:Int}{w w':World}(h:p=(a,b,c))(hb:Below w.heap.size w w'):Mu p w (.returned (.agg #[a,b,c])) w':=by subst h;exact⟨rfl,hb⟩
set_option maxRecDepth 100000
set_option maxHeartbeats 8000000
theorem Kx(op:Int)(w:World):Calls prog 118 #[op] w (Mu (H0 op) w):=by
 go_in
 go_wp2_with (go_at_call 163;refine(nB _ _).mono ?_;rintro e w' ⟨rfl,rfl⟩)
 all_goals
  simp only[beq_iff_eq,beq_eq_false_iff_ne,ne_eq]at*;simp[bodyPost,results,Tryz.results27,go_sem];refine Mu.mk ?_ ?_
  ·unfold H0
   repeat first
    |rfl
    |rw[if_pos (by omega)]
    |rw[if_neg (by omega)]
   try(generalize e5 op=q at*;obtain⟨a,b,c,d⟩:=q;simp_all [I4];done)
  ·repeat first
    |exact Below.refl _ _
    |refine Below.alloc ?_ (by simp) _
