import Derived.WalkKit
import Derived.WalkSpells
import Derived.WalkLawsBesides
import Derived.Lib.Hide
import Derived.Test.YtlihkblppjgebaaGreatDoorZAb
import Derived.Test.YtlihkblppjgebaaGreatDoorZAe
set_option linter.all false
set_option maxRecDepth 100000
set_option maxHeartbeats 8000000
namespace Go.Proofs.YtlihkblppjgebaaGreatDoor
open Go.RowKit Go.Proofs.Tryz
def Fz(s:ByteArray)(i:Nat):Int:=((s.data.toList.getD i 0).toNat:Int)
theorem kT(s:ByteArray)(i:Nat)(h:i<s.size):(s[i].toNat:Int)=Fz s i:=by
 unfold Fz;rw[List.getD_eq_getElem?_getD,List.getElem?_eq_getElem (by simpa using h)];rfl
theorem He(s:ByteArray)(k:Nat)(h:k<s.size):s.data.toList.drop k=s[k]::s.data.toList.drop (k+1):=by
 rw[List.drop_eq_getElem_cons (by simpa using h)];rfl
theorem Hz(s:ByteArray)(k:Nat)(h:s.size<=k):s.data.toList.drop k=[]:=by
 rw[List.drop_eq_nil_iff];simpa using h
def HP(k:IntKind)(p:Int×Bool)(w:World)(e:Ending)(w':World):Prop:=e=.returned (.tuple #[.int k p.1,.bool p.2])/\w=w'
theorem HP.mk{k:IntKind}{p:Int×Bool}{n:Int}{b:Bool}{w:World}(h:p=(n,b)):HP k p w (.returned (.tuple #[.int k n,.bool b])) w:=⟨by rw[h],rfl⟩
def Ik(b:Bool)(w:World)(e:Ending)(w':World):Prop:=e=.returned (.bool b)/\w=w'
theorem Ik.mk{b c:Bool}{w:World}(h:b=c):Ik b w (.returned (.bool c)) w:=⟨by rw[h],rfl⟩
def IN(k:IntKind)(n:Int)(w:World)(e:Ending)(w':World):Prop:=e=.returned (.int k n)/\w=w'
theorem IN.mk{k:IntKind}{n m:Int}{w:World}(h:n=m):IN k n w (.returned (.int k m)) w:=⟨by rw[h],rfl⟩
theorem J3(b:UInt8):0<=(b.toNat:Int):=Int.natCast_nonneg _
theorem J4(b:UInt8):(b.toNat:Int)<=255:=by have:=b.toNat_lt;omega
def Gy(c:Int):Int:=
 if 48<=c/\c<=57 then c-48 else if 97<=c/\c<=102 then c-87 else if 65<=c/\c<=70 then c-55 else 99
theorem J5(c:Int):0<=Gy c:=by unfold Gy;split;omega;split;omega;split;omega;omega
theorem J6(c:Int):Gy c<=99:=by unfold Gy;split;omega;split;omega;split;omega;omega
theorem Jj(c base:Int)(a:0<=c)(b:c<=255)(w:World):
 Calls prog 256 #[.int .u8 c,.int .u64 base] w fun e w'=>
  e=.returned (.tuple #[.int .u64 (Gy c),.bool (decide (Gy c<base))])/\w=w':=by
 go_enter func256,ntmps256
 go_wp2
 all_goals(go_ret2;refine⟨?_,rfl⟩)
 all_goals(first
  |(have e:Gy c=c-48:=by {unfold Gy;rw[if_pos (by omega)]}
    rw[e];rfl)
  |(have e:Gy c=c-97+10:=by {unfold Gy;rw[if_neg (by omega),if_pos (by omega)];omega}
    rw[e];rfl)
  |(have e:Gy c=c-65+10:=by {unfold Gy;rw[if_neg (by omega),if_neg (by omega),if_pos (by omega)];omega}
    rw[e];rfl)
  |(have e:Gy c=99:=by {unfold Gy;rw[if_neg (by omega),if_neg (by omega),if_neg (by omega)]}
    rw[e];rfl))
theorem GU(n:Int)(t:TypeId)(x:Value)(w:World):
 Calls prog 257 #[.int .i64 n,.iface t x] w fun e w'=>
  e=.returned (.iface 247 (.pointer (some ⟨w.heap.size,0,none⟩)))/\w.alloc (.cells #[.string ⟨#[119,111,114,100]⟩,.int .i64 n,.iface t x] 249)=w':=by
 go_enter func257,ntmps257
 go_wp2
 go_ret;exact⟨rfl,rfl⟩
theorem FD(n:Int)(t:TypeId)(x:Value)(w:World):
 Calls prog 142 #[.int .i64 n,.iface t x] w fun e w'=>
  e=.returned (.iface 247 (.pointer (some ⟨w.heap.size,0,none⟩)))/\w.alloc (.cells #[.string ⟨#[97,115,109]⟩,.int .i64 n,.iface t x] 249)=w':=by
 go_enter func142,ntmps142
 go_wp2
 go_ret;exact⟨rfl,rfl⟩
def HZ:Int:=18446744073709551615
def Ky(base a:Int):List UInt8->Int->Int->Except Int Int
 |[],_,v=> .ok v
 |c::cs,j,v=>if Gy c.toNat<base/\j<a/\v<=(HZ-Gy c.toNat)/base then Ky base a cs (j+1) (v*base+Gy c.toNat)else .error j
def N2(s:ByteArray):Bool:=decide (2<=(s.size:Int)/\Fz s 0=48/\Fz s 1=120)
def JC(d:Int):Except Int Int->Except Int Int
 |.ok v=> .ok v
 |.error j=> .error (d+j)
def FG(s:ByteArray):Except Int Int:=
 if N2 s then(if s.size=2 then .error 2 else JC 2 (Ky 16 16 (s.data.toList.drop 2) 0 0))
 else(if s.size=0 then .error 0 else JC 0 (Ky 10 20 s.data.toList 0 0))
def Gp(r:Except Int Int)(w:World)(e:Ending)(w':World):Prop:=
 match r with
 |.ok v=>e=.returned (.tuple #[.int .u64 v,.nilIface])/\0<=v/\v<=HZ/\w=w'
 |.error i=>e=.returned (.tuple #[.int .u64 0,.iface 247 (.pointer (some ⟨w.heap.size,0,none⟩))])/\w.alloc (.cells #[.string ⟨#[119,111,114,100]⟩,.int .i64 i,.iface 152 (.int .i64 6)] 249)=w'
theorem Gp.Hn{r:Except Int Int}{w:World}{v:Int}(h:r=.ok v)(a:0<=v)(b:v<=HZ):Gp r w (.returned (.tuple #[.int .u64 v,.nilIface])) w:=by
 subst h;exact⟨rfl,a,b,rfl⟩
theorem Gp.bad{r:Except Int Int}{w:World}{i:Int}(h:r=.error i):Gp r w (.returned (.tuple #[.int .u64 0,.iface 247 (.pointer (some ⟨w.heap.size,0,none⟩))])) (w.alloc (.cells #[.string ⟨#[119,111,114,100]⟩,.int .i64 i,.iface 152 (.int .i64 6)] 249)):=by
 subst h;exact⟨rfl,rfl⟩
theorem HI(s:ByteArray)(A:s.size<=maxLen)(w:World):
 Calls prog 248 #[.string s] w (Gp (FG s) w):=by
 unfold maxLen at A;by_cases b:N2 s=true
 ·have d:Hid (FG s=if s.size=2 then .error 2 else JC 2 (Ky 16 16 (s.data.toList.drop 2) 0 0)):=by show _=_;unfold FG;rw[if_pos b]
  unfold N2 at b;simp only[decide_eq_true_eq]at b;have f:0<s.size:=by omega
  have r:1<s.size:=by omega
  have C:2<=s.size:=by omega
  have p:((s[0].toNat:Int)==48)=true:=by rw[kT,beq_iff_eq];omega
  have t:((s[1].toNat:Int)==120)=true:=by rw[kT,beq_iff_eq];omega
  clear b;go_enter func248,ntmps248
  go_wp2
  go_loop [7,8] (fun n i=>∃(k:Nat) (v:Int),2<=k/\k<=s.size/\i=.int .i64 k/\n=.int .u64 v/\0<=v/\v<=HZ/\Hid (Ky 16 16 (s.data.toList.drop k) ((k:Int)-2) v=Ky 16 16 (s.data.toList.drop 2) 0 0)) (fun _ i=>s.size-(intOf i).toNat)
  case atStart=>exact⟨2,0,by omega,by omega,rfl,rfl,by omega,by unfold HZ;omega,rfl⟩
  case round=>
   obtain⟨k,v,z,y,rfl,rfl,m,o,c⟩:=hrel;by_cases l:k<s.size
   ·have a:Hid (s.data.toList.drop k=s[k]::s.data.toList.drop (k+1)):=He s k l
    have d0:=J5 (s[k].toNat:Int);have d1:=J6 (s[k].toNat:Int);have D:=J4 s[k];have y0:=J3 s[k];go_wp2_with (first|(go_at_call 256;refine(Jj _ _ (by omega) (by omega) _).mono ?_;rintro e w' ⟨rfl,rfl⟩)|(go_at_call 257;refine(GU _ _ _ _).mono ?_;rintro e w' ⟨rfl,rfl⟩))
    all_goals first
     |(go_round
       case rel=>exact⟨k+1,v*16+Gy (s[k].toNat:Int),by omega,by omega,by go_num,rfl,by omega,by unfold HZ;omega,by
        show _=_
        rw[<-c.out,a.out,Ky,if_pos (by unfold HZ;omega)]
        congr 1<;>omega⟩
       case measure=>simp[intOf];omega)
     |(go_ret2
       exact Gp.bad (by
        rw[d.out,if_neg (by omega),<-c.out,a.out,Ky,if_neg (by unfold HZ;omega)];show Except.error _=Except.error _
        congr 1<;>omega))
   ·have a:Hid (s.data.toList.drop k=[]):=Hz s k (by omega)
    by_cases x:s.size<=2
    ·have j:((s.size:Int)==2)=true:=by rw[beq_iff_eq];omega
     go_wp2_with (first|(go_at_call 257;refine(GU _ _ _ _).mono ?_;rintro e w' ⟨rfl,rfl⟩))
     go_ret2;exact Gp.bad (by rw[d.out,if_pos (by omega)])
    ·have j:((s.size:Int)==2)=false:=by rw[beq_eq_false_iff_ne];omega
     go_wp2_with (first|(go_at_call 257;refine(GU _ _ _ _).mono ?_;rintro e w' ⟨rfl,rfl⟩))
     go_ret2;exact Gp.Hn (by rw[d.out,if_neg (by omega),<-c.out,a.out,Ky];rfl) m o
 ·have d:Hid (FG s=if s.size=0 then .error 0 else JC 0 (Ky 10 20 s.data.toList 0 0)):=by show _=_;unfold FG;rw[if_neg b]
  have q:(s.size:Int)<2∨(2<=(s.size:Int)/\Fz s 0≠48)∨(2<=(s.size:Int)/\Fz s 0=48/\Fz s 1≠120):=by
   unfold N2 at b;simp only[decide_eq_true_eq]at b;omega
  clear b;have B:(s.size<2)∨(∃f:0<s.size,2<=s.size/\((s[0].toNat:Int)==48)=false)∨(∃(f:0<s.size) (r:1<s.size),((s[0].toNat:Int)==48)=true/\((s[1].toNat:Int)==120)=false):=by
   rcases q with h|⟨h,g⟩|⟨h,g,u⟩
   ·exact Or.inl (by omega)
   ·exact Or.inr (Or.inl ⟨by omega,by omega,by rw[kT,beq_eq_false_iff_ne];exact g⟩)
   ·exact Or.inr (Or.inr ⟨by omega,by omega,by rw[kT,beq_iff_eq];exact g,by rw[kT,beq_eq_false_iff_ne];exact u⟩)
  clear q;rcases B with E|⟨f,C,p⟩|⟨f,r,p,t⟩
  all_goals
   go_enter func248,ntmps248
   go_wp2
   go_loop [7,8] (fun n i=>∃(k:Nat) (v:Int),k<=s.size+1/\k<=s.size/\i=.int .i64 k/\n=.int .u64 v/\0<=v/\v<=HZ/\Hid (Ky 10 20 (s.data.toList.drop k) (k:Int) v=Ky 10 20 s.data.toList 0 0)) (fun _ i=>s.size-(intOf i).toNat)
   case atStart=>exact⟨0,0,by omega,by omega,rfl,rfl,by omega,by unfold HZ;omega,rfl⟩
   case round=>
    obtain⟨k,v,z,y,rfl,rfl,m,o,c⟩:=hrel;by_cases l:k<s.size
    ·have a:Hid (s.data.toList.drop k=s[k]::s.data.toList.drop (k+1)):=He s k l
     have d0:=J5 (s[k].toNat:Int);have d1:=J6 (s[k].toNat:Int);have D:=J4 s[k];have y0:=J3 s[k];go_wp2_with (first|(go_at_call 256;refine(Jj _ _ (by omega) (by omega) _).mono ?_;rintro e w' ⟨rfl,rfl⟩)|(go_at_call 257;refine(GU _ _ _ _).mono ?_;rintro e w' ⟨rfl,rfl⟩))
     all_goals first
      |(go_round
        case rel=>exact⟨k+1,v*10+Gy (s[k].toNat:Int),by omega,by omega,by go_num,rfl,by omega,by unfold HZ;omega,by
         show _=_
         rw[<-c.out,a.out,Ky,if_pos (by unfold HZ;omega)]
         congr 1<;>omega⟩
        case measure=>simp[intOf];omega)
      |(go_ret2
        exact Gp.bad (by
         rw[d.out,if_neg (by omega),<-c.out,a.out,Ky,if_neg (by unfold HZ;omega)];show Except.error _=Except.error _
         congr 1<;>omega))
    ·have a:Hid (s.data.toList.drop k=[]):=Hz s k (by omega)
     by_cases x:s.size<=0
     ·have j:((s.size:Int)==0)=true:=by rw[beq_iff_eq];omega
      go_wp2_with (first|(go_at_call 257;refine(GU _ _ _ _).mono ?_;rintro e w' ⟨rfl,rfl⟩))
      go_ret2;exact Gp.bad (by rw[d.out,if_pos (by omega)])
     ·have j:((s.size:Int)==0)=false:=by rw[beq_eq_false_iff_ne];omega
      go_wp2_with (first|(go_at_call 257;refine(GU _ _ _ _).mono ?_;rintro e w' ⟨rfl,rfl⟩))
      go_ret2;exact Gp.Hn (by rw[d.out,if_neg (by omega),<-c.out,a.out,Ky];rfl) m o
def IP:List UInt8->Int->Option Int
 |[],n=>some n
 |c::cs,n=>if 48<=(c.toNat:Int)/\(c.toNat:Int)<=57 then IP cs (10*n+((c.toNat:Int)-48))else none
def MQ:Option Int->Int×Bool
 |some n=>(n,decide (n<32))
 |none=>(0,false)
def JD(s:ByteArray):Bool:=
 decide ((s.size:Int)<2∨3<(s.size:Int)∨Fz s 0≠114∨((s.size:Int)=3/\Fz s 1=48))
def GQ(s:ByteArray):Int×Bool:=
 if JD s then(0,false)else MQ (IP (s.data.toList.drop 1) 0)
theorem H0(s:ByteArray)(f:s.size<=maxLen)(w:World):
 Calls prog 228 #[.string s] w (HP .i64 (GQ s) w):=by
 unfold maxLen at f;by_cases hb:JD s=true
 ·have b:Hid (GQ s=(0,false)):=by show _=_;unfold GQ;rw[if_pos hb]
  unfold JD at hb
  replace hb:=of_decide_eq_true hb
  have d:=Z hb;clear hb;go_enter func228,ntmps228
  go_wp2
  all_goals first
   |(go_ret2;exact HP.mk b.out)
   |(exfalso;have hb:=d.out;simp only[kT,beq_eq_false_iff_ne]at*;omega)
 ·have b:Hid (GQ s=MQ (IP (s.data.toList.drop 1) 0)):=by show _=_;unfold GQ;rw[if_neg hb]
  unfold JD at hb;simp only[decide_eq_true_eq]at hb;have j:2<=s.size:=by omega
  have l:s.size<=3:=by omega
  have u:0<s.size:=by omega
  have v:1<s.size:=by omega
  have g:((s[0].toNat:Int) !=114)=false:=by rw[kT,bne_eq_false_iff_eq];omega
  by_cases o:s.size<3
  all_goals
   (try(have h:((s[1].toNat:Int)==48)=false:=by rw[kT,beq_eq_false_iff_ne];omega))
   clear hb;go_enter func228,ntmps228
   go_wp2
   go_loop [4,5] (fun n i=>∃(k:Nat) (m:Int),k<=s.size/\i=.int .i64 k/\n=.int .i64 m/\((k<=1/\1<=k/\m<=0/\0<=m)∨(k<=2/\2<=k/\0<=m/\m<=9)∨(k<=3/\3<=k/\0<=m/\m<=99))/\Hid (IP (s.data.toList.drop k) m=IP (s.data.toList.drop 1) 0)) (fun _ i=>s.size-(intOf i).toNat)
   case atStart=>exact⟨1,0,by omega,rfl,rfl,by omega,rfl⟩
   case round=>
    obtain⟨k,m,p,rfl,rfl,q,c⟩:=hrel;have r:0<=m:=(by omega);have t:m<=99:=(by omega);by_cases e:k<s.size
    ·have a:Hid (s.data.toList.drop k=s[k]::s.data.toList.drop (k+1)):=He s k e
     go_wp2
     all_goals first
      |(go_round
        case rel=>exact⟨k+1,10*m+((s[k].toNat:Int)-48),by omega,by go_num,rfl,by omega,by
         show _=_
         rw[<-c.out,a.out];rw[IP,if_pos (by omega)]⟩
        case measure=>simp[intOf];omega)
      |(go_ret2
        exact HP.mk (by rw[b.out,<-c.out,a.out];rw[IP,if_neg (by omega)];rfl))
    ·have a:Hid (s.data.toList.drop k=[]):=Hz s k (by omega)
     go_wp2
     all_goals
      (go_ret2
       exact HP.mk (by rw[b.out,<-c.out,a.out];rfl))
def G4(c:UInt8):Bool:=decide ((97<=(c.toNat:Int)/\(c.toNat:Int)<=122)∨(48<=(c.toNat:Int)/\(c.toNat:Int)<=57))
def H2(s:ByteArray):Bool:=decide ((s.size:Int)<1∨16<(s.size:Int)∨Fz s 0<97∨122<Fz s 0)
def GN(s:ByteArray):Bool:=if H2 s then false else if s.data.toList.all G4 then !(GQ s).2 else false
theorem LA(s:ByteArray)(d:s.size<=maxLen)(w:World):Calls prog 186 #[.string s] w (Ik (GN s) w):=by
 have f:s.size<=maxLen:=d;have h:=Z f;clear f;unfold maxLen at d;by_cases hb:H2 s=true
 ·have b:Hid (GN s=false):=by show _=_;unfold GN;rw[if_pos hb]
  unfold H2 at hb
  replace hb:=of_decide_eq_true hb
  have g:=Z hb;clear hb;go_enter func186,ntmps186
  go_wp2
  all_goals first
   |(go_ret;exact Ik.mk b.out)
   |(exfalso;have hb:=g.out;simp only[kT]at*;omega)
 ·have b:Hid (GN s=if s.data.toList.all G4 then !(GQ s).2 else false):=by show _=_;unfold GN;rw[if_neg hb]
  unfold H2 at hb;simp only[decide_eq_true_eq]at hb;have n:1<=s.size:=by omega
  have o:s.size<=16:=by omega
  have q:0<s.size:=by omega
  have l:97<=(s[0].toNat:Int):=by rw[kT];omega
  have m:(s[0].toNat:Int)<=122:=by rw[kT];omega
  clear hb;go_enter func186,ntmps186
  go_wp2
  go_loop [3] (fun i=>∃(k:Nat),k<=s.size/\i=.int .i64 k/\Hid (s.data.toList.all G4=(s.data.toList.drop k).all G4)) (fun i=>s.size-(intOf i).toNat)
  case atStart=>exact⟨0,by omega,rfl,rfl⟩
  case round=>
   obtain⟨k,p,rfl,c⟩:=hrel;by_cases j:k<s.size
   ·have a:Hid (s.data.toList.drop k=s[k]::s.data.toList.drop (k+1)):=He s k j
    go_wp2
    all_goals first
     |(go_round
       case rel=>exact⟨k+1,by omega,by go_num,by
        show _=_
        rw[c.out,a.out,List.all_cons];have e:G4 s[k]=true:=(by unfold G4;rw[decide_eq_true_eq];omega);rw[e,Bool.true_and]⟩
       case measure=>simp[intOf];omega)
     |(go_ret
       exact Ik.mk (by
        rw[b.out,c.out,a.out,List.all_cons];have e:G4 s[k]=false:=(by unfold G4;rw[decide_eq_false_iff_not];omega);rw[e,Bool.false_and];rfl))
   ·have a:Hid (s.data.toList.drop k=[]):=Hz s k (by omega)
    go_wp2_with (go_at_call 228;refine(H0 _ h.out _).mono ?_;rintro e w' ⟨rfl,rfl⟩)
    go_ret;exact Ik.mk (by rw[b.out,c.out,a.out];rfl)
theorem JE(s:ByteArray)(a:s.size<=maxLen)(v:Int)(h:FG s=.ok v)(w:World):
 Calls prog 248 #[.string s] w (Gp (.ok v) w):=by rw[<-h];exact HI s a w
theorem JF(s:ByteArray)(a:s.size<=maxLen)(i:Int)(h:FG s=.error i)(w:World):
 Calls prog 248 #[.string s] w (Gp (.error i) w):=by rw[<-h];exact HI s a w
def J7(r:Except Int Int)(line:Int)(w:World)(e:Ending)(w':World):Prop:=
 match r with
 |.ok v=>e=.returned (.tuple #[.int .u64 v,.nilIface])/\0<=v/\v<=HZ/\w=w'
 |.error i=>e=.returned (.tuple #[.int .u64 0,.iface 247 (.pointer (some ⟨w.heap.size+1,0,none⟩))])/\
  (w.alloc (.cells #[.string ⟨#[119,111,114,100]⟩,.int .i64 i,.iface 152 (.int .i64 6)] 249)).alloc (.cells #[.string ⟨#[97,115,109]⟩,.int .i64 line,.iface 247 (.pointer (some ⟨w.heap.size,0,none⟩))] 249)=w'
theorem Gq(s:ByteArray)(a:s.size<=maxLen)(v:Int)(h:FG s=.ok v)(line:Int)(w:World):
 Calls prog 229 #[.string s,.int .i64 line] w (J7 (.ok v) line w):=by
 have b:=Z (JE s a v h);clear h a;go_enter func229,ntmps229
 go_wp2_with (go_at_call 248;refine(b.out _).mono ?_;rintro e w' ⟨rfl,c,d,rfl⟩)
 go_ret2;exact⟨rfl,‹_›,‹_›,rfl⟩
theorem Gs(s:ByteArray)(a:s.size<=maxLen)(i:Int)(h:FG s=.error i)(line:Int)(w:World):
 Calls prog 229 #[.string s,.int .i64 line] w (J7 (.error i) line w):=by
 have b:=Z (JF s a i h);clear h a;go_enter func229,ntmps229
 go_wp2_with (first|(go_at_call 248;refine(b.out _).mono ?_;rintro e w' ⟨rfl,rfl⟩)|(go_at_call 142;refine(FD _ _ _ _).mono ?_;rintro e w' ⟨rfl,rfl⟩))
 go_ret2;exact⟨rfl,rfl⟩
def re(w:World)(b:Nat)(X:aV):Prop:=w.heap[b]?=some (.cells (aC X) 184 (0,0))
theorem re.lt{w:World}{b:Nat}{X:aV}(h:re w b X):b<w.heap.size:=(Array.getElem?_eq_some_iff.1 h).1
theorem re.cell{w:World}{b:Nat}{X:aV}(h:re w b X)(i:Nat):w.cell? ⟨b,i,none⟩=(aC X)[i]?:=cell_of_row w b i _ _ _ h
theorem re.free{w:World}{b:Nat}{X:aV}(h:re w b X)(i:Nat):w.frozen? ⟨b,i,none⟩=false:=by
 unfold World.frozen?;unfold re at h;simp only[h];simp
theorem FX{w:World}{b i:Nat}{c:Array Value}{t:TypeId}{f:Nat×Nat}{v:Value}(h:w.heap[b]?=some (.cells c t f)):(w.setCell ⟨b,i,none⟩ v).heap[b]?=some (.cells (c.setIfInBounds i v) t f):=by
 simp[World.setCell,Array.getElem?_modify,h]
theorem FN{w:World}{a:Addr}{v:Value}{k:Nat}(h:k≠a.block):(w.setCell a v).heap[k]?=w.heap[k]?:=Below.heap_setCell _ _ _ _ h
theorem re.Eb{w:World}{b:Nat}{X:aV}(h:re w b X)(n:Int):re (w.setCell ⟨b,1,none⟩ (.int .i64 n)) b {X with a:=n}:=FX h
theorem re.n3{w:World}{b:Nat}{X:aV}(h:re w b X)(n:Int):re (w.setCell ⟨b,2,none⟩ (.int .i64 n)) b {X with b:=n}:=FX h
theorem re.vh{w:World}{b:Nat}{X:aV}(h:re w b X)(n:Int):re (w.setCell ⟨b,3,none⟩ (.int .i64 n)) b {X with c:=n}:=FX h
theorem re.mi{w:World}{b:Nat}{X:aV}(h:re w b X)(n:Int):re (w.setCell ⟨b,4,none⟩ (.int .u64 n)) b {X with v:=n}:=FX h
theorem re.vi{w:World}{b:Nat}{X:aV}(h:re w b X)(n:Int):re (w.setCell ⟨b,5,none⟩ (.int .i64 n)) b {X with m:=n}:=FX h
theorem re.zB{w:World}{b:Nat}{X:aV}(h:re w b X)(n:Int):re (w.setCell ⟨b,6,none⟩ (.int .i64 n)) b {X with wh:=n}:=FX h
theorem Gk{w:World}{a:Obj}{k:Nat}(h:k<w.heap.size):(w.alloc a).heap[k]?=w.heap[k]?:=Below.heap_alloc w a k h
theorem re.alloc{w:World}{b:Nat}{X:aV}(h:re w b X)(a:Obj):re (w.alloc a) b X:=by
 unfold re;rw[Gk h.lt];exact h
theorem hb(w:World)(r:Option Nat):w.grownBy w r:=⟨rfl,rfl,rfl,Nat.le_refl _,fun _ _ _=>rfl⟩
theorem FY{w w1:World}{r:Option Nat}(h:w.grownBy w1 r)(c:Obj):w.grownBy (w1.alloc c) r:=
 ⟨h.os,h.tape,h.output,by have:=h.size;simp;omega,fun k a b=>by rw[Gk (by have:=h.size;omega)];exact h.block k a b⟩
theorem p1{w w1:World}{b:Nat}(h:w.grownBy w1 (some b))(i:Nat)(v:Value):w.grownBy (w1.setCell ⟨b,i,none⟩ v) (some b):=
 ⟨h.os,h.tape,h.output,by have:=h.size;simp;omega,fun k c a=>by rw[FN (fun e=>a (by rw[e]))];exact h.block k c a⟩
theorem J8{w w1 w2:World}{r:Option Nat}(h:w.grownBy w1 r)(g:w1.grownBy w2 r):w.grownBy w2 r:=
 ⟨g.os.trans h.os,g.tape.trans h.tape,g.output.trans h.output,Nat.le_trans h.size g.size,fun k a b=>(g.block k (Nat.lt_of_lt_of_le a h.size) b).trans (h.block k a b)⟩
def IQ(w':World)(a:Nat)(line:Int)(t:Bool)(v:Value):Prop:=
 ∃(b:Nat) (inner:Value),v=.iface 247 (.pointer (some ⟨b,0,none⟩))/\a<=b/\w'.heap[b]?=some (.cells #[.string ⟨#[97,115,109]⟩,.int .i64 line,inner] 249 (0,0))/\(t=true->inner=.iface 152 (.int .i64 6))
def B1(r:Except Bool aV)(a:Nat)(line:Int)(w:World)(e:Ending)(w':World):Prop:=
 match r with
 |.ok X=>e=.returned .nilIface/\re w' a X/\w.grownBy w' (some a)
 |.error t=>∃v,e=.returned v/\IQ w' w.heap.size line t v/\w.grownBy w' (some a)
theorem B1.Hn{r:Except Bool aV}{a:Nat}{line:Int}{w w':World}(X:aV)(h:r=.ok X)(c:re w' a X)(b:w.grownBy w' (some a)):B1 r a line w (.returned .nilIface) w':=by
 subst h;exact⟨rfl,c,b⟩
theorem B1.text{r:Except Bool aV}{a:Nat}{line:Int}{w w1:World}{n:Nat}(h:r=.error true)(c:n=w1.heap.size)(b:w.grownBy w1 (some a)):
 B1 r a line w (.returned (.iface 247 (.pointer (some ⟨n,0,none⟩)))) (w1.alloc (.cells #[.string ⟨#[97,115,109]⟩,.int .i64 line,.iface 152 (.int .i64 6)] 249)):=by
 subst h;subst c;exact⟨_,rfl,⟨_,_,rfl,b.size,hs,fun _=>rfl⟩,FY b _⟩
theorem B1.num{r:Except Bool aV}{a:Nat}{line:Int}{w w1:World}{n:Nat}{x:Value}(h:r=.error false)(c:n=w1.heap.size)(b:w.grownBy w1 (some a)):
 B1 r a line w (.returned (.iface 247 (.pointer (some ⟨n,0,none⟩)))) (w1.alloc (.cells #[.string ⟨#[97,115,109]⟩,.int .i64 line,x] 249)):=by
 subst h;subst c;exact⟨_,rfl,⟨_,_,rfl,b.size,hs,fun h=>by cases h⟩,FY b _⟩
theorem H3(s p:ByteArray)(d:s.size<=9223372036854775807)(b:Bool)(h:Lib.hasSuffix s.data.toList p.data.toList=b)(w:World):Calls prog 231 #[.string s,.string p] w (Ik b w):=
 (bj s p w d).mono fun e w' ⟨a,c⟩=>⟨by rw[a,<-h],c.symm⟩
theorem J9{s p:ByteArray}(h:Lib.hasSuffix s.data.toList p.data.toList=true):p.size<=s.size:=by
 unfold Lib.hasSuffix at h;have:=(List.isSuffixOf_iff_suffix.1 h).length_le;simpa using this
def J':ByteArray:=⟨#[61,48]⟩
def Ka:ByteArray:=⟨#[62,48]⟩
def Hf(t:ByteArray)(a:Int):Int×ByteArray:=
 if Lib.hasSuffix t.data.toList J'.data.toList then(1,t.extract 0 (t.size-2))
 else if Lib.hasSuffix t.data.toList Ka.data.toList then(2,t.extract 0 (t.size-2))
 else(a,t)
def H4(X:aV)(a:Int):Except Int Int->Except Bool aV
 |.error _=> .error false
 |.ok v=>if v<1∨99<v then .error true else .ok {X with wh:=a,m:=v}
def Gg(X:aV)(s:ByteArray):Except Bool aV:=
 H4 X (Hf (s.extract 1 s.size) X.wh).1 (FG (Hf (s.extract 1 s.size) X.wh).2)
theorem MR(s:ByteArray)(K:s.size<=65536)(I:1<=s.size)(line:Int)(p:Nat)(X:aV)(w:World)(l:re w p X):
 Calls prog 190 #[.pointer (some ⟨p,0,none⟩),.string s,.int .i64 line] w (B1 (Gg X s) p line w):=by
 have G:w.cell? ⟨p,5,none⟩=some (.int .i64 X.m):=l.cell 5;have H:w.cell? ⟨p,6,none⟩=some (.int .i64 X.wh):=l.cell 6;have f5:=l.free 5;have f6:=l.free 6;have J:=l.lt;have x:=Z l;clear l;have L:(s.extract 1 s.size).size<=65536:=by simp;omega
 have z:Hid (∀t,s.extract 1 s.size=t->Gg X s=H4 X (Hf t X.wh).1 (FG (Hf t X.wh).2)):=by
  intro t h;subst h;rfl
 go_enter func190,ntmps190
 go_wp2_with fail
 generalize E:s.extract 1 s.size=t at*;have n:=Z (z.out t rfl);clear z E;by_cases g:Lib.hasSuffix t.data.toList J'.data.toList=true
 ·have D:2<=t.size:=J9 g
  have f:Hid (Gg X s=H4 X 1 (FG (t.extract 0 (t.size-2)))):=by show _=_;rw[n.out];unfold Hf;rw[if_pos g]
  refine(H3 t J' (by omega) true g _).mono ?_;clear g n;rintro e w' ⟨rfl,rfl⟩;go_wp2_with fail
  have i:(t.extract 0 (t.size-2)).size<=maxLen:=by unfold maxLen;simp;omega
  generalize t.extract 0 (t.size-2)=u at*;rcases a:FG u with j|v
  ·have c:Hid (Gg X s=.error false):=by show _=_;rw[f.out,a];rfl
   have d:=Z (Gs u i j a);clear a;refine(d.out _ _).mono ?_;rintro e w' ⟨rfl,rfl⟩;go_wp2
   go_ret;exact B1.num c.out (by simp) (FY (p1 (hb w _) _ _) _)
  ·have d:=Z (Gq u i v a)
   by_cases b:v<1∨99<v
   ·have c:Hid (Gg X s=.error true):=by show _=_;rw[f.out,a];exact if_pos b
    clear a;refine(d.out _ _).mono ?_;rintro e w' ⟨rfl,q,r,rfl⟩;rcases b with b|b
    all_goals
     go_wp2_with (go_at_call 142;refine(FD _ _ _ _).mono ?_;rintro e w' ⟨rfl,rfl⟩)
     go_ret;exact B1.text c.out (by simp) (p1 (hb w _) _ _)
   ·have c:Hid (Gg X s=.ok {X with wh:=1,m:=v}):=by show _=_;rw[f.out,a];exact if_neg b
    have B:1<=v:=(by omega);have C:v<=99:=(by omega);clear a b;refine(d.out _ _).mono ?_;rintro e w' ⟨rfl,q,r,rfl⟩;go_wp2
    go_ret;exact B1.Hn _ c.out ((x.out.zB 1).vi v) (p1 (p1 (hb w _) _ _) _ _)
 ·have y:Lib.hasSuffix t.data.toList J'.data.toList=false:=by simpa using g
  refine(H3 t J' (by omega) false y _).mono ?_;rintro e w' ⟨rfl,rfl⟩;by_cases k:Lib.hasSuffix t.data.toList Ka.data.toList=true
  ·have D:2<=t.size:=J9 k
   have f:Hid (Gg X s=H4 X 2 (FG (t.extract 0 (t.size-2)))):=(by show _=_;rw[n.out];unfold Hf;rw[if_neg g,if_pos k]);have o:=Z (H3 t Ka (by omega) true k);clear g y k n;go_wp2_with fail
   refine(o.out _).mono ?_;rintro e w' ⟨rfl,rfl⟩;go_wp2_with fail
   have i:(t.extract 0 (t.size-2)).size<=maxLen:=(by unfold maxLen;simp;omega);clear o;generalize t.extract 0 (t.size-2)=u at*;rcases a:FG u with j|v
   ·have c:Hid (Gg X s=.error false):=by show _=_;rw[f.out,a];rfl
    have d:=Z (Gs u i j a);clear a;refine(d.out _ _).mono ?_;rintro e w' ⟨rfl,rfl⟩;go_wp2
    go_ret;exact B1.num c.out (by simp) (FY (p1 (hb w _) _ _) _)
   ·have d:=Z (Gq u i v a)
    by_cases b:v<1∨99<v
    ·have c:Hid (Gg X s=.error true):=by show _=_;rw[f.out,a];exact if_pos b
     clear a;refine(d.out _ _).mono ?_;rintro e w' ⟨rfl,q,r,rfl⟩;rcases b with b|b
     all_goals
      go_wp2_with (go_at_call 142;refine(FD _ _ _ _).mono ?_;rintro e w' ⟨rfl,rfl⟩)
      go_ret;exact B1.text c.out (by simp) (p1 (hb w _) _ _)
    ·have c:Hid (Gg X s=.ok {X with wh:=2,m:=v}):=by show _=_;rw[f.out,a];exact if_neg b
     have B:1<=v:=(by omega);have C:v<=99:=(by omega);clear a b;refine(d.out _ _).mono ?_;rintro e w' ⟨rfl,q,r,rfl⟩;go_wp2
     go_ret;exact B1.Hn _ c.out ((x.out.zB 2).vi v) (p1 (p1 (hb w _) _ _) _ _)
  ·have A:Lib.hasSuffix t.data.toList Ka.data.toList=false:=by simpa using k
   have f:Hid (Gg X s=H4 X X.wh (FG t)):=(by show _=_;rw[n.out];unfold Hf;rw[if_neg g,if_neg k]);have o:=Z (H3 t Ka (by omega) false A);clear g y k A n;go_wp2_with fail
   refine(o.out _).mono ?_;rintro e w' ⟨rfl,rfl⟩;go_wp2_with fail
   have i:t.size<=maxLen:=(by unfold maxLen;omega);clear o;obtain⟨u,F⟩:=mn t;subst F;rcases a:FG u with j|v
   ·have c:Hid (Gg X s=.error false):=by show _=_;rw[f.out,a];rfl
    have d:=Z (Gs u i j a);clear a;refine(d.out _ _).mono ?_;rintro e w' ⟨rfl,rfl⟩;go_wp2
    go_ret;exact B1.num c.out (by simp) (FY (hb w _) _)
   ·have d:=Z (Gq u i v a)
    by_cases b:v<1∨99<v
    ·have c:Hid (Gg X s=.error true):=by show _=_;rw[f.out,a];exact if_pos b
     clear a;refine(d.out _ _).mono ?_;rintro e w' ⟨rfl,q,r,rfl⟩;rcases b with b|b
     all_goals
      go_wp2_with (go_at_call 142;refine(FD _ _ _ _).mono ?_;rintro e w' ⟨rfl,rfl⟩)
      go_ret;exact B1.text c.out (by simp) (hb w _)
    ·have c:Hid (Gg X s=.ok {X with wh:=X.wh,m:=v}):=by show _=_;rw[f.out,a];exact if_neg b
     have B:1<=v:=(by omega);have C:v<=99:=(by omega);clear a b;refine(d.out _ _).mono ?_;rintro e w' ⟨rfl,q,r,rfl⟩;go_wp2
     go_ret;exact B1.Hn _ c.out ((x.out).vi v) (p1 (hb w _) _ _)
def p2(t:ByteArray):Nat->Nat->Nat->List ByteArray
 |0,_,_=>[]
 |f+1,i,a=>
  if i<t.size/\Fz t i≠32 then p2 t f (i+1) a
  else if a<i then t.extract a i::p2 t f (i+1) (i+1)
  else p2 t f (i+1) (i+1)
def Hs(s:ByteArray):ByteArray:=if 0<=Lib.indexByte s.data.toList 59 then s.extract 0 (Lib.indexByte s.data.toList 59).toNat else s
def Ge(s:ByteArray):List ByteArray:=p2 (Hs s) ((Hs s).size+1) 0 0
theorem OR(l:List UInt8)(c:UInt8):Lib.indexByte l c<l.length∨l=[]:=by
 induction l with
 |nil=>exact Or.inr rfl
 |cons b l ih=>
  refine Or.inl ?_;unfold Lib.indexByte;split
  ·simp
  ·split
   ·simp only[List.length_cons];omega
   ·rcases ih with h|h
    ·simp only[List.length_cons];omega
    ·subst h;rename_i a;simp[Lib.indexByte]at a
theorem Q5(l:List UInt8)(c:UInt8):Lib.indexByte l c<=l.length:=by
 rcases OR l c with h|h
 ·omega
 ·subst h;simp[Lib.indexByte]
theorem Q6:(prog.info? 9).map (fun i=>(i.zero,i.size,i.bytes))=some (some (.string ByteArray.empty),1,16):=by kernel_rfl
theorem Hg{B:Nat}{w wr w2:World}{a:Obj}{l:Value}{n:Nat}{f:List Value}(h:Below B w wr)(e:wr.ownsRow B 9 1 l n f)(c:(wr.alloc a).grownBy w2 l.ownBlock)(b:B<=wr.heap.size:=by omega):Below B w w2:=
 (h.alloc b a).grown c (by simp;omega) (fun k d=>(e.lt k d).1)
theorem H5{B:Nat}{w2:World}{l:Value}{acc:List ByteArray}{x:ByteArray}(h:w2.ownsRow B 9 1 l (acc.length+1) (acc.map Value.string++[.string x])):w2.ownsRow B 9 1 l (acc++[x]).length ((acc++[x]).map Value.string):=by
 simpa using h
def Ha(a:List ByteArray)(w:World)(e:Ending)(w':World):Prop:=
 ∃v,e=.returned v/\w'.ownsRow w.heap.size 9 1 v a.length (a.map Value.string)/\Below w.heap.size w w'
theorem Ha.mk{a:List ByteArray}{w w':World}{v:Value}(acc:List ByteArray)(h:a=acc)(b:w'.ownsRow w.heap.size 9 1 v acc.length (acc.map Value.string))(hb:Below w.heap.size w w'):Ha a w (.returned v) w':=by
 subst h;exact⟨v,rfl,b,hb⟩
theorem Kb(s:ByteArray)(n:Int)(h:Lib.indexByte s.data.toList 59=n)(w:World):Calls prog 227 #[.string s,.int .u8 59] w (IN .i64 n w):=
 (ba s 59 w).mono fun e w' ⟨a,b⟩=>⟨by rw[a,<-h];rfl,b.symm⟩
theorem GF(s:ByteArray)(W:s.size<=65536)(w:World):Calls prog 185 #[.string s] w (Ha (Ge s) w):=by
 obtain⟨J,E,G,H,I⟩:=info_parts Q6;have U:=Z E;by_cases B:0<=Lib.indexByte s.data.toList 59
 ·obtain⟨n,F⟩:=Int.eq_ofNat_of_zero_le B
  have hle:=Q5 s.data.toList 59;have V:n<=s.size:=by rw[F]at hle;have:s.data.toList.length=s.size:=(by simp);omega
  have D:=Kb s n F;have A:=Z D;have z:Hid (Hs s=s.extract 0 n):=by show _=_;unfold Hs;rw[if_pos B,F];rfl
  clear B hle D F;go_enter func185,ntmps185
  go_wp2_with (go_at_call 227;refine(A.out _).mono ?_;rintro e w' ⟨rfl,rfl⟩)
  have N:(s.extract 0 n).size<=s.size:=by simp;omega
  generalize P:s.extract 0 n=t at*;have K:Hid (p2 t (t.size+1-0) 0 0=Ge s):=by show _=_;unfold Ge;rw[z.out];rfl
  clear P z A;go_loopw [4,5,6] (fun l at_ i wr=>∃(k a:Nat) (acc:List ByteArray),k<=t.size+1/\a<=k/\at_=.int .i64 a/\i=.int .i64 k/\acc.length<=k/\wr.ownsRow w.heap.size 9 1 l acc.length (acc.map Value.string)/\Below w.heap.size w wr/\Hid (acc++p2 t (t.size+1-k) k a=Ge s)) (fun _ _ i _=>t.size+1-(intOf i).toNat)
  case atStart=>exact⟨0,0,[],by omega,by omega,rfl,rfl,by simp,World.ownsRow_nil _ _ _ _,Below.refl _ _,K.out⟩
  case round=>
   obtain⟨k,a,acc,S,Q,rfl,rfl,R,c,d,f⟩:=hrel;have T:=d.size;by_cases g:k<t.size
   ·by_cases x:((t[k].toNat:Int) !=32)=true
    ·have b:Hid (p2 t (t.size+1-k) k a=p2 t (t.size+1-(k+1)) (k+1) a):=by
      show _=_
      rw[show t.size+1-k=(t.size+1-(k+1))+1 from by omega,p2,if_pos ⟨g,by rw[<-kT t k g];simpa using x⟩]
     go_wp2
     go_roundw
     case rel=>exact⟨k+1,a,acc,by omega,by omega,rfl,by go_num,by omega,c,d,by show _=_;rw[<-b.out];exact f.out⟩
     case measure=>simp[intOf];omega
    ·have r:((t[k].toNat:Int) !=32)=false:=by simpa using x
     clear x;by_cases m:a<k
     ·have b:Hid (p2 t (t.size+1-k) k a=t.extract a k::p2 t (t.size+1-(k+1)) (k+1) (k+1)):=by
       show _=_
       rw[show t.size+1-k=(t.size+1-(k+1))+1 from by omega,p2,if_neg (by rw[<-kT t k g];simp at r;simp[r]),if_pos m]
      go_wp2_with (at_builtin;refine wpList_append_own _ rfl _ _ 190 rfl w.heap.size 9 J (.string ByteArray.empty) 1 16 underlying190 E G H I rfl (by decide) _ _ _ rfl (c.alloc _) ⟨wr.heap.size,0,none⟩ 1 1 [.string (t.extract a k)] rfl rfl ?c1A1 ?c2A1 ?c3A1 ?c4A1 ?c5A1 ?_)
      case c1A1=>
       intro j u hj
       match j,hj with
       |0,hj=>simp at hj;subst hj;simp[Addr.add]
      case c2A1=>first|rfl|(intro u q;simp at q;subst q;rfl)
      case c3A1=>unfold maxLen;omega
      case c4A1=>omega
      case c5A1=>simp;omega
      intro L w2 p o _;have v:=Hg d c o;have y:=H5 p;clear p o c d;go_wp2
      go_roundw
      case rel=>exact⟨k+1,k+1,acc++[t.extract a k],by omega,by omega,by go_num,by go_num,by simp;omega,y,v,by show _=_;rw[List.append_assoc,List.singleton_append,<-b.out];exact f.out⟩
      case measure=>simp[intOf];omega
     ·have b:Hid (p2 t (t.size+1-k) k a=p2 t (t.size+1-(k+1)) (k+1) (k+1)):=by
       show _=_
       rw[show t.size+1-k=(t.size+1-(k+1))+1 from by omega,p2,if_neg (by rw[<-kT t k g];simp at r;simp[r]),if_neg m]
      go_wp2
      go_roundw
      case rel=>exact⟨k+1,k+1,acc,by omega,by omega,by go_num,by go_num,by omega,c,d,by show _=_;rw[<-b.out];exact f.out⟩
      case measure=>simp[intOf];omega
   ·by_cases hle:k<=t.size
    ·by_cases m:a<k
     ·have b:Hid (p2 t (t.size+1-k) k a=t.extract a k::p2 t (t.size+1-(k+1)) (k+1) (k+1)):=by
       show _=_
       rw[show t.size+1-k=(t.size+1-(k+1))+1 from by omega,p2,if_neg (by intro h;exact g h.1),if_pos m]
      go_wp2_with (at_builtin;refine wpList_append_own _ rfl _ _ 190 rfl w.heap.size 9 J (.string ByteArray.empty) 1 16 underlying190 E G H I rfl (by decide) _ _ _ rfl (c.alloc _) ⟨wr.heap.size,0,none⟩ 1 1 [.string (t.extract a k)] rfl rfl ?c1A2 ?c2A2 ?c3A2 ?c4A2 ?c5A2 ?_)
      case c1A2=>
       intro j u hj
       match j,hj with
       |0,hj=>simp at hj;subst hj;simp[Addr.add]
      case c2A2=>first|rfl|(intro u q;simp at q;subst q;rfl)
      case c3A2=>unfold maxLen;omega
      case c4A2=>omega
      case c5A2=>simp;omega
      intro L w2 p o _;have v:=Hg d c o;have y:=H5 p;clear p o c d;go_wp2
      go_roundw
      case rel=>exact⟨k+1,k+1,acc++[t.extract a k],by omega,by omega,by go_num,by go_num,by simp;omega,y,v,by show _=_;rw[List.append_assoc,List.singleton_append,<-b.out];exact f.out⟩
      case measure=>simp[intOf];omega
     ·have b:Hid (p2 t (t.size+1-k) k a=p2 t (t.size+1-(k+1)) (k+1) (k+1)):=by
       show _=_
       rw[show t.size+1-k=(t.size+1-(k+1))+1 from by omega,p2,if_neg (by intro h;exact g h.1),if_neg m]
      go_wp2
      go_roundw
      case rel=>exact⟨k+1,k+1,acc,by omega,by omega,by go_num,by go_num,by omega,c,d,by show _=_;rw[<-b.out];exact f.out⟩
      case measure=>simp[intOf];omega
    ·have b:Hid (p2 t (t.size+1-k) k a=[]):=by
      show _=_
      rw[show t.size+1-k=0 from by omega,p2]
     go_wp2
     go_ret;exact Ha.mk acc (by have C:=f.out;rw[b.out,List.append_nil]at C;exact C.symm) c d
 ·have M:Lib.indexByte s.data.toList 59=-1:=by have:=Lib.indexByte_ge s.data.toList 59;omega
  have D:=Kb s (-1) M;have A:=Z D;have z:Hid (Hs s=s):=by show _=_;unfold Hs;rw[if_neg B]
  clear B M D;go_enter func185,ntmps185
  go_wp2_with (go_at_call 227;refine(A.out _).mono ?_;rintro e w' ⟨rfl,rfl⟩)
  obtain⟨t,N,O⟩:∃t:ByteArray,t=s/\Hid (Hs s=t):=⟨s,rfl,z⟩;have K:Hid (p2 s (s.size+1-0) 0 0=Ge s):=by show _=_;unfold Ge;rw[z.out];rfl
  clear z A O N t;go_loopw [4,5,6] (fun l at_ i wr=>∃(k a:Nat) (acc:List ByteArray),k<=s.size+1/\a<=k/\at_=.int .i64 a/\i=.int .i64 k/\acc.length<=k/\wr.ownsRow w.heap.size 9 1 l acc.length (acc.map Value.string)/\Below w.heap.size w wr/\Hid (acc++p2 s (s.size+1-k) k a=Ge s)) (fun _ _ i _=>s.size+1-(intOf i).toNat)
  case atStart=>exact⟨0,0,[],by omega,by omega,rfl,rfl,by simp,World.ownsRow_nil _ _ _ _,Below.refl _ _,K.out⟩
  case round=>
   obtain⟨k,a,acc,S,Q,rfl,rfl,R,c,d,f⟩:=hrel;have T:=d.size;by_cases g:k<s.size
   ·by_cases x:((s[k].toNat:Int) !=32)=true
    ·have b:Hid (p2 s (s.size+1-k) k a=p2 s (s.size+1-(k+1)) (k+1) a):=by
      show _=_
      rw[show s.size+1-k=(s.size+1-(k+1))+1 from by omega,p2,if_pos ⟨g,by rw[<-kT s k g];simpa using x⟩]
     go_wp2
     go_roundw
     case rel=>exact⟨k+1,a,acc,by omega,by omega,rfl,by go_num,by omega,c,d,by show _=_;rw[<-b.out];exact f.out⟩
     case measure=>simp[intOf];omega
    ·have r:((s[k].toNat:Int) !=32)=false:=by simpa using x
     clear x;by_cases m:a<k
     ·have b:Hid (p2 s (s.size+1-k) k a=s.extract a k::p2 s (s.size+1-(k+1)) (k+1) (k+1)):=by
       show _=_
       rw[show s.size+1-k=(s.size+1-(k+1))+1 from by omega,p2,if_neg (by rw[<-kT s k g];simp at r;simp[r]),if_pos m]
      go_wp2_with (at_builtin;refine wpList_append_own _ rfl _ _ 190 rfl w.heap.size 9 J (.string ByteArray.empty) 1 16 underlying190 E G H I rfl (by decide) _ _ _ rfl (c.alloc _) ⟨wr.heap.size,0,none⟩ 1 1 [.string (s.extract a k)] rfl rfl ?c1B1 ?c2B1 ?c3B1 ?c4B1 ?c5B1 ?_)
      case c1B1=>
       intro j u hj
       match j,hj with
       |0,hj=>simp at hj;subst hj;simp[Addr.add]
      case c2B1=>first|rfl|(intro u q;simp at q;subst q;rfl)
      case c3B1=>unfold maxLen;omega
      case c4B1=>omega
      case c5B1=>simp;omega
      intro L w2 p o _;have v:=Hg d c o;have y:=H5 p;clear p o c d;go_wp2
      go_roundw
      case rel=>exact⟨k+1,k+1,acc++[s.extract a k],by omega,by omega,by go_num,by go_num,by simp;omega,y,v,by show _=_;rw[List.append_assoc,List.singleton_append,<-b.out];exact f.out⟩
      case measure=>simp[intOf];omega
     ·have b:Hid (p2 s (s.size+1-k) k a=p2 s (s.size+1-(k+1)) (k+1) (k+1)):=by
       show _=_
       rw[show s.size+1-k=(s.size+1-(k+1))+1 from by omega,p2,if_neg (by rw[<-kT s k g];simp at r;simp[r]),if_neg m]
      go_wp2
      go_roundw
      case rel=>exact⟨k+1,k+1,acc,by omega,by omega,by go_num,by go_num,by omega,c,d,by show _=_;rw[<-b.out];exact f.out⟩
      case measure=>simp[intOf];omega
   ·by_cases hle:k<=s.size
    ·by_cases m:a<k
     ·have b:Hid (p2 s (s.size+1-k) k a=s.extract a k::p2 s (s.size+1-(k+1)) (k+1) (k+1)):=by
       show _=_
       rw[show s.size+1-k=(s.size+1-(k+1))+1 from by omega,p2,if_neg (by intro h;exact g h.1),if_pos m]
      go_wp2_with (at_builtin;refine wpList_append_own _ rfl _ _ 190 rfl w.heap.size 9 J (.string ByteArray.empty) 1 16 underlying190 E G H I rfl (by decide) _ _ _ rfl (c.alloc _) ⟨wr.heap.size,0,none⟩ 1 1 [.string (s.extract a k)] rfl rfl ?c1B2 ?c2B2 ?c3B2 ?c4B2 ?c5B2 ?_)
      case c1B2=>
       intro j u hj
       match j,hj with
       |0,hj=>simp at hj;subst hj;simp[Addr.add]
      case c2B2=>first|rfl|(intro u q;simp at q;subst q;rfl)
      case c3B2=>unfold maxLen;omega
      case c4B2=>omega
      case c5B2=>simp;omega
      intro L w2 p o _;have v:=Hg d c o;have y:=H5 p;clear p o c d;go_wp2
      go_roundw
      case rel=>exact⟨k+1,k+1,acc++[s.extract a k],by omega,by omega,by go_num,by go_num,by simp;omega,y,v,by show _=_;rw[List.append_assoc,List.singleton_append,<-b.out];exact f.out⟩
      case measure=>simp[intOf];omega
     ·have b:Hid (p2 s (s.size+1-k) k a=p2 s (s.size+1-(k+1)) (k+1) (k+1)):=by
       show _=_
       rw[show s.size+1-k=(s.size+1-(k+1))+1 from by omega,p2,if_neg (by intro h;exact g h.1),if_neg m]
      go_wp2
      go_roundw
      case rel=>exact⟨k+1,k+1,acc,by omega,by omega,by go_num,by go_num,by omega,c,d,by show _=_;rw[<-b.out];exact f.out⟩
      case measure=>simp[intOf];omega
    ·have b:Hid (p2 s (s.size+1-k) k a=[]):=by
      show _=_
      rw[show s.size+1-k=0 from by omega,p2]
     go_wp2
     go_ret;exact Ha.mk acc (by have C:=f.out;rw[b.out,List.append_nil]at C;exact C.symm) c d
def Ix(s:ByteArray):Bool:=decide ((s.size:Int)<2∨Fz s 0≠91∨Fz s (s.size-1)≠93)
def HJ(X:aV):Except Int Int->Except Bool aV
 |.ok v=> .ok {X with v:=v}
 |.error _=> .error false
def plusV(t:ByteArray):Int:=Lib.indexByte t.data.toList 43
def JG(X:aV)(t:ByteArray):Except Bool aV:=
 if(GQ t).2 then .ok {X with b:=(GQ t).1}
 else if 0<=plusV t then
  (if(GQ (t.extract 0 (plusV t).toNat)).2 then HJ {X with b:=(GQ (t.extract 0 (plusV t).toNat)).1} (FG (t.extract ((plusV t).toNat+1) t.size))else .error true)
 else HJ {X with b:=-1} (FG t)
def Gl(X:aV)(s:ByteArray):Except Bool aV:=
 if Ix s then .error true else JG X (s.extract 1 (s.size-1))
theorem Jk(s:ByteArray)(n:Int)(h:plusV s=n)(w:World):Calls prog 227 #[.string s,.int .u8 43] w (IN .i64 n w):=
 (ba s 43 w).mono fun e w' ⟨a,b⟩=>⟨by rw[a,<-h];rfl,b.symm⟩
theorem GX(s:ByteArray)(a:s.size<=maxLen)(n:Int)(b:Bool)(h:GQ s=(n,b))(w:World):Calls prog 228 #[.string s] w (HP .i64 (n,b) w):=by
 rw[<-h];exact H0 s a w
theorem Kc(s:ByteArray)(Y:s.size<=65536)(line:Int)(m:Nat)(X:aV)(w:World)(i:re w m X):
 Calls prog 230 #[.pointer (some ⟨m,0,none⟩),.string s,.int .i64 line] w (B1 (Gl X s) m line w):=by
 have T:w.cell? ⟨m,2,none⟩=some (.int .i64 X.b):=i.cell 2;have U:w.cell? ⟨m,4,none⟩=some (.int .u64 X.v):=i.cell 4;have f2:=i.free 2;have f4:=i.free 4;have V:=i.lt;have D:=Z i;clear i;by_cases hb:Ix s=true
 ·have a:Hid (Gl X s=.error true):=by show _=_;unfold Gl;rw[if_pos hb]
  unfold Ix at hb
  replace hb:=of_decide_eq_true hb
  have J:=Z hb;clear hb;go_enter func230,ntmps230
  go_wp2_with (go_at_call 142;refine(FD _ _ _ _).mono ?_;rintro e w' ⟨rfl,rfl⟩)
  all_goals first
   |(go_ret;exact B1.text a.out (by simp) (hb w _))
   |(exfalso;have hb:=J.out;simp only[kT,bne_eq_false_iff_eq]at*;omega)
 ·have G:Hid (∀t,s.extract 1 (s.size-1)=t->Gl X s=JG X t):=by
   intro t h;subst h;unfold Gl;rw[if_neg hb]
  unfold Ix at hb;simp only[decide_eq_true_eq]at hb;have a3:2<=s.size:=by omega
  have a1:0<s.size:=by omega
  have a2:s.size-1<s.size:=by omega
  have L:((s[0].toNat:Int) !=91)=false:=by rw[kT,bne_eq_false_iff_eq];omega
  have M:((s[s.size-1].toNat:Int) !=93)=false:=by rw[kT,bne_eq_false_iff_eq];omega
  clear hb;go_enter func230,ntmps230
  go_wp2_with fail
  have a0:(s.extract 1 (s.size-1)).size<=65536:=by simp;omega
  generalize O:s.extract 1 (s.size-1)=t at*;have C:=Z (G.out t rfl);clear G O L M;have g:t.size<=maxLen:=by unfold maxLen;omega
  rcases k:GQ t with⟨n,b⟩
  cases b
  ·have x:=Z (GX t g n false k)
   have u:Hid (Gl X s=if 0<=plusV t then
    (if(GQ (t.extract 0 (plusV t).toNat)).2 then HJ {X with b:=(GQ (t.extract 0 (plusV t).toNat)).1} (FG (t.extract ((plusV t).toNat+1) t.size))else .error true)
    else HJ {X with b:=-1} (FG t)):=by
    show _=_;rw[C.out];unfold JG;rw[k];rfl
   clear k C;refine(x.out _).mono ?_;rintro e w' ⟨rfl,rfl⟩;clear x;by_cases o:0<=plusV t
   ·obtain⟨q,p⟩:=Int.eq_ofNat_of_zero_le o
    have W:q<t.size:=by
     rcases OR t.data.toList 43 with h|h
     ·have:Lib.indexByte t.data.toList 43=q:=p
      rw[this]at h;simp at h;exact h
     ·exfalso;have:Lib.indexByte t.data.toList 43=q:=p
      rw[h]at this;simp[Lib.indexByte]at this
    have l:=Z (Jk t q p);have d:Hid (Gl X s=if(GQ (t.extract 0 q)).2 then HJ {X with b:=(GQ (t.extract 0 q)).1} (FG (t.extract (q+1) t.size))else .error true):=by
     show _=_;rw[u.out,if_pos o,p];rfl
    clear p o u;go_wp2_with (go_at_call 227;refine(l.out _).mono ?_;rintro e w' ⟨rfl,rfl⟩)
    clear l;have R:(t.extract 0 q).size<=maxLen:=(by unfold maxLen;simp;omega);have S:(t.extract (q+1) t.size).size<=maxLen:=(by unfold maxLen;simp;omega);generalize P:t.extract 0 q=y at*;generalize E:t.extract (q+1) t.size=z at*;clear P;rcases r:GQ y with⟨A,H⟩
    have B:=Z (GX y R A H r);cases H
    ·have a:Hid (Gl X s=.error true):=by show _=_;rw[d.out,r];rfl
     clear r d E;refine(B.out _).mono ?_;rintro e w' ⟨rfl,rfl⟩;go_wp2_with (go_at_call 142;refine(FD _ _ _ _).mono ?_;rintro e w' ⟨rfl,rfl⟩)
     go_ret;exact B1.text a.out (by simp) (p1 (p1 (hb w _) _ _) _ _)
    ·have F:Hid (Gl X s=HJ {X with b:=A} (FG z)):=by show _=_;rw[d.out,r];rfl
     clear r d;have K:=Z E;clear E;refine(B.out _).mono ?_;rintro e w' ⟨rfl,rfl⟩;clear B;go_wp2_with fail
     rw[K.out];have g:=S;rcases c:FG z with j|v
     ·have a:Hid (Gl X s=.error false):=by show _=_;rw[F.out,c];rfl
      have f:=Z (Gs z g j c);clear c;refine(f.out _ _).mono ?_;rintro e w' ⟨rfl,rfl⟩;go_wp2
      go_ret;exact B1.num a.out (by simp) (by repeat(first|exact hb _ _|refine p1 ?_ _ _|refine FY ?_ _))
     ·have a:Hid (Gl X s=.ok {({X with b:=A}:aV)with v:=v}):=by show _=_;rw[F.out,c];rfl
      have f:=Z (Gq z g v c);clear c;refine(f.out _ _).mono ?_;rintro e w' ⟨rfl,N,Q,rfl⟩;go_wp2
      go_ret;exact B1.Hn _ a.out (((D.out.n3 (-1)).n3 A).mi v) (p1 (p1 (p1 (hb w _) _ _) _ _) _ _)
   ·have I:plusV t=-1:=by have:=Lib.indexByte_ge t.data.toList 43;unfold plusV at*;omega
    have l:=Z (Jk t (-1) I);have d:Hid (Gl X s=HJ {X with b:=-1} (FG t)):=by
     show _=_;rw[u.out,if_neg o]
    clear I o u;go_wp2_with (go_at_call 227;refine(l.out _).mono ?_;rintro e w' ⟨rfl,rfl⟩)
    clear l;rcases c:FG t with j|v
    ·have a:Hid (Gl X s=.error false):=by show _=_;rw[d.out,c];rfl
     have f:=Z (Gs t g j c);clear c;refine(f.out _ _).mono ?_;rintro e w' ⟨rfl,rfl⟩;go_wp2
     go_ret;exact B1.num a.out (by simp) (by repeat(first|exact hb _ _|refine p1 ?_ _ _|refine FY ?_ _))
    ·have a:Hid (Gl X s=.ok {({X with b:=-1}:aV)with v:=v}):=by show _=_;rw[d.out,c];rfl
     have f:=Z (Gq t g v c);clear c;refine(f.out _ _).mono ?_;rintro e w' ⟨rfl,N,Q,rfl⟩;go_wp2
     go_ret;exact B1.Hn _ a.out ((D.out.n3 (-1)).mi v) (p1 (p1 (hb w _) _ _) _ _)
  ·have x:=Z (GX t g n true k)
   have a:Hid (Gl X s=.ok {X with b:=n}):=(by show _=_;rw[C.out];unfold JG;rw[k];rfl);clear k;refine(x.out _).mono ?_;rintro e w' ⟨rfl,rfl⟩;go_wp2
   go_ret;exact B1.Hn _ a.out (D.out.n3 n) (p1 (hb w _) _ _)
end Go.Proofs.YtlihkblppjgebaaGreatDoor
