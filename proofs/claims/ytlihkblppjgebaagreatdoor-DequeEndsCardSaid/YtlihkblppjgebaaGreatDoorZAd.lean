import Derived.Test.YtlihkblppjgebaaGreatDoorZAa
set_option linter.all false
set_option maxRecDepth 100000
set_option maxHeartbeats 8000000
namespace Go.Proofs.YtlihkblppjgebaaGreatDoor
open Go.RowKit Go.Proofs.Tryz
def gT(width v:Int):Int:=if width=32 then bits .and .u64 v 4294967295 else if width=64 then v else 0
theorem cj(v:Int):aH (IntKind.u64.wrap v):=by
 unfold aH IntKind.wrap IntKind.bits IntKind.signed;simp;omega
theorem iN(c:BinOp)(a b:Int):aH (bits c .u64 a b):=by
 unfold bits;split<;>exact cj _
theorem hX(n v:Int)(h:aH v):aH (gT n v):=by
 unfold gT;split
 ·exact iN _ _ _
 ·split
  ·exact h
  ·exact⟨by omega,by omega⟩
theorem j8(n v:Int)(w:World):Calls prog 160 #[.int .i64 n,.int .u64 v] w (d' (.int .u64 (gT n v)) w):=by
 by_cases a:n=32
 ·subst a
  go_enter func160,ntmps160
  go_wp2
  go_ret;exact d'.mk rfl
 ·by_cases b:n=64
  ·subst b
   go_enter func160,ntmps160
   go_wp2
   go_ret;exact d'.mk rfl
  ·have c:(n==32)=false:=by simpa using a
   have d:(n==64)=false:=(by simpa using b);have E:Hid (gT n v=0):=(by unfold gT;rw[if_neg a,if_neg b];rfl);go_enter func160,ntmps160
   go_wp2
   go_ret;exact d'.mk (by rw[E.out];rfl)
def sQ(n a b:Int):Int:=gT n (IntKind.u64.wrap (gT n a+gT n b))
def xO(n a b:Int):Int:=gT n (IntKind.u64.wrap (gT n a-gT n b))
theorem mD(n a b:Int):aH (sQ n a b):=hX _ _ (cj _)
theorem xP(n a b:Int):aH (xO n a b):=hX _ _ (cj _)
theorem pH(n a b:Int)(w:World):Calls prog 159 #[.int .i64 n,.int .u64 a,.int .u64 b] w (d' (.int .u64 (sQ n a b)) w):=by
 go_enter func159,ntmps159
 go_wp2_with (go_at_call 160;refine(j8 _ _ _).mono ?_;rintro e w' ⟨rfl,rfl⟩)
 go_ret;exact d'.mk rfl
theorem xQ(n a b:Int)(w:World):Calls prog 219 #[.int .i64 n,.int .u64 a,.int .u64 b] w (d' (.int .u64 (xO n a b)) w):=by
 go_enter func219,ntmps219
 go_wp2_with (go_at_call 160;refine(j8 _ _ _).mono ?_;rintro e w' ⟨rfl,rfl⟩)
 go_ret;exact d'.mk rfl
def qR(a b:Int):Bool:=bits .and .u64 a b !=0
def bc(a n:Int):Int:=IntKind.u64.wrap (a*11400714819323198485)/4294967296%n
theorem k6(a:Int)(n:Nat)(h:1<=n):0<=bc a n/\bc a n<n:=by
 unfold bc;exact⟨Int.emod_nonneg _ (by omega),Int.emod_lt_of_pos _ (by omega)⟩
theorem bucket_eq(a:Int)(n:Nat)(h:1<=n)(b:n<=64):wrap64 ((IntKind.u64.wrap (a*11400714819323198485)/4294967296).tmod n)=bc a n:=by
 have c:=(cj (a*11400714819323198485)).lo;have hb:=k6 a n h;unfold bc at hb⊢;rw[Int.tmod_eq_emod_of_nonneg (by omega)];exact IntWalk.wrap64_in _ (by omega)
theorem mV(a:Int)(n:Nat)(h:1<=n)(b:n<=64)(w:World):Calls prog 141 #[.int .u64 a,.int .i64 n] w (d' (.int .i64 (bc a n)) w):=by
 have E:=Z (bucket_eq a n h b);go_enter func141,ntmps141
 go_wp2
 go_ret;refine d'.mk ?_;rw[<-E.out];rfl
instance{w:World}{a0:Addr}{v0:Value}:CoeOut (w.cell? a0=some v0) (World->Prop):=⟨fun _ u=>u.cell? a0=some v0⟩
instance{w:World}{a0 a1:Addr}{v0 v1:Value}:CoeOut (w.cell? a0=some v0/\w.cell? a1=some v1) (World->Prop):=⟨fun _ u=>u.cell? a0=some v0/\u.cell? a1=some v1⟩
instance{w:World}{a0 a1 a2:Addr}{v0 v1 v2:Value}:CoeOut (w.cell? a0=some v0/\w.cell? a1=some v1/\w.cell? a2=some v2) (World->Prop):=⟨fun _ u=>u.cell? a0=some v0/\u.cell? a1=some v1/\u.cell? a2=some v2⟩
instance{w:World}{a0 a1 a2 a3:Addr}{v0 v1 v2 v3:Value}:CoeOut (w.cell? a0=some v0/\w.cell? a1=some v1/\w.cell? a2=some v2/\w.cell? a3=some v3) (World->Prop):=⟨fun _ u=>u.cell? a0=some v0/\u.cell? a1=some v1/\u.cell? a2=some v2/\u.cell? a3=some v3⟩
instance{w:World}{a0 a1 a2 a3 a4:Addr}{v0 v1 v2 v3 v4:Value}:CoeOut (w.cell? a0=some v0/\w.cell? a1=some v1/\w.cell? a2=some v2/\w.cell? a3=some v3/\w.cell? a4=some v4) (World->Prop):=⟨fun _ u=>u.cell? a0=some v0/\u.cell? a1=some v1/\u.cell? a2=some v2/\u.cell? a3=some v3/\u.cell? a4=some v4⟩
instance{w:World}{a0 a1 a2 a3 a4 a5:Addr}{v0 v1 v2 v3 v4 v5:Value}:CoeOut (w.cell? a0=some v0/\w.cell? a1=some v1/\w.cell? a2=some v2/\w.cell? a3=some v3/\w.cell? a4=some v4/\w.cell? a5=some v5) (World->Prop):=⟨fun _ u=>u.cell? a0=some v0/\u.cell? a1=some v1/\u.cell? a2=some v2/\u.cell? a3=some v3/\u.cell? a4=some v4/\u.cell? a5=some v5⟩
instance{w:World}{a0 a1 a2 a3 a4 a5 a6:Addr}{v0 v1 v2 v3 v4 v5 v6:Value}:CoeOut (w.cell? a0=some v0/\w.cell? a1=some v1/\w.cell? a2=some v2/\w.cell? a3=some v3/\w.cell? a4=some v4/\w.cell? a5=some v5/\w.cell? a6=some v6) (World->Prop):=⟨fun _ u=>u.cell? a0=some v0/\u.cell? a1=some v1/\u.cell? a2=some v2/\u.cell? a3=some v3/\u.cell? a4=some v4/\u.cell? a5=some v5/\u.cell? a6=some v6⟩
end Go.Proofs.YtlihkblppjgebaaGreatDoor
