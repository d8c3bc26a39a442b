import Derived.Test.YtmfnplmcfkkdpaaGreatDoorZAa
set_option linter.all false
set_option maxRecDepth 100000
set_option maxHeartbeats 0
namespace Go.Proofs.YtmfnplmcfkkdpaaGreatDoor
open Go.RowKit Go.Proofs.Tryz
def hk(width v:Int):Int:=if width=32 then bits .and .u64 v 4294967295 else if width=64 then v else 0
theorem bO(v:Int):aK (IntKind.u64.wrap v):=by
 unfold aK IntKind.wrap IntKind.bits IntKind.signed;simp;omega
theorem jh(o:BinOp)(a b:Int):aK (bits o .u64 a b):=by
 unfold bits;split<;>exact bO _
theorem iF(n v:Int)(h:aK v):aK (hk n v):=by
 unfold hk;split
 ·exact jh _ _ _
 ·split
  ·exact h
  ·exact⟨by omega,by omega⟩
theorem ky(n v:Int)(w:World):Calls prog 113 #[n,.int .u64 v] w (ez (.int .u64 (hk n v)) w):=by
 by_cases a:n=32
 ·subst a
  go_wp2
  go_ret;exact ez.mk rfl
 ·by_cases b:n=64
  ·subst b
   go_wp2
   go_ret;exact ez.mk rfl
  ·have c:(n==32)=false:=by simpa using a
   have d:(n==64)=false:=(by simpa using b);have E:Hid (hk n v=0):=(by unfold hk;rw[if_neg a,if_neg b];rfl);go_wp2
   go_ret;exact ez.mk (by rw[E];rfl)
def tV(n a b:Int):Int:=hk n (IntKind.u64.wrap (hk n a+hk n b))
def zc(n a b:Int):Int:=hk n (IntKind.u64.wrap (hk n a-hk n b))
theorem m9(n a b:Int):aK (tV n a b):=iF _ _ (bO _)
theorem zd(n a b:Int):aK (zc n a b):=iF _ _ (bO _)
theorem qf(n a b:Int)(w:World):Calls prog 112 #[n,.int .u64 a,.int .u64 b] w (ez (.int .u64 (tV n a b)) w):=by
 go_in
 go_wp2_with (go_at_call 113;refine(ky _ _ _).mono ?_;rintro e w' ⟨rfl,rfl⟩)
 go_ret;exact ez.mk rfl
theorem ze(n a b:Int)(w:World):Calls prog 194 #[n,.int .u64 a,.int .u64 b] w (ez (.int .u64 (zc n a b)) w):=by
 go_in
 go_wp2_with (go_at_call 113;refine(ky _ _ _).mono ?_;rintro e w' ⟨rfl,rfl⟩)
 go_ret;exact ez.mk rfl
def rD(a b:Int):Bool:=bits .and .u64 a b !=0
theorem rE(a b:Int)(w:World):Calls prog 226 #[.int .u64 a,.int .u64 b] w (ez (.bool (rD a b)) w):=by
 go_wp2
 go_ret;exact ez.mk rfl
def bg(a n:Int):Int:=IntKind.u64.wrap (a*11400714819323198485)/4294967296%n
theorem lD(a:Int)(n:Nat)(h:1<=n):0<=bg a n/\bg a n<n:=by
 unfold bg;exact⟨Int.emod_nonneg _ (by omega),Int.emod_lt_of_pos _ (by omega)⟩
theorem bucket_eq(a:Int)(n:Nat)(h:1<=n)(b:n<=64):wrap64 ((IntKind.u64.wrap (a*11400714819323198485)/4294967296).tmod n)=bg a n:=by
 have c:=(bO (a*11400714819323198485)).lo;have hb:=lD a n h;unfold bg at hb⊢;rw[Int.tmod_eq_emod_of_nonneg (by omega)];exact IntWalk.wrap64_in _ (by omega)
theorem nv(a:Int)(n:Nat)(h:1<=n)(b:n<=64)(w:World):Calls prog 157 #[.int .u64 a,.int .i64 n] w (ez (.int .i64 (bg a n)) w):=by
 have E:=Z (bucket_eq a n h b);go_wp2
 go_ret;refine ez.mk ?_;rw[<-E];rfl
instance{w:World}{a0:Addr}{v0:Value}:CoeOut (w.cell? a0=some v0) (World->Prop):=⟨fun _ u=>u.cell? a0=some v0⟩
instance{w:World}{a0 a1:Addr}{v0 v1:Value}:CoeOut (w.cell? a0=some v0/\w.cell? a1=some v1) (World->Prop):=⟨fun _ u=>u.cell? a0=some v0/\u.cell? a1=some v1⟩
instance{w:World}{a0 a1 a2:Addr}{v0 v1 v2:Value}:CoeOut (w.cell? a0=some v0/\w.cell? a1=some v1/\w.cell? a2=some v2) (World->Prop):=⟨fun _ u=>u.cell? a0=some v0/\u.cell? a1=some v1/\u.cell? a2=some v2⟩
instance{w:World}{a0 a1 a2 a3:Addr}{v0 v1 v2 v3:Value}:CoeOut (w.cell? a0=some v0/\w.cell? a1=some v1/\w.cell? a2=some v2/\w.cell? a3=some v3) (World->Prop):=⟨fun _ u=>u.cell? a0=some v0/\u.cell? a1=some v1/\u.cell? a2=some v2/\u.cell? a3=some v3⟩
instance{w:World}{a0 a1 a2 a3 a4:Addr}{v0 v1 v2 v3 v4:Value}:CoeOut (w.cell? a0=some v0/\w.cell? a1=some v1/\w.cell? a2=some v2/\w.cell? a3=some v3/\w.cell? a4=some v4) (World->Prop):=⟨fun _ u=>u.cell? a0=some v0/\u.cell? a1=some v1/\u.cell? a2=some v2/\u.cell? a3=some v3/\u.cell? a4=some v4⟩
instance{w:World}{a0 a1 a2 a3 a4 a5:Addr}{v0 v1 v2 v3 v4 v5:Value}:CoeOut (w.cell? a0=some v0/\w.cell? a1=some v1/\w.cell? a2=some v2/\w.cell? a3=some v3/\w.cell? a4=some v4/\w.cell? a5=some v5) (World->Prop):=⟨fun _ u=>u.cell? a0=some v0/\u.cell? a1=some v1/\u.cell? a2=some v2/\u.cell? a3=some v3/\u.cell? a4=some v4/\u.cell? a5=some v5⟩
instance{w:World}{a0 a1 a2 a3 a4 a5 a6:Addr}{v0 v1 v2 v3 v4 v5 v6:Value}:CoeOut (w.cell? a0=some v0/\w.cell? a1=some v1/\w.cell? a2=some v2/\w.cell? a3=some v3/\w.cell? a4=some v4/\w.cell? a5=some v5/\w.cell? a6=some v6) (World->Prop):=⟨fun _ u=>u.cell? a0=some v0/\u.cell? a1=some v1/\u.cell? a2=some v2/\u.cell? a3=some v3/\u.cell? a4=some v4/\u.cell? a5=some v5/\u.cell? a6=some v6⟩
