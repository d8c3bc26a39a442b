import Derived.Test.YtlihkblppjgebaaGreatDoorZAo
set_option linter.all false
set_option maxRecDepth 100000
set_option maxHeartbeats 8000000
namespace Go.Proofs.YtlihkblppjgebaaGreatDoor
open Go.RowKit Go.Proofs.Tryz
def Kh(c:UInt8):List (List UInt8)->List (List UInt8)
 |[]=>[[c]]
 |x::a=>(c::x)::a
def G':List UInt8->List (List UInt8)
 |[]=>[[]]
 |c::l=>if c=10 then []::G' l else Kh c (G' l)
theorem M5(c:UInt8)(l:List UInt8):Lib.index (c::l) [10]=if c=10 then 0 else if Lib.index l [10]=-1 then-1 else Lib.index l [10]+1:=by
 by_cases h:c=10
 ·subst h;simp[Lib.index]
 ·have a:¬(10:UInt8)=c:=fun e=>h e.symm
  simp[Lib.index,h,a,List.isPrefixOf]
theorem Ki:∀l:List UInt8,Lib.splitK [10] 0 (Lib.count l [10]) l=G' l
 |[]=>rfl
 |c::l=>by
  have ih:=Ki l;have a:=M5 c l;by_cases h:c=10
  ·rw[if_pos h]at a
   rw[Lib.count_hit (i:=0) (by simp) a,Nat.add_comm 1,Lib.splitK,a,G',if_pos h];simpa using ih
  ·rw[if_neg h]at a
   rw[G',if_neg h,<-ih];have j:=Lib.index_ge l [10];by_cases b:Lib.index l [10]=-1
   ·rw[if_pos b]at a
    rw[Lib.count_miss a,Lib.count_miss b];rfl
   ·rw[if_neg b]at a
    obtain⟨i,e⟩:∃i:Nat,Lib.index l [10]=i:=⟨(Lib.index l [10]).toNat,by omega⟩;have d:Lib.index (c::l) [10]=((i+1:Nat):Int):=(by rw[a,e];simp);have f:¬(Lib.index (c::l) [10]==-1)=true:=(by rw[d,beq_iff_eq];omega);have g:¬(Lib.index l [10]==-1)=true:=(by rw[beq_iff_eq];exact b);rw[Lib.count_hit (by simp) d,Lib.count_hit (by simp) e,Nat.add_comm 1,Nat.add_comm 1,Lib.splitK,Lib.splitK,if_neg f,if_neg g,d,e];simp[Kh]
def LP(l:List UInt8):ByteArray:=⟨l.toArray⟩
theorem Oa(l:List ByteArray):(l.map (·.data.toList)).map LP=l:=by
 rw[List.map_map]
 conv=>rhs;rw[<-List.map_id l]
 exact List.map_congr_left (fun x _=>rfl)
theorem Kj(s:ByteArray):GJ s=(G' s.data.toList).map LP:=by
 rw[<-Ki,<-Oa (GJ s)];unfold GJ;rw[Lib.splitB_data];rfl
theorem LQ(s t:ByteArray):GL (s++t)=G7 ((G' (s.data.toList++t.data.toList)).map LP):=by
 unfold GL;rw[Kj];simp
end Go.Proofs.YtlihkblppjgebaaGreatDoor
