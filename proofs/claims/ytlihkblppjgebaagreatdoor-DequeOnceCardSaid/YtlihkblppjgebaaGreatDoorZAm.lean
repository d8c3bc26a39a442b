import Derived.Test.YtlihkblppjgebaaGreatDoorZAi
set_option linter.all false
set_option maxRecDepth 100000
set_option maxHeartbeats 8000000
namespace Go.Proofs.YtlihkblppjgebaaGreatDoor
open Go.RowKit Go.Proofs.Tryz
def Hj:ByteArray:=(ByteArray.mk (List.toArray (List.append (List.append [115,101,116,32,109,111,118,32,97,100,100,32,115,117,98,32,97,110,100,32,111,114,32,120,111,114,32,115,104,108,32,115,104,114,32,101,113,32,108,116,32,106,109,112,32,106,122,32,106,110,122,32,106,115,114,32] [114,101,116,32,108,100,32,115,116,32,115,119,112,32,102,97,100,32,99,97,115,32,99,97,108,108,32,104,115,104,32,113,112,116,32,113,116,107,32,113,109,118,32,113,104,115,32,115,108,112,32,104,110,100,32,112,105]) (List.append [107,32,108,97,121,32,116,97,107,32,105,110,106,32,105,106,116,32,114,117,110,32,112,114,107,32,115,108,102,32,119,114,107,32,119,107,100,32,119,107,110,32,110,111,119,32,100,114,119,32,103,101,116,32,102,114,101] [32,111,98,106,32,100,101,108,32,99,107,112,32,116,110,119,32,116,115,116,32,116,104,109,32,116,106,110,32,116,100,116,32,116,101,120,32,116,114,112,32,101,110,100,32,121,108,100,32,99,98,107,32,102,105,110,32]))))
theorem Il:Hj.size=227:=by decide+kernel
theorem toList_data(s:ByteArray):s.toList=s.data.toList:=ByteArray.toList_eq s
theorem toList_eq{a b:ByteArray}(h:(a.toList==b.toList)=true):a=b:=by
 have c:=beq_iff_eq.1 h;rw[toList_data,toList_data]at c;exact ByteArray.ext (Array.ext' c)
theorem Jm{a b:ByteArray}(h:(a.toList==b.toList)=false):¬a=b:=by
 intro e;subst e;simp at h
def Is(s:ByteArray):Nat->Nat->Nat->Int->Int
 |0,_,_,_=>0
 |f+1,i,a,n=>if Fz Hj i≠32 then Is s f (i+1) a n else if Hj.extract a i=s then n else Is s f (i+1) (i+1) (n+1)
def I7(s:ByteArray):Int:=Is s 227 0 0 1
theorem Lb(s:ByteArray)(w:World):Calls prog 187 #[.string s] w (IN .i64 (I7 s) w):=by
 have p:=Il;have o:Hid (Is s (227-0) 0 0 1=I7 s):=rfl;go_enter func187,ntmps187
 obtain⟨N,l⟩:∃N:ByteArray,Hid (N=Hj):=⟨_,rfl⟩;generalize g:(ByteArray.mk (List.toArray (List.append (List.append [115,101,116,32,109,111,118,32,97,100,100,32,115,117,98,32,97,110,100,32,111,114,32,120,111,114,32,115,104,108,32,115,104,114,32,101,113,32,108,116,32,106,109,112,32,106,122,32,106,110,122,32,106,115,114,32] [114,101,116,32,108,100,32,115,116,32,115,119,112,32,102,97,100,32,99,97,115,32,99,97,108,108,32,104,115,104,32,113,112,116,32,113,116,107,32,113,109,118,32,113,104,115,32,115,108,112,32,104,110,100,32,112,105]) (List.append [107,32,108,97,121,32,116,97,107,32,105,110,106,32,105,106,116,32,114,117,110,32,112,114,107,32,115,108,102,32,119,114,107,32,119,107,100,32,119,107,110,32,110,111,119,32,100,114,119,32,103,101,116,32,102,114,101] [32,111,98,106,32,100,101,108,32,99,107,112,32,116,110,119,32,116,115,116,32,116,104,109,32,116,106,110,32,116,100,116,32,116,101,120,32,116,114,112,32,101,110,100,32,121,108,100,32,99,98,107,32,102,105,110,32]))))=b;have q:b.size=227:=by rw[<-g];exact Il
 have c:Hid (b=Hj):=g.symm;clear g l N p;have B:b.size<=227:=by omega
 have C:227<=b.size:=by omega
 clear q;go_wp2
 go_loop [3,4,5] (fun at_ n i=>∃(k a:Nat) (m:Int),k<=227/\a<=k/\1<=m/\m<=k+1/\at_=.int .i64 a/\n=.int .i64 m/\i=.int .i64 k/\Hid (Is s (227-k) k a m=I7 s)) (fun _ _ i=>227-(intOf i).toNat)
 case atStart=>exact⟨0,0,1,by omega,by omega,by omega,by omega,rfl,rfl,rfl,o⟩
 case round=>
  obtain⟨k,a,m,t,r,v,A,rfl,rfl,rfl,d⟩:=hrel;by_cases u:k<227
  ·have j:k<b.size:=by omega
   have e:∀x y z,Hid (Is s (227-k) k a m=if Fz Hj k≠32 then x else if Hj.extract a k=s then y else z)->True:=(fun _ _ _ _=>trivial);have f:Hid (Is s (227-k) k a m=if Fz Hj k≠32 then Is s (227-(k+1)) (k+1) a m else if Hj.extract a k=s then m else Is s (227-(k+1)) (k+1) (k+1) (m+1)):=by
    show _=_
    rw[show 227-k=(227-(k+1))+1 from by omega,Is]
   clear e;go_wp2
   all_goals first
    |(go_round
      case rel=>exact⟨k+1,a,m,by omega,by omega,by omega,by omega,rfl,rfl,by go_num,by
       show _=_
       have h:=f.out;rw[if_pos (by rw[<-c.out,<-kT b k j];simpa using (show((b[k].toNat:Int) !=32)=true from by assumption))]at h;rw[<-h];exact d.out⟩
      case measure=>simp[intOf];omega)
    |(go_ret
      exact IN.mk (by
       have h:=f.out;rw[if_neg (by rw[<-c.out,<-kT b k j];simpa using (show((b[k].toNat:Int) !=32)=false from by assumption)),if_pos (by rw[<-c.out];exact toList_eq (by assumption))]at h;rw[<-d.out];exact h))
    |(go_round
      case rel=>exact⟨k+1,k+1,m+1,by omega,by omega,by omega,by omega,by go_num,rfl,by go_num,by
       show _=_
       have h:=f.out;rw[if_neg (by rw[<-c.out,<-kT b k j];simpa using (show((b[k].toNat:Int) !=32)=false from by assumption)),if_neg (by rw[<-c.out];exact Jm (by assumption))]at h;rw[<-h];exact d.out⟩
      case measure=>simp[intOf];omega)
  ·have e:Hid (Is s (227-k) k a m=0):=by
    show _=_
    rw[show 227-k=0 from by omega,Is]
   go_wp2
   go_ret;exact IN.mk (by rw[<-d.out];exact e.out)
set_option maxRecDepth 100000
def Ht:Bool×Bool×Bool×Bool->Int×Int×Int
 |(true,true,true,true)=>(1,2,4)
 |(true,true,true,false)=>(1,2,3)
 |(true,true,false,_)=>(1,2,0)
 |(true,false,true,true)=>(1,4,0)
 |(true,false,true,false)=>(1,3,0)
 |(true,false,false,_)=>(1,0,0)
 |(false,true,true,true)=>(2,4,0)
 |(false,true,true,false)=>(2,3,0)
 |(false,true,false,_)=>(2,0,0)
 |(false,false,true,true)=>(4,0,0)
 |(false,false,true,false)=>(3,0,0)
 |(false,false,false,_)=>(0,0,0)
def F'(op:Int):Int×Int×Int:=
 if op=1 then(1,9,0)
 else if op=13∨op=14 then(1,8,0)
 else if op=12∨op=15 then(8,0,0)
 else if op=22 then(7,0,0)
 else if op=43 then(1,5,0)
 else if op=45 then(1,2,7)
 else if op=21∨op=32 then(1,6,3)
 else if op=17∨op=18∨op=19∨op=20∨op=31 then(1,6,0)
 else Ht (eV op)
def N3(p:Int×Int×Int)(w:World)(e:Ending)(w':World):Prop:=
 e=.returned (.agg #[.int .i64 p.1,.int .i64 p.2.1,.int .i64 p.2.2])/\Below w.heap.size w w'
theorem N3.mk{p:Int×Int×Int}{a b c:Int}{w w':World}(h:p=(a,b,c))(hb:Below w.heap.size w w'):N3 p w (.returned (.agg #[.int .i64 a,.int .i64 b,.int .i64 c])) w':=by subst h;exact⟨rfl,hb⟩
set_option maxRecDepth 100000
set_option maxHeartbeats 8000000
theorem JH(op:Int)(w:World):Calls prog 188 #[.int .i64 op] w (N3 (F' op) w):=by
 go_enter func188,ntmps188
 go_wp2_with (go_at_call 218;refine(m0 _ _).mono ?_;rintro e w' ⟨rfl,rfl⟩)
 all_goals
  simp only[beq_iff_eq,beq_eq_false_iff_ne,ne_eq]at*;simp[bodyPost,results,Tryz.results27,go_sem];refine N3.mk ?_ ?_
  ·unfold F'
   repeat first
    |rfl
    |rw[if_pos (by omega)]
    |rw[if_neg (by omega)]
   try(generalize eV op=q at*;obtain⟨a,b,c,d⟩:=q;simp_all [Ht];done)
  ·repeat first
    |exact Below.refl _ _
    |refine Below.alloc ?_ (by simp) _
end Go.Proofs.YtlihkblppjgebaaGreatDoor
