import Derived.Deep.DrawnRows
import Derived.Deep.LoopGhost
import Derived.Test.YtmfnplmcfkkdpaaGreatDoorZAb
import Derived.Test.YtmfnplmcfkkdpaaGreatDoorZAc
set_option linter.all false
set_option maxRecDepth 100000
set_option maxHeartbeats 0
namespace Go.Proofs.YtmfnplmcfkkdpaaGreatDoor
open Go.RowKit Go.Proofs.Tryz
section
attribute [local go_sem↓] Go.wp_at_zero Go.wp_at_succ
variable{w w1:World}{r:Option Nat}{B k n:Nat}{e:TypeId}{v:Value}{xs:List Value}
theorem Ch.bK{w':World}(h:w.grownBy w' r):Ch (fun i=>r=some i) w w':=⟨h.os,h.tape,h.output,h.size,fun b hb a=>h.block b hb (fun e=>a e.symm)⟩
theorem ao{o:Obj}(h:(w.alloc o).grownBy w1 r):w.grownBy w1 r:=
 ⟨h.os,h.tape,h.output,by have:=h.size;simp at this;omega,fun k a b=>(h.block k (by simp;omega) b).trans (Below.heap_alloc _ _ _ a)⟩
theorem cY(h:w.drew.grownBy w1 r):w.grownBy w1 r:=⟨h.os,h.tape,h.output,h.size,h.block⟩
theorem aZ{size:Nat}(h:w.ownsRow B e size v n xs){c:List Value}{t:TypeId}(a:Row w k t c)(i:t≠e):v.ownBlock≠some k:=by
 rcases h.2 with⟨rfl,_⟩|⟨g,cap,cur,rfl,_,d,_⟩
 ·simp[Value.ownBlock]
 ·intro f
  have:g=k:=by simpa[Value.ownBlock]using f
  subst this;unfold Row at a;rw[d]at a;injection a with a
  injection a with _ b _
  exact i b.symm
theorem iJ{α:Type}{size:Nat}(h:w.ownsRow B e size v n xs){q:IntKind}{enc:α->Value}{l:List (Int×α)}(f:bS w k q enc l):v.ownBlock≠some k:=by
 rcases h.2 with⟨rfl,_⟩|⟨g,cap,cur,rfl,_,b,_⟩
 ·simp[Value.ownBlock]
 ·intro d
  have:g=k:=by simpa[Value.ownBlock]using d
  subst this;obtain⟨i,c,a,_⟩:=f;rw[b]at a;cases a
theorem au{size:Nat}(h:w.ownsRow B e size v n xs):∃a c,v=.slice a n c:=by
 rcases h.2 with⟨rfl,rfl⟩|⟨g,cap,cur,rfl,_⟩
 ·exact⟨_,_,rfl⟩
 ·exact⟨_,_,rfl⟩
theorem aM.app{w4:World}{b mb g cap:Nat}{S:ah}{t:ba}(h:aM w b mb v S)
 (d:w4.ownsRow 0 285 3 (.slice (some (g,0)) (S.l.length+1) cap) (S.l.length+1) (S.l.flatMap ba.cells++t.cells)) (m:w.grownBy w4 v.ownBlock):
 aM (w4.setCell (b,0) (.slice (some (g,0)) (S.l.length+1) cap)) b mb (.slice (some (g,0)) (S.l.length+1) cap) {S with l:=S.l++[t]}/\
 Ch (cu b mb v) w (w4.setCell (b,0) (.slice (some (g,0)) (S.l.length+1) cap)):=by
 have c:=Ch.bK m;have a:=h.head.ch c (aZ h.own h.head (by decide));have f:=h.map.ch c (iJ h.own h.map);have j:b≠g:=by
  intro e;subst e;exact aZ d a (by decide) rfl
 refine⟨⟨a.bc _ _ rfl,?_,f.other (fun e=>f.ne a e) _⟩,(Ch.mono (E:=cu b mb v) c fun i o=>Or.inr (Or.inr o)).hj (p:=⟨b,0,none⟩) (Or.inl rfl) _⟩;have:(S.l++[t]).flatMap ba.cells=S.l.flatMap ba.cells++t.cells:=by simp
 rw[this];show(w4.setCell (b,0) _).ownsRow 0 285 3 _ (S.l++[t]).length _
 rw[List.length_append,List.length_cons,List.length_nil];have:=ak (D:=aH b) d ((Ch.refl _ _).only 0 (.slice (some (g,0)) (S.l.length+1) cap)) (fun k q e=>by
  have:g=k:=by simpa[Value.ownBlock]using q
  subst this;exact j (show _=_ from e.symm))
 exact this
theorem Ch.join{D E:Nat->Prop}{a b c:World}(h:Ch D a b)(k:Ch E b c)(g:∀i,i<a.heap.size->E i->D i):Ch D a c:=
 ⟨k.os.trans h.os,k.tape.trans h.tape,k.output.trans h.output,Nat.le_trans h.size k.size,fun i d f=>(k.same i (Nat.lt_of_lt_of_le d h.size) (fun j=>f (g i d j))).trans (h.same i d f)⟩
def ah.put(S:ah)(d a:Int):Int×ah:=
 let n:=wrap64 (S.last+1)
 (n,ah.up {S with last:=n,l:=S.l++[⟨d,a,n⟩]} S.l.length)
end
def ah.cut(S:ah)(h:Int):ah:={S with l:=S.l.take (S.l.length-1),at_:=fs S.at_ h}
def ah.drop(S:ah)(h:Int):Int×Bool×ah:=
 match aw S.at_ h with
 |none=>(0,false,S)
 |some i=>match S.l[i.toNat]?,S.l[S.l.length-1]? with
  |some t,some last=>
   if i.toNat<S.l.length-1 then
    let a:=((S.cut h).lay i.toNat last).up i.toNat
    (t.bY,true,a.down ((aw a.at_ last.h).getD 0).toNat)
   else(t.bY,true,S.cut h)
  |_,_=>(0,false,S)
theorem jP{α:Type}{enc:α->List Value}{k:Nat}(a:∀x,(enc x).length=k):∀(l:List α) (n:Nat),(l.flatMap enc).take (n*k)=(l.take n).flatMap enc
 |[],n=>by simp
 |x::l,0=>by simp
 |x::l,n+1=>by
  rw[List.flatMap_cons,List.take_succ_cons,List.flatMap_cons,Nat.succ_mul,List.take_append,a,show n*k+k-k=n*k from by omega,jP a l n,List.take_of_length_le (by rw[a];omega)]
def qk(x:Int×Bool×ah)(b mb:Nat)(v:Value)(w:World)(e:Ending)(w':World):Prop:=e=.returned (.tuple #[.int .u64 x.1,.bool x.2.1])/\(∃v',aM w' b mb v' x.2.2/\(v'.ownBlock=v.ownBlock))/\Ch (cu b mb v) w w'
theorem nQ(b mb:Nat)(v:Value)(S:ah)(now:Int)(e:S.l=[])(w:World)(h:aM w b mb v S):
 Calls prog 95 #[(b,0),.int .u64 now] w (qk (0,false,S) b mb v w):=by
 have d:=Z h;have f:=h.head.c1;obtain⟨a,c,rfl⟩:∃a c,v=.slice a 0 c:=by
  obtain⟨a,c,rfl⟩:=au h.own;exact⟨a,c,by rw[e];rfl⟩
 go_wp2
 go_ret2;exact⟨rfl,⟨_,d,rfl⟩,Ch.refl _ _⟩
def ah.new:ah:=⟨[],[],0⟩
theorem rN(w:World):Calls prog 75 #[] w (fun e w'=>∃b mb,e=.returned (.pointer (some ⟨b,0,none⟩))/\aM w' b mb (.slice none 0 0) ah.new/\w.heap.size<=b/\w.heap.size<=mb/\Ch ag w w'):=by
 have a:= @run_makeMap prog;go_wp2
 go_ret;refine⟨w.heap.size+1,w.heap.size,rfl,⟨?_,⟨rfl,Or.inl ⟨rfl,rfl⟩⟩,⟨#[],0,?_,rfl⟩⟩,by omega,Nat.le_refl _,ay⟩
 ·have:=Row.new (w.alloc (.map #[] 0)) #[.slice none 0 0,.map (some w.heap.size),.int .i64 0] 268
  rw[World.size_alloc]at this;exact this
 ·rw[Below.heap_alloc _ _ _ (by simp)];exact heap_alloc_new w _
variable{α:Type}
theorem nK:∀(l:List (Int×α)) (k:Int) (i:Nat),eb l k i=none↔∀x∈l,x.1≠k
 |[],_,_=>by simp[eb]
 |x::l,k,i=>by
  unfold eb;split
  ·rename_i h
   have:k=x.1:=(by simpa using h);simp[this]
  ·rename_i h
   have:¬k=x.1:=(by simpa using h);rw[nK l k (i+1)];simp only[List.mem_cons,forall_eq_or_imp];exact⟨fun a=>⟨fun e=>this e.symm,a⟩,fun a=>a.2⟩
theorem ka(x:Int×α)(l:List (Int×α))(k:Int)(i:Nat):eb (x::l) k i=if k==x.1 then some (i,x.2)else eb l k (i+1):=rfl
theorem zq(k:Int):aw ([]:List (Int×α)) k=none:=rfl
theorem da(x:Int×α)(l:List (Int×α))(k:Int):aw (x::l) k=if k=x.1 then some x.2 else aw l k:=by
 unfold aw;rw[ka,gl l k (0+1)];by_cases h:k=x.1
 ·simp[h]
 ·simp only[beq_iff_eq,h,if_false]
  cases eb l k 0<;>simp
theorem kF(k:Int)(v:α):cn [] k v=[(k,v)]:=rfl
theorem dY(x:Int×α)(l:List (Int×α))(k:Int)(v:α):cn (x::l) k v=if k=x.1 then(k,v)::l else x::cn l k v:=by
 unfold cn;rw[ka,gl l k (0+1)];by_cases h:k=x.1
 ·simp[h]
 ·simp only[beq_iff_eq,h,if_false]
  cases eb l k 0<;>simp
theorem ie(x:Int×α)(l:List (Int×α))(k:Int):fs (x::l) k=if k=x.1 then l else x::fs l k:=by
 unfold fs;rw[ka,gl l k (0+1)];by_cases h:k=x.1
 ·simp[h]
 ·simp only[beq_iff_eq,h,if_false]
  cases eb l k 0<;>simp
theorem aV(l:List (Int×α))(k:Int)(v:α)(j:Int):aw (cn l k v) j=if j=k then some v else aw l j:=by
 induction l with
 |nil=>rw[kF,da]
 |cons x l ih=>
  rw[dY];by_cases h:k=x.1
  ·rw[if_pos h,da,da]
   by_cases a:j=k
   ·simp[a]
   ·simp only[a,if_false]
    rw[if_neg (by rw[<-h];exact a)]
  ·rw[if_neg h,da,ih,da]
   by_cases a:j=x.1
   ·rw[if_pos a,if_pos a,if_neg (by rw[a];exact fun e=>h e.symm)]
   ·rw[if_neg a,if_neg a]
theorem gm(l:List (Int×α))(k j:Int)(h:j≠k):aw (fs l k) j=aw l j:=by
 induction l with
 |nil=>rfl
 |cons x l ih=>
  rw[ie];by_cases a:k=x.1
  ·rw[if_pos a,da,if_neg (by rw[<-a];exact h)]
  ·rw[if_neg a,da,da,ih]
theorem w7(l:List (Int×α))(k:Int):aw l k=none↔∀x∈l,x.1≠k:=by
 unfold aw;rw[Option.map_eq_none_iff,nK]
def gn(l:List (Int×α)):Prop:=(l.map (·.1)).Nodup
theorem w8(l:List (Int×α))(k:Int)(v:α):(cn l k v).map (·.1)=if(l.map (·.1)).contains k then l.map (·.1)else l.map (·.1)++[k]:=by
 induction l with
 |nil=>rfl
 |cons x l ih=>
  rw[dY];by_cases h:k=x.1
  ·simp[h]
  ·simp only[h,if_false,List.map_cons,ih,List.contains_cons,beq_iff_eq,Bool.false_or,show(k==x.1)=false from by simpa using h]
   split<;>simp
theorem gn.put{l:List (Int×α)}(h:gn l)(k:Int)(v:α):gn (cn l k v):=by
 unfold gn;rw[w8];split
 ·exact h
 ·rename_i f
  rw[List.nodup_append];refine⟨h,by simp,fun a c b hb=> ?_⟩;have d:b=k:=by simpa using hb
  subst d;intro e;subst e;exact f (by simpa using c)
theorem gn.del{l:List (Int×α)}(h:gn l)(k:Int):gn (fs l k)/\aw (fs l k) k=none:=by
 induction l with
 |nil=>exact⟨h,rfl⟩
 |cons x l ih=>
  have b:x.1∉l.map (·.1)/\(l.map (·.1)).Nodup:=List.nodup_cons.1 h;rw[ie];by_cases c:k=x.1
  ·rw[if_pos c]
   refine⟨b.2,(w7 l k).2 fun y a e=>b.1 ?_⟩;have:=List.mem_map_of_mem (f:=fun x:Int×α=>x.1) a;rw[e,c]at this;exact this
  ·rw[if_neg c]
   obtain⟨i1,i2⟩:=ih b.2;refine⟨?_,?_⟩
   ·refine List.nodup_cons.2 ⟨fun i=>b.1 ?_,i1⟩
    have:∀(l:List (Int×α)) y,y∈fs l k->y∈l:=by
     intro l
     induction l with
     |nil=>intro y a;exact a
     |cons z l j=>
      intro y a;rw[ie]at a;split at a
      ·exact List.mem_cons_of_mem _ a
      ·rcases List.mem_cons.1 a with rfl|a
       ·exact List.mem_cons_self
       ·exact List.mem_cons_of_mem _ (j y a)
    obtain⟨y,a,g⟩:=List.mem_map.1 i;have d:=List.mem_map_of_mem (f:=fun x:Int×α=>x.1) (this l y a);rw[g]at d;exact d
   ·rw[da,if_neg c];exact i2
variable{w w':World}{b hb mb qb:Nat}{v:Value}
structure aN where
 now:Int
 heap:ah
 fl:List (Int×Int×Int)
def hp(x:Int×Int):Value:=.agg #[.int .i64 x.1,.int .u64 x.2]
structure aX(w:World)(b hb mb qb:Nat)(v:Value)(S:aN):Prop where
 head:Row w b 195 [.int .u64 S.now,(hb,0),.map (some qb)]
 heap:aM w hb mb v S.heap
 fl:bS w qb .u64 hp S.fl
 ne:qb≠mb
def e9(b hb mb qb:Nat)(v:Value):Nat->Prop:=fun i=>i=b∨i=qb∨cu hb mb v i
theorem aX.alloc{S:aN}(h:aX w b hb mb qb v S)(o:Obj):aX (w.alloc o) b hb mb qb v S:=⟨h.head.alloc o,h.heap.alloc o,h.fl.alloc o,h.ne⟩
theorem aX.drew{S:aN}(h:aX w b hb mb qb v S):aX w.drew b hb mb qb v S:=⟨h.head,h.heap.drew,h.fl,h.ne⟩
theorem aX.ch{D:Nat->Prop}{S:aN}(h:aX w b hb mb qb v S)(c:Ch D w w')(a:¬D b)(d:¬D hb)(e:¬D mb)(f:¬D qb)(i:∀g,v.ownBlock=some g->¬D g):aX w' b hb mb qb v S:=
 ⟨h.head.ch c a,h.heap.ch c d e i,h.fl.ch c f,h.ne⟩
theorem aX.vM{S:aN}(h:aX w b hb mb qb v S):¬cu hb mb v b/\¬cu hb mb v qb:=by
 refine⟨?_,?_⟩
 ·rintro(a|a|a)
  ·exact h.head.ne h.heap.head (by decide) a
  ·exact h.heap.map.ne h.head a.symm
  ·exact aZ h.heap.own h.head (by decide) a
 ·rintro(a|a|a)
  ·exact h.fl.ne h.heap.head a
  ·exact h.ne a
  ·exact iJ h.heap.own h.fl a
theorem qn(b hb mb qb:Nat)(v:Value)(S:aN)(w:World)(h:aX w b hb mb qb v S):Calls prog 56 #[(b,0)] w (ez (.int .u64 S.now) w):=by
 have a:=h.head.c1;go_wp2
 go_ret;exact ez.mk rfl
theorem qo:∀w,(zeroValue 251).run prog w=.ok (hp (0,0)) w:=fun w=>by kernel_rfl
def aN.bp(S:aN)(id:Int):Bool×aN:=(false,S)
def zs(x:Bool×aN)(b hb mb qb:Nat)(v:Value)(w:World)(e:Ending)(w':World):Prop:=e=.returned (.bool x.1)/\(∃v',aX w' b hb mb qb v' x.2/\aS w v v')/\Ch (e9 b hb mb qb v) w w'
theorem aX.drop{v':Value}{S:aN}{c:ah}(h:aX w b hb mb qb v S)(d:aM w' hb mb v' c)(a:Ch (cu hb mb v) w w'):aX w' b hb mb qb v' {S with heap:=c}/\Ch (e9 b hb mb qb v) w w':=
 ⟨⟨h.head.ch a h.vM.1,d,h.fl.ch a h.vM.2,h.ne⟩,a.mono fun i e=>Or.inr (Or.inr e)⟩
theorem aX.del{S:aN}{l:List (Int×Int×Int)}(h:aX w b hb mb qb v S)(d:bS w' qb .u64 hp l)(a:Ch (aH qb) w w'):aX w' b hb mb qb v {S with fl:=l}:=
 ⟨h.head.ch a (fun e=>h.fl.ne h.head (show _=_ from Eq.symm e)),h.heap.ch a (fun e=>h.fl.ne h.heap.head (show _=_ from Eq.symm e)) (fun e=>h.ne (show _=_ from Eq.symm e)) (fun g c e=>iJ h.heap.own h.fl (by rw[c];exact congrArg some e)),d,h.ne⟩
theorem m0(b hb mb qb:Nat)(v:Value)(S:aN)(id:Int)(a:S.fl=[])(w:World)(h:aX w b hb mb qb v S):
 Calls prog 191 #[(b,0),.int .u64 id] w (zs (S.bp id) b hb mb qb v w):=by
 have d:=Z h;have e:=h.head.k 1 rfl;have f:=h.head.k 2 rfl;have c:=gg (P:=prog) (T:=193) (K:=22) (E:=251) underlying193 underlying22 (qo w) h.fl id;rw[show aw S.fl id=none by rw[a];rfl]at c;clear h a;simp only[Option.map_none,Option.getD_none,Option.isSome_none,hp]at c;go_wp2
 go_ret;exact⟨rfl,⟨v,d.alloc _,aS.refl _ _⟩,ay⟩
section
attribute [local go_sem↓] Go.wp_at_zero Go.wp_at_succ
def aN.arm(S:aN)(id dl:Int):Bool×aN:=
 if id==0 then(false,S)else if dl !=18446744073709551615 then(true,{S with fl:=[(0,0,0)]})else(true,S)
def D3(x:Bool×aN)(b hb mb qb:Nat)(v:Value)(w:World)(e:Ending)(w':World):Prop:=(∃u,e=.returned u/\(if x.1 then u=.nilIface else ar u))/\(∃v',aX w' b hb mb qb v' x.2/\aS w v v')/\Ch (e9 b hb mb qb v) w w'
theorem qp(b hb mb qb:Nat)(v:Value)(S:aN)(id dl:Int)(i:S.fl=[])(a:(S.arm id dl).2.fl=[])(w:World)(h:aX w b hb mb qb v S):
 Calls prog 178 #[(b,0),.int .u64 id,.int .u64 dl] w (D3 (S.arm id dl) b hb mb qb v w):=by
 have d:=Z h;have j:=h.head.k 1 rfl;have k:=h.head.k 2 rfl;have f:=gg (P:=prog) (T:=193) (K:=22) (E:=251) underlying193 underlying22 (qo w) h.fl id;cases c:id==0
 ·rw[show aw S.fl id=none by rw[i];rfl]at f
  unfold aN.arm at a;rw[c]at a;have g:=Z c;simp only[Option.map_none,Option.getD_none,Option.isSome_none,hp]at f;cases e:dl !=18446744073709551615
  ·have E:Hid (S.arm id dl=(true,S)):=Z (by unfold aN.arm;rw[g,e];rfl)
   go_wp2
   go_ret;rw[E];exact⟨⟨_,rfl,rfl⟩,⟨v,d.alloc _,aS.refl _ _⟩,ay⟩
  ·rw[e]at a
   cases a
 ·have E:Hid (S.arm id dl=(false,S)):=Z (by unfold aN.arm;rw[c];rfl)
  go_wp2
  go_ret;rw[E];exact⟨⟨_,rfl,ar.mk _ _⟩,⟨v,d.alloc _,aS.refl _ _⟩,ay⟩
def aN.new:aN:=⟨0,ah.new,[]⟩
theorem qq(w:World):Calls prog 42 #[] w (fun e w'=>∃b hb mb qb,e=.returned (.pointer (some ⟨b,0,none⟩))/\aX w' b hb mb qb (.slice none 0 0) aN.new/\w.heap.size<=b/\w.heap.size<=hb/\w.heap.size<=mb/\w.heap.size<=qb/\Ch ag w w'):=by
 have k:= @run_makeMap prog;go_in
 go_wp2_with fail
 refine(rN _).mono ?_;rintro e w1 ⟨hb,mb,rfl,c,g,h,a⟩;have f:=Z c;have d:=Z a;have i:=a.size;have j:=c.map.lt;go_wp2
 go_ret;refine⟨w1.heap.size+1,hb,mb,w1.heap.size,rfl,⟨?_,(f.alloc _).alloc _,⟨#[],0,?_,rfl⟩,by omega⟩,by omega,g,h,i,(d.alloc _).alloc _⟩
 ·have:=Row.new (w1.alloc (.map #[] 0)) #[.int .u64 0,.pointer (some ⟨hb,0,none⟩),.map (some w1.heap.size)] 195
  rw[World.size_alloc]at this;exact this
 ·rw[Below.heap_alloc _ _ _ (by simp)];exact heap_alloc_new w1 _
end
attribute [local go_sem↓] Go.wp_at_zero Go.wp_at_succ
variable{w w':World}{B b hb mb n qb s:Nat}{u v v':Value}{S:aN}{e:TypeId}{xs:List Value}
def aN.tick(S:aN):aN×List Int:=({S with now:=IntKind.u64.wrap (S.now+1)},[])
def BZ(x:aN×List Int)(b hb mb qb:Nat)(v:Value)(w:World)(e:Ending)(w':World):Prop:=
 (∃u,e=.returned u/\w'.ownsRow w.heap.size 22 1 u x.2.length (x.2.map (Value.int .u64)))/\(∃v',aX w' b hb mb qb v' x.1/\aS w v v')/\Ch (e9 b hb mb qb v) w w'
theorem g':(prog.info? 22).map (fun i=>(i.zero,i.size,i.bytes))=some (some (.int .u64 0),1,8):=by kernel_rfl
theorem aX.time(h:aX w b hb mb qb v S)(n:Int):aX (w.setCell (b,0) (.int .u64 n)) b hb mb qb v {S with now:=n}/\Ch (e9 b hb mb qb v) w (w.setCell (b,0) (.int .u64 n)):=by
 have a:Ch (aH b) w (w.setCell (b,0) (.int .u64 n)):=ay;refine⟨⟨h.head.bc _ _ rfl,h.heap.ch a (fun e=>h.head.ne h.heap.head (by decide) (show _=_ from Eq.symm e)) (fun e=>h.heap.map.ne h.head e) (fun g c e=>aZ h.heap.own h.head (by decide) (by rw[c];exact congrArg some e)),h.fl.ch a (fun e=>h.fl.ne h.head e),h.ne⟩,a.mono fun i d=>Or.inl d⟩
theorem kH{f:Nat}{a:TypeId}{o:Nat}{m:Nat}{p:List Value}(h:w.ownsRow B e s v n xs)(i:w.ownsRow f a o v' m p)(j:e≠a){k:Nat}(d:v.ownBlock=some k):v'.ownBlock≠some k:=by
 rcases h.2 with⟨rfl,_⟩|⟨g,cap,cur,rfl,_,l,_⟩
 ·cases d
 ·have:g=k:=by simpa[Value.ownBlock]using d
  subst this;exact aZ (c:=cur.toList) i (by unfold Row;simpa using l) j
theorem aX.grown(h:aX w b hb mb qb v S)(a:w.ownsRow B 22 1 u n xs)(c:w.grownBy w' u.ownBlock):aX w' b hb mb qb v S:=
 h.ch (Ch.bK c) (aZ a h.head (by decide)) (aZ a h.heap.head (by decide)) (iJ a h.heap.map) (iJ a h.fl) (fun g d e=>kH a h.heap.own (by decide) e d)
theorem eX{D:Nat->Prop}{w0:World}(c:Ch D w0 w)(f:w.ownsRow B e s u n xs)(h:w0.heap.size<=B)(d:w.grownBy w' u.ownBlock):Ch D w0 w':=
 c.join (Ch.bK d) (fun i k a=>by
  rcases f.2 with⟨rfl,_⟩|⟨g,cap,cur,rfl,j,_⟩
  ·cases a
  ·have:g=i:=by simpa[Value.ownBlock]using a
   omega)
theorem o'(b hb mb qb:Nat)(v:Value)(S:aN)(l:S.heap.l=[])(w:World)(h:aX w b hb mb qb v S):
 Calls prog 54 #[(b,0)] w (BZ S.tick b hb mb qb v w):=by
 have d:=h.head.c1;have f0:=h.head.free 0;have o:=Z h;have p:=Z l;obtain⟨n,g⟩:=mn (IntKind.u64.wrap (S.now+1));have E:Hid (S.tick=({S with now:=n},[])):=Z (by unfold aN.tick;rw[g]);have r:=Z g;clear h g l;go_wp2
 rw[<-r];obtain⟨w1,i⟩:=nm (w.setCell (b,0) (.int .u64 n));have j:Hid (aX w1 b hb mb qb v {S with now:=n}/\Ch (e9 b hb mb qb v) w w1):=Z (by rw[<-i];exact o.time n);rw[i];clear i d f0;go_loopg [3] 1 (fun gk u wr=>u=.slice none 0 0/\wr=w1/\gk=1)
 case atStart=>exact⟨rfl,rfl,rfl⟩
 case round=>
  obtain⟨rfl,rfl,rfl⟩:=hrel;have c:=Z j.1;have q:Hid (∀w,aM w hb mb v S.heap->Calls prog 95 #[(hb,0),.int .u64 n] w (qk (0,false,S.heap) hb mb v w)):=Z (fun w h=>nQ hb mb v S.heap n p w h);obtain⟨d,y⟩:=c.head.c2;dsimp only at d;go_wp2
  go_region_held3 (fun w'=>w'.cell? (b,0)=some (.int .u64 n)/\w'.cell? (b,1)=some (.pointer (some (hb,0)))) (go_keep) ((go_at_call 95;refine(q _ c.heap.drew).mono ?_;rintro e w2 ⟨rfl,⟨x,k,m⟩,f⟩;have a:=Z (c.drew.drop k f);have t:=Z m;have z:=Z f;clear k f m;obtain⟨d0,d1⟩:=a.1.head.c2))
  all_goals
   go_wp2
   go_ret;rw[E];exact⟨⟨_,rfl,rfl,Or.inl ⟨rfl,rfl⟩⟩,⟨x,a.1,aS.of_eq t.out⟩,j.2.drew.trans a.2⟩
