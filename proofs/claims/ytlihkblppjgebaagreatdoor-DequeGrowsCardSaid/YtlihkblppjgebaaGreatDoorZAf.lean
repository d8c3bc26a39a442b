import Derived.Deep.DrawnRows
import Derived.Deep.LoopGhost
import Derived.Test.YtlihkblppjgebaaGreatDoorZAb
import Derived.Test.YtlihkblppjgebaaGreatDoorZAc
set_option linter.all false
set_option maxRecDepth 100000
set_option maxHeartbeats 8000000
namespace Go.Proofs.YtlihkblppjgebaaGreatDoor
open Go.RowKit Go.Proofs.Tryz
section
attribute [local go_sem↓] Go.wp_at_zero Go.wp_at_succ
theorem Ch.bQ{w w':World}{r:Option Nat}(h:w.grownBy w' r):Ch (fun i=>r=some i) w w':=⟨h.os,h.tape,h.output,h.size,fun b a c=>h.block b a (fun e=>c e.symm)⟩
theorem ax{w w1:World}{c:Obj}{r:Option Nat}(h:(w.alloc c).grownBy w1 r):w.grownBy w1 r:=
 ⟨h.os,h.tape,h.output,by have:=h.size;simp at this;omega,fun k a b=>(h.block k (by simp;omega) b).trans (Below.heap_alloc _ _ _ a)⟩
theorem cO{w w1:World}{r:Option Nat}(h:w.drew.grownBy w1 r):w.grownBy w1 r:=⟨h.os,h.tape,h.output,h.size,h.block⟩
theorem aY{w:World}{B:Nat}{e:TypeId}{size:Nat}{v:Value}{n:Nat}{j:List Value}(h:w.ownsRow B e size v n j){k:Nat}{c:List Value}{t:TypeId}(a:Row w k t c)(i:t≠e):v.ownBlock≠some k:=by
 rcases h.2 with⟨rfl,_⟩|⟨g,cap,cur,rfl,_,d,_⟩
 ·simp[Value.ownBlock]
 ·intro f
  have:g=k:=by simpa[Value.ownBlock]using f
  subst this;unfold Row at a;rw[d]at a;injection a with a
  injection a with _ b _
  exact i b.symm
theorem ia{α:Type}{w:World}{B:Nat}{e:TypeId}{size:Nat}{v:Value}{n:Nat}{i:List Value}(h:w.ownsRow B e size v n i){k:Nat}{q:IntKind}{enc:α->Value}{l:List (Int×α)}(f:bH w k q enc l):v.ownBlock≠some k:=by
 rcases h.2 with⟨rfl,_⟩|⟨g,cap,cur,rfl,_,b,_⟩
 ·simp[Value.ownBlock]
 ·intro d
  have:g=k:=by simpa[Value.ownBlock]using d
  subst this;obtain⟨j,c,a,_⟩:=f;rw[b]at a;cases a
theorem aA{w:World}{B:Nat}{e:TypeId}{size:Nat}{v:Value}{n:Nat}{b:List Value}(h:w.ownsRow B e size v n b):∃a c,v=.slice a n c:=by
 rcases h.2 with⟨rfl,rfl⟩|⟨g,cap,cur,rfl,_⟩
 ·exact⟨_,_,rfl⟩
 ·exact⟨_,_,rfl⟩
theorem aM.app{w w4:World}{b mb g cap:Nat}{v:Value}{S:ah}{t:a8}(h:aM w b mb v S)
 (d:w4.ownsRow 0 328 3 (.slice (some ⟨g,0,none⟩) (S.l.length+1) cap) (S.l.length+1) (S.l.flatMap a8.cells++t.cells)) (m:w.grownBy w4 v.ownBlock):
 aM (w4.setCell ⟨b,0,none⟩ (.slice (some ⟨g,0,none⟩) (S.l.length+1) cap)) b mb (.slice (some ⟨g,0,none⟩) (S.l.length+1) cap) {S with l:=S.l++[t]}/\
 Ch (cn b mb v) w (w4.setCell ⟨b,0,none⟩ (.slice (some ⟨g,0,none⟩) (S.l.length+1) cap)):=by
 have c:=Ch.bQ m;have a:=h.head.ch c (aY h.own h.head (by decide));have f:=h.map.ch c (ia h.own h.map);have j:b≠g:=by
  intro e;subst e;exact aY d a (by decide) rfl
 refine⟨⟨a.a' _ _ rfl,?_,f.other (fun e=>f.ne a e) _⟩,(Ch.mono (E:=cn b mb v) c fun i n=>Or.inr (Or.inr n)).gS (p:=⟨b,0,none⟩) (Or.inl rfl) _⟩;have:(S.l++[t]).flatMap a8.cells=S.l.flatMap a8.cells++t.cells:=by simp
 rw[this];show(w4.setCell ⟨b,0,none⟩ _).ownsRow 0 328 3 _ (S.l++[t]).length _
 rw[List.length_append,List.length_cons,List.length_nil];have:=ar (D:=aK b) d ((Ch.refl _ _).only 0 (.slice (some ⟨g,0,none⟩) (S.l.length+1) cap)) (fun k o e=>by
  have:g=k:=by simpa[Value.ownBlock]using o
  subst this;exact j (show _=_ from e.symm))
 exact this
theorem Ch.join{D E:Nat->Prop}{a b c:World}(h:Ch D a b)(k:Ch E b c)(f:∀i,i<a.heap.size->E i->D i):Ch D a c:=
 ⟨k.os.trans h.os,k.tape.trans h.tape,k.output.trans h.output,Nat.le_trans h.size k.size,fun i d e=>(k.same i (Nat.lt_of_lt_of_le d h.size) (fun g=>e (f i d g))).trans (h.same i d e)⟩
def ah.put(S:ah)(d a:Int):Int×ah:=
 let n:=wrap64 (S.last+1)
 (n,ah.up {S with last:=n,l:=S.l++[⟨d,a,n⟩]} S.l.length)
end
def ah.cut(S:ah)(h:Int):ah:={S with l:=S.l.take (S.l.length-1),at_:=fk S.at_ h}
def ah.drop(S:ah)(h:Int):Int×Bool×ah:=
 match aw S.at_ h with
 |none=>(0,false,S)
 |some i=>match S.l[i.toNat]?,S.l[S.l.length-1]? with
  |some t,some last=>
   if i.toNat<S.l.length-1 then
    let a:=((S.cut h).lay i.toNat last).up i.toNat
    (t.bS,true,a.down ((aw a.at_ last.h).getD 0).toNat)
   else(t.bS,true,S.cut h)
  |_,_=>(0,false,S)
def ah.jP(S:ah)(h:Int):Prop:=∀i,aw S.at_ h=some i->0<=i/\i.toNat<S.l.length/\
 (i.toNat<S.l.length-1->∀last,S.l[S.l.length-1]?=some last->0<=(aw (((S.cut h).lay i.toNat last).up i.toNat).at_ last.h).getD 0/\((aw (((S.cut h).lay i.toNat last).up i.toNat).at_ last.h).getD 0).toNat<S.l.length-1)
theorem qY:∀(f:Nat) (S:ah) (i:Nat) (t:a8),(gK f S i t).1.l.length=S.l.length
 |0,_,_,_=>rfl
 |f+1,S,i,t=>by
  unfold gK;split
  ·rfl
  ·split
   ·rfl
   ·split
    ·rw[qY,ah.b1]
    ·rfl
theorem ah.m7(S:ah)(i:Nat):(S.up i).l.length=S.l.length:=by
 unfold ah.up;split
 ·rfl
 ·rw[ah.b1,qY]
theorem js{α:Type}{enc:α->List Value}{k:Nat}(a:∀x,(enc x).length=k):∀(l:List α) (n:Nat),(l.flatMap enc).take (n*k)=(l.take n).flatMap enc
 |[],n=>by simp
 |x::l,0=>by simp
 |x::l,n+1=>by
  rw[List.flatMap_cons,List.take_succ_cons,List.flatMap_cons,Nat.succ_mul,List.take_append,a,show n*k+k-k=n*k from by omega,js a l n,List.take_of_length_le (by rw[a];omega)]
def ah.pop(S:ah)(now:Int):Int×Bool×ah:=
 match S.l with
 |[]=>(0,false,S)
 |t::_=>if now<t.d then(0,false,S)else S.drop t.h
def ah.new:ah:=⟨[],[],0⟩
theorem q0(w:World):Calls prog 104 #[] w (fun e w'=>∃b mb,e=.returned (.pointer (some ⟨b,0,none⟩))/\aM w' b mb (.slice none 0 0) ah.new/\w.heap.size<=b/\w.heap.size<=mb/\Ch ag w w'):=by
 have a:= @run_makeMap prog;go_enter func104,ntmps104
 go_wp2
 go_ret;refine⟨w.heap.size+1,w.heap.size,rfl,⟨?_,⟨rfl,Or.inl ⟨rfl,rfl⟩⟩,⟨#[],0,?_,rfl⟩⟩,by omega,Nat.le_refl _,((Ch.refl _ _).alloc _).alloc _⟩
 ·have:=Row.new (w.alloc (.map #[] 0)) #[.slice none 0 0,.map (some w.heap.size),.int .i64 0] 307
  rw[World.size_alloc]at this;exact this
 ·rw[Below.heap_alloc _ _ _ (by simp)];exact heap_alloc_new w _
section
section
variable{α:Type}
theorem m8:∀(l:List (Int×α)) (k:Int) (i:Nat),dU l k i=none↔∀x∈l,x.1≠k
 |[],_,_=>by simp[dU]
 |x::l,k,i=>by
  unfold dU;split
  ·rename_i h
   have:k=x.1:=(by simpa using h);simp[this]
  ·rename_i h
   have:¬k=x.1:=(by simpa using h);rw[m8 l k (i+1)];simp only[List.mem_cons,forall_eq_or_imp];exact⟨fun a=>⟨fun e=>this e.symm,a⟩,fun a=>a.2⟩
theorem jQ(x:Int×α)(l:List (Int×α))(k:Int)(i:Nat):dU (x::l) k i=if k==x.1 then some (i,x.2)else dU l k (i+1):=rfl
theorem ya(k:Int):aw ([]:List (Int×α)) k=none:=rfl
theorem cT(x:Int×α)(l:List (Int×α))(k:Int):aw (x::l) k=if k=x.1 then some x.2 else aw l k:=by
 unfold aw;rw[jQ,fY l k (0+1)];by_cases h:k=x.1
 ·simp[h]
 ·simp only[beq_iff_eq,h,if_false]
  cases dU l k 0<;>simp
theorem kh(k:Int)(v:α):b8 [] k v=[(k,v)]:=rfl
theorem dR(x:Int×α)(l:List (Int×α))(k:Int)(v:α):b8 (x::l) k v=if k=x.1 then(k,v)::l else x::b8 l k v:=by
 unfold b8;rw[jQ,fY l k (0+1)];by_cases h:k=x.1
 ·simp[h]
 ·simp only[beq_iff_eq,h,if_false]
  cases dU l k 0<;>simp
theorem hH(x:Int×α)(l:List (Int×α))(k:Int):fk (x::l) k=if k=x.1 then l else x::fk l k:=by
 unfold fk;rw[jQ,fY l k (0+1)];by_cases h:k=x.1
 ·simp[h]
 ·simp only[beq_iff_eq,h,if_false]
  cases dU l k 0<;>simp
theorem aT(l:List (Int×α))(k:Int)(v:α)(j:Int):aw (b8 l k v) j=if j=k then some v else aw l j:=by
 induction l with
 |nil=>rw[kh,cT]
 |cons x l ih=>
  rw[dR];by_cases h:k=x.1
  ·rw[if_pos h,cT,cT]
   by_cases hj:j=k
   ·simp[hj]
   ·simp only[hj,if_false]
    rw[if_neg (by rw[<-h];exact hj)]
  ·rw[if_neg h,cT,ih,cT]
   by_cases hj:j=x.1
   ·rw[if_pos hj,if_pos hj,if_neg (by rw[hj];exact fun e=>h e.symm)]
   ·rw[if_neg hj,if_neg hj]
theorem fZ(l:List (Int×α))(k j:Int)(h:j≠k):aw (fk l k) j=aw l j:=by
 induction l with
 |nil=>rfl
 |cons x l ih=>
  rw[hH];by_cases a:k=x.1
  ·rw[if_pos a,cT,if_neg (by rw[<-a];exact h)]
  ·rw[if_neg a,cT,cT,ih]
theorem vC(l:List (Int×α))(k:Int):aw l k=none↔∀x∈l,x.1≠k:=by
 unfold aw;rw[Option.map_eq_none_iff,m8]
def f'(l:List (Int×α)):Prop:=(l.map (·.1)).Nodup
theorem vD(l:List (Int×α))(k:Int)(v:α):(b8 l k v).map (·.1)=if(l.map (·.1)).contains k then l.map (·.1)else l.map (·.1)++[k]:=by
 induction l with
 |nil=>rfl
 |cons x l ih=>
  rw[dR];by_cases h:k=x.1
  ·simp[h]
  ·simp only[h,if_false,List.map_cons,ih,List.contains_cons,beq_iff_eq,Bool.false_or,show(k==x.1)=false from by simpa using h]
   split<;>simp
theorem f'.put{l:List (Int×α)}(h:f' l)(k:Int)(v:α):f' (b8 l k v):=by
 unfold f';rw[vD];split
 ·exact h
 ·rename_i g
  rw[List.nodup_append];refine⟨h,by simp,fun a c b d=> ?_⟩;have f:b=k:=by simpa using d
  subst f;intro e;subst e;exact g (by simpa using c)
theorem f'.del{l:List (Int×α)}(h:f' l)(k:Int):f' (fk l k)/\aw (fk l k) k=none:=by
 induction l with
 |nil=>exact⟨h,rfl⟩
 |cons x l ih=>
  have b:x.1∉l.map (·.1)/\(l.map (·.1)).Nodup:=List.nodup_cons.1 h;rw[hH];by_cases c:k=x.1
  ·rw[if_pos c]
   refine⟨b.2,(vC l k).2 fun y a e=>b.1 ?_⟩;have:=List.mem_map_of_mem (f:=fun x:Int×α=>x.1) a;rw[e,c]at this;exact this
  ·rw[if_neg c]
   obtain⟨i1,i2⟩:=ih b.2;refine⟨?_,?_⟩
   ·refine List.nodup_cons.2 ⟨fun i=>b.1 ?_,i1⟩
    have:∀(l:List (Int×α)) y,y∈fk l k->y∈l:=by
     intro l
     induction l with
     |nil=>intro y a;exact a
     |cons z l j=>
      intro y a;rw[hH]at a;split at a
      ·exact List.mem_cons_of_mem _ a
      ·rcases List.mem_cons.1 a with rfl|a
       ·exact List.mem_cons_self
       ·exact List.mem_cons_of_mem _ (j y a)
    obtain⟨y,a,g⟩:=List.mem_map.1 i;have d:=List.mem_map_of_mem (f:=fun x:Int×α=>x.1) (this l y a);rw[g]at d;exact d
   ·rw[cT,if_neg c];exact i2
end
structure ah.WF(S:ah):Prop where
 nd:f' S.at_
 at_:∀k j,aw S.at_ k=some j->0<=j/\∃x,S.l[j.toNat]?=some x/\x.h=k
structure ah.la(S:ah)(i:Nat)(t:a8):Prop where
 nd:f' S.at_
 lt:i<S.l.length
 at_:∀k j,k≠t.h->aw S.at_ k=some j->0<=j/\j.toNat≠i/\∃x,S.l[j.toNat]?=some x/\x.h=k
theorem ah.WF.hole{S:ah}(h:S.WF){i:Nat}{t:a8}(c:S.l[i]?=some t):S.la i t:=
 ⟨h.nd,(List.getElem?_eq_some_iff.1 c).1,fun k j f hj=>by
  obtain⟨d,x,a,b⟩:=h.at_ k j hj;refine⟨d,fun e=>f ?_,x,a,b⟩;rw[e,c]at a;rw[<-b,<-Option.some.inj a]⟩
theorem ah.la.fill{S:ah}{i:Nat}{t:a8}(h:S.la i t):(S.lay i t).WF:=
 ⟨h.nd.put _ _,fun k j hj=>by
  unfold ah.lay at hj⊢;dsimp only at hj⊢;rw[aT]at hj;by_cases a:k=t.h
  ·rw[if_pos a]at hj
   have:(i:Int)=j:=Option.some.inj hj;subst this;exact⟨by omega,t,by rw[Int.toNat_natCast,List.getElem?_set_self h.lt],a.symm⟩
  ·rw[if_neg a]at hj
   obtain⟨b,c,x,f,d⟩:=h.at_ k j a hj;exact⟨b,x,by rw[List.getElem?_set_ne (fun e=>c e.symm)];exact f,d⟩⟩
theorem ah.la.shift{S:ah}{i p:Nat}{t x:a8}(h:S.la i t)(d:S.l[p]?=some x)(m:p≠i):(S.lay i x).la p t:=
 ⟨h.nd.put _ _,by rw[ah.b1];exact(List.getElem?_eq_some_iff.1 d).1,fun k j l hj=>by
  unfold ah.lay at hj⊢;dsimp only at hj⊢;rw[aT]at hj;by_cases a:k=x.h
  ·rw[if_pos a]at hj
   have:(i:Int)=j:=Option.some.inj hj;subst this;exact⟨by omega,by rw[Int.toNat_natCast];exact fun e=>m e.symm,x,by rw[Int.toNat_natCast,List.getElem?_set_self h.lt],a.symm⟩
  ·rw[if_neg a]at hj
   obtain⟨f,g,y,b,c⟩:=h.at_ k j l hj;refine⟨f,fun e=>a ?_,y,by rw[List.getElem?_set_ne (fun e=>g e.symm)];exact b,c⟩;rw[e,d]at b;rw[<-c,<-Option.some.inj b]⟩
theorem oU:∀(f:Nat) (S:ah) (i:Nat) (t:a8),S.la i t->(gK f S i t).1.la (gK f S i t).2 t
 |0,S,i,t,h=>h
 |f+1,S,i,t,h=>by
  unfold gK;split
  ·exact h
  ·rename_i b
   split
   ·exact h
   ·rename_i p a
    split
    ·exact oU f _ _ t (h.shift a (by omega))
    ·exact h
theorem l2:∀(f:Nat) (S:ah) (i:Nat) (t:a8),S.la i t->(bN f S i t).1.la (bN f S i t).2 t
 |0,S,i,t,h=>h
 |f+1,S,i,t,h=>by
  unfold bN;split
  ·exact h
  ·rename_i a c
   split
   ·exact h
   ·rename_i x b
    split
    ·refine l2 f _ _ t (h.shift b ?_)
     unfold jE;split
     ·omega
     ·split<;>omega
    ·exact h
theorem ah.la.up{S:ah}{i:Nat}{t:a8}(h:S.la i t)(a:S.l[i]?=some t):(S.up i).WF:=by
 unfold ah.up;rw[a];exact(oU _ S i t h).fill
theorem ah.WF.up{S:ah}(h:S.WF){i:Nat}(a:i<S.l.length):(S.up i).WF:=(h.hole (List.getElem?_eq_getElem a)).up (List.getElem?_eq_getElem a)
theorem ah.WF.down{S:ah}(h:S.WF){i:Nat}(b:i<S.l.length):(S.down i).WF:=by
 have a:=List.getElem?_eq_getElem b;unfold ah.down;rw[a];exact(l2 _ S i _ (h.hole a)).fill
theorem ah.WF.put{S:ah}(h:S.WF)(d b:Int):(S.put d b).2.WF:=by
 unfold ah.put;dsimp only;refine ah.la.up (t:=⟨d,b,RowKit.wrap64 (S.last+1)⟩) ⟨h.nd,by simp,fun k j g hj=> ?_⟩ (by simp);obtain⟨c,x,a,e⟩:=h.at_ k j hj;have f:=(List.getElem?_eq_some_iff.1 a).1;exact⟨c,by omega,x,by dsimp only;rw[List.getElem?_append_left f];exact a,e⟩
theorem ah.WF.uA{S:ah}(h:S.WF){b:Int}{i:Nat}{d:a8}(n:aw S.at_ b=some (i:Int))(u:i<S.l.length-1)(p:S.l[S.l.length-1]?=some d):((S.cut b).lay i d).WF:=by
 obtain⟨q,r⟩:=h.nd.del b;refine⟨q.put _ _,fun k j hj=> ?_⟩;unfold ah.lay ah.cut at hj⊢;dsimp only at hj⊢;rw[aT]at hj;by_cases c:k=d.h
 ·rw[if_pos c]at hj
  have:(i:Int)=j:=Option.some.inj hj;subst this;exact⟨by omega,d,by rw[Int.toNat_natCast,List.getElem?_set_self (by simp;omega)],c.symm⟩
 ·rw[if_neg c]at hj
  have g:k≠b:=by
   intro e;subst e;rw[r]at hj;cases hj
  rw[fZ _ _ _ g]at hj;obtain⟨m,x,a,f⟩:=h.at_ k j hj;have v:=(List.getElem?_eq_some_iff.1 a).1;have t:j.toNat≠S.l.length-1:=by
   intro e;rw[e,p]at a;exact c (by rw[<-f,<-Option.some.inj a])
  have o:j.toNat≠i:=by
   intro e;obtain⟨-,y,l,s⟩:=h.at_ b i n;rw[Int.toNat_natCast]at l;rw[e,l]at a;exact g (by rw[<-f,<-s,Option.some.inj a])
  exact⟨m,x,by rw[List.getElem?_set_ne (fun e=>o e.symm),List.getElem?_take_of_lt (by omega)];exact a,f⟩
theorem ah.WF.yb{S:ah}(h:S.WF){a:Int}{i:Nat}(l:aw S.at_ a=some (i:Int))(r:¬i<S.l.length-1):(S.cut a).WF:=by
 obtain⟨m,n⟩:=h.nd.del a;refine⟨m,fun k j hj=> ?_⟩;unfold ah.cut at hj⊢;dsimp only at hj⊢;have f:k≠a:=by
  intro e;subst e;rw[n]at hj;cases hj
 rw[fZ _ _ _ f]at hj;obtain⟨g,x,b,d⟩:=h.at_ k j hj;have s:=(List.getElem?_eq_some_iff.1 b).1;obtain⟨-,y,c,o⟩:=h.at_ a i l;rw[Int.toNat_natCast]at c;have p:=(List.getElem?_eq_some_iff.1 c).1;have q:j.toNat≠i:=by
  intro e;rw[e,c]at b;exact f (by rw[<-d,<-o,Option.some.inj b])
 exact⟨g,x,by rw[List.getElem?_take_of_lt (by omega)];exact b,d⟩
theorem ah.WF.jP{S:ah}(h:S.WF)(a:Int):S.jP a:=by
 intro i d;obtain⟨c,x,e,o⟩:=h.at_ a i d;obtain⟨n,rfl⟩:=Int.eq_ofNat_of_zero_le c;rw[Int.toNat_natCast]at e⊢;refine⟨c,(List.getElem?_eq_some_iff.1 e).1,fun k b g=> ?_⟩;have hw:=(h.uA d k g).up (i:=n) (by rw[ah.b1];unfold ah.cut;simp;omega);cases f:aw (((S.cut a).lay n b).up n).at_ b.h with
 |none=>exact⟨by simp,by simp;omega⟩
 |some j=>
  obtain⟨m,y,l,_⟩:=hw.at_ b.h j f;have:=(List.getElem?_eq_some_iff.1 l).1;rw[ah.m7,ah.b1]at this;unfold ah.cut at this;exact⟨by simpa using m,by simp at this⊢;omega⟩
theorem ah.WF.drop{S:ah}(h:S.WF)(b:Int):(S.drop b).2.2.WF:=by
 unfold ah.drop;cases d:aw S.at_ b with
 |none=>exact h
 |some i=>
  obtain⟨k,f,g⟩:=h.jP b i d;obtain⟨n,rfl⟩:=Int.eq_ofNat_of_zero_le k;simp only[Int.toNat_natCast]at f g⊢;obtain⟨t,j⟩:∃t,S.l[n]?=some t:=⟨_,List.getElem?_eq_getElem f⟩;obtain⟨c,e⟩:∃c,S.l[S.l.length-1]?=some c:=⟨_,List.getElem?_eq_getElem (by omega)⟩;rw[j,e];dsimp only;by_cases a:n<S.l.length-1
  ·rw[if_pos a]
   obtain⟨_,k2⟩:=g a c e;have hlen:(((S.cut b).lay n c).up n).l.length=S.l.length-1:=(by rw[ah.m7,ah.b1];unfold ah.cut;simp);exact((h.uA d a e).up (by rw[ah.b1];unfold ah.cut;simp;omega)).down (by rw[hlen];exact k2)
  ·rw[if_neg a];exact h.yb d a
theorem ah.WF.pop{S:ah}(h:S.WF)(now:Int):(S.pop now).2.2.WF:=by
 unfold ah.pop;split
 ·exact h
 ·split
  ·exact h
  ·exact h.drop _
theorem ah.Cq:ah.new.WF:=⟨by unfold f' ah.new;simp,fun k j hj=>by cases hj⟩
end
structure aN where
 now:Int
 heap:ah
 ff:List (Int×Int×Int)
def ib(x:Int×Int):Value:=.agg #[.int .i64 x.1,.int .u64 x.2]
structure aX(w:World)(b hb mb qb:Nat)(v:Value)(S:aN):Prop where
 head:Row w b 226 [.int .u64 S.now,.pointer (some ⟨hb,0,none⟩),.map (some qb)]
 heap:aM w hb mb v S.heap
 ff:bH w qb .u64 ib S.ff
 ne:qb≠mb
def e0(b a mb c:Nat)(v:Value):Nat->Prop:=fun i=>i=b∨i=c∨cn a mb v i
theorem aX.alloc{w:World}{b c mb d:Nat}{v:Value}{S:aN}(h:aX w b c mb d v S)(a:Obj):aX (w.alloc a) b c mb d v S:=⟨h.head.alloc a,h.heap.alloc a,h.ff.alloc a,h.ne⟩
theorem aX.drew{w:World}{b a mb c:Nat}{v:Value}{S:aN}(h:aX w b a mb c v S):aX w.drew b a mb c v S:=⟨h.head,h.heap.drew,h.ff,h.ne⟩
theorem aX.ch{w w':World}{D:Nat->Prop}{b a mb d:Nat}{v:Value}{S:aN}(h:aX w b a mb d v S)(c:Ch D w w')(e:¬D b)(f:¬D a)(i:¬D mb)(j:¬D d)(k:∀g,v.ownBlock=some g->¬D g):aX w' b a mb d v S:=
 ⟨h.head.ch c e,h.heap.ch c f i k,h.ff.ch c j,h.ne⟩
theorem aX.uB{w:World}{b c mb d:Nat}{v:Value}{S:aN}(h:aX w b c mb d v S):¬cn c mb v b/\¬cn c mb v d:=by
 refine⟨?_,?_⟩
 ·rintro(a|a|a)
  ·exact h.head.ne h.heap.head (by decide) a
  ·exact h.heap.map.ne h.head a.symm
  ·exact aY h.heap.own h.head (by decide) a
 ·rintro(a|a|a)
  ·exact h.ff.ne h.heap.head a
  ·exact h.ne a
  ·exact ia h.heap.own h.ff a
theorem pM(b a mb c:Nat)(v:Value)(S:aN)(w:World)(h:aX w b a mb c v S):Calls prog 84 #[.pointer (some ⟨b,0,none⟩)] w (d' (.int .u64 S.now) w):=by
 have d:=h.head.c1;clear h;go_enter func84,ntmps84
 go_wp2
 go_ret;exact d'.mk rfl
def aN.bl(S:aN)(id:Int):Bool×aN:=
 match aw S.ff id with
 |none=>(false,S)
 |some x=>(true,{S with heap:=(S.heap.drop x.1).2.2,ff:=fk S.ff id})
theorem aX.drop{w w':World}{b a mb d:Nat}{v f:Value}{S:aN}{e:ah}(h:aX w b a mb d v S)(g:aM w' a mb f e)(c:Ch (cn a mb v) w w'):aX w' b a mb d f {S with heap:=e}/\Ch (e0 b a mb d v) w w':=
 ⟨⟨h.head.ch c h.uB.1,g,h.ff.ch c h.uB.2,h.ne⟩,c.mono fun i j=>Or.inr (Or.inr j)⟩
theorem aX.del{w w':World}{b c mb a:Nat}{v:Value}{S:aN}{l:List (Int×Int×Int)}(h:aX w b c mb a v S)(i:bH w' a .u64 ib l)(d:Ch (aK a) w w'):aX w' b c mb a v {S with ff:=l}:=
 ⟨h.head.ch d (fun e=>h.ff.ne h.head (show _=_ from Eq.symm e)),h.heap.ch d (fun e=>h.ff.ne h.heap.head (show _=_ from Eq.symm e)) (fun e=>h.ne (show _=_ from Eq.symm e)) (fun g f e=>ia h.heap.own h.ff (by rw[f];exact congrArg some e)),i,h.ne⟩
section
attribute [local go_sem↓] Go.wp_at_zero Go.wp_at_succ
def aN.arm(S:aN)(id dl:Int):Bool×aN:=
 if id==0 then(false,S)else
 match aw S.ff id with
 |some _=>(false,S)
 |none=>if dl !=18446744073709551615 then(true,{S with heap:=(S.heap.put dl id).2,ff:=b8 S.ff id ((S.heap.put dl id).1,dl)})else(true,S)
def aN.new:aN:=⟨0,ah.new,[]⟩
theorem ki(w:World):Calls prog 62 #[] w (fun e w'=>∃b a mb f,e=.returned (.pointer (some ⟨b,0,none⟩))/\aX w' b a mb f (.slice none 0 0) aN.new/\w.heap.size<=b/\w.heap.size<=a/\w.heap.size<=mb/\w.heap.size<=f/\Ch ag w w'):=by
 have m:= @run_makeMap prog;go_enter func62,ntmps62
 go_wp2_with fail
 refine(q0 _).mono ?_;rintro e w1 ⟨a,mb,rfl,d,i,j,c⟩;have h:=Z d;have g:=Z c;have k:=c.size;have l:=d.map.lt;clear d c;go_wp2
 go_ret;refine⟨w1.heap.size+1,a,mb,w1.heap.size,rfl,⟨?_,(h.out.alloc _).alloc _,⟨#[],0,?_,rfl⟩,by omega⟩,by omega,i,j,k,(g.out.alloc _).alloc _⟩
 ·have:=Row.new (w1.alloc (.map #[] 0)) #[.int .u64 0,.pointer (some ⟨a,0,none⟩),.map (some w1.heap.size)] 226
  rw[World.size_alloc]at this;exact this
 ·rw[Below.heap_alloc _ _ _ (by simp)];exact heap_alloc_new w1 _
end
section
attribute [local go_sem↓] Go.wp_at_zero Go.wp_at_succ
def ed:Nat->aN->List Int->aN×List Int
 |0,S,acc=>(S,acc)
 |f+1,S,acc=>
  if(S.heap.pop S.now).2.1 then ed f {S with heap:=(S.heap.pop S.now).2.2,ff:=fk S.ff (S.heap.pop S.now).1} (acc++[(S.heap.pop S.now).1])else(S,acc)
def aN.tick(S:aN):aN×List Int:=
 ed (S.heap.l.length+1) {S with now:=IntKind.u64.wrap (S.now+1)} []
theorem jt:(prog.info? 39).map (fun i=>(i.zero,i.size,i.bytes))=some (some (.int .u64 0),1,8):=by kernel_rfl
theorem pO{w:World}{B f:Nat}{e a:TypeId}{s s':Nat}{v d:Value}{n m:Nat}{o p:List Value}(h:w.ownsRow B e s v n o)(i:w.ownsRow f a s' d m p)(j:e≠a){k:Nat}(b:v.ownBlock=some k):d.ownBlock≠some k:=by
 rcases h.2 with⟨rfl,_⟩|⟨g,cap,cur,rfl,_,l,_⟩
 ·cases b
 ·have:g=k:=by simpa[Value.ownBlock]using b
  subst this;exact aY (c:=cur.toList) i (by unfold Row;simpa using l) j
theorem aX.grown{w w':World}{b c mb d:Nat}{v:Value}{S:aN}(h:aX w b c mb d v S){B:Nat}{u:Value}{n:Nat}{j:List Value}(a:w.ownsRow B 39 1 u n j)(f:w.grownBy w' u.ownBlock):aX w' b c mb d v S:=
 h.ch (Ch.bQ f) (aY a h.head (by decide)) (aY a h.heap.head (by decide)) (ia a h.heap.map) (ia a h.ff) (fun g i e=>pO a h.heap.own (by decide) e i)
theorem iP{w w':World}{B:Nat}{D:Nat->Prop}{a:World}{e:TypeId}{s:Nat}{u:Value}{n:Nat}{h:List Value}(c:Ch D a w)(f:w.ownsRow B e s u n h)(j:a.heap.size<=B)(d:w.grownBy w' u.ownBlock):Ch D a w':=
 c.join (Ch.bQ d) (fun i l b=>by
  rcases f.2 with⟨rfl,_⟩|⟨g,cap,cur,rfl,k,_⟩
  ·cases b
  ·have:g=i:=by simpa[Value.ownBlock]using b
   omega)
end
end Go.Proofs.YtlihkblppjgebaaGreatDoor
