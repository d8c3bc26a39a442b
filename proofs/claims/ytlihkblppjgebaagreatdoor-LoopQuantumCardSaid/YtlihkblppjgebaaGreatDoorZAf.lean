import Derived.Deep.DrawnRows
import Derived.Deep.LoopGhost
import Derived.Test.YtlihkblppjgebaaGreatDoorZAb
import Derived.Test.YtlihkblppjgebaaGreatDoorZAc
import Derived.Test.YtlihkblppjgebaaGreatDoorZAe
set_option linter.all false
set_option maxRecDepth 100000
set_option maxHeartbeats 0
namespace Go.Proofs.YtlihkblppjgebaaGreatDoor
open Go.RowKit Go.Proofs.Tryz
section
attribute [local go_sem↓] Go.wp_at_zero Go.wp_at_succ
variable{w w1:World}{r:Option Nat}{B k n:Nat}{e:TypeId}{v:Value}{xs:List Value}
theorem Ch.bK{w':World}(h:w.grownBy w' r):Ch (fun i=>r=some i) w w':=⟨h.os,h.tape,h.output,h.size,fun b hb hd=>h.block b hb (fun e=>hd e.symm)⟩
theorem ao{o:Obj}(h:(w.alloc o).grownBy w1 r):w.grownBy w1 r:=
 ⟨h.os,h.tape,h.output,by have:=h.size;simp at this;omega,fun k a b=>(h.block k (by simp;omega) b).trans (Below.heap_alloc _ _ _ a)⟩
theorem cY(h:w.drew.grownBy w1 r):w.grownBy w1 r:=⟨h.os,h.tape,h.output,h.size,h.block⟩
theorem aZ{size:Nat}(h:w.ownsRow B e size v n xs){c:List Value}{t:TypeId}(a:Row w k t c)(i:t≠e):v.ownBlock≠some k:=by
 rcases h.2 with⟨rfl,_⟩|⟨g,cap,cur,rfl,_,d,_⟩
 ·simp[Value.ownBlock]
 ·intro f
  have:g=k:=by simpa[Value.ownBlock]using f
  subst this;unfold Row at a;rw[d]at a;injection a with a
  injection a with _ b _
  exact i b.symm
theorem iJ{α:Type}{size:Nat}(h:w.ownsRow B e size v n xs){q:IntKind}{enc:α->Value}{l:List (Int×α)}(f:bS w k q enc l):v.ownBlock≠some k:=by
 rcases h.2 with⟨rfl,_⟩|⟨g,cap,cur,rfl,_,b,_⟩
 ·simp[Value.ownBlock]
 ·intro d
  have:g=k:=by simpa[Value.ownBlock]using d
  subst this;obtain⟨i,c,a,_⟩:=f;rw[b]at a;cases a
theorem au{size:Nat}(h:w.ownsRow B e size v n xs):∃a c,v=.slice a n c:=by
 rcases h.2 with⟨rfl,rfl⟩|⟨g,cap,cur,rfl,_⟩
 ·exact⟨_,_,rfl⟩
 ·exact⟨_,_,rfl⟩
theorem aM.app{w4:World}{b mb g cap:Nat}{S:ah}{t:ba}(h:aM w b mb v S)
 (d:w4.ownsRow 0 328 3 (.slice (some (g,0)) (S.l.length+1) cap) (S.l.length+1) (S.l.flatMap ba.cells++t.cells)) (m:w.grownBy w4 v.ownBlock):
 aM (w4.setCell (b,0) (.slice (some (g,0)) (S.l.length+1) cap)) b mb (.slice (some (g,0)) (S.l.length+1) cap) {S with l:=S.l++[t]}/\
 Ch (cu b mb v) w (w4.setCell (b,0) (.slice (some (g,0)) (S.l.length+1) cap)):=by
 have c:=Ch.bK m;have a:=h.head.ch c (aZ h.own h.head (by decide));have f:=h.map.ch c (iJ h.own h.map);have j:b≠g:=by
  intro e;subst e;exact aZ d a (by decide) rfl
 refine⟨⟨a.bc _ _ rfl,?_,f.other (fun e=>f.ne a e) _⟩,(Ch.mono (E:=cu b mb v) c fun i o=>Or.inr (Or.inr o)).hj (p:=⟨b,0,none⟩) (Or.inl rfl) _⟩;have:(S.l++[t]).flatMap ba.cells=S.l.flatMap ba.cells++t.cells:=by simp
 rw[this];show(w4.setCell (b,0) _).ownsRow 0 328 3 _ (S.l++[t]).length _
 rw[List.length_append,List.length_cons,List.length_nil];have:=ak (D:=aH b) d ((Ch.refl _ _).only 0 (.slice (some (g,0)) (S.l.length+1) cap)) (fun k q e=>by
  have:g=k:=by simpa[Value.ownBlock]using q
  subst this;exact j (show _=_ from e.symm))
 exact this
theorem Ch.join{D E:Nat->Prop}{a b c:World}(h:Ch D a b)(k:Ch E b c)(hd:∀i,i<a.heap.size->E i->D i):Ch D a c:=
 ⟨k.os.trans h.os,k.tape.trans h.tape,k.output.trans h.output,Nat.le_trans h.size k.size,fun i d f=>(k.same i (Nat.lt_of_lt_of_le d h.size) (fun g=>f (hd i d g))).trans (h.same i d f)⟩
def ah.put(S:ah)(d a:Int):Int×ah:=
 let n:=wrap64 (S.last+1)
 (n,ah.up {S with last:=n,l:=S.l++[⟨d,a,n⟩]} S.l.length)
def vK(x:Int×ah)(b mb:Nat)(v:Value)(w:World)(e:Ending)(w':World):Prop:=e=.returned (.int .i64 x.1)/\(∃v',aM w' b mb v' x.2/\aS w v v')/\Ch (cu b mb v) w w'
theorem w6:(prog.info? 328).map (fun i=>(i.zero,i.size,i.bytes))=some (some (.agg #[.int .u64 0,.int .u64 0,.int .i64 0]),3,24):=by kernel_rfl
theorem px:∀(f:Nat) (S:ah) (i:Nat) (t:ba),(gZ f S i t).1.last=S.last
 |0,_,_,_=>rfl
 |f+1,S,i,t=>by
  unfold gZ;split
  ·rfl
  ·split
   ·rfl
   ·split
    ·rw[px];rfl
    ·rfl
theorem ah.BW(S:ah)(i:Nat):(S.up i).last=S.last:=by
 unfold ah.up;split
 ·rfl
 ·exact px _ _ _ _
theorem Dr(b mb:Nat)(v:Value)(S:ah)(i:Nat)(d:i<S.l.length)(hb:S.l.length<=1000000)(w:World)(h:aM w b mb v S)(a:Int)(c:a=i):
 Calls prog 199 #[(b,0),a] w (lH b mb v (S.up i) w):=by subst c;exact D1 b mb v S i d hb w h
theorem BX(b mb:Nat)(v:Value)(S:ah)(i:Nat)(d:i<S.l.length)(hb:S.l.length<=1000000)(w:World)(h:aM w b mb v S)(a:Int)(c:a=i):
 Calls prog 200 #[(b,0),a] w (lH b mb v (S.down i) w):=by subst c;exact zp b mb v S i d hb w h
theorem rK(b mb:Nat)(v:Value)(S:ah)(d c:Int)(hb:S.l.length<=900000)(w:World)(h:aM w b mb v S):
 Calls prog 240 #[(b,0),.int .u64 d,.int .u64 c] w (vK (S.put d c) b mb v w):=by
 obtain⟨al,O,a9,ab,ad⟩:=info_parts w6;have W:=Z O;obtain⟨J,K,R⟩:=au h.own;have f:=Z h;have a1:=h.head.k 2 rfl;have f2:=h.head.free 2;obtain⟨N,s⟩:=mn S.l.length;rw[<-s]at R hb;have g:=Z s;obtain⟨n,F⟩:=mn (wrap64 (S.last+1));have E:Hid (S.put d c=(n,ah.up {S with last:=n,l:=S.l++[⟨d,c,n⟩]} N)):=Z (by unfold ah.put;rw[<-F,s]);have a0:=Z F;clear h s O F;go_wp2
 rw[<-a0];obtain⟨w1,x⟩:=nm (w.setCell (b,2) (.int .i64 n));have a:Hid (aM w1 b mb v {S with last:=n}):=Z (by
  rw[<-x];exact⟨f.head.bc _ _ rfl,ak (D:=aH b) f.own ay (fun k a3 e=>aZ f.own f.head (by decide) (by rw[a3];exact congrArg some e)),f.out.map.other (fun e=>f.out.map.ne f.head e) _⟩)
 have y:Hid (Ch (cu b mb v) w w1):=Z (by rw[<-x];exact(Ch.refl _ _).hj (p:=⟨b,2,none⟩) (Or.inl rfl) _);rw[x];clear x a1 f2;have d0:=a.head.c1;have d2:=a.head.k 2 rfl;have L:=a.head.free 0;have G:=a.own;rw[show({S with last:=n}:ah).l=S.l from rfl,<-g]at G;have Q:=a.head.lt;have H:v.ownBlock≠some b:=aZ a.own a.head (by decide);subst R;go_region_law (first|(refine step_append_lies _ (by rfl) _ _ _ (by rfl) 0 328 al _ 3 24 underlying305 W a9 ab ad rfl (by omega) _ N (S.l.flatMap ba.cells) (by rfl) ((G.alloc _).drew) ⟨w1.heap.size,0,none⟩ 1 1 [.int .u64 d,.int .u64 c,n] (by rfl) (by rfl) (World.news_of_block (cs:=#[.int .u64 d,.int .u64 c,n]) (t:=328) (fr:=(0,0)) (heap_alloc_new w1 _)) (by simp[Value.oneCell']) (by omega) (by unfold maxLen;omega) (by omega) (by simp) (w1.heap.size+1) (by simp) ?_;intro j cap w4 P u A a4;have am:w4.cell? (b,0)=_:=(u.cell_far ⟨b,0,none⟩ (by simp;omega) (Ne.symm H)).trans (by simp[go_sem,World.cell?_alloc_past,Q,d0];rfl);have ap:w4.frozen? (b,0)=false:=(u.frozen_far ⟨b,0,none⟩ (by simp;omega) (Ne.symm H)).trans (by simp[go_sem,World.frozen?_alloc_past,Q,L])))
 all_goals
  have q:=a.app (t:=⟨d,c,n⟩) (by rw[show({S with last:=n}:ah).l=S.l from rfl,<-g];exact P) (ao (cY u));rw[show({S with last:=n}:ah).l=S.l from rfl,<-g]at q;have z:=Z q.1;have I:=Z (y.trans q.2);obtain⟨aP,T⟩:=nm (w4.setCell (b,0) (.slice (some (j,0)) (N+1) cap));rw[T]at z I⊢;have X:Hid (∀i,i<w.heap.size->cu b mb (.slice (some (j,0)) (N+1) cap) i->cu b mb (.slice J N K) i):=Z (fun i av a5=>by
   rcases a5 with m|m|m
   ·exact Or.inl m
   ·exact Or.inr (Or.inl m)
   ·have a2:j=i:=by simpa[Value.ownBlock]using m
    rcases A with o|o
    ·exact Or.inr (Or.inr (by rw[o,a2]))
    ·have:=y.size;omega)
  have Y:Hid (aS w (.slice J N K) (.slice (some (j,0)) (N+1) cap)):=Z (aS.at (by
   rcases A with o|o
   ·exact Or.inl (by rw[o])
   ·have:=y.size;exact Or.inr (by omega)))
  clear q T P u A a4 am ap d0 d2 L G H;have d0:=z.head.c1;go_wp2_with fail
  with_reducible refine(Dr b mb (.slice (some (j,0)) (N+1) cap) {S with last:=n,l:=S.l++[⟨d,c,n⟩]} N ?_ ?_ _ z.out _ ?_).mono ?_
  ·show N<(S.l++[_]).length
   rw[List.length_append,<-g];simp
  ·show(S.l++[_]).length<=_
   rw[List.length_append,<-g];simp;omega
  ·omega
  rintro e bb ⟨rfl,C,M⟩;have V:=Z C;have U:=Z (I.join M X);have d2:=C.head.k 2 rfl;rw[ah.BW]at d2;clear C M d0;go_wp2
  go_ret;rw[E];exact⟨rfl,⟨_,V,Y⟩,U⟩
end
def ah.cut(S:ah)(h:Int):ah:={S with l:=S.l.take (S.l.length-1),at_:=fs S.at_ h}
def ah.drop(S:ah)(h:Int):Int×Bool×ah:=
 match aw S.at_ h with
 |none=>(0,false,S)
 |some i=>match S.l[i.toNat]?,S.l[S.l.length-1]? with
  |some t,some last=>
   if i.toNat<S.l.length-1 then
    let a:=((S.cut h).lay i.toNat last).up i.toNat
    (t.bY,true,a.down ((aw a.at_ last.h).getD 0).toNat)
   else(t.bY,true,S.cut h)
  |_,_=>(0,false,S)
def ah.j'(S:ah)(h:Int):Prop:=∀i,aw S.at_ h=some i->0<=i/\i.toNat<S.l.length/\
 (i.toNat<S.l.length-1->∀last,S.l[S.l.length-1]?=some last->0<=(aw (((S.cut h).lay i.toNat last).up i.toNat).at_ last.h).getD 0/\((aw (((S.cut h).lay i.toNat last).up i.toNat).at_ last.h).getD 0).toNat<S.l.length-1)
theorem rL:∀(f:Nat) (S:ah) (i:Nat) (t:ba),(gZ f S i t).1.l.length=S.l.length
 |0,_,_,_=>rfl
 |f+1,S,i,t=>by
  unfold gZ;split
  ·rfl
  ·split
   ·rfl
   ·split
    ·rw[rL,ah.b7]
    ·rfl
theorem ah.nJ(S:ah)(i:Nat):(S.up i).l.length=S.l.length:=by
 unfold ah.up;split
 ·rfl
 ·rw[ah.b7,rL]
theorem jP{α:Type}{enc:α->List Value}{k:Nat}(a:∀x,(enc x).length=k):∀(l:List α) (n:Nat),(l.flatMap enc).take (n*k)=(l.take n).flatMap enc
 |[],n=>by simp
 |x::l,0=>by simp
 |x::l,n+1=>by
  rw[List.flatMap_cons,List.take_succ_cons,List.flatMap_cons,Nat.succ_mul,List.take_append,a,show n*k+k-k=n*k from by omega,jP a l n,List.take_of_length_le (by rw[a];omega)]
theorem aM.shrink{w:World}{b mb g cap m:Nat}{S:ah}(h:aM w b mb (.slice (some (g,0)) (m+1) cap) S)(c:S.l.length=m+1):
 aM (w.setCell (b,0) (.slice (some (g,0)) m cap)) b mb (.slice (some (g,0)) m cap) {S with l:=S.l.take m}:=by
 have i:b≠g:=fun e=>aZ h.own h.head (by decide) (by rw[e];rfl)
 have q:w.ownsRow 0 328 3 (.slice (some (g,0)) m cap) m ((S.l.take m).flatMap ba.cells):=by
  rcases h.own.2 with⟨a,_⟩|⟨u,t,cur,j,f,n,x,p,r,s⟩
  ·cases a
  ·injection j with a v d
   injection a with a
   injection a with a
   subst a d;refine⟨by rw[aU ba.len,List.length_take];omega,Or.inr ⟨g,cap,cur,rfl,f,n,by omega,p,r,?_⟩⟩;rw[<-jP ba.len,<-s,List.take_take]
   congr 1;rw[c];omega
 refine⟨h.head.bc _ _ rfl,?_,h.map.other (fun e=>h.map.ne h.head e) _⟩;show(w.setCell _ _).ownsRow 0 328 3 _ (S.l.take m).length _
 rw[List.length_take,c,Nat.min_eq_left (by omega)];exact ak (D:=aH b) q ay (fun k o e=>by
  have:g=k:=by simpa[Value.ownBlock]using o
  subst this;exact i (show _=_ from e.symm))
def qk(x:Int×Bool×ah)(b mb:Nat)(v:Value)(w:World)(e:Ending)(w':World):Prop:=e=.returned (.tuple #[.int .u64 x.1,.bool x.2.1])/\(∃v',aM w' b mb v' x.2.2/\(v'.ownBlock=v.ownBlock))/\Ch (cu b mb v) w w'
theorem kE(b mb:Nat)(v:Value)(S:ah)(hd:Int)(hb:S.l.length<=900000)(am:S.j' hd)(w:World)(h:aM w b mb v S):
 Calls prog 161 #[(b,0),hd] w (qk (S.drop hd) b mb v w):=by
 have I:=Z h;have av:∀w,(zeroValue 3).run prog w=.ok (.int .i64 0) w:=fun w=>by kernel_rfl
 have B:=gg (P:=prog) (T:=304) (K:=3) (E:=3) underlying304 underlying3 (av w) h.map hd;obtain⟨a3,a4⟩:=h.head.c2;have f0:=h.head.free 0;cases r:aw S.at_ hd with
 |none=>
  rw[r]at B;have E:Hid (S.drop hd=(0,false,S)):=Z (by unfold ah.drop;rw[r]);simp only[Option.map_none,Option.getD_none,Option.isSome_none]at B;go_wp2
  go_ret2;rw[E];exact⟨rfl,⟨v,I,rfl⟩,Ch.refl _ _⟩
 |some aP=>
  rw[r]at B;obtain⟨a5,c,M⟩:=am aP r;obtain⟨i,rfl⟩:=Int.eq_ofNat_of_zero_le a5;rw[Int.toNat_natCast]at c M;obtain⟨t,G⟩:∃t,S.l[i]?=some t:=⟨_,List.getElem?_eq_getElem c⟩;obtain⟨m,s⟩:∃m,S.l.length=m+1:=⟨S.l.length-1,by omega⟩;obtain⟨a,A⟩:∃a,S.l[m]?=some a:=⟨_,List.getElem?_eq_getElem (by omega)⟩;have E:Hid (S.drop hd=if i<m then(t.bY,true,(((S.cut hd).lay i a).up i).down ((aw (((S.cut hd).lay i a).up i).at_ a.h).getD 0).toNat)else(t.bY,true,S.cut hd)):=Z (by
   unfold ah.drop;rw[r];simp only[Int.toNat_natCast,G,s,Nat.add_sub_cancel,A])
  have R:Hid (i<m->0<=(aw (((S.cut hd).lay i a).up i).at_ a.h).getD 0/\((aw (((S.cut hd).lay i a).up i).at_ a.h).getD 0).toNat<m):=Z (fun l=>by
   have:=M (by omega) a (by rw[s,Nat.add_sub_cancel];exact A);rw[s,Nat.add_sub_cancel]at this;exact this)
  obtain⟨g,cap,rfl,ad,ca,cb,cd,c0⟩:=h.at G;obtain⟨ce,ch,ci,-,-,-,-⟩:=h.cell A;rw[s]at a3 I ad h⊢;have u:=Z s;have bw:=Z G;have bv:=Z A;have c1:(i:Int)<(m:Int)+1:=by omega
  have bX:((m+1:Nat):Int)=(m:Int)+1:=by omega
  have c7:(m:Int)+1-1=(m:Int):=by omega
  have bx:=h.head.lt;have c5:=h.map.lt;have bZ:g≠b:=fun e=>aZ h.own h.head (by decide) (by rw[e];rfl)
  have c2:i<=m:=by omega
  have c4:m<=900000:=by omega
  simp only[Option.map_some,Option.getD_some,Option.isSome_some]at B;have ab:bS (((w.setCell (b,0) (.slice (some (g,0)) m cap)).alloc (.cells #[.int .u64 t.d,.int .u64 t.bY,.int .i64 t.h] 328)).alloc (.cells #[.int .u64 a.d,.int .u64 a.bY,.int .i64 a.h] 328)) mb .i64 (Value.int .i64) S.at_:=((h.map.other (fun e=>h.map.ne h.head e) _).alloc _).alloc _;obtain⟨C,c6,a9,x⟩:=fv (P:=prog) (T:=304) (K:=3) (E:=3) (ty:=0) (kT:=3) underlying304 underlying3 ab hd;have a2:=Z (h.shrink u);have f:Hid (Row C w.heap.size 328 t.cells/\Row C (w.heap.size+1) 328 a.cells/\aM C b mb (.slice (some (g,0)) m cap) (S.cut hd)/\Ch (cu b mb (.slice (some (g,0)) (m+1) cap)) w C):=Z (by
   have ap:=(a2.alloc (.cells #[.int .u64 t.d,.int .u64 t.bY,.int .i64 t.h] 328)).alloc (.cells #[.int .u64 a.d,.int .u64 a.bY,.int .i64 a.h] 328);refine⟨?_,?_,?_,?_⟩
   ·refine Row.ch ?_ x (fun e=>by have:w.heap.size=mb:=e;omega)
    have:=Row.new (w.setCell (b,0) (.slice (some (g,0)) m cap)) #[.int .u64 t.d,.int .u64 t.bY,.int .i64 t.h] 328;rw[World.size_setCell]at this;exact this.alloc _
   ·refine Row.ch ?_ x (fun e=>by have:w.heap.size+1=mb:=e;omega)
    have:=Row.new ((w.setCell (b,0) (.slice (some (g,0)) m cap)).alloc (.cells #[.int .u64 t.d,.int .u64 t.bY,.int .i64 t.h] 328)) #[.int .u64 a.d,.int .u64 a.bY,.int .i64 a.h] 328;rw[World.size_alloc,World.size_setCell]at this;exact this
   ·have:=ap.Hs a9 x
    unfold ah.cut;rw[u,Nat.add_sub_cancel];exact this
   ·exact((((Ch.refl _ _).hj (p:=⟨b,0,none⟩) (Or.inl rfl) _).alloc _).alloc _).trans (rJ x))
  by_cases q:i<m
  ·have al:(i:Int)<m:=by omega
   obtain⟨bb,Q⟩:=R q;obtain⟨j,F⟩:=Int.eq_ofNat_of_zero_le bb;rw[F,Int.toNat_natCast]at Q;have D:Hid (S.drop hd=(t.bY,true,(((S.cut hd).lay i a).up i).down j)):=Z (by rw[E,if_pos q,F,Int.toNat_natCast]);have a1:=Z F;go_in
   obtain⟨c8,c9,bd⟩:=f.2.1.c3;have o:Hid ((S.cut hd).l.length=m):=Z (by unfold ah.cut;rw[u];simp[u.out]);have H:Hid (¬cu b mb (.slice (some (g,0)) m cap) w.heap.size):=Z (by
    rintro(c|c|c)
    ·omega
    ·omega
    ·have:g=w.heap.size:=by simpa[Value.ownBlock]using c
     omega)
   have O:Hid (¬cu b mb (.slice (some (g,0)) m cap) (w.heap.size+1)):=Z (by
    rintro(c|c|c)
    ·omega
    ·omega
    ·have:g=w.heap.size+1:=by simpa[Value.ownBlock]using c
     omega)
   go_wp2_with fail
   with_reducible refine(ub b mb (.slice (some (g,0)) m cap) (S.cut hd) i (by rw[o.out];exact q) a _ f.out.2.2.1 _ ?_).mono ?_
   ·rfl
   rintro e w4 ⟨rfl,k,d⟩;have X:=Z k;have J:Hid (Row w4 w.heap.size 328 t.cells/\Row w4 (w.heap.size+1) 328 a.cells):=Z ⟨f.1.ch d H.out,f.2.1.ch d O.out⟩;have U:Hid (Ch (cu b mb (.slice (some (g,0)) (m+1) cap)) w w4):=Z (f.2.2.2.trans (d.mono fun i l=>by rcases l with c|c|c;exact Or.inl c;exact Or.inr (Or.inl c);exact Or.inr (Or.inr c)));go_wp2_with fail
   with_reducible refine(Dr b mb (.slice (some (g,0)) m cap) ((S.cut hd).lay i a) i (by rw[ah.b7,o.out];exact q) (by rw[ah.b7,o.out];omega) _ X.out _ ?_).mono ?_
   ·rfl
   rintro e n ⟨rfl,k,d⟩;have Y:=Z k;have L:Hid (Row n w.heap.size 328 t.cells/\Row n (w.heap.size+1) 328 a.cells):=Z ⟨J.1.ch d H.out,J.2.ch d O.out⟩;have V:Hid (Ch (cu b mb (.slice (some (g,0)) (m+1) cap)) w n):=Z (U.trans (d.mono fun i l=>by rcases l with c|c|c;exact Or.inl c;exact Or.inr (Or.inl c);exact Or.inr (Or.inr c)));have a4:=k.head.k 1 rfl;have bd:=L.2.k 2 rfl;have c3:(Instr.lookup 304 (.map (some mb)) (.int .i64 a.h) false).run prog n.drew=.ok (.int .i64 j) n.drew:=by
    rw[ft (P:=prog) (T:=304) (K:=3) (E:=3) (z:=.int .i64 0) underlying304 underlying3 (by kernel_rfl) k.map.drew a.h];have:=a1.out;cases N:aw (((S.cut hd).lay i a).up i).at_ a.h with
    |none=>rw[N]at this;rw[<-this];rfl
    |some y=>rw[N]at this;rw[<-this];rfl
   go_wp2
   go_still_tail 8,(by kernel_rfl)
   change wpList _ _ _ _ _ n.drew;go_wp2_with fail
   with_reducible refine(BX b mb (.slice (some (g,0)) m cap) (((S.cut hd).lay i a).up i) j (by rw[ah.nJ,ah.b7,o.out];exact Q) (by rw[ah.nJ,ah.b7,o.out];omega) _ Y.out.drew _ ?_).mono ?_
   ·rfl
   rintro e bi ⟨rfl,k,d⟩;have a0:=Z k;have W:Hid (Ch (cu b mb (.slice (some (g,0)) (m+1) cap)) w bi):=Z (V.drew.trans (d.mono fun i l=>by rcases l with c|c|c;exact Or.inl c;exact Or.inr (Or.inl c);exact Or.inr (Or.inr c)));have t1:=(L.1.drew.ch d H.out).cell (i:=1) rfl;go_wp2
   go_ret2;rw[D];exact⟨rfl,⟨_,a0,rfl⟩,W⟩
  ·have al:¬(i:Int)<m:=by omega
   have D:Hid (S.drop hd=(t.bY,true,S.cut hd)):=Z (by rw[E,if_neg q]);have t1:=f.1.k 1 rfl;go_wp2
   go_ret2;rw[D];exact⟨rfl,⟨_,f.2.2.1,rfl⟩,f.2.2.2⟩
def ah.pop(S:ah)(now:Int):Int×Bool×ah:=
 match S.l with
 |[]=>(0,false,S)
 |t::_=>if now<t.d then(0,false,S)else S.drop t.h
theorem rM(b mb:Nat)(v:Value)(S:ah)(now:Int)(hb:S.l.length<=900000)(x:∀t∈S.l.head?,S.j' t.h)(w:World)(h:aM w b mb v S):
 Calls prog 127 #[(b,0),.int .u64 now] w (qk (S.pop now) b mb v w):=by
 have f:=Z h;have n:=h.head.c1;cases d:S.l with
 |nil=>
  have E:Hid (S.pop now=(0,false,S)):=Z (by unfold ah.pop;rw[d]);have z:v=.slice none 0 0∨∃a c,v=.slice a 0 c:=by
   obtain⟨a,c,rfl⟩:=au h.own
   right;exact⟨a,c,by rw[d];rfl⟩
  have A:∃a c,v=.slice a 0 c:=by
   rcases z with rfl|o
   ·exact⟨_,_,rfl⟩
   ·exact o
  obtain⟨a,c,rfl⟩:=A;go_wp2
  go_ret2;rw[E];exact⟨rfl,⟨_,f,rfl⟩,Ch.refl _ _⟩
 |cons t l=>
  have y:S.l[0]?=some t:=by rw[d];rfl
  obtain⟨g,cap,rfl,q,B,H,C,D⟩:=h.at y;rw[Nat.zero_mul]at B;have I:w.cell? (g,2)=some (.int .i64 t.h):=by simpa using C
  have u:S.l.length=l.length+1:=by rw[d];rfl
  obtain⟨m,s⟩:=mn l.length;rw[u,<-s]at n f q⊢;have j:=Z (fun w h=>kE b mb (.slice (some (g,0)) (m+1) cap) S t.h hb (x t (by rw[d];rfl)) w h);have F:((m:Int)+1==0)=false:=by rw[beq_eq_false_iff_ne];omega
  have G:(0:Int)<(m:Int)+1:=by omega
  by_cases hd:now<t.d
  ·have E:Hid (S.pop now=(0,false,S)):=Z (by unfold ah.pop;rw[d];simp only[if_pos hd])
   go_wp2
   go_ret2;rw[E];exact⟨rfl,⟨_,f,rfl⟩,Ch.refl _ _⟩
  ·have E:Hid (S.pop now=S.drop t.h):=Z (by unfold ah.pop;rw[d];simp only[if_neg hd])
   go_in
   go_wp2_with fail
   refine(j _ f).mono ?_;rintro e w' ⟨rfl,r,p⟩;have k:=Z r;have i:=Z p;go_wp2
   go_ret2;rw[E];exact⟨rfl,k,i⟩
def ah.new:ah:=⟨[],[],0⟩
theorem rN(w:World):Calls prog 104 #[] w (fun e w'=>∃b mb,e=.returned (.pointer (some ⟨b,0,none⟩))/\aM w' b mb (.slice none 0 0) ah.new/\w.heap.size<=b/\w.heap.size<=mb/\Ch ag w w'):=by
 have a:= @run_makeMap prog;go_wp2
 go_ret;refine⟨w.heap.size+1,w.heap.size,rfl,⟨?_,⟨rfl,Or.inl ⟨rfl,rfl⟩⟩,⟨#[],0,?_,rfl⟩⟩,by omega,Nat.le_refl _,ay⟩
 ·have:=Row.new (w.alloc (.map #[] 0)) #[.slice none 0 0,.map (some w.heap.size),.int .i64 0] 307
  rw[World.size_alloc]at this;exact this
 ·rw[Below.heap_alloc _ _ _ (by simp)];exact heap_alloc_new w _
variable{S:ah}{i:Nat}{hd:Int}{α:Type}
theorem nK:∀(l:List (Int×α)) (k:Int) (i:Nat),eb l k i=none↔∀x∈l,x.1≠k
 |[],_,_=>by simp[eb]
 |x::l,k,i=>by
  unfold eb;split
  ·rename_i h
   have:k=x.1:=(by simpa using h);simp[this]
  ·rename_i h
   have:¬k=x.1:=(by simpa using h);rw[nK l k (i+1)];simp only[List.mem_cons,forall_eq_or_imp];exact⟨fun a=>⟨fun e=>this e.symm,a⟩,fun a=>a.2⟩
theorem ka(x:Int×α)(l:List (Int×α))(k:Int)(i:Nat):eb (x::l) k i=if k==x.1 then some (i,x.2)else eb l k (i+1):=rfl
theorem zq(k:Int):aw ([]:List (Int×α)) k=none:=rfl
theorem da(x:Int×α)(l:List (Int×α))(k:Int):aw (x::l) k=if k=x.1 then some x.2 else aw l k:=by
 unfold aw;rw[ka,gl l k (0+1)];by_cases h:k=x.1
 ·simp[h]
 ·simp only[beq_iff_eq,h,if_false]
  cases eb l k 0<;>simp
theorem kF(k:Int)(v:α):cn [] k v=[(k,v)]:=rfl
theorem dY(x:Int×α)(l:List (Int×α))(k:Int)(v:α):cn (x::l) k v=if k=x.1 then(k,v)::l else x::cn l k v:=by
 unfold cn;rw[ka,gl l k (0+1)];by_cases h:k=x.1
 ·simp[h]
 ·simp only[beq_iff_eq,h,if_false]
  cases eb l k 0<;>simp
theorem ie(x:Int×α)(l:List (Int×α))(k:Int):fs (x::l) k=if k=x.1 then l else x::fs l k:=by
 unfold fs;rw[ka,gl l k (0+1)];by_cases h:k=x.1
 ·simp[h]
 ·simp only[beq_iff_eq,h,if_false]
  cases eb l k 0<;>simp
theorem aV(l:List (Int×α))(k:Int)(v:α)(j:Int):aw (cn l k v) j=if j=k then some v else aw l j:=by
 induction l with
 |nil=>rw[kF,da]
 |cons x l ih=>
  rw[dY];by_cases h:k=x.1
  ·rw[if_pos h,da,da]
   by_cases a:j=k
   ·simp[a]
   ·simp only[a,if_false]
    rw[if_neg (by rw[<-h];exact a)]
  ·rw[if_neg h,da,ih,da]
   by_cases a:j=x.1
   ·rw[if_pos a,if_pos a,if_neg (by rw[a];exact fun e=>h e.symm)]
   ·rw[if_neg a,if_neg a]
theorem gm(l:List (Int×α))(k j:Int)(h:j≠k):aw (fs l k) j=aw l j:=by
 induction l with
 |nil=>rfl
 |cons x l ih=>
  rw[ie];by_cases a:k=x.1
  ·rw[if_pos a,da,if_neg (by rw[<-a];exact h)]
  ·rw[if_neg a,da,da,ih]
theorem w7(l:List (Int×α))(k:Int):aw l k=none↔∀x∈l,x.1≠k:=by
 unfold aw;rw[Option.map_eq_none_iff,nK]
def gn(l:List (Int×α)):Prop:=(l.map (·.1)).Nodup
theorem w8(l:List (Int×α))(k:Int)(v:α):(cn l k v).map (·.1)=if(l.map (·.1)).contains k then l.map (·.1)else l.map (·.1)++[k]:=by
 induction l with
 |nil=>rfl
 |cons x l ih=>
  rw[dY];by_cases h:k=x.1
  ·simp[h]
  ·simp only[h,if_false,List.map_cons,ih,List.contains_cons,beq_iff_eq,Bool.false_or,show(k==x.1)=false from by simpa using h]
   split<;>simp
theorem gn.put{l:List (Int×α)}(h:gn l)(k:Int)(v:α):gn (cn l k v):=by
 unfold gn;rw[w8];split
 ·exact h
 ·rename_i f
  rw[List.nodup_append];refine⟨h,by simp,fun a c b hb=> ?_⟩;have d:b=k:=by simpa using hb
  subst d;intro e;subst e;exact f (by simpa using c)
theorem gn.del{l:List (Int×α)}(h:gn l)(k:Int):gn (fs l k)/\aw (fs l k) k=none:=by
 induction l with
 |nil=>exact⟨h,rfl⟩
 |cons x l ih=>
  have b:x.1∉l.map (·.1)/\(l.map (·.1)).Nodup:=List.nodup_cons.1 h;rw[ie];by_cases c:k=x.1
  ·rw[if_pos c]
   refine⟨b.2,(w7 l k).2 fun y a e=>b.1 ?_⟩;have:=List.mem_map_of_mem (f:=fun x:Int×α=>x.1) a;rw[e,c]at this;exact this
  ·rw[if_neg c]
   obtain⟨i1,i2⟩:=ih b.2;refine⟨?_,?_⟩
   ·refine List.nodup_cons.2 ⟨fun j=>b.1 ?_,i1⟩
    have:∀(l:List (Int×α)) y,y∈fs l k->y∈l:=by
     intro l
     induction l with
     |nil=>intro y a;exact a
     |cons z l m=>
      intro y a;rw[ie]at a;split at a
      ·exact List.mem_cons_of_mem _ a
      ·rcases List.mem_cons.1 a with rfl|a
       ·exact List.mem_cons_self
       ·exact List.mem_cons_of_mem _ (m y a)
    obtain⟨y,a,g⟩:=List.mem_map.1 j;have d:=List.mem_map_of_mem (f:=fun x:Int×α=>x.1) (this l y a);rw[g]at d;exact d
   ·rw[da,if_neg c];exact i2
structure ah.WF(S:ah):Prop where
 nd:gn S.at_
 at_:∀k j,aw S.at_ k=some j->0<=j/\∃x,S.l[j.toNat]?=some x/\x.h=k
structure ah.lI(S:ah)(i:Nat)(t:ba):Prop where
 nd:gn S.at_
 lt:i<S.l.length
 at_:∀k j,k≠t.h->aw S.at_ k=some j->0<=j/\j.toNat≠i/\∃x,S.l[j.toNat]?=some x/\x.h=k
theorem ah.WF.hole(h:S.WF){t:ba}(c:S.l[i]?=some t):S.lI i t:=
 ⟨h.nd,(List.getElem?_eq_some_iff.1 c).1,fun k j g f=>by
  obtain⟨d,x,a,b⟩:=h.at_ k j f;refine⟨d,fun e=>g ?_,x,a,b⟩;rw[e,c]at a;rw[<-b,<-Option.some.inj a]⟩
theorem ah.lI.fill{t:ba}(h:S.lI i t):(S.lay i t).WF:=
 ⟨h.nd.put _ _,fun k j a=>by
  unfold ah.lay at a⊢;dsimp only at a⊢;rw[aV]at a;by_cases b:k=t.h
  ·rw[if_pos b]at a
   have:(i:Int)=j:=Option.some.inj a;subst this;exact⟨by omega,t,by rw[Int.toNat_natCast,List.getElem?_set_self h.lt],b.symm⟩
  ·rw[if_neg b]at a
   obtain⟨c,d,x,g,f⟩:=h.at_ k j b a;exact⟨c,x,by rw[List.getElem?_set_ne (fun e=>d e.symm)];exact g,f⟩⟩
theorem ah.lI.shift{p:Nat}{t x:ba}(h:S.lI i t)(f:S.l[p]?=some x)(n:p≠i):(S.lay i x).lI p t:=
 ⟨h.nd.put _ _,by rw[ah.b7];exact(List.getElem?_eq_some_iff.1 f).1,fun k j m a=>by
  unfold ah.lay at a⊢;dsimp only at a⊢;rw[aV]at a;by_cases b:k=x.h
  ·rw[if_pos b]at a
   have:(i:Int)=j:=Option.some.inj a;subst this;exact⟨by omega,by rw[Int.toNat_natCast];exact fun e=>n e.symm,x,by rw[Int.toNat_natCast,List.getElem?_set_self h.lt],b.symm⟩
  ·rw[if_neg b]at a
   obtain⟨g,l,y,c,d⟩:=h.at_ k j m a;refine⟨g,fun e=>b ?_,y,by rw[List.getElem?_set_ne (fun e=>l e.symm)];exact c,d⟩;rw[e,f]at c;rw[<-d,<-Option.some.inj c]⟩
theorem py:∀(f:Nat) (S:ah) (i:Nat) (t:ba),S.lI i t->(gZ f S i t).1.lI (gZ f S i t).2 t
 |0,S,i,t,h=>h
 |f+1,S,i,t,h=>by
  unfold gZ;split
  ·exact h
  ·rename_i b
   split
   ·exact h
   ·rename_i p a
    split
    ·exact py f _ _ t (h.shift a (by omega))
    ·exact h
theorem mz:∀(f:Nat) (S:ah) (i:Nat) (t:ba),S.lI i t->(bU f S i t).1.lI (bU f S i t).2 t
 |0,S,i,t,h=>h
 |f+1,S,i,t,h=>by
  unfold bU;split
  ·exact h
  ·rename_i a c
   split
   ·exact h
   ·rename_i x b
    split
    ·refine mz f _ _ t (h.shift b ?_)
     unfold jZ;split
     ·omega
     ·split<;>omega
    ·exact h
theorem ah.lI.up{t:ba}(h:S.lI i t)(a:S.l[i]?=some t):(S.up i).WF:=by
 unfold ah.up;rw[a];exact(py _ S i t h).fill
theorem ah.WF.up(h:S.WF)(a:i<S.l.length):(S.up i).WF:=(h.hole (List.getElem?_eq_getElem a)).up (List.getElem?_eq_getElem a)
theorem ah.WF.down(h:S.WF)(b:i<S.l.length):(S.down i).WF:=by
 have a:=List.getElem?_eq_getElem b;unfold ah.down;rw[a];exact(mz _ S i _ (h.hole a)).fill
theorem ah.WF.put(h:S.WF)(d b:Int):(S.put d b).2.WF:=by
 unfold ah.put;dsimp only;refine ah.lI.up (t:=⟨d,b,RowKit.wrap64 (S.last+1)⟩) ⟨h.nd,by simp,fun k j l f=> ?_⟩ (by simp);obtain⟨c,x,a,e⟩:=h.at_ k j f;have g:=(List.getElem?_eq_some_iff.1 a).1;exact⟨c,by omega,x,by dsimp only;rw[List.getElem?_append_left g];exact a,e⟩
theorem ah.WF.vL(h:S.WF){d:ba}(n:aw S.at_ hd=some (i:Int))(u:i<S.l.length-1)(p:S.l[S.l.length-1]?=some d):((S.cut hd).lay i d).WF:=by
 obtain⟨q,r⟩:=h.nd.del hd;refine⟨q.put _ _,fun k j a=> ?_⟩;unfold ah.lay ah.cut at a⊢;dsimp only at a⊢;rw[aV]at a;by_cases c:k=d.h
 ·rw[if_pos c]at a
  have:(i:Int)=j:=Option.some.inj a;subst this;exact⟨by omega,d,by rw[Int.toNat_natCast,List.getElem?_set_self (by simp;omega)],c.symm⟩
 ·rw[if_neg c]at a
  have g:k≠hd:=by
   intro e;subst e;rw[r]at a;cases a
  rw[gm _ _ _ g]at a;obtain⟨m,x,b,f⟩:=h.at_ k j a;have v:=(List.getElem?_eq_some_iff.1 b).1;have t:j.toNat≠S.l.length-1:=by
   intro e;rw[e,p]at b;exact c (by rw[<-f,<-Option.some.inj b])
  have o:j.toNat≠i:=by
   intro e;obtain⟨-,y,l,s⟩:=h.at_ hd i n;rw[Int.toNat_natCast]at l;rw[e,l]at b;exact g (by rw[<-f,<-s,Option.some.inj b])
  exact⟨m,x,by rw[List.getElem?_set_ne (fun e=>o e.symm),List.getElem?_take_of_lt (by omega)];exact b,f⟩
theorem ah.WF.zr(h:S.WF)(l:aw S.at_ hd=some (i:Int))(r:¬i<S.l.length-1):(S.cut hd).WF:=by
 obtain⟨m,n⟩:=h.nd.del hd;refine⟨m,fun k j a=> ?_⟩;unfold ah.cut at a⊢;dsimp only at a⊢;have f:k≠hd:=by
  intro e;subst e;rw[n]at a;cases a
 rw[gm _ _ _ f]at a;obtain⟨g,x,b,d⟩:=h.at_ k j a;have s:=(List.getElem?_eq_some_iff.1 b).1;obtain⟨-,y,c,o⟩:=h.at_ hd i l;rw[Int.toNat_natCast]at c;have p:=(List.getElem?_eq_some_iff.1 c).1;have q:j.toNat≠i:=by
  intro e;rw[e,c]at b;exact f (by rw[<-d,<-o,Option.some.inj b])
 exact⟨g,x,by rw[List.getElem?_take_of_lt (by omega)];exact b,d⟩
theorem ah.WF.j'(h:S.WF)(hd:Int):S.j' hd:=by
 intro i c;obtain⟨b,x,d,o⟩:=h.at_ hd i c;obtain⟨n,rfl⟩:=Int.eq_ofNat_of_zero_le b;rw[Int.toNat_natCast]at d⊢;refine⟨b,(List.getElem?_eq_some_iff.1 d).1,fun g a f=> ?_⟩;have k:=(h.vL c g f).up (i:=n) (by rw[ah.b7];unfold ah.cut;simp;omega);cases e:aw (((S.cut hd).lay n a).up n).at_ a.h with
 |none=>exact⟨by simp,by simp;omega⟩
 |some j=>
  obtain⟨m,y,l,_⟩:=k.at_ a.h j e;have:=(List.getElem?_eq_some_iff.1 l).1;rw[ah.nJ,ah.b7]at this;unfold ah.cut at this;exact⟨by simpa using m,by simp at this⊢;omega⟩
theorem ah.WF.drop(h:S.WF)(hd:Int):(S.drop hd).2.2.WF:=by
 unfold ah.drop;cases c:aw S.at_ hd with
 |none=>exact h
 |some i=>
  obtain⟨j,e,f⟩:=h.j' hd i c;obtain⟨n,rfl⟩:=Int.eq_ofNat_of_zero_le j;simp only[Int.toNat_natCast]at e f⊢;obtain⟨t,g⟩:∃t,S.l[n]?=some t:=⟨_,List.getElem?_eq_getElem e⟩;obtain⟨b,d⟩:∃b,S.l[S.l.length-1]?=some b:=⟨_,List.getElem?_eq_getElem (by omega)⟩;rw[g,d];dsimp only;by_cases a:n<S.l.length-1
  ·rw[if_pos a]
   obtain⟨_,k2⟩:=f a b d;have hlen:(((S.cut hd).lay n b).up n).l.length=S.l.length-1:=(by rw[ah.nJ,ah.b7];unfold ah.cut;simp);exact((h.vL c a d).up (by rw[ah.b7];unfold ah.cut;simp;omega)).down (by rw[hlen];exact k2)
  ·rw[if_neg a];exact h.zr c a
theorem ah.WF.pop(h:S.WF)(now:Int):(S.pop now).2.2.WF:=by
 unfold ah.pop;split
 ·exact h
 ·split
  ·exact h
  ·exact h.drop _
theorem ah.D2:ah.new.WF:=⟨by unfold gn ah.new;simp,fun k j a=>by cases a⟩
variable{w w':World}{b hb mb qb:Nat}{v:Value}
structure aN where
 now:Int
 heap:ah
 fl:List (Int×Int×Int)
def hp(x:Int×Int):Value:=.agg #[.int .i64 x.1,.int .u64 x.2]
structure aX(w:World)(b hb mb qb:Nat)(v:Value)(S:aN):Prop where
 head:Row w b 226 [.int .u64 S.now,(hb,0),.map (some qb)]
 heap:aM w hb mb v S.heap
 fl:bS w qb .u64 hp S.fl
 ne:qb≠mb
def e9(b hb mb qb:Nat)(v:Value):Nat->Prop:=fun i=>i=b∨i=qb∨cu hb mb v i
theorem aX.alloc{S:aN}(h:aX w b hb mb qb v S)(o:Obj):aX (w.alloc o) b hb mb qb v S:=⟨h.head.alloc o,h.heap.alloc o,h.fl.alloc o,h.ne⟩
theorem aX.drew{S:aN}(h:aX w b hb mb qb v S):aX w.drew b hb mb qb v S:=⟨h.head,h.heap.drew,h.fl,h.ne⟩
theorem aX.ch{D:Nat->Prop}{S:aN}(h:aX w b hb mb qb v S)(c:Ch D w w')(a:¬D b)(d:¬D hb)(e:¬D mb)(f:¬D qb)(i:∀g,v.ownBlock=some g->¬D g):aX w' b hb mb qb v S:=
 ⟨h.head.ch c a,h.heap.ch c d e i,h.fl.ch c f,h.ne⟩
theorem aX.vM{S:aN}(h:aX w b hb mb qb v S):¬cu hb mb v b/\¬cu hb mb v qb:=by
 refine⟨?_,?_⟩
 ·rintro(a|a|a)
  ·exact h.head.ne h.heap.head (by decide) a
  ·exact h.heap.map.ne h.head a.symm
  ·exact aZ h.heap.own h.head (by decide) a
 ·rintro(a|a|a)
  ·exact h.fl.ne h.heap.head a
  ·exact h.ne a
  ·exact iJ h.heap.own h.fl a
theorem qn(b hb mb qb:Nat)(v:Value)(S:aN)(w:World)(h:aX w b hb mb qb v S):Calls prog 84 #[(b,0)] w (ez (.int .u64 S.now) w):=by
 have a:=h.head.c1;go_wp2
 go_ret;exact ez.mk rfl
theorem qo:∀w,(zeroValue 221).run prog w=.ok (hp (0,0)) w:=fun w=>by kernel_rfl
def aN.bp(S:aN)(id:Int):Bool×aN:=
 match aw S.fl id with
 |none=>(false,S)
 |some x=>(true,{S with heap:=(S.heap.drop x.1).2.2,fl:=fs S.fl id})
def zs(x:Bool×aN)(b hb mb qb:Nat)(v:Value)(w:World)(e:Ending)(w':World):Prop:=e=.returned (.bool x.1)/\(∃v',aX w' b hb mb qb v' x.2/\aS w v v')/\Ch (e9 b hb mb qb v) w w'
theorem aX.drop{v':Value}{S:aN}{c:ah}(h:aX w b hb mb qb v S)(d:aM w' hb mb v' c)(a:Ch (cu hb mb v) w w'):aX w' b hb mb qb v' {S with heap:=c}/\Ch (e9 b hb mb qb v) w w':=
 ⟨⟨h.head.ch a h.vM.1,d,h.fl.ch a h.vM.2,h.ne⟩,a.mono fun i e=>Or.inr (Or.inr e)⟩
theorem aX.del{S:aN}{l:List (Int×Int×Int)}(h:aX w b hb mb qb v S)(d:bS w' qb .u64 hp l)(a:Ch (aH qb) w w'):aX w' b hb mb qb v {S with fl:=l}:=
 ⟨h.head.ch a (fun e=>h.fl.ne h.head (show _=_ from Eq.symm e)),h.heap.ch a (fun e=>h.fl.ne h.heap.head (show _=_ from Eq.symm e)) (fun e=>h.ne (show _=_ from Eq.symm e)) (fun g c e=>iJ h.heap.own h.fl (by rw[c];exact congrArg some e)),d,h.ne⟩
theorem m0(b hb mb qb:Nat)(v:Value)(S:aN)(id:Int)(C:S.heap.l.length<=900000)(F:S.heap.WF)(w:World)(h:aX w b hb mb qb v S):
 Calls prog 215 #[(b,0),.int .u64 id] w (zs (S.bp id) b hb mb qb v w):=by
 have l:=Z h;have g:=h.head.k 1 rfl;have B:=h.head.k 2 rfl;have d:=gg (P:=prog) (T:=224) (K:=39) (E:=221) underlying224 underlying39 (qo w) h.fl id;obtain⟨r,k⟩:=nm (aw S.fl id);rw[k]at d;have n:=Z k;clear h k;cases r with
 |none=>
  have E:Hid (S.bp id=(false,S)):=Z (by unfold aN.bp;rw[n]);simp only[Option.map_none,Option.getD_none,Option.isSome_none,hp]at d;go_wp2
  go_ret;rw[E];exact⟨rfl,⟨v,l.alloc _,aS.refl _ _⟩,ay⟩
 |some x=>
  have E:Hid (S.bp id=(true,{S with heap:=(S.heap.drop x.1).2.2,fl:=fs S.fl id})):=Z (by unfold aN.bp;rw[n]);simp only[Option.map_some,Option.getD_some,Option.isSome_some,hp]at d;have z:=Z (fun w h=>kE hb mb v S.heap x.1 C (F.j' x.1) w h);go_wp2
  obtain⟨w1,f⟩:=nm (w.alloc (.cells #[.int .i64 x.1,.int .u64 x.2] 221));have a:Hid (aX w1 b hb mb qb v S/\Ch (e9 b hb mb qb v) w w1):=Z (by rw[<-f];exact⟨l.alloc _,ay⟩);have t0:w1.cell? ⟨w.heap.size,0,none⟩=some (.int .i64 x.1):=by rw[<-f];simp
  rw[f];clear f g B d;obtain⟨tb,s⟩:=mn w.heap.size;rw[<-s]at t0⊢;clear s;have g:=a.1.head.k 1 rfl;go_still_tail 6,(by kernel_rfl)
  change wpList _ _ _ _ _ w1.drew;go_wp2_with fail
  refine(z _ a.1.heap.drew).mono ?_;rintro e w2 ⟨rfl,⟨u,q,t⟩,p⟩;have c:=Z (a.1.drew.drop q p);have A:=Z t;clear q p g t0 t;have d2:=c.1.head.k 2 rfl;obtain⟨y,G,o,j⟩:=fv (P:=prog) (T:=224) (K:=39) (E:=221) (ty:=0) (kT:=39) underlying224 underlying39 c.1.fl id;have m:Hid (aX y b hb mb qb u {S with heap:=(S.heap.drop x.1).2.2,fl:=fs S.fl id}/\Ch (e9 b hb mb qb v) w y):=Z ⟨c.1.del o j,(a.2.drew.trans c.2).trans (j.mono fun i D=>Or.inr (Or.inl D))⟩;clear o j;go_wp2
  go_ret;rw[E];exact⟨rfl,⟨u,m.1,aS.of_eq A⟩,m.2⟩
section
attribute [local go_sem↓] Go.wp_at_zero Go.wp_at_succ
def aN.arm(S:aN)(id dl:Int):Bool×aN:=
 if id==0 then(false,S)else
 match aw S.fl id with
 |some _=>(false,S)
 |none=>if dl !=18446744073709551615 then(true,{S with heap:=(S.heap.put dl id).2,fl:=cn S.fl id ((S.heap.put dl id).1,dl)})else(true,S)
def D3(x:Bool×aN)(b hb mb qb:Nat)(v:Value)(w:World)(e:Ending)(w':World):Prop:=(∃u,e=.returned u/\(if x.1 then u=.nilIface else ar u))/\(∃v',aX w' b hb mb qb v' x.2/\aS w v v')/\Ch (e9 b hb mb qb v) w w'
theorem qp(b hb mb qb:Nat)(v:Value)(S:aN)(id dl:Int)(C:S.heap.l.length<=900000)(w:World)(h:aX w b hb mb qb v S):
 Calls prog 202 #[(b,0),.int .u64 id,.int .u64 dl] w (D3 (S.arm id dl) b hb mb qb v w):=by
 have d:=Z h;have z:=h.head.k 1 rfl;have A:=h.head.k 2 rfl;have k:=gg (P:=prog) (T:=224) (K:=39) (E:=221) underlying224 underlying39 (qo w) h.fl id;cases m:id==0
 ·obtain⟨r,o⟩:=nm (aw S.fl id)
  rw[o]at k;have j:=Z o;have g:=Z m;cases r with
  |some x=>
   have E:Hid (S.arm id dl=(false,S)):=Z (by unfold aN.arm;rw[g,j];rfl);simp only[Option.map_some,Option.getD_some,Option.isSome_some,hp]at k;go_wp2
   go_ret;rw[E];exact⟨⟨_,rfl,ar.mk _ _⟩,⟨v,(d.alloc _).alloc _,aS.refl _ _⟩,ay⟩
  |none=>
   simp only[Option.map_none,Option.getD_none,Option.isSome_none,hp]at k;cases hd:dl !=18446744073709551615
   ·have E:Hid (S.arm id dl=(true,S)):=Z (by unfold aN.arm;rw[g,j,hd];rfl)
    go_wp2
    go_ret;rw[E];exact⟨⟨_,rfl,rfl⟩,⟨v,d.alloc _,aS.refl _ _⟩,ay⟩
   ·obtain⟨y,q⟩:=nm (S.heap.put dl id)
    have E:Hid (S.arm id dl=(true,{S with heap:=y.2,fl:=cn S.fl id (y.1,dl)})):=Z (by unfold aN.arm;rw[g,j,hd,q];rfl);have t:Hid (∀w,aM w hb mb v S.heap->Calls prog 240 #[(hb,0),.int .u64 dl,.int .u64 id] w (vK y hb mb v w)):=Z (fun w h=>q▸rK hb mb v S.heap dl id C w h);go_wp2
    obtain⟨w1,p⟩:=nm (w.alloc (.cells #[.int .i64 0,.int .u64 0] 221));have a:Hid (aX w1 b hb mb qb v S/\Ch (e9 b hb mb qb v) w w1):=Z (by rw[<-p];exact⟨d.alloc _,ay⟩);rw[p];have z:=a.1.head.k 1 rfl;have A:=a.1.head.k 2 rfl;go_region_held3 (fun w'=>w'.cell? (b,1)=some (.pointer (some (hb,0)))/\w'.cell? (b,2)=some (.map (some qb))) (go_keep) ((go_at_call 240;refine(t _ a.1.heap.drew).mono ?_;rintro e w2 ⟨rfl,⟨l,F,I⟩,D⟩;have c:=Z (a.1.drew.drop F D);have u:Hid (aS w v l):=Z ((aS.refl w v).trans a.2.size I);have d1:=c.1.head.k 1 rfl;have d2:=c.1.head.k 2 rfl;obtain⟨s,H,B,n⟩:=fu (P:=prog) (T:=224) (K:=39) (E:=221) (enc:=hp) underlying224 underlying39 c.1.fl id (y.1,dl);have f:=Z (⟨c.1.del B n,(a.2.drew.trans c.2).trans (n.mono fun i G=>Or.inr (Or.inl G))⟩:aX s b hb mb qb l {S with heap:=y.2,fl:=cn S.fl id (y.1,dl)}/\Ch (e9 b hb mb qb v) w s);have d3:=f.1.head.k 1 rfl;have d4:=f.1.head.k 2 rfl;simp only[hp]at H))
    all_goals
     go_wp2
     go_ret;rw[E];exact⟨⟨_,rfl,rfl⟩,⟨l,f.1,u⟩,f.2⟩
 ·have E:Hid (S.arm id dl=(false,S)):=Z (by unfold aN.arm;rw[m];rfl)
  go_wp2
  go_ret;rw[E];exact⟨⟨_,rfl,ar.mk _ _⟩,⟨v,d.alloc _,aS.refl _ _⟩,ay⟩
def aN.new:aN:=⟨0,ah.new,[]⟩
theorem qq(w:World):Calls prog 62 #[] w (fun e w'=>∃b hb mb qb,e=.returned (.pointer (some ⟨b,0,none⟩))/\aX w' b hb mb qb (.slice none 0 0) aN.new/\w.heap.size<=b/\w.heap.size<=hb/\w.heap.size<=mb/\w.heap.size<=qb/\Ch ag w w'):=by
 have k:= @run_makeMap prog;go_in
 go_wp2_with fail
 refine(rN _).mono ?_;rintro e w1 ⟨hb,mb,rfl,c,g,h,a⟩;have f:=Z c;have d:=Z a;have i:=a.size;have j:=c.map.lt;go_wp2
 go_ret;refine⟨w1.heap.size+1,hb,mb,w1.heap.size,rfl,⟨?_,(f.alloc _).alloc _,⟨#[],0,?_,rfl⟩,by omega⟩,by omega,g,h,i,(d.alloc _).alloc _⟩
 ·have:=Row.new (w1.alloc (.map #[] 0)) #[.int .u64 0,.pointer (some ⟨hb,0,none⟩),.map (some w1.heap.size)] 226
  rw[World.size_alloc]at this;exact this
 ·rw[Below.heap_alloc _ _ _ (by simp)];exact heap_alloc_new w1 _
end
section
attribute [local go_sem↓] Go.wp_at_zero Go.wp_at_succ
variable{w w':World}{B b hb mb n qb s:Nat}{u v v':Value}{S:aN}{e:TypeId}{xs:List Value}
theorem nL:∀(f:Nat) (S:ah) (i:Nat) (t:ba),(bU f S i t).1.l.length=S.l.length
 |0,_,_,_=>rfl
 |f+1,S,i,t=>by
  unfold bU;split
  ·rfl
  ·split
   ·rfl
   ·split
    ·rw[nL,ah.b7]
    ·rfl
theorem ah.zt(S:ah)(i:Nat):(S.down i).l.length=S.l.length:=by
 unfold ah.down;split
 ·rfl
 ·rw[ah.b7,nL]
theorem ah.vN(S:ah)(h:Int):(S.cut h).l.length=S.l.length-1:=by unfold ah.cut;simp
theorem ah.BY(S:ah)(h:Int):((S.drop h).2.1=false/\(S.drop h).2.2=S/\(S.drop h).1=0)∨((S.drop h).2.1=true/\0<S.l.length/\(S.drop h).2.2.l.length=S.l.length-1):=by
 unfold ah.drop;split
 ·exact Or.inl ⟨rfl,rfl,rfl⟩
 ·split
  ·rename_i t f a d
   have c:=(List.getElem?_eq_some_iff.1 a).1;split
   ·exact Or.inr ⟨rfl,by omega,by rw[ah.zt,ah.nJ,ah.b7,ah.vN]⟩
   ·exact Or.inr ⟨rfl,by omega,by rw[ah.vN]⟩
  ·exact Or.inl ⟨rfl,rfl,rfl⟩
theorem ah.D4(S:ah)(now:Int):((S.pop now).2.1=false/\(S.pop now).2.2=S/\(S.pop now).1=0)∨((S.pop now).2.1=true/\0<S.l.length/\(S.pop now).2.2.l.length=S.l.length-1):=by
 unfold ah.pop;split
 ·exact Or.inl ⟨rfl,rfl,rfl⟩
 ·split
  ·exact Or.inl ⟨rfl,rfl,rfl⟩
  ·exact ah.BY _ _
def ej:Nat->aN->List Int->aN×List Int
 |0,S,acc=>(S,acc)
 |f+1,S,acc=>
  if(S.heap.pop S.now).2.1 then ej f {S with heap:=(S.heap.pop S.now).2.2,fl:=fs S.fl (S.heap.pop S.now).1} (acc++[(S.heap.pop S.now).1])else(S,acc)
def aN.tick(S:aN):aN×List Int:=
 ej (S.heap.l.length+1) {S with now:=IntKind.u64.wrap (S.now+1)} []
def BZ(x:aN×List Int)(b hb mb qb:Nat)(v:Value)(w:World)(e:Ending)(w':World):Prop:=
 (∃u,e=.returned u/\w'.ownsRow w.heap.size 39 1 u x.2.length (x.2.map (Value.int .u64)))/\(∃v',aX w' b hb mb qb v' x.1/\aS w v v')/\Ch (e9 b hb mb qb v) w w'
theorem w9(h:aS w v v'):∀i,i<w.heap.size->e9 b hb mb qb v' i->e9 b hb mb qb v i:=fun i f d=>by
 rcases d with a|a|a|a|a
 ·exact Or.inl a
 ·exact Or.inr (Or.inl a)
 ·exact Or.inr (Or.inr (Or.inl a))
 ·exact Or.inr (Or.inr (Or.inr (Or.inl a)))
 ·rcases h i a with c|c
  ·exact Or.inr (Or.inr (Or.inr (Or.inr c)))
  ·omega
theorem g':(prog.info? 39).map (fun i=>(i.zero,i.size,i.bytes))=some (some (.int .u64 0),1,8):=by kernel_rfl
theorem aX.time(h:aX w b hb mb qb v S)(n:Int):aX (w.setCell (b,0) (.int .u64 n)) b hb mb qb v {S with now:=n}/\Ch (e9 b hb mb qb v) w (w.setCell (b,0) (.int .u64 n)):=by
 have a:Ch (aH b) w (w.setCell (b,0) (.int .u64 n)):=ay;refine⟨⟨h.head.bc _ _ rfl,h.heap.ch a (fun e=>h.head.ne h.heap.head (by decide) (show _=_ from Eq.symm e)) (fun e=>h.heap.map.ne h.head e) (fun g c e=>aZ h.heap.own h.head (by decide) (by rw[c];exact congrArg some e)),h.fl.ch a (fun e=>h.fl.ne h.head e),h.ne⟩,a.mono fun i d=>Or.inl d⟩
theorem kH{f:Nat}{a:TypeId}{o:Nat}{m:Nat}{p:List Value}(h:w.ownsRow B e s v n xs)(i:w.ownsRow f a o v' m p)(j:e≠a){k:Nat}(d:v.ownBlock=some k):v'.ownBlock≠some k:=by
 rcases h.2 with⟨rfl,_⟩|⟨g,cap,cur,rfl,_,l,_⟩
 ·cases d
 ·have:g=k:=by simpa[Value.ownBlock]using d
  subst this;exact aZ (c:=cur.toList) i (by unfold Row;simpa using l) j
theorem aM.D5{S:ah}(h:aM w b mb v S)(d:w.ownsRow B e s u n xs)(f:307≠e)(g:e≠328):∀k,u.ownBlock=some k->¬cu b mb v k:=by
 rintro k c (a|a|a)
 ·exact aZ d h.head f (c.trans (congrArg some a))
 ·exact iJ d h.map (c.trans (congrArg some a))
 ·exact kH d h.own g c a
theorem aX.grown(h:aX w b hb mb qb v S)(a:w.ownsRow B 39 1 u n xs)(c:w.grownBy w' u.ownBlock):aX w' b hb mb qb v S:=
 h.ch (Ch.bK c) (aZ a h.head (by decide)) (aZ a h.heap.head (by decide)) (iJ a h.heap.map) (iJ a h.fl) (fun g d e=>kH a h.heap.own (by decide) e d)
theorem eX{D:Nat->Prop}{w0:World}(c:Ch D w0 w)(f:w.ownsRow B e s u n xs)(h:w0.heap.size<=B)(d:w.grownBy w' u.ownBlock):Ch D w0 w':=
 c.join (Ch.bK d) (fun i k a=>by
  rcases f.2 with⟨rfl,_⟩|⟨g,cap,cur,rfl,j,_⟩
  ·cases a
  ·have:g=i:=by simpa[Value.ownBlock]using a
   omega)
theorem o'(b hb mb qb:Nat)(v:Value)(S:aN)(a9:S.heap.l.length<=900000)(ap:S.heap.WF)(w:World)(h:aX w b hb mb qb v S):
 Calls prog 82 #[(b,0)] w (BZ S.tick b hb mb qb v w):=by
 obtain⟨cb,ad,c8,c9,ca⟩:=info_parts g';have bi:=Z ad;have F:=h.head.c1;have f0:=h.head.free 0;have av:=Z h;have bv:=Z ap;have X:=Z a9;have cl:=h.head.lt;obtain⟨n,M⟩:=mn (IntKind.u64.wrap (S.now+1));have E:Hid (S.tick=ej (S.heap.l.length+1) {S with now:=n} []):=Z (by unfold aN.tick;rw[M]);have bx:=Z M;clear h ap a9 M ad;go_wp2
 rw[<-bx];obtain⟨w1,R⟩:=nm (w.setCell (b,0) (.int .u64 n));have W:Hid (aX w1 b hb mb qb v {S with now:=n}/\Ch (e9 b hb mb qb v) w w1):=Z (by rw[<-R];exact av.time n);rw[R];clear R F f0;go_loopg [3] (S.heap.l.length+1) (fun gk u wr=>∃(a:aN) (acc:List Int) (v':Value),u=u/\a.heap.l.length<gk/\a.heap.l.length+acc.length<=S.heap.l.length/\Hid (ej gk a acc=ej (S.heap.l.length+1) {S with now:=n} []/\a.heap.WF/\aX wr b hb mb qb v' a/\wr.ownsRow w.heap.size 39 1 u acc.length (acc.map (Value.int .u64))/\Ch (e9 b hb mb qb v) w wr/\aS w v v'))
 case atStart=>exact⟨{S with now:=n},[],v,rfl,Nat.lt_succ_self _,by simp,rfl,bv,W.1,⟨rfl,Or.inl ⟨rfl,rfl⟩⟩,W.2,aS.refl _ _⟩
 case round=>
  obtain⟨a,acc,v',-,cm,cA,d⟩:=hrel;have l:=Z d.2.2.1;have z:=Z d.2.2.2.1;have o:=Z d.2.2.2.2.1;have a3:=Z d.2.2.2.2.2;have a2:=Z (w9 (b:=b) (hb:=hb) (mb:=mb) (qb:=qb) d.2.2.2.2.2);obtain⟨p,rfl⟩:∃bZ,gk=bZ+1:=⟨gk-1,by omega⟩;obtain⟨y,C⟩:=nm (a.heap.pop a.now);have O:=ah.D4 a.heap a.now;have U:=d.2.1.pop a.now;have a1:Hid (ej (p+1) a acc=if y.2.1 then ej p {a with heap:=y.2.2,fl:=fs a.fl y.1} (acc++[y.1])else(a,acc)):=Z (by rw[ej,C]);have Y:Hid (∀w,aM w hb mb v' a.heap->Calls prog 127 #[(hb,0),.int .u64 a.now] w (qk y hb mb v' w)):=Z (fun w h=>C▸rM hb mb v' a.heap a.now (by have:=X.out;omega) (fun t _=>d.2.1.j' t.h) w h);rw[C]at O U;have a0:=Z O;have bw:=Z U;clear C O U;obtain⟨f,cd,m⟩:=y;obtain⟨F,bX⟩:=l.head.c2;obtain⟨ce,ch,rfl⟩:=au z;have a5:=Z (l.heap.D5 z (by decide) (by decide));cases cd
  ·have c3:m=a.heap:=by rcases a0 with⟨_,H,_⟩|⟨G,_⟩;exact H;cases G
   have I:Hid (S.tick=(a,acc)):=Z (by rw[E,<-d.1,a1];rfl);subst c3;go_wp2
   go_region_held3 (fun w'=>w'.cell? (b,0)=some (.int .u64 a.now)/\w'.cell? (b,1)=some (.pointer (some (hb,0)))) (go_keep) ((go_at_call 127;refine(Y _ l.heap.drew).mono ?_;rintro e w2 ⟨rfl,⟨V,r,x⟩,j⟩;have c:=Z (l.drew.drop r j);have Q:=Z x;have A:=Z j;clear r j x;obtain⟨d0,d1⟩:=c.1.head.c2))
   all_goals
    go_wp2
    go_ret;rw[I];refine⟨⟨_,rfl,?_⟩,⟨V,?_,?_⟩,?_⟩
    ·exact ak z.drew A.out a5
    ·exact c.1
    ·exact a3.trans o.size (aS.of_eq Q.out)
    ·exact o.drew.join c.2 a2
  ·have ct:0<a.heap.l.length/\m.l.length=a.heap.l.length-1:=by
    rcases a0 with⟨G,_⟩|⟨_,H,c0⟩
    ·cases G
    ·exact⟨H,c0⟩
   have I:Hid (ej p {a with heap:=m,fl:=fs a.fl f} (acc++[f])=ej (S.heap.l.length+1) {S with now:=n} []):=Z (by rw[<-d.1,a1];rfl);have ci:=X.out;go_wp2
   go_region_held3 (fun w'=>w'.cell? (b,0)=some (.int .u64 a.now)/\w'.cell? (b,1)=some (.pointer (some (hb,0)))) (go_keep) ((go_at_call 127;refine(Y _ l.heap.drew).mono ?_;rintro e w2 ⟨rfl,⟨V,r,x⟩,j⟩;have c:=Z (l.drew.drop r j);have Q:=Z x;have A:=Z j;clear r j x;obtain⟨d0,d1⟩:=c.1.head.c2))
   all_goals
    have d2:=c.1.head.k 2 rfl;obtain⟨D,c7,a4,q⟩:=fv (P:=prog) (T:=224) (K:=39) (E:=221) (ty:=0) (kT:=39) underlying224 underlying39 c.1.fl f;have aP:=Z (c.1.del a4 q);have bd:=Z (q);have N:=ak z.drew A.out a5;have al:=ak N q (fun k c5 e=>iJ N c.1.fl (c5.trans (congrArg some e)));have J:=Z al;have cC:w.heap.size<=D.heap.size:=(by have:=o.size;have:=A.out.size;have:=q.size;simp at*;omega);clear a4 q N al d0 d1 F bX;go_wp2_with (at_builtin;refine wpList_append_lies _ rfl _ _ _ rfl w.heap.size 39 cb _ 1 8 underlying29 bi c8 c9 ca rfl (by omega) _ acc.length (acc.map (Value.int .u64)) rfl (J.alloc _) ⟨D.heap.size,0,none⟩ 1 1 [.int .u64 f] rfl rfl (World.news_of_block (cs:=#[.int .u64 f]) (t:=39) (fr:=(0,0)) (heap_alloc_new D _)) (by simp[Value.oneCell']) (by omega) (by unfold maxLen;omega) (by omega) (by simp;omega) (D.heap.size+1) (by simp) ?_)
    intro g cap w4 am ab c4 c6;have L:=ao ab;have bb:=Z (aP.grown J L);have c2:=Z am;have c1:=Z (eX ((o.drew.join c.2 a2).join bd (fun i cq e=>Or.inr (Or.inl e))) J (Nat.le_refl _) L);clear ab L am c4 c6 d2 c7;go_wp2
    go_roundg p
    case measure=>omega
    case rel=>
     refine⟨{a with heap:=m,fl:=fs a.fl f},acc++[f],V,by trivial,?_,?_,I,bw,bb,?_,c1,?_⟩
     ·show m.l.length<p
      omega
     ·show m.l.length+(acc++[f]).length<=_
      rw[List.length_append,List.length_cons,List.length_nil];omega
     ·rw[List.length_append,List.length_cons,List.length_nil,List.map_append]
      exact c2
     ·exact a3.trans o.size (aS.of_eq Q.out)
end
set_option maxRecDepth 100000
def I4:Bool×Bool×Bool×Bool->Int×Int×Int
 |(true,true,true,true)=>(1,2,4)
 |(true,true,true,false)=>(1,2,3)
 |(true,true,false,_)=>(1,2,0)
 |(true,false,true,true)=>(1,4,0)
 |(true,false,true,false)=>(1,3,0)
 |(true,false,false,_)=>(1,0,0)
 |(false,true,true,true)=>(2,4,0)
 |(false,true,true,false)=>(2,3,0)
 |(false,true,false,_)=>(2,0,0)
 |(false,false,true,true)=>(4,0,0)
 |(false,false,true,false)=>(3,0,0)
 |(false,false,false,_)=>(0,0,0)
def H0(op:Int):Int×Int×Int:=
 if op=1 then(1,9,0)
 else if op=13∨op=14 then(1,8,0)
 else if op=12∨op=15 then(8,0,0)
 else if op=22 then(7,0,0)
 else if op=43 then(1,5,0)
 else if op=45 then(1,2,7)
 else if op=21∨op=32 then(1,6,3)
 else if op=17∨op=18∨op=19∨op=20∨op=31 then(1,6,0)
 else I4 (e5 op)
def Mu(p:Int×Int×Int)(w:World)(e:Ending)(w':World):Prop:=
 e=.returned (.agg #[.int .i64 p.1,.int .i64 p.2.1,.int .i64 p.2.2])/\Below w.heap.size w w'
theorem Mu.mk{p:Int×Int×Int}{a b c:Int}{w w':World}(h:p=(a,b,c))(hb:Below w.heap.size w w'):Mu p w (.returned (.agg #[a,b,c])) w':=by subst h;exact⟨rfl,hb⟩
set_option maxRecDepth 100000
set_option maxHeartbeats 8000000
theorem Kx(op:Int)(w:World):Calls prog 188 #[op] w (Mu (H0 op) w):=by
 go_in
 go_wp2_with (go_at_call 218;refine(nB _ _).mono ?_;rintro e w' ⟨rfl,rfl⟩)
 all_goals
  simp only[beq_iff_eq,beq_eq_false_iff_ne,ne_eq]at*;simp[bodyPost,results,Tryz.results27,go_sem];refine Mu.mk ?_ ?_
  ·unfold H0
   repeat first
    |rfl
    |rw[if_pos (by omega)]
    |rw[if_neg (by omega)]
   try(generalize e5 op=q at*;obtain⟨a,b,c,d⟩:=q;simp_all [I4];done)
  ·repeat first
    |exact Below.refl _ _
    |refine Below.alloc ?_ (by simp) _
