import Derived.Deep.DrawnRows
import Derived.Deep.LoopGhost
import Derived.Test.YtlihkblppjgebaaGreatDoorZAb
import Derived.Test.YtlihkblppjgebaaGreatDoorZAc
set_option linter.all false
set_option maxRecDepth 100000
set_option maxHeartbeats 8000000
namespace Go.Proofs.YtlihkblppjgebaaGreatDoor
open Go.RowKit Go.Proofs.Tryz
section
attribute [local go_sem↓] Go.wp_at_zero Go.wp_at_succ
theorem Ch.bQ{w w':World}{r:Option Nat}(h:w.grownBy w' r):Ch (fun i=>r=some i) w w':=⟨h.os,h.tape,h.output,h.size,fun b hb a=>h.block b hb (fun e=>a e.symm)⟩
theorem ax{w w1:World}{c:Obj}{r:Option Nat}(h:(w.alloc c).grownBy w1 r):w.grownBy w1 r:=
 ⟨h.os,h.tape,h.output,by have:=h.size;simp at this;omega,fun k a b=>(h.block k (by simp;omega) b).trans (Below.heap_alloc _ _ _ a)⟩
theorem cO{w w1:World}{r:Option Nat}(h:w.drew.grownBy w1 r):w.grownBy w1 r:=⟨h.os,h.tape,h.output,h.size,h.block⟩
theorem aY{w:World}{B:Nat}{e:TypeId}{size:Nat}{v:Value}{n:Nat}{j:List Value}(h:w.ownsRow B e size v n j){k:Nat}{c:List Value}{t:TypeId}(a:Row w k t c)(i:t≠e):v.ownBlock≠some k:=by
 rcases h.2 with⟨rfl,_⟩|⟨g,cap,cur,rfl,_,d,_⟩
 ·simp[Value.ownBlock]
 ·intro f
  have:g=k:=by simpa[Value.ownBlock]using f
  subst this;unfold Row at a;rw[d]at a;injection a with a
  injection a with _ b _
  exact i b.symm
theorem ia{α:Type}{w:World}{B:Nat}{e:TypeId}{size:Nat}{v:Value}{n:Nat}{i:List Value}(h:w.ownsRow B e size v n i){k:Nat}{q:IntKind}{enc:α->Value}{l:List (Int×α)}(f:bH w k q enc l):v.ownBlock≠some k:=by
 rcases h.2 with⟨rfl,_⟩|⟨g,cap,cur,rfl,_,b,_⟩
 ·simp[Value.ownBlock]
 ·intro d
  have:g=k:=by simpa[Value.ownBlock]using d
  subst this;obtain⟨j,c,a,_⟩:=f;rw[b]at a;cases a
theorem aA{w:World}{B:Nat}{e:TypeId}{size:Nat}{v:Value}{n:Nat}{b:List Value}(h:w.ownsRow B e size v n b):∃a c,v=.slice a n c:=by
 rcases h.2 with⟨rfl,rfl⟩|⟨g,cap,cur,rfl,_⟩
 ·exact⟨_,_,rfl⟩
 ·exact⟨_,_,rfl⟩
theorem aM.app{w w4:World}{b mb g cap:Nat}{v:Value}{S:ah}{t:a8}(h:aM w b mb v S)
 (d:w4.ownsRow 0 328 3 (.slice (some ⟨g,0,none⟩) (S.l.length+1) cap) (S.l.length+1) (S.l.flatMap a8.cells++t.cells)) (m:w.grownBy w4 v.ownBlock):
 aM (w4.setCell ⟨b,0,none⟩ (.slice (some ⟨g,0,none⟩) (S.l.length+1) cap)) b mb (.slice (some ⟨g,0,none⟩) (S.l.length+1) cap) {S with l:=S.l++[t]}/\
 Ch (cn b mb v) w (w4.setCell ⟨b,0,none⟩ (.slice (some ⟨g,0,none⟩) (S.l.length+1) cap)):=by
 have c:=Ch.bQ m;have a:=h.head.ch c (aY h.own h.head (by decide));have f:=h.map.ch c (ia h.own h.map);have j:b≠g:=by
  intro e;subst e;exact aY d a (by decide) rfl
 refine⟨⟨a.a' _ _ rfl,?_,f.other (fun e=>f.ne a e) _⟩,(Ch.mono (E:=cn b mb v) c fun i n=>Or.inr (Or.inr n)).gS (p:=⟨b,0,none⟩) (Or.inl rfl) _⟩;have:(S.l++[t]).flatMap a8.cells=S.l.flatMap a8.cells++t.cells:=by simp
 rw[this];show(w4.setCell ⟨b,0,none⟩ _).ownsRow 0 328 3 _ (S.l++[t]).length _
 rw[List.length_append,List.length_cons,List.length_nil];have:=ar (D:=aK b) d ((Ch.refl _ _).only 0 (.slice (some ⟨g,0,none⟩) (S.l.length+1) cap)) (fun k o e=>by
  have:g=k:=by simpa[Value.ownBlock]using o
  subst this;exact j (show _=_ from e.symm))
 exact this
theorem Ch.join{D E:Nat->Prop}{a b c:World}(h:Ch D a b)(k:Ch E b c)(f:∀i,i<a.heap.size->E i->D i):Ch D a c:=
 ⟨k.os.trans h.os,k.tape.trans h.tape,k.output.trans h.output,Nat.le_trans h.size k.size,fun i d e=>(k.same i (Nat.lt_of_lt_of_le d h.size) (fun g=>e (f i d g))).trans (h.same i d e)⟩
def ah.put(S:ah)(d a:Int):Int×ah:=
 let n:=wrap64 (S.last+1)
 (n,ah.up {S with last:=n,l:=S.l++[⟨d,a,n⟩]} S.l.length)
theorem qh(b mb:Nat)(v:Value)(S:ah)(i:Nat)(d:i<S.l.length)(hb:S.l.length<=1000000)(w:World)(h:aM w b mb v S)(a:Int)(c:a=i):
 Calls prog 199 #[.pointer (some ⟨b,0,none⟩),.int .i64 a] w (jV b mb v (S.up i) w):=by subst c;exact pF b mb v S i d hb w h
theorem o2(b mb:Nat)(v:Value)(S:ah)(i:Nat)(d:i<S.l.length)(hb:S.l.length<=1000000)(w:World)(h:aM w b mb v S)(a:Int)(c:a=i):
 Calls prog 200 #[.pointer (some ⟨b,0,none⟩),.int .i64 a] w (jV b mb v (S.down i) w):=by subst c;exact nZ b mb v S i d hb w h
end
def ah.cut(S:ah)(h:Int):ah:={S with l:=S.l.take (S.l.length-1),at_:=fk S.at_ h}
def ah.drop(S:ah)(h:Int):Int×Bool×ah:=
 match aw S.at_ h with
 |none=>(0,false,S)
 |some i=>match S.l[i.toNat]?,S.l[S.l.length-1]? with
  |some t,some last=>
   if i.toNat<S.l.length-1 then
    let a:=((S.cut h).lay i.toNat last).up i.toNat
    (t.bS,true,a.down ((aw a.at_ last.h).getD 0).toNat)
   else(t.bS,true,S.cut h)
  |_,_=>(0,false,S)
def ah.jP(S:ah)(h:Int):Prop:=∀i,aw S.at_ h=some i->0<=i/\i.toNat<S.l.length/\
 (i.toNat<S.l.length-1->∀last,S.l[S.l.length-1]?=some last->0<=(aw (((S.cut h).lay i.toNat last).up i.toNat).at_ last.h).getD 0/\((aw (((S.cut h).lay i.toNat last).up i.toNat).at_ last.h).getD 0).toNat<S.l.length-1)
theorem qY:∀(f:Nat) (S:ah) (i:Nat) (t:a8),(gK f S i t).1.l.length=S.l.length
 |0,_,_,_=>rfl
 |f+1,S,i,t=>by
  unfold gK;split
  ·rfl
  ·split
   ·rfl
   ·split
    ·rw[qY,ah.b1]
    ·rfl
theorem ah.m7(S:ah)(i:Nat):(S.up i).l.length=S.l.length:=by
 unfold ah.up;split
 ·rfl
 ·rw[ah.b1,qY]
theorem js{α:Type}{enc:α->List Value}{k:Nat}(a:∀x,(enc x).length=k):∀(l:List α) (n:Nat),(l.flatMap enc).take (n*k)=(l.take n).flatMap enc
 |[],n=>by simp
 |x::l,0=>by simp
 |x::l,n+1=>by
  rw[List.flatMap_cons,List.take_succ_cons,List.flatMap_cons,Nat.succ_mul,List.take_append,a,show n*k+k-k=n*k from by omega,js a l n,List.take_of_length_le (by rw[a];omega)]
theorem aM.shrink{w:World}{b mb g cap m:Nat}{S:ah}(h:aM w b mb (.slice (some ⟨g,0,none⟩) (m+1) cap) S)(c:S.l.length=m+1):
 aM (w.setCell ⟨b,0,none⟩ (.slice (some ⟨g,0,none⟩) m cap)) b mb (.slice (some ⟨g,0,none⟩) m cap) {S with l:=S.l.take m}:=by
 have i:b≠g:=fun e=>aY h.own h.head (by decide) (by rw[e];rfl)
 have q:w.ownsRow 0 328 3 (.slice (some ⟨g,0,none⟩) m cap) m ((S.l.take m).flatMap a8.cells):=by
  rcases h.own.2 with⟨a,_⟩|⟨g',t,cur,j,f,n,v,p,r,s⟩
  ·cases a
  ·injection j with a u d
   injection a with a
   injection a with a
   subst a d;refine⟨by rw[a7 a8.len,List.length_take];omega,Or.inr ⟨g,cap,cur,rfl,f,n,by omega,p,r,?_⟩⟩;rw[<-js a8.len,<-s,List.take_take]
   congr 1;rw[c];omega
 refine⟨h.head.a' _ _ rfl,?_,h.map.other (fun e=>h.map.ne h.head e) _⟩;show(w.setCell _ _).ownsRow 0 328 3 _ (S.l.take m).length _
 rw[List.length_take,c,Nat.min_eq_left (by omega)];exact ar (D:=aK b) q ((Ch.refl _ _).only 0 _) (fun k o e=>by
  have:g=k:=by simpa[Value.ownBlock]using o
  subst this;exact i (show _=_ from e.symm))
def kK(x:Int×Bool×ah)(b mb:Nat)(v:Value)(w:World)(e:Ending)(w':World):Prop:=e=.returned (.tuple #[.int .u64 x.1,.bool x.2.1])/\(∃a,aM w' b mb a x.2.2/\(a.ownBlock=v.ownBlock))/\Ch (cn b mb v) w w'
theorem kM(b mb:Nat)(v:Value)(S:ah)(d:Int)(hb:S.l.length<=900000)(J:S.jP d)(w:World)(h:aM w b mb v S):
 Calls prog 161 #[.pointer (some ⟨b,0,none⟩),.int .i64 d] w (kK (S.drop d) b mb v w):=by
 have H:=Z h;have M:∀w,(zeroValue 3).run prog w=.ok (.int .i64 0) w:=fun w=>by kernel_rfl
 have A:=kg (P:=prog) (T:=304) (K:=3) (E:=3) underlying304 underlying3 (M w) h.map d;obtain⟨Q,R⟩:=h.head.c2;have f0:=h.head.free 0;cases n:aw S.at_ d with
 |none=>
  rw[n]at A;have E:Hid (S.drop d=(0,false,S)):=Z (by unfold ah.drop;rw[n]);clear h n J M;simp only[Option.map_none,Option.getD_none,Option.isSome_none]at A;go_enter func161,ntmps161
  go_wp2
  go_ret2;rw[E.out];exact⟨rfl,⟨v,H.out,rfl⟩,Ch.refl _ _⟩
 |some c2=>
  rw[n]at A;obtain⟨U,c,I⟩:=J c2 n;obtain⟨i,rfl⟩:=Int.eq_ofNat_of_zero_le U;rw[Int.toNat_natCast]at c I;obtain⟨t,D⟩:∃t,S.l[i]?=some t:=⟨_,List.getElem?_eq_getElem c⟩;obtain⟨m,q⟩:∃m,S.l.length=m+1:=⟨S.l.length-1,by omega⟩;obtain⟨a,x⟩:∃a,S.l[m]?=some a:=⟨_,List.getElem?_eq_getElem (by omega)⟩;have E:Hid (S.drop d=if i<m then(t.bS,true,(((S.cut d).lay i a).up i).down ((aw (((S.cut d).lay i a).up i).at_ a.h).getD 0).toNat)else(t.bS,true,S.cut d)):=Z (by
   unfold ah.drop;rw[n];simp only[Int.toNat_natCast,D,q,Nat.add_sub_cancel,x])
  have a2:Hid (i<m->0<=(aw (((S.cut d).lay i a).up i).at_ a.h).getD 0/\((aw (((S.cut d).lay i a).up i).at_ a.h).getD 0).toNat<m):=Z (fun o=>by
   have:=I (by omega) a (by rw[q,Nat.add_sub_cancel];exact x);rw[q,Nat.add_sub_cancel]at this;exact this)
  obtain⟨g,cap,rfl,bv,c5,c6,c7,cq⟩:=h.at D;obtain⟨c8,c9,cb,-,-,-,-⟩:=h.cell x;rw[q]at Q H bv h⊢;have C:=Z q;have ch:=Z D;have ce:=Z x;have cs:(i:Int)<(m:Int)+1:=by omega
  have cl:((m+1:Nat):Int)=(m:Int)+1:=by omega
  have cS:(m:Int)+1-1=(m:Int):=by omega
  have ci:=h.head.lt;have cL:=h.map.lt;have cm:g≠b:=fun e=>aY h.own h.head (by decide) (by rw[e];rfl)
  have ct:i<=m:=by omega
  have cC:m<=900000:=by omega
  simp only[Option.map_some,Option.getD_some,Option.isSome_some]at A;have W:bH (((w.setCell ⟨b,0,none⟩ (.slice (some ⟨g,0,none⟩) m cap)).alloc (.cells #[.int .u64 t.d,.int .u64 t.bS,.int .i64 t.h] 328)).alloc (.cells #[.int .u64 a.d,.int .u64 a.bS,.int .i64 a.h] 328)) mb .i64 (Value.int .i64) S.at_:=((h.map.other (fun e=>h.map.ne h.head e) _).alloc _).alloc _;obtain⟨F,c0,V,s⟩:=iZ (P:=prog) (T:=304) (K:=3) (E:=3) (ty:=0) (kT:=3) underlying304 underlying3 W d;have bi:=Z (h.shrink C.out);have l:Hid (Row F w.heap.size 328 t.cells/\Row F (w.heap.size+1) 328 a.cells/\aM F b mb (.slice (some ⟨g,0,none⟩) m cap) (S.cut d)/\Ch (cn b mb (.slice (some ⟨g,0,none⟩) (m+1) cap)) w F):=Z (by
   have c1:=(bi.out.alloc (.cells #[.int .u64 t.d,.int .u64 t.bS,.int .i64 t.h] 328)).alloc (.cells #[.int .u64 a.d,.int .u64 a.bS,.int .i64 a.h] 328);refine⟨?_,?_,?_,?_⟩
   ·refine Row.ch ?_ s (fun e=>by have:w.heap.size=mb:=e;omega)
    have:=Row.new (w.setCell ⟨b,0,none⟩ (.slice (some ⟨g,0,none⟩) m cap)) #[.int .u64 t.d,.int .u64 t.bS,.int .i64 t.h] 328;rw[World.size_setCell]at this;exact this.alloc _
   ·refine Row.ch ?_ s (fun e=>by have:w.heap.size+1=mb:=e;omega)
    have:=Row.new ((w.setCell ⟨b,0,none⟩ (.slice (some ⟨g,0,none⟩) m cap)).alloc (.cells #[.int .u64 t.d,.int .u64 t.bS,.int .i64 t.h] 328)) #[.int .u64 a.d,.int .u64 a.bS,.int .i64 a.h] 328;rw[World.size_alloc,World.size_setCell]at this;exact this
   ·have:=c1.qD V s
    unfold ah.cut;rw[C.out,Nat.add_sub_cancel];exact this
   ·exact((((Ch.refl _ _).gS (p:=⟨b,0,none⟩) (Or.inl rfl) _).alloc _).alloc _).trans (kQ s))
  clear h n J M U c I D x q V s W;by_cases B:i<m
  ·have bw:(i:Int)<m:=by omega
   obtain⟨a0,a1⟩:=a2.out B;obtain⟨j,hj⟩:=Int.eq_ofNat_of_zero_le a0;rw[hj,Int.toNat_natCast]at a1;have G:Hid (S.drop d=(t.bS,true,(((S.cut d).lay i a).up i).down j)):=Z (by rw[E.out,if_pos B,hj,Int.toNat_natCast]);have av:=Z hj;clear hj a0;go_enter func161,ntmps161
   obtain⟨c3,c4,l2⟩:=l.out.2.1.c3;have u:Hid ((S.cut d).l.length=m):=Z (by unfold ah.cut;rw[C.out];simp[C.out]);have L:Hid (¬cn b mb (.slice (some ⟨g,0,none⟩) m cap) w.heap.size):=Z (by
    rintro(c|c|c)
    ·omega
    ·omega
    ·have:g=w.heap.size:=by simpa[Value.ownBlock]using c
     omega)
   have Y:Hid (¬cn b mb (.slice (some ⟨g,0,none⟩) m cap) (w.heap.size+1)):=Z (by
    rintro(c|c|c)
    ·omega
    ·omega
    ·have:g=w.heap.size+1:=by simpa[Value.ownBlock]using c
     omega)
   go_wp2_with fail
   with_reducible refine(lJ b mb (.slice (some ⟨g,0,none⟩) m cap) (S.cut d) i (by rw[u.out];exact B) a _ l.out.2.2.1 _ ?_).mono ?_
   ·rfl
   rintro e w4 ⟨rfl,k,f⟩;have al:=Z k;have N:Hid (Row w4 w.heap.size 328 t.cells/\Row w4 (w.heap.size+1) 328 a.cells):=Z ⟨l.out.1.ch f L.out,l.out.2.1.ch f Y.out⟩;have a3:Hid (Ch (cn b mb (.slice (some ⟨g,0,none⟩) (m+1) cap)) w w4):=Z (l.out.2.2.2.trans (f.mono fun i o=>by rcases o with c|c|c;exact Or.inl c;exact Or.inr (Or.inl c);exact Or.inr (Or.inr c)));clear k f c3 c4 l2 c0 A Q R f0 c5 c6 c7 c8 c9 cb;go_wp2_with fail
   with_reducible refine(qh b mb (.slice (some ⟨g,0,none⟩) m cap) ((S.cut d).lay i a) i (by rw[ah.b1,u.out];exact B) (by rw[ah.b1,u.out];omega) _ al.out _ ?_).mono ?_
   ·rfl
   rintro e r ⟨rfl,k,f⟩;have am:=Z k;have O:Hid (Row r w.heap.size 328 t.cells/\Row r (w.heap.size+1) 328 a.cells):=Z ⟨N.out.1.ch f L.out,N.out.2.ch f Y.out⟩;have ab:Hid (Ch (cn b mb (.slice (some ⟨g,0,none⟩) (m+1) cap)) w r):=Z (a3.out.trans (f.mono fun i o=>by rcases o with c|c|c;exact Or.inl c;exact Or.inr (Or.inl c);exact Or.inr (Or.inr c)));have R:=k.head.k 1 rfl;have l2:=O.out.2.k 2 rfl;have cA:(Instr.lookup 304 (.map (some mb)) (.int .i64 a.h) false).run prog r.drew=.ok (.int .i64 j) r.drew:=by
    rw[iW (P:=prog) (T:=304) (K:=3) (E:=3) (z:=.int .i64 0) underlying304 underlying3 (by kernel_rfl) k.map.drew a.h];have:=av.out;cases X:aw (((S.cut d).lay i a).up i).at_ a.h with
    |none=>rw[X]at this;rw[<-this];rfl
    |some y=>rw[X]at this;rw[<-this];rfl
   clear k f;go_wp2
   go_still_tail 8,(by kernel_rfl)
   change wpList _ _ _ _ _ r.drew;go_wp2_with fail
   with_reducible refine(o2 b mb (.slice (some ⟨g,0,none⟩) m cap) (((S.cut d).lay i a).up i) j (by rw[ah.m7,ah.b1,u.out];exact a1) (by rw[ah.m7,ah.b1,u.out];omega) _ am.out.drew _ ?_).mono ?_
   ·rfl
   rintro e cd ⟨rfl,k,f⟩;have ap:=Z k;have ad:Hid (Ch (cn b mb (.slice (some ⟨g,0,none⟩) (m+1) cap)) w cd):=Z (ab.out.drew.trans (f.mono fun i o=>by rcases o with c|c|c;exact Or.inl c;exact Or.inr (Or.inl c);exact Or.inr (Or.inr c)));have t1:=(O.out.1.drew.ch f L.out).cell (i:=1) rfl;clear k f;go_wp2
   go_ret2;rw[G.out];exact⟨rfl,⟨_,ap.out,rfl⟩,ad.out⟩
  ·have bw:¬(i:Int)<m:=by omega
   have G:Hid (S.drop d=(t.bS,true,S.cut d)):=Z (by rw[E.out,if_neg B]);have t1:=l.out.1.k 1 rfl;go_enter func161,ntmps161
   go_wp2
   go_ret2;rw[G.out];exact⟨rfl,⟨_,l.out.2.2.1,rfl⟩,l.out.2.2.2⟩
def ah.pop(S:ah)(now:Int):Int×Bool×ah:=
 match S.l with
 |[]=>(0,false,S)
 |t::_=>if now<t.d then(0,false,S)else S.drop t.h
theorem kS(b mb:Nat)(v:Value)(S:ah)(now:Int)(hb:S.l.length<=900000)(f:∀t∈S.l.head?,S.jP t.h)(w:World)(h:aM w b mb v S):
 Calls prog 127 #[.pointer (some ⟨b,0,none⟩),.int .u64 now] w (kK (S.pop now) b mb v w):=by
 have H:=Z h;have z:=h.head.c1;cases d:S.l with
 |nil=>
  have E:Hid (S.pop now=(0,false,S)):=Z (by unfold ah.pop;rw[d]);have r:v=.slice none 0 0∨∃a c,v=.slice a 0 c:=by
   obtain⟨a,c,rfl⟩:=aA h.own
   right;exact⟨a,c,by rw[d];rfl⟩
  have C:∃a c,v=.slice a 0 c:=by
   rcases r with rfl|A
   ·exact⟨_,_,rfl⟩
   ·exact A
  obtain⟨a,c,rfl⟩:=C;clear h d f r;go_enter func127,ntmps127
  go_wp2
  go_ret2;rw[E.out];exact⟨rfl,⟨_,H.out,rfl⟩,Ch.refl _ _⟩
 |cons t l=>
  have k:S.l[0]?=some t:=by rw[d];rfl
  obtain⟨g,cap,rfl,B,D,s,n,F⟩:=h.at k;rw[Nat.zero_mul]at D;have J:w.cell? ⟨g,2,none⟩=some (.int .i64 t.h):=by simpa using n
  have j:S.l.length=l.length+1:=by rw[d];rfl
  obtain⟨m,i⟩:=mn l.length;rw[j,<-i]at z H B⊢;have x:=Z (fun w h=>kM b mb (.slice (some ⟨g,0,none⟩) (m+1) cap) S t.h hb (f t (by rw[d];rfl)) w h);have G:((m:Int)+1==0)=false:=by rw[beq_eq_false_iff_ne];omega
  have I:(0:Int)<(m:Int)+1:=by omega
  by_cases p:now<t.d
  ·have E:Hid (S.pop now=(0,false,S)):=Z (by unfold ah.pop;rw[d];simp only[if_pos p])
   clear h d f k j i s n;go_enter func127,ntmps127
   go_wp2
   go_ret2;rw[E.out];exact⟨rfl,⟨_,H.out,rfl⟩,Ch.refl _ _⟩
  ·have E:Hid (S.pop now=S.drop t.h):=Z (by unfold ah.pop;rw[d];simp only[if_neg p])
   clear h d f k j i s n;go_enter func127,ntmps127
   go_wp2_with fail
   refine(x.out _ H.out).mono ?_;rintro e w' ⟨rfl,q,o⟩;have y:=Z q;have u:=Z o;clear q o;go_wp2
   go_ret2;rw[E.out];exact⟨rfl,y.out,u.out⟩
def ah.new:ah:=⟨[],[],0⟩
theorem q0(w:World):Calls prog 104 #[] w (fun e w'=>∃b mb,e=.returned (.pointer (some ⟨b,0,none⟩))/\aM w' b mb (.slice none 0 0) ah.new/\w.heap.size<=b/\w.heap.size<=mb/\Ch ag w w'):=by
 have a:= @run_makeMap prog;go_enter func104,ntmps104
 go_wp2
 go_ret;refine⟨w.heap.size+1,w.heap.size,rfl,⟨?_,⟨rfl,Or.inl ⟨rfl,rfl⟩⟩,⟨#[],0,?_,rfl⟩⟩,by omega,Nat.le_refl _,((Ch.refl _ _).alloc _).alloc _⟩
 ·have:=Row.new (w.alloc (.map #[] 0)) #[.slice none 0 0,.map (some w.heap.size),.int .i64 0] 307
  rw[World.size_alloc]at this;exact this
 ·rw[Below.heap_alloc _ _ _ (by simp)];exact heap_alloc_new w _
section
section
variable{α:Type}
theorem m8:∀(l:List (Int×α)) (k:Int) (i:Nat),dU l k i=none↔∀x∈l,x.1≠k
 |[],_,_=>by simp[dU]
 |x::l,k,i=>by
  unfold dU;split
  ·rename_i h
   have:k=x.1:=(by simpa using h);simp[this]
  ·rename_i h
   have:¬k=x.1:=(by simpa using h);rw[m8 l k (i+1)];simp only[List.mem_cons,forall_eq_or_imp];exact⟨fun a=>⟨fun e=>this e.symm,a⟩,fun a=>a.2⟩
theorem jQ(x:Int×α)(l:List (Int×α))(k:Int)(i:Nat):dU (x::l) k i=if k==x.1 then some (i,x.2)else dU l k (i+1):=rfl
theorem ya(k:Int):aw ([]:List (Int×α)) k=none:=rfl
theorem cT(x:Int×α)(l:List (Int×α))(k:Int):aw (x::l) k=if k=x.1 then some x.2 else aw l k:=by
 unfold aw;rw[jQ,fY l k (0+1)];by_cases h:k=x.1
 ·simp[h]
 ·simp only[beq_iff_eq,h,if_false]
  cases dU l k 0<;>simp
theorem kh(k:Int)(v:α):b8 [] k v=[(k,v)]:=rfl
theorem dR(x:Int×α)(l:List (Int×α))(k:Int)(v:α):b8 (x::l) k v=if k=x.1 then(k,v)::l else x::b8 l k v:=by
 unfold b8;rw[jQ,fY l k (0+1)];by_cases h:k=x.1
 ·simp[h]
 ·simp only[beq_iff_eq,h,if_false]
  cases dU l k 0<;>simp
theorem hH(x:Int×α)(l:List (Int×α))(k:Int):fk (x::l) k=if k=x.1 then l else x::fk l k:=by
 unfold fk;rw[jQ,fY l k (0+1)];by_cases h:k=x.1
 ·simp[h]
 ·simp only[beq_iff_eq,h,if_false]
  cases dU l k 0<;>simp
theorem aT(l:List (Int×α))(k:Int)(v:α)(j:Int):aw (b8 l k v) j=if j=k then some v else aw l j:=by
 induction l with
 |nil=>rw[kh,cT]
 |cons x l ih=>
  rw[dR];by_cases h:k=x.1
  ·rw[if_pos h,cT,cT]
   by_cases hj:j=k
   ·simp[hj]
   ·simp only[hj,if_false]
    rw[if_neg (by rw[<-h];exact hj)]
  ·rw[if_neg h,cT,ih,cT]
   by_cases hj:j=x.1
   ·rw[if_pos hj,if_pos hj,if_neg (by rw[hj];exact fun e=>h e.symm)]
   ·rw[if_neg hj,if_neg hj]
theorem fZ(l:List (Int×α))(k j:Int)(h:j≠k):aw (fk l k) j=aw l j:=by
 induction l with
 |nil=>rfl
 |cons x l ih=>
  rw[hH];by_cases a:k=x.1
  ·rw[if_pos a,cT,if_neg (by rw[<-a];exact h)]
  ·rw[if_neg a,cT,cT,ih]
theorem vC(l:List (Int×α))(k:Int):aw l k=none↔∀x∈l,x.1≠k:=by
 unfold aw;rw[Option.map_eq_none_iff,m8]
def f'(l:List (Int×α)):Prop:=(l.map (·.1)).Nodup
theorem vD(l:List (Int×α))(k:Int)(v:α):(b8 l k v).map (·.1)=if(l.map (·.1)).contains k then l.map (·.1)else l.map (·.1)++[k]:=by
 induction l with
 |nil=>rfl
 |cons x l ih=>
  rw[dR];by_cases h:k=x.1
  ·simp[h]
  ·simp only[h,if_false,List.map_cons,ih,List.contains_cons,beq_iff_eq,Bool.false_or,show(k==x.1)=false from by simpa using h]
   split<;>simp
theorem f'.put{l:List (Int×α)}(h:f' l)(k:Int)(v:α):f' (b8 l k v):=by
 unfold f';rw[vD];split
 ·exact h
 ·rename_i f
  rw[List.nodup_append];refine⟨h,by simp,fun a c b hb=> ?_⟩;have d:b=k:=by simpa using hb
  subst d;intro e;subst e;exact f (by simpa using c)
theorem f'.del{l:List (Int×α)}(h:f' l)(k:Int):f' (fk l k)/\aw (fk l k) k=none:=by
 induction l with
 |nil=>exact⟨h,rfl⟩
 |cons x l ih=>
  have b:x.1∉l.map (·.1)/\(l.map (·.1)).Nodup:=List.nodup_cons.1 h;rw[hH];by_cases c:k=x.1
  ·rw[if_pos c]
   refine⟨b.2,(vC l k).2 fun y a e=>b.1 ?_⟩;have:=List.mem_map_of_mem (f:=fun x:Int×α=>x.1) a;rw[e,c]at this;exact this
  ·rw[if_neg c]
   obtain⟨i1,i2⟩:=ih b.2;refine⟨?_,?_⟩
   ·refine List.nodup_cons.2 ⟨fun i=>b.1 ?_,i1⟩
    have:∀(l:List (Int×α)) y,y∈fk l k->y∈l:=by
     intro l
     induction l with
     |nil=>intro y a;exact a
     |cons z l j=>
      intro y a;rw[hH]at a;split at a
      ·exact List.mem_cons_of_mem _ a
      ·rcases List.mem_cons.1 a with rfl|a
       ·exact List.mem_cons_self
       ·exact List.mem_cons_of_mem _ (j y a)
    obtain⟨y,a,g⟩:=List.mem_map.1 i;have d:=List.mem_map_of_mem (f:=fun x:Int×α=>x.1) (this l y a);rw[g]at d;exact d
   ·rw[cT,if_neg c];exact i2
end
structure ah.WF(S:ah):Prop where
 nd:f' S.at_
 at_:∀k j,aw S.at_ k=some j->0<=j/\∃x,S.l[j.toNat]?=some x/\x.h=k
structure ah.la(S:ah)(i:Nat)(t:a8):Prop where
 nd:f' S.at_
 lt:i<S.l.length
 at_:∀k j,k≠t.h->aw S.at_ k=some j->0<=j/\j.toNat≠i/\∃x,S.l[j.toNat]?=some x/\x.h=k
theorem ah.WF.hole{S:ah}(h:S.WF){i:Nat}{t:a8}(c:S.l[i]?=some t):S.la i t:=
 ⟨h.nd,(List.getElem?_eq_some_iff.1 c).1,fun k j f hj=>by
  obtain⟨d,x,a,b⟩:=h.at_ k j hj;refine⟨d,fun e=>f ?_,x,a,b⟩;rw[e,c]at a;rw[<-b,<-Option.some.inj a]⟩
theorem ah.la.fill{S:ah}{i:Nat}{t:a8}(h:S.la i t):(S.lay i t).WF:=
 ⟨h.nd.put _ _,fun k j hj=>by
  unfold ah.lay at hj⊢;dsimp only at hj⊢;rw[aT]at hj;by_cases a:k=t.h
  ·rw[if_pos a]at hj
   have:(i:Int)=j:=Option.some.inj hj;subst this;exact⟨by omega,t,by rw[Int.toNat_natCast,List.getElem?_set_self h.lt],a.symm⟩
  ·rw[if_neg a]at hj
   obtain⟨b,c,x,f,d⟩:=h.at_ k j a hj;exact⟨b,x,by rw[List.getElem?_set_ne (fun e=>c e.symm)];exact f,d⟩⟩
theorem ah.la.shift{S:ah}{i p:Nat}{t x:a8}(h:S.la i t)(d:S.l[p]?=some x)(m:p≠i):(S.lay i x).la p t:=
 ⟨h.nd.put _ _,by rw[ah.b1];exact(List.getElem?_eq_some_iff.1 d).1,fun k j l hj=>by
  unfold ah.lay at hj⊢;dsimp only at hj⊢;rw[aT]at hj;by_cases a:k=x.h
  ·rw[if_pos a]at hj
   have:(i:Int)=j:=Option.some.inj hj;subst this;exact⟨by omega,by rw[Int.toNat_natCast];exact fun e=>m e.symm,x,by rw[Int.toNat_natCast,List.getElem?_set_self h.lt],a.symm⟩
  ·rw[if_neg a]at hj
   obtain⟨f,g,y,b,c⟩:=h.at_ k j l hj;refine⟨f,fun e=>a ?_,y,by rw[List.getElem?_set_ne (fun e=>g e.symm)];exact b,c⟩;rw[e,d]at b;rw[<-c,<-Option.some.inj b]⟩
theorem oU:∀(f:Nat) (S:ah) (i:Nat) (t:a8),S.la i t->(gK f S i t).1.la (gK f S i t).2 t
 |0,S,i,t,h=>h
 |f+1,S,i,t,h=>by
  unfold gK;split
  ·exact h
  ·rename_i b
   split
   ·exact h
   ·rename_i p a
    split
    ·exact oU f _ _ t (h.shift a (by omega))
    ·exact h
theorem l2:∀(f:Nat) (S:ah) (i:Nat) (t:a8),S.la i t->(bN f S i t).1.la (bN f S i t).2 t
 |0,S,i,t,h=>h
 |f+1,S,i,t,h=>by
  unfold bN;split
  ·exact h
  ·rename_i a c
   split
   ·exact h
   ·rename_i x b
    split
    ·refine l2 f _ _ t (h.shift b ?_)
     unfold jE;split
     ·omega
     ·split<;>omega
    ·exact h
theorem ah.la.up{S:ah}{i:Nat}{t:a8}(h:S.la i t)(a:S.l[i]?=some t):(S.up i).WF:=by
 unfold ah.up;rw[a];exact(oU _ S i t h).fill
theorem ah.WF.up{S:ah}(h:S.WF){i:Nat}(a:i<S.l.length):(S.up i).WF:=(h.hole (List.getElem?_eq_getElem a)).up (List.getElem?_eq_getElem a)
theorem ah.WF.down{S:ah}(h:S.WF){i:Nat}(b:i<S.l.length):(S.down i).WF:=by
 have a:=List.getElem?_eq_getElem b;unfold ah.down;rw[a];exact(l2 _ S i _ (h.hole a)).fill
theorem ah.WF.put{S:ah}(h:S.WF)(d b:Int):(S.put d b).2.WF:=by
 unfold ah.put;dsimp only;refine ah.la.up (t:=⟨d,b,RowKit.wrap64 (S.last+1)⟩) ⟨h.nd,by simp,fun k j g hj=> ?_⟩ (by simp);obtain⟨c,x,a,e⟩:=h.at_ k j hj;have f:=(List.getElem?_eq_some_iff.1 a).1;exact⟨c,by omega,x,by dsimp only;rw[List.getElem?_append_left f];exact a,e⟩
theorem ah.WF.uA{S:ah}(h:S.WF){b:Int}{i:Nat}{d:a8}(n:aw S.at_ b=some (i:Int))(u:i<S.l.length-1)(p:S.l[S.l.length-1]?=some d):((S.cut b).lay i d).WF:=by
 obtain⟨q,r⟩:=h.nd.del b;refine⟨q.put _ _,fun k j hj=> ?_⟩;unfold ah.lay ah.cut at hj⊢;dsimp only at hj⊢;rw[aT]at hj;by_cases c:k=d.h
 ·rw[if_pos c]at hj
  have:(i:Int)=j:=Option.some.inj hj;subst this;exact⟨by omega,d,by rw[Int.toNat_natCast,List.getElem?_set_self (by simp;omega)],c.symm⟩
 ·rw[if_neg c]at hj
  have g:k≠b:=by
   intro e;subst e;rw[r]at hj;cases hj
  rw[fZ _ _ _ g]at hj;obtain⟨m,x,a,f⟩:=h.at_ k j hj;have v:=(List.getElem?_eq_some_iff.1 a).1;have t:j.toNat≠S.l.length-1:=by
   intro e;rw[e,p]at a;exact c (by rw[<-f,<-Option.some.inj a])
  have o:j.toNat≠i:=by
   intro e;obtain⟨-,y,l,s⟩:=h.at_ b i n;rw[Int.toNat_natCast]at l;rw[e,l]at a;exact g (by rw[<-f,<-s,Option.some.inj a])
  exact⟨m,x,by rw[List.getElem?_set_ne (fun e=>o e.symm),List.getElem?_take_of_lt (by omega)];exact a,f⟩
theorem ah.WF.yb{S:ah}(h:S.WF){a:Int}{i:Nat}(l:aw S.at_ a=some (i:Int))(r:¬i<S.l.length-1):(S.cut a).WF:=by
 obtain⟨m,n⟩:=h.nd.del a;refine⟨m,fun k j hj=> ?_⟩;unfold ah.cut at hj⊢;dsimp only at hj⊢;have f:k≠a:=by
  intro e;subst e;rw[n]at hj;cases hj
 rw[fZ _ _ _ f]at hj;obtain⟨g,x,b,d⟩:=h.at_ k j hj;have s:=(List.getElem?_eq_some_iff.1 b).1;obtain⟨-,y,c,o⟩:=h.at_ a i l;rw[Int.toNat_natCast]at c;have p:=(List.getElem?_eq_some_iff.1 c).1;have q:j.toNat≠i:=by
  intro e;rw[e,c]at b;exact f (by rw[<-d,<-o,Option.some.inj b])
 exact⟨g,x,by rw[List.getElem?_take_of_lt (by omega)];exact b,d⟩
theorem ah.WF.jP{S:ah}(h:S.WF)(a:Int):S.jP a:=by
 intro i d;obtain⟨c,x,e,o⟩:=h.at_ a i d;obtain⟨n,rfl⟩:=Int.eq_ofNat_of_zero_le c;rw[Int.toNat_natCast]at e⊢;refine⟨c,(List.getElem?_eq_some_iff.1 e).1,fun k b g=> ?_⟩;have hw:=(h.uA d k g).up (i:=n) (by rw[ah.b1];unfold ah.cut;simp;omega);cases f:aw (((S.cut a).lay n b).up n).at_ b.h with
 |none=>exact⟨by simp,by simp;omega⟩
 |some j=>
  obtain⟨m,y,l,_⟩:=hw.at_ b.h j f;have:=(List.getElem?_eq_some_iff.1 l).1;rw[ah.m7,ah.b1]at this;unfold ah.cut at this;exact⟨by simpa using m,by simp at this⊢;omega⟩
theorem ah.WF.drop{S:ah}(h:S.WF)(b:Int):(S.drop b).2.2.WF:=by
 unfold ah.drop;cases d:aw S.at_ b with
 |none=>exact h
 |some i=>
  obtain⟨k,f,g⟩:=h.jP b i d;obtain⟨n,rfl⟩:=Int.eq_ofNat_of_zero_le k;simp only[Int.toNat_natCast]at f g⊢;obtain⟨t,j⟩:∃t,S.l[n]?=some t:=⟨_,List.getElem?_eq_getElem f⟩;obtain⟨c,e⟩:∃c,S.l[S.l.length-1]?=some c:=⟨_,List.getElem?_eq_getElem (by omega)⟩;rw[j,e];dsimp only;by_cases a:n<S.l.length-1
  ·rw[if_pos a]
   obtain⟨_,k2⟩:=g a c e;have hlen:(((S.cut b).lay n c).up n).l.length=S.l.length-1:=(by rw[ah.m7,ah.b1];unfold ah.cut;simp);exact((h.uA d a e).up (by rw[ah.b1];unfold ah.cut;simp;omega)).down (by rw[hlen];exact k2)
  ·rw[if_neg a];exact h.yb d a
theorem ah.WF.pop{S:ah}(h:S.WF)(now:Int):(S.pop now).2.2.WF:=by
 unfold ah.pop;split
 ·exact h
 ·split
  ·exact h
  ·exact h.drop _
theorem ah.Cq:ah.new.WF:=⟨by unfold f' ah.new;simp,fun k j hj=>by cases hj⟩
end
structure aN where
 now:Int
 heap:ah
 ff:List (Int×Int×Int)
def ib(x:Int×Int):Value:=.agg #[.int .i64 x.1,.int .u64 x.2]
structure aX(w:World)(b hb mb qb:Nat)(v:Value)(S:aN):Prop where
 head:Row w b 226 [.int .u64 S.now,.pointer (some ⟨hb,0,none⟩),.map (some qb)]
 heap:aM w hb mb v S.heap
 ff:bH w qb .u64 ib S.ff
 ne:qb≠mb
def e0(b hb mb qb:Nat)(v:Value):Nat->Prop:=fun i=>i=b∨i=qb∨cn hb mb v i
theorem aX.alloc{w:World}{b hb mb qb:Nat}{v:Value}{S:aN}(h:aX w b hb mb qb v S)(a:Obj):aX (w.alloc a) b hb mb qb v S:=⟨h.head.alloc a,h.heap.alloc a,h.ff.alloc a,h.ne⟩
theorem aX.drew{w:World}{b hb mb qb:Nat}{v:Value}{S:aN}(h:aX w b hb mb qb v S):aX w.drew b hb mb qb v S:=⟨h.head,h.heap.drew,h.ff,h.ne⟩
theorem aX.ch{w w':World}{D:Nat->Prop}{b hb mb qb:Nat}{v:Value}{S:aN}(h:aX w b hb mb qb v S)(c:Ch D w w')(a:¬D b)(d:¬D hb)(e:¬D mb)(f:¬D qb)(i:∀g,v.ownBlock=some g->¬D g):aX w' b hb mb qb v S:=
 ⟨h.head.ch c a,h.heap.ch c d e i,h.ff.ch c f,h.ne⟩
theorem aX.uB{w:World}{b hb mb qb:Nat}{v:Value}{S:aN}(h:aX w b hb mb qb v S):¬cn hb mb v b/\¬cn hb mb v qb:=by
 refine⟨?_,?_⟩
 ·rintro(a|a|a)
  ·exact h.head.ne h.heap.head (by decide) a
  ·exact h.heap.map.ne h.head a.symm
  ·exact aY h.heap.own h.head (by decide) a
 ·rintro(a|a|a)
  ·exact h.ff.ne h.heap.head a
  ·exact h.ne a
  ·exact ia h.heap.own h.ff a
theorem pM(b hb mb qb:Nat)(v:Value)(S:aN)(w:World)(h:aX w b hb mb qb v S):Calls prog 84 #[.pointer (some ⟨b,0,none⟩)] w (d' (.int .u64 S.now) w):=by
 have a:=h.head.c1;clear h;go_enter func84,ntmps84
 go_wp2
 go_ret;exact d'.mk rfl
def aN.bl(S:aN)(id:Int):Bool×aN:=
 match aw S.ff id with
 |none=>(false,S)
 |some x=>(true,{S with heap:=(S.heap.drop x.1).2.2,ff:=fk S.ff id})
theorem aX.drop{w w':World}{b hb mb qb:Nat}{v d:Value}{S:aN}{c:ah}(h:aX w b hb mb qb v S)(e:aM w' hb mb d c)(a:Ch (cn hb mb v) w w'):aX w' b hb mb qb d {S with heap:=c}/\Ch (e0 b hb mb qb v) w w':=
 ⟨⟨h.head.ch a h.uB.1,e,h.ff.ch a h.uB.2,h.ne⟩,a.mono fun i f=>Or.inr (Or.inr f)⟩
theorem aX.del{w w':World}{b hb mb qb:Nat}{v:Value}{S:aN}{l:List (Int×Int×Int)}(h:aX w b hb mb qb v S)(d:bH w' qb .u64 ib l)(a:Ch (aK qb) w w'):aX w' b hb mb qb v {S with ff:=l}:=
 ⟨h.head.ch a (fun e=>h.ff.ne h.head (show _=_ from Eq.symm e)),h.heap.ch a (fun e=>h.ff.ne h.heap.head (show _=_ from Eq.symm e)) (fun e=>h.ne (show _=_ from Eq.symm e)) (fun g c e=>ia h.heap.own h.ff (by rw[c];exact congrArg some e)),d,h.ne⟩
section
attribute [local go_sem↓] Go.wp_at_zero Go.wp_at_succ
def aN.arm(S:aN)(id dl:Int):Bool×aN:=
 if id==0 then(false,S)else
 match aw S.ff id with
 |some _=>(false,S)
 |none=>if dl !=18446744073709551615 then(true,{S with heap:=(S.heap.put dl id).2,ff:=b8 S.ff id ((S.heap.put dl id).1,dl)})else(true,S)
def aN.new:aN:=⟨0,ah.new,[]⟩
theorem ki(w:World):Calls prog 62 #[] w (fun e w'=>∃b hb mb qb,e=.returned (.pointer (some ⟨b,0,none⟩))/\aX w' b hb mb qb (.slice none 0 0) aN.new/\w.heap.size<=b/\w.heap.size<=hb/\w.heap.size<=mb/\w.heap.size<=qb/\Ch ag w w'):=by
 have k:= @run_makeMap prog;go_enter func62,ntmps62
 go_wp2_with fail
 refine(q0 _).mono ?_;rintro e w1 ⟨hb,mb,rfl,c,g,h,a⟩;have f:=Z c;have d:=Z a;have i:=a.size;have j:=c.map.lt;clear c a;go_wp2
 go_ret;refine⟨w1.heap.size+1,hb,mb,w1.heap.size,rfl,⟨?_,(f.out.alloc _).alloc _,⟨#[],0,?_,rfl⟩,by omega⟩,by omega,g,h,i,(d.out.alloc _).alloc _⟩
 ·have:=Row.new (w1.alloc (.map #[] 0)) #[.int .u64 0,.pointer (some ⟨hb,0,none⟩),.map (some w1.heap.size)] 226
  rw[World.size_alloc]at this;exact this
 ·rw[Below.heap_alloc _ _ _ (by simp)];exact heap_alloc_new w1 _
end
section
attribute [local go_sem↓] Go.wp_at_zero Go.wp_at_succ
theorem j5:∀(f:Nat) (S:ah) (i:Nat) (t:a8),(bN f S i t).1.l.length=S.l.length
 |0,_,_,_=>rfl
 |f+1,S,i,t=>by
  unfold bN;split
  ·rfl
  ·split
   ·rfl
   ·split
    ·rw[j5,ah.b1]
    ·rfl
theorem ah.n6(S:ah)(i:Nat):(S.down i).l.length=S.l.length:=by
 unfold ah.down;split
 ·rfl
 ·rw[ah.b1,j5]
theorem ah.mN(S:ah)(h:Int):(S.cut h).l.length=S.l.length-1:=by unfold ah.cut;simp
theorem ah.o8(S:ah)(h:Int):((S.drop h).2.1=false/\(S.drop h).2.2=S/\(S.drop h).1=0)∨((S.drop h).2.1=true/\0<S.l.length/\(S.drop h).2.2.l.length=S.l.length-1):=by
 unfold ah.drop;split
 ·exact Or.inl ⟨rfl,rfl,rfl⟩
 ·split
  ·rename_i t d a c
   have b:=(List.getElem?_eq_some_iff.1 a).1;split
   ·exact Or.inr ⟨rfl,by omega,by rw[ah.n6,ah.m7,ah.b1,ah.mN]⟩
   ·exact Or.inr ⟨rfl,by omega,by rw[ah.mN]⟩
  ·exact Or.inl ⟨rfl,rfl,rfl⟩
theorem ah.pL(S:ah)(now:Int):((S.pop now).2.1=false/\(S.pop now).2.2=S/\(S.pop now).1=0)∨((S.pop now).2.1=true/\0<S.l.length/\(S.pop now).2.2.l.length=S.l.length-1):=by
 unfold ah.pop;split
 ·exact Or.inl ⟨rfl,rfl,rfl⟩
 ·split
  ·exact Or.inl ⟨rfl,rfl,rfl⟩
  ·exact ah.o8 _ _
def ed:Nat->aN->List Int->aN×List Int
 |0,S,acc=>(S,acc)
 |f+1,S,acc=>
  if(S.heap.pop S.now).2.1 then ed f {S with heap:=(S.heap.pop S.now).2.2,ff:=fk S.ff (S.heap.pop S.now).1} (acc++[(S.heap.pop S.now).1])else(S,acc)
def aN.tick(S:aN):aN×List Int:=
 ed (S.heap.l.length+1) {S with now:=IntKind.u64.wrap (S.now+1)} []
def pf(x:aN×List Int)(b hb mb qb:Nat)(v:Value)(w:World)(e:Ending)(w':World):Prop:=
 (∃u,e=.returned u/\w'.ownsRow w.heap.size 39 1 u x.2.length (x.2.map (Value.int .u64)))/\(∃a,aX w' b hb mb qb a x.1/\aQ w v a)/\Ch (e0 b hb mb qb v) w w'
theorem mR{w:World}{b hb mb qb:Nat}{v d:Value}(h:aQ w v d):∀i,i<w.heap.size->e0 b hb mb qb d i->e0 b hb mb qb v i:=fun i f e=>by
 rcases e with a|a|a|a|a
 ·exact Or.inl a
 ·exact Or.inr (Or.inl a)
 ·exact Or.inr (Or.inr (Or.inl a))
 ·exact Or.inr (Or.inr (Or.inr (Or.inl a)))
 ·rcases h i a with c|c
  ·exact Or.inr (Or.inr (Or.inr (Or.inr c)))
  ·omega
theorem jt:(prog.info? 39).map (fun i=>(i.zero,i.size,i.bytes))=some (some (.int .u64 0),1,8):=by kernel_rfl
theorem aX.time{w:World}{b hb mb qb:Nat}{v:Value}{S:aN}(h:aX w b hb mb qb v S)(n:Int):aX (w.setCell ⟨b,0,none⟩ (.int .u64 n)) b hb mb qb v {S with now:=n}/\Ch (e0 b hb mb qb v) w (w.setCell ⟨b,0,none⟩ (.int .u64 n)):=by
 have a:Ch (aK b) w (w.setCell ⟨b,0,none⟩ (.int .u64 n)):=(Ch.refl _ _).only 0 _;refine⟨⟨h.head.a' _ _ rfl,h.heap.ch a (fun e=>h.head.ne h.heap.head (by decide) (show _=_ from Eq.symm e)) (fun e=>h.heap.map.ne h.head e) (fun g c e=>aY h.heap.own h.head (by decide) (by rw[c];exact congrArg some e)),h.ff.ch a (fun e=>h.ff.ne h.head e),h.ne⟩,a.mono fun i d=>Or.inl d⟩
theorem pO{w:World}{B f:Nat}{e a:TypeId}{s s':Nat}{v d:Value}{n m:Nat}{o p:List Value}(h:w.ownsRow B e s v n o)(i:w.ownsRow f a s' d m p)(j:e≠a){k:Nat}(b:v.ownBlock=some k):d.ownBlock≠some k:=by
 rcases h.2 with⟨rfl,_⟩|⟨g,cap,cur,rfl,_,l,_⟩
 ·cases b
 ·have:g=k:=by simpa[Value.ownBlock]using b
  subst this;exact aY (c:=cur.toList) i (by unfold Row;simpa using l) j
theorem aM.pN{w:World}{b mb:Nat}{v:Value}{S:ah}(h:aM w b mb v S){B:Nat}{e:TypeId}{s:Nat}{u:Value}{n:Nat}{i:List Value}(d:w.ownsRow B e s u n i)(f:307≠e)(g:e≠328):∀k,u.ownBlock=some k->¬cn b mb v k:=by
 rintro k c (a|a|a)
 ·exact aY d h.head f (c.trans (congrArg some a))
 ·exact ia d h.map (c.trans (congrArg some a))
 ·exact pO d h.own g c a
theorem aX.grown{w w':World}{b hb mb qb:Nat}{v:Value}{S:aN}(h:aX w b hb mb qb v S){B:Nat}{u:Value}{n:Nat}{f:List Value}(a:w.ownsRow B 39 1 u n f)(c:w.grownBy w' u.ownBlock):aX w' b hb mb qb v S:=
 h.ch (Ch.bQ c) (aY a h.head (by decide)) (aY a h.heap.head (by decide)) (ia a h.heap.map) (ia a h.ff) (fun g d e=>pO a h.heap.own (by decide) e d)
theorem iP{w w':World}{B:Nat}{D:Nat->Prop}{a:World}{e:TypeId}{s:Nat}{u:Value}{n:Nat}{h:List Value}(c:Ch D a w)(f:w.ownsRow B e s u n h)(j:a.heap.size<=B)(d:w.grownBy w' u.ownBlock):Ch D a w':=
 c.join (Ch.bQ d) (fun i l b=>by
  rcases f.2 with⟨rfl,_⟩|⟨g,cap,cur,rfl,k,_⟩
  ·cases b
  ·have:g=i:=by simpa[Value.ownBlock]using b
   omega)
theorem ko(b hb mb qb:Nat)(v:Value)(S:aN)(ab:S.heap.l.length<=900000)(av:S.heap.WF)(w:World)(h:aX w b hb mb qb v S):
 Calls prog 82 #[.pointer (some ⟨b,0,none⟩)] w (pf S.tick b hb mb qb v w):=by
 obtain⟨cm,al,ch,ci,cl⟩:=info_parts jt;have c0:=Z al;have C:=h.head.c1;have f0:=h.head.free 0;have H:=Z h;have c1:=Z av;have V:=Z ab;have cL:=h.head.lt;obtain⟨n,L⟩:=mn (IntKind.u64.wrap (S.now+1));have E:Hid (S.tick=ed (S.heap.l.length+1) {S with now:=n} []):=Z (by unfold aN.tick;rw[L]);have c3:=Z L;clear h av ab L al;go_enter func82,ntmps82
 go_wp2
 rw[<-c3.out];obtain⟨w1,Q⟩:=nm (w.setCell ⟨b,0,none⟩ (.int .u64 n));have U:Hid (aX w1 b hb mb qb v {S with now:=n}/\Ch (e0 b hb mb qb v) w w1):=Z (by rw[<-Q];exact H.out.time n);rw[Q];clear Q C f0;go_loopg [3] (S.heap.l.length+1) (fun gk u wr=>∃(S':aN) (acc:List Int) (l:Value),u=u/\S'.heap.l.length<gk/\S'.heap.l.length+acc.length<=S.heap.l.length/\Hid (ed gk S' acc=ed (S.heap.l.length+1) {S with now:=n} []/\S'.heap.WF/\aX wr b hb mb qb l S'/\wr.ownsRow w.heap.size 39 1 u acc.length (acc.map (Value.int .u64))/\Ch (e0 b hb mb qb v) w wr/\aQ w v l))
 case atStart=>exact⟨{S with now:=n},[],v,rfl,Nat.lt_succ_self _,by simp,rfl,c1.out,U.out.1,⟨rfl,Or.inl ⟨rfl,rfl⟩⟩,U.out.2,aQ.refl _ _⟩
 case round=>
  obtain⟨S',acc,l,-,cS,dC,c⟩:=hrel;have j:=Z c.out.2.2.1;have x:=Z c.out.2.2.2.1;have o:=Z c.out.2.2.2.2.1;have a1:=Z c.out.2.2.2.2.2;have a0:=Z (mR (b:=b) (hb:=hb) (mb:=mb) (qb:=qb) c.out.2.2.2.2.2);obtain⟨p,rfl⟩:∃g',gk=g'+1:=⟨gk-1,by omega⟩;obtain⟨y,A⟩:=nm (S'.heap.pop S'.now);have N:=ah.pL S'.heap S'.now;have R:=c.out.2.1.pop S'.now;have Y:Hid (ed (p+1) S' acc=if y.2.1 then ed p {S' with heap:=y.2.2,ff:=fk S'.ff y.1} (acc++[y.1])else(S',acc)):=Z (by rw[ed,A]);have W:Hid (∀w,aM w hb mb l S'.heap->Calls prog 127 #[.pointer (some ⟨hb,0,none⟩),.int .u64 S'.now] w (kK y hb mb l w)):=Z (fun w h=>A▸kS hb mb l S'.heap S'.now (by have:=V.out;omega) (fun t _=>c.out.2.1.jP t.h) w h);rw[A]at N R;have X:=Z N;have c2:=Z R;clear A N R;obtain⟨d,cq,m⟩:=y;obtain⟨C,c4⟩:=j.out.head.c2;obtain⟨ct,cA,rfl⟩:=aA x.out;have a3:=Z (j.out.heap.pN x.out (by decide) (by decide));cases cq
  ·have c8:m=S'.heap:=by rcases X.out with⟨_,F,_⟩|⟨D,_⟩;exact F;cases D
   have G:Hid (S.tick=(S',acc)):=Z (by rw[E.out,<-c.out.1,Y.out];rfl);subst c8;go_wp2
   go_region_held3 (fun w'=>w'.cell? ⟨b,0,none⟩=some (.int .u64 S'.now)/\w'.cell? ⟨b,1,none⟩=some (.pointer (some ⟨hb,0,none⟩))) (go_keep) ((go_at_call 127;refine(W.out _ j.out.heap.drew).mono ?_;rintro e w2 ⟨rfl,⟨v2,r,s⟩,f⟩;have a:=Z (j.out.drew.drop r f);have O:=Z s;have z:=Z f;clear r f s;obtain⟨d0,d1⟩:=a.out.1.head.c2))
   all_goals
    go_wp2
    go_ret;rw[G.out];refine⟨⟨_,rfl,?_⟩,⟨v2,?_,?_⟩,?_⟩
    ·exact ar x.out.drew z.out a3.out
    ·exact a.out.1
    ·exact a1.out.trans o.out.size (aQ.of_eq O.out)
    ·exact o.out.drew.join a.out.2 a0.out
  ·have dr:0<S'.heap.l.length/\m.l.length=S'.heap.l.length-1:=by
    rcases X.out with⟨D,_⟩|⟨_,F,c5⟩
    ·cases D
    ·exact⟨F,c5⟩
   have G:Hid (ed p {S' with heap:=m,ff:=fk S'.ff d} (acc++[d])=ed (S.heap.l.length+1) {S with now:=n} []):=Z (by rw[<-c.out.1,Y.out];rfl);have cC:=V.out;go_wp2
   go_region_held3 (fun w'=>w'.cell? ⟨b,0,none⟩=some (.int .u64 S'.now)/\w'.cell? ⟨b,1,none⟩=some (.pointer (some ⟨hb,0,none⟩))) (go_keep) ((go_at_call 127;refine(W.out _ j.out.heap.drew).mono ?_;rintro e w2 ⟨rfl,⟨v2,r,s⟩,f⟩;have a:=Z (j.out.drew.drop r f);have O:=Z s;have z:=Z f;clear r f s;obtain⟨d0,d1⟩:=a.out.1.head.c2))
   all_goals
    have d2:=a.out.1.head.k 2 rfl;obtain⟨B,ce,a2,q⟩:=iZ (P:=prog) (T:=224) (K:=39) (E:=221) (ty:=0) (kT:=39) underlying224 underlying39 a.out.1.ff d;have bi:=Z (a.out.1.del a2 q);have bw:=Z (q);have M:=ar x.out.drew z.out a3.out;have am:=ar M q (fun k cb e=>ia M a.out.1.ff (cb.trans (congrArg some e)));have I:=Z am;have dN:w.heap.size<=B.heap.size:=(by have:=o.out.size;have:=z.out.size;have:=q.size;simp at*;omega);clear a2 q M am d0 d1 C c4;go_wp2_with (at_builtin;refine wpList_append_lies _ rfl _ _ _ rfl w.heap.size 39 cm _ 1 8 underlying29 c0.out ch ci cl rfl (by omega) _ acc.length (acc.map (Value.int .u64)) rfl (I.out.alloc _) ⟨B.heap.size,0,none⟩ 1 1 [.int .u64 d] rfl rfl (World.news_of_block (cs:=#[.int .u64 d]) (t:=39) (fr:=(0,0)) (heap_alloc_new B _)) (by simp[Value.oneCell']) (by omega) (by unfold maxLen;omega) (by omega) (by simp;omega) (B.heap.size+1) (by simp) ?_)
    intro g cap w4 ap ad c9 cd;have J:=ax ad;have bv:=Z (bi.out.grown I.out J);have c7:=Z ap;have c6:=Z (iP ((o.out.drew.join a.out.2 a0.out).join bw.out (fun i cW e=>Or.inr (Or.inl e))) I.out (Nat.le_refl _) J);clear ad J ap c9 cd d2 ce;go_wp2
    go_roundg p
    case measure=>omega
    case rel=>
     refine⟨{S' with heap:=m,ff:=fk S'.ff d},acc++[d],v2,by trivial,?_,?_,G.out,c2.out,bv.out,?_,c6.out,?_⟩
     ·show m.l.length<p
      omega
     ·show m.l.length+(acc++[d]).length<=_
      rw[List.length_append,List.length_cons,List.length_nil];omega
     ·rw[List.length_append,List.length_cons,List.length_nil,List.map_append]
      exact c7.out
     ·exact a1.out.trans o.out.size (aQ.of_eq O.out)
end
end Go.Proofs.YtlihkblppjgebaaGreatDoor
