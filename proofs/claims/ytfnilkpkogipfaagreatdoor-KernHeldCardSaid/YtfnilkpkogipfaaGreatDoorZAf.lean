import Derived.Test.YtfnilkpkogipfaaGreatDoorZAe
set_option linter.unusedVariables false
set_option linter.unusedSimpArgs false
set_option maxRecDepth 100000
set_option maxHeartbeats 8000000
namespace Go.Proofs.YtfnilkpkogipfaaGreatDoor
open Go.RowKit Go.Proofs.Tryz
def ah.cut(S:ah)(h:Int):ah:={S with l:=S.l.take (S.l.length-1),at_:=fk S.at_ h}
def ah.drop(S:ah)(h:Int):Int×Bool×ah:=
 match aw S.at_ h with
 |none=>(0,false,S)
 |some i=>match S.l[i.toNat]?,S.l[S.l.length-1]? with
  |some t,some last=>
   if i.toNat<S.l.length-1 then
    let a:=((S.cut h).lay i.toNat last).up i.toNat
    (t.bS,true,a.down ((aw a.at_ last.h).getD 0).toNat)
   else(t.bS,true,S.cut h)
  |_,_=>(0,false,S)
def ah.jP(S:ah)(h:Int):Prop:=∀i,aw S.at_ h=some i->0<=i/\i.toNat<S.l.length/\
 (i.toNat<S.l.length-1->∀last,S.l[S.l.length-1]?=some last->0<=(aw (((S.cut h).lay i.toNat last).up i.toNat).at_ last.h).getD 0/\((aw (((S.cut h).lay i.toNat last).up i.toNat).at_ last.h).getD 0).toNat<S.l.length-1)
theorem qY:∀(f:Nat) (S:ah) (i:Nat) (t:a8),(gK f S i t).1.l.length=S.l.length
 |0,_,_,_=>rfl
 |f+1,S,i,t=>by
  unfold gK;split
  ·rfl
  ·split
   ·rfl
   ·split
    ·rw[qY,ah.b1]
    ·rfl
theorem ah.m7(S:ah)(i:Nat):(S.up i).l.length=S.l.length:=by
 unfold ah.up;split
 ·rfl
 ·rw[ah.b1,qY]
theorem js{α:Type}{enc:α->List Value}{k:Nat}(a:∀x,(enc x).length=k):∀(l:List α) (n:Nat),(l.flatMap enc).take (n*k)=(l.take n).flatMap enc
 |[],n=>by simp
 |x::l,0=>by simp
 |x::l,n+1=>by
  rw[List.flatMap_cons,List.take_succ_cons,List.flatMap_cons,Nat.succ_mul,List.take_append,a,show n*k+k-k=n*k from by omega,js a l n,List.take_of_length_le (by rw[a];omega)]
theorem aM.shrink{w:World}{b mb g cap m:Nat}{S:ah}(h:aM w b mb (.slice (some (g,0)) (m+1) cap) S)(c:S.l.length=m+1):
 aM (w.setCell (b,0) (.slice (some (g,0)) m cap)) b mb (.slice (some (g,0)) m cap) {S with l:=S.l.take m}:=by
 have i:b≠g:=fun e=>aY h.own h.head (by decide) (by rw[e];rfl)
 have q:w.ownsRow 0 318 3 (.slice (some (g,0)) m cap) m ((S.l.take m).flatMap a8.cells):=by
  rcases h.own.2 with⟨a,_⟩|⟨u,t,cur,j,f,n,x,p,r,s⟩
  ·cases a
  ·injection j with a v d
   injection a with a
   injection a with a
   subst a d;refine⟨by rw[a7 a8.len,List.length_take];omega,Or.inr ⟨g,cap,cur,rfl,f,n,by omega,p,r,?_⟩⟩;rw[<-js a8.len,<-s,List.take_take]
   congr 1;rw[c];omega
 refine⟨h.head.a' _ _ rfl,?_,h.map.other (fun e=>h.map.ne h.head e) _⟩;show(w.setCell _ _).ownsRow 0 318 3 _ (S.l.take m).length _
 rw[List.length_take,c,Nat.min_eq_left (by omega)];exact ar (D:=aK b) q ((Ch.refl _ _).only 0 _) (fun k o e=>by
  have:g=k:=by simpa[Value.ownBlock]using o
  subst this;exact i (show _=_ from e.symm))
def pL(x:Int×Bool×ah)(b mb:Nat)(v:Value)(w:World)(e:Ending)(w':World):Prop:=e=.returned (.tuple #[.int .u64 x.1,.bool x.2.1])/\(∃a,aM w' b mb a x.2.2/\(a.ownBlock=v.ownBlock))/\Ch (cn b mb v) w w'
theorem kg(b mb:Nat)(v:Value)(S:ah)(d:Int)(hb:S.l.length<=900000)(L:S.jP d)(w:World)(h:aM w b mb v S):
 Calls prog 159 #[(b,0),d] w (pL (S.drop d) b mb v w):=by
 have H:=Z h;have N:∀w,(zeroValue 3).run prog w=.ok (.int .i64 0) w:=fun w=>by kernel_rfl
 have A:=ht (P:=prog) (T:=265) (K:=3) (E:=3) underlying265 underlying3 (N w) h.map d;obtain⟨R,U⟩:=h.head.c2;have f0:=h.head.free 0;cases n:aw S.at_ d with
 |none=>
  rw[n]at A;have E:Hid (S.drop d=(0,false,S)):=Z (by unfold ah.drop;rw[n]);clear h n L N;simp only[Option.map_none,Option.getD_none,Option.isSome_none]at A;go_enter func159,ntmps159
  go_wp2
  go_ret2;rw[E];exact⟨rfl,⟨v,H,rfl⟩,Ch.refl _ _⟩
 |some c4=>
  rw[n]at A;obtain⟨V,c,J⟩:=L c4 n;obtain⟨i,rfl⟩:=Int.eq_ofNat_of_zero_le V;rw[Int.toNat_natCast]at c J;obtain⟨t,F⟩:∃t,S.l[i]?=some t:=⟨_,List.getElem?_eq_getElem c⟩;obtain⟨m,q⟩:∃m,S.l.length=m+1:=⟨S.l.length-1,by omega⟩;obtain⟨a,x⟩:∃a,S.l[m]?=some a:=⟨_,List.getElem?_eq_getElem (by omega)⟩;have E:Hid (S.drop d=if i<m then(t.bS,true,(((S.cut d).lay i a).up i).down ((aw (((S.cut d).lay i a).up i).at_ a.h).getD 0).toNat)else(t.bS,true,S.cut d)):=Z (by
   unfold ah.drop;rw[n];simp only[Int.toNat_natCast,F,q,Nat.add_sub_cancel,x])
  have ab:Hid (i<m->0<=(aw (((S.cut d).lay i a).up i).at_ a.h).getD 0/\((aw (((S.cut d).lay i a).up i).at_ a.h).getD 0).toNat<m):=Z (fun o=>by
   have:=J (by omega) a (by rw[q,Nat.add_sub_cancel];exact x);rw[q,Nat.add_sub_cancel]at this;exact this)
  obtain⟨g,cap,rfl,c0,c7,c8,c9,cq⟩:=h.at F;obtain⟨cb,cd,ce,-,-,-,-⟩:=h.cell x;rw[q]at R H c0 h⊢;have C:=Z q;have ci:=Z F;have ch:=Z x;have cs:(i:Int)<(m:Int)+1:=by omega
  have cl:((m+1:Nat):Int)=(m:Int)+1:=by omega
  have cS:(m:Int)+1-1=(m:Int):=by omega
  have ck:=h.head.lt;have cQ:=h.map.lt;have cm:g≠b:=fun e=>aY h.own h.head (by decide) (by rw[e];rfl)
  have cA:i<=m:=by omega
  have cL:m<=900000:=by omega
  simp only[Option.map_some,Option.getD_some,Option.isSome_some]at A;have X:bH (((w.setCell (b,0) (.slice (some (g,0)) m cap)).alloc (.cells #[.int .u64 t.d,.int .u64 t.bS,.int .i64 t.h] 318)).alloc (.cells #[.int .u64 a.d,.int .u64 a.bS,.int .i64 a.h] 318)) mb .i64 (Value.int .i64) S.at_:=((h.map.other (fun e=>h.map.ne h.head e) _).alloc _).alloc _;obtain⟨G,c2,W,s⟩:=fo (P:=prog) (T:=265) (K:=3) (E:=3) (ty:=0) (kT:=3) underlying265 underlying3 X d;have bw:=Z (h.shrink C);have l:Hid (Row G w.heap.size 318 t.cells/\Row G (w.heap.size+1) 318 a.cells/\aM G b mb (.slice (some (g,0)) m cap) (S.cut d)/\Ch (cn b mb (.slice (some (g,0)) (m+1) cap)) w G):=Z (by
   have c3:=(bw.alloc (.cells #[.int .u64 t.d,.int .u64 t.bS,.int .i64 t.h] 318)).alloc (.cells #[.int .u64 a.d,.int .u64 a.bS,.int .i64 a.h] 318);refine⟨?_,?_,?_,?_⟩
   ·refine Row.ch ?_ s (fun e=>by have:w.heap.size=mb:=e;omega)
    have:=Row.new (w.setCell (b,0) (.slice (some (g,0)) m cap)) #[.int .u64 t.d,.int .u64 t.bS,.int .i64 t.h] 318;rw[World.size_setCell]at this;exact this.alloc _
   ·refine Row.ch ?_ s (fun e=>by have:w.heap.size+1=mb:=e;omega)
    have:=Row.new ((w.setCell (b,0) (.slice (some (g,0)) m cap)).alloc (.cells #[.int .u64 t.d,.int .u64 t.bS,.int .i64 t.h] 318)) #[.int .u64 a.d,.int .u64 a.bS,.int .i64 a.h] 318;rw[World.size_alloc,World.size_setCell]at this;exact this
   ·have:=c3.Fe W s
    unfold ah.cut;rw[C,Nat.add_sub_cancel];exact this
   ·exact((((Ch.refl _ _).gS (p:=⟨b,0,none⟩) (Or.inl rfl) _).alloc _).alloc _).trans (qW s))
  clear h n L N V c J F x q W s X;by_cases B:i<m
  ·have c1:(i:Int)<m:=by omega
   obtain⟨a1,a2⟩:=ab B;obtain⟨j,D⟩:=Int.eq_ofNat_of_zero_le a1;rw[D,Int.toNat_natCast]at a2;have I:Hid (S.drop d=(t.bS,true,(((S.cut d).lay i a).up i).down j)):=Z (by rw[E,if_pos B,D,Int.toNat_natCast]);have bv:=Z D;clear D a1;go_enter func159,ntmps159
   obtain⟨c5,c6,a3⟩:=l.2.1.c3;have u:Hid ((S.cut d).l.length=m):=Z (by unfold ah.cut;rw[C];simp[C.out]);have M:Hid (¬cn b mb (.slice (some (g,0)) m cap) w.heap.size):=Z (by
    rintro(c|c|c)
    ·omega
    ·omega
    ·have:g=w.heap.size:=by simpa[Value.ownBlock]using c
     omega)
   have a0:Hid (¬cn b mb (.slice (some (g,0)) m cap) (w.heap.size+1)):=Z (by
    rintro(c|c|c)
    ·omega
    ·omega
    ·have:g=w.heap.size+1:=by simpa[Value.ownBlock]using c
     omega)
   go_wp2_with fail
   with_reducible refine(sX b mb (.slice (some (g,0)) m cap) (S.cut d) i (by rw[u.out];exact B) a _ l.out.2.2.1 _ ?_).mono ?_
   ·rfl
   rintro e w4 ⟨rfl,k,f⟩;have ap:=Z k;have O:Hid (Row w4 w.heap.size 318 t.cells/\Row w4 (w.heap.size+1) 318 a.cells):=Z ⟨l.1.ch f M.out,l.2.1.ch f a0.out⟩;have ad:Hid (Ch (cn b mb (.slice (some (g,0)) (m+1) cap)) w w4):=Z (l.2.2.2.trans (f.mono fun i o=>by rcases o with c|c|c;exact Or.inl c;exact Or.inr (Or.inl c);exact Or.inr (Or.inr c)));clear k f c5 c6 a3 c2 A R U f0 c7 c8 c9 cb cd ce;go_wp2_with fail
   with_reducible refine(BQ b mb (.slice (some (g,0)) m cap) ((S.cut d).lay i a) i (by rw[ah.b1,u.out];exact B) (by rw[ah.b1,u.out];omega) _ ap.out _ ?_).mono ?_
   ·rfl
   rintro e r ⟨rfl,k,f⟩;have av:=Z k;have Q:Hid (Row r w.heap.size 318 t.cells/\Row r (w.heap.size+1) 318 a.cells):=Z ⟨O.1.ch f M.out,O.2.ch f a0.out⟩;have al:Hid (Ch (cn b mb (.slice (some (g,0)) (m+1) cap)) w r):=Z (ad.trans (f.mono fun i o=>by rcases o with c|c|c;exact Or.inl c;exact Or.inr (Or.inl c);exact Or.inr (Or.inr c)));have U:=k.head.k 1 rfl;have a3:=Q.2.k 2 rfl;have cC:(Instr.lookup 265 (.map (some mb)) (.int .i64 a.h) false).run prog r.drew=.ok (.int .i64 j) r.drew:=by
    rw[fl (P:=prog) (T:=265) (K:=3) (E:=3) (z:=.int .i64 0) underlying265 underlying3 (by kernel_rfl) k.map.drew a.h];have:=bv.out;cases Y:aw (((S.cut d).lay i a).up i).at_ a.h with
    |none=>rw[Y]at this;rw[<-this];rfl
    |some y=>rw[Y]at this;rw[<-this];rfl
   clear k f;go_wp2
   go_still_tail 8,(by kernel_rfl)
   change wpList _ _ _ _ _ r.drew;go_wp2_with fail
   with_reducible refine(AB b mb (.slice (some (g,0)) m cap) (((S.cut d).lay i a).up i) j (by rw[ah.m7,ah.b1,u.out];exact a2) (by rw[ah.m7,ah.b1,u.out];omega) _ av.out.drew _ ?_).mono ?_
   ·rfl
   rintro e cf ⟨rfl,k,f⟩;have bi:=Z k;have am:Hid (Ch (cn b mb (.slice (some (g,0)) (m+1) cap)) w cf):=Z (al.drew.trans (f.mono fun i o=>by rcases o with c|c|c;exact Or.inl c;exact Or.inr (Or.inl c);exact Or.inr (Or.inr c)));have t1:=(Q.1.drew.ch f M.out).cell (i:=1) rfl;clear k f;go_wp2
   go_ret2;rw[I];exact⟨rfl,⟨_,bi,rfl⟩,am⟩
  ·have c1:¬(i:Int)<m:=by omega
   have I:Hid (S.drop d=(t.bS,true,S.cut d)):=Z (by rw[E,if_neg B]);have t1:=l.1.k 1 rfl;go_enter func159,ntmps159
   go_wp2
   go_ret2;rw[I];exact⟨rfl,⟨_,l.2.2.1,rfl⟩,l.2.2.2⟩
def ah.pop(S:ah)(now:Int):Int×Bool×ah:=
 match S.l with
 |[]=>(0,false,S)
 |t::_=>if now<t.d then(0,false,S)else S.drop t.h
theorem qZ(b mb:Nat)(v:Value)(S:ah)(now:Int)(hb:S.l.length<=900000)(f:∀t∈S.l.head?,S.jP t.h)(w:World)(h:aM w b mb v S):
 Calls prog 136 #[(b,0),.int .u64 now] w (pL (S.pop now) b mb v w):=by
 have H:=Z h;have z:=h.head.c1;cases d:S.l with
 |nil=>
  have E:Hid (S.pop now=(0,false,S)):=Z (by unfold ah.pop;rw[d]);have r:v=.slice none 0 0∨∃a c,v=.slice a 0 c:=by
   obtain⟨a,c,rfl⟩:=aA h.own
   right;exact⟨a,c,by rw[d];rfl⟩
  have C:∃a c,v=.slice a 0 c:=by
   rcases r with rfl|A
   ·exact⟨_,_,rfl⟩
   ·exact A
  obtain⟨a,c,rfl⟩:=C;clear h d f r;go_enter func136,ntmps136
  go_wp2
  go_ret2;rw[E];exact⟨rfl,⟨_,H,rfl⟩,Ch.refl _ _⟩
 |cons t l=>
  have k:S.l[0]?=some t:=by rw[d];rfl
  obtain⟨g,cap,rfl,B,D,s,n,F⟩:=h.at k;rw[Nat.zero_mul]at D;have J:w.cell? (g,2)=some (.int .i64 t.h):=by simpa using n
  have j:S.l.length=l.length+1:=by rw[d];rfl
  obtain⟨m,i⟩:=mn l.length;rw[j,<-i]at z H B⊢;have x:=Z (fun w h=>kg b mb (.slice (some (g,0)) (m+1) cap) S t.h hb (f t (by rw[d];rfl)) w h);have G:((m:Int)+1==0)=false:=by rw[beq_eq_false_iff_ne];omega
  have I:(0:Int)<(m:Int)+1:=by omega
  by_cases p:now<t.d
  ·have E:Hid (S.pop now=(0,false,S)):=Z (by unfold ah.pop;rw[d];simp only[if_pos p])
   clear h d f k j i s n;go_enter func136,ntmps136
   go_wp2
   go_ret2;rw[E];exact⟨rfl,⟨_,H,rfl⟩,Ch.refl _ _⟩
  ·have E:Hid (S.pop now=S.drop t.h):=Z (by unfold ah.pop;rw[d];simp only[if_neg p])
   clear h d f k j i s n;go_enter func136,ntmps136
   go_wp2_with fail
   refine(x _ H).mono ?_;rintro e w' ⟨rfl,q,o⟩;have y:=Z q;have u:=Z o;clear q o;go_wp2
   go_ret2;rw[E];exact⟨rfl,y,u⟩
def ah.new:ah:=⟨[],[],0⟩
theorem q0(w:World):Calls prog 91 #[] w (fun e w'=>∃b mb,e=.returned (.pointer (some ⟨b,0,none⟩))/\aM w' b mb (.slice none 0 0) ah.new/\w.heap.size<=b/\w.heap.size<=mb/\Ch ag w w'):=by
 have a:= @run_makeMap prog;go_enter func91,ntmps91
 go_wp2
 go_ret;refine⟨w.heap.size+1,w.heap.size,rfl,⟨?_,⟨rfl,Or.inl ⟨rfl,rfl⟩⟩,⟨#[],0,?_,rfl⟩⟩,by omega,Nat.le_refl _,((Ch.refl _ _).alloc _).alloc _⟩
 ·have:=Row.new (w.alloc (.map #[] 0)) #[.slice none 0 0,.map (some w.heap.size),.int .i64 0] 268
  rw[World.size_alloc]at this;exact this
 ·rw[Below.heap_alloc _ _ _ (by simp)];exact heap_alloc_new w _
section
section
variable{α:Type}
theorem m8:∀(l:List (Int×α)) (k:Int) (i:Nat),dU l k i=none↔∀x∈l,x.1≠k
 |[],_,_=>by simp[dU]
 |x::l,k,i=>by
  unfold dU;split
  ·rename_i h
   have:k=x.1:=by simpa using h
   simp[this]
  ·rename_i h
   have:¬k=x.1:=by simpa using h
   rw[m8 l k (i+1)];simp only[List.mem_cons,forall_eq_or_imp];exact⟨fun a=>⟨fun e=>this e.symm,a⟩,fun a=>a.2⟩
theorem jQ(x:Int×α)(l:List (Int×α))(k:Int)(i:Nat):dU (x::l) k i=if k==x.1 then some (i,x.2)else dU l k (i+1):=rfl
theorem ya(k:Int):aw ([]:List (Int×α)) k=none:=rfl
theorem cT(x:Int×α)(l:List (Int×α))(k:Int):aw (x::l) k=if k=x.1 then some x.2 else aw l k:=by
 unfold aw;rw[jQ,fY l k (0+1)];by_cases h:k=x.1
 ·simp[h]
 ·simp only[beq_iff_eq,h,if_false]
  cases dU l k 0<;>simp
theorem kh(k:Int)(v:α):b8 [] k v=[(k,v)]:=rfl
theorem dR(x:Int×α)(l:List (Int×α))(k:Int)(v:α):b8 (x::l) k v=if k=x.1 then(k,v)::l else x::b8 l k v:=by
 unfold b8;rw[jQ,fY l k (0+1)];by_cases h:k=x.1
 ·simp[h]
 ·simp only[beq_iff_eq,h,if_false]
  cases dU l k 0<;>simp
theorem hH(x:Int×α)(l:List (Int×α))(k:Int):fk (x::l) k=if k=x.1 then l else x::fk l k:=by
 unfold fk;rw[jQ,fY l k (0+1)];by_cases h:k=x.1
 ·simp[h]
 ·simp only[beq_iff_eq,h,if_false]
  cases dU l k 0<;>simp
theorem aT(l:List (Int×α))(k:Int)(v:α)(j:Int):aw (b8 l k v) j=if j=k then some v else aw l j:=by
 induction l with
 |nil=>rw[kh,cT]
 |cons x l ih=>
  rw[dR];by_cases h:k=x.1
  ·rw[if_pos h,cT,cT]
   by_cases a:j=k
   ·simp[a]
   ·simp only[a,if_false]
    rw[if_neg (by rw[<-h];exact a)]
  ·rw[if_neg h,cT,ih,cT]
   by_cases a:j=x.1
   ·rw[if_pos a,if_pos a,if_neg (by rw[a];exact fun e=>h e.symm)]
   ·rw[if_neg a,if_neg a]
theorem fZ(l:List (Int×α))(k j:Int)(h:j≠k):aw (fk l k) j=aw l j:=by
 induction l with
 |nil=>rfl
 |cons x l ih=>
  rw[hH];by_cases a:k=x.1
  ·rw[if_pos a,cT,if_neg (by rw[<-a];exact h)]
  ·rw[if_neg a,cT,cT,ih]
theorem vC(l:List (Int×α))(k:Int):aw l k=none↔∀x∈l,x.1≠k:=by
 unfold aw;rw[Option.map_eq_none_iff,m8]
def f'(l:List (Int×α)):Prop:=(l.map (·.1)).Nodup
theorem vD(l:List (Int×α))(k:Int)(v:α):(b8 l k v).map (·.1)=if(l.map (·.1)).contains k then l.map (·.1)else l.map (·.1)++[k]:=by
 induction l with
 |nil=>rfl
 |cons x l ih=>
  rw[dR];by_cases h:k=x.1
  ·simp[h]
  ·simp only[h,if_false,List.map_cons,ih,List.contains_cons,beq_iff_eq,Bool.false_or,show(k==x.1)=false from by simpa using h]
   split<;>simp
theorem f'.put{l:List (Int×α)}(h:f' l)(k:Int)(v:α):f' (b8 l k v):=by
 unfold f';rw[vD];split
 ·exact h
 ·rename_i f
  rw[List.nodup_append];refine⟨h,by simp,fun a c b hb=> ?_⟩;have d:b=k:=by simpa using hb
  subst d;intro e;subst e;exact f (by simpa using c)
theorem f'.del{l:List (Int×α)}(h:f' l)(k:Int):f' (fk l k)/\aw (fk l k) k=none:=by
 induction l with
 |nil=>exact⟨h,rfl⟩
 |cons x l ih=>
  have b:x.1∉l.map (·.1)/\(l.map (·.1)).Nodup:=List.nodup_cons.1 h;rw[hH];by_cases c:k=x.1
  ·rw[if_pos c]
   refine⟨b.2,(vC l k).2 fun y a e=>b.1 ?_⟩;have:=List.mem_map_of_mem (f:=fun x:Int×α=>x.1) a;rw[e,c]at this;exact this
  ·rw[if_neg c]
   obtain⟨i1,i2⟩:=ih b.2;refine⟨?_,?_⟩
   ·refine List.nodup_cons.2 ⟨fun i=>b.1 ?_,i1⟩
    have:∀(l:List (Int×α)) y,y∈fk l k->y∈l:=by
     intro l
     induction l with
     |nil=>intro y a;exact a
     |cons z l j=>
      intro y a;rw[hH]at a;split at a
      ·exact List.mem_cons_of_mem _ a
      ·rcases List.mem_cons.1 a with rfl|a
       ·exact List.mem_cons_self
       ·exact List.mem_cons_of_mem _ (j y a)
    obtain⟨y,a,g⟩:=List.mem_map.1 i;have d:=List.mem_map_of_mem (f:=fun x:Int×α=>x.1) (this l y a);rw[g]at d;exact d
   ·rw[cT,if_neg c];exact i2
end
structure ah.WF(S:ah):Prop where
 nd:f' S.at_
 at_:∀k j,aw S.at_ k=some j->0<=j/\∃x,S.l[j.toNat]?=some x/\x.h=k
structure ah.la(S:ah)(i:Nat)(t:a8):Prop where
 nd:f' S.at_
 lt:i<S.l.length
 at_:∀k j,k≠t.h->aw S.at_ k=some j->0<=j/\j.toNat≠i/\∃x,S.l[j.toNat]?=some x/\x.h=k
theorem ah.WF.hole{S:ah}(h:S.WF){i:Nat}{t:a8}(c:S.l[i]?=some t):S.la i t:=
 ⟨h.nd,(List.getElem?_eq_some_iff.1 c).1,fun k j g f=>by
  obtain⟨d,x,a,b⟩:=h.at_ k j f;refine⟨d,fun e=>g ?_,x,a,b⟩;rw[e,c]at a;rw[<-b,<-Option.some.inj a]⟩
theorem ah.la.fill{S:ah}{i:Nat}{t:a8}(h:S.la i t):(S.lay i t).WF:=
 ⟨h.nd.put _ _,fun k j a=>by
  unfold ah.lay at a⊢;dsimp only at a⊢;rw[aT]at a;by_cases b:k=t.h
  ·rw[if_pos b]at a
   have:(i:Int)=j:=Option.some.inj a;subst this;exact⟨by omega,t,by rw[Int.toNat_natCast,List.getElem?_set_self h.lt],b.symm⟩
  ·rw[if_neg b]at a
   obtain⟨c,d,x,g,f⟩:=h.at_ k j b a;exact⟨c,x,by rw[List.getElem?_set_ne (fun e=>d e.symm)];exact g,f⟩⟩
theorem ah.la.shift{S:ah}{i p:Nat}{t x:a8}(h:S.la i t)(f:S.l[p]?=some x)(n:p≠i):(S.lay i x).la p t:=
 ⟨h.nd.put _ _,by rw[ah.b1];exact(List.getElem?_eq_some_iff.1 f).1,fun k j m a=>by
  unfold ah.lay at a⊢;dsimp only at a⊢;rw[aT]at a;by_cases b:k=x.h
  ·rw[if_pos b]at a
   have:(i:Int)=j:=Option.some.inj a;subst this;exact⟨by omega,by rw[Int.toNat_natCast];exact fun e=>n e.symm,x,by rw[Int.toNat_natCast,List.getElem?_set_self h.lt],b.symm⟩
  ·rw[if_neg b]at a
   obtain⟨g,l,y,c,d⟩:=h.at_ k j m a;refine⟨g,fun e=>b ?_,y,by rw[List.getElem?_set_ne (fun e=>l e.symm)];exact c,d⟩;rw[e,f]at c;rw[<-d,<-Option.some.inj c]⟩
theorem oU:∀(f:Nat) (S:ah) (i:Nat) (t:a8),S.la i t->(gK f S i t).1.la (gK f S i t).2 t
 |0,S,i,t,h=>h
 |f+1,S,i,t,h=>by
  unfold gK;split
  ·exact h
  ·rename_i b
   split
   ·exact h
   ·rename_i p a
    split
    ·exact oU f _ _ t (h.shift a (by omega))
    ·exact h
theorem l2:∀(f:Nat) (S:ah) (i:Nat) (t:a8),S.la i t->(bN f S i t).1.la (bN f S i t).2 t
 |0,S,i,t,h=>h
 |f+1,S,i,t,h=>by
  unfold bN;split
  ·exact h
  ·rename_i a c
   split
   ·exact h
   ·rename_i x b
    split
    ·refine l2 f _ _ t (h.shift b ?_)
     unfold jE;split
     ·omega
     ·split<;>omega
    ·exact h
theorem ah.la.up{S:ah}{i:Nat}{t:a8}(h:S.la i t)(a:S.l[i]?=some t):(S.up i).WF:=by
 unfold ah.up;rw[a];exact(oU _ S i t h).fill
theorem ah.WF.up{S:ah}(h:S.WF){i:Nat}(a:i<S.l.length):(S.up i).WF:=(h.hole (List.getElem?_eq_getElem a)).up (List.getElem?_eq_getElem a)
theorem ah.WF.down{S:ah}(h:S.WF){i:Nat}(b:i<S.l.length):(S.down i).WF:=by
 have a:=List.getElem?_eq_getElem b;unfold ah.down;rw[a];exact(l2 _ S i _ (h.hole a)).fill
theorem ah.WF.put{S:ah}(h:S.WF)(a c:Int):(S.put a c).2.WF:=by
 unfold ah.put;dsimp only;refine ah.la.up (t:=⟨a,c,RowKit.wrap64 (S.last+1)⟩) ⟨h.nd,by simp,fun k j i f=> ?_⟩ (by simp);obtain⟨d,x,b,e⟩:=h.at_ k j f;have g:=(List.getElem?_eq_some_iff.1 b).1;exact⟨d,by omega,x,by dsimp only;rw[List.getElem?_append_left g];exact b,e⟩
theorem ah.WF.uA{S:ah}(h:S.WF){c:Int}{i:Nat}{f:a8}(o:aw S.at_ c=some (i:Int))(v:i<S.l.length-1)(q:S.l[S.l.length-1]?=some f):((S.cut c).lay i f).WF:=by
 obtain⟨r,s⟩:=h.nd.del c;refine⟨r.put _ _,fun k j a=> ?_⟩;unfold ah.lay ah.cut at a⊢;dsimp only at a⊢;rw[aT]at a;by_cases d:k=f.h
 ·rw[if_pos d]at a
  have:(i:Int)=j:=Option.some.inj a;subst this;exact⟨by omega,f,by rw[Int.toNat_natCast,List.getElem?_set_self (by simp;omega)],d.symm⟩
 ·rw[if_neg d]at a
  have l:k≠c:=by
   intro e;subst e;rw[s]at a;cases a
  rw[fZ _ _ _ l]at a;obtain⟨n,x,b,g⟩:=h.at_ k j a;have w:=(List.getElem?_eq_some_iff.1 b).1;have u:j.toNat≠S.l.length-1:=by
   intro e;rw[e,q]at b;exact d (by rw[<-g,<-Option.some.inj b])
  have p:j.toNat≠i:=by
   intro e;obtain⟨-,y,m,t⟩:=h.at_ c i o;rw[Int.toNat_natCast]at m;rw[e,m]at b;exact l (by rw[<-g,<-t,Option.some.inj b])
  exact⟨n,x,by rw[List.getElem?_set_ne (fun e=>p e.symm),List.getElem?_take_of_lt (by omega)];exact b,g⟩
theorem ah.WF.yb{S:ah}(h:S.WF){b:Int}{i:Nat}(m:aw S.at_ b=some (i:Int))(s:¬i<S.l.length-1):(S.cut b).WF:=by
 obtain⟨n,o⟩:=h.nd.del b;refine⟨n,fun k j a=> ?_⟩;unfold ah.cut at a⊢;dsimp only at a⊢;have g:k≠b:=by
  intro e;subst e;rw[o]at a;cases a
 rw[fZ _ _ _ g]at a;obtain⟨l,x,c,f⟩:=h.at_ k j a;have t:=(List.getElem?_eq_some_iff.1 c).1;obtain⟨-,y,d,p⟩:=h.at_ b i m;rw[Int.toNat_natCast]at d;have q:=(List.getElem?_eq_some_iff.1 d).1;have r:j.toNat≠i:=by
  intro e;rw[e,d]at c;exact g (by rw[<-f,<-p,Option.some.inj c])
 exact⟨l,x,by rw[List.getElem?_take_of_lt (by omega)];exact c,f⟩
theorem ah.WF.jP{S:ah}(h:S.WF)(a:Int):S.jP a:=by
 intro i d;obtain⟨c,x,e,p⟩:=h.at_ a i d;obtain⟨n,rfl⟩:=Int.eq_ofNat_of_zero_le c;rw[Int.toNat_natCast]at e⊢;refine⟨c,(List.getElem?_eq_some_iff.1 e).1,fun k b g=> ?_⟩;have l:=(h.uA d k g).up (i:=n) (by rw[ah.b1];unfold ah.cut;simp;omega);cases f:aw (((S.cut a).lay n b).up n).at_ b.h with
 |none=>exact⟨by simp,by simp;omega⟩
 |some j=>
  obtain⟨o,y,m,_⟩:=l.at_ b.h j f;have:=(List.getElem?_eq_some_iff.1 m).1;rw[ah.m7,ah.b1]at this;unfold ah.cut at this;exact⟨by simpa using o,by simp at this⊢;omega⟩
theorem ah.WF.drop{S:ah}(h:S.WF)(b:Int):(S.drop b).2.2.WF:=by
 unfold ah.drop;cases d:aw S.at_ b with
 |none=>exact h
 |some i=>
  obtain⟨k,f,g⟩:=h.jP b i d;obtain⟨n,rfl⟩:=Int.eq_ofNat_of_zero_le k;simp only[Int.toNat_natCast]at f g⊢;obtain⟨t,j⟩:∃t,S.l[n]?=some t:=⟨_,List.getElem?_eq_getElem f⟩;obtain⟨c,e⟩:∃c,S.l[S.l.length-1]?=some c:=⟨_,List.getElem?_eq_getElem (by omega)⟩;rw[j,e];dsimp only;by_cases a:n<S.l.length-1
  ·rw[if_pos a]
   obtain⟨_,k2⟩:=g a c e;have hlen:(((S.cut b).lay n c).up n).l.length=S.l.length-1:=by rw[ah.m7,ah.b1];unfold ah.cut;simp
   exact((h.uA d a e).up (by rw[ah.b1];unfold ah.cut;simp;omega)).down (by rw[hlen];exact k2)
  ·rw[if_neg a];exact h.yb d a
theorem ah.WF.pop{S:ah}(h:S.WF)(now:Int):(S.pop now).2.2.WF:=by
 unfold ah.pop;split
 ·exact h
 ·split
  ·exact h
  ·exact h.drop _
theorem ah.Cq:ah.new.WF:=⟨by unfold f' ah.new;simp,fun k j a=>by cases a⟩
end
structure aN where
 now:Int
 heap:ah
 ff:List (Int×Int×Int)
def ib(x:Int×Int):Value:=.agg #[.int .i64 x.1,.int .u64 x.2]
structure aX(w:World)(b hb mb qb:Nat)(v:Value)(S:aN):Prop where
 head:Row w b 207 [.int .u64 S.now,(hb,0),.map (some qb)]
 heap:aM w hb mb v S.heap
 ff:bH w qb .u64 ib S.ff
 ne:qb≠mb
def e0(b hb mb qb:Nat)(v:Value):Nat->Prop:=fun i=>i=b∨i=qb∨cn hb mb v i
theorem aX.alloc{w:World}{b hb mb qb:Nat}{v:Value}{S:aN}(h:aX w b hb mb qb v S)(a:Obj):aX (w.alloc a) b hb mb qb v S:=⟨h.head.alloc a,h.heap.alloc a,h.ff.alloc a,h.ne⟩
theorem aX.drew{w:World}{b hb mb qb:Nat}{v:Value}{S:aN}(h:aX w b hb mb qb v S):aX w.drew b hb mb qb v S:=⟨h.head,h.heap.drew,h.ff,h.ne⟩
theorem aX.ch{w w':World}{D:Nat->Prop}{b hb mb qb:Nat}{v:Value}{S:aN}(h:aX w b hb mb qb v S)(c:Ch D w w')(a:¬D b)(d:¬D hb)(e:¬D mb)(f:¬D qb)(i:∀g,v.ownBlock=some g->¬D g):aX w' b hb mb qb v S:=
 ⟨h.head.ch c a,h.heap.ch c d e i,h.ff.ch c f,h.ne⟩
theorem aX.uB{w:World}{b hb mb qb:Nat}{v:Value}{S:aN}(h:aX w b hb mb qb v S):¬cn hb mb v b/\¬cn hb mb v qb:=by
 refine⟨?_,?_⟩
 ·rintro(a|a|a)
  ·exact h.head.ne h.heap.head (by decide) a
  ·exact h.heap.map.ne h.head a.symm
  ·exact aY h.heap.own h.head (by decide) a
 ·rintro(a|a|a)
  ·exact h.ff.ne h.heap.head a
  ·exact h.ne a
  ·exact ia h.heap.own h.ff a
theorem pM(b hb mb qb:Nat)(v:Value)(S:aN)(w:World)(h:aX w b hb mb qb v S):Calls prog 63 #[(b,0)] w (d' (.int .u64 S.now) w):=by
 have a:=h.head.c1;clear h;go_enter func63,ntmps63
 go_wp2
 go_ret;exact d'.mk rfl
theorem uC:∀w,(zeroValue 258).run prog w=.ok (ib (0,0)) w:=fun w=>by kernel_rfl
def aN.bl(S:aN)(id:Int):Bool×aN:=
 match aw S.ff id with
 |none=>(false,S)
 |some x=>(true,{S with heap:=(S.heap.drop x.1).2.2,ff:=fk S.ff id})
def yc(x:Bool×aN)(b hb mb qb:Nat)(v:Value)(w:World)(e:Ending)(w':World):Prop:=e=.returned (.bool x.1)/\(∃a,aX w' b hb mb qb a x.2/\aQ w v a)/\Ch (e0 b hb mb qb v) w w'
theorem aX.drop{w w':World}{b hb mb qb:Nat}{v d:Value}{S:aN}{c:ah}(h:aX w b hb mb qb v S)(e:aM w' hb mb d c)(a:Ch (cn hb mb v) w w'):aX w' b hb mb qb d {S with heap:=c}/\Ch (e0 b hb mb qb v) w w':=
 ⟨⟨h.head.ch a h.uB.1,e,h.ff.ch a h.uB.2,h.ne⟩,a.mono fun i f=>Or.inr (Or.inr f)⟩
theorem aX.del{w w':World}{b hb mb qb:Nat}{v:Value}{S:aN}{l:List (Int×Int×Int)}(h:aX w b hb mb qb v S)(d:bH w' qb .u64 ib l)(a:Ch (aK qb) w w'):aX w' b hb mb qb v {S with ff:=l}:=
 ⟨h.head.ch a (fun e=>h.ff.ne h.head (show _=_ from Eq.symm e)),h.heap.ch a (fun e=>h.ff.ne h.heap.head (show _=_ from Eq.symm e)) (fun e=>h.ne (show _=_ from Eq.symm e)) (fun g c e=>ia h.heap.own h.ff (by rw[c];exact congrArg some e)),d,h.ne⟩
theorem mq(b hb mb qb:Nat)(v:Value)(S:aN)(id:Int)(B:S.heap.l.length<=900000)(D:S.heap.WF)(w:World)(h:aX w b hb mb qb v S):
 Calls prog 200 #[(b,0),.int .u64 id] w (yc (S.bl id) b hb mb qb v w):=by
 have H:=Z h;have g:=h.head.k 1 rfl;have A:=h.head.k 2 rfl;have d:=ht (P:=prog) (T:=205) (K:=56) (E:=258) underlying205 underlying56 (uC w) h.ff id;obtain⟨r,k⟩:=nm (aw S.ff id);rw[k]at d;have m:=Z k;clear h k;cases r with
 |none=>
  have E:Hid (S.bl id=(false,S)):=Z (by unfold aN.bl;rw[m]);simp only[Option.map_none,Option.getD_none,Option.isSome_none,ib]at d;go_enter func200,ntmps200
  go_wp2
  go_ret;rw[E];exact⟨rfl,⟨v,H.alloc _,aQ.refl _ _⟩,(Ch.refl _ _).alloc _⟩
 |some x=>
  have E:Hid (S.bl id=(true,{S with heap:=(S.heap.drop x.1).2.2,ff:=fk S.ff id})):=Z (by unfold aN.bl;rw[m]);simp only[Option.map_some,Option.getD_some,Option.isSome_some,ib]at d;have y:=Z (fun w h=>kg hb mb v S.heap x.1 B (D.jP x.1) w h);go_enter func200,ntmps200
  go_wp2
  obtain⟨w1,f⟩:=nm (w.alloc (.cells #[.int .i64 x.1,.int .u64 x.2] 258));have a:Hid (aX w1 b hb mb qb v S/\Ch (e0 b hb mb qb v) w w1):=Z (by rw[<-f];exact⟨H.alloc _,(Ch.refl _ _).alloc _⟩);have t0:w1.cell? ⟨w.heap.size,0,none⟩=some (.int .i64 x.1):=by rw[<-f];simp
  rw[f];clear f g A d;obtain⟨tb,q⟩:=mn w.heap.size;rw[<-q]at t0⊢;clear q;have g:=a.1.head.k 1 rfl;go_still_tail 6,(by kernel_rfl)
  change wpList _ _ _ _ _ w1.drew;go_wp2_with fail
  refine(y _ a.1.heap.drew).mono ?_;rintro e w2 ⟨rfl,⟨t,p,s⟩,o⟩;have c:=Z (a.1.drew.drop p o);have z:=Z s;clear p o g t0 s;have d2:=c.1.head.k 2 rfl;obtain⟨u,F,n,j⟩:=fo (P:=prog) (T:=205) (K:=56) (E:=258) (ty:=0) (kT:=56) underlying205 underlying56 c.1.ff id;have l:Hid (aX u b hb mb qb t {S with heap:=(S.heap.drop x.1).2.2,ff:=fk S.ff id}/\Ch (e0 b hb mb qb v) w u):=Z ⟨c.1.del n j,(a.2.drew.trans c.2).trans (j.mono fun i C=>Or.inr (Or.inl C))⟩;clear n j;go_wp2
  go_ret;rw[E];exact⟨rfl,⟨t,l.1,aQ.of_eq z⟩,l.2⟩
end Go.Proofs.YtfnilkpkogipfaaGreatDoor
