import Derived.Test.YtfnilkpkogipfaaGreatDoorZBu
set_option linter.all false
set_option maxRecDepth 100000
set_option maxHeartbeats 8000000
namespace Go.Proofs.YtfnilkpkogipfaaGreatDoor
open Go.RowKit Go.Proofs.Tryz
def BI(S:WS)(B b:Nat)(w:World)(e:Ending)(w':World):Prop:=e=.returned (.tuple #[])/\(∃c a,fG w' B b c a S)/\Below B w w'/\fD w w'
def j6(S:WS)(back a:Int):WS:={S with work:=S.work++[(S.code.length:Int)-back],aL:=S.aL++[a]}
theorem ow{w:World}{g:Nat}{c:Array Value}{t:TypeId}(h:w.heap[g]?=some (.cells c t (0,0)))(a:Obj):(w.alloc a).heap[g]?=some (.cells c t (0,0)):=by
 rw[Below.heap_alloc _ _ _ (Array.getElem?_eq_some_iff.1 h).1];exact h
theorem sG(w:World)(b a:Obj):((w.alloc b).alloc a).heap[w.heap.size+1]?=some a:=by
 have h:=heap_alloc_new (w.alloc b) a
 rwa [World.size_alloc]at h
theorem qQ.both{w w2 w4:World}{B b a q d r:Nat}{H o n:Value}{S:WS}(h:qQ w B b H o n S)(x y:Int)(I:Ch (fun i=>o.ownBlock=some i) w w2)(A:Ch (fun i=>n.ownBlock=some i) w2 w4)
 (K:w2.ownsRow B 3 1 (.slice (some (a,0)) (S.work.length+1) q) (S.work.length+1) (S.work.flatMap iu++iu x)) (a1:o.ownBlock=some a∨w.heap.size<=a)
 (Q:w4.ownsRow B 3 1 (.slice (some (d,0)) (S.aL.length+1) r) (S.aL.length+1) (S.aL.flatMap iu++iu y)) (a2:n.ownBlock=some d∨w2.heap.size<=d) (O:B<=w.heap.size):
 (∃o n,fG ((w4.setCell (b,3) (.slice (some (a,0)) (S.work.length+1) q)).setCell (b,4) (.slice (some (d,0)) (S.aL.length+1) r)) B b o n {S with work:=S.work++[x],aL:=S.aL++[y]})/\
 Below B w ((w4.setCell (b,3) (.slice (some (a,0)) (S.work.length+1) q)).setCell (b,4) (.slice (some (d,0)) (S.aL.length+1) r))/\
 fD w ((w4.setCell (b,3) (.slice (some (a,0)) (S.work.length+1) q)).setCell (b,4) (.slice (some (d,0)) (S.aL.length+1) r)):=by
 have T:o.ownBlock≠some b:=bh h.work h.row (by decide);have hb:n.ownBlock≠some b:=bh h.aL h.row (by decide);have R:Row w2 b 111 [H,.int .i64 16,.slice none 0 0,o,n]:=h.row.ch I T;have z:=R.ch A hb;have J:n.ownBlock≠some a:=fun e=>by
  rcases a1 with s|s
  ·exact h.ne a s e
  ·obtain⟨_,_,g⟩:=bJ h.aL e
   have:=(Array.getElem?_eq_some_iff.1 g).1;omega
 obtain⟨_,U,M⟩:=bJ K (k:=a) rfl;have P:=ar K A (fun k c e=>by
  have F:a=k:=by simpa[Value.ownBlock]using c
  subst F;exact J e)
 let D:Nat->Prop:=fun i=>i=b∨o.ownBlock=some i∨n.ownBlock=some i
 have C:Ch D w ((w4.setCell (b,3) (.slice (some (a,0)) (S.work.length+1) q)).setCell (b,4) (.slice (some (d,0)) (S.aL.length+1) r)):=
  (((I.mono (E:=D) (fun i m=>Or.inr (Or.inl m))).trans (A.mono (E:=D) (fun i m=>Or.inr (Or.inr m)))).gS (p:=⟨b,3,none⟩) (Or.inl rfl) _).gS (p:=⟨b,4,none⟩) (Or.inl rfl) _
 refine⟨⟨_,_,H,(z.a' 3 _ rfl).a' 4 _ rfl,h.hB,?_,?_,?_,?_⟩,C.below O (fun i m=> ?_),fD.fa C (fun k t2 t f c l=> ?_)⟩
 ·exact ar h.code C (fun k c v=>by
   obtain⟨_,_,g⟩:=bJ h.code c;rcases v with rfl|v|v
   ·exact absurd (eD h.row g) (by decide)
   ·exact bh h.work g (by decide) v
   ·exact bh h.aL g (by decide) v)
 ·have:=dL (j:=4) (u:=.slice (some (d,0)) (S.aL.length+1) r) (dL (j:=3) (u:=.slice (some (a,0)) (S.work.length+1) q) P z (by decide)) (z.a' 3 _ rfl) (by decide)
  rw[List.flatMap_append,List.length_append];simpa using this
 ·have:=dL (j:=4) (u:=.slice (some (d,0)) (S.aL.length+1) r) (dL (j:=3) (u:=.slice (some (a,0)) (S.work.length+1) q) Q z (by decide)) (z.a' 3 _ rfl) (by decide)
  rw[List.flatMap_append,List.length_append];simpa using this
 ·intro k c N
  have L:a=k:=by simpa[Value.ownBlock]using c
  have F:d=k:=by simpa[Value.ownBlock]using N
  subst L;subst F;rcases a2 with s|s
  ·exact J s
  ·have:=(Array.getElem?_eq_some_iff.1 M).1
   omega
 ·rcases m with rfl|m|m
  ·exact h.hB
  ·exact(bJ h.work m).1
  ·exact(bJ h.aL m).1
 ·rcases c with rfl|c|c
  ·exact Or.inl (eD h.row l)
  ·obtain⟨_,_,g⟩:=bJ h.work c
   rw[g]at l;injection l with l;injection l with _ G _
   exact Or.inr (Or.inr G.symm)
  ·obtain⟨_,_,g⟩:=bJ h.aL c
   rw[g]at l;injection l with l;injection l with _ G _
   exact Or.inr (Or.inr G.symm)
theorem aaV{ops:Array Oper}{f:Oper}{a:Act}{K:Act->World->Prop}{Q:Exit->Act->World->Prop}{E:Prop}{s x:Operand}{n g B:Nat}{v:Value}{j:List Value}{y:Int}{w d:World}
 (q:f.guard=none) (A:f.op=.call {callee:=.builtin .append,args:=#[s,x],argTypes:=#[79,79]}) (D:a.eval s=v) (F:a.eval x=.slice (some (g,0)) 1 1)
 (c:Ch ag w d) (C:w.ownsRow B 3 1 v n j) (N:n<=900000) (m:B<=w.heap.size) (p:d.heap[g]?=some (.cells #[.int .i64 y] 3 (0,0)))
 (H:∀b h w',w'.ownsRow B 3 1 (.slice (some ⟨b,0,none⟩) (n+1) h) (n+1) (j++[.int .i64 y])->Ch (fun i=>v.ownBlock=some i) w w'->(v.ownBlock=some b∨w.heap.size<=b)->(∀k,k<d.heap.size->v.ownBlock≠some k->w'.heap[k]?=d.heap[k]?)->K (a.put f.dst (.slice (some ⟨b,0,none⟩) (n+1) h)) w'):
 if Region.wanted f (yielded ops a.tmps)=true then Oper.wp prog f a d K Q else E:=by
 obtain⟨L,r,G,I,J⟩:=info_parts kN;refine step_append_lies _ q s x _ A B 3 L _ 1 8 underlying79 r G I J rfl (by omega) v n j D (ar C c (fun _ _ e=>e)) ⟨g,0,none⟩ 1 1 [.int .i64 y] F rfl (World.news_of_block (cs:=#[.int .i64 y]) (t:=3) (fr:=(0,0)) p) (by simp[Value.oneCell']) (by omega) (by unfold maxLen;omega) (by omega) (Nat.le_trans m c.size) _ rfl (fun b h w' M l o _=>H b h w' M ((c.mono (fun _ e=>e.elim)).trans (Ch.bQ l)) (o.imp id (fun e=>by rw[e];exact c.size)) (fun k u z=>l.block k u (fun e=>z e.symm)))
theorem ui(S:WS)(back F:Int)(U:0<=back/\back<=100)(B b:Nat)(w:World){x E:Value}(h:fG w B b x E S)(n:B<=w.heap.size)(W:S.code.length<=900000)(A:S.work.length<=900000)(z:S.aL.length<=900000):
 Calls prog 47 #[(b,0),back,F] w (BI (j6 S back F) B b w):=by
 obtain⟨Y,l⟩:=h;have c:=Z l;obtain⟨ac,M,P⟩:=aA l.code;have D:x.ownBlock≠some b:=bh l.work l.row (by decide);have y:E.ownBlock≠some b:=bh l.aL l.row (by decide);have X:IntKind.i64.wrap ((S.code.length:Int)-back)=(S.code.length:Int)-back:=IntWalk.i64_in _ (by omega);subst P;have nw:∀{k:Nat},x.ownBlock≠some (w.heap.size+k):=fun {k} e=>by obtain⟨_,_,O⟩:=bJ l.work e;have:=(Array.getElem?_eq_some_iff.1 O).1;omega
 clear l;go_enter func47,ntmps47
 refine aaK (fun i=>[0,2,3,4,5,6,7,8,9,10,11,12,13,14,18,20,21].contains i) (fun w'=>Row w' b 111 [.slice ac S.code.length M,.int .i64 16,.slice none 0 0,x,E]) (by kernel_rfl) ?_;refine aaQ (by kernel_rfl) (fun _ _ N _ _ h=>by cases N<;>exact h) c.row.drew 10 [1,15,16,17,19,0,2,3,4,5,6,7,8,9,10,11,12,18] _ _ (by kernel_rfl) ?_
 iterate 18 (refine aaS (v:= ?_) rfl (Or.inl ⟨by rfl,?_⟩) ?_;rotate_left;(focus (intro w' C;(try(have Q:=Row.k C 0 rfl;have R:=Row.k C 3 rfl;have T:=Row.k C 4 rfl));go_simp;try with_reducible rfl));simp only[Act.put,List.setIfInBounds_toArray,List.set_cons_zero,List.set_cons_succ])
 refine takeN ?_;change aaA _ _ _ _ _ _ _ _ _ _;refine aaO (i:=13) (k:=20) (by kernel_rfl) rfl rfl (fun K a=> ?_) (fun K a=> ?_)
 rotate_left
 focus
  go_simp
  refine a _ _ (c.row.ch chi (fun h=>h)) ?_;try simp only[Act.put,List.setIfInBounds_toArray,List.set_cons_zero,List.set_cons_succ]
  refine aaH (i:=13) (by kernel_rfl) rfl (fun K a=> ?_);go_simp
  refine a _ _ (c.row.ch chi (fun h=>h)) ?_;try simp only[Act.put,List.setIfInBounds_toArray,List.set_cons_zero,List.set_cons_succ]
  refine aaH (i:=14) (by kernel_rfl) rfl (fun K a=> ?_);refine aaV rfl rfl rfl rfl chi c.work A n (sG _ _ _) (fun I G w2 t d r o=> ?_);have f:=c.row.ch d D;refine a _ _ f ?_;try simp only[Act.put,List.setIfInBounds_toArray,List.set_cons_zero,List.set_cons_succ]
  refine aaH (i:=21) (by kernel_rfl) rfl (fun K a=> ?_);refine aaV rfl rfl rfl rfl chi (ar c.aL d (fun k p q=>c.ne k q p)) z (Nat.le_trans n d.size) ((o _ (by simp;omega) (nw (k:=0))).trans (ow (heap_alloc_new _ _) _)) (fun J H w4 u m s _=> ?_);have g:=f.ch m y;refine a _ _ g ?_;try simp only[Act.put,List.setIfInBounds_toArray,List.set_cons_zero,List.set_cons_succ]
 rotate_left
 focus
  go_simp
  refine a _ _ (c.row.ch chi (fun h=>h)) ?_;try simp only[Act.put,List.setIfInBounds_toArray,List.set_cons_zero,List.set_cons_succ]
  refine aaO (i:=14) (k:=20) (by kernel_rfl) rfl rfl (fun K a=> ?_) (fun K a=> ?_)
 focus
  refine aaV rfl rfl rfl rfl chi c.work A n (heap_alloc_new _ _) (fun I G w2 t d r o=> ?_);have f:=c.row.ch d D;refine a _ _ f ?_;try simp only[Act.put,List.setIfInBounds_toArray,List.set_cons_zero,List.set_cons_succ]
  refine aaH (i:=20) (by kernel_rfl) rfl (fun K a=> ?_);go_simp
  refine a _ _ (f.ch chi (fun h=>h)) ?_;try simp only[Act.put,List.setIfInBounds_toArray,List.set_cons_zero,List.set_cons_succ]
  refine aaH (i:=21) (by kernel_rfl) rfl (fun K a=> ?_);refine aaV rfl rfl rfl rfl chi (ar c.aL d (fun k p q=>c.ne k q p)) z (Nat.le_trans n d.size) (heap_alloc_new _ _) (fun J H w4 u m s _=> ?_);have g:=f.ch m y;refine a _ _ g ?_;try simp only[Act.put,List.setIfInBounds_toArray,List.set_cons_zero,List.set_cons_succ]
 rotate_left
 focus
  go_simp
  refine a _ _ (c.row.ch chi (fun h=>h)) ?_;try simp only[Act.put,List.setIfInBounds_toArray,List.set_cons_zero,List.set_cons_succ]
  refine aaH (i:=14) (by kernel_rfl) rfl (fun K a=> ?_);refine aaV rfl rfl rfl rfl chi c.work A n (ow (heap_alloc_new _ _) _) (fun I G w2 t d r o=> ?_);have f:=c.row.ch d D;refine a _ _ f ?_;try simp only[Act.put,List.setIfInBounds_toArray,List.set_cons_zero,List.set_cons_succ]
  refine aaH (i:=21) (by kernel_rfl) rfl (fun K a=> ?_);refine aaV rfl rfl rfl rfl chi (ar c.aL d (fun k p q=>c.ne k q p)) z (Nat.le_trans n d.size) ((o _ (by simp<;>omega) nw).trans (sG _ _ _)) (fun J H w4 u m s _=> ?_);have g:=f.ch m y;refine a _ _ g ?_;try simp only[Act.put,List.setIfInBounds_toArray,List.set_cons_zero,List.set_cons_succ]
 all_goals
  refine aaM 22 rfl rfl (fun j V=>by simp;omega) (by kernel_rfl) ?_;have L:=Z (c.both ((S.code.length:Int)-back) F d m t r u s n);have t3:=g.k 3 rfl;have t4:=g.k 4 rfl;have u3:=g.free 3;have u4:=g.free 4;clear f g d m t r u s o;go_wp2_with fail
  go_end0
  exact⟨rfl,L⟩
def z3(w:World)(e:Ending)(w':World):Prop:=∃a c,e=.returned (.slice a 0 c)/\Ch ag w w'
theorem xC(w:World):Calls prog 45 #[.int .i64 16] w (z3 w):=by
 go_enter func45,ntmps45
 go_wp2_with fail
 obtain⟨w1,a⟩:=nm (w.alloc (.cells #[] 3));have b:=Z (Ch.al (D:=ag) a);rw[a];clear a;go_loop [3,4] (fun l i=>∃k:Nat,k<=6/\i=.int .i64 k/\l=.slice (some (w.heap.size,0)) 0 0) (fun _ i=>6-(intOf i).toNat)
 case atStart=>exact⟨0,by omega,rfl,rfl⟩
 case round=>
  obtain⟨k,d,rfl,rfl⟩:=hrel;by_cases e:k<6
  ·have c:¬(18+(k:Int)<=16):=by omega
   go_wp2_with fail
   go_round
   case rel=>exact⟨k+1,by omega,by go_num,rfl⟩
   case measure=>simp[intOf];omega
  ·go_wp2_with fail
   go_ret;exact⟨_,_,rfl,b⟩
def gD(w:World)(B:Nat)(v:Value)(l:List fe):Prop:=
 ∃a c,v=.slice a l.length c/\l.length<=c/\∀k x,l[k]?=some x->∃g b,a=some ⟨g,b,none⟩/\g<B/\∀j u,(Ds x)[j]?=some u->w.cell? ⟨g,b+k*5+j,none⟩=some u
structure fc where
 cV:Nat
 first:List fe
 others:List (List fe)
 once:List fe
 kV:Bool
def jn(w:World)(B:Nat)(v:Value)(l:List (List fe)):Prop:=
 ∃a c,v=.slice a l.length c/\l.length<=c/\∀k x,l[k]?=some x->∃g b d,a=some ⟨g,b,none⟩/\g<B/\w.cell? ⟨g,b+k,none⟩=some d/\gD w B d x
def fF(w:World)(B:Nat)(p:Value)(P:fc):Prop:=
 ∃a c b d e,p=.agg #[.slice a P.cV c,b,d,e,.bool P.kV]/\gD w B b P.first/\jn w B d P.others/\gD w B e P.once
theorem gD.below{w w':World}{B:Nat}{v:Value}{l:List fe}(h:gD w B v l)(hb:Below B w w'):gD w' B v l:=by
 obtain⟨a,c,f,i,m⟩:=h;refine⟨a,c,f,i,fun k x q=> ?_⟩;obtain⟨g,d,e,b,n⟩:=m k x q;exact⟨g,d,e,b,fun j u o=>(hb.cell (p:=⟨g,d+k*5+j,none⟩) b).trans (n j u o)⟩
theorem jn.below{w w':World}{B:Nat}{v:Value}{l:List (List fe)}(h:jn w B v l)(hb:Below B w w'):jn w' B v l:=by
 obtain⟨a,c,f,i,j⟩:=h;refine⟨a,c,f,i,fun k x o=> ?_⟩;obtain⟨g,d,q,e,b,n,m⟩:=j k x o;exact⟨g,d,q,e,b,(hb.cell (p:=⟨g,d+k,none⟩) b).trans n,m.below hb⟩
structure iy(P:fc):Prop where
 first:∀x∈P.first,iK x
 others:∀l∈P.others,∀x∈l,iK x
 once:∀x∈P.once,iK x
theorem gD.Dt{w:World}{B:Nat}{a:Option Addr}{n c:Nat}{l:List fe}(h:gD w B (.slice a n c) l){k:Nat}{x:fe}(r:l[k]?=some x):n=l.length/\n<=c/\∃g b,a=some ⟨g,b,none⟩/\g<B/\w.cell? ⟨g,b+k*5,none⟩=some (.int .i64 x.Al)/\w.cell? ⟨g,b+k*5+1,none⟩=some (.int .u64 x.a)/\w.cell? ⟨g,b+k*5+2,none⟩=some (.int .u64 x.b)/\w.cell? ⟨g,b+k*5+3,none⟩=some (.int .u64 x.c)/\w.cell? ⟨g,b+k*5+4,none⟩=some (.int .u64 x.d):=by
 obtain⟨s,t,m,o,p⟩:=h;injection m with f i j
 subst f i j;obtain⟨g,b,e,q,d⟩:=p k x r;exact⟨rfl,o,g,b,e,q,d 0 _ rfl,d 1 _ rfl,d 2 _ rfl,d 3 _ rfl,d 4 _ rfl⟩
theorem ox(S:WS)(x:fe):(cD S x).code.length<=S.code.length+5/\(cD S x).work=S.work/\(cD S x).aL=S.aL:=by
 have b:∀(num:Int) (a:List Int),a.length<=4->(b5 S num a).code.length<=S.code.length+5/\(b5 S num a).work=S.work/\(b5 S num a).aL=S.aL:=fun num a f=>by
  obtain⟨c,d,e⟩:=gR a S 0;refine⟨?_,d,e⟩;show((fK S a 0).code++[_]).length<=_
  rw[List.length_append,c];simp;omega
 unfold cD;split
 ·refine⟨?_,rfl,rfl⟩
  simp[iL,fE]
 ·split
  ·exact b _ _ (by simp)
  ·split
   ·exact b _ _ (by simp)
   ·exact b _ _ (by simp)
def lN:aV:=⟨16,0,0,0,0,0,0⟩
def hq:WS->Nat->Nat->WS
 |S,_,0=>S
 |S,i,n+1=>hq (j6 (b5 S 1 [0,(i:Int)]) 3 i) (i+1) n
def e3:WS->List Int->List (List fe)->WS×List Int
 |S,a,[]=>(S,a)
 |S,a,l::r=>e3 (iL ((l.take 40).foldl cD S) lN) (a++[(S.code.length:Int)]) r
def oO(a:List Int)(once:Int):List Int->List Int->List aV->List aV
 |[],_,C=>C
 |_,[],C=>C
 |x::l,y::r,C=>oO a once l r (match C[x.toNat]? with|some X=>C.set x.toNat {X with v:=IntKind.u64.wrap (if 0<=y then a.getD y.toNat 0 else once)}|none=>C)
def bR(P:fc):List aV:=
 let S:=hq ⟨[],[],[]⟩ 0 (min P.others.length 6)
 let S:=iL ((P.first.take 40).foldl cD S) lN
 let q:=e3 S [] (P.others.take 6)
 let once:=(q.1.code.length:Int)
 let S:=iL ((P.once.take 6).foldl cD q.1) lN
 oO q.2 once S.work S.aL S.code
theorem fG.ints{w w':World}{d f n:Nat}{k j m:Value}{S:WS}{q:List Value}(h:fG w d d k j S)(b:w.ownsRow f 3 1 m n q)(l:(∀g,k.ownBlock=some g->g<f)/\∀g,j.ownBlock=some g->g<f)(c:Ch (fun i=>m.ownBlock=some i) w w'):fG w' d d k j S:=by
 obtain⟨p,h⟩:=h;refine⟨p,h.row.ch c (fun e=>bh b h.row (by decide) e),h.hB,ar h.code c (fun g a e=> ?_),ar h.work c (fun g a e=> ?_),ar h.aL c (fun g a e=> ?_),h.ne⟩
 ·obtain⟨_,cs,o⟩:=bJ h.code a
  exact bh b o (by decide) e
 ·have:=(bJ b e).1;have:=l.1 g a;omega
 ·have:=(bJ b e).1;have:=l.2 g a;omega
theorem qQ.Fa{w:World}{B b g n cap:Nat}{z u:Value}{S:WS}{i:Nat}{X:aV}(h:qQ w B b (.slice (some (g,0)) n cap) z u S)(m:n=S.code.length)(D:S.code[i]?=some X)(v:Int):
 qQ (w.setCell ⟨g,i*7+4,none⟩ (.int .u64 v)) B b (.slice (some (g,0)) n cap) z u {S with code:=S.code.set i {X with v:=v}}/\Below B w (w.setCell ⟨g,i*7+4,none⟩ (.int .u64 v))/\a9 w (w.setCell ⟨g,i*7+4,none⟩ (.int .u64 v)):=by
 obtain⟨G,cs,j⟩:=bJ h.code (k:=g) rfl;have a:Ch (aK g) w (w.setCell ⟨g,i*7+4,none⟩ (.int .u64 v)):=(Ch.refl _ _).only _ _;have q:∀{s:Nat} {r:Value} {n:Nat} {A:List Value},w.ownsRow B 3 s r n A->(w.setCell ⟨g,i*7+4,none⟩ (.int .u64 v)).ownsRow B 3 s r n A:=fun p=>ar p a (fun k l e=>by have d:k=g:=e;subst d;exact bh p j (by decide) l)
 have o:=h.code;rw[<-m]at o;have F:=hI (enc:=dg) o ej D 4 (by omega) rfl (v:=.int .u64 v) (y:={X with v:=v}) rfl m;refine⟨⟨h.row.ch a (fun e=>by have d:b=g:=e;subst d;exact absurd (eD h.row j) (by decide)),h.hB,?_,q h.work,q h.aL,h.ne⟩,a.below (by have:=h.row.lt;have:=h.hB;omega) (fun i E=>by have e:i=g:=E;omega),a9.fa a (fun k x t f l c=>by have e:k=g:=l;subst e;rw[j]at c;injection c with c;injection c with _ C _;exact Or.inr C.symm)⟩;show(w.setCell ⟨g,i*7+4,none⟩ (.int .u64 v)).ownsRow B 121 7 (.slice (some (g,0)) n cap) (S.code.set i {X with v:=v}).length ((S.code.set i {X with v:=v}).flatMap dg)
 rw[List.length_set,<-m];exact F
structure lO(S:WS)(i:Nat):Prop where
 wl:S.work.length=i
 hl:S.aL.length=i
 w:∀x∈S.work,0<=x/\x<S.code.length
 h:∀y∈S.aL,0<=y/\y<(i:Int)
theorem lO.next{S:WS}{i:Nat}(h:lO S i):lO (j6 (b5 S 1 [0,(i:Int)]) 3 i) (i+1):=by
 obtain⟨b,j,k⟩:=gR [0,(i:Int)] S 0;have l:(j6 (b5 S 1 [0,(i:Int)]) 3 i).code.length=S.code.length+3:=by
  show((fK S [0,(i:Int)] 0).code++[_]).length=_
  rw[List.length_append,b];rfl
 have d:(j6 (b5 S 1 [0,(i:Int)]) 3 i).work=S.work++[(S.code.length:Int)]:=by
  show(fK S [0,(i:Int)] 0).work++[(((fK S [0,(i:Int)] 0).code++[_]).length:Int)-3]=_
  rw[j,List.length_append,b]
  congr 2
  simp
  omega
 have c:(j6 (b5 S 1 [0,(i:Int)]) 3 i).aL=S.aL++[(i:Int)]:=by
  show(fK S [0,(i:Int)] 0).aL++[(i:Int)]=_
  rw[k]
 refine⟨by rw[d,List.length_append,h.wl];rfl,by rw[c,List.length_append,h.hl];rfl,fun x f=> ?_,fun y g=> ?_⟩
 ·rw[d]at f
  rcases List.mem_append.1 f with a|a
  ·have:=h.w x a;omega
  ·have e:=List.mem_singleton.1 a;omega
 ·rw[c]at g
  rcases List.mem_append.1 g with a|a
  ·have:=h.h y a;omega
  ·have e:=List.mem_singleton.1 a;omega
theorem oy:∀(n:Nat) (S:WS) (i:Nat),lO S i->lO (hq S i n) (i+n)
 |0,_,_,h=>h
 |n+1,S,i,h=>by
  have:=oy n _ _ h.next;rw[show i+1+n=i+(n+1)by omega]at this;exact this
theorem sH(a:List Int)(once:Int):∀(l r:List Int) (C:List aV),(oO a once l r C).length=C.length
 |[],_,_=>rfl
 |_::_,[],_=>rfl
 |x::l,y::r,C=>by
  rw[oO,sH a once l r];split
  ·rw[List.length_set]
  ·rfl
theorem BJ(S:WS)(x:fe):S.code.length<=(cD S x).code.length:=by
 have b:∀(num:Int) (a:List Int),S.code.length<=(b5 S num a).code.length:=fun num a=>by
  obtain⟨c,d,e⟩:=gR a S 0;show _<=((fK S a 0).code++[_]).length
  rw[List.length_append,c];omega
 unfold cD;split
 ·simp only[iL,fE,List.length_append];omega
 ·split
  ·exact b _ _
  ·split
   ·exact b _ _
   ·exact b _ _
theorem mR:∀(l:List fe) (S:WS),S.code.length<=(l.foldl cD S).code.length
 |[],_=>Nat.le_refl _
 |x::l,S=>Nat.le_trans (BJ S x) (mR l (cD S x))
theorem qM(S:WS)(X:aV):S.code.length<=(iL S X).code.length:=by simp only[iL,List.length_append];omega
theorem pD:∀(l:List (List fe)) (S:WS) (b:List Int),S.code.length<=(e3 S b l).1.code.length
 |[],_,_=>Nat.le_refl _
 |a::l,S,b=>Nat.le_trans (Nat.le_trans (mR (a.take 40) S) (qM _ _)) (pD l _ _)
def hW(l:List aV):Prop:=∀X∈l,aH X.v
theorem hW.app{l:List aV}(h:hW l){X:aV}(b:aH X.v):hW (l++[X]):=fun Y c=>by
 rcases List.mem_append.1 c with a|a
 ·exact h Y a
 ·rw[List.mem_singleton.1 a];exact b
theorem vt:∀(c:List Int) (S:WS) (i:Nat),hW S.code->(∀a∈c,aH a)->hW (fK S c i).code
 |[],_,_,h,_=>h
 |a::l,S,i,h,d=>vt l (fE S i a) (i+1) (h.app (X:=⟨1,i,0,0,a,0,0⟩) (d a (List.mem_cons_self ..))) (fun b hb=>d b (List.mem_cons_of_mem _ hb))
theorem mT(S:WS)(num:Int)(b:List Int)(h:hW S.code)(c:∀a∈b,aH a):hW (b5 S num b).code:=
 hW.app (X:=⟨22,0,0,0,IntKind.u64.wrap num,0,0⟩) (vt b S 0 h c) (cj _)
theorem lP{n:Int}(a:0<=n)(b:n<100):aH n:=⟨a,by omega⟩
theorem kW{a:Int}(n:Int)(b:0<n)(c:n<=100):aH (a%n):=lP (Int.emod_nonneg _ (by omega)) (by have:=Int.emod_lt_of_pos a b;omega)
theorem z4{a:Int}(n:Int)(b:0<n)(c:n<=90):aH (1+a%n):=lP (by have:=Int.emod_nonneg a (show n≠0 by omega);omega) (by have:=Int.emod_lt_of_pos a b;omega)
theorem kX{x:fe}(h:iK x):aH (cellOf x):=by
 unfold cellOf;split
 ·exact h.a
 ·exact kW 4 (by decide) (by decide)
theorem Du(b:Int):aH (gJ b):=by
 unfold gJ;split
 ·exact⟨by decide,by decide⟩
 ·exact kW 60 (by decide) (by decide)
theorem Dv(S:WS)(x:fe)(c:iK x)(h:hW S.code):hW (cD S x).code:=by
 unfold cD;split
 ·exact((h.app (X:=⟨1,2,0,0,x.b%5,0,0⟩) (kW 5 (by decide) (by decide))).app (X:=⟨1,3,0,0,x.c%5,0,0⟩) (kW 5 (by decide) (by decide))).app (X:=⟨17+ek x-900,2,-1,if ek x=904 then 3 else 0,cellOf x,0,0⟩) (kX c)
 ·split
  ·refine mT _ _ _ h (fun a b=> ?_)
   simp only[List.mem_cons,List.not_mem_nil,or_false]at b;rcases b with rfl|rfl|rfl|rfl
   ·exact kX c
   ·exact kW 3 (by decide) (by decide)
   ·exact Du _
   ·exact z4 3 (by decide) (by decide)
  ·split
   ·refine mT _ _ _ h (fun a b=> ?_)
    simp only[List.mem_cons,List.not_mem_nil,or_false]at b;rcases b with rfl|rfl|rfl
    ·exact kX c
    ·exact kW 4 (by decide) (by decide)
    ·exact z4 3 (by decide) (by decide)
   ·refine mT _ _ _ h (fun a b=> ?_)
    simp only[List.mem_cons,List.not_mem_nil,or_false]at b;rcases b with rfl|rfl|rfl|rfl
    ·exact kX c
    ·exact kW 3 (by decide) (by decide)
    ·exact kW 4 (by decide) (by decide)
    ·exact kW 3 (by decide) (by decide)
theorem qN:∀(l:List fe) (S:WS),(∀x∈l,iK x)->hW S.code->hW (l.foldl cD S).code
 |[],_,_,h=>h
 |x::l,S,a,h=>qN l (cD S x) (fun y b=>a y (List.mem_cons_of_mem _ b)) (Dv S x (a x (List.mem_cons_self ..)) h)
theorem uj:aH lN.v:=⟨by decide,by decide⟩
theorem z5:∀(n:Nat) (S:WS) (i:Nat),i+n<=90->hW S.code->hW (hq S i n).code
 |0,_,_,_,h=>h
 |n+1,S,i,c,h=>z5 n _ (i+1) (by omega) (by
  refine mT S 1 [0,(i:Int)] h (fun a b=> ?_);simp only[List.mem_cons,List.not_mem_nil,or_false]at b;rcases b with rfl|rfl
  ·exact⟨by decide,by decide⟩
  ·exact lP (by omega) (by omega))
theorem sI:∀(l:List (List fe)) (S:WS) (d:List Int),(∀a∈l,∀x∈a,iK x)->hW S.code->hW (e3 S d l).1.code
 |[],_,_,_,h=>h
 |a::l,S,d,c,h=>sI l _ _ (fun b hb=>c b (List.mem_cons_of_mem _ hb)) ((qN (a.take 40) S (fun x e=>c a (List.mem_cons_self ..) x (List.mem_of_mem_take e)) h).app uj)
theorem z6(b:List Int)(once:Int):∀(l r:List Int) (C:List aV),hW C->hW (oO b once l r C)
 |[],_,_,h=>h
 |_::_,[],_,h=>h
 |x::l,y::r,C,h=>by
  rw[oO];refine z6 b once l r _ ?_;split
  ·intro X c
   rcases List.mem_or_eq_of_mem_set c with a|a
   ·exact h X a
   ·rw[a];exact cj _
  ·exact h
theorem Dw(P:fc)(b:iy P):∀x∈bR P,aH x.v:=by
 unfold bR;refine z6 _ _ _ _ _ ?_;refine hW.app (qN _ _ (fun x c=>b.once x (List.mem_of_mem_take c)) ?_) uj;refine sI _ _ _ (fun a e=>b.others a (List.mem_of_mem_take e)) ?_;refine hW.app (qN _ _ (fun x c=>b.first x (List.mem_of_mem_take c)) ?_) uj;exact z5 _ _ 0 (by omega) (fun X d=>by cases d)
theorem z7(P:fc):0<(bR P).length:=by
 unfold bR;dsimp only;rw[sH];show 0<(_++[lN]).length
 simp
def iz(P:fc)(wk a:Int):Bool:=ei (bR P) 0 3 1&&decide (17+8*(ct wk a).1+3+1+1<=(ct wk a).2)
def oz(l:List aV)(loop:Int)(calls:List br)(P:fc):KC:=ue l loop calls (bR P) 0 3 1
theorem sJ{l:List aV}{loop:Int}{calls:List br}(a:sB l loop calls){P:fc}(c:iy P){wk b:Int}(h:iz P wk b=true):oC (oz l loop calls P):=by
 unfold iz at h;rw[Bool.and_eq_true]at h;exact vq a.ok h.1 (by have:=a.c1;omega) (lM a.u) (Dw P c)
theorem sK{l:List aV}{loop:Int}{calls:List br}{P:fc}{wk a:Int}(h:iz P wk a=true):Inv 1 0 (hC (oz l loop calls P) (ct wk a).1.toNat (ct wk a).2.toNat):=by
 unfold iz at h;rw[Bool.and_eq_true,decide_eq_true_eq]at h;obtain⟨d,e,f,g⟩:=kU wk a;refine sy _ _ _ (by omega) (by omega) (by omega) ?_;show 17+8*(ct wk a).1.toNat+(3:Int).toNat+(1:Int).toNat<=(ct wk a).2.toNat
 have b:(3:Int).toNat=3:=rfl;have c:(1:Int).toNat=1:=rfl;omega
def sL(C:KC)(ok:Bool)(n tt:Nat)(w:World)(e:Ending)(w':World):Prop:=
 ∃pv a,e=.returned (.tuple #[.pointer pv,a])/\Ch ag w w'/\((ok=false/\pv=none/\∃t x,a=.iface t x)∨(ok=true/\∃mb χ,pv=some ⟨mb,0,none⟩/\a=.nilIface/\MS w' χ mb C (hC C n tt)/\∀i,χ i≠ .no->w.heap.size<=i))
theorem sL.no{C:KC}{ok:Bool}{n tt:Nat}{w:World}{e:Ending}{w':World}(a:ok=false)(h:z2 w e w'):sL C ok n tt w e w':=by
 obtain⟨⟨d,rfl,c,f,rfl⟩,b⟩:=h;exact⟨_,_,rfl,b,Or.inl ⟨a,rfl,_,_,rfl⟩⟩
theorem sL.back{C:KC}{ok:Bool}{n tt:Nat}{w w1:World}{e:Ending}{w':World}(c:Ch ag w w1)(h:sL C ok n tt w1 e w'):sL C ok n tt w e w':=by
 obtain⟨pv,a,b,d,f⟩:=h;exact⟨pv,a,b,c.trans d,f.imp_right fun⟨k,mb,χ,k1,k2,k3,j⟩=>⟨k,mb,χ,k1,k2,k3,fun i g=>Nat.le_trans c.size (j i g)⟩⟩
theorem sL.yes{C:KC}{ok:Bool}{n tt:Nat}{w:World}{e:Ending}{w':World}(a:ok=true)(h:Dn C n tt w e w'):sL C ok n tt w e w':=by
 obtain⟨mb,χ,rfl,d,c,b⟩:=h;exact⟨_,_,rfl,b,Or.inr ⟨a,mb,χ,rfl,rfl,d,c⟩⟩
theorem z8{l:List aV}{loop:Int}{calls:List br}(b:sB l loop calls)(P:fc)(wk a:Int)(y z A:Value){B1 B2 B3:Nat}(w:World)
 (p:w.ownsRow B1 121 7 y l.length (l.flatMap dg)) (q:w.ownsRow B2 49 6 z calls.length (calls.flatMap br.cells)) (r:w.ownsRow B3 121 7 A (bR P).length ((bR P).flatMap dg))
 (m:w.cell? (0,0)=some (.iface 335 (.agg #[(1,40)]))):
 Calls prog 11 #[.agg #[.int .i64 (ct wk a).1,.int .i64 (ct wk a).2],.agg #[y,loop,z],.agg #[A,.int .i64 0,.int .i64 3,.int .i64 1]] w (sL (oz l loop calls P) (iz P wk a) (ct wk a).1.toNat (ct wk a).2.toNat w):=by
 obtain⟨B,C,D,E⟩:=kU wk a;obtain⟨n,s⟩:=Int.eq_ofNat_of_zero_le (show 0<=(ct wk a).1 by omega);obtain⟨tt,t⟩:=Int.eq_ofNat_of_zero_le (show 0<=(ct wk a).2 by omega);have o:calls.length<=100000:=by have:=b.c1;omega
 unfold iz;rw[s]at B C;rw[t]at D E;rw[s,t];rw[Int.toNat_natCast,Int.toNat_natCast];have d:=aS p (hU b.ok).1;have f:=aS q b.c0;have g:=aS r (z7 P);obtain⟨i,a1,I,rfl,_,v,_,d,_⟩:=d;obtain⟨j,a2,u,rfl,_,H,_,f,_⟩:=f;obtain⟨k,a3,J,rfl,_,x,_,g,_⟩:=g;by_cases c:ei (bR P) 0 3 1=true
 ·by_cases G:17+8*n+3+1+1<=tt
  ·refine(zT n tt (by omega) (by omega) l loop calls (bR P) 0 3 1 o b.c0 b.ok c G _ _ _ w p q r m).mono fun e w' h=> .yes ?_ h
   rw[c,Bool.true_and,decide_eq_true_eq];omega
  ·refine(zR n tt (by omega) (by omega) l i a1 loop calls j a2 (bR P) k a3 0 3 1 v H x o b.c0 w (hV d) (hV g) ⟨u,f⟩ b.ok c m).mono fun e w' h=> .no ?_ (h.elim (fun h=>absurd h.1 (by omega)) And.right)
   rw[c,Bool.true_and,decide_eq_false_iff_not];omega
 ·have F:ei (bR P) 0 3 1=false:=by rwa [Bool.not_eq_true]at c
  refine(uh n tt l (some ⟨i,0,none⟩) a1 loop calls (some ⟨j,0,none⟩) a2 (bR P) (some ⟨k,0,none⟩) a3 0 3 1 v x o w (fun _=>⟨i,rfl,hV d⟩) (fun _=>⟨k,rfl,hV g⟩) (fun _=>⟨j,u,rfl,f⟩) (fun h=>c h.2.2.2.2.2) m).mono fun e w' h=> .no ?_ h
  rw[F,Bool.false_and]
end Go.Proofs.YtfnilkpkogipfaaGreatDoor
