import Derived.Test.YtfnilkpkogipfaaGreatDoorZBu
import Derived.Test.YtfnilkpkogipfaaGreatDoorZBw
set_option linter.all false
set_option maxRecDepth 100000
set_option maxHeartbeats 8000000
namespace Go.Proofs.YtfnilkpkogipfaaGreatDoor
open Go.RowKit Go.Proofs.Tryz
def z3(w:World)(e:Ending)(w':World):Prop:=∃a c,e=.returned (.slice a 0 c)/\Ch ag w w'
theorem xC(w:World):Calls prog 45 #[.int .i64 16] w (z3 w):=by
 go_enter func45,ntmps45
 go_wp2_with fail
 obtain⟨w1,a⟩:=nm (w.alloc (.cells #[] 3));have b:=Z (Ch.al (D:=ag) a);rw[a];clear a;go_loop [3,4] (fun l i=>∃k:Nat,k<=6/\i=.int .i64 k/\l=.slice (some (w.heap.size,0)) 0 0) (fun _ i=>6-(intOf i).toNat)
 case atStart=>exact⟨0,by omega,rfl,rfl⟩
 case round=>
  obtain⟨k,d,rfl,rfl⟩:=hrel;by_cases e:k<6
  ·have c:¬(18+(k:Int)<=16):=by omega
   go_wp2_with fail
   go_round
   case rel=>exact⟨k+1,by omega,by go_num,rfl⟩
   case measure=>simp[intOf];omega
  ·go_wp2_with fail
   go_ret;exact⟨_,_,rfl,b⟩
def gD(w:World)(B:Nat)(v:Value)(l:List fe):Prop:=
 ∃a c,v=.slice a l.length c/\l.length<=c/\∀k x,l[k]?=some x->∃g b,a=some ⟨g,b,none⟩/\g<B/\∀j u,(Ds x)[j]?=some u->w.cell? ⟨g,b+k*5+j,none⟩=some u
structure fc where
 cV:Nat
 first:List fe
 others:List (List fe)
 once:List fe
 kV:Bool
def jn(w:World)(B:Nat)(v:Value)(l:List (List fe)):Prop:=
 ∃a c,v=.slice a l.length c/\l.length<=c/\∀k x,l[k]?=some x->∃g b d,a=some ⟨g,b,none⟩/\g<B/\w.cell? ⟨g,b+k,none⟩=some d/\gD w B d x
def fF(w:World)(B:Nat)(p:Value)(P:fc):Prop:=
 ∃a c b d e,p=.agg #[.slice a P.cV c,b,d,e,.bool P.kV]/\gD w B b P.first/\jn w B d P.others/\gD w B e P.once
theorem gD.below{w w':World}{B:Nat}{v:Value}{l:List fe}(h:gD w B v l)(hb:Below B w w'):gD w' B v l:=by
 obtain⟨a,c,f,i,m⟩:=h;refine⟨a,c,f,i,fun k x q=> ?_⟩;obtain⟨g,d,e,b,n⟩:=m k x q;exact⟨g,d,e,b,fun j u o=>(hb.cell (p:=⟨g,d+k*5+j,none⟩) b).trans (n j u o)⟩
theorem jn.below{w w':World}{B:Nat}{v:Value}{l:List (List fe)}(h:jn w B v l)(hb:Below B w w'):jn w' B v l:=by
 obtain⟨a,c,f,i,j⟩:=h;refine⟨a,c,f,i,fun k x o=> ?_⟩;obtain⟨g,d,q,e,b,n,m⟩:=j k x o;exact⟨g,d,q,e,b,(hb.cell (p:=⟨g,d+k,none⟩) b).trans n,m.below hb⟩
structure iy(P:fc):Prop where
 first:∀x∈P.first,iK x
 others:∀l∈P.others,∀x∈l,iK x
 once:∀x∈P.once,iK x
theorem gD.Dt{w:World}{B:Nat}{a:Option Addr}{n c:Nat}{l:List fe}(h:gD w B (.slice a n c) l){k:Nat}{x:fe}(r:l[k]?=some x):n=l.length/\n<=c/\∃g b,a=some ⟨g,b,none⟩/\g<B/\w.cell? ⟨g,b+k*5,none⟩=some (.int .i64 x.Al)/\w.cell? ⟨g,b+k*5+1,none⟩=some (.int .u64 x.a)/\w.cell? ⟨g,b+k*5+2,none⟩=some (.int .u64 x.b)/\w.cell? ⟨g,b+k*5+3,none⟩=some (.int .u64 x.c)/\w.cell? ⟨g,b+k*5+4,none⟩=some (.int .u64 x.d):=by
 obtain⟨s,t,m,o,p⟩:=h;injection m with f i j
 subst f i j;obtain⟨g,b,e,q,d⟩:=p k x r;exact⟨rfl,o,g,b,e,q,d 0 _ rfl,d 1 _ rfl,d 2 _ rfl,d 3 _ rfl,d 4 _ rfl⟩
theorem ox(S:WS)(x:fe):(cD S x).code.length<=S.code.length+5/\(cD S x).work=S.work/\(cD S x).aL=S.aL:=by
 have b:∀(num:Int) (a:List Int),a.length<=4->(b5 S num a).code.length<=S.code.length+5/\(b5 S num a).work=S.work/\(b5 S num a).aL=S.aL:=fun num a f=>by
  obtain⟨c,d,e⟩:=gR a S 0;refine⟨?_,d,e⟩;show((fK S a 0).code++[_]).length<=_
  rw[List.length_append,c];simp;omega
 unfold cD;split
 ·refine⟨?_,rfl,rfl⟩
  simp[iL,fE]
 ·split
  ·exact b _ _ (by simp)
  ·split
   ·exact b _ _ (by simp)
   ·exact b _ _ (by simp)
def lN:aV:=⟨16,0,0,0,0,0,0⟩
def hq:WS->Nat->Nat->WS
 |S,_,0=>S
 |S,i,n+1=>hq (j6 (b5 S 1 [0,(i:Int)]) 3 i) (i+1) n
def e3:WS->List Int->List (List fe)->WS×List Int
 |S,a,[]=>(S,a)
 |S,a,l::r=>e3 (iL ((l.take 40).foldl cD S) lN) (a++[(S.code.length:Int)]) r
def oO(a:List Int)(once:Int):List Int->List Int->List aV->List aV
 |[],_,C=>C
 |_,[],C=>C
 |x::l,y::r,C=>oO a once l r (match C[x.toNat]? with|some X=>C.set x.toNat {X with v:=IntKind.u64.wrap (if 0<=y then a.getD y.toNat 0 else once)}|none=>C)
def bR(P:fc):List aV:=
 let S:=hq ⟨[],[],[]⟩ 0 (min P.others.length 6)
 let S:=iL ((P.first.take 40).foldl cD S) lN
 let q:=e3 S [] (P.others.take 6)
 let once:=(q.1.code.length:Int)
 let S:=iL ((P.once.take 6).foldl cD q.1) lN
 oO q.2 once S.work S.aL S.code
theorem fG.ints{w w':World}{d f n:Nat}{k j m:Value}{S:WS}{q:List Value}(h:fG w d d k j S)(b:w.ownsRow f 3 1 m n q)(l:(∀g,k.ownBlock=some g->g<f)/\∀g,j.ownBlock=some g->g<f)(c:Ch (fun i=>m.ownBlock=some i) w w'):fG w' d d k j S:=by
 obtain⟨p,h⟩:=h;refine⟨p,h.row.ch c (fun e=>bh b h.row (by decide) e),h.hB,ar h.code c (fun g a e=> ?_),ar h.work c (fun g a e=> ?_),ar h.aL c (fun g a e=> ?_),h.ne⟩
 ·obtain⟨_,cs,o⟩:=bJ h.code a
  exact bh b o (by decide) e
 ·have:=(bJ b e).1;have:=l.1 g a;omega
 ·have:=(bJ b e).1;have:=l.2 g a;omega
theorem qQ.Fa{w:World}{B b g n cap:Nat}{z u:Value}{S:WS}{i:Nat}{X:aV}(h:qQ w B b (.slice (some (g,0)) n cap) z u S)(m:n=S.code.length)(D:S.code[i]?=some X)(v:Int):
 qQ (w.setCell ⟨g,i*7+4,none⟩ (.int .u64 v)) B b (.slice (some (g,0)) n cap) z u {S with code:=S.code.set i {X with v:=v}}/\Below B w (w.setCell ⟨g,i*7+4,none⟩ (.int .u64 v))/\a9 w (w.setCell ⟨g,i*7+4,none⟩ (.int .u64 v)):=by
 obtain⟨G,cs,j⟩:=bJ h.code (k:=g) rfl;have a:Ch (aK g) w (w.setCell ⟨g,i*7+4,none⟩ (.int .u64 v)):=(Ch.refl _ _).only _ _;have q:∀{s:Nat} {r:Value} {n:Nat} {A:List Value},w.ownsRow B 3 s r n A->(w.setCell ⟨g,i*7+4,none⟩ (.int .u64 v)).ownsRow B 3 s r n A:=fun p=>ar p a (fun k l e=>by have d:k=g:=e;subst d;exact bh p j (by decide) l)
 have o:=h.code;rw[<-m]at o;have F:=hI (enc:=dg) o ej D 4 (by omega) rfl (v:=.int .u64 v) (y:={X with v:=v}) rfl m;refine⟨⟨h.row.ch a (fun e=>by have d:b=g:=e;subst d;exact absurd (eD h.row j) (by decide)),h.hB,?_,q h.work,q h.aL,h.ne⟩,a.below (by have:=h.row.lt;have:=h.hB;omega) (fun i E=>by have e:i=g:=E;omega),a9.fa a (fun k x t f l c=>by have e:k=g:=l;subst e;rw[j]at c;injection c with c;injection c with _ C _;exact Or.inr C.symm)⟩;show(w.setCell ⟨g,i*7+4,none⟩ (.int .u64 v)).ownsRow B 121 7 (.slice (some (g,0)) n cap) (S.code.set i {X with v:=v}).length ((S.code.set i {X with v:=v}).flatMap dg)
 rw[List.length_set,<-m];exact F
structure lO(S:WS)(i:Nat):Prop where
 wl:S.work.length=i
 hl:S.aL.length=i
 w:∀x∈S.work,0<=x/\x<S.code.length
 h:∀y∈S.aL,0<=y/\y<(i:Int)
theorem lO.next{S:WS}{i:Nat}(h:lO S i):lO (j6 (b5 S 1 [0,(i:Int)]) 3 i) (i+1):=by
 obtain⟨b,j,k⟩:=gR [0,(i:Int)] S 0;have l:(j6 (b5 S 1 [0,(i:Int)]) 3 i).code.length=S.code.length+3:=by
  show((fK S [0,(i:Int)] 0).code++[_]).length=_
  rw[List.length_append,b];rfl
 have d:(j6 (b5 S 1 [0,(i:Int)]) 3 i).work=S.work++[(S.code.length:Int)]:=by
  show(fK S [0,(i:Int)] 0).work++[(((fK S [0,(i:Int)] 0).code++[_]).length:Int)-3]=_
  rw[j,List.length_append,b]
  congr 2
  simp
  omega
 have c:(j6 (b5 S 1 [0,(i:Int)]) 3 i).aL=S.aL++[(i:Int)]:=by
  show(fK S [0,(i:Int)] 0).aL++[(i:Int)]=_
  rw[k]
 refine⟨by rw[d,List.length_append,h.wl];rfl,by rw[c,List.length_append,h.hl];rfl,fun x f=> ?_,fun y g=> ?_⟩
 ·rw[d]at f
  rcases List.mem_append.1 f with a|a
  ·have:=h.w x a;omega
  ·have e:=List.mem_singleton.1 a;omega
 ·rw[c]at g
  rcases List.mem_append.1 g with a|a
  ·have:=h.h y a;omega
  ·have e:=List.mem_singleton.1 a;omega
theorem oy:∀(n:Nat) (S:WS) (i:Nat),lO S i->lO (hq S i n) (i+n)
 |0,_,_,h=>h
 |n+1,S,i,h=>by
  have:=oy n _ _ h.next;rw[show i+1+n=i+(n+1)by omega]at this;exact this
theorem sH(a:List Int)(once:Int):∀(l r:List Int) (C:List aV),(oO a once l r C).length=C.length
 |[],_,_=>rfl
 |_::_,[],_=>rfl
 |x::l,y::r,C=>by
  rw[oO,sH a once l r];split
  ·rw[List.length_set]
  ·rfl
theorem BJ(S:WS)(x:fe):S.code.length<=(cD S x).code.length:=by
 have b:∀(num:Int) (a:List Int),S.code.length<=(b5 S num a).code.length:=fun num a=>by
  obtain⟨c,d,e⟩:=gR a S 0;show _<=((fK S a 0).code++[_]).length
  rw[List.length_append,c];omega
 unfold cD;split
 ·simp only[iL,fE,List.length_append];omega
 ·split
  ·exact b _ _
  ·split
   ·exact b _ _
   ·exact b _ _
theorem mR:∀(l:List fe) (S:WS),S.code.length<=(l.foldl cD S).code.length
 |[],_=>Nat.le_refl _
 |x::l,S=>Nat.le_trans (BJ S x) (mR l (cD S x))
theorem qM(S:WS)(X:aV):S.code.length<=(iL S X).code.length:=by simp only[iL,List.length_append];omega
theorem pD:∀(l:List (List fe)) (S:WS) (b:List Int),S.code.length<=(e3 S b l).1.code.length
 |[],_,_=>Nat.le_refl _
 |a::l,S,b=>Nat.le_trans (Nat.le_trans (mR (a.take 40) S) (qM _ _)) (pD l _ _)
def hW(l:List aV):Prop:=∀X∈l,aH X.v
theorem hW.app{l:List aV}(h:hW l){X:aV}(b:aH X.v):hW (l++[X]):=fun Y c=>by
 rcases List.mem_append.1 c with a|a
 ·exact h Y a
 ·rw[List.mem_singleton.1 a];exact b
theorem vt:∀(c:List Int) (S:WS) (i:Nat),hW S.code->(∀a∈c,aH a)->hW (fK S c i).code
 |[],_,_,h,_=>h
 |a::l,S,i,h,d=>vt l (fE S i a) (i+1) (h.app (X:=⟨1,i,0,0,a,0,0⟩) (d a (List.mem_cons_self ..))) (fun b hb=>d b (List.mem_cons_of_mem _ hb))
theorem mT(S:WS)(num:Int)(b:List Int)(h:hW S.code)(c:∀a∈b,aH a):hW (b5 S num b).code:=
 hW.app (X:=⟨22,0,0,0,IntKind.u64.wrap num,0,0⟩) (vt b S 0 h c) (cj _)
theorem lP{n:Int}(a:0<=n)(b:n<100):aH n:=⟨a,by omega⟩
theorem kW{a:Int}(n:Int)(b:0<n)(c:n<=100):aH (a%n):=lP (Int.emod_nonneg _ (by omega)) (by have:=Int.emod_lt_of_pos a b;omega)
theorem z4{a:Int}(n:Int)(b:0<n)(c:n<=90):aH (1+a%n):=lP (by have:=Int.emod_nonneg a (show n≠0 by omega);omega) (by have:=Int.emod_lt_of_pos a b;omega)
theorem kX{x:fe}(h:iK x):aH (cellOf x):=by
 unfold cellOf;split
 ·exact h.a
 ·exact kW 4 (by decide) (by decide)
theorem Du(b:Int):aH (gJ b):=by
 unfold gJ;split
 ·exact⟨by decide,by decide⟩
 ·exact kW 60 (by decide) (by decide)
theorem Dv(S:WS)(x:fe)(c:iK x)(h:hW S.code):hW (cD S x).code:=by
 unfold cD;split
 ·exact((h.app (X:=⟨1,2,0,0,x.b%5,0,0⟩) (kW 5 (by decide) (by decide))).app (X:=⟨1,3,0,0,x.c%5,0,0⟩) (kW 5 (by decide) (by decide))).app (X:=⟨17+ek x-900,2,-1,if ek x=904 then 3 else 0,cellOf x,0,0⟩) (kX c)
 ·split
  ·refine mT _ _ _ h (fun a b=> ?_)
   simp only[List.mem_cons,List.not_mem_nil,or_false]at b;rcases b with rfl|rfl|rfl|rfl
   ·exact kX c
   ·exact kW 3 (by decide) (by decide)
   ·exact Du _
   ·exact z4 3 (by decide) (by decide)
  ·split
   ·refine mT _ _ _ h (fun a b=> ?_)
    simp only[List.mem_cons,List.not_mem_nil,or_false]at b;rcases b with rfl|rfl|rfl
    ·exact kX c
    ·exact kW 4 (by decide) (by decide)
    ·exact z4 3 (by decide) (by decide)
   ·refine mT _ _ _ h (fun a b=> ?_)
    simp only[List.mem_cons,List.not_mem_nil,or_false]at b;rcases b with rfl|rfl|rfl|rfl
    ·exact kX c
    ·exact kW 3 (by decide) (by decide)
    ·exact kW 4 (by decide) (by decide)
    ·exact kW 3 (by decide) (by decide)
theorem qN:∀(l:List fe) (S:WS),(∀x∈l,iK x)->hW S.code->hW (l.foldl cD S).code
 |[],_,_,h=>h
 |x::l,S,a,h=>qN l (cD S x) (fun y b=>a y (List.mem_cons_of_mem _ b)) (Dv S x (a x (List.mem_cons_self ..)) h)
theorem uj:aH lN.v:=⟨by decide,by decide⟩
theorem z5:∀(n:Nat) (S:WS) (i:Nat),i+n<=90->hW S.code->hW (hq S i n).code
 |0,_,_,_,h=>h
 |n+1,S,i,c,h=>z5 n _ (i+1) (by omega) (by
  refine mT S 1 [0,(i:Int)] h (fun a b=> ?_);simp only[List.mem_cons,List.not_mem_nil,or_false]at b;rcases b with rfl|rfl
  ·exact⟨by decide,by decide⟩
  ·exact lP (by omega) (by omega))
theorem sI:∀(l:List (List fe)) (S:WS) (d:List Int),(∀a∈l,∀x∈a,iK x)->hW S.code->hW (e3 S d l).1.code
 |[],_,_,_,h=>h
 |a::l,S,d,c,h=>sI l _ _ (fun b hb=>c b (List.mem_cons_of_mem _ hb)) ((qN (a.take 40) S (fun x e=>c a (List.mem_cons_self ..) x (List.mem_of_mem_take e)) h).app uj)
theorem z6(b:List Int)(once:Int):∀(l r:List Int) (C:List aV),hW C->hW (oO b once l r C)
 |[],_,_,h=>h
 |_::_,[],_,h=>h
 |x::l,y::r,C,h=>by
  rw[oO];refine z6 b once l r _ ?_;split
  ·intro X c
   rcases List.mem_or_eq_of_mem_set c with a|a
   ·exact h X a
   ·rw[a];exact cj _
  ·exact h
theorem Dw(P:fc)(b:iy P):∀x∈bR P,aH x.v:=by
 unfold bR;refine z6 _ _ _ _ _ ?_;refine hW.app (qN _ _ (fun x c=>b.once x (List.mem_of_mem_take c)) ?_) uj;refine sI _ _ _ (fun a e=>b.others a (List.mem_of_mem_take e)) ?_;refine hW.app (qN _ _ (fun x c=>b.first x (List.mem_of_mem_take c)) ?_) uj;exact z5 _ _ 0 (by omega) (fun X d=>by cases d)
theorem z7(P:fc):0<(bR P).length:=by
 unfold bR;dsimp only;rw[sH];show 0<(_++[lN]).length
 simp
def iz(P:fc)(wk a:Int):Bool:=ei (bR P) 0 3 1&&decide (17+8*(ct wk a).1+3+1+1<=(ct wk a).2)
def oz(l:List aV)(loop:Int)(calls:List br)(P:fc):KC:=ue l loop calls (bR P) 0 3 1
theorem qO(n tt:Nat)(cl:1<=n/\n<=64)(cC:1<=tt/\tt<=65536)(l:List aV)(s:Nat)(B:Nat)(loop:Int)(calls:List br)(gk:Nat)(A:Nat)(p:List aV)(t:Nat)(pc:Nat)(en:Int)(d f:Nat)
 (ck:l.length<=B) (eL:calls.length<=A) (cm:p.length<=pc) (Y:calls.length<=100000) (ci:0<calls.length) (w:World) (a0:eE w s l) (a3:eE w t p)
 (L:∃T,Row w gk 49 (calls.flatMap br.cells++T))
 (O:e2 l loop calls=true) (Q:ei p en d f=true) (cq:tt<17+8*n+d+f+1)
 (u:w.cell? (0,0)=some (.iface 335 (.agg #[(1,40)]))):
 Calls prog 11 #[.agg #[.int .i64 n,.int .i64 tt],.agg #[.slice (some (s,0)) l.length B,loop,.slice (some (gk,0)) calls.length A],.agg #[.slice (some (t,0)) p.length pc,en,.int .i64 d,.int .i64 f]] w (z2 w):=by
 obtain⟨T,L⟩:=L;obtain⟨w1,M⟩:=nm (((w.alloc (.cells #[.int .i64 n,.int .i64 tt] 43)).alloc (.cells #[.slice (some (s,0)) l.length B,loop,.slice (some (gk,0)) calls.length A] 33)).alloc (.cells #[.slice (some (t,0)) p.length pc,en,.int .i64 d,.int .i64 f] 36));have G:Hid (Ch ag w w1):=Z (by rw[<-M];exact(((Ch.refl _ _).alloc _).alloc _).alloc _);have V:Hid (Row w1 w.heap.size 43 [.int .i64 n,.int .i64 tt]):=Z (by rw[<-M];exact((Row.new w _ _).alloc _).alloc _);have c5:Hid (Row w1 (w.heap.size+1) 33 [.slice (some (s,0)) l.length B,loop,.slice (some (gk,0)) calls.length A]):=Z (by
  rw[<-M];have:=Row.new (w.alloc (.cells #[.int .i64 n,.int .i64 tt] 43)) #[.slice (some (s,0)) l.length B,loop,.slice (some (gk,0)) calls.length A] 33;rw[World.size_alloc]at this;exact this.alloc _)
 have z:Hid (Row w1 (w.heap.size+2) 36 [.slice (some (t,0)) p.length pc,en,.int .i64 d,.int .i64 f]):=Z (by
  rw[<-M];have:=Row.new ((w.alloc (.cells #[.int .i64 n,.int .i64 tt] 43)).alloc (.cells #[.slice (some (s,0)) l.length B,loop,.slice (some (gk,0)) calls.length A] 33)) #[.slice (some (t,0)) p.length pc,en,.int .i64 d,.int .i64 f] 36;rw[World.size_alloc,World.size_alloc]at this;exact this)
 have es:Hid (eE w1 s l):=Z (a0.ch G (fun h=>h));have eA:Hid (eE w1 t p):=Z (a3.ch G (fun h=>h));have ec:Hid (Row w1 gk 49 (calls.flatMap br.cells++T)):=Z (L.ch G (fun h=>h));have U:Hid (w1.cell? (0,0)=some (.iface 335 (.agg #[(1,40)]))):=Z (G.k u);have H:=jc l (some ⟨s,0,none⟩) B loop calls (some ⟨gk,0,none⟩) A ck Y w1 (fun _=>⟨s,rfl,es⟩) (fun _=>⟨gk,T,rfl,ec⟩) U;rw[O]at H;have H:=Z H;have bw:Hid (∀w2,Ch ag w1 w2->Calls prog 51 #[.agg #[.slice (some (t,0)) p.length pc,en,.int .i64 d,.int .i64 f]] w2 (qz true w2)):=Z (fun w2 ce=>by
  have:=jd p (some ⟨t,0,none⟩) pc en d f cm w2 (fun _=>⟨t,rfl,eA.ch ce (fun h=>h)⟩) ((ce.cell (aE U) (fun h=>h)).trans U)
  rwa [Q]at this)
 obtain⟨c3,J⟩:=mn l.length;obtain⟨c2,I⟩:=mn calls.length;obtain⟨c4,K⟩:=mn p.length;have go:Hid (t<w.heap.size/\s<w.heap.size/\gk<w.heap.size):=Z ⟨a3.lt,a0.lt,L.lt⟩;have gf:=Z (pz O);have c1:=Z (qI Q);have gc:=Z J;have fz:=Z I;have ge:=Z K;rw[<-J,<-I]at c5 H;rw[<-K]at z bw;rw[<-J,<-I,<-K]at M⊢;have c0:=Z cl;have gt:=Z cC;have eC:=Z cq;obtain⟨ap,hF⟩:=V.c2;obtain⟨t10,t11,t12⟩:=c5.c3;obtain⟨t20,t21,t22,t23⟩:=z.c4;have cd:0<c3/\c3<=2048:=by rw[J];exact hU O
 have cb:0<c2/\c2<=100000:=by rw[I];exact⟨ci,Y⟩
 have B3:Hid (0<c4/\c4<=2048):=Z (by rw[K];exact jB Q);have B1:=Z cd;have B2:=Z cb;have i1:(1:Int)<=n:=by omega
 have i2:(n:Int)<=64:=by omega
 have hw:(1:Int)<=tt:=by omega
 have hB:(tt:Int)<=65536:=by omega
 clear cd cb J I K ci ck eL cm Y a0 a3 L O Q u cl cC cq;go_enter func11,ntmps11
 go_wp2_with (first|(go_at_call 50;refine H.mono ?_;rintro e w2 ⟨⟨y,rfl,ad⟩,E⟩;obtain rfl:y=.nilIface:=ad;have bi:=Z E;have u20:=(z.ch E (fun h=>h)).cell (i:=0) rfl;have u21:=(z.ch E (fun h=>h)).cell (i:=1) rfl;have u22:=(z.ch E (fun h=>h)).cell (i:=2) rfl;have u23:=(z.ch E (fun h=>h)).cell (i:=3) rfl;clear E)|(go_at_call 51;refine(bw _ bi).mono ?_;rintro e q ⟨⟨y,rfl,ad⟩,cf⟩;obtain rfl:y=.nilIface:=ad;have bv:=Z (bi.trans cf);clear cf))
 obtain⟨dr,ch,cQ,cS,cW⟩:=info_parts zK;have eS:=fun w=>run_make (P:=prog) w 127 148 dr _ underlying127 ch cQ .i64 .i64 (n:Int) (n:Int) (by omega) (by omega) (by rw[cW];omega) (by omega)
 obtain⟨cs,S⟩:=nm (madeCells (Value.agg (#[.int .u64 0,.int .u64 0,.bool false,.int .i64 0,.int .i64 0]++Array.replicate 32 (.int .u64 0)++#[.slice none 0 0])).cells ((n:Int).toNat*dr.size));simp only[S]at eS;rw[cS,Int.toNat_natCast]at S;have dN:=Z S;have D:Hid (cs.toList=(List.replicate n ak.zero).flatMap fun x=>x.cells (.slice none 0 0)):=Z (by
  rw[<-dN];exact gP (enc:=fun x:ak=>x.cells (.slice none 0 0)) (k:=38) (fun x=>ak.len (x,_)) (by omega) ak.zero _ rfl n)
 have hm:= @run_makeMap prog;clear S ch cQ cS cW;have ap:=V.c1;have av:q.cell? ⟨w.heap.size,0,none⟩=some (.int .i64 n):=bv.k ap;clear ap;go_cut [10] (fun p wc=>jC n q p wc)
 case first=>
  have al:=World.new_ne q ⟨w.heap.size,0,none⟩ av;have am:w.heap.size<q.heap.size:=aE av;go_region_held3 (fun w'=>w'.cell? ⟨w.heap.size,0,none⟩=some (.int .i64 n)) (go_keep) ((go_at_call 52;refine(ki _).mono ?_;rintro e v ⟨b,hb,mb,qb,rfl,F,c6,c7,c8,c9,X⟩;have m:=Z F;have o:Hid (Ch ag q v):=Z (Ch.trans (by repeat(first|exact Ch.refl _ _|with_reducible refine Ch.drew ?_|with_reducible refine Ch.alloc ?_ _)) X);have C:=Z X;have j:=Z (And.intro c6 (And.intro c7 (And.intro c8 c9)));have x5:=o.out.k av;clear F X c6 c7 c8 c9))
  all_goals(go_wp2_with fail;go_meet)
  ·exact jC.of (by simp) (((gB q rfl).alloc _).py.ch C (fun h=>h)) ((fB (q.alloc (.map #[] 0)) (k:=q.heap.size+1) (by simp) D).drew.ch C (fun h=>h)) m (by have a:=j.out;simp only[World.size_alloc,World.size_drew]at a;omega) (by have a:=j.out;simp only[World.size_alloc,World.size_drew]at a;omega) (by have a:=j.out;simp only[World.size_alloc,World.size_drew]at a;omega) o
  ·exact jC.of (by simp) ((((gB q rfl)).py.ch C (fun h=>h)).alloc _) (fB _ rfl D) (m.ch (c:=(Ch.refl (fun _=>False) v).alloc _) (fun e=>e) (fun e=>e) (fun e=>e) (fun e=>e) (fun g u=>by cases u)) (by have a:=j.out;have W:=o.size;simp only[World.size_alloc,World.size_drew]at a;omega) (by have a:=j.out;simp only[World.size_alloc,World.size_drew]at a;omega) (by have a:=j.out;simp only[World.size_alloc,World.size_drew]at a;omega) (o.alloc _)
  ·exact jC.of (by simp) ((gB (q.alloc (.cells cs 148)) (k:=q.heap.size+1) (by simp)).py.ch C (fun h=>h)) (((fB _ rfl D).alloc _).drew.ch C (fun h=>h)) m (by have a:=j.out;simp only[World.size_alloc,World.size_drew]at a;omega) (by have a:=j.out;simp only[World.size_alloc,World.size_drew]at a;omega) (by have a:=j.out;simp only[World.size_alloc,World.size_drew]at a;omega) o
  ·exact jC.of (by simp) (gB _ rfl) (((fB _ rfl D).drew.ch C (fun h=>h)).alloc _) (m.ch (c:=(Ch.refl (fun _=>False) v).alloc _) (fun e=>e) (fun e=>e) (fun e=>e) (fun e=>e) (fun g u=>by cases u)) (by have a:=j.out;have W:=o.size;simp only[World.size_alloc,World.size_drew]at a;omega) (by have:=m.heap.map.lt;omega) (by have:=m.ff.lt;omega) (o.alloc _)
  ·exact jC.of (by simp) ((gB _ rfl).alloc _) (fB (v.alloc (.map #[] 0)) (k:=v.heap.size+1) (by simp) D) (m.ch (c:=((Ch.refl (fun _=>False) v).alloc _).alloc _) (fun e=>e) (fun e=>e) (fun e=>e) (fun e=>e) (fun g u=>by cases u)) (by have a:=j.out;have W:=o.size;simp only[World.size_alloc,World.size_drew]at a;omega) (by have:=m.heap.map.lt;omega) (by have:=m.ff.lt;omega) ((o.alloc _).alloc _)
  ·exact jC.of (by simp) (gB (v.alloc (.cells cs 148)) (k:=v.heap.size+1) (by simp)) ((fB _ rfl D).alloc _) (m.ch (c:=((Ch.refl (fun _=>False) v).alloc _).alloc _) (fun e=>e) (fun e=>e) (fun e=>e) (fun e=>e) (fun g u=>by cases u)) (by have a:=j.out;have W:=o.size;simp only[World.size_alloc,World.size_drew]at a;omega) (by have:=m.heap.map.lt;omega) (by have:=m.ff.lt;omega) ((o.alloc _).alloc _)
 case rest=>
  obtain⟨mb,i0,eW,he,hf,hi,hl,rfl,a2,a1,ab,F,cA,al,am,R⟩:=hcut;obtain⟨w4,cL⟩:=nm wc;rw[cL]at a2 a1 ab F R⊢;have et:=Z a2;have N:Hid (Ch ag w1 w4):=Z (bv.trans R.af);have gs:=Z cA;have fn:=Z a1;have gr:=Z ab;have fd:=Z F;have fr:=Z (And.intro al am);have fb:=Z R;clear a2 a1 ab F cA al am R cL;have ex:=Z (fun(w:World) pre rows post (h:NM w mb pre rows post) (r:NR pre post eW n 0 0)=>lG h r);have dC:=Z (ex w4.drew _ _ _ et.drew ⟨rfl,rfl,rfl,c0.1,c0.2,by omega,by omega,by omega,by omega⟩);have i6:=((V.ch N (fun h=>h)).cell (i:=1) rfl);have i7:=((z.ch N (fun h=>h)).cell (i:=2) rfl);have i8:=((z.ch N (fun h=>h)).cell (i:=3) rfl);have hu:((tt:Int)<17+8*(n:Int)+d+f+1):=by have:=eC.out;omega
  have hv:(d:Int)<=65536:=by have:=c1.out;omega
  have hn:(f:Int)<=65536:=by have:=c1.out;omega
  go_wp2_with fail
  have i3:IntKind.i64.wrap (17+8*(n:Int)+d)=17+8*(n:Int)+d:=IntWalk.i64_in _ (by omega);have i4:IntKind.i64.wrap (17+8*(n:Int)+d+f)=17+8*(n:Int)+d+f:=IntWalk.i64_in _ (by omega);have i5:IntKind.i64.wrap (17+8*(n:Int)+d+f+1)=17+8*(n:Int)+d+f+1:=IntWalk.i64_in _ (by omega);refine wp_region_still (by kernel_rfl) (by kernel_rfl) ?_;try simp only[]
  repeat still_step
  still_call (bZ dC)
  repeat still_step
  try refine wpStill_nil ?_
  go_wp2_with (go_at_call 49;refine(e8 _ _ _ _).mono ?_;rintro e w' ⟨rfl,rfl⟩)
  any_goals (first|(exfalso;omega)|skip)
  go_ret2;exact⟨⟨_,rfl,aq.mk _ _⟩,(G.trans N.drew).alloc _⟩
theorem sJ{l:List aV}{loop:Int}{calls:List br}(a:sB l loop calls){P:fc}(c:iy P){wk b:Int}(h:iz P wk b=true):oC (oz l loop calls P):=by
 unfold iz at h;rw[Bool.and_eq_true]at h;exact vq a.ok h.1 (by have:=a.c1;omega) (lM a.u) (Dw P c)
theorem sK{l:List aV}{loop:Int}{calls:List br}{P:fc}{wk a:Int}(h:iz P wk a=true):Inv 1 0 (hC (oz l loop calls P) (ct wk a).1.toNat (ct wk a).2.toNat):=by
 unfold iz at h;rw[Bool.and_eq_true,decide_eq_true_eq]at h;obtain⟨d,e,f,g⟩:=kU wk a;refine sy _ _ _ (by omega) (by omega) (by omega) ?_;show 17+8*(ct wk a).1.toNat+(3:Int).toNat+(1:Int).toNat<=(ct wk a).2.toNat
 have b:(3:Int).toNat=3:=rfl;have c:(1:Int).toNat=1:=rfl;omega
def sL(C:KC)(ok:Bool)(n tt:Nat)(w:World)(e:Ending)(w':World):Prop:=
 ∃pv a,e=.returned (.tuple #[.pointer pv,a])/\Ch ag w w'/\((ok=false/\pv=none/\∃t x,a=.iface t x)∨(ok=true/\∃mb χ,pv=some ⟨mb,0,none⟩/\a=.nilIface/\MS w' χ mb C (hC C n tt)/\∀i,χ i≠ .no->w.heap.size<=i))
theorem sL.no{C:KC}{ok:Bool}{n tt:Nat}{w:World}{e:Ending}{w':World}(a:ok=false)(h:z2 w e w'):sL C ok n tt w e w':=by
 obtain⟨⟨d,rfl,c,f,rfl⟩,b⟩:=h;exact⟨_,_,rfl,b,Or.inl ⟨a,rfl,_,_,rfl⟩⟩
theorem sL.back{C:KC}{ok:Bool}{n tt:Nat}{w w1:World}{e:Ending}{w':World}(c:Ch ag w w1)(h:sL C ok n tt w1 e w'):sL C ok n tt w e w':=by
 obtain⟨pv,a,b,d,f⟩:=h;exact⟨pv,a,b,c.trans d,f.imp_right fun⟨k,mb,χ,k1,k2,k3,j⟩=>⟨k,mb,χ,k1,k2,k3,fun i g=>Nat.le_trans c.size (j i g)⟩⟩
theorem sL.yes{C:KC}{ok:Bool}{n tt:Nat}{w:World}{e:Ending}{w':World}(a:ok=true)(h:Dn C n tt w e w'):sL C ok n tt w e w':=by
 obtain⟨mb,χ,rfl,d,c,b⟩:=h;exact⟨_,_,rfl,b,Or.inr ⟨a,mb,χ,rfl,rfl,d,c⟩⟩
theorem z8{l:List aV}{loop:Int}{calls:List br}(b:sB l loop calls)(P:fc)(wk a:Int)(y z A:Value){B1 B2 B3:Nat}(w:World)
 (p:w.ownsRow B1 121 7 y l.length (l.flatMap dg)) (q:w.ownsRow B2 49 6 z calls.length (calls.flatMap br.cells)) (r:w.ownsRow B3 121 7 A (bR P).length ((bR P).flatMap dg))
 (m:w.cell? (0,0)=some (.iface 335 (.agg #[(1,40)]))):
 Calls prog 11 #[.agg #[.int .i64 (ct wk a).1,.int .i64 (ct wk a).2],.agg #[y,loop,z],.agg #[A,.int .i64 0,.int .i64 3,.int .i64 1]] w (sL (oz l loop calls P) (iz P wk a) (ct wk a).1.toNat (ct wk a).2.toNat w):=by
 obtain⟨B,C,D,E⟩:=kU wk a;obtain⟨n,s⟩:=Int.eq_ofNat_of_zero_le (show 0<=(ct wk a).1 by omega);obtain⟨tt,t⟩:=Int.eq_ofNat_of_zero_le (show 0<=(ct wk a).2 by omega);have o:calls.length<=100000:=by have:=b.c1;omega
 unfold iz;rw[s]at B C;rw[t]at D E;rw[s,t];rw[Int.toNat_natCast,Int.toNat_natCast];have d:=aS p (hU b.ok).1;have f:=aS q b.c0;have g:=aS r (z7 P);obtain⟨i,a1,I,rfl,_,v,_,d,_⟩:=d;obtain⟨j,a2,u,rfl,_,H,_,f,_⟩:=f;obtain⟨k,a3,J,rfl,_,x,_,g,_⟩:=g;by_cases c:ei (bR P) 0 3 1=true
 ·by_cases G:17+8*n+3+1+1<=tt
  ·refine(zT n tt (by omega) (by omega) l loop calls (bR P) 0 3 1 o b.c0 b.ok c G _ _ _ w p q r m).mono fun e w' h=> .yes ?_ h
   rw[c,Bool.true_and,decide_eq_true_eq];omega
  ·refine(qO n tt (by omega) (by omega) l i a1 loop calls j a2 (bR P) k a3 0 3 1 v H x o b.c0 w (hV d) (hV g) ⟨u,f⟩ b.ok c (by omega) m).mono fun e w' h=> .no ?_ h
   rw[c,Bool.true_and,decide_eq_false_iff_not];omega
 ·have F:ei (bR P) 0 3 1=false:=by rwa [Bool.not_eq_true]at c
  refine(uh n tt l (some ⟨i,0,none⟩) a1 loop calls (some ⟨j,0,none⟩) a2 (bR P) (some ⟨k,0,none⟩) a3 0 3 1 v x o w (fun _=>⟨i,rfl,hV d⟩) (fun _=>⟨k,rfl,hV g⟩) (fun _=>⟨j,u,rfl,f⟩) (fun h=>c h.2.2.2.2.2) m).mono fun e w' h=> .no ?_ h
  rw[F,Bool.false_and]
end Go.Proofs.YtfnilkpkogipfaaGreatDoor
