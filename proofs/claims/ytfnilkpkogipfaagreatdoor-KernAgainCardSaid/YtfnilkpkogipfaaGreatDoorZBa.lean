import Derived.Test.YtfnilkpkogipfaaGreatDoorZAy
set_option linter.all false
set_option maxRecDepth 100000
set_option maxHeartbeats 8000000
namespace Go.Proofs.YtfnilkpkogipfaaGreatDoor
open Go.RowKit Go.Proofs.Tryz
theorem fM.ints{w w':World}{d f n:Nat}{k j m:Value}{S:WS}{q:List Value}(h:fM w d d k j S)(b:w.ownsRow f 3 1 m n q)(l:(∀g,k.ownBlock=some g->g<f)/\∀g,j.ownBlock=some g->g<f)(c:Ch (fun i=>m.ownBlock=some i) w w'):fM w' d d k j S:=by
 obtain⟨p,h⟩:=h;refine⟨p,h.row.ch c (fun e=>bl b h.row (by decide) e),h.hB,aj h.code c (fun g a e=> ?_),aj h.work c (fun g a e=> ?_),aj h.aQ c (fun g a e=> ?_),h.ne⟩
 ·obtain⟨_,cs,o⟩:=bS h.code a
  exact bl b o (by decide) e
 ·have:=(bS b e).1;have:=l.1 g a;omega
 ·have:=(bS b e).1;have:=l.2 g a;omega
theorem rq.GY{w:World}{B b g n cap:Nat}{z u:Value}{S:WS}{i:Nat}{X:aR}(h:rq w B b (.slice (some (g,0)) n cap) z u S)(m:n=S.code.length)(D:S.code[i]?=some X)(v:Int):
 rq (w.setCell ⟨g,i*7+4,none⟩ (.int .u64 v)) B b (.slice (some (g,0)) n cap) z u {S with code:=S.code.set i {X with v:=v}}/\Below B w (w.setCell ⟨g,i*7+4,none⟩ (.int .u64 v))/\bb w (w.setCell ⟨g,i*7+4,none⟩ (.int .u64 v)):=by
 obtain⟨G,cs,j⟩:=bS h.code (k:=g) rfl;have a:Ch (aL g) w (w.setCell ⟨g,i*7+4,none⟩ (.int .u64 v)):=(Ch.refl _ _).only _ _;have q:∀{s:Nat} {r:Value} {n:Nat} {A:List Value},w.ownsRow B 3 s r n A->(w.setCell ⟨g,i*7+4,none⟩ (.int .u64 v)).ownsRow B 3 s r n A:=fun p=>aj p a (fun k l e=>by have d:k=g:=e;subst d;exact bl p j (by decide) l)
 have o:=h.code;rw[<-m]at o;have F:=hU (enc:=b3) o ev D 4 (by omega) rfl (v:=.int .u64 v) (y:={X with v:=v}) rfl m;refine⟨⟨h.row.ch a (fun e=>by have d:b=g:=e;subst d;exact absurd (e3 h.row j) (by decide)),h.hB,?_,q h.work,q h.aQ,h.ne⟩,a.below (by have:=h.row.lt;have:=h.hB;omega) (fun i E=>by have e:i=g:=E;omega),bb.fQ a (fun k x t f l c=>by have e:k=g:=l;subst e;rw[j]at c;injection c with c;injection c with _ C _;exact Or.inr C.symm)⟩;show(w.setCell ⟨g,i*7+4,none⟩ (.int .u64 v)).ownsRow B 121 7 (.slice (some (g,0)) n cap) (S.code.set i {X with v:=v}).length ((S.code.set i {X with v:=v}).flatMap b3)
 rw[List.length_set,<-m];exact F
structure l8(S:WS)(i:Nat):Prop where
 wl:S.work.length=i
 hl:S.aQ.length=i
 w:∀x∈S.work,0<=x/\x<S.code.length
 h:∀y∈S.aQ,0<=y/\y<(i:Int)
theorem l8.next{S:WS}{i:Nat}(h:l8 S i):l8 (kt (cg S 1 [0,(i:Int)]) 3 i) (i+1):=by
 obtain⟨b,j,k⟩:=g2 [0,(i:Int)] S 0;have l:(kt (cg S 1 [0,(i:Int)]) 3 i).code.length=S.code.length+3:=by
  show((fR S [0,(i:Int)] 0).code++[_]).length=_
  rw[List.length_append,b];rfl
 have d:(kt (cg S 1 [0,(i:Int)]) 3 i).work=S.work++[(S.code.length:Int)]:=by
  show(fR S [0,(i:Int)] 0).work++[(((fR S [0,(i:Int)] 0).code++[_]).length:Int)-3]=_
  rw[j,List.length_append,b]
  congr 2
  simp
  omega
 have c:(kt (cg S 1 [0,(i:Int)]) 3 i).aQ=S.aQ++[(i:Int)]:=by
  show(fR S [0,(i:Int)] 0).aQ++[(i:Int)]=_
  rw[k]
 refine⟨by rw[d,List.length_append,h.wl];rfl,by rw[c,List.length_append,h.hl];rfl,fun x f=> ?_,fun y g=> ?_⟩
 ·rw[d]at f
  rcases List.mem_append.1 f with a|a
  ·have:=h.w x a;omega
  ·have e:=List.mem_singleton.1 a;omega
 ·rw[c]at g
  rcases List.mem_append.1 g with a|a
  ·have:=h.h y a;omega
  ·have e:=List.mem_singleton.1 a;omega
theorem oW:∀(n:Nat) (S:WS) (i:Nat),l8 S i->l8 (hJ S i n) (i+n)
 |0,_,_,h=>h
 |n+1,S,i,h=>by
  have:=oW n _ _ h.next;rw[show i+1+n=i+(n+1)by omega]at this;exact this
theorem tD(a:List Int)(once:Int):∀(l r:List Int) (C:List aR),(pd a once l r C).length=C.length
 |[],_,_=>rfl
 |_::_,[],_=>rfl
 |x::l,y::r,C=>by
  rw[pd,tD a once l r];split
  ·rw[List.length_set]
  ·rfl
theorem CQ(S:WS)(x:fl):S.code.length<=(cI S x).code.length:=by
 have b:∀(num:Int) (a:List Int),S.code.length<=(cg S num a).code.length:=fun num a=>by
  obtain⟨c,d,e⟩:=g2 a S 0;show _<=((fR S a 0).code++[_]).length
  rw[List.length_append,c];omega
 unfold cI;split
 ·simp only[iV,fK,List.length_append];omega
 ·split
  ·exact b _ _
  ·split
   ·exact b _ _
   ·exact b _ _
theorem m':∀(l:List fl) (S:WS),S.code.length<=(l.foldl cI S).code.length
 |[],_=>Nat.le_refl _
 |x::l,S=>Nat.le_trans (CQ S x) (m' l (cI S x))
theorem rk(S:WS)(X:aR):S.code.length<=(iV S X).code.length:=by simp only[iV,List.length_append];omega
theorem p4:∀(l:List (List fl)) (S:WS) (b:List Int),S.code.length<=(e' S b l).1.code.length
 |[],_,_=>Nat.le_refl _
 |a::l,S,b=>Nat.le_trans (Nat.le_trans (m' (a.take 40) S) (rk _ _)) (p4 l _ _)
def il(l:List aR):Prop:=∀X∈l,aI X.v
theorem il.app{l:List aR}(h:il l){X:aR}(b:aI X.v):il (l++[X]):=fun Y c=>by
 rcases List.mem_append.1 c with a|a
 ·exact h Y a
 ·rw[List.mem_singleton.1 a];exact b
theorem wo:∀(c:List Int) (S:WS) (i:Nat),il S.code->(∀a∈c,aI a)->il (fR S c i).code
 |[],_,_,h,_=>h
 |a::l,S,i,h,d=>wo l (fK S i a) (i+1) (h.app (X:=⟨1,i,0,0,a,0,0⟩) (d a (List.mem_cons_self ..))) (fun b hb=>d b (List.mem_cons_of_mem _ hb))
theorem na(S:WS)(num:Int)(b:List Int)(h:il S.code)(c:∀a∈b,aI a):il (cg S num b).code:=
 il.app (X:=⟨22,0,0,0,IntKind.u64.wrap num,0,0⟩) (wo b S 0 h c) (cx _)
theorem l9{n:Int}(a:0<=n)(b:n<100):aI n:=⟨a,by omega⟩
theorem lr{a:Int}(n:Int)(b:0<n)(c:n<=100):aI (a%n):=l9 (Int.emod_nonneg _ (by omega)) (by have:=Int.emod_lt_of_pos a b;omega)
theorem AY{a:Int}(n:Int)(b:0<n)(c:n<=90):aI (1+a%n):=l9 (by have:=Int.emod_nonneg a (show n≠0 by omega);omega) (by have:=Int.emod_lt_of_pos a b;omega)
theorem lu{x:fl}(h:iU x):aI (cellOf x):=by
 unfold cellOf;split
 ·exact h.a
 ·exact lr 4 (by decide) (by decide)
theorem EW(b:Int):aI (gW b):=by
 unfold gW;split
 ·exact⟨by decide,by decide⟩
 ·exact lr 60 (by decide) (by decide)
theorem EX(S:WS)(x:fl)(c:iU x)(h:il S.code):il (cI S x).code:=by
 unfold cI;split
 ·exact((h.app (X:=⟨1,2,0,0,x.b%5,0,0⟩) (lr 5 (by decide) (by decide))).app (X:=⟨1,3,0,0,x.c%5,0,0⟩) (lr 5 (by decide) (by decide))).app (X:=⟨17+ew x-900,2,-1,if ew x=904 then 3 else 0,cellOf x,0,0⟩) (lu c)
 ·split
  ·refine na _ _ _ h (fun a b=> ?_)
   simp only[List.mem_cons,List.not_mem_nil,or_false]at b;rcases b with rfl|rfl|rfl|rfl
   ·exact lu c
   ·exact lr 3 (by decide) (by decide)
   ·exact EW _
   ·exact AY 3 (by decide) (by decide)
  ·split
   ·refine na _ _ _ h (fun a b=> ?_)
    simp only[List.mem_cons,List.not_mem_nil,or_false]at b;rcases b with rfl|rfl|rfl
    ·exact lu c
    ·exact lr 4 (by decide) (by decide)
    ·exact AY 3 (by decide) (by decide)
   ·refine na _ _ _ h (fun a b=> ?_)
    simp only[List.mem_cons,List.not_mem_nil,or_false]at b;rcases b with rfl|rfl|rfl|rfl
    ·exact lu c
    ·exact lr 3 (by decide) (by decide)
    ·exact lr 4 (by decide) (by decide)
    ·exact lr 3 (by decide) (by decide)
theorem rl:∀(l:List fl) (S:WS),(∀x∈l,iU x)->il S.code->il (l.foldl cI S).code
 |[],_,_,h=>h
 |x::l,S,a,h=>rl l (cI S x) (fun y b=>a y (List.mem_cons_of_mem _ b)) (EX S x (a x (List.mem_cons_self ..)) h)
theorem vc:aI l7.v:=⟨by decide,by decide⟩
theorem AZ:∀(n:Nat) (S:WS) (i:Nat),i+n<=90->il S.code->il (hJ S i n).code
 |0,_,_,_,h=>h
 |n+1,S,i,c,h=>AZ n _ (i+1) (by omega) (by
  refine na S 1 [0,(i:Int)] h (fun a b=> ?_);simp only[List.mem_cons,List.not_mem_nil,or_false]at b;rcases b with rfl|rfl
  ·exact⟨by decide,by decide⟩
  ·exact l9 (by omega) (by omega))
theorem tE:∀(l:List (List fl)) (S:WS) (d:List Int),(∀a∈l,∀x∈a,iU x)->il S.code->il (e' S d l).1.code
 |[],_,_,_,h=>h
 |a::l,S,d,c,h=>tE l _ _ (fun b hb=>c b (List.mem_cons_of_mem _ hb)) ((rl (a.take 40) S (fun x e=>c a (List.mem_cons_self ..) x (List.mem_of_mem_take e)) h).app vc)
theorem A0(b:List Int)(once:Int):∀(l r:List Int) (C:List aR),il C->il (pd b once l r C)
 |[],_,_,h=>h
 |_::_,[],_,h=>h
 |x::l,y::r,C,h=>by
  rw[pd];refine A0 b once l r _ ?_;split
  ·intro X c
   rcases List.mem_or_eq_of_mem_set c with a|a
   ·exact h X a
   ·rw[a];exact cx _
  ·exact h
theorem EY(P:fL)(b:jA P):∀x∈bT P,aI x.v:=by
 unfold bT;refine A0 _ _ _ _ _ ?_;refine il.app (rl _ _ (fun x c=>b.once x (List.mem_of_mem_take c)) ?_) vc;refine tE _ _ _ (fun a e=>b.others a (List.mem_of_mem_take e)) ?_;refine il.app (rl _ _ (fun x c=>b.first x (List.mem_of_mem_take c)) ?_) vc;exact AZ _ _ 0 (by omega) (fun X d=>by cases d)
theorem A1(P:fL):0<(bT P).length:=by
 unfold bT;dsimp only;rw[tD];show 0<(_++[l7]).length
 simp
def jB(P:fL)(wk a:Int):Bool:=dB (bT P) 0 3 1&&decide (17+8*(dh wk a).1+3+1+1<=(dh wk a).2)
def p5(l:List aR)(loop:Int)(calls:List bB)(P:fL):KC:=tn l loop calls (bT P) 0 3 1
def wu(C:List aR)(w:World)(e:Ending)(w':World):Prop:=∃a,e=.returned (.agg #[a,.int .i64 0,.int .i64 3,.int .i64 1])/\w'.ownsRow w.heap.size 121 7 a C.length (C.flatMap b3)/\Ch ag w w'
structure A5(w1 wc:World)(wb B6:Nat)(vp vw vh:Value)(S:WS)(ps:List Int)(S1:WS)(k:Nat):Prop where
 w:fM wc wb wb vw vh S
 b:Below wb w1 wc
 p:wc.ownsRow B6 3 1 vp k (ps.flatMap jr)
 c:S.code.length<=219+201*k
 wk:S.work=S1.work
 wh:S.aQ=S1.aQ
 n:ps.length=k
 sz:B6<=wc.heap.size
def CS(w:World)(b:Nat)(S:WS):Prop:=∃c a,fM w b b c a S
theorem CS.af{w w':World}{b:Nat}{S:WS}(h:CS w b S)(c:Ch ag w w'):CS w' b S:=by
 obtain⟨d,a,h⟩:=h;exact⟨d,a,h.af c⟩
theorem A6(P:fL)(s9:jA P)(p:Value)(w:World)(Ih:gd w w.heap.size p P):Calls prog 10 #[p,.int .i64 16] w (wu (bT P) w):=by
 obtain⟨a0,ad,J3,J4,J5,rfl,bw,cf,he⟩:=Ih;have pc:=Z bw;have qc:=Z cf;have pa:=Z he;have mc:=Z s9;obtain⟨a1,gt,rfl,-,-⟩:=bw;obtain⟨a2,c9,rfl,-,-⟩:=cf;obtain⟨a3,cb,rfl,-,-⟩:=he;obtain⟨ax,k0⟩:=nm P.first.length;obtain⟨T,k4⟩:=nm P.others.length;obtain⟨bi,k5⟩:=nm P.once.length;rw[k0,k4,k5];rw[k0]at pc;rw[k4]at qc;rw[k5]at pa;have pu:=Z k0;have gk:=Z k4;have pv:=Z k5;obtain⟨eA,s6⟩:=nm P.c';rw[s6];clear s9 k0 k4 k5 s6;obtain⟨f,dC⟩:=nm w.heap.size;have c7:=Z dC;go_in
 go_wp2_with fail
 obtain⟨w1,dN⟩:=nm (((w.alloc (.cells #[.slice a0 eA ad,.slice a1 ax gt,.slice a2 T c9,.slice a3 bi cb,.bool P.mM] 28)).alloc (.cells #[.slice none 0 0,.int .i64 0,.int .i64 0,.int .i64 0] 36)).alloc (.cells #[.slice none 0 0,.int .i64 16,.slice none 0 0,.slice none 0 0,.slice none 0 0] 111));have gc:Hid (Ch ag w w1):=Z (by rw[<-dN];exact(((Ch.refl _ _).alloc _).alloc _).alloc _);have es:Hid (Row w1 f 28 [.slice a0 eA ad,.slice a1 ax gt,.slice a2 T c9,.slice a3 bi cb,.bool P.mM]):=Z (by rw[<-dN,<-dC];exact((Row.new w _ _).alloc _).alloc _);have qm:Hid (Row w1 (f+1) 36 [.slice none 0 0,.int .i64 0,.int .i64 0,.int .i64 0]):=Z (by
  rw[<-dN,<-dC];have r:=Row.new (w.alloc (.cells #[.slice a0 eA ad,.slice a1 ax gt,.slice a2 T c9,.slice a3 bi cb,.bool P.mM] 28)) #[.slice none 0 0,.int .i64 0,.int .i64 0,.int .i64 0] 36;rw[World.size_alloc]at r;exact r.alloc _)
 have rd:Hid (CS w1 (f+2) ⟨[],[],[]⟩):=Z (by
  have r:=Row.new ((w.alloc (.cells #[.slice a0 eA ad,.slice a1 ax gt,.slice a2 T c9,.slice a3 bi cb,.bool P.mM] 28)).alloc (.cells #[.slice none 0 0,.int .i64 0,.int .i64 0,.int .i64 0] 36)) #[.slice none 0 0,.int .i64 16,.slice none 0 0,.slice none 0 0,.slice none 0 0] 111;rw[World.size_alloc,World.size_alloc,dN,dC]at r;exact⟨_,_,_,r,Nat.le_refl _,World.ownsRow_nil _ _ _ _,World.ownsRow_nil _ _ _ _,World.ownsRow_nil _ _ _ _,(fun g N=>by cases N)⟩)
 have ex:Hid (w1.heap.size=f+3):=Z (by rw[<-dN,<-dC];simp);rw[dN];obtain⟨ap,lc⟩:=nm (f+1);obtain⟨a,ne⟩:=nm (ap+1);have r':f+2=a:=by omega
 rw[lc,ne];rw[lc]at qm;rw[r']at rd;have ex:Hid (w1.heap.size=a+1):=Z (by have:=ex.out;omega);have av:Hid (f+1=ap/\ap+1=a):=Z ⟨lc,ne⟩;clear dN dC lc ne r';with_reducible refine(yG _).mono ?_
 rintro e w2 ⟨Iu,Iy,rfl,hl⟩;have i5:=Z hl;clear hl;have HB:=Z (rd.af i5);have FC:Hid (Below a w1 w2):=Z (i5.below (by have:=ex.out;omega) (fun _ hb=>False.elim hb));have x0:w2.cell? (f,0)=some (.slice a0 eA ad):=(es.ch i5 (fun e=>e)).cell rfl;go_upto_block 0 with fail
 go_cut [] (fun wc=>w2=wc)
 case first=>
  go_wp2
  go_loop [7] (fun i=>i=.int .i64 0) (fun _=>0)
  case atStart=>rfl
  case round=>
   obtain rfl:=hrel;by_cases I1:0<eA
   all_goals
    go_wp2
    go_meet
    rfl
 case rest=>
  obtain rfl:=hcut;have x2:w2.cell? (f,2)=some (.slice a2 T c9):=(es.ch i5 (fun e=>e)).cell rfl;obtain⟨K,s3⟩:=nm (min T 6);have IA:K<=6:=by omega
  have If:(if(6:Int)<(T:Int)then(6:Int)else(T:Int))=(K:Int):=by split<;>omega
  have gf:=Z s3;clear s3;clear x0;go_upto_block 2 with fail
  clear If x2;obtain⟨o,sb⟩:=nm (hJ ⟨[],[],[]⟩ 0 K);have mk:=Z sb;clear sb;go_cut [] (fun wc=>CS wc a o/\Below a w1 wc/\o.code.length<=18/\o.work.length<=6/\o.aQ.length<=6)
  case first=>
   go_wp2
   go_loopw [11] (fun i wr=>∃(k:Nat) (S:WS),k<=K/\i=.int .i64 k/\CS wr a S/\Below a w1 wr/\hJ S k (K-k)=o/\S.code.length<=3*k/\S.work.length<=k/\S.aQ.length<=k) (fun i _=>K-(intOf i).toNat)
   case atStart=>exact⟨0,⟨[],[],[]⟩,by omega,rfl,HB,FC,mk,by simp,by simp,by simp⟩
   case round=>
    obtain⟨k,S,lb,rfl,d,hb,m,c2,u,z⟩:=hrel;have H:=Z d;have F:=Z hb;have c6:=Z m;have ws:=ex.out;have Ii:=hb.size;clear d hb m;by_cases G:k<K
    ·have mb:Hid (hJ (kt (cg S 1 [0,(k:Int)]) 3 k) (k+1) (K-(k+1))=o):=Z (by
      have h:=c6.out;rw[show K-k=(K-(k+1))+1 from by omega,hJ]at h;exact h)
     obtain⟨CM,CL,hB⟩:=H.out;have HG:=Z hB;clear hB;have ih:=Z (show Calls prog 46 #[(a,0),.int .i64 1,.slice (some ⟨wr.heap.size,0,none⟩) 2 2] (wr.alloc (.cells #[.int .u64 0,.int .u64 k] 56)) (gO (cg S 1 [0,(k:Int)]) a a CM CL (wr.alloc (.cells #[.int .u64 0,.int .u64 k] 56)))from eH S 1 [0,(k:Int)] (by simp) wr.heap.size 2 a a (by simp) _ (Row.new wr _ _) (HG.af ((Ch.refl _ _).alloc _)) (by simp;omega) (by omega));obtain⟨HK,HL,HM⟩:=g2 [0,(k:Int)] S 0;have eW:(cg S 1 [0,(k:Int)]).code.length<=3*k+3:=by
      show((fR S [0,(k:Int)] 0).code++[_]).length<=_
      rw[List.length_append,HK];simp;omega
     have x7:(cg S 1 [0,(k:Int)]).work=S.work:=HL;have tr:(cg S 1 [0,(k:Int)]).aQ=S.aQ:=HM;go_wp2_with fail
     with_reducible refine ih.out.mono ?_
     rintro e w3 ⟨rfl,hu,tb,_⟩;have i9:Hid (Below a w1 w3):=Z ((F.trans ((show Ch ag wr _ from(Ch.refl _ _).alloc _).below (by omega) (fun _ hb=>False.elim hb))).trans tb);have Hq:=Z (vb _ 3 k (by omega) a a w3 hu (by have:=i9.size;omega) (by omega) (by rw[x7];omega) (by rw[tr];omega));clear hu tb;go_wp2_with fail
     with_reducible refine Hq.out.mono ?_
     rintro e w4 ⟨rfl,hv,hf,_⟩;have ms:=Z hv;have lt:=Z (i9.trans hf);clear hv hf;go_wp2
     go_roundw
     case rel=>exact⟨k+1,_,by omega,by go_num,ms,lt,mb,by show(cg S 1 [0,(k:Int)]).code.length<=_;omega,by show((cg S 1 [0,(k:Int)]).work++[_]).length<=_;rw[List.length_append,x7];simp;omega,by show((cg S 1 [0,(k:Int)]).aQ++[_]).length<=_;rw[List.length_append,tr];simp;omega⟩
     case measure=>simp[intOf];omega
    ·have dr:k=K:=by omega
     have J:Hid (S=o):=Z (by
      have h:=c6.out;rw[dr,Nat.sub_self]at h;exact h)
     clear dr;go_wp2
     go_meet
     rw[<-J];exact⟨H,F,by omega,by omega,by omega⟩
  case rest=>
   obtain⟨d,hb,c2,u,z⟩:=hcut;obtain⟨w3,hu⟩:=nm wc;rw[hu]at d hb⊢;have HC:=Z d;have i9:=Z hb;have H6:=Z (And.intro c2 (And.intro u z));clear hu d hb c2 u z;obtain⟨ab,sl⟩:=nm ((P.first.take 40).foldl cI o);have mm:=Z sl;clear sl;go_upto_block 4 with fail
   go_cut [] (fun wc=>CS wc a ab/\Below a w1 wc/\ab.code.length<=218/\ab.work=o.work/\ab.aQ=o.aQ)
   case first=>
    go_wp2
    go_loopw [12] (fun i wr=>∃(k:Nat) (S:WS),k<=40/\k<=ax/\i=.int .i64 k/\CS wr a S/\Below a w1 wr/\((P.first.take 40).drop k).foldl cI S=ab/\S.code.length<=18+5*k/\S.work=o.work/\S.aQ=o.aQ) (fun i _=>40-(intOf i).toNat)
    case atStart=>exact⟨0,o,by omega,by omega,rfl,HC,i9,mm,H6.1,rfl,rfl⟩
    case round=>
     obtain⟨k,S,lb,Ie,rfl,d,hb,m,c2,u,z⟩:=hrel;have H:=Z d;have F:=Z hb;have A:=Z (And.intro u z);have ws:=ex.out;have Ii:=hb.size;have gr:Hid (Below f w wr):=Z ((gc.below (by rw[c7];exact Nat.le_refl _) (fun _ hb=>False.elim hb)).trans (hb.mono (by have:=av.out;omega)));have x1:wr.cell? (f,1)=some (.slice a1 ax gt):=(hb.cell (p:=⟨f,1,none⟩) (by have:=av.out;show f<a;omega)).trans (es.cell rfl);clear d hb u z;by_cases G:k<40/\k<ax
     ·obtain⟨v1,v2⟩:=G
      have cm:k<P.first.length:=(by have:=pu.out;omega);obtain⟨x,q⟩:=nm (P.first[k]);have al:P.first[k]?=some x:=(by rw[List.getElem?_eq_getElem cm,q]);have go:=Z (mc.first x (List.mem_of_getElem? al));have W:(P.first.take 40).drop k=x::(P.first.take 40).drop (k+1):=by
       rw[List.drop_eq_getElem_cons (by rw[List.length_take];omega)]
       congr 1
       rw[List.getElem_take];exact q
      rw[W]at m;have c6:Hid (((P.first.take 40).drop (k+1)).foldl cI (cI S x)=ab):=Z m;have cL:=pc.out;rw[c7]at cL;obtain⟨-,th,g,AC,rfl,N,f0,f1,f2,f3,f4⟩:=(cL.below gr).EV al;obtain⟨CM,CL,hB⟩:=H.out;have ge:=Z (rj x go S a a wr hB (by omega) (by omega));clear hB;obtain⟨B1,cr,cA⟩:=oV S x;have c8:=Z (And.intro cr cA);have ut:(k:Int)<ax:=(by omega);clear m W al q cm cL N cr cA;go_wp2_with fail
      with_reducible refine ge.out.mono ?_
      rintro e w4 ⟨rfl,hv,hf,_⟩;have ms:Hid (CS w4 a (cI S x)):=Z ⟨_,_,hv⟩;have lt:=Z (F.trans hf);clear hv hf;go_wp2
      go_roundw
      case rel=>exact⟨k+1,cI S x,by omega,by omega,by go_num,ms,lt,c6,by omega,c8.1.trans A.1,c8.2.trans A.2⟩
      case measure=>simp[intOf];omega
     ·have J:Hid (S=ab):=Z (by
       rw[List.drop_of_length_le (by rw[List.length_take];have:=pu.out;omega)]at m;exact m)
      have hm:40<=k∨(k<40/\ax<=k):=(by omega);clear m G;rcases hm with hi|⟨hi,hl⟩
      ·by_cases s1:k<ax
       all_goals
        go_wp2
        go_meet
        rw[<-J];exact⟨H,F,by omega,A.1,A.2⟩
      ·go_wp2_with fail
       go_meet
       rw[<-J];exact⟨H,F,by omega,A.1,A.2⟩
   case rest=>
    obtain⟨d,hb,c2,u,z⟩:=hcut;obtain⟨fd,x5⟩:=nm wc;rw[x5]at d hb⊢;have HD:=Z d;have FL:=Z hb;have pm:=Z (And.intro u z);have ws:=ex.out;have IS:=hb.size;clear x5 d hb u z;go_upto_block 6 with fail
    go_cut [] (fun wc=>fd=wc)
    case first=>
     go_wp2
     go_loop [13] (fun i=>i=.int .i64 0) (fun _=>0)
     case atStart=>rfl
     case round=>
      obtain rfl:=hrel;by_cases I1:0<K
      all_goals
       go_wp2
       go_meet
       rfl
    case rest=>
     obtain rfl:=hcut;obtain⟨ob,tt,nw,nx,nC⟩:=info_parts ij;have lw:=Z tt;clear tt;obtain⟨R,Q,ll,ck⟩:=HD.out;have Hw:=Z ck;have am:fd.cell? (a,0)=some ll:=ck.row.cell rfl;have cd:=ck.row.free 0;have wh:=ck.row.lt;have x9:ll.ownBlock≠some a:=bl ck.code ck.row (by decide);have ch:=ck.code;have I8:a<=fd.heap.size:=(by omega);clear ck;go_wp2_with (at_builtin;refine wpList_append_lies _ rfl _ _ _ rfl a 121 ob _ 7 56 underlying30 lw nw nx nC rfl (by omega) ll ab.code.length (ab.code.flatMap b3) rfl (ch.alloc _) ⟨fd.heap.size,0,none⟩ 1 1 [.int .i64 16,.int .i64 0,.int .i64 0,.int .i64 0,.int .u64 0,.int .i64 0,.int .i64 0] rfl rfl (World.news_of_block (cs:=#[.int .i64 16,.int .i64 0,.int .i64 0,.int .i64 0,.int .u64 0,.int .i64 0,.int .i64 0]) (t:=121) (fr:=(0,0)) (heap_alloc_new fd _)) (by simp[Value.oneCell']) (by omega) (by unfold maxLen;omega) (by omega) (by simp;omega) (fd.heap.size+1) (by simp) ?_)
     intro H' HO p1 v6 l0 I3 IL;have ec:p1.cell? (a,0)=some ll:=(l0.cell_far ⟨a,0,none⟩ (by simp;omega) (Ne.symm x9)).trans (by simp[go_sem,World.cell?_alloc_past,wh,am]);have le:p1.frozen? (a,0)=false:=(l0.frozen_far ⟨a,0,none⟩ (by simp;omega) (Ne.symm x9)).trans (by simp[go_sem,World.frozen?_alloc_past,wh,cd]);have lo:=Z (Hw.iI I8 l7 v6 (au l0));clear v6 l0 I3 ch am cd;go_upto_block 8 with fail
     obtain⟨c5,x6⟩:=nm (p1.setCell (a,0) (.slice (some (H',0)) (ab.code.length+1) HO));rw[x6]at lo⊢;obtain⟨cS,eL⟩:=nm (iV ab l7);have rb:Hid (fM c5 a a R Q cS):=Z (by rw[<-eL];exact lo.1);have p3:Hid (Below a w1 c5):=Z (FL.trans lo.2.1);have l':Hid (cS.code.length<=219/\cS.work=o.work/\cS.aQ=o.aQ):=Z ⟨by rw[<-eL];simp[iV];omega,by rw[<-eL];exact pm.1,by rw[<-eL];exact pm.2⟩;have qr:=Z eL;clear x6 ec le eL;obtain⟨Iq,wn⟩:=nm (e' cS [] (P.others.take 6));obtain⟨I,bv⟩:=Iq;have md:=Z wn;have IT:=p3.size;have Hy:Hid ((∀g,R.ownBlock=some g->g<c5.heap.size)/\∀g,Q.ownBlock=some g->g<c5.heap.size):=Z (by
      obtain⟨ok,wq⟩:=rb.out;exact⟨fun g N=>by obtain⟨_,_,cf⟩:=bS wq.work N;exact(Array.getElem?_eq_some_iff.1 cf).1,fun g N=>by obtain⟨_,_,cf⟩:=bS wq.aQ N;exact(Array.getElem?_eq_some_iff.1 cf).1⟩)
     obtain⟨Ip,ty,Ik,Il,Im⟩:=info_parts lg;have H3:=Z ty;clear wn ty;go_cut [14] (fun s wc=>∃(c3:Option Addr) (c4:Nat),s=.slice c3 K c4/\A5 w1 wc a c5.heap.size (.slice c3 K c4) R Q I bv o K)
     case first=>
      go_wp2
      go_loopw [14,15] (fun s i wr=>∃(k:Nat) (S:WS) (cq:List Int) (c3:Option Addr) (c4:Nat),k<=K/\s=.slice c3 k c4/\i=.int .i64 k/\A5 w1 wr a c5.heap.size (.slice c3 k c4) R Q S cq o k/\e' S cq ((P.others.take 6).drop k)=(I,bv)) (fun _ i _=>K-(intOf i).toNat)
      case atStart=>exact⟨0,cS,[],none,0,by omega,rfl,rfl,⟨rb,p3,World.ownsRow_nil _ _ _ _,by have:=l'.1;omega,l'.2.1,l'.2.2,rfl,Nat.le_refl _⟩,md⟩
      case round=>
       obtain⟨k,S,cq,c3,c4,lb,rfl,rfl,O,wl⟩:=hrel;have B:=Z O;have ql:=Z wl;have Ij:=O.b.size;have ID:=O.c;have gr:Hid (Below f w wr):=Z ((gc.below (by rw[c7];exact Nat.le_refl _) (fun _ hb=>False.elim hb)).trans (O.b.mono (by have:=av.out;omega)));have x2:wr.cell? (f,2)=some (.slice a2 T c9):=(O.b.cell (p:=⟨f,2,none⟩) (by have:=av.out;show f<a;omega)).trans (es.cell rfl);clear O wl;by_cases G:k<K
       ·have cm:k<P.others.length:=by have:=gk.out;have:=gf.out;omega
        obtain⟨l,n0⟩:=nm (P.others[k]);have n1:P.others[k]?=some l:=(by rw[List.getElem?_eq_getElem cm,n0]);have H8:=Z (fun x q=>mc.others l (List.mem_of_getElem? n1) x q);have W:(P.others.take 6).drop k=l::(P.others.take 6).drop (k+1):=by
         rw[List.drop_eq_getElem_cons (by rw[List.length_take];have:=gf.out;have:=gk.out;omega)]
         congr 1
         rw[List.getElem_take];exact n0
        have Hr:Hid (e' (iV ((l.take 40).foldl cI S) l7) (cq++[(S.code.length:Int)]) ((P.others.take 6).drop (k+1))=(I,bv)):=Z (by
         have h:=ql.out;rw[W]at h;exact h)
        have s8:=qc.out;rw[c7]at s8;obtain⟨aa,Ix,HT,Ia,sz⟩:=s8;injection HT with mA c1 it
        subst mA it;obtain⟨ce,hF,J2,rfl,mW,kw,kv⟩:=sz k l n1;have IB:T<=c9:=(by have:=gk.out;omega);have IH:(k:Int)<T:=(by have:=gf.out;omega);obtain⟨re,hd,rfl,Ib,-⟩:=id kv;obtain⟨cQ,mS⟩:=nm l.length;rw[mS]at kv Ib kw;have Fr:=Z kv;have FS:=Z kw;have H1:=Z mW;have qb:=Z mS;have Ic:wr.cell? (ce,hF+k)=some (.slice re cQ hd):=(gr.cell (p:=⟨ce,hF+k,none⟩) mW).trans kw;clear cm n0 n1 W c1 Ia sz mS kw kv mW;obtain⟨J7,kd⟩:=B.w;have It:=Z kd;obtain⟨HI,HR,ww⟩:=ao kd.code;have am:wr.cell? (a,0)=some (.slice HI S.code.length HR):=(by rw[<-ww];exact kd.row.cell rfl);have s7:=B.p;clear kd ww;have IX:c5.heap.size<=wr.heap.size:=B.sz;go_wp2_with (at_builtin;refine wpList_append_lies _ rfl _ _ _ rfl c5.heap.size 3 Ip _ 1 8 underlying79 H3 Ik Il Im rfl (by omega) (.slice c3 k c4) k (cq.flatMap jr) rfl (s7.alloc _) ⟨wr.heap.size,0,none⟩ 1 1 [.int .i64 S.code.length] rfl rfl (World.news_of_block (cs:=#[.int .i64 S.code.length]) (t:=3) (fr:=(0,0)) (heap_alloc_new wr _)) (by simp[Value.oneCell']) (by omega) (by unfold maxLen;omega) (by omega) (by simp;omega) (wr.heap.size+1) (by simp) ?_)
        intro I0 HP cC w0 tm I4 IM;have i6:=Ch.bM (au tm);have HE:Hid (fM cC a a R Q S):=Z (B.w.ints B.p Hy i6);have p8:Hid (Below a w1 cC):=Z (B.b.trans (i6.below (by omega) (fun b hb=>by have:=(bS B.p hb).1;omega)));have Ho:Hid (cC.ownsRow c5.heap.size 3 1 (.slice (some (I0,0)) (k+1) HP) (k+1) ((cq++[(S.code.length:Int)]).flatMap jr)):=Z (by rw[List.flatMap_append];exact w0);have IU:wr.heap.size<=cC.heap.size:=i6.size;clear i6 w0 tm I4 s7 am Ic x2;obtain⟨U,st⟩:=nm ((l.take 40).foldl cI S);have r5:=Z st;clear st;obtain⟨J8,rfl⟩:=mn wr;go_upto_block 10 with fail
        go_cut [] (fun wc=>fM wc a a R Q U/\Below a cC wc/\bb cC wc/\U.code.length<=S.code.length+200/\U.work=S.work/\U.aQ=S.aQ)
        case first=>
         go_wp2
         go_loopw [16] (fun i wr=>∃(k:Nat) (Y:WS),k<=40/\k<=cQ/\i=.int .i64 k/\fM wr a a R Q Y/\Below a cC wr/\bb cC wr/\((l.take 40).drop k).foldl cI Y=U/\Y.code.length<=S.code.length+5*k/\Y.work=S.work/\Y.aQ=S.aQ) (fun i _=>40-(intOf i).toNat)
         case atStart=>exact⟨0,S,by omega,by omega,rfl,HE,Below.refl _ _,bb.refl _,r5,by omega,rfl,rfl⟩
         case round=>
          obtain⟨j,Y,IF,IG,rfl,d,hb,E,m,c2,u,z⟩:=hrel;have H:=Z d;have F:=Z hb;have c0:=Z E;have A:=Z (And.intro u z);have IW:=hb.size;have p2:=Z (p8.trans hb);have rc:Hid (Below f w wr):=Z ((gc.below (by rw[c7];exact Nat.le_refl _) (fun _ hb=>False.elim hb)).trans (p2.mono (by have:=av.out;omega)));have x2:wr.cell? (f,2)=some (.slice (some (ce,hF)) T c9):=(p2.cell (p:=⟨f,2,none⟩) (by have:=av.out;show f<a;omega)).trans (es.cell rfl);have J9:wr.cell? (ce,hF+k)=some (.slice re cQ hd):=(rc.cell (p:=⟨ce,hF+k,none⟩) H1).trans FS;clear d hb E u z;by_cases G:j<40/\j<cQ
          ·obtain⟨v1,v2⟩:=G
           have un:j<l.length:=(by have:=qb.out;omega);obtain⟨x,q⟩:=nm (l[j]);have al:l[j]?=some x:=(by rw[List.getElem?_eq_getElem un,q]);have go:=Z (H8 x (List.mem_of_getElem? al));have W:(l.take 40).drop j=x::(l.take 40).drop (j+1):=by
            rw[List.drop_eq_getElem_cons (by rw[List.length_take];omega)]
            congr 1
            rw[List.getElem_take];exact q
           rw[W]at m;have c6:Hid (((l.take 40).drop (j+1)).foldl cI (cI Y x)=U):=Z m;obtain⟨-,th,g,AC,rfl,N,f0,f1,f2,f3,f4⟩:=(Fr.below rc).EV al;have ge:=Z (rj x go Y a a wr H (by omega) (by omega));obtain⟨B1,cr,cA⟩:=oV Y x;have c8:=Z (And.intro cr cA);have ut:(j:Int)<cQ:=(by omega);clear m W al q un N cr cA;go_wp2_with fail
           with_reducible refine ge.out.mono ?_
           rintro e fn ⟨rfl,hw,tg,us⟩;have HF:=Z hw;have lv:=Z (F.trans tg);have H5:=Z (c0.trans us);clear hw tg us;go_wp2
           go_roundw
           case rel=>exact⟨j+1,cI Y x,by omega,by omega,by go_num,HF,lv,H5,c6,by omega,c8.1.trans A.1,c8.2.trans A.2⟩
           case measure=>simp[intOf];omega
          ·have J:Hid (Y=U):=Z (by
            rw[List.drop_of_length_le (by rw[List.length_take];have:=qb.out;omega)]at m;exact m)
           have hm:40<=j∨(j<40/\cQ<=j):=(by omega);clear m G;rcases hm with hi|⟨hi,hl⟩
           ·by_cases s1:j<cQ
            all_goals
             go_wp2
             go_meet
             rw[<-J];exact⟨H,F,c0,by omega,A.1,A.2⟩
           ·go_wp2_with fail
            go_meet
            rw[<-J];exact⟨H,F,c0,by omega,A.1,A.2⟩
        case rest=>
         obtain⟨d,hb,E,c2,u,z⟩:=hcut;obtain⟨fn,hw⟩:=nm wc;rw[hw]at d hb E⊢;have lv:=Z (p8.trans hb);have Hp:=Z (E.own Ho (by decide) (by decide));have pp:=Z (And.intro u z);have IV:=hb.size;obtain⟨lm,cl⟩:=d;have Hx:=Z cl;have am:fn.cell? (a,0)=some lm:=cl.row.cell rfl;have cd:=cl.row.free 0;have wk:=cl.row.lt;have xs:lm.ownBlock≠some a:=bl cl.code cl.row (by decide);have ch:=cl.code;have I9:a<=fn.heap.size:=(by omega);clear cl hw hb E u z;go_wp2_with (at_builtin;refine wpList_append_lies _ rfl _ _ _ rfl a 121 ob _ 7 56 underlying30 lw nw nx nC rfl (by omega) lm U.code.length (U.code.flatMap b3) rfl (ch.alloc _) ⟨fn.heap.size,0,none⟩ 1 1 [.int .i64 16,.int .i64 0,.int .i64 0,.int .i64 0,.int .u64 0,.int .i64 0,.int .i64 0] rfl rfl (World.news_of_block (cs:=#[.int .i64 16,.int .i64 0,.int .i64 0,.int .i64 0,.int .u64 0,.int .i64 0,.int .i64 0]) (t:=121) (fr:=(0,0)) (heap_alloc_new fn _)) (by simp[Value.oneCell']) (by omega) (by unfold maxLen;omega) (by omega) (by simp;omega) (fn.heap.size+1) (by simp) ?_)
         intro Iz Iw CR wb l1 I5 IN;have ec:CR.cell? (a,0)=some lm:=(l1.cell_far ⟨a,0,none⟩ (by simp;omega) (Ne.symm xs)).trans (by simp[go_sem,World.cell?_alloc_past,wk,am]);have le:CR.frozen? (a,0)=false:=(l1.frozen_far ⟨a,0,none⟩ (by simp;omega) (Ne.symm xs)).trans (by simp[go_sem,World.frozen?_alloc_past,wk,cd]);have i8:=Z (Hx.iI I9 l7 wb (au l1));clear wb l1 I5 ch am cd;go_wp2
         go_roundw
         case rel=>
          refine⟨k+1,iV U l7,cq++[(S.code.length:Int)],_,_,by omega,rfl,by go_num,⟨i8.1,lv.trans i8.2.1,i8.2.2.own Hp (by decide) (by decide),?_,?_,?_,?_,?_⟩,?_⟩
          ·have h:(iV U l7).code.length=U.code.length+1:=by simp[iV]
           rw[h];omega
          ·exact pp.1.trans B.wk
          ·exact pp.2.trans B.wh
          ·rw[List.length_append,B.n];rfl
          ·have:=i8.2.1.size;omega
          ·rw[<-r5];exact Hr
         case measure=>simp[intOf];omega
       ·have dr:k=K:=by omega
        have J:Hid (S=I/\cq=bv):=Z (by
         have h:=ql.out;rw[List.drop_of_length_le (by rw[List.length_take];have:=gk.out;have:=gf.out;omega)]at h;exact Prod.mk.inj h)
        have pi:=Z dr;clear dr x2;go_wp2
        go_meet
        refine⟨c3,c4,by rw[pi],?_⟩;have h:=B.out;rw[J.1,J.2,pi]at h;exact h
     case rest=>
      obtain⟨c3,c4,rfl,O⟩:=hcut;obtain⟨i0,w'⟩:=nm wc;rw[w']at O⊢;have B:=Z O;have IC:=O.c;have IQ:=O.b.size;obtain⟨J6,kb⟩:=O.w;have Is:=Z kb;obtain⟨HH,HQ,rfl⟩:=ao kb.code;have am:i0.cell? (a,0)=some (.slice HH I.code.length HQ):=kb.row.cell rfl;obtain⟨V,sv⟩:=nm ((P.once.take 6).foldl cI I);have mp:=Z sv;clear sv O kb w';go_upto_block 12 with fail
      go_cut [] (fun wc=>fM wc a a R Q V/\Below a i0 wc/\bb i0 wc/\V.code.length<=I.code.length+30/\V.work=I.work/\V.aQ=I.aQ)
      case first=>
       go_wp2
       go_loopw [18] (fun i wr=>∃(k:Nat) (S:WS),k<=6/\k<=bi/\i=.int .i64 k/\fM wr a a R Q S/\Below a i0 wr/\bb i0 wr/\((P.once.take 6).drop k).foldl cI S=V/\S.code.length<=I.code.length+5*k/\S.work=I.work/\S.aQ=I.aQ) (fun i _=>6-(intOf i).toNat)
       case atStart=>exact⟨0,I,by omega,by omega,rfl,B.w,Below.refl _ _,bb.refl _,mp,by omega,rfl,rfl⟩
       case round=>
        obtain⟨k,S,lb,Ie,rfl,d,hb,E,m,c2,u,z⟩:=hrel;have H:=Z d;have F:=Z hb;have c0:=Z E;have A:=Z (And.intro u z);have Ij:=hb.size;have gr:Hid (Below f w wr):=Z ((gc.below (by rw[c7];exact Nat.le_refl _) (fun _ hb=>False.elim hb)).trans ((B.b.trans hb).mono (by have:=av.out;omega)));have x1:wr.cell? (f,3)=some (.slice a3 bi cb):=((B.b.trans hb).cell (p:=⟨f,3,none⟩) (by have:=av.out;show f<a;omega)).trans (es.cell rfl);clear d hb E u z;by_cases G:k<6/\k<bi
        ·obtain⟨v1,v2⟩:=G
         have cm:k<P.once.length:=(by have:=pv.out;omega);obtain⟨x,q⟩:=nm (P.once[k]);have al:P.once[k]?=some x:=(by rw[List.getElem?_eq_getElem cm,q]);have go:=Z (mc.once x (List.mem_of_getElem? al));have W:(P.once.take 6).drop k=x::(P.once.take 6).drop (k+1):=by
          rw[List.drop_eq_getElem_cons (by rw[List.length_take];omega)]
          congr 1
          rw[List.getElem_take];exact q
         rw[W]at m;have c6:Hid (((P.once.take 6).drop (k+1)).foldl cI (cI S x)=V):=Z m;have cL:=pa.out;rw[c7]at cL;obtain⟨-,th,g,AC,rfl,N,f0,f1,f2,f3,f4⟩:=(cL.below gr).EV al;have ge:=Z (rj x go S a a wr H (by omega) (by omega));obtain⟨B1,cr,cA⟩:=oV S x;have c8:=Z (And.intro cr cA);have ut:(k:Int)<bi:=(by omega);clear m W al q cm cL N cr cA;go_wp2_with fail
         with_reducible refine ge.out.mono ?_
         rintro e fb ⟨rfl,hn,sC,up⟩;have Hz:=Z hn;have ls:=Z (F.trans sC);have H4:=Z (c0.trans up);clear hn sC up;go_wp2
         go_roundw
         case rel=>exact⟨k+1,cI S x,by omega,by omega,by go_num,Hz,ls,H4,c6,by omega,c8.1.trans A.1,c8.2.trans A.2⟩
         case measure=>simp[intOf];omega
        ·have J:Hid (S=V):=Z (by
          rw[List.drop_of_length_le (by rw[List.length_take];have:=pv.out;omega)]at m;exact m)
         have hm:6<=k∨(k<6/\bi<=k):=(by omega);clear m G;rcases hm with hi|⟨hi,hl⟩
         ·by_cases s1:k<bi
          all_goals
           go_wp2
           go_meet
           rw[<-J];exact⟨H,F,c0,by omega,A.1,A.2⟩
         ·go_wp2_with fail
          go_meet
          rw[<-J];exact⟨H,F,c0,by omega,A.1,A.2⟩
      case rest=>
       obtain⟨d,hb,E,c2,u,z⟩:=hcut;obtain⟨fb,hn⟩:=nm wc;rw[hn]at d hb E⊢;have ls:=Z (B.b.trans hb);have H9:=Z (E.own B.p (by decide) (by decide));have pl:=Z (And.intro (u.trans B.wk) (z.trans B.wh));have IR:=hb.size;obtain⟨li,ci⟩:=d;have Hu:=Z ci;have am:fb.cell? (a,0)=some li:=ci.row.cell rfl;have cd:=ci.row.free 0;have wd:=ci.row.lt;have x8:li.ownBlock≠some a:=bl ci.code ci.row (by decide);have ch:=ci.code;have I7:a<=fb.heap.size:=(by omega);clear ci hn hb E u z;go_wp2_with (at_builtin;refine wpList_append_lies _ rfl _ _ _ rfl a 121 ob _ 7 56 underlying30 lw nw nx nC rfl (by omega) li V.code.length (V.code.flatMap b3) rfl (ch.alloc _) ⟨fb.heap.size,0,none⟩ 1 1 [.int .i64 16,.int .i64 0,.int .i64 0,.int .i64 0,.int .u64 0,.int .i64 0,.int .i64 0] rfl rfl (World.news_of_block (cs:=#[.int .i64 16,.int .i64 0,.int .i64 0,.int .i64 0,.int .u64 0,.int .i64 0,.int .i64 0]) (t:=121) (fr:=(0,0)) (heap_alloc_new fb _)) (by simp[Value.oneCell']) (by omega) (by unfold maxLen;omega) (by omega) (by simp;omega) (fb.heap.size+1) (by simp) ?_)
       intro HZ HN on v4 kT I2 IK;have ec:on.cell? (a,0)=some li:=(kT.cell_far ⟨a,0,none⟩ (by simp;omega) (Ne.symm x8)).trans (by simp[go_sem,World.cell?_alloc_past,wd,am]);have le:on.frozen? (a,0)=false:=(kT.frozen_far ⟨a,0,none⟩ (by simp;omega) (Ne.symm x8)).trans (by simp[go_sem,World.frozen?_alloc_past,wd,cd]);have i7:=Z (Hu.iI I7 l7 v4 (au kT));clear v4 kT I2 ch am cd;go_upto_block 14 with fail
       obtain⟨i3,x3⟩:=nm (on.setCell (a,0) (.slice (some (HZ,0)) (V.code.length+1) HN));rw[x3]at i7⊢;clear x3 ec le;obtain⟨c,eS⟩:=nm (iV V l7);have HA:Hid (fM i3 a a R Q c):=Z (by rw[<-eS];exact i7.1);have FA:Hid (Below a w1 i3):=Z (ls.trans i7.2.1);have Hn:=Z (i7.2.2.own H9 (by decide) (by decide));have ii:Hid (c.work=o.work/\c.aQ=o.aQ):=Z ⟨by rw[<-eS];exact pl.1,by rw[<-eS];exact pl.2⟩;have Hs:Hid (pd bv (I.code.length:Int) c.work c.aQ c.code=bT P):=Z (by
        unfold bT;dsimp only;rw[gk,gf,mk,mm,qr,md];dsimp only;rw[mp,eS])
       have r6:=Z eS;clear eS;have i4:Hid (l8 o K):=Z (by
        have h:=oW K ⟨[],[],[]⟩ 0 ⟨rfl,rfl,(fun x q=>by cases q),(fun x q=>by cases q)⟩;rw[mk,Nat.zero_add]at h;exact h)
       have tl:o.code.length<=c.code.length:=by
        rw[<-r6,<-mp];refine Nat.le_trans ?_ (rk _ _);refine Nat.le_trans ?_ (m' _ _);have h:=p4 (P.others.take 6) cS [];rw[md]at h;refine Nat.le_trans ?_ h;rw[<-qr,<-mm];exact Nat.le_trans (m' _ _) (rk _ _)
       have v0:c.code.length<=2000:=by
        have h:c.code.length=V.code.length+1:=(by rw[<-r6];simp[iV]);omega
       have H2:=Z (And.intro tl v0);have s5:c.work.length=K:=(by rw[ii.1];exact i4.wl);have s4:c.aQ.length=K:=(by rw[ii.2];exact i4.hl);have M:=Z (And.intro s5 s4);clear tl v0 s5 s4;go_cut [] (fun wc=>∃C,C=bT P/\C.length=c.code.length/\fM wc a a R Q ⟨C,c.work,c.aQ⟩/\Below a i3 wc)
       case first=>
        go_wp2
        go_loopw [19] (fun i wr=>∃(k:Nat) (C:List aR),k<=K/\i=.int .i64 k/\C.length=c.code.length/\fM wr a a R Q ⟨C,c.work,c.aQ⟩/\Below a i3 wr/\bb i3 wr/\pd bv (I.code.length:Int) (c.work.drop k) (c.aQ.drop k) C=bT P) (fun i _=>K-(intOf i).toNat)
        case atStart=>exact⟨0,c.code,by omega,rfl,rfl,HA,Below.refl _ _,bb.refl _,Hs⟩
        case round=>
         obtain⟨k,C,lb,rfl,eW,d,hb,E,cW⟩:=hrel;have F:=Z hb;have c0:=Z E;have ih:=Z eW;have H0:=Z cW;have H:=Z d;obtain⟨ok,L⟩:=d;obtain⟨HJ,HS,jp⟩:=ao L.work;have cb:wr.cell? (a,3)=some R:=L.row.cell rfl;rw[jp,M.1]at cb;by_cases G:k<K
         ·obtain⟨x,q⟩:∃x,c.work[k]'(by rw[M.1];exact G)=x:=⟨_,rfl⟩
          obtain⟨y,no⟩:∃y,c.aQ[k]'(by rw[M.2];exact G)=y:=⟨_,rfl⟩;have ni:c.work[k]?=some x:=(by rw[List.getElem?_eq_getElem (by rw[M.1];exact G),q]);have nq:c.aQ[k]?=some y:=(by rw[List.getElem?_eq_getElem (by rw[M.2];exact G),no]);have yk:=i4.w x (by rw[<-ii.1];exact List.mem_of_getElem? ni);have Al:=i4.h y (by rw[<-ii.2];exact List.mem_of_getElem? nq);obtain⟨bx,rfl⟩:=Int.eq_ofNat_of_zero_le yk.1;obtain⟨fz,rfl⟩:=Int.eq_ofNat_of_zero_le Al.1;have y0:bx<C.length:=(by have:=H2.1;omega);have zh:fz<K:=(by omega);have n2:bv.length=K:=B.n;obtain⟨v,wv⟩:∃v,bv[fz]'(by rw[n2];exact zh)=v:=⟨_,rfl⟩;have n8:bv[fz]?=some v:=(by rw[List.getElem?_eq_getElem (by rw[n2];exact zh),wv]);obtain⟨X,sw⟩:=nm (C[bx]);have kf:C[bx]?=some X:=(by rw[List.getElem?_eq_getElem y0,sw]);have mb:Hid (pd bv (I.code.length:Int) (c.work.drop (k+1)) (c.aQ.drop (k+1)) (C.set bx {X with v:=IntKind.u64.wrap v})=bT P):=Z (by
           rw[List.drop_eq_getElem_cons (by rw[M.1];exact G),List.drop_eq_getElem_cons (i:=k) (l:=c.aQ) (by rw[M.2];exact G),q,no,pd,Int.toNat_natCast,kf]at cW;dsimp only at cW;rw[if_pos (by omega),Int.toNat_natCast,List.getD_eq_getElem?_getD,n8]at cW;exact cW)
          obtain⟨s0,k1,IY,mA,_,rg,_,og,_⟩:=aF L.code (by show 0<C.length;omega);obtain⟨ce,k2,IZ,c1,_,ro,_,B2,_⟩:=aF L.work (by show 0<c.work.length;rw[M.1];omega);obtain⟨HX,k3,I',it,_,rt,_,B3,_⟩:=aF L.aQ (by show 0<c.aQ.length;rw[M.2];omega);obtain⟨HY,J1,J0,HU,_,Iv,_,ec,_⟩:=aF (E.own Hn (by decide) (by decide)) (by omega);subst mA;have ad:wr.cell? (a,0)=some (.slice (some (s0,0)) C.length k1):=L.row.cell rfl;have hd:wr.cell? (a,4)=some Q:=L.row.cell rfl;rw[it]at hd;rw[show HJ=some ⟨ce,0,none⟩from by rw[jp]at c1;injection c1,show HS=k2 from by rw[jp]at c1;injection c1]at cb;injection HU with HV _ HW
          subst HV;subst HW;have p6:∀(l:List Int) (At:List Value) (i:Nat) (n:Int),l[i]?=some n->(l.flatMap jr++At)[i]?=some (.int .i64 n):=fun l At i n h=>by
           have bw:=bD (enc:=jr) (k:=1) (fun _=>rfl) h (j:=0) (by omega);rw[Nat.mul_one,Nat.add_zero]at bw;rw[List.getElem?_append_left (List.getElem?_eq_some_iff.1 bw).1,bw];rfl
          have Ev:wr.cell? (ce,k)=some (.int .i64 bx):=B2.cell (p6 _ _ _ _ ni);have EQ:wr.cell? (HX,k)=some (.int .i64 fz):=B3.cell (p6 _ _ _ _ nq);have Jb:wr.cell? (HY,fz)=some (.int .i64 v):=ec.cell (p6 _ _ _ _ n8);have Do:wr.cell? (s0,bx*7+4)=some (.int .u64 X.v):=og.cell (by
           rw[List.getElem?_append_left (by rw[a4 ev];show bx*7+4<C.length*7;omega)];exact(bD ev kf (j:=4) (by omega)).trans rfl)
          have Ja:=og.free (bx*7+4);have mL:c.aQ.length=K:=M.2;have io:=Z (L.GY (S:=⟨C,c.work,c.aQ⟩) rfl kf (IntKind.u64.wrap v));have II:K<=k2:=(by have:=M.1;show K<=k2;rw[<-this];exact ro);have IJ:K<=k3:=(by rw[<-mL];exact rt);rw[mL]at hd;have i1:(k:Int)<K:=(by omega);have i2:(fz:Int)<K:=(by omega);have Io:(bx:Int)<C.length:=(by omega);have I6:C.length<=k1:=rg;obtain⟨gs,eC⟩:=nm C.length;rw[eC]at ad Io I6 y0 io;clear L jp hb E cW eW q no ni nq yk Al n2 wv n8 sw kf c1 it og B2 B3 ec rg ro rt p6 mL eC;go_upto_region 49 with fail
          go_still_tail 13,(by kernel_rfl)
          change wpList _ _ _ _ _ wr.drew;go_wp2
          go_roundw
          case rel=>exact⟨k+1,C.set bx {X with v:=IntKind.u64.wrap v},by omega,by go_num,by rw[List.length_set];exact ih,⟨_,io.1.af ((Ch.refl _ _).drew)⟩,(by have h:=F.trans io.2.1;exact⟨h.os,h.tape,h.output,h.size,h.block⟩),c0.trans io.2.2,mb⟩
          case measure=>simp[intOf];omega
         ·have dr:k=K:=by omega
          have J:Hid (C=bT P):=Z (by
           have h:=H0.out;rw[List.drop_of_length_le (by rw[M.1];omega),List.drop_of_length_le (by rw[M.2];omega)]at h;exact h)
          clear dr L hb E cW eW;go_wp2
          go_meet
          exact⟨C,J,ih,H,F⟩
       case rest=>
        obtain⟨C,s2,eW,d,hb⟩:=hcut;obtain⟨os,x4⟩:=nm wc;rw[x4]at d hb⊢;have FW:=Z s2;have en:=Z (FA.trans hb);have et:=Z ((qm.ch (D:=fun i=>a<=i) ⟨en.os,en.tape,en.out.output,en.size,fun b hb W=>en.block b (by omega)⟩ (by have:=av.out;omega)));obtain⟨ok,L⟩:=d;have Ht:=Z L;obtain⟨ac,ip,mC⟩:=ao L.code;have ad:os.cell? (a,0)=some ok:=L.row.cell rfl;rw[mC]at ad;have Gr:=Z mC;obtain⟨gs,eC⟩:=nm ((⟨C,c.work,c.aQ⟩:WS).code.length);rw[eC]at ad;have H7:=Z eC;have IP:=av.out;obtain⟨t0,t1,t2,t3⟩:=et.c4;have f0:=et.free 0;have f1:=et.free 1;have f2:=et.free 2;have f3:=et.free 3;clear L mC s2 eW hb x4 eC;go_wp2
        clear t0 t1 t2 t3 f0 f1 f2 f3 ad;obtain⟨ov,nd⟩:=nm ((((os.setCell (ap,0) (.slice ac gs ip)).setCell (ap,1) (.int .i64 0)).setCell (ap,2) (.int .i64 3)).setCell (ap,3) (.int .i64 1));rw[nd];have rx:Ch (aL ap) os ov:=(by rw[<-nd];exact((((Ch.refl _ _).only _ _).only _ _).only _ _).only _ _);have Hv:Row ov ap 36 [.slice ac gs ip,.int .i64 0,.int .i64 3,.int .i64 1]:=(by rw[<-nd];exact(((et.set 0 _).set 1 _).set 2 _).set 3 _);obtain⟨Ir,Do,Ev,EQ⟩:=Hv.c4;refine bodyPost_ret (v:=.agg #[.slice ac gs ip,.int .i64 0,.int .i64 3,.int .i64 1]) ?_ rfl ?_
        ·simp[results,Tryz.f10,go_sem,Ir,Do,Ev,EQ]
        ·have dC:=c7.out
         refine⟨_,rfl,?_,?_⟩
         ·have bw:=Ht.code
          rw[Gr]at bw;rw[<-FW];have Ig:C.length=gs:=H7.out;have cf:=aj bw rx (fun g N e=>by
           have c1:g=ap:=e;have:=(bS bw N).1;omega)
          have he:ov.ownsRow a 121 7 (.slice ac C.length ip) C.length (C.flatMap b3):=cf;rw[Ig]at he⊢;exact dS he (by omega)
         ·have hb:=(gc.hR).trans (en.mono (by omega))
          exact(Ch.b4 hb).fresh rx (fun i IE e=>by have c1:i=ap:=e;omega)
end Go.Proofs.YtfnilkpkogipfaaGreatDoor
