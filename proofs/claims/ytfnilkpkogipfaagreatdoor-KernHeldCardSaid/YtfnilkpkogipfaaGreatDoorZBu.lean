import Derived.Test.YtfnilkpkogipfaaGreatDoorZBt
set_option linter.all false
set_option maxRecDepth 100000
set_option maxHeartbeats 8000000
namespace Go.Proofs.YtfnilkpkogipfaaGreatDoor
open Go.RowKit Go.Proofs.Tryz
def cellOf(x:fe):Int:=if 4294967296<x.a then x.a else x.a%4
def ek(x:fe):Int:=mQ.getD (cN x.Al 9).toNat 0
def iL(S:WS)(X:aV):WS:={S with code:=S.code++[X]}
def cD(S:WS)(x:fe):WS:=
 if 900<=ek x then iL (fE (fE S 2 (x.b%5)) 3 (x.c%5)) ⟨17+ek x-900,2,-1,if ek x=904 then 3 else 0,cellOf x,0,0⟩
 else if ek x=70 then b5 S 70 [cellOf x,x.b%3,gJ x.c,1+x.d%3]
 else if ek x=71 then b5 S 71 [cellOf x,x.b%4,1+x.c%3]
 else b5 S (ek x) [cellOf x,x.b%3,x.c%4,x.d%3]
structure iK(x:fe):Prop where
 a:aH x.a
 b:aH x.b
 c:aH x.c
 d:aH x.d
theorem aaT{B:Nat}{w w1 a b:World}(h:Below B w w1)(d:B<=w1.heap.size)(c:Ch ag w1 a)(k:Below B a b):Below B w b:=(h.trans (c.below d (fun _ hb=>False.elim hb))).trans k
theorem xB(x:fe):mQ[(cN x.Al 9).toNat]?=some (ek x)/\(900<=ek x/\ek x<=904∨ek x=70∨ek x=71∨ek x=72∨ek x=73):=by
 obtain⟨a,c⟩:=dJ x.Al 9 (by decide);obtain⟨k,b⟩:=Int.eq_ofNat_of_zero_le a;unfold ek;rw[b,Int.toNat_natCast];have:k<9:=by omega
 rcases(show k=0∨k=1∨k=2∨k=3∨k=4∨k=5∨k=6∨k=7∨k=8 by omega)with rfl|rfl|rfl|rfl|rfl|rfl|rfl|rfl|rfl<;>decide
theorem qQ.sF{w w1:World}{B b:Nat}{f k i a:Value}{S:WS}(h:qQ w B b f k i S)(C:B<=w.heap.size)(y:aV)
 (A:w1.ownsRow B 121 7 a (S.code.length+1) (S.code.flatMap dg++dg y)) (l:w.grownBy w1 f.ownBlock):
 qQ (w1.setCell (b,0) a) B b a k i {S with code:=S.code++[y]}/\Below B w (w1.setCell (b,0) a)/\a9 w (w1.setCell (b,0) a):=by
 have c:=j3 (p:=b) (j:=0) (u:=a) l;have r:Row w1 b 111 [f,.int .i64 16,.slice none 0 0,k,i]:=by
  unfold Row;rw[l.block b h.row.lt (fun e=>bh h.code h.row (by decide) e.symm)];exact h.row
 have z:(w1.setCell (b,0) a).ownsRow B 121 7 a (S.code++[y]).length ((S.code++[y]).flatMap dg):=by
  have:=dL (j:=0) (u:=a) A r (by decide);rw[List.flatMap_append,List.length_append];simpa using this
 have q:∀{s:Nat} {v:Value} {n:Nat} {t:List Value},w.ownsRow B 3 s v n t->(w1.setCell (b,0) a).ownsRow B 3 s v n t:=fun o=>ar o c (fun g x d=>by
  obtain⟨_,cs,m⟩:=bJ o x;rcases d with rfl|d
  ·exact absurd (eD h.row m) (by decide)
  ·exact bh h.code m (by decide) d)
 exact⟨⟨r.a' _ _ rfl,h.hB,z,q h.work,q h.aL,h.ne⟩,fS c h.code h.hB C,a9.E' c h.row h.code⟩
theorem qQ.Eo{w:World}{B b g n cap:Nat}{C A:Value}{S:WS}{l:List aV}{X:aV}(h:qQ w B b (.slice (some (g,0)) n cap) C A {S with code:=l++[X]})(r:n=l.length+1)(c:Int):
 fG (w.setCell (g,l.length*7+3) (.int .i64 c)) B b C A {S with code:=l++[{X with c:=c}]}/\Below B w (w.setCell (g,l.length*7+3) (.int .i64 c))/\a9 w (w.setCell (g,l.length*7+3) (.int .i64 c)):=by
 obtain⟨J,cs,m⟩:=bJ h.code (k:=g) rfl;have d:Ch (aK g) w (w.setCell (g,l.length*7+3) (.int .i64 c)):=(Ch.refl _ _).only _ _;have q:∀{s:Nat} {v:Value} {n:Nat} {D:List Value},w.ownsRow B 3 s v n D->(w.setCell (g,l.length*7+3) (.int .i64 c)).ownsRow B 3 s v n D:=fun u=>ar u d (fun k o e=>by have a:k=g:=e;subst a;exact bh u m (by decide) o)
 have hlen:({S with code:=l++[X]}:WS).code.length=n:=by show(l++[X]).length=n;rw[List.length_append,r];rfl
 have p:=h.code;rw[hlen]at p;have G:(l++[X])[l.length]?=some X:=by rw[List.getElem?_append_right (Nat.le_refl _),Nat.sub_self];rfl
 have I:=hI (enc:=dg) p ej G 3 (by omega) rfl (v:=.int .i64 c) (y:={X with c:=c}) rfl hlen.symm;have E:(l++[X]).set l.length {X with c:=c}=l++[{X with c:=c}]:=by rw[List.set_append_right _ _ (Nat.le_refl _),Nat.sub_self];rfl
 have z:(w.setCell (g,l.length*7+3) (.int .i64 c)).ownsRow B 121 7 (.slice (some (g,0)) n cap) n (((l++[X]).set l.length {X with c:=c}).flatMap dg):=I;rw[E]at z;refine⟨⟨_,h.row.ch d (fun e=>by have a:b=g:=e;subst a;exact absurd (eD h.row m) (by decide)),h.hB,?_,q h.work,q h.aL,h.ne⟩,d.below (by have:=h.row.lt;have:=h.hB;omega) (fun i H=>by have e:i=g:=H;omega),a9.fa d (fun k x t f o j=>by have e:k=g:=o;subst e;rw[m]at j;injection j with j;injection j with _ F _;exact Or.inr F.symm)⟩;show(w.setCell (g,l.length*7+3) (.int .i64 c)).ownsRow B 121 7 (.slice (some (g,0)) n cap) (l++[{X with c:=c}]).length ((l++[{X with c:=c}]).flatMap dg)
 have a:(l++[{X with c:=c}]).length=n:=by rw[List.length_append,r];rfl
 rw[a];exact z
theorem qL(x:fe)(gc:iK x)(S:WS)(B b:Nat){J I:Value}(w:World)(h:fG w B b J I S)(hB:B<=w.heap.size)(io:S.code.length<=800000):
 Calls prog 48 #[(b,0),.agg #[.int .i64 x.Al,.int .u64 x.a,.int .u64 x.b,.int .u64 x.c,.int .u64 x.d]] w (gC (cD S x) B b J I w):=by
 obtain⟨f,ce⟩:=xB x;obtain⟨eW,fb⟩:=dJ x.Al 9 (by decide);have eS:=Z (ot x.Al 9 (by decide));obtain⟨k,fd⟩:=Int.eq_ofNat_of_zero_le eW;rw[fd]at eS fb f;rw[Int.toNat_natCast]at f;have gt:=Z f;have eL:=Z ce;have gs:=Z h;have ap:=Z gc;obtain⟨v,fn⟩:=nm (ek x);have E:=Z fn;have ih:k<9:=by omega
 obtain⟨H,p⟩:=h;have i1:w.cell? (b,1)=some (.int .i64 16):=p.row.cell rfl;have ip:=p.row.lt;clear f ce fd eW fb gc p fn;go_enter func48,ntmps48
 go_wp2_with fail
 obtain⟨i2,cf⟩:=nm (w.alloc (.cells #[.int .i64 x.Al,.int .u64 x.a,.int .u64 x.b,.int .u64 x.c,.int .u64 x.d] 119));obtain⟨C,dC⟩:=nm w.heap.size;have he:Hid (Row i2 C 119 [.int .i64 x.Al,.int .u64 x.a,.int .u64 x.b,.int .u64 x.c,.int .u64 x.d]):=Z (by rw[<-cf,<-dC];exact Row.new _ _ _);have gr:=Z (Ch.al (D:=ag) cf);rw[cf,dC];clear cf dC i1;with_reducible refine(xA _).mono ?_
 rintro e w1 ⟨i8,i7,rfl,i9,fz,cL⟩;have cd:Hid (Ch ag w w1):=Z (gr.trans cL);have bi:=Z (he.ch cL (fun e=>e));obtain⟨y0,ge,gf,gk,go⟩:=bi.c5;have eC:=fz k _ gt;rw[E]at eC;have Q:=Z (gs.af cd);have R:B<=w1.heap.size:=by have:=cd.size;omega
 have ii:(k:Int)<9:=by omega
 obtain⟨u1,u2⟩:=ap.a;obtain⟨u3,u4⟩:=ap.b;obtain⟨u5,u6⟩:=ap.c;obtain⟨u7,u8⟩:=ap.d;clear cL fz;go_upto_region 3 with(go_at_call 27;(with_reducible refine(eS.out _).mono ?_);rintro e w' ⟨rfl,rfl⟩)
 have r:Hid (Below B w w1/\a9 w w1):=Z ⟨cd.below hB (fun _ hb=>False.elim hb),a9.af cd⟩;have hn:(4294967296<x.a/\cellOf x=x.a)∨(x.a<=4294967296/\cellOf x=x.a%4):=by
  unfold cellOf;by_cases c0:4294967296<x.a
  ·exact Or.inl ⟨c0,if_pos c0⟩
  ·exact Or.inr ⟨by omega,if_neg c0⟩
 rcases hn with⟨c0,c1⟩|⟨c0,c1⟩
 ·have K:=Z c1
  clear c1;go_upto_block 0 with fail
  have c6:=eL.out;rw[E]at c6;rcases c6 with⟨f,ce⟩|f|f|f|f
  ·have d:Hid (cD S x=iL (fE (fE S 2 (x.b%5)) 3 (x.c%5)) ⟨17+v-900,2,-1,if v=904 then 3 else 0,x.a,0,0⟩):=Z (by unfold cD;rw[E,if_pos f,K])
   obtain⟨es,c3,dN,ec,en⟩:=info_parts hT;have cl:=Z c3;clear c3;go_wp2_with fail
   with_reducible refine(jm S 2 (x.b%5) B b w1 Q.out R (by omega)).mono ?_
   rintro e w2 ⟨rfl,c7,a2,ad⟩;have cq:=Z c7;have av:Hid (Below B w w2/\a9 w1 w2):=Z ⟨r.1.trans a2,ad⟩;have eA:w2.cell? (C,3)=some (.int .u64 x.c):=(ad.row bi (by decide) (by decide)).cell rfl;have cS:B<=w2.heap.size:=by have:=a2.size;omega
   have c2:(fE S 2 (x.b%5)).code.length=S.code.length+1:=by simp[fE]
   have ch:=Z c2;clear c7 a2 ad c2 y0 ge gf gk go eC;go_wp2_with fail
   with_reducible refine(jm (fE S 2 (x.b%5)) 3 (x.c%5) B b w2 cq.out cS (by rw[ch.out];omega)).mono ?_
   rintro e q ⟨rfl,c8,a3,c4⟩;have T:Hid (Below B w q/\a9 w q):=Z ⟨av.1.trans a3,r.2.trans (av.2.trans c4)⟩;obtain⟨o,a1⟩:=nm (fE (fE S 2 (x.b%5)) 3 (x.c%5));have cQ:o.code.length=S.code.length+2:=by rw[<-a1];simp[fE]
   rw[a1]at d c8;have cW:B<=q.heap.size:=by have:=a3.size;omega
   obtain⟨c,a0⟩:=nm o.code.length;have hl:c<=900000:=by omega
   have M:=Z a0;obtain⟨H,p⟩:=c8;have cm:=Z p;have cb:q.cell? (b,0)=some H:=p.row.cell rfl;have bv:=p.row.free 0;have c5:=p.row.lt;have c9:H.ownBlock≠some b:=bh p.code p.row (by decide);have bw:q.ownsRow B 121 7 H c (o.code.flatMap dg):=by rw[<-a0];exact p.code
   clear p a3 c4 a1 cQ a0 eA;go_wp2_with (at_builtin;refine wpList_append_lies _ rfl _ _ _ rfl B 121 es _ 7 56 underlying30 cl dN ec en rfl (by omega) H c (o.code.flatMap dg) rfl (bw.alloc _) ⟨q.heap.size,0,none⟩ 1 1 [.int .i64 (17+v-900),.int .i64 2,.int .i64 (-1),.int .i64 0,.int .u64 x.a,.int .i64 0,.int .i64 0] rfl rfl (World.news_of_block (cs:=#[.int .i64 (17+v-900),.int .i64 2,.int .i64 (-1),.int .i64 0,.int .u64 x.a,.int .i64 0,.int .i64 0]) (t:=121) (fr:=(0,0)) (heap_alloc_new q _)) (by simp[Value.oneCell']) (by omega) (by unfold maxLen;omega) (by omega) (by simp;omega) (q.heap.size+1) (by simp) ?_)
   intro u A w4 al W cC hu;have et:w4.cell? (b,0)=some H:=(W.cell_far ⟨b,0,none⟩ (by simp;omega) (Ne.symm c9)).trans (by simp[go_sem,World.cell?_alloc_past,c5,cb]);have ex:w4.frozen? (b,0)=false:=(W.frozen_far ⟨b,0,none⟩ (by simp;omega) (Ne.symm c9)).trans (by simp[go_sem,World.frozen?_alloc_past,c5,bv]);have hm:c+1<=A:=by
    obtain⟨_,_,_,ab,_,V,_⟩:=aS al (by omega);injection ab with _ _ cA
    omega
   have s:Hid (qQ (w4.setCell (b,0) (.slice (some (u,0)) (c+1) A)) B b (.slice (some (u,0)) (c+1) A) J I {o with code:=o.code++[⟨17+v-900,2,-1,0,x.a,0,0⟩]}/\Below B q (w4.setCell (b,0) (.slice (some (u,0)) (c+1) A))/\a9 q (w4.setCell (b,0) (.slice (some (u,0)) (c+1) A))):=Z (cm.sF cW ⟨17+v-900,2,-1,0,x.a,0,0⟩ (by rw[M];exact al) (ax W));clear al W cC bw cb bv;by_cases G:v=904
   ·have dr:(v==904)=true:=by rw[beq_iff_eq];exact G
    rw[if_pos G]at d;clear G;go_upto_region 12 with fail
    obtain⟨a,g⟩:=nm (w4.setCell (b,0) (.slice (some (u,0)) (c+1) A));rw[g]at s⊢;have i4:a.cell? (b,0)=some (.slice (some (u,0)) (c+1) A):=s.1.row.cell rfl;have P:∃X,Row a u 121 ((o.code++[(⟨17+v-900,2,-1,0,x.a,0,0⟩:aV)]).flatMap dg++X):=by
     obtain⟨hi,hf,X,ab,_,V,_,am,_⟩:=aS s.1.code (by show 0<(o.code++[_]).length;simp);injection ab with N _ cA
     injection N with N
     injection N with N
     subst N;exact⟨X,am⟩
    obtain⟨X,P⟩:=P;have i5:a.cell? (u,c*7+3)=some (.int .i64 0):=P.cell (by
     rw[List.getElem?_append_left (by rw[a7 ej,List.length_append,M];simp;omega)];exact(bP ej (show(o.code++[(⟨17+v-900,2,-1,0,x.a,0,0⟩:aV)])[c]?=some (⟨17+v-900,2,-1,0,x.a,0,0⟩:aV)from by rw[<-M,List.getElem?_append_right (Nat.le_refl _),Nat.sub_self];rfl) (j:=3) (by omega)).trans rfl)
    have i6:=P.free (c*7+3);have hv:IntKind.i64.wrap ((c:Int)+1-1)=c:=by rw[show(c:Int)+1-1=c from by omega];exact IntWalk.i64_in _ (by omega)
    have hw:(c:Int)<c+1:=by omega
    have U:=Z (s.1.Eo (l:=o.code) (by rw[M]) 3);rw[M]at U;clear P g et ex;go_still_tail 10,(by kernel_rfl)
    change wpList _ _ _ _ _ a.drew;go_wp2_with fail
    go_end0
    rw[d];have O:=T.1.trans (s.2.1.trans U.2.1);exact⟨rfl,U.1.af ((Ch.refl _ _).drew),⟨O.os,O.tape,O.output,O.size,O.block⟩,T.2.trans (s.2.2.trans U.2.2)⟩
   ·have dr:(v==904)=false:=by rw[beq_eq_false_iff_ne];exact G
    rw[if_neg G]at d;clear G;go_wp2_with fail
    go_end0
    rw[d];exact⟨rfl,⟨_,s.1⟩,T.1.trans s.2.1,T.2.trans s.2.2⟩
  ·have d:Hid (cD S x=b5 S 70 [cellOf x,x.b%3,gJ x.c,1+x.d%3]):=Z (by unfold cD;rw[E,f];rfl)
   rw[K]at d;subst f;have ck:=Z (fun w=>sE x.c ap.c w);have i3:IntKind.u64.wrap (1+x.d%3)=1+x.d%3:=IntWalk.u64_in _ (by omega);have hF:x.b.tmod 3=x.b%3:=Int.tmod_eq_emod_of_nonneg u3;have i0:x.d.tmod 3=x.d%3:=Int.tmod_eq_emod_of_nonneg u7;go_wp2_with fail
   have ci:Hid (∀F,Ch ag w1 F->Row F w1.heap.size 56 ([x.a,x.b%3,gJ x.c,1+x.d%3].map (Value.int .u64))->Calls prog 46 #[(b,0),.int .i64 70,.slice (some (w1.heap.size,0)) 4 4] F (gC (b5 S 70 [x.a,x.b%3,gJ x.c,1+x.d%3]) B b J I F)):=
    Z (fun F V am=>ey S 70 [x.a,x.b%3,gJ x.c,1+x.d%3] (by simp) w1.heap.size 4 B b (by simp) F am (Q.af V) (by have:=V.size;omega) (by omega))
   go_region_held3 (fun w'=>w'.cell? (C,2)=some (.int .u64 x.b)/\w'.cell? (C,3)=some (.int .u64 x.c)/\w'.cell? (C,4)=some (.int .u64 x.d)) (go_keep) (first|(go_at_call 27;fail)|(go_at_call 86;(with_reducible refine(ck.out _).mono ?_);rintro e w' ⟨rfl,rfl⟩)|(go_at_call 46;refine(ci.out _ chi (by first|exact Row.new w1 _ _|exact(Row.new w1 _ _).drew)).mono ?_;rintro e a ⟨rfl,g,n,i⟩;have z:=Z g;have m:Hid (Below B w a):=Z (aaT r.out.1 R chi n);have y:Hid (a9 w a):=Z ((r.out.2.trans (a9.af chi)).trans i);have Y:=Z (((show a9 w1 a from(a9.af chi).trans i)).row bi.out (by decide) (by decide));have t2:a.cell? (C,2)=some (.int .u64 x.b):=Y.out.cell rfl;have t3:a.cell? (C,3)=some (.int .u64 x.c):=Y.out.cell rfl;have t4:a.cell? (C,4)=some (.int .u64 x.d):=Y.out.cell rfl;clear g n i))
   all_goals
    go_wp2_with fail
    go_end0
    rw[d];exact⟨rfl,z,⟨m.os,m.tape,m.out.output,m.size,m.block⟩,y⟩
  ·have d:Hid (cD S x=b5 S 71 [cellOf x,x.b%4,1+x.c%3]):=Z (by unfold cD;rw[E,f];rfl)
   rw[K]at d;subst f;have L:=Z (show Calls prog 46 #[(b,0),.int .i64 71,.slice (some (w1.heap.size,0)) 3 3] (w1.alloc (.cells #[.int .u64 x.a,.int .u64 (x.b%4),.int .u64 (1+x.c%3)] 56)) (gC (b5 S 71 [x.a,x.b%4,1+x.c%3]) B b J I (w1.alloc (.cells #[.int .u64 x.a,.int .u64 (x.b%4),.int .u64 (1+x.c%3)] 56)))from ey S 71 [x.a,x.b%4,1+x.c%3] (by simp) w1.heap.size 3 B b (by simp) (w1.alloc (.cells #[.int .u64 x.a,.int .u64 (x.b%4),.int .u64 (1+x.c%3)] 56)) (Row.new w1 _ _) (Q.af chi) (by simp;omega) (by omega));go_wp2_with fail
   with_reducible refine L.out.mono ?_
   rintro e a ⟨rfl,g,n,i⟩;have z:=Z g;have m:Hid (Below B w a):=Z (aaT r.1 R chi n);have y:Hid (a9 w a):=Z ((r.2.trans (a9.af chi)).trans i);clear g n i;go_wp2_with fail
   go_end0
   rw[d];exact⟨rfl,z,m,y⟩
  ·have d:Hid (cD S x=b5 S 72 [cellOf x,x.b%3,x.c%4,x.d%3]):=Z (by unfold cD;rw[E,f];rfl)
   rw[K]at d;subst f;have L:=Z (show Calls prog 46 #[(b,0),.int .i64 72,.slice (some (w1.heap.size,0)) 4 4] (w1.alloc (.cells #[.int .u64 x.a,.int .u64 (x.b%3),.int .u64 (x.c%4),.int .u64 (x.d%3)] 56)) (gC (b5 S 72 [x.a,x.b%3,x.c%4,x.d%3]) B b J I (w1.alloc (.cells #[.int .u64 x.a,.int .u64 (x.b%3),.int .u64 (x.c%4),.int .u64 (x.d%3)] 56)))from ey S 72 [x.a,x.b%3,x.c%4,x.d%3] (by simp) w1.heap.size 4 B b (by simp) (w1.alloc (.cells #[.int .u64 x.a,.int .u64 (x.b%3),.int .u64 (x.c%4),.int .u64 (x.d%3)] 56)) (Row.new w1 _ _) (Q.af chi) (by simp;omega) (by omega));go_wp2_with fail
   with_reducible refine L.out.mono ?_
   rintro e a ⟨rfl,g,n,i⟩;have z:=Z g;have m:Hid (Below B w a):=Z (aaT r.1 R chi n);have y:Hid (a9 w a):=Z ((r.2.trans (a9.af chi)).trans i);clear g n i;go_wp2_with fail
   go_end0
   rw[d];exact⟨rfl,z,m,y⟩
  ·have d:Hid (cD S x=b5 S 73 [cellOf x,x.b%3,x.c%4,x.d%3]):=Z (by unfold cD;rw[E,f];rfl)
   rw[K]at d;subst f;have L:=Z (show Calls prog 46 #[(b,0),.int .i64 73,.slice (some (w1.heap.size,0)) 4 4] (w1.alloc (.cells #[.int .u64 x.a,.int .u64 (x.b%3),.int .u64 (x.c%4),.int .u64 (x.d%3)] 56)) (gC (b5 S 73 [x.a,x.b%3,x.c%4,x.d%3]) B b J I (w1.alloc (.cells #[.int .u64 x.a,.int .u64 (x.b%3),.int .u64 (x.c%4),.int .u64 (x.d%3)] 56)))from ey S 73 [x.a,x.b%3,x.c%4,x.d%3] (by simp) w1.heap.size 4 B b (by simp) (w1.alloc (.cells #[.int .u64 x.a,.int .u64 (x.b%3),.int .u64 (x.c%4),.int .u64 (x.d%3)] 56)) (Row.new w1 _ _) (Q.af chi) (by simp;omega) (by omega));go_wp2_with fail
   with_reducible refine L.out.mono ?_
   rintro e a ⟨rfl,g,n,i⟩;have z:=Z g;have m:Hid (Below B w a):=Z (aaT r.1 R chi n);have y:Hid (a9 w a):=Z ((r.2.trans (a9.af chi)).trans i);clear g n i;go_wp2_with fail
   go_end0
   rw[d];exact⟨rfl,z,m,y⟩
 ·have K:=Z c1
  clear c1;go_upto_block 0 with fail
  have c6:=eL.out;rw[E]at c6;rcases c6 with⟨f,ce⟩|f|f|f|f
  ·have d:Hid (cD S x=iL (fE (fE S 2 (x.b%5)) 3 (x.c%5)) ⟨17+v-900,2,-1,if v=904 then 3 else 0,x.a%4,0,0⟩):=Z (by unfold cD;rw[E,if_pos f,K])
   obtain⟨es,c3,dN,ec,en⟩:=info_parts hT;have cl:=Z c3;clear c3;go_wp2_with fail
   with_reducible refine(jm S 2 (x.b%5) B b w1 Q.out R (by omega)).mono ?_
   rintro e w2 ⟨rfl,c7,a2,ad⟩;have cq:=Z c7;have av:Hid (Below B w w2/\a9 w1 w2):=Z ⟨r.1.trans a2,ad⟩;have eA:w2.cell? (C,3)=some (.int .u64 x.c):=(ad.row bi (by decide) (by decide)).cell rfl;have cS:B<=w2.heap.size:=by have:=a2.size;omega
   have c2:(fE S 2 (x.b%5)).code.length=S.code.length+1:=by simp[fE]
   have ch:=Z c2;clear c7 a2 ad c2 y0 ge gf gk go eC;go_wp2_with fail
   with_reducible refine(jm (fE S 2 (x.b%5)) 3 (x.c%5) B b w2 cq.out cS (by rw[ch.out];omega)).mono ?_
   rintro e q ⟨rfl,c8,a3,c4⟩;have T:Hid (Below B w q/\a9 w q):=Z ⟨av.1.trans a3,r.2.trans (av.2.trans c4)⟩;obtain⟨o,a1⟩:=nm (fE (fE S 2 (x.b%5)) 3 (x.c%5));have cQ:o.code.length=S.code.length+2:=by rw[<-a1];simp[fE]
   rw[a1]at d c8;have cW:B<=q.heap.size:=by have:=a3.size;omega
   obtain⟨c,a0⟩:=nm o.code.length;have hl:c<=900000:=by omega
   have M:=Z a0;obtain⟨H,p⟩:=c8;have cm:=Z p;have cb:q.cell? (b,0)=some H:=p.row.cell rfl;have bv:=p.row.free 0;have c5:=p.row.lt;have c9:H.ownBlock≠some b:=bh p.code p.row (by decide);have bw:q.ownsRow B 121 7 H c (o.code.flatMap dg):=by rw[<-a0];exact p.code
   clear p a3 c4 a1 cQ a0 eA;go_wp2_with (at_builtin;refine wpList_append_lies _ rfl _ _ _ rfl B 121 es _ 7 56 underlying30 cl dN ec en rfl (by omega) H c (o.code.flatMap dg) rfl (bw.alloc _) ⟨q.heap.size,0,none⟩ 1 1 [.int .i64 (17+v-900),.int .i64 2,.int .i64 (-1),.int .i64 0,.int .u64 (x.a%4),.int .i64 0,.int .i64 0] rfl rfl (World.news_of_block (cs:=#[.int .i64 (17+v-900),.int .i64 2,.int .i64 (-1),.int .i64 0,.int .u64 (x.a%4),.int .i64 0,.int .i64 0]) (t:=121) (fr:=(0,0)) (heap_alloc_new q _)) (by simp[Value.oneCell']) (by omega) (by unfold maxLen;omega) (by omega) (by simp;omega) (q.heap.size+1) (by simp) ?_)
   intro u A w4 al W cC hu;have et:w4.cell? (b,0)=some H:=(W.cell_far ⟨b,0,none⟩ (by simp;omega) (Ne.symm c9)).trans (by simp[go_sem,World.cell?_alloc_past,c5,cb]);have ex:w4.frozen? (b,0)=false:=(W.frozen_far ⟨b,0,none⟩ (by simp;omega) (Ne.symm c9)).trans (by simp[go_sem,World.frozen?_alloc_past,c5,bv]);have hm:c+1<=A:=by
    obtain⟨_,_,_,ab,_,V,_⟩:=aS al (by omega);injection ab with _ _ cA
    omega
   have s:Hid (qQ (w4.setCell (b,0) (.slice (some (u,0)) (c+1) A)) B b (.slice (some (u,0)) (c+1) A) J I {o with code:=o.code++[⟨17+v-900,2,-1,0,x.a%4,0,0⟩]}/\Below B q (w4.setCell (b,0) (.slice (some (u,0)) (c+1) A))/\a9 q (w4.setCell (b,0) (.slice (some (u,0)) (c+1) A))):=Z (cm.sF cW ⟨17+v-900,2,-1,0,x.a%4,0,0⟩ (by rw[M];exact al) (ax W));clear al W cC bw cb bv;by_cases G:v=904
   ·have dr:(v==904)=true:=by rw[beq_iff_eq];exact G
    rw[if_pos G]at d;clear G;go_upto_region 12 with fail
    obtain⟨a,g⟩:=nm (w4.setCell (b,0) (.slice (some (u,0)) (c+1) A));rw[g]at s⊢;have i4:a.cell? (b,0)=some (.slice (some (u,0)) (c+1) A):=s.1.row.cell rfl;have P:∃X,Row a u 121 ((o.code++[(⟨17+v-900,2,-1,0,x.a%4,0,0⟩:aV)]).flatMap dg++X):=by
     obtain⟨hi,hf,X,ab,_,V,_,am,_⟩:=aS s.1.code (by show 0<(o.code++[_]).length;simp);injection ab with N _ cA
     injection N with N
     injection N with N
     subst N;exact⟨X,am⟩
    obtain⟨X,P⟩:=P;have i5:a.cell? (u,c*7+3)=some (.int .i64 0):=P.cell (by
     rw[List.getElem?_append_left (by rw[a7 ej,List.length_append,M];simp;omega)];exact(bP ej (show(o.code++[(⟨17+v-900,2,-1,0,x.a%4,0,0⟩:aV)])[c]?=some (⟨17+v-900,2,-1,0,x.a%4,0,0⟩:aV)from by rw[<-M,List.getElem?_append_right (Nat.le_refl _),Nat.sub_self];rfl) (j:=3) (by omega)).trans rfl)
    have i6:=P.free (c*7+3);have hv:IntKind.i64.wrap ((c:Int)+1-1)=c:=by rw[show(c:Int)+1-1=c from by omega];exact IntWalk.i64_in _ (by omega)
    have hw:(c:Int)<c+1:=by omega
    have U:=Z (s.1.Eo (l:=o.code) (by rw[M]) 3);rw[M]at U;clear P g et ex;go_still_tail 10,(by kernel_rfl)
    change wpList _ _ _ _ _ a.drew;go_wp2_with fail
    go_end0
    rw[d];have O:=T.1.trans (s.2.1.trans U.2.1);exact⟨rfl,U.1.af ((Ch.refl _ _).drew),⟨O.os,O.tape,O.output,O.size,O.block⟩,T.2.trans (s.2.2.trans U.2.2)⟩
   ·have dr:(v==904)=false:=by rw[beq_eq_false_iff_ne];exact G
    rw[if_neg G]at d;clear G;go_wp2_with fail
    go_end0
    rw[d];exact⟨rfl,⟨_,s.1⟩,T.1.trans s.2.1,T.2.trans s.2.2⟩
  ·have d:Hid (cD S x=b5 S 70 [cellOf x,x.b%3,gJ x.c,1+x.d%3]):=Z (by unfold cD;rw[E,f];rfl)
   rw[K]at d;subst f;have ck:=Z (fun w=>sE x.c ap.c w);have i3:IntKind.u64.wrap (1+x.d%3)=1+x.d%3:=IntWalk.u64_in _ (by omega);have hF:x.b.tmod 3=x.b%3:=Int.tmod_eq_emod_of_nonneg u3;have i0:x.d.tmod 3=x.d%3:=Int.tmod_eq_emod_of_nonneg u7;go_wp2_with fail
   have ci:Hid (∀F,Ch ag w1 F->Row F w1.heap.size 56 ([x.a%4,x.b%3,gJ x.c,1+x.d%3].map (Value.int .u64))->Calls prog 46 #[(b,0),.int .i64 70,.slice (some (w1.heap.size,0)) 4 4] F (gC (b5 S 70 [x.a%4,x.b%3,gJ x.c,1+x.d%3]) B b J I F)):=
    Z (fun F V am=>ey S 70 [x.a%4,x.b%3,gJ x.c,1+x.d%3] (by simp) w1.heap.size 4 B b (by simp) F am (Q.af V) (by have:=V.size;omega) (by omega))
   go_region_held3 (fun w'=>w'.cell? (C,2)=some (.int .u64 x.b)/\w'.cell? (C,3)=some (.int .u64 x.c)/\w'.cell? (C,4)=some (.int .u64 x.d)) (go_keep) (first|(go_at_call 27;fail)|(go_at_call 86;(with_reducible refine(ck.out _).mono ?_);rintro e w' ⟨rfl,rfl⟩)|(go_at_call 46;refine(ci.out _ chi (by first|exact Row.new w1 _ _|exact(Row.new w1 _ _).drew)).mono ?_;rintro e a ⟨rfl,g,n,i⟩;have z:=Z g;have m:Hid (Below B w a):=Z (aaT r.out.1 R chi n);have y:Hid (a9 w a):=Z ((r.out.2.trans (a9.af chi)).trans i);have Y:=Z (((show a9 w1 a from(a9.af chi).trans i)).row bi.out (by decide) (by decide));have t2:a.cell? (C,2)=some (.int .u64 x.b):=Y.out.cell rfl;have t3:a.cell? (C,3)=some (.int .u64 x.c):=Y.out.cell rfl;have t4:a.cell? (C,4)=some (.int .u64 x.d):=Y.out.cell rfl;clear g n i))
   all_goals
    go_wp2_with fail
    go_end0
    rw[d];exact⟨rfl,z,⟨m.os,m.tape,m.out.output,m.size,m.block⟩,y⟩
  ·have d:Hid (cD S x=b5 S 71 [cellOf x,x.b%4,1+x.c%3]):=Z (by unfold cD;rw[E,f];rfl)
   rw[K]at d;subst f;have L:=Z (show Calls prog 46 #[(b,0),.int .i64 71,.slice (some (w1.heap.size,0)) 3 3] (w1.alloc (.cells #[.int .u64 (x.a%4),.int .u64 (x.b%4),.int .u64 (1+x.c%3)] 56)) (gC (b5 S 71 [x.a%4,x.b%4,1+x.c%3]) B b J I (w1.alloc (.cells #[.int .u64 (x.a%4),.int .u64 (x.b%4),.int .u64 (1+x.c%3)] 56)))from ey S 71 [x.a%4,x.b%4,1+x.c%3] (by simp) w1.heap.size 3 B b (by simp) (w1.alloc (.cells #[.int .u64 (x.a%4),.int .u64 (x.b%4),.int .u64 (1+x.c%3)] 56)) (Row.new w1 _ _) (Q.af chi) (by simp;omega) (by omega));go_wp2_with fail
   with_reducible refine L.out.mono ?_
   rintro e a ⟨rfl,g,n,i⟩;have z:=Z g;have m:Hid (Below B w a):=Z (aaT r.1 R chi n);have y:Hid (a9 w a):=Z ((r.2.trans (a9.af chi)).trans i);clear g n i;go_wp2_with fail
   go_end0
   rw[d];exact⟨rfl,z,m,y⟩
  ·have d:Hid (cD S x=b5 S 72 [cellOf x,x.b%3,x.c%4,x.d%3]):=Z (by unfold cD;rw[E,f];rfl)
   rw[K]at d;subst f;have L:=Z (show Calls prog 46 #[(b,0),.int .i64 72,.slice (some (w1.heap.size,0)) 4 4] (w1.alloc (.cells #[.int .u64 (x.a%4),.int .u64 (x.b%3),.int .u64 (x.c%4),.int .u64 (x.d%3)] 56)) (gC (b5 S 72 [x.a%4,x.b%3,x.c%4,x.d%3]) B b J I (w1.alloc (.cells #[.int .u64 (x.a%4),.int .u64 (x.b%3),.int .u64 (x.c%4),.int .u64 (x.d%3)] 56)))from ey S 72 [x.a%4,x.b%3,x.c%4,x.d%3] (by simp) w1.heap.size 4 B b (by simp) (w1.alloc (.cells #[.int .u64 (x.a%4),.int .u64 (x.b%3),.int .u64 (x.c%4),.int .u64 (x.d%3)] 56)) (Row.new w1 _ _) (Q.af chi) (by simp;omega) (by omega));go_wp2_with fail
   with_reducible refine L.out.mono ?_
   rintro e a ⟨rfl,g,n,i⟩;have z:=Z g;have m:Hid (Below B w a):=Z (aaT r.1 R chi n);have y:Hid (a9 w a):=Z ((r.2.trans (a9.af chi)).trans i);clear g n i;go_wp2_with fail
   go_end0
   rw[d];exact⟨rfl,z,m,y⟩
  ·have d:Hid (cD S x=b5 S 73 [cellOf x,x.b%3,x.c%4,x.d%3]):=Z (by unfold cD;rw[E,f];rfl)
   rw[K]at d;subst f;have L:=Z (show Calls prog 46 #[(b,0),.int .i64 73,.slice (some (w1.heap.size,0)) 4 4] (w1.alloc (.cells #[.int .u64 (x.a%4),.int .u64 (x.b%3),.int .u64 (x.c%4),.int .u64 (x.d%3)] 56)) (gC (b5 S 73 [x.a%4,x.b%3,x.c%4,x.d%3]) B b J I (w1.alloc (.cells #[.int .u64 (x.a%4),.int .u64 (x.b%3),.int .u64 (x.c%4),.int .u64 (x.d%3)] 56)))from ey S 73 [x.a%4,x.b%3,x.c%4,x.d%3] (by simp) w1.heap.size 4 B b (by simp) (w1.alloc (.cells #[.int .u64 (x.a%4),.int .u64 (x.b%3),.int .u64 (x.c%4),.int .u64 (x.d%3)] 56)) (Row.new w1 _ _) (Q.af chi) (by simp;omega) (by omega));go_wp2_with fail
   with_reducible refine L.out.mono ?_
   rintro e a ⟨rfl,g,n,i⟩;have z:=Z g;have m:Hid (Below B w a):=Z (aaT r.1 R chi n);have y:Hid (a9 w a):=Z ((r.2.trans (a9.af chi)).trans i);clear g n i;go_wp2_with fail
   go_end0
   rw[d];exact⟨rfl,z,m,y⟩
end Go.Proofs.YtfnilkpkogipfaaGreatDoor
