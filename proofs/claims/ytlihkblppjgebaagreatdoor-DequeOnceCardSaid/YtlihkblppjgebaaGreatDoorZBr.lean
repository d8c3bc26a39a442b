import Derived.Test.YtlihkblppjgebaaGreatDoorZBn
import Derived.Test.YtlihkblppjgebaaGreatDoorZBo
set_option linter.all false
set_option maxRecDepth 100000
set_option maxHeartbeats 8000000
namespace Go.Proofs.YtlihkblppjgebaaGreatDoor
open Go.RowKit Go.Proofs.Tryz
def cN(v n:Int):Int:=if n<1 then 0 else if Int.tmod v n<0 then Int.tmod v n+n else Int.tmod v n
theorem ot(v n:Int)(d:n<=1000000)(w:World):Calls prog 24 #[.int .i64 v,.int .i64 n] w (fun e w'=>e=.returned (.int .i64 (cN v n))/\w=w'):=by
 go_enter func24,ntmps24
 by_cases b:n<1
 ·have a:Hid (cN v n=0):=by show _=_;unfold cN;rw[if_pos b]
  go_wp2
  go_ret;rw[a.out];exact⟨rfl,rfl⟩
 ·have f:¬n=0:=by omega
  have g:=Int.tmod_lt_of_pos v (show 0<n by omega);have h:-n<Int.tmod v n:=by
   have:=Int.tmod_lt_of_pos (-v) (show 0<n by omega);rw[Int.neg_tmod]at this;omega
  by_cases c:Int.tmod v n<0
  ·have a:Hid (cN v n=Int.tmod v n+n):=by show _=_;unfold cN;rw[if_neg b,if_pos c]
   go_wp2
   go_ret;rw[a.out];exact⟨rfl,rfl⟩
  ·have a:Hid (cN v n=Int.tmod v n):=by show _=_;unfold cN;rw[if_neg b,if_neg c]
   go_wp2
   go_ret;rw[a.out];exact⟨rfl,rfl⟩
theorem dJ(v n:Int)(h:1<=n):0<=cN v n/\cN v n<n:=by
 unfold cN;have a:=Int.tmod_lt_of_pos v (show 0<n by omega);have b:-n<Int.tmod v n:=by
  have:=Int.tmod_lt_of_pos (-v) (show 0<n by omega);rw[Int.neg_tmod]at this;omega
 split
 ·omega
 ·split<;>omega
section
section
variable{w w':World}{χ:Nat->a4}{L:cw}{Y:Var}{C:KC}{K:KS}
theorem LY{N M:Nat}(d:oC C)(f:Inv N M K)(q:N<=400000)(p:M<=400000)(i:Nat)(a:i<K.wk.length)(hw:0<=K.w/\K.w<K.wk.length)(j:(K.W i).slot=0)(g:I8 C K i)(h:ae w χ L Y C K):
 Calls prog 43 #[.pointer (some ⟨L.mb,0,none⟩),.pointer (some ⟨L.wb,i*38,none⟩)] w (rB (.tuple #[]) χ L C (fI C K i) w):=by
 have n:=h.ky a;have hid:=j;rw[hid]at n;have l:=Z (Nh d f (by omega) (by omega) i a hw g h);have E:Hid (fI C K i=jT C K i):=Z (by unfold fI;rw[if_pos hid]);clear h f d a hw hid j g;go_enter func43,ntmps43
 go_wp2_with fail
 with_reducible refine l.out.mono ?_
 rintro e r ⟨rfl,o,m,c,k⟩;have b:=Z (And.intro c k);clear c k;go_wp2_with fail
 go_end0
 rw[E.out];exact⟨rfl,o,m,b.out.1,b.out.2⟩
theorem OY{N:Nat}(J:oC C)(a:Inv N 0 K)(c8:N<=300000)(i:Nat)(R:i<K.wk.length)(draw:Int)(P:aH draw)(U:(K.W i).slot=0)(S:I8 C (F8 K i draw) i)(O:∀i,χ i≠ .out)(h:ae w χ L Y C K):
 Calls prog 13 #[.pointer (some ⟨L.mb,0,none⟩),.agg #[.int .i64 1,.int .i64 i,.int .u64 draw]] w (B6 (gM C K 1 i draw) χ L C w):=by
 obtain⟨p,n⟩:=nm (w.alloc (.cells #[.int .i64 1,.int .i64 i,.int .u64 draw] 41));have B:=Z (Ch.al (D:=ag) n);have c:=Z (h.hg B.out);have q:Hid (Row p w.heap.size 41 [.int .i64 1,.int .i64 i,.int .u64 draw]/\χ w.heap.size=.no):=Z ⟨by rw[<-n];exact Row.new w _ _,h.fresh (Nat.le_refl _)⟩;obtain⟨t0,t1,t2⟩:=q.out.1.c3;obtain⟨en,m⟩:=nm K.entries;have y:=c.out.at_.setAt en;have z:=y.at_.BZ (-1);have a3:=z.at_.A5 draw;have A:=(y.trans (Gr.of_eq rfl) z).trans (Gr.of_eq rfl) a3;have ab:=A.at_.CH (wrap64 (en+1));have ad:=dB.af (A.trans (Gr.of_eq rfl) ab) (Ch.refl _ _).drew;obtain⟨K1,f⟩:=nm (({K with at_:=en,w:=-1,draw:=draw,entries:=wrap64 (en+1)}:KS));have b:Inv N 0 K1:=by rw[<-f];exact⟨a.core,a.nd,a.q,a.bW,a.bB,a.mem,a.obj,P,a.w0,a.w1,a.out⟩
 have g:Hid (dB χ L Y C K K1 p χ Y (((((p.setCell ⟨L.mb,1017,none⟩ (.int .i64 en)).setCell ⟨L.mb,1018,none⟩ (.int .i64 (-1))).setCell ⟨L.mb,1019,none⟩ (.int .u64 draw)).setCell ⟨L.mb,1016,none⟩ (.int .i64 (wrap64 (en+1)))).drew)):=Z (by rw[<-f];exact ad);have H:=c.out.at_.DM;rw[m]at H;have bv:=c.out.at_.Fg;have bw:=c.out.at_.Eu;have c0:=c.out.at_.BV;have f1:=c.out.at_.fz 1016;have f2:=c.out.at_.fz 1017;have f3:=c.out.at_.fz 1018;have f4:=c.out.at_.fz 1019;have c3:L.mb≠w.heap.size:=Nat.ne_of_lt h.EN;have cd:=c3.symm;have o:K1.wk.length=K.wk.length:=by rw[<-f]
 have T:I8 C {K1 with w:=(i:Int)} i:=by rw[<-f,<-m];exact S
 have V:(({K1 with w:=(i:Int)}:KS).W i).slot=0:=by rw[<-f];exact U
 have E:Hid (gM C K 1 i draw=((fI C {K1 with w:=(i:Int)} i).out,{fI C {K1 with w:=(i:Int)} i with out:=[]})):=Z (by
  have c2:(0:Int)<=(i:Int)/\(i:Int)<K.wk.length:=⟨by omega,by omega⟩;unfold gM;dsimp only;rw[if_neg (by decide),if_pos rfl,if_pos c2,<-f,<-m]
  rfl)
 have av:=Z O;obtain⟨v,x⟩:=nm K.wk.length;rw[x]at o R;have ce:v<=64:=by rw[<-x];exact a.w1
 have F:=Z o;clear y z a3 A ab ad h O f m;have X:(0:Int)<=(i:Int):=by omega
 have c4:(i:Int)<(v:Int):=by omega
 have Q:i<K1.wk.length:=by rw[o];omega
 have M:Inv N 0 ({K1 with w:=(i:Int)}:KS):=⟨b.core,b.nd,b.q,b.bW,b.bB,b.mem,b.obj,b.draw,b.w0,b.w1,b.out⟩;have bi:=Z (fun(w:World) (χ:Nat->a4) (Y:Var) (h:ae w χ L Y C ({K1 with w:=(i:Int)}:KS))=>LY J M (by omega) (by omega) i Q ⟨X,by show(i:Int)<K1.wk.length;omega⟩ V T h);have c9:decide (0<=(i:Int))=true:=by simpa using X
 have cb:decide ((i:Int)<(v:Int))=true:=by simpa using c4
 clear Q M T V;clear a b J P x o U S R;go_enter func13,ntmps13
 go_wp2_with fail
 try rw[n]
 clear n;go_region
 go_upto_region 7 with fail
 obtain⟨ch,a0⟩:=nm ((((((p.setCell ⟨L.mb,1017,none⟩ (.int .i64 en)).setCell ⟨L.mb,1018,none⟩ (.int .i64 (-1))).setCell ⟨L.mb,1019,none⟩ (.int .u64 draw)).setCell ⟨L.mb,1016,none⟩ (.int .i64 (wrap64 (en+1)))).drew));rw[a0]at g⊢;clear a0 H bv bw c0 f1 f2 f3 f4 t0 t1 t2;have r:=Z (g.out.nx.row q.out.1 q.out.2);have j:=r.out.1.k 1 rfl;have d:=g.out.at_.p7;rw[F.out]at d;go_quiet (fail)
 generalize a1:World.drewN _ _=c5;have t:=Z (Ch.dN (D:=ag) a1);clear a1 j d;have u:=Z (g.out.af t.out);have s:=Z ((Nx.af t.out).row r.out.1 r.out.2);have j:=s.out.1.k 1 rfl;have d:=u.out.at_.Eu;have c1:=u.out.at_.fz 1018;have W:=u.out.at_.BZ (i:Int);have G:=Z W;clear W;go_upto_region 9 with fail
 obtain⟨am,a2⟩:=nm (c5.setCell ⟨L.mb,1018,none⟩ (.int .i64 (i:Int)));rw[a2]at G⊢;clear a2 j d c1;have k:=G;have ap:=Z (k.out.nx.row s.out.1 s.out.2);have j:=ap.out.1.k 1 rfl;have d:=k.out.at_.p7;dsimp only at d;rw[F.out]at d;go_still_tail 8,(by kernel_rfl)
 change wpList _ _ _ _ _ am.drew;go_wp2_with fail
 with_reducible refine(bi.out _ _ _ k.out.at_.drew).mono ?_
 rintro e ci ⟨rfl,cl,c6,I,al⟩;have l:=Z (And.intro I ((((((Nx.af B.out).trans g.out.nx).trans (Nx.af t.out)).trans k.out.nx).trans (Nx.af (Ch.refl _ am).drew)).trans al));clear I al j d;have co:=l.out.1.rr;have c7:=l.out.1.fz 1020;go_wp2_with fail
 go_ret;rw[E.out];exact ae.sf l.out.1 l.out.2 av.out
theorem PV{mb N:Nat}(k:oC C)(l:Inv N 0 K)(m:N<=300000)(i:Nat)(o:i<K.wk.length)(draw:Int)(n:aH draw)(q:(K.W i).slot=0)(p:I8 C (F8 K i draw) i)(h:MS w χ mb C K):
 Calls prog 13 #[.pointer (some ⟨mb,0,none⟩),.agg #[.int .i64 1,.int .i64 i,.int .u64 draw]] w (Fo (gM C K 1 i draw) χ mb C w):=by
 obtain⟨L,Y,rfl,a,b⟩:=h;refine(OY k l m i o draw n q p b a).mono ?_;rintro e w' ⟨v,aW,Y',rfl,c,d,f,g,j⟩;exact⟨v,aW,rfl,c,d,⟨L,Y',rfl,f,j⟩,g⟩
end
end
theorem Od{α:Type}{enc:α->List Value}{k:Nat}(a:∀x,(enc x).length=k){w:World}{g q:Nat}{t:TypeId}{L:List α}{e:List Value}{X:α}(r:Row w g t (L.flatMap enc++e))(b:L[q]?=some X)(j:Nat)(hj:j<k)(v:Value)(d:(enc X)[j]?=some v):
 w.cell? ⟨g,q*k+j,none⟩=some v:=r.cell (by
 have c:=(List.getElem?_eq_some_iff.1 b).1;rw[List.getElem?_append_left (by rw[a7 a];exact Nat.lt_of_lt_of_le (Nat.add_lt_add_left hj _) (by rw[<-Nat.succ_mul];exact Nat.mul_le_mul_right _ c))];exact(bP a b hj).trans d)
theorem Nb{w:World}{B n s:Nat}{t:TypeId}{v:Value}{c:List Value}(h:w.ownsRow B t s v n c):n<=9223372036854775807:=by
 rcases Nat.eq_zero_or_pos n with e|e
 ·omega
 ·obtain⟨_,_,_,_,_,a,b,_,_⟩:=aS h e
  exact Nat.le_trans a b
structure R' where
 t:Int
 a:Int
 m:Int
 d:Int
def R'.cells(x:R'):List Value:=[.int .u64 x.t,.int .u64 x.a,.int .u64 x.m,.int .u64 x.d]
theorem Ra(L:List Int):L.map (Value.int .u64)=L.flatMap fun x=>[Value.int .u64 x]:=by
 induction L with
 |nil=>rfl
 |cons x L ih=>rw[List.map_cons,List.flatMap_cons,ih];rfl
end Go.Proofs.YtlihkblppjgebaaGreatDoor
