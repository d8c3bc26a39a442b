import Derived.ProofKit
import Derived.ChangeAt
import Derived.LaidMore
import Derived.HandedShaped
import Derived.Deep.Slices
import Derived.Deep.Fields
import Derived.ChangeSame
import Derived.SizedLaws
import Derived.OpenShut
import Derived.Deep.RegionHeld3
import Derived.Shelf.Vars
import Derived.Test.YtlihkblppjgebaaGreatDoorZBp
import Derived.Test.YtlihkblppjgebaaGreatDoorZBq
import Derived.Test.YtlihkblppjgebaaGreatDoorZBr
import Derived.Test.YtlihkblppjgebaaGreatDoorZBs
set_option linter.all false
set_option maxRecDepth 100000
set_option maxHeartbeats 8000000
namespace Go.Proofs.YtlihkblppjgebaaGreatDoor
open Go.RowKit Go.Proofs.Tryz
structure iK(x:fe):Prop where
 a:aH x.a
 b:aH x.b
 c:aH x.c
 d:aH x.d
def gD(w:World)(B:Nat)(v:Value)(l:List fe):Prop:=
 ∃a c,v=.slice a l.length c/\l.length<=c/\∀k x,l[k]?=some x->∃g b,a=some ⟨g,b,none⟩/\g<B/\∀j u,(Ds x)[j]?=some u->w.cell? ⟨g,b+k*5+j,none⟩=some u
structure fc where
 cV:Nat
 first:List fe
 others:List (List fe)
 once:List fe
 kV:Bool
def jn(w:World)(B:Nat)(v:Value)(l:List (List fe)):Prop:=
 ∃a c,v=.slice a l.length c/\l.length<=c/\∀k x,l[k]?=some x->∃g b d,a=some ⟨g,b,none⟩/\g<B/\w.cell? ⟨g,b+k,none⟩=some d/\gD w B d x
theorem gD.below{w w':World}{B:Nat}{v:Value}{l:List fe}(h:gD w B v l)(n:Below B w w'):gD w' B v l:=by
 obtain⟨a,c,f,i,m⟩:=h;refine⟨a,c,f,i,fun k x r=> ?_⟩;obtain⟨g,d,e,b,o⟩:=m k x r;exact⟨g,d,e,b,fun j u q=>(n.cell (p:=⟨g,d+k*5+j,none⟩) b).trans (o j u q)⟩
theorem jn.below{w w':World}{B:Nat}{v:Value}{l:List (List fe)}(h:jn w B v l)(b:Below B w w'):jn w' B v l:=by
 obtain⟨a,c,i,j,m⟩:=h;refine⟨a,c,i,j,fun k x q=> ?_⟩;obtain⟨g,f,r,e,d,o,n⟩:=m k x q;exact⟨g,f,r,e,d,(b.cell (p:=⟨g,f+k,none⟩) d).trans o,n.below b⟩
structure iy(P:fc):Prop where
 first:∀x∈P.first,iK x
 others:∀l∈P.others,∀x∈l,iK x
 once:∀x∈P.once,iK x
section
open Go.ChangeAt Go.ChangeShapes Go.Deep Go.WideShapes
set_option maxRecDepth 100000
def iA{α:Type}(w:World)(B:Nat)(v:Value)(k:Nat)(enc:α->List Value)(l:List α):Prop:=
 ∃a c,v=.slice a l.length c/\l.length<=c/\∀q x,l[q]?=some x->∃g b,a=some ⟨g,b,none⟩/\g<B/\∀j u,(enc x)[j]?=some u->w.cell? ⟨g,b+q*k+j,none⟩=some u
theorem kY{w:World}{a:Addr}{n:Nat}{u:Value}(h:w.cell? (a.add n)=some u):∃g e,a.block=g/\a.off=e/\w.cell? ⟨g,e+n,none⟩=some u/\(n=0->a=⟨g,e,none⟩):=by
 refine⟨a.block,a.off,rfl,rfl,?_,fun c=> ?_⟩
 ·unfold Addr.add at h
  by_cases c:n=0
  ·rw[if_pos c]at h
   subst c;have:a.spot=none:=by
    cases d:a.spot with
    |none=>rfl
    |some s=>
     unfold World.cell? at h;split at h
     ·rw[d]at h;cases h
     ·cases h
   obtain⟨b,e,s⟩:=a;dsimp only at this⊢;subst this;exact h
  ·rw[if_neg c]at h;exact h
 ·subst c
  rw[show a.add 0=a by unfold Addr.add;rw[if_pos rfl]]at h;cases d:a.spot with
  |none=>obtain⟨b,e,s⟩:=a;dsimp only at d⊢;rw[d]
  |some s=>
   unfold World.cell? at h;split at h
   ·rw[d]at h;cases h
   ·cases h
section
variable{H:Type}{enc:TypeId×Value->H}{w:World}{base:Nat}{spare:Nat->Bool}{held:Bool}
theorem lR{α:Type} [Inhabited α]{ec:α->List Value}{k:Nat}{Ok:α->Prop}{T E:TypeId}(J:prog.underlying T=some (.slice E))(O:prog.cellsOf E=k)(P:0<k)(M:∀x,(ec x).length=k)
 (N:∀n cs x a,w.cells? base a k=some cs->DataW.trod enc prog w base spare held n E cs=some x->∃X:α,Ok X/\∀r u,(ec X)[r]?=some u->w.cell? (a.add r)=some u)
 {fuel:Nat} {v:Value} {x:DataW H×List MemPlace} (h:DataW.trod enc prog w base spare held fuel T [v]=some x):∃l:List α,iA w w.heap.size v k ec l/\∀X∈l,Ok X:=by
 rcases open_slice J h with⟨d,Y⟩|⟨a,len,cap,m,n,D,Pl,s,a0,Q,a3,R,F,B⟩
 ·injection d with d _
  subst d;exact⟨[],⟨none,0,rfl,Nat.le_refl _,fun q x F=>by cases F⟩,fun X o=>by cases o⟩
 ·injection s with s _
  subst s;rw[O]at B;have a2:len<=m:=by rw[R];split<;>omega
  obtain⟨f,t⟩:=choose_lt (n:=len) (p:=fun i X=>Ok X/\∀r u,(ec X)[r]?=some u->w.cell? ((a.add (i*k)).add r)=some u) (fun i a1=>by
   obtain⟨W,L,U⟩:=B i (by omega);exact N _ _ _ _ L U)
  have hlen:((List.range len).map f).length=len:=by simp
  refine⟨(List.range len).map f,⟨some a,cap,by rw[hlen],by rw[hlen];exact Q,fun q x c=> ?_⟩,fun X o=> ?_⟩
  ·have C:q<len:=by have:=(List.getElem?_eq_some_iff.1 c).1;rwa [hlen]at this
   rw[List.getElem?_map,List.getElem?_range C]at c;have e:=Option.some.inj c;subst e;have b:∃u,w.cell? ((a.add (0*k)).add 0)=some u:=by
    have S:0<(ec (f 0)).length:=(by rw[M];exact P);exact⟨_,(t 0 (by omega)).2 0 _ (List.getElem?_eq_getElem S)⟩
   obtain⟨u0,b⟩:=b;rw[add_add,Nat.zero_mul,Nat.zero_add]at b;obtain⟨g,V,-,-,Z,G⟩:=kY b;have K:=G rfl;subst K;refine⟨g,V,rfl,World.block_lt_of_cell? w _ b,fun j u hj=> ?_⟩;have A:=(t q C).2 j u hj;rw[add_add]at A;obtain⟨g',ab,y,z,I,_⟩:=kY A;dsimp only at y z;subst y;subst z
   rwa [<-Nat.add_assoc]at I
  ·obtain⟨q,c,rfl⟩:=List.mem_map.1 o
   exact(t q (List.mem_range.1 c)).1
deriving instance Inhabited for fe
structure lT where
 kind:Int
 wk:Int
 draw:Int
 deriving Inhabited
def j7(x:lT):List Value:=[.int .i64 x.kind,.int .i64 x.wk,.int .u64 x.draw]
end
end
def pG(n:Int)(x:lT):Prop:=aH x.draw/\(x.kind=1/\0<=x.wk/\x.wk<n∨x.kind=2)
structure Ag(n:Int)(most:Nat)(w:World)(e:Ending)(w':World):Prop where
 ret:∃(S:List lT) (v:Value),e=.returned v/\w'.ownsRow w.heap.size 41 3 v S.length (S.flatMap j7)/\S.length<=most/\∀x∈S,pG n x
 ch:Ch ag w w'
section
theorem hY(S:aF)(a:Int):(S.acc 0 a 0 0).2=S:=by
 unfold aF.acc;split
 ·rfl
 ·rfl
def pk(K:KS)(a:Int):Int:=(hd K a).1
def eT(K:KS)(array n a:Int):Nat->Int->List Int
 |0,_=>[]
 |f+1,i=>if i<a/\0<n then pk K (IntKind.u64.wrap (IntKind.u64.wrap (array+1)+i.tmod n))::eT K array n a f (IntKind.u64.wrap (i+1))else []
theorem ht(K:KS)(array n a:Int)(f:Nat)(i:Int)(h:f=0∨¬(i<a/\0<n)):eT K array n a f i=[]:=by
 cases f with
 |zero=>rfl
 |succ f=>
  unfold eT;rw[if_neg (h.resolve_left (by omega))]
def ev(K:KS)(i:Int):Int×Int×List Int:=
 if i<0∨K.wk.length<=i then(0,0,[])else
  let at_:=gY i
  let top:=pk K at_
  let a:=pk K (IntKind.u64.wrap (at_+1))
  let array:=pk K (IntKind.u64.wrap (at_+2))
  (top,a,eT K array (pk K array) a 16 top)
section
variable{w:World}{χ:Nat->a4}{L:cw}{Y:Var}{C:KC}{K:KS}
theorem e6(h:ae w χ L Y C K)(a:Int):aH (pk K a):=by
 unfold pk hd aF.acc;split
 ·exact⟨Int.le_refl 0,by show(0:Int)<_;decide⟩
 ·show aH (K.mem.cells.getD a.toNat 0)
  rw[List.getD_eq_getElem?_getD];cases b:K.mem.cells[a.toNat]? with
  |none=>exact⟨by decide,by decide⟩
  |some x=>exact(h.mem (by simp)).is.u64 _ _ b
theorem eK(a:Int)(l:aH a)(h:ae w χ L Y C K):Calls prog 51 #[.pointer (some ⟨L.mb,0,none⟩),.int .u64 a] w (fun e w'=>e=.returned (.int .u64 (pk K a))/\dB χ L Y C K K w χ Y w'):=by
 have c:=h.cP;have j:=Z (lW L.m L.c L.d K.mem a l w (h.mem (by simp)).is);have H:=Z h;obtain⟨p,g⟩:=nm (K.mem.acc 0 a 0 0);obtain⟨r,S⟩:=p;have E:Hid (pk K a=r.getD 0/\({K with mem:=S}:KS)=K):=Z ⟨by unfold pk hd;rw[g],by have:=hY K.mem a;rw[g]at this;rw[show S=K.mem from this]⟩;rw[g]at j;clear h g;cases r with
 |none=>
  go_enter func51,ntmps51
  go_wp2_with (refine j.out.mono ?_;rintro e w1 ⟨⟨v,rfl,m⟩,b,d⟩;have i:=Z (H.out.o3 b d fun _ k=>gN k);clear b d m)
  go_ret;rw[E.out.1];have f:=i.out;rw[E.out.2]at f;exact⟨rfl,f⟩
 |some r=>
  go_enter func51,ntmps51
  go_wp2_with (refine j.out.mono ?_;rintro e w1 ⟨rfl,b,d⟩;have i:=Z (H.out.o3 b d fun _ k=>gN k);clear b d)
  go_ret;rw[E.out.1];have f:=i.out;rw[E.out.2]at f;exact⟨rfl,f⟩
structure R6(x:Int×Int×List Int)(χ:Nat->a4)(L:cw)(Y:Var)(C:KC)(K:KS)(w:World)(e:Ending)(w':World):Prop where
 ret:∃v,e=.returned (.tuple #[.int .u64 x.1,.int .u64 x.2.1,v])/\w'.ownsRow w.heap.size 39 1 v x.2.2.length (x.2.2.map (Value.int .u64))/\dB χ L Y C K K w χ Y w'
theorem hS{a pre:List Int}{arr n bot top j:Int}{k:Nat}{w':World}{v:Value}
 (c:pre.length=k/\a=pre++eT K arr n bot (16-k) j/\dB χ L Y C K K w χ Y w'/\w'.ownsRow w.heap.size 39 1 v k (pre.map (Value.int .u64)))
 (h:16-k=0∨¬(j<bot/\0<n)):R6 (top,bot,a) χ L Y C K w (.returned (.tuple #[.int .u64 top,.int .u64 bot,v])) w':=by
 obtain⟨d,b,e,f⟩:=c;rw[ht _ _ _ _ _ _ h,List.append_nil]at b;subst d b;exact⟨⟨v,rfl,f,e⟩⟩
theorem gq(i:Int)(h:ae w χ L Y C K):Calls prog 21 #[.pointer (some ⟨L.mb,0,none⟩),.int .i64 i] w (R6 (ev K i) χ L Y C K w):=by
 have H:=Z h;have c:=h.p7;have c8:=(h.wk (by simp)).n;obtain⟨p,s⟩:=nm K.wk.length;rw[s]at c c8;have G:=Z s;clear h s;have c4:i<0∨(p:Int)<=i∨0<=i/\i<p:=by omega
 rcases c4 with v|v|⟨S,c5⟩
 ·have E:Hid (ev K i=(0,0,[])):=Z (by unfold ev;rw[if_pos (Or.inl v)])
  go_enter func21,ntmps21
  go_wp2_with fail
  refine bodyPost_ret (results_tmp3 rfl _ _ _) rfl ?_;rw[E.out];exact⟨⟨.slice none 0 0,rfl,World.ownsRow_nil _ _ _ _,H.out.hg (Ch.refl _ _)⟩⟩
 ·have E:Hid (ev K i=(0,0,[])):=Z (by unfold ev;rw[if_pos (Or.inr (by rw[G.out];exact v))])
  have S:¬i<0:=by omega
  go_enter func21,ntmps21
  go_wp2_with fail
  refine bodyPost_ret (results_tmp3 rfl _ _ _) rfl ?_;rw[E.out];exact⟨⟨.slice none 0 0,rfl,World.ownsRow_nil _ _ _ _,H.out.hg (Ch.refl _ _)⟩⟩
 ·obtain⟨at_,b⟩:=nm (gY i)
  have D:=Z (fun W=>o5 i S (by omega) (.pointer (some ⟨L.mb,0,none⟩)) W);rw[b]at D;have c3:Hid (aH at_):=Z (by rw[<-b];exact cj _);obtain⟨top,o⟩:=nm (pk K at_);obtain⟨bot,f⟩:=nm (pk K (IntKind.u64.wrap (at_+1)));obtain⟨arr,m⟩:=nm (pk K (IntKind.u64.wrap (at_+2)));obtain⟨n,l⟩:=nm (pk K arr);have E:Hid (ev K i=(top,bot,eT K arr n bot 16 top)):=Z (by
   unfold ev;rw[if_neg (by rw[G.out];omega)];dsimp only;rw[b,o,f,m,l])
  have P:=Z (And.intro o (And.intro f (And.intro m l)));have Q:=Z (And.intro (o▸e6 H.out _) (And.intro (f▸e6 H.out _) (And.intro (m▸e6 H.out _) (l▸e6 H.out _))));obtain⟨ce,T,c9,cb,cd⟩:=info_parts jt;have al:=Z T;have cS:(p:Int)>i:=c5;clear b o f m l T;go_enter func21,ntmps21
  go_wp2_with fail
  with_reducible refine(D.out _).mono ?_
  rintro e w1 ⟨rfl,rfl⟩;clear c;go_wp2_with fail
  with_reducible refine(eK _ c3.out H.out).mono ?_
  rintro e w1 ⟨rfl,a1⟩;rw[P.out.1];have M:=Z a1;clear a1;go_wp2_with fail
  with_reducible refine(eK _ (cj _) M.out.at_).mono ?_
  rintro e w2 ⟨rfl,a2⟩;rw[P.out.2.1];have N:=Z (M.out.trans (Gr.refl _) a2);clear a2;go_wp2_with fail
  with_reducible refine(eK _ (cj _) N.out.at_).mono ?_
  rintro e cW ⟨rfl,ab⟩;rw[P.out.2.2.1];have O:=Z (N.out.trans (Gr.refl _) ab);clear ab;go_wp2_with fail
  with_reducible refine(eK _ Q.out.2.2.1 O.out.at_).mono ?_
  rintro e w4 ⟨rfl,ad⟩;rw[P.out.2.2.2];have bv:=Z (O.out.trans (Gr.refl _) ad);clear ad;obtain⟨J,r⟩:=nm (eT K arr n bot 16 top);have am:=Z r;rw[r]at E;clear r;go_wp2_with fail
  go_loopg [6,10] 17 (fun gk ci ch wr=>∃(k:Nat) (j:Int) (pre:List Int),k<=16/\gk=17-k/\ch=.int .u64 j/\pre.length=k/\aH j/\J=pre++eT K arr n bot (16-k) j/\dB χ L Y C K K w χ Y wr/\wr.ownsRow w.heap.size 39 1 ci k (pre.map (Value.int .u64)))
  case atStart=>exact⟨0,top,[],by omega,rfl,rfl,rfl,Q.out.1,am.out.symm,bv.out,World.ownsRow_nil _ _ _ _⟩
  case round=>
   obtain⟨k,j,pre,cC,rfl,rfl,a0,hj,U,V,y⟩:=hrel;have a:=Z (And.intro a0 (And.intro U (And.intro V y)));have cm:=Z hj;obtain⟨a3,c0,rfl⟩:=aA y;have cL:(k:Int)<=16:=(by omega);clear a0 U V y hj;by_cases c1:j<bot
   ·by_cases c2:0<n
    ·by_cases ct:k<16
     ·have cA:(k:Int)<16:=by omega
      obtain⟨x,z⟩:=nm (pk K (IntKind.u64.wrap (IntKind.u64.wrap (arr+1)+j.tmod n)));have ap:Hid (J=(pre++[x])++eT K arr n bot (16-(k+1)) (IntKind.u64.wrap (j+1))):=Z (by
       rw[a.out.2.1,show 16-k=(16-(k+1))+1 by omega,eT,if_pos ⟨c1,c2⟩,z,List.append_assoc];rfl)
      have bi:=Z z;clear z;go_wp2_with fail
      with_reducible refine(eK _ (cj _) a.out.2.2.1.at_).mono ?_
      rintro e B ⟨rfl,A⟩;rw[bi.out];have d:=Z (a.out.2.2.1.trans (Gr.refl _) A);have F:Hid (∀g,(Value.slice a3 k c0).ownBlock=some g->χ g=.no):=Z (fun g e=>H.out.fresh (a.out.2.2.2.lt g e).1);have I:=Z (ar a.out.2.2.2 A.nx.ch (fun g e q=>q (F.out g e)));have c7:=d.out.nx.ch.size;clear A;go_wp2_with (at_builtin;refine wpList_append_lies _ rfl _ _ _ rfl w.heap.size 39 ce _ 1 8 underlying29 al.out c9 cb cd rfl (by omega) _ k (pre.map (Value.int .u64)) rfl (I.out.alloc _) ⟨B.heap.size,0,none⟩ 1 1 [.int .u64 x] rfl rfl (World.news_of_block (cs:=#[.int .u64 x]) (t:=39) (fr:=(0,0)) (heap_alloc_new B _)) (by simp[Value.oneCell']) (by omega) (by unfold maxLen;omega) (by omega) (by simp;omega) (B.heap.size+1) (by simp) ?_)
      intro cq cap cl X R b c6;have u:=ax R;have av:=Z X;have bw:Hid (dB χ L Y C K K w χ Y cl):=Z ⟨d.out.at_.zS (Ch.bQ u) (fun g _ e=>F.out g e),⟨iP d.out.nx.ch I.out (Nat.le_refl _) u,d.out.nx.same⟩,d.out.yk⟩;clear R u X b c6 c7;go_wp2_with fail
      go_roundg (17-(k+1))
      case measure=>omega
      case rel=>exact⟨k+1,_,pre++[x],by omega,rfl,rfl,by rw[List.length_append,a.out.1];rfl,cj _,ap.out,bw.out,by rw[List.map_append];exact av.out⟩
     ·obtain rfl:k=16:=by omega
      go_wp2_with fail
      refine bodyPost_ret (results_tmp3 rfl _ _ _) rfl ?_;rw[E.out];exact hS a.out (Or.inl rfl)
    ·go_wp2_with fail
     refine bodyPost_ret (results_tmp3 rfl _ _ _) rfl ?_;rw[E.out];exact hS a.out (Or.inr fun h=>by omega)
   ·go_wp2_with fail
    refine bodyPost_ret (results_tmp3 rfl _ _ _) rfl ?_;rw[E.out];exact hS a.out (Or.inr fun h=>by omega)
end
end
section
def NY:KC:=ue dF 90 [] [⟨16,0,0,0,0,0,0⟩] 0 0 0
theorem Pj:∀x∈dF,aH x.v:=by
 have h:(dF.all fun x=>decide (0<=x.v/\x.v<18446744073709551616))=true:=by decide
 intro x a;have:=List.all_eq_true.1 h x a;show 0<=x.v/\x.v<18446744073709551616
 exact of_decide_eq_true this
theorem MN:e2 dF 90 []=true:=by kernel_rfl
theorem K9:ei [⟨16,0,0,0,0,0,0⟩] 0 0 0=true:=by kernel_rfl
theorem MO:oC NY:=vq MN K9 (Nat.zero_le _) Pj (fun x a=>by
 obtain rfl:=List.mem_singleton.1 a;exact⟨by decide,by decide⟩)
theorem Pk:(dF.all fun x=>decide ((1<=x.op/\x.op<=5∨x.op=9∨x.op=10∨x.op=11∨x.op=12∨x.op=13∨x.op=14∨x.op=15∨x.op=16)∨(x.op=17∨x.op=18∨x.op=20∨x.op=31∨x.op=32)∨(x.op=29∨x.op=38∨x.op=39∨x.op=42)∨x.op=30∨x.op=33∨x.op=43∨x.op=48))=true:=by decide
structure DM(N:Nat)(w:World)(χ:Nat->a4)(mb n:Nat)(K:KS)(s:AS):Prop where
 ms:MS w χ mb NY K
 iv:Inv N 0 K
 ar:cR (17+8*n) K.ds s
theorem NZ{ok:Hy}{n j:Nat}{s:AS}{w:AW}{x:aV}(I:∃g m,FB ok n s g m)(hw:s.wk[j]?=some w)(v:dF[w.pc]?=some x)(h:Sf x s w)(t:s.nb<64):Mc x s w NY.bn.length:=by
 obtain⟨i,k,l,o,p,r⟩:=h;have u:=of_decide_eq_true (List.all_eq_true.1 Pk x (List.mem_of_getElem? v));unfold Mc;rcases u with q|q|q|q|q|q|q
 ·by_cases c:x.op=9
  ·exact Or.inl (by have:=i c;omega)
  ·by_cases f:x.op=15
   ·have:=k f
    exact Or.inr (Or.inl (by omega))
   ·by_cases e:x.op=16
    ·exact Or.inr (Or.inl (Or.inr (Or.inr (Or.inr (Or.inr ⟨e,l e⟩)))))
    ·rcases q with q|q|q|q|q|q|q|q|q
     ·exact Or.inl (by omega)
     ·omega
     ·exact Or.inl (by omega)
     ·exact Or.inl (by omega)
     ·exact Or.inr (Or.inl (by omega))
     ·exact Or.inr (Or.inl (by omega))
     ·exact Or.inr (Or.inl (by omega))
     ·omega
     ·omega
 ·exact Or.inr (Or.inr (Or.inl ⟨q,o q⟩))
 ·exact Or.inr (Or.inr (Or.inr (Or.inl q)))
 ·exact Or.inr (Or.inr (Or.inr (Or.inr (Or.inl q))))
 ·exact Or.inr (Or.inr (Or.inr (Or.inr (Or.inr (Or.inl ⟨q,p q⟩)))))
 ·exact Or.inr (Or.inr (Or.inr (Or.inr (Or.inr (Or.inr (Or.inl q))))))
 ·obtain⟨a,b⟩:=r q
  exact Or.inr (Or.inr (Or.inr (Or.inr (Or.inr (Or.inr (Or.inr ⟨q,a,by rw[b];show 0<1;decide,t⟩))))))
section
variable{ok:Hy}{N n j d mb:Nat}{s:AS}{K:KS}{w:World}{χ:Nat->a4}
theorem N0{g:Gh}{m:Nat->Nat}{x:AW}(I:FB ok n s g m)(hw:s.wk[j]?=some x):x.hand<qO:=by
 by_cases h:x.hand=0
 ·rw[h];decide
 ·have a:=(I.li.hd j x hw h).1.2
  have b:s.nb<=64:=I.si.nb;have a:x.hand<64+s.nb:=a;unfold qO;omega
theorem Q3(f:cR (17+8*n) K.ds s)(I:FK ok n s)(hj:j<n)(o:ok.ok j d)(l:d<qO)(k:s.nb<64):JN (17+8*n) NY K j d (aaq s j d):=by
 obtain⟨g,m,a,_⟩:=I;obtain⟨x,b⟩:=a.at_ hj;obtain⟨i,c,h,_⟩:=JW a b o;have e:=List.all_eq_true.1 P0 i (List.mem_of_getElem? c);rw[Bool.and_eq_true]at e;rw[HV b c];exact NC f b c e.2 (by decide) e.1 (NZ ⟨g,m,a⟩ b c h k) l (by rw[a.nw];exact a.si.n1) (N0 a b)
theorem MP(a:cR (17+8*n) K.ds s)(I:FK ok n s)(hj:j<n):j<K.wk.length/\(K.W j).slot=0:=by
 obtain⟨g,m,b,_⟩:=I;obtain⟨x,e⟩:=b.at_ hj;obtain⟨c,hw⟩:=a.at_ e;exact⟨c,hw.slot⟩
def Sk(N:Nat)(χ:Nat->a4)(mb n:Nat)(s:AS)(w:World)(e:Ending)(w':World):Prop:=
 ∃v aW K',e=.returned v/\DM N w' aW mb n K' s/\Nx χ aW w w'
theorem Q4(D:DM N w χ mb n K s)(I:FK ok n s)(hj:j<n)(m:ok.ok j d)(b:d<qO)(l:s.nb<64)(k:N<=300000):
 Calls prog 13 #[.pointer (some ⟨mb,0,none⟩),.agg #[.int .i64 1,.int .i64 j,.int .u64 d]] w (Sk (N+1) χ mb n (aaq s j d) w):=by
 have g:aH (d:Int):=⟨by omega,by unfold qO at b;omega⟩;have a:=Q3 D.ar I hj m b l;obtain⟨c,f⟩:=MP D.ar I hj;refine(PV MO D.iv k j c d g f a.ml D.ms).mono ?_;rintro e w' ⟨v,aW,rfl,-,-,h,i⟩;exact⟨v,aW,_,rfl,⟨h,Lj MO D.iv (by omega) c d g f a.ml,a.ar⟩,i⟩
theorem Lz(D:DM N w χ mb n K s)(I:FK ok n s)(hj:j<n):
 Calls prog 55 #[.pointer (some ⟨mb,0,none⟩),.int .i64 j] w (fun e w'=>∃a b c d,e=.returned (.tuple #[.agg #[.int .u64 a,.int .u64 b,.bool c,.int .i64 (Ia s j),.int .i64 d],.bool true])/\Ch ag w w'):=by
 obtain⟨g,m,k,_⟩:=I;obtain⟨x,h⟩:=k.at_ hj;obtain⟨i,f,l⟩:=D.ar.wk j x h;have f:K.wk[j]?=some i:=f;have e:K.W j=i:=by unfold KS.W;rw[List.getD_eq_getElem?_getD,f];rfl
 obtain⟨L,Y,rfl,o,_⟩:=D.ms;refine(sP j (List.getElem?_eq_some_iff.1 f).1 o).mono ?_;rintro E w' ⟨rfl,p⟩;rw[e,l.pc,<-HX h];exact⟨_,_,_,_,rfl,p⟩
theorem N1(D:DM N w χ mb n K s):Calls prog 19 #[.pointer (some ⟨mb,0,none⟩)] w (Ah (s.ring.map fun y:Nat=>(y:Int)) w):=by
 obtain⟨L,Y,rfl,a,_⟩:=D.ms;have:=xI a
 rwa [show K.ring=_ from D.ar.ring]at this
theorem DM.af{w':World}(D:DM N w χ mb n K s)(c:Ch ag w w'):DM N w' χ mb n K s:=⟨D.ms.af c,D.iv,D.ar⟩
theorem DM.zS{w':World}{P:Nat->Prop}(D:DM N w χ mb n K s)(c:Ch P w w')(h:∀i,i<w.heap.size->P i->χ i=.no):DM N w' χ mb n K s:=⟨D.ms.zS c h,D.iv,D.ar⟩
end
end
section
section
variable{T D:ByteArray}{L:List (ByteArray×Int)}
set_option maxRecDepth 1000000 in
theorem Kk(X:I4 T D L)(w:World):Calls prog 53 #[] w (fun e w'=>e=.returned (.string T)/\w'=w):=by
 have a:=Z X.t;clear X;go_enter func53,ntmps53
 go_wp2
 go_ret;refine⟨?_,rfl⟩;rw[a.out]
 kernel_rfl
set_option maxRecDepth 1000000 in
theorem I5(X:I4 T D L)(v:Value)(m:Int)(w:World)(d:w.cell? ⟨1,0,none⟩=some (.int .i64 m)):Calls prog 26 #[v] w (dt (.int .i64 90) w):=by
 have j:=Z (Kk X);have i:Hid (∀Y,Y=D->Calls prog 52 #[.agg #[.string (T++Y),.int .i64 14]] w (Pr dF 90 w)):=Z (fun Y e=>by
  rw[e];exact Jp (T++D) dF L X.p X.s (by decide) X.l0 X.l1 90 X.loop X.born m w d)
 have h:=Z X.d;have k:T.size<=65536:=by have:=X.s;rw[ByteArray.size_append]at this;omega
 clear X d;go_enter func26,ntmps26
 go_wp2_with fail
 with_reducible refine(j.out _).mono ?_
 rintro e w1 ⟨rfl,rfl⟩;go_wp2_with fail
 with_reducible refine(i.out _ (by rw[h.out];kernel_rfl)).mono ?_
 rintro e w2 ⟨l,rfl,f,b⟩;obtain⟨a,c,rfl⟩:=aA f;have g:=Z b;clear f b;go_wp2_with fail
 go_ret;exact dt.mk rfl (g.out.alloc _)
def Px(w:World)(e:Ending)(w':World):Prop:=∃v,e=.returned (.agg #[v,.int .i64 0,.int .i64 0,.int .i64 0])/\w'.ownsRow w.heap.size 184 7 v 1 ([⟨16,0,0,0,0,0,0⟩].flatMap dg)/\Ch ag w w'
theorem Kl(w:World):Calls prog 54 #[] w (Px w):=by
 obtain⟨B,c⟩:=nm w.heap.size;have b:=Z c;go_enter func54,ntmps54
 go_wp2_with fail
 obtain⟨w4,a⟩:=nm ((w.alloc (.cells #[.slice (some ⟨B+1,0,none⟩) 1 1,.int .i64 0,.int .i64 0,.int .i64 0] 77)).alloc (.cells #[.int .i64 16,.int .i64 0,.int .i64 0,.int .i64 0,.int .u64 0,.int .i64 0,.int .i64 0] 184));have d:Hid (Ch ag w w4):=Z (by rw[<-a];exact((Ch.refl _ _).alloc _).alloc _);have e:Hid (Row w4 B 77 [.slice (some ⟨B+1,0,none⟩) 1 1,.int .i64 0,.int .i64 0,.int .i64 0]):=Z (by rw[<-a,<-b.out];exact(Row.new _ _ _).alloc _);have f:Hid (Row w4 (B+1) 184 (dg ⟨16,0,0,0,0,0,0⟩)):=Z (by
  rw[<-a,<-b.out];have:=Row.new (w.alloc (.cells #[.slice (some ⟨w.heap.size+1,0,none⟩) 1 1,.int .i64 0,.int .i64 0,.int .i64 0] 77)) #[.int .i64 16,.int .i64 0,.int .i64 0,.int .i64 0,.int .u64 0,.int .i64 0,.int .i64 0] 184;rw[World.size_alloc]at this;exact this)
 rw[a];clear a c;obtain⟨y0,g,h,i⟩:=e.out.c4;refine bodyPost_ret (v:=.agg #[.slice (some ⟨B+1,0,none⟩) 1 1,.int .i64 0,.int .i64 0,.int .i64 0]) ?_ rfl ?_
 ·simp[results,Tryz.f54,go_sem,y0,g,h,i]
 ·exact⟨_,rfl,mm f.out rfl (by decide) (by have:=b.out;omega),d.out⟩
def Q9(n tt:Nat)(w:World)(e:Ending)(w':World):Prop:=
 ∃mb χ,e=.returned (.pointer (some ⟨mb,0,none⟩))/\MS w' χ mb NY (hC NY n tt)/\(∀i,χ i≠ .no->w.heap.size<=i)/\Ch ag w w'
end
section
variable{T D:ByteArray}{L:List (ByteArray×Int)}
set_option maxRecDepth 1000000 in
theorem LS(X:I4 T D L)(n tt:Nat)(E:1<=n/\n<=64)(G:17+8*n+1<=tt/\tt<=65536)(m:Int)(w:World)(B:w.cell? ⟨1,0,none⟩=some (.int .i64 m))
 (q:w.cell? ⟨0,0,none⟩=some (.iface 390 (.agg #[.pointer (some ⟨4,85,none⟩)]))):
 Calls prog 25 #[.int .i64 n,.int .i64 tt] w (Q9 n tt w):=by
 have U:=Z (Kk X);have M:Hid (∀Y,Y=D->Calls prog 52 #[.agg #[.string (T++Y),.int .i64 14]] w (Pr dF 90 w)):=Z (fun Y e=>by
  rw[e];exact Jp (T++D) dF L X.p X.s (by decide) X.l0 X.l1 90 X.loop X.born m w B)
 have J:=Z X.d;have I:=Z (fun w=>Kl w);have O:Hid (∀(j k:Value) (t u:Nat) (W:World),W.ownsRow t 184 7 j 107 (dF.flatMap dg)->W.ownsRow u 184 7 k 1 ([⟨16,0,0,0,0,0,0⟩].flatMap dg)->Ch ag w W->Calls prog 34 #[.agg #[.int .i64 n,.int .i64 tt],.agg #[j,.int .i64 90,.slice none 0 0],.agg #[k,.int .i64 0,.int .i64 0,.int .i64 0]] W (Dn NY n tt W)):=Z (fun j k t u W V a0 c=>
  Ng n tt E ⟨by omega,G.2⟩ dF 90 [⟨16,0,0,0,0,0,0⟩] 0 0 0 MN K9 (by omega) j k W V a0 ((c.cell (aE q) (fun e=>e)).trans q))
 have a3:T.size<=65536:=by have:=X.s;rw[ByteArray.size_append]at this;omega
 clear X B q E G;go_enter func25,ntmps25
 go_wp2_with fail
 with_reducible refine(U.out _).mono ?_
 rintro e w1 ⟨rfl,rfl⟩;go_wp2_with fail
 with_reducible refine(M.out _ (by rw[J.out];kernel_rfl)).mono ?_
 rintro e w2 ⟨j,rfl,l,x⟩;obtain⟨a,c,rfl⟩:=aA l;have H:=Z x;clear x;rw[show dF.length=107 from rfl]at l;simp only[show dF.length=107 from rfl];have P:=Z l;clear l;go_wp2_with fail
 obtain⟨b,s⟩:=nm w2.heap.size;obtain⟨d,g⟩:=nm (w2.alloc (.cells #[.slice a 107 c,.int .i64 90,.slice none 0 0] 90));have S:Hid (Row d b 90 [.slice a 107 c,.int .i64 90,.slice none 0 0]):=Z (by rw[<-g,<-s];exact Row.new _ _ _);have o:Hid (Ch ag w1 d):=Z (by rw[<-g];exact H.out.alloc _);have Q:Hid (d.ownsRow w1.heap.size 184 7 (.slice a 107 c) 107 (dF.flatMap dg)):=Z (by rw[<-g];exact P.out.alloc _);rw[g,s];clear g s;have p:Hid (∀W,Ch ag d W->W.cell? ⟨b,0,none⟩=some (.slice a 107 c)/\W.cell? ⟨b,1,none⟩=some (.int .i64 90)/\W.cell? ⟨b,2,none⟩=some (.slice none 0 0)):=Z (fun W c=>by
  have r:=S.out.ch c (fun h=>h);exact⟨r.cell rfl,r.cell rfl,r.cell rfl⟩)
 obtain⟨t0,t1,t2⟩:=p.out _ (Ch.refl _ _);go_region_held3 (fun w'=>w'.cell? ⟨b,0,none⟩=some (.slice a 107 c)/\w'.cell? ⟨b,1,none⟩=some (.int .i64 90)/\w'.cell? ⟨b,2,none⟩=some (.slice none 0 0)) (go_keep) (first
  |(go_at_call 54;refine(I.out _).mono ?_;rintro e w4 ⟨k,rfl,F,y⟩;have f:Hid (Ch ag d w4):=Z (Ch.trans PL y);have R:=Z F;obtain⟨t0,t1,t2⟩:=p.out _ f.out;clear F y)
  |(go_at_call 34;refine(O.out _ _ _ _ _ (ar Q.out (f.out.trans PL) (fun _ _ e=>e)) (ar R.out PL (fun _ _ e=>e)) (o.out.trans (f.out.trans PL))).mono ?_;rintro e a2 ⟨mb,χ,rfl,C,A,z⟩;have v:Hid (Ch ag d a2):=Z (f.out.trans (Ch.trans PL z));have N:=Z C;have K:Hid (∀i,χ i≠ .no->w1.heap.size<=i):=Z (fun i a1=>Nat.le_trans (o.out.trans (f.out.trans PL)).size (A i a1));obtain⟨t0,t1,t2⟩:=p.out _ v.out;clear C A z))
 all_goals
  go_wp2_with fail
  go_ret;exact⟨mb,χ,rfl,N.out,K.out,o.out.trans v.out⟩
end
end
section
section
variable{ok:Hy}{n j d mb N M f:Nat}{s s' S:AS}{w w' W:World}{T D:ByteArray}{L:List (ByteArray×Int)}
structure LW(w:World)(mb n N:Nat)(s:AS)(W:World):Prop where
 d:∃χ K M,M<=N/\DM M W χ mb n K s/\∀i,χ i≠ .no->w.heap.size<=i
 c:Ch ag w W
theorem LW.af(h:LW w mb n N s W)(c:Ch ag W w'):LW w mb n N s w':=by
 obtain⟨χ,K,M,a,b,e⟩:=h.d;exact⟨⟨χ,K,M,a,b.af c,e⟩,h.c.trans c⟩
theorem LW.more(h:LW w mb n N s W)(e:N<=M):LW w mb n M s W:=by
 obtain⟨χ,K,q,c,a,b⟩:=h.d;exact⟨⟨χ,K,q,by omega,a,b⟩,h.c⟩
theorem LW.cell(h:LW w mb n N s W){a:Addr}{v:Value}(b:w.cell? a=some v):W.cell? a=some v:=(h.c.cell (aE b) (fun e=>e)).trans b
def Oe(w:World)(mb n N:Nat)(s:AS)(e:Ending)(w':World):Prop:=∃v,e=.returned v/\LW w mb n N s w'
theorem OV(h:LW w mb n N s W)(I:FK ok n s)(hj:j<n)(l:ok.ok j d)(k:d<qO)(i:s.nb<64)(o:N<=300000):
 Calls prog 13 #[.pointer (some ⟨mb,0,none⟩),.agg #[.int .i64 1,.int .i64 j,.int .u64 d]] W (Oe w mb n (N+1) (aaq s j d)):=by
 obtain⟨χ,K,M,m,c,a⟩:=h.d;refine(Q4 c I hj l k i (by omega)).mono ?_;rintro e w' ⟨v,aW,K',rfl,g,b⟩;exact⟨v,rfl,⟨aW,K',M+1,by omega,g,mO a b h.c.size⟩,jl a b h.c⟩
def Rb(p:Nat)(w:World)(e:Ending)(w':World):Prop:=∃a b c d,e=.returned (.tuple #[.agg #[.int .u64 a,.int .u64 b,.bool c,.int .i64 p,.int .i64 d],.bool true])/\Ch ag w w'
theorem LU(h:LW w mb n N s W)(I:FK ok n s)(hj:j<n):Calls prog 55 #[.pointer (some ⟨mb,0,none⟩),.int .i64 j] W (Rb (Ia s j) W):=by
 obtain⟨χ,K,M,b,a,c⟩:=h.d;exact Lz a I hj
theorem Ld(h:LW w mb n N s W):Calls prog 19 #[.pointer (some ⟨mb,0,none⟩)] W (Ah (s.ring.map fun y:Nat=>(y:Int)) W):=by
 obtain⟨χ,K,M,b,a,c⟩:=h.d;exact N1 a
theorem Rd{x:aV}{w:AW}:s.nb<=(ck x s j d w).nb:=by
 have h:∀(S:AS) (y:AW),s.nb<=S.nb->s.nb<=(S.put j y).nb:=fun S y e=>e
 show(fun a:AS=>s.nb<=a.nb) (ck x s j d w)
 unfold ck;dsimp only
 repeat' first|exact h _ _ (Nat.le_refl _)|exact h _ _ (Nat.le_succ _)|refine OQ (P:=fun a:AS=>s.nb<=a.nb) ?_ ?_
theorem Le:s.nb<=(aaq s j d).nb:=by
 unfold aaq;split
 ·exact Nat.le_refl _
 ·split
  ·exact Nat.le_refl _
  ·exact Rd
theorem OW:∀(f:Nat) (s:AS),s.nb<=(GC f s j d).nb
 |0,s=>Nat.le_refl _
 |f+1,s=>by
  unfold GC;split
  ·exact Le
  ·exact Nat.le_trans Le (OW f _)
theorem gR:∀(f:Nat) (s:AS),s.nb<=(Ph f s j d).nb
 |0,s=>Nat.le_refl _
 |f+1,s=>by
  unfold Ph;split
  ·exact Nat.le_refl _
  ·exact Nat.le_trans Le (gR f _)
theorem Py(h:Ia (aaq s j d) j=90):GC (f+1) s j d=aaq s j d:=by unfold GC;rw[if_pos h]
theorem Re(h:¬Ia (aaq s j d) j=90):GC (f+1) s j d=GC f (aaq s j d) j d:=by rw[GC,if_neg h]
def Lf(l:List Nat):Nat:=l.getD (l.length-1) 0
def Rf(w:World)(mb n N:Nat)(s:AS)(e:Ending)(w':World):Prop:=e=.returned (.tuple #[.int .i64 s.ring.length,.int .u64 (Lf s.ring)])/\LW w mb n N s w'
theorem Nc(X:I4 T D L)(h:LW w mb n N s W)(I:FK ok n s)(hj:j<n)(Q:ok.ok j d)(al:d<qO)(K:(GC 500 s j d).nb<64)(cd:N+500<=300000)(m:Int)(ap:w.cell? ⟨1,0,none⟩=some (.int .i64 m)):
 Calls prog 27 #[.pointer (some ⟨mb,0,none⟩),.int .i64 j,.int .u64 d] W (Rf w mb n (N+500) (GC 500 s j d)):=by
 have c0:=Z (I5 X (.pointer (some ⟨mb,0,none⟩)) m W (h.cell ap));obtain⟨l,J⟩:=nm (GC 500 s j d);have c6:=Z J;rw[J]at K⊢;have c2:Hid (∀k S wr,k<500->LW w mb n (N+k) S wr->FK ok n S->GC (500-k) S j d=l->Calls prog 13 #[.pointer (some ⟨mb,0,none⟩),.agg #[.int .i64 1,.int .i64 j,.int .u64 d]] wr (Oe w mb n (N+k+1) (aaq S j d))):=Z (fun k S wr ce G r cb=>
  OV G r hj Q al (Nat.lt_of_le_of_lt (by rw[<-cb];exact OW _ _) K) (by omega))
 have c9:Hid (∀N S wr,LW w mb n N S wr->FK ok n S->Calls prog 55 #[.pointer (some ⟨mb,0,none⟩),.int .i64 j] wr (Rb (Ia S j) wr)):=Z (fun N S wr G r=>LU G r hj);have c8:Hid (∀S,FK ok n S->FK ok n (aaq S j d)):=Z (fun S h=>h.step hj Q);have bi:=Z h;have c3:=Z I;clear X h I J K ap al Q cd;go_enter func27,ntmps27
 go_wp2_with fail
 with_reducible refine c0.out.mono ?_
 rintro e w1 ⟨rfl,ab⟩;have bv:=Z (bi.out.af ab);clear ab;go_upto_block 0 with fail
 go_cut [] (fun wc=>LW w mb n (N+500) l wc)
 case first=>
  go_wp2_with fail
  go_loopw [9] (fun i wr=>∃(k:Nat) (S:AS),k<=500/\i=.int .i64 k/\LW w mb n (N+k) S wr/\FK ok n S/\GC (500-k) S j d=l) (fun i _=>500-(intOf i).toNat)
  case atStart=>exact⟨0,s,by omega,rfl,bv.out,c3.out,c6.out⟩
  case round=>
   obtain⟨k,S,ce,rfl,E,C,z⟩:=hrel;by_cases ch:k<500
   ·have c1:=Z (c2.out k S wr ch E C z)
    have a1:=Z (c8.out S C);have B:=Z z;have cS:(k:Int)<500:=(by omega);clear E C z;go_wp2_with fail
    with_reducible refine c1.out.mono ?_
    rintro e w2 ⟨v,rfl,r⟩;have V:=Z r;clear r;go_wp2_with fail
    with_reducible refine(c9.out _ _ _ V.out a1.out).mono ?_
    rintro e es ⟨a,b,c,cL,rfl,ad⟩;have Y:=Z (V.out.af ad);clear ad;obtain⟨P,H⟩:=nm (Ia (aaq S j d) j);rw[H];have a2:=Z H;clear H;by_cases A:P=90
    ·subst A
     go_wp2_with fail
     go_meet
     have q:=B.out;rw[show 500-k=(499-k)+1 by omega,Py a2.out]at q;rw[<-q];exact(Y.out.af ((Ch.refl _ _).alloc _)).more (by omega)
    ·have dr:((P:Int)==90)=false:=by simp;omega
     go_wp2_with fail
     go_roundw
     case rel=>
      refine⟨k+1,_,by omega,by go_num,(Y.out.af ((Ch.refl _ _).alloc _)).more (by omega),a1.out,?_⟩;have q:=B.out;rw[show 500-k=(499-k)+1 by omega,Re (by rw[a2.out];exact A)]at q;rw[show 500-(k+1)=499-k by omega];exact q
     case measure=>simp[intOf];omega
   ·obtain rfl:k=500:=by omega
    have c4:=Z E;have B:Hid (S=l):=Z z;clear E C z;go_wp2_with fail
    go_meet
    rw[<-B.out];exact c4.out
 case rest=>
  have bw:=Z hcut;have c7:=Z (Ld hcut);clear hcut;go_wp2_with fail
  with_reducible refine c7.out.mono ?_
  rintro e w4 cl;obtain⟨⟨en,rfl,o⟩,O⟩:=cl;have a0:=Z (bw.out.af O);obtain⟨ct,cC,rfl⟩:=aA o;rw[List.length_map]at o⊢;by_cases u:l.ring.length=0
  ·rw[u]
   clear o O;have c5:Hid (l.ring=[]):=Z (List.length_eq_zero_iff.1 u);clear u;go_wp2_with fail
   refine bodyPost_ret (v:=.tuple #[.int .i64 0,.int .u64 0]) ?_ rfl ?_
   ·simp[results,Tryz.f27,go_sem]
   ·refine⟨?_,a0.out⟩
    rw[c5.out];rfl
  ·obtain⟨x,R⟩:∃x,l.ring[l.ring.length-1]?=some x:=⟨_,List.getElem?_eq_getElem (by omega)⟩
   have am:Lf l.ring=x:=(by unfold Lf;rw[List.getD_eq_getElem?_getD,R];rfl);have U:(l.ring.map fun y:Nat=>(y:Int))[l.ring.length-1]?=some (x:Int):=(by rw[List.getElem?_map,R];rfl);rw[Ra]at o;have ci:=Nb o;obtain⟨q,t⟩:=nm l.ring.length;obtain⟨p,A⟩:=nm (q-1);rw[t]at u;rw[t,A]at U;rw[t]at o ci;obtain⟨g,cA,ec,F,-,-,-,av,-⟩:=aS o (by omega);injection F with F cq cs
   subst F;have cm:=Od (k:=1) (fun _=>rfl) av U 0 (by decide) _ rfl;rw[Nat.mul_one,Nat.add_zero]at cm;have a3:Hid (l.ring.length=q/\Lf l.ring=x):=Z ⟨t,am⟩;rw[t];have dN:((q:Int)==0)=false:=(by simp;omega);have cW:(q:Int)-1=p:=(by omega);have dC:p<q:=(by omega);clear o av U O cq cs R am t u A;go_upto_region 11 with fail
   go_quiet (fail)
   go_wp2_with fail
   refine bodyPost_ret (v:=.tuple #[.int .i64 q,.int .u64 x]) ?_ rfl ?_
   ·simp[results,Tryz.f27,go_sem]
   ·refine⟨?_,a0.out.af ?_⟩
    ·rw[a3.out.1,a3.out.2]
    ·repeat(first|exact Ch.refl _ _|with_reducible refine Ch.drewN ?_ _|with_reducible refine Ch.drew ?_)
end
end
section
section
variable{ok:Hy}{n j d mb N M f tt:Nat}{s s' S:AS}{w w' W:World}{T D:ByteArray}{L:List (ByteArray×Int)}
def OX(w:World)(n tt:Nat)(e:Ending)(w':World):Prop:=∃mb,e=.returned (.pointer (some ⟨mb,0,none⟩))/\LW w mb n 1 (F9 n tt) w'
theorem Of(X:I4 T D L)(a:1<=n/\n<=64)(b:17+8*n+1<=tt/\tt<=65536)(m:Int)(w:World)(k:w.cell? ⟨1,0,none⟩=some (.int .i64 m))
 (i:w.cell? ⟨0,0,none⟩=some (.iface 390 (.agg #[.pointer (some ⟨4,85,none⟩)]))):
 Calls prog 25 #[.int .i64 n,.int .i64 tt] w (OX w n tt):=by
 refine(LS X n tt a b m w k i).mono ?_;rintro e w' ⟨mb,χ,rfl,c,g,h⟩;exact⟨mb,rfl,⟨χ,_,1,Nat.le_refl _,⟨c,sy NY n tt a.1 a.2 b.2 (show 17+8*n+0+0<=tt by omega),NB (C:=NY) (wd:=0) (lp:=90) a.1 a.2 b.2 rfl (by decide) rfl (by omega) rfl⟩,g⟩,h⟩
def ek(s:AS):Nat->AS
 |0=>s
 |k+1=>Ph 400 (ek s k) k 2
theorem fl(h:Ia s j=90):∀f,Ph f s j d=s
 |0=>rfl
 |f+1=>by unfold Ph;rw[if_pos h]
theorem hT(h:¬Ia s j=90):Ph (f+1) s j d=Ph f (aaq s j d) j d:=by rw[Ph,if_neg h]
def hW(w:World)(mb n N:Nat)(s:AS)(e:Ending)(w':World):Prop:=e=.returned (.bool true)/\LW w mb n N s w'
theorem gw(X:I4 T D L)(h:LW w mb n N s W)(I:FK ok n s)(g:∀k,k<n->ok.ok k 2∨Ia (ek s k) k=90)(a1:∀k,k<=n->(ek s k).nb<64)(cl:n<=64)(cb:N+64*400<=300000)(m:Int)(ab:w.cell? ⟨1,0,none⟩=some (.int .i64 m)):
 Calls prog 28 #[.pointer (some ⟨mb,0,none⟩),.int .i64 n] W (hW w mb n (N+n*400) (ek s n)):=by
 have bi:Hid (∀wr,wr.cell? ⟨1,0,none⟩=some (.int .i64 m)->Calls prog 26 #[.pointer (some ⟨mb,0,none⟩)] wr (dt (.int .i64 90) wr)):=Z (fun wr h=>I5 X (.pointer (some ⟨mb,0,none⟩)) m wr h);have bw:Hid (∀j k S wr,j<n->k<400->LW w mb n (N+j*400+k) S wr->FK ok n S->ok.ok j 2->Ph (400-k) S j 2=ek s (j+1)->Calls prog 13 #[.pointer (some ⟨mb,0,none⟩),.agg #[.int .i64 1,.int .i64 j,.int .u64 2]] wr (Oe w mb n (N+j*400+k+1) (aaq S j 2))):=Z (fun j k S wr hj cd H J g c9=>
  OV H J hj g (by decide) (Nat.lt_of_le_of_lt (by rw[<-c9];exact gR _ _) (a1 (j+1) hj)) (by have:j*400<=63*400:=Nat.mul_le_mul_right _ (by omega);omega))
 have c8:Hid (∀j N S wr,j<n->LW w mb n N S wr->FK ok n S->Calls prog 55 #[.pointer (some ⟨mb,0,none⟩),.int .i64 j] wr (Rb (Ia S j) wr)):=Z (fun j N S wr hj H J=>LU H J hj);have c7:Hid (∀j S,j<n->ok.ok j 2->FK ok n S->FK ok n (aaq S j 2)):=Z (fun j S hj g h=>h.step hj g);have c0:Hid (∀j S,j<n->ok.ok j 2->FK ok n S->Ia (Ph 400 S j 2) j=90):=Z (fun j S hj g h=>fF h hj g);have c3:=Z g;have am:=Z h;have x:=Z I;have c2:=Z ab;clear X h I a1 ab g cb;go_enter func28,ntmps28
 go_wp2_with fail
 go_loopw [5] (fun i wr=>∃j:Nat,j<=n/\i=.int .i64 j/\LW w mb n (N+j*400) (ek s j) wr/\FK ok n (ek s j)) (fun i _=>n-(intOf i).toNat)
 case atStart=>exact⟨0,by omega,rfl,am.out.more (by omega),x.out⟩
 case round=>
  obtain⟨j,hj,rfl,r,p⟩:=hrel;have V:=Z r;have x:=Z p;clear r p;by_cases t:j<n
  ·have c4:Hid (ok.ok j 2∨Ia (ek s j) j=90):=Z (c3.out j t)
   have ch:(j:Int)<n:=(by omega);go_wp2_with fail
   go_loopw [6] (fun i wr=>∃(k:Nat) (S:AS),k<=400/\i=.int .i64 k/\LW w mb n (N+j*400+k) S wr/\FK ok n S/\Ph (400-k) S j 2=ek s (j+1)/\(ok.ok j 2∨Ia S j=90)) (fun i _=>400-(intOf i).toNat)
   case atStart=>exact⟨0,ek s j,by omega,rfl,V.out,x.out,rfl,c4.out⟩
   case round=>
    obtain⟨k,S,cd,rfl,r,p,a3,g⟩:=hrel;have R:=Z r;have y:=Z p;have u:=Z a3;have c5:=Z g;clear r p a3 g;have ci:¬(k:Int)>400:=(by omega);go_wp2_with fail
    with_reducible refine(c8.out _ _ _ _ t R.out y.out).mono ?_
    rintro e O ⟨a,b,c,Y,rfl,a2⟩;have ap:=Z (R.out.af a2);clear a2;obtain⟨P,K⟩:=nm (Ia S j);rw[K];have z:=Z K;clear K;obtain⟨E,ad⟩:=nm O.heap.size;go_upto_region 9 with fail
    obtain⟨w4,C⟩:=nm (O.alloc (.cells #[.int .u64 a,.int .u64 b,.bool c,.int .i64 P,.int .i64 Y] 144));have c6:Hid (Row w4 E 144 [.int .u64 a,.int .u64 b,.bool c,.int .i64 P,.int .i64 Y]):=Z (by rw[<-C,<-ad];exact Row.new _ _ _);have F:=Z (ap.out.af (show Ch ag O w4 by rw[<-C];exact(Ch.refl _ _).alloc _));rw[C];clear C ad;have G:Hid (∀W,Ch ag w4 W->W.cell? ⟨E,3,none⟩=some (.int .i64 P)):=Z (fun W c=>(c6.out.ch c (fun h=>h)).cell rfl);have U:=Z (fun W (c:Ch ag w4 W)=>bi.out W ((F.out.af c).cell c2.out));have t3:=G.out _ (Ch.refl _ _);by_cases B:P=90
    ·subst B
     go_region_held3 (fun w'=>w'.cell? ⟨E,3,none⟩=some (.int .i64 (90:Nat))) (go_keep) (first
      |(go_at_call 26;refine(U.out _ PL).mono ?_;rintro e Q ⟨rfl,o⟩;have l:Hid (Ch ag w4 Q):=Z (Ch.trans PL o);have t3:=G.out _ l.out;clear o))
     all_goals
      go_wp2_with fail
      have q:=(fl (d:=2) z.out _).symm.trans u.out;refine⟨⟨j+1,by omega,by go_num,?_,?_⟩,by simp[intOf];omega⟩
      ·rw[<-q]
       exact(F.out.af l.out).more (by rw[Nat.succ_mul];omega)
      ·rw[<-q]
       exact y.out
    ·have A:ok.ok j 2:=c5.out.resolve_right (fun e=>B (z.out.symm.trans e))
     have ce:k<400:=by
      rcases Nat.lt_or_ge k 400 with h|h
      ·exact h
      ·have q:=u.out
       rw[show 400-k=0 by omega]at q;have q:S=ek s (j+1):=q;exact absurd (z.out.symm.trans ((congrArg (fun al=>Ia al j) q).trans (c0.out j (ek s j) t A x.out))) B
     have bv:=Z (fun W (c:Ch ag w4 W)=>bw.out j k S W t ce (F.out.af c) y.out A u.out);have c1:=Z (c7.out j S t A y.out);have cm:((P:Int)==90)=false:=(by simp;omega);go_region_held3 (fun w'=>w'.cell? ⟨E,3,none⟩=some (.int .i64 P)) (go_keep) (first
      |(go_at_call 26;refine(U.out _ PL).mono ?_;rintro e Q ⟨rfl,o⟩;have l:Hid (Ch ag w4 Q):=Z (Ch.trans PL o);have t3:=G.out _ l.out;clear o))
     all_goals
      go_wp2_with fail
      with_reducible refine(bv.out _ l.out).mono ?_
      rintro e cq ⟨v,rfl,a0⟩;have av:=Z a0;clear a0;go_wp2_with fail
      go_roundw
      case rel=>
       refine⟨k+1,_,by omega,by go_num,av.out,c1.out,?_,Or.inl A⟩;have q:=u.out;rw[show 400-k=(399-k)+1 by omega,hT (by rw[z.out];exact B)]at q;rw[show 400-(k+1)=399-k by omega];exact q
      case measure=>simp[intOf];omega
  ·obtain rfl:j=n:=by omega
   go_wp2_with fail
   go_ret;exact⟨rfl,V.out⟩
end
end
section
def Pz(n:Int):List Value:=[.int .i64 n]
section
variable{n j d mb N M f tt:Nat}{s s' S:AS}{w w' W:World}{T D:ByteArray}{L:List (ByteArray×Int)}
theorem JM(I:FK (GM 2) n S):S.nb=2:=by
 obtain⟨g,m,a,_⟩:=I;exact a.si.nc (fun j dr h=>by
  have h:dr=if j=0 then 1 else 2:=h
  rw[h]
  split<;>decide)
theorem KG(X:I4 T D L)(K:Int)(l:List Int)(v:Value)(w:World)(q:iA w w.heap.size v 1 Pz l)(m:Int)(t:w.cell? ⟨1,0,none⟩=some (.int .i64 m))
 (c0:w.cell? ⟨0,0,none⟩=some (.iface 390 (.agg #[.pointer (some ⟨4,85,none⟩)]))):
 Calls prog 4 #[.int .i64 K,v] w (dt (.bool true) w):=by
 obtain⟨a,c,rfl,ec,c6⟩:=q;obtain⟨r,R⟩:∃N,l.length=N:=⟨_,rfl⟩;have cL:=Z R;have cW:=Z c6;rw[R]at ec⊢;clear R c6;have ex:=dJ K 3 (by decide);have ab:=Z (ot K 3 (by decide) w);obtain⟨V,dN⟩:=nm (cN K 3);rw[dN]at ex ab;obtain⟨n,fz⟩:∃n:Nat,2+V=n:=⟨(2+V).toNat,by omega⟩;have es:2<=n/\n<=4:=by omega
 have dC:Hid (∀x W,∃j:Nat,j<n/\Calls prog 24 #[.int .i64 x,.int .i64 n] W (fun e w'=>e=.returned (.int .i64 j)/\W=w')):=Z (fun x W=>by
  have h:=ot x n (by omega) W;have fb:=dJ x n (by omega);exact⟨(cN x n).toNat,by omega,by rw[show(((cN x n).toNat:Nat):Int)=cN x n by omega];exact h⟩)
 have cC:Hid (Calls prog 25 #[.int .i64 n,.int .i64 300] w (OX w n 300)):=Z (Of X (n:=n) (tt:=300) (by omega) (by omega) m w t c0);have cl:Hid (∀v wr,Ch ag w wr->Calls prog 26 #[v] wr (dt (.int .i64 90) wr)):=Z (fun v wr c=>I5 X v m wr ((c.cell (aE t) (fun e=>e)).trans t));obtain⟨c8,c9,-⟩:=ML (n:=n) (tt:=300) (by omega) (by omega) (by omega) (by decide);have cS:Hid (∀mb W,LW w mb n 1 (F9 n 300) W->Calls prog 27 #[.pointer (some ⟨mb,0,none⟩),.int .i64 0,.int .u64 0] W (Rf w mb n 501 (Ji n 300))):=Z (fun mb W h=>
  Nc (ok:=J2) (j:=0) (d:=0) X h (MK J2 (by omega) (by omega) (by omega) (by decide) rfl) (by omega) ⟨rfl,rfl⟩ (by decide) (by rw[show(GC 500 (F9 n 300) 0 0).nb=2 from c9];decide) (by decide) m t)
 have a3:Hid (∀mb N j S W,N<=200000->j<n->LW w mb n N S W->FK (GM 2) n S->Calls prog 27 #[.pointer (some ⟨mb,0,none⟩),.int .i64 j,.int .u64 (HR j)] W (Rf w mb n (N+500) (GC 500 S j (HR j)))/\FK (GM 2) n (GC 500 S j (HR j))):=Z (fun mb N j S W ap hj h I=>
  ⟨Nc X h I hj rfl (by unfold HR;split<;>decide) (Nat.lt_of_le_of_lt (Nat.le_of_eq (JM (I.op hj rfl 500))) (by decide)) (by omega) m t,I.op hj rfl 500⟩)
 have cq:Hid (∀mb N j S W,N<=200000->j<n->LW w mb n N S W->FK (GM 2) n S->Calls prog 13 #[.pointer (some ⟨mb,0,none⟩),.agg #[.int .i64 1,.int .i64 j,.int .u64 (HR j)]] W (Oe w mb n (N+1) (aaq S j (HR j)))/\FK (GM 2) n (aaq S j (HR j))):=Z (fun mb N j S W ap hj h I=>
  ⟨OV h I hj rfl (by unfold HR;split<;>decide) (by rw[JM I];decide) (by omega),I.step hj rfl⟩)
 have cs:=Z c8;have ct:Hid (∀S,FK (GM 2) n S->(GV S n).ring=[64,65]):=Z (fun S I=>Ly es.1 (by omega) I (JM I));have cA:Hid (∀S k,k<=n->FK (GM 2) n S->FK (GM 2) n (GV S k)):=Z (fun S k H I=>(HY I k H).1);clear X t c0 c8 c9;go_enter func4,ntmps4
 go_wp2_with fail
 with_reducible refine ab.out.mono ?_
 rintro e gc ⟨rfl,rfl⟩;go_wp2_with fail
 with_reducible refine cC.out.mono ?_
 rintro e w1 ⟨mb,rfl,ad⟩;have a0:=Z ad;clear ad;go_wp2_with fail
 with_reducible refine(cl.out _ _ a0.out.c).mono ?_
 rintro e w2 ⟨rfl,av⟩;have cd:=Z (a0.out.af av);clear av;go_wp2_with fail
 with_reducible refine(cS.out _ _ cd.out).mono ?_
 rintro e ge ⟨rfl,al⟩;have ce:=Z al;clear al;go_upto_block 0 with fail
 go_cut [] (fun wc=>∃S,LW w mb n 701 S wc/\FK (GM 2) n S)
 case first=>
  go_wp2_with fail
  go_loopw [7] (fun i wr=>∃(k:Nat) (S:AS),k<=r/\k<=200/\i=.int .i64 k/\LW w mb n (501+k) S wr/\FK (GM 2) n S) (fun i _=>200-(intOf i).toNat)
  case atStart=>exact⟨0,_,by omega,by omega,rfl,ce.out,cs.out⟩
  case round=>
   obtain⟨k,S,fn,H,rfl,q,c1⟩:=hrel;have p:=Z q;have Q:=Z c1;clear q c1;by_cases J:k<r/\k<200
   ·obtain⟨x,c7⟩:∃x,l[k]?=some x:=⟨_,List.getElem?_eq_getElem (by rw[cL.out];exact J.1)⟩
    obtain⟨g,eA,rfl,-,bw⟩:=cW.out _ _ c7;have eW:wr.cell? ⟨g,eA+k,none⟩=some (.int .i64 x):=by
     have:=p.out.cell (bw 0 _ rfl);simpa using this
    obtain⟨j,hj,bv⟩:=dC.out x wr;have cm:=Z bv;have U:(k:Int)<r:=(by omega);have en:(k:Int)<200:=(by omega);obtain⟨C,E⟩:=cq.out mb _ j S wr (by omega) hj p.out Q.out;have u:Hid (∀x y:Int,x=j->y=HR j->Calls prog 13 #[.pointer (some ⟨mb,0,none⟩),.agg #[.int .i64 1,.int .i64 x,.int .u64 y]] wr (Oe w mb n (501+k+1) (aaq S j (HR j)))):=Z (fun x y z A=>by rw[z,A];exact C);have F:=Z E;clear C E bw c7 bv;go_wp2_with fail
    with_reducible refine cm.out.mono ?_
    rintro e gf ⟨rfl,rfl⟩;by_cases c3:j=0
    ·subst c3
     go_wp2_with fail
     with_reducible refine(u.out 0 1 rfl rfl).mono ?_
     rintro e O ⟨v,rfl,b⟩;have o:=Z b;clear b;go_wp2_with fail
     go_roundw
     case rel=>exact⟨k+1,_,by omega,by omega,by go_num,o.out,F.out⟩
     case measure=>simp[intOf];omega
    ·have fd:((j:Int)==0)=false:=by simp;omega
     have G:Hid ((2:Int)=HR j):=Z (by rw[show HR j=2 from if_neg c3];rfl);go_wp2_with fail
     with_reducible refine(u.out _ _ rfl G.out).mono ?_
     rintro e O ⟨v,rfl,b⟩;have o:=Z b;clear b;go_wp2_with fail
     go_roundw
     case rel=>exact⟨k+1,_,by omega,by omega,by go_num,o.out,F.out⟩
     case measure=>simp[intOf];omega
   ·by_cases ap:k<r
    ·have U:(k:Int)<r:=by omega
     have en:¬(k:Int)<200:=(by omega);go_wp2_with fail
     go_meet
     exact⟨S,p.out.more (by omega),Q.out⟩
    ·have U:¬(k:Int)<r:=by omega
     go_wp2_with fail
     go_meet
     exact⟨S,p.out.more (by omega),Q.out⟩
 case rest=>
  obtain⟨S,am,c2⟩:=hcut;have ch:=Z am;have a2:=Z c2;clear am c2;go_upto_block 2 with fail
  go_cut [] (fun eL=>LW w mb n 10000 (GV S n) eL)
  case first=>
   go_wp2_with fail
   go_loopw [10] (fun i wr=>∃k:Nat,k<=n/\i=.int .i64 k/\LW w mb n (701+k*1000) (GV S k) wr) (fun i _=>n-(intOf i).toNat)
   case atStart=>exact⟨0,by omega,rfl,ch.out⟩
   case round=>
    obtain⟨k,H,rfl,q⟩:=hrel;have p:=Z q;clear q;by_cases J:k<n
    ·have U:(k:Int)<n:=by omega
     obtain⟨C,E⟩:=a3.out mb _ k _ wr (by omega) J p.out (cA.out S k H a2.out);have u:Hid (∀x y:Int,x=k->y=HR k->Calls prog 27 #[.pointer (some ⟨mb,0,none⟩),.int .i64 x,.int .u64 y] wr (Rf w mb n (701+k*1000+500) (GC 500 (GV S k) k (HR k)))):=Z (fun x y z A=>by rw[z,A];exact C);have F:=Z E;have a1:Hid (∀W (x y:Int),x=k->y=HR k->LW w mb n (701+k*1000+500) (GC 500 (GV S k) k (HR k)) W->Calls prog 27 #[.pointer (some ⟨mb,0,none⟩),.int .i64 x,.int .u64 y] W (Rf w mb n (701+k*1000+500+500) (GV S (k+1)))):=Z (fun W x y z A h=>by rw[z,A];exact(a3.out mb _ k _ W (by omega) J h F.out).1);clear C E;by_cases c4:k=0
     ·subst c4
      go_wp2_with fail
      with_reducible refine(u.out 0 1 rfl rfl).mono ?_
      rintro e O ⟨rfl,b⟩;have o:=Z b;clear b;go_wp2_with fail
      with_reducible refine(a1.out _ 0 1 rfl rfl o.out).mono ?_
      rintro e eC ⟨rfl,B⟩;have P:=Z B;clear B;go_wp2_with fail
      go_roundw
      case rel=>exact⟨0+1,by omega,by go_num,P.out⟩
      case measure=>simp[intOf];omega
     ·have fr:((k:Int)==0)=false:=by simp;omega
      have G:Hid ((2:Int)=HR k):=Z (by rw[show HR k=2 from if_neg c4];rfl);go_wp2_with fail
      with_reducible refine(u.out _ _ rfl G.out).mono ?_
      rintro e O ⟨rfl,b⟩;have o:=Z b;clear b;go_wp2_with fail
      with_reducible refine(a1.out _ _ _ rfl G.out o.out).mono ?_
      rintro e eC ⟨rfl,B⟩;have P:=Z B;clear B;go_wp2_with fail
      go_roundw
      case rel=>exact⟨k+1,by omega,by go_num,P.out.more (by rw[Nat.succ_mul];omega)⟩
      case measure=>simp[intOf];omega
    ·obtain rfl:k=n:=by omega
     go_wp2_with fail
     go_meet
     exact p.out.more (by omega)
  case rest=>
   have ci:=Z hcut;have Y:=Ld hcut;rw[ct.out S a2.out]at Y;have dr:=Z Y;clear hcut Y;go_wp2_with fail
   with_reducible refine dr.out.mono ?_
   rintro e O et;obtain⟨⟨g4,rfl,c5⟩,bi⟩:=et;have o:=Z (ci.out.af bi);obtain⟨g,eS,g2,rfl,-,-,-,cb,-⟩:=aS c5 (by decide);obtain⟨y0,gk⟩:=cb.c2;clear c5 bi cb;go_wp2_with fail
   go_ret;exact dt.mk rfl o.out.c
end
end
section
open Go.ChangeAt Go.ChangeShapes Go.WideShapes
def Rh:List (String×DataW Unit):=[("unicode/utf8.acceptRanges",Rows.laid_unicode_utf8_acceptRanges),("errors.errorType",Rows.laid_errors_errorType),("unicode/utf8.first",Rows.laid_unicode_utf8_first)]
theorem It{W:World}(h:laidMetH prog Rh W):W.cell? ⟨0,0,none⟩=some (.iface 390 (.agg #[.pointer (some ⟨4,85,none⟩)])):=by
 have g:laidMet prog [("unicode/utf8.acceptRanges",Rows.laid_unicode_utf8_acceptRanges),("unicode/utf8.first",Rows.laid_unicode_utf8_first)] W/\handlesMet prog [("errors.errorType",Rows.laid_errors_errorType)] W:=h;obtain⟨name,u,ty,c,d,e,f,a⟩:=g.2 _ (List.mem_singleton.2 rfl);have en:name=[101,114,114,111,114]:=(Option.some.inj c).symm;subst en;obtain rfl:=Option.some.inj (De.rt.symm.trans d);have b:ty∈(List.range 446).filter fun t=>prog.rowNamed t [101,114,114,111,114]:=List.mem_filter.2 ⟨List.mem_range.2 (by rw[<-De.size];exact e),f⟩
 rw[De.Df]at b;obtain rfl:=List.mem_singleton.1 b;have i:typeHandle prog 85=.pointer (some ⟨4,85,none⟩):=by kernel_rfl
 rw[i]at a;simpa using World.var?_cell De.et a 0
noncomputable def Lg (os:Os):World:=
 let a:=World.doorLaid prog 60 os
 {a with heap:=a.heap.modify 2 fun
  |.cells _ t fr=> .cells (Pinned.utf8FirstZ.map fun z:Nat=>Value.int .u8 (z:Int)).toArray t fr
  |b=>b}
theorem PA(os:Os)(args:Array Value):laidMetH prog Rh ((Lg os).forCall (fun _ _=>0) ⟨#[],args,[]⟩).memory:=
 laidMetH_of_parts3 (fuel:=8) (laidMet_of_run' 8 (by kernel_rfl) (by kernel_rfl)) (by kernel_rfl) (by kernel_rfl)
theorem Km{W:World}(h:W.ShapedOpen prog):∃m,W.cell? ⟨1,0,none⟩=some (.int .i64 m):=
 Go.Proofs.cell_of_shapedOpen_int (zero:=#[.int .i64 0]) (t:=3) h (of_decide_eq_true (by kernel_rfl)) (by kernel_rfl) rfl (by kernel_rfl) (by kernel_rfl) underlying3
theorem open_ints{H:Type}{enc:TypeId×Value->H}{w:World}{base:Nat}{spare:Nat->Bool}{held:Bool}{v:Value}{d:DataW H}{p:List MemPlace}(h:DataW.Trod enc prog w base spare held 45 v d p)(m:v.cells.toList=[v]):∃l:List Int,iA w w.heap.size v 1 Pz l:=by
 obtain⟨fuel,c⟩:=h;rw[m]at c;obtain⟨l,b,-⟩:=lR (ec:=Pz) (k:=1) (Ok:=fun _=>True) underlying45 (by kernel_rfl) (by decide) (fun _=>rfl) (fun n cs x a b g=>by
  obtain⟨o,f,-,w2⟩:=DataW.trod_int underlying3 g;obtain⟨_,q,i⟩:=World.cells?_some b;subst f;refine⟨o,trivial,fun r u e=> ?_⟩;have j:r<1:=(List.getElem?_eq_some_iff.1 e).1;rw[i r j];exact e) c
 exact⟨l,b⟩
end
end Go.Proofs.YtlihkblppjgebaaGreatDoor
