import Derived.Deep.RegionHeldLaw
import Derived.Test.YtlihkblppjgebaaGreatDoorZAr
import Derived.Test.YtlihkblppjgebaaGreatDoorZAs
import Derived.Test.YtlihkblppjgebaaGreatDoorZBo
set_option linter.all false
set_option maxRecDepth 100000
set_option maxHeartbeats 8000000
namespace Go.Proofs.YtlihkblppjgebaaGreatDoor
open Go.RowKit Go.Proofs.Tryz
def dI(w w':World):Prop:=∀(k:Nat) (c:Array Value) (t:TypeId) (f:Nat×Nat),t≠90->t≠158->w.heap[k]?=some (.cells c t f)->w'.heap[k]?=some (.cells c t f)
theorem dI.refl(w:World):dI w w:=fun _ _ _ _ _ _ h=>h
theorem dI.trans{a b c:World}(h:dI a b)(g:dI b c):dI a c:=fun k x t f d e i=>g k x t f d e (h k x t f d e i)
theorem dI.row{w w':World}(h:dI w w'){b:Nat}{t:TypeId}{l:List Value}(d:Row w b t l)(a:t≠90)(c:t≠158):Row w' b t l:=h b _ t _ a c d
theorem dI.fa{w w':World}{D:Nat->Prop}(c:Ch D w w')(b:∀k x t f,D k->w.heap[k]?=some (.cells x t f)->t=90∨t=158):dI w w':=by
 intro k x t f e g a;rw[c.same k (Array.getElem?_eq_some_iff.1 a).1 (fun d=>by rcases b k x t f d a with h|h<;>contradiction)];exact a
theorem dI.own{w w':World}(h:dI w w'){B:Nat}{e:TypeId}{s n:Nat}{v:Value}{b:List Value}(a:w.ownsRow B e s v n b)(c:e≠90)(d:e≠158):w'.ownsRow B e s v n b:=by
 refine⟨a.1,?_⟩;rcases a.2 with f|⟨g,cap,cur,rfl,j,k,i⟩
 ·exact Or.inl f
 ·exact Or.inr ⟨g,cap,cur,rfl,j,h g _ e _ c d k,i⟩
structure mB(w:World)(B lb:Nat)(vc vk:Value)(loop:Int)(calls:List br):Prop where
 row:Row w lb 90 [vc,.int .i64 loop,vk]
 hB:B<=lb
 own:w.ownsRow B 158 6 vk calls.length (calls.flatMap br.cells)
theorem mB.af{w w':World}{B lb:Nat}{a b:Value}{loop:Int}{calls:List br}(h:mB w B lb a b loop calls)(c:Ch ag w w'):mB w' B lb a b loop calls:=⟨h.row.ch c (fun e=>e),h.hB,ar h.own c (fun _ _ e=>e)⟩
theorem mB.app{w w1:World}{B lb:Nat}{g i a:Value}{loop:Int}{calls:List br}(h:mB w B lb g i loop calls)(r:B<=w.heap.size)(y:br)
 (q:w1.ownsRow B 158 6 a (calls.length+1) (calls.flatMap br.cells++y.cells)) (l:w.grownBy w1 i.ownBlock):
 mB (w1.setCell ⟨lb,2,none⟩ a) B lb g a loop (calls++[y])/\Below B w (w1.setCell ⟨lb,2,none⟩ a)/\dI w (w1.setCell ⟨lb,2,none⟩ a):=by
 have c:=j3 (p:=lb) (j:=2) (u:=a) l;have m:Row w1 lb 90 [g,.int .i64 loop,i]:=by
  unfold Row;rw[l.block lb h.row.lt (fun e=>bh h.own h.row (by decide) e.symm)];exact h.row
 refine⟨⟨m.a' _ _ rfl,h.hB,?_⟩,fS c h.own h.hB r,?_⟩
 ·have:=dL (j:=2) (u:=a) q m (by decide)
  rw[List.flatMap_append,List.length_append];simpa using this
 ·refine dI.fa c (fun k x t f d b=> ?_)
  rcases d with rfl|d
  ·exact Or.inl (eD h.row b)
  ·obtain⟨_,cs,n⟩:=bJ h.own d
   rw[n]at b;injection b with b;injection b with _ o _
   exact Or.inr o.symm
structure sB(l:List aV)(loop:Int)(calls:List br):Prop where
 ok:e2 l loop calls=true
 u:uf l=true
 c0:0<calls.length
 c1:calls.length<=100
structure WS where
 code:List aV
 work:List Int
 aL:List Int
structure qQ(w:World)(B b:Nat)(vc vw vh:Value)(S:WS):Prop where
 row:Row w b 174 [vc,.int .i64 16,.slice none 0 0,vw,vh]
 hB:B<=b
 code:w.ownsRow B 184 7 vc S.code.length (S.code.flatMap dg)
 work:w.ownsRow B 3 1 vw S.work.length (S.work.flatMap iu)
 aL:w.ownsRow B 3 1 vh S.aL.length (S.aL.flatMap iu)
 ne:∀g,vw.ownBlock=some g->vh.ownBlock≠some g
def fG(w:World)(B b:Nat)(d c:Value)(S:WS):Prop:=∃a,qQ w B b a d c S
theorem qQ.af{w w':World}{B b:Nat}{a f d:Value}{S:WS}(h:qQ w B b a f d S)(c:Ch ag w w'):qQ w' B b a f d S:=
 ⟨h.row.ch c (fun e=>e),h.hB,ar h.code c (fun _ _ e=>e),ar h.work c (fun _ _ e=>e),ar h.aL c (fun _ _ e=>e),h.ne⟩
theorem fG.af{w w':World}{B b:Nat}{d a:Value}{S:WS}(h:fG w B b d a S)(c:Ch ag w w'):fG w' B b d a S:=by
 obtain⟨e,h⟩:=h;exact⟨e,h.af c⟩
def a9(w w':World):Prop:=∀(k:Nat) (c:Array Value) (t:TypeId) (f:Nat×Nat),t≠174->t≠184->w.heap[k]?=some (.cells c t f)->w'.heap[k]?=some (.cells c t f)
theorem a9.refl(w:World):a9 w w:=fun _ _ _ _ _ _ h=>h
theorem a9.trans{a b c:World}(h:a9 a b)(g:a9 b c):a9 a c:=fun k x t f d e i=>g k x t f d e (h k x t f d e i)
theorem a9.row{w w':World}(h:a9 w w'){b:Nat}{t:TypeId}{l:List Value}(d:Row w b t l)(a:t≠174)(c:t≠184):Row w' b t l:=h b _ t _ a c d
theorem a9.own{w w':World}(h:a9 w w'){B:Nat}{e:TypeId}{s n:Nat}{v:Value}{b:List Value}(a:w.ownsRow B e s v n b)(c:e≠174)(d:e≠184):w'.ownsRow B e s v n b:=by
 refine⟨a.1,?_⟩;rcases a.2 with f|⟨g,cap,cur,rfl,j,k,i⟩
 ·exact Or.inl f
 ·exact Or.inr ⟨g,cap,cur,rfl,j,h g _ e _ c d k,i⟩
theorem a9.fa{w w':World}{D:Nat->Prop}(c:Ch D w w')(b:∀k x t f,D k->w.heap[k]?=some (.cells x t f)->t=174∨t=184):a9 w w':=by
 intro k x t f e g a;rw[c.same k (Array.getElem?_eq_some_iff.1 a).1 (fun d=>by rcases b k x t f d a with h|h<;>contradiction)];exact a
theorem a9.af{w w':World}(c:Ch ag w w'):a9 w w':=a9.fa c (fun _ _ _ _ a _=>False.elim a)
def fD(w w':World):Prop:=∀(k:Nat) (c:Array Value) (t:TypeId) (f:Nat×Nat),t≠174->t≠184->t≠3->w.heap[k]?=some (.cells c t f)->w'.heap[k]?=some (.cells c t f)
theorem fD.refl(w:World):fD w w:=fun _ _ _ _ _ _ _ h=>h
theorem fD.trans{a b c:World}(h:fD a b)(g:fD b c):fD a c:=fun k x t f d e i j=>g k x t f d e i (h k x t f d e i j)
theorem fD.row{w w':World}(h:fD w w'){b:Nat}{t:TypeId}{l:List Value}(e:Row w b t l)(a:t≠174)(c:t≠184)(d:t≠3):Row w' b t l:=h b _ t _ a c d e
theorem fD.fa{w w':World}{D:Nat->Prop}(c:Ch D w w')(b:∀k x t f,D k->w.heap[k]?=some (.cells x t f)->t=174∨t=184∨t=3):fD w w':=by
 intro k x t f e g i a;rw[c.same k (Array.getElem?_eq_some_iff.1 a).1 (fun d=>by rcases b k x t f d a with h|h|h<;>contradiction)];exact a
theorem fD.af{w w':World}(c:Ch ag w w'):fD w w':=fD.fa c (fun _ _ _ _ a _=>False.elim a)
structure fe where
 Al:Int
 a:Int
 b:Int
 c:Int
 d:Int
def Ds(x:fe):List Value:=[.int .i64 x.Al,.int .u64 x.a,.int .u64 x.b,.int .u64 x.c,.int .u64 x.d]
theorem LO:(dA.all fun r=>decide (14<r.oq))=true:=by kernel_rfl
theorem M3:dA.length=45:=by kernel_rfl
theorem M4{w:World}{B b:Nat}{e:TypeId}{z n:Nat}{v:Value}{d:List Value}(h:w.ownsRow B e z v n d)(j:b<=B):w.ownsRow b e z v n d:=by
 refine⟨h.1,?_⟩;rcases h.2 with a|⟨g,c,cur,f,a,i⟩
 ·exact Or.inl a
 ·exact Or.inr ⟨g,c,cur,f,Nat.le_trans j a,i⟩
def Pr(code:List aV)(lp:Int)(w:World)(e:Ending)(w':World):Prop:=
 ∃a,e=.returned (.tuple #[.agg #[a,.int .i64 lp,.slice none 0 0],.bool true])/\w'.ownsRow w.heap.size 184 7 a code.length (code.flatMap dg)/\Ch ag w w'
theorem Jp(T:ByteArray)(code:List aV)(labels:List (ByteArray×Int))(c1:GL T=.ok (code,labels))(c8:T.size<=65536)(eW:0<code.length)(fb:0<labels.length)(c0:labels.length<=1000000)
 (lp:Int) (c5:HQ ⟨#[108,111,111,112]⟩ labels=(lp,true)) (ch:HQ ⟨#[120,98,111,114,110]⟩ labels=(0,false)) (m:Int) (w:World) (P:w.cell? ⟨1,0,none⟩=some (.int .i64 m)):
 Calls prog 52 #[.agg #[.string T,.int .i64 14]] w (Pr code lp w):=by
 have ad:Hid (∀W,Ch ag w W->Calls prog 96 #[.string T] W (fun e w'=>∃s r,e=.returned (.tuple #[s,r,.nilIface])/\w'.ownsRow W.heap.size 184 7 s code.length (b' code)/\w'.ownsRow W.heap.size 301 2 r labels.length (FZ labels)/\Ch ag W w')):=Z (fun W c=>by
  refine(LN T c8 m W ((c.cell (aE P) (fun e=>e)).trans P)).mono ?_;intro e w' h;rw[c1]at h;obtain⟨s,r,o,y,bv,eY⟩:=h;exact⟨s,r,o,y,bv,Ch.bY eY⟩)
 have J:Hid (∀W nm g c cl,labels.length<=c->Row W g 301 (FZ labels++cl)->Calls prog 97 #[.slice (some ⟨g,0,none⟩) labels.length c,.string nm] W (fun e w'=>e=.returned (.tuple #[.int .i64 (HQ nm labels).1,.bool (HQ nm labels).2])/\Ch ag W w')):=Z (fun W nm g c cl f c6=>by
  refine(N9 labels nm g c c0 f W c6.lt (fun i u cb=>c6.cell (by rw[List.getElem?_append_left (List.getElem?_eq_some_iff.1 cb).1];exact cb))).mono ?_;rintro e w' ⟨o,y⟩;exact⟨o,Ch.bY y⟩)
 have cL:=Z (fun w=>xx w);have en:=Z c5;have eS:=Z ch;obtain⟨d,M⟩:=nm code.length;obtain⟨eU,L⟩:=nm labels.length;have es:=Z M;have g2:(0:Int)<d:=by omega
 have gf:¬(d:Int)=0:=by omega
 rw[M,L]at ad;rw[L]at J;obtain⟨B,z⟩:=nm w.heap.size;have cC:=Z z;have bw:0<eU:=by omega
 have e1:=Z bw;clear c1 c5 ch M L P c8 eW fb c0 bw;go_enter func52,ntmps52
 go_wp2_with fail
 obtain⟨S,q⟩:=nm ((w.alloc (.cells #[.string T,.int .i64 14] 73)).alloc (.cells #[.slice none 0 0,.int .i64 0,.slice none 0 0] 90));have C0:Hid (Ch ag w S):=Z (by rw[<-q];exact((Ch.refl _ _).alloc _).alloc _);have et:Hid (Row S B 73 [.string T,.int .i64 14]):=Z (by rw[<-q,<-z];exact(Row.new _ _ _).alloc _);have am:Hid (Row S (B+1) 90 [.slice none 0 0,.int .i64 0,.slice none 0 0]):=Z (by
  rw[<-q,<-z];have:=Row.new (w.alloc (.cells #[.string T,.int .i64 14] 73)) #[.slice none 0 0,.int .i64 0,.slice none 0 0] 90;rw[World.size_alloc]at this;exact this)
 try rw[q]
 clear q z;with_reducible refine(ad.out _ C0.out).mono ?_
 rintro e w1 ⟨s,r,rfl,f,c4,p⟩;obtain⟨bi,av,ci,rfl,_,c2,_,c7,_⟩:=aS c4 e1.out;obtain⟨j,l,rfl⟩:=aA f;have al:=Z c7;have a3:=Z c2;have ab:=Z f;have cs:Hid (Ch ag w w1):=Z (C0.out.trans p);have ex:=Z (et.out.ch p (fun e=>e));have ap:=Z (am.out.ch p (fun e=>e));have fz:=Z p.size;clear f c4 p c7 c2;go_wp2_with fail
 obtain⟨lb,C⟩:=nm w1.heap.size;obtain⟨w2,E⟩:=nm (w1.alloc (.cells #[.slice j d l,.int .i64 0,.slice none 0 0] 90));have cS:Hid (Row w2 lb 90 [.slice j d l,.int .i64 0,.slice none 0 0]):=Z (by rw[<-E,<-C];exact Row.new _ _ _);have Y:=Z (Ch.al (D:=ag) E);have fr:Hid (B+1<lb):=Z (by rw[<-C];exact ap.out.lt);have ec:Hid (w1.heap.size<=lb):=Z (by omega);rw[E,C];clear E C;with_reducible refine(J.out w2 _ bi av ci a3.out (al.out.ch Y.out (fun e=>e))).mono ?_
 rintro e U ⟨rfl,N⟩;rw[en.out];have K:=Z (cS.out.ch N (fun e=>e));have ct:Hid (Ch ag w1 U):=Z (Y.out.trans N);clear N;have H:=K.out.k 1 rfl;have f1:=K.out.free 1;go_wp2_with fail
 obtain⟨w4,F⟩:=nm (U.setCell ⟨lb,1,none⟩ (.int .i64 lp));have cW:Hid (Row w4 lb 90 [.slice j d l,.int .i64 lp,.slice none 0 0]):=Z (by rw[<-F];exact K.out.a' _ _ rfl);have cA:Hid (Ch ag w1 w4):=Z (ct.out.fresh (show Ch (aK lb) U w4 by rw[<-F];exact(Ch.refl _ _).only _ _) (fun i g4 e=>by have e:i=lb:=e;have:=ec.out;omega));rw[F];clear F H f1;with_reducible refine(cL.out _).mono ?_
 rintro e cm ⟨rfl,Q,O⟩;obtain⟨tb,c9⟩:=nm w4.heap.size;rw[c9]at Q⊢;have eL:=Z Q;have dr:=Z (cW.out.ch O (fun e=>e));have a0:Hid (Ch ag w1 cm):=Z (cA.out.trans O);clear Q O c9;go_wp2_with fail
 with_reducible refine(J.out cm _ bi av ci a3.out (al.out.ch a0.out (fun e=>e))).mono ?_
 rintro e V ⟨rfl,A⟩;rw[eS.out];have dC:=Z (dr.out.ch A (fun e=>e));have eO:=Z (eL.out.ch A (fun e=>e));have a1:Hid (Ch ag w1 V):=Z (a0.out.trans A);have eA:=Z (ex.out.ch a1.out (fun e=>e));clear A;go_upto_block 0 with fail
 go_cut [8,9] (fun a b wc=>a=.int .i64 lp/\b=.bool true/\Ch ag V wc)
 case first=>
  go_wp2_with fail
  go_loopw [8,9,13] (fun a b i wr=>∃k:Nat,k<=45/\a=.int .i64 lp/\b=.bool true/\i=.int .i64 k/\Ch ag V wr) (fun _ _ i _=>45-(intOf i).toNat)
  case atStart=>exact⟨0,by omega,rfl,rfl,rfl,Ch.refl _ _⟩
  case round=>
   obtain⟨k,gb,rfl,rfl,rfl,f⟩:=hrel;have t:=Z f;clear f;by_cases fn:k<45
   ·have c3:k<dA.length:=by rw[M3];exact fn
    obtain⟨x,ce⟩:=nm (dA[k]);have R:dA[k]?=some x:=(by rw[List.getElem?_eq_getElem c3,ce]);have ge:14<x.oq:=of_decide_eq_true (List.all_eq_true.1 LO x (List.mem_of_getElem? R));have gk:wr.cell? ⟨tb,k*8+3,none⟩=some (.int .i64 x.oq):=(eO.out.ch t.out (fun e=>e)).cell ((bP xv R (by omega)).trans rfl);have H:wr.cell? ⟨B,1,none⟩=some (.int .i64 14):=(eA.out.ch t.out (fun e=>e)).cell (i:=1) rfl;have gc:(k:Int)<45:=(by omega);clear R ce c3;go_wp2_with fail
    go_quiet (fail)
    go_wp2_with fail
    go_roundw
    case rel=>exact⟨k+1,by omega,rfl,rfl,by go_num,by repeat(first|exact t.out|with_reducible refine Ch.drewN ?_ _|with_reducible refine Ch.drew ?_)⟩
    case measure=>simp[intOf];omega
   ·obtain rfl:k=45:=by omega
    go_wp2_with fail
    go_meet
    exact⟨rfl,rfl,t.out⟩
 case rest=>
  obtain⟨rfl,rfl,hcut⟩:=hcut;obtain⟨X,cd⟩:=nm wc;rw[cd]at hcut⊢;have dN:=Z (dC.out.ch hcut (fun e=>e));have I:Hid (Ch ag w1 X):=Z (a1.out.trans hcut);have n:=Z (ap.out.ch I.out (fun e=>e));clear hcut cd;obtain⟨go,gp,gr⟩:=dN.out.c3;obtain⟨x0,x1,x2⟩:=n.out.c3;have fE:=n.out.free 0;have fK:=n.out.free 1;have fT:=n.out.free 2;go_wp2_with fail
  obtain⟨cq,G⟩:=nm ((((X.setCell ⟨B+1,0,none⟩ (.slice j d l)).setCell ⟨B+1,1,none⟩ (.int .i64 lp)).setCell ⟨B+1,2,none⟩ (.slice none 0 0)));have eC:Hid (Row cq (B+1) 90 [.slice j d l,.int .i64 lp,.slice none 0 0]):=Z (by rw[<-G];exact((n.out.set 0 _).set 1 _).set 2 _);have a2:Hid (Ch (aK (B+1)) X cq):=Z (by rw[<-G];exact(((Ch.refl _ _).only _ _).only _ _).only _ _);rw[G];clear G;obtain⟨y0,H,fo⟩:=eC.out.c3;refine bodyPost_ret (v:=.tuple #[.agg #[.slice j d l,.int .i64 lp,.slice none 0 0],.bool true]) ?_ rfl ?_
  ·simp[results,Tryz.f52,go_sem,y0,H,fo]
  ·refine⟨_,rfl,?_,(cs.out.trans I.out).fresh a2.out (fun b hb e=>by have o:b=B+1:=e;have:=cC.out;omega)⟩
   rw[es.out];refine M4 (ar (ar ab.out I.out (fun _ _ e=>e)) a2.out (fun g fd e=> ?_)) C0.out.size;have o:g=B+1:=e;have y:=(ab.out.lt g fd).1;have bv:=am.out.lt;omega
def R7:List (ByteArray×Int):=[(⟨#[104,110,100]⟩,29),(⟨#[106,122]⟩,13),(⟨#[119,114,107]⟩,38),(⟨#[108,100]⟩,17),(⟨#[115,117,98]⟩,4),(⟨#[108,116]⟩,11),(⟨#[97,110,100]⟩,5),(⟨#[97,100,100]⟩,3),(⟨#[115,116]⟩,18),(⟨#[108,97,121]⟩,31),(⟨#[115,101,116]⟩,1),(⟨#[102,97,100]⟩,20),(⟨#[114,101,116]⟩,16),(⟨#[103,101,116]⟩,43),(⟨#[101,113]⟩,10),(⟨#[106,110,122]⟩,14),(⟨#[109,111,118]⟩,2),(⟨#[105,110,106]⟩,33),(⟨#[106,109,112]⟩,12),(⟨#[112,105,107]⟩,30),(⟨#[116,97,107]⟩,32),(⟨#[100,114,119]⟩,42),(⟨#[115,104,114]⟩,9),(⟨#[119,107,100]⟩,39),(⟨#[106,115,114]⟩,15),(⟨#[116,110,119]⟩,48)]
set_option maxRecDepth 1000000 in
theorem Pt:(R7.all fun p=>I7 p.1==p.2)=true:=by kernel_rfl
def OT(s:ByteArray):Int:=match R7.find? (fun p=>decide (p.1=s))with
 |some p=>p.2
 |none=>I7 s
theorem Pu(s:ByteArray):I7 s=OT s:=by
 unfold OT;split
 ·rename_i p h
  have a:=List.find?_some (p:=fun p:ByteArray×Int=>decide (p.1=s)) h;have a:p.1=s:=of_decide_eq_true a;have b:=List.all_eq_true.1 Pt p (List.mem_of_find?_eq_some h);rw[<-a];exact eq_of_beq b
 ·rfl
def Ob(st:FJ)(rest:List ByteArray)(line:Int)(op:Int)(K:Int×Int×Int):Except Bool FJ:=
 if op=0 then .error true
 else if GA (G0 K) rest then .error true
 else Ig (G0 K) rest (F6 line K rest (G0 K) 0 st (Jc op))
theorem Oc(st:FJ)(a:ByteArray)(rest:List ByteArray)(line:Int):G9 st a rest line=Ob st rest line (OT a) (F' (OT a)):=by
 unfold G9 Ob;rw[Pu]
def M6(st:FJ)(line:Int):List ByteArray->Except Bool FJ
 |[]=> .ok st
 |a::rest=>if rest=[]/\Fz a (a.size-1)=58 then Kf st (a.extract 0 (a.size-1)) line else Ob st rest line (OT a) (F' (OT a))
theorem M7(st:FJ)(line:Int)(b:List ByteArray):IW st line b=M6 st line b:=by
 cases b with
 |nil=>rfl
 |cons a rest=>
  show(if rest=[]/\Fz a (a.size-1)=58 then Kf st (a.extract 0 (a.size-1)) line else G9 st a rest line)=if rest=[]/\Fz a (a.size-1)=58 then Kf st (a.extract 0 (a.size-1)) line else Ob st rest line (OT a) (F' (OT a))
  rw[Oc]
def I2:List ByteArray->Int->FJ->Except (Bool×Int) FJ
 |[],_,st=> .ok st
 |l::a,i,st=>match M6 st i (Ge l)with
  |.ok b=>I2 a (i+1) b
  |.error t=> .error (t,i)
theorem Jq:∀(a:List ByteArray) (i:Int) (st:FJ),GB a i st=I2 a i st
 |[],_,_=>rfl
 |l::a,i,st=>by
  unfold GB I2 IX;rw[M7];cases M6 st i (Ge l)with
  |ok b=>exact Jq a (i+1) b
  |error t=>rfl
def I3(a:List ByteArray):Except (Bool×Int) (List aV×List (ByteArray×Int)):=
 match I2 a 0 Hc with
 |.error t=> .error t
 |.ok st=>match GY st with
  |some r=> .ok r
  |none=> .error (false,0)
theorem LR(a:List ByteArray):G7 a=I3 a:=by
 unfold G7 I3;rw[Jq];cases I2 a 0 Hc with
 |error t=>rfl
 |ok st=>rfl
def R8:Operand->List ByteArray
 |.const (.string s)=>[s]
 |_=>[]
def R0:Op->List ByteArray
 |.assign a=>R8 a
 |.binOp _ _ _ b _=>R8 b
 |_=>[]
def Pv:Code->List ByteArray
 |.seq a b=>Pv a++Pv b
 |.region _ ops _=>ops.toList.flatMap fun c=>R0 c.op
 |_=>[]
def Nf(r:Except (Bool×Int) (List aV×List (ByteArray×Int))):List (ByteArray×Int):=match r with
 |.ok p=>p.2
 |.error _=>[]
def R9(r:Except (Bool×Int) (List aV×List (ByteArray×Int))):List aV:=match r with
 |.ok p=>p.1
 |.error _=>[]
theorem Q8{r:Except (Bool×Int) (List aV×List (ByteArray×Int))}{c:List aV}(h:R9 r=c)(a:c≠[]):r=.ok (c,Nf r):=by
 cases r with
 |error t=>exact absurd h.symm a
 |ok p=>rw[<-h];rfl
def Pw(a:Option Code)(i:Nat):List UInt8:=(((a.map Pv).getD []).getD i ByteArray.empty).data.toList
set_option maxRecDepth 1000000 in
theorem M8:R9 (I3 ((G' (Pw Tryz.f53.body 1++Pw Tryz.f26.body 0)).map LP))=dF:=by kernel_rfl
def OU(a:Except (Bool×Int) (List aV×List (ByteArray×Int))):Bool:=decide (0<(Nf a).length/\(Nf a).length<=1000000)&&decide (HQ ⟨#[108,111,111,112]⟩ (Nf a)=(90,true))&&decide (HQ ⟨#[120,98,111,114,110]⟩ (Nf a)=(0,false))
set_option maxRecDepth 1000000 in
theorem M9:OU (I3 ((G' (Pw Tryz.f53.body 1++Pw Tryz.f26.body 0)).map LP))=true:=by kernel_rfl
set_option maxRecDepth 1000000 in
theorem M':decide ((Pw Tryz.f53.body 1++Pw Tryz.f26.body 0).length<=65536)=true:=by kernel_rfl
structure I4(T D:ByteArray)(L:List (ByteArray×Int)):Prop where
 t:T=((Tryz.f53.body.map Pv).getD []).getD 1 ByteArray.empty
 d:D=((Tryz.f26.body.map Pv).getD []).getD 0 ByteArray.empty
 p:GL (T++D)=.ok (dF,L)
 s:(T++D).size<=65536
 l0:0<L.length
 l1:L.length<=1000000
 loop:HQ ⟨#[108,111,111,112]⟩ L=(90,true)
 born:HQ ⟨#[120,98,111,114,110]⟩ L=(0,false)
theorem Na:∃T D L,I4 T D L:=by
 have h:=M9;have b:=M8;have a:=of_decide_eq_true M';obtain⟨T,f⟩:=nm (((Tryz.f53.body.map Pv).getD []).getD 1 ByteArray.empty);obtain⟨D,c⟩:=nm (((Tryz.f26.body.map Pv).getD []).getD 0 ByteArray.empty);unfold Pw at h b a;rw[f,c]at h b a;obtain⟨g,d⟩:=nm (I3 ((G' (T.data.toList++D.data.toList)).map LP));rw[d]at h b;unfold OU at h;simp only[Bool.and_eq_true,decide_eq_true_eq]at h;obtain⟨⟨⟨i,j⟩,k⟩,l⟩:=h;refine⟨T,D,Nf g,f.symm,c.symm,?_,?_,i,j,k,l⟩
 ·rw[LQ,LR,d]
  exact Q8 b (fun e=>by cases e)
 ·rw[List.length_append]at a
  rw[ByteArray.size_append];exact a
end Go.Proofs.YtlihkblppjgebaaGreatDoor
