import Derived.Test.YtfnilkpkogipfaaGreatDoorZBa
import Derived.Test.YtfnilkpkogipfaaGreatDoorZBb
set_option linter.all false
set_option maxRecDepth 100000
set_option maxHeartbeats 8000000
namespace Go.Proofs.YtfnilkpkogipfaaGreatDoor
open Go.RowKit Go.Proofs.Tryz
theorem A2{l:List aR}{loop:Int}{calls:List bB}(a:tu l loop calls){P:fL}(c:jA P){wk b:Int}(h:jB P wk b=true):mU (p5 l loop calls P):=by
 unfold jB at h;rw[Bool.and_eq_true]at h;exact ra a.ok h.1 (by have:=a.c1;omega) (jS a.u) (EY P c)
theorem A3{l:List aR}{loop:Int}{calls:List bB}{P:fL}{wk a:Int}(h:jB P wk a=true):Inv 1 0 (fH (p5 l loop calls P) (dh wk a).1.toNat (dh wk a).2.toNat):=by
 unfold jB at h;rw[Bool.and_eq_true,decide_eq_true_eq]at h;obtain⟨d,e,f,g⟩:=oS wk a;refine oM _ _ _ (by omega) (by omega) (by omega) ?_;show 17+8*(dh wk a).1.toNat+(3:Int).toNat+(1:Int).toNat<=(dh wk a).2.toNat
 have b:(3:Int).toNat=3:=rfl;have c:(1:Int).toNat=1:=rfl;omega
def tF(C:KC)(ok:Bool)(n tt:Nat)(w:World)(e:Ending)(w':World):Prop:=
 ∃pv a,e=.returned (.tuple #[.pointer pv,a])/\Ch ag w w'/\((ok=false/\pv=none/\∃t x,a=.iface t x)∨(ok=true/\∃mb χ,pv=some ⟨mb,0,none⟩/\a=.nilIface/\MS w' χ mb C (fH C n tt)/\∀i,χ i≠ .no->w.heap.size<=i))
theorem tF.no{C:KC}{ok:Bool}{n tt:Nat}{w:World}{e:Ending}{w':World}(a:ok=false)(h:AG w e w'):tF C ok n tt w e w':=by
 obtain⟨⟨d,rfl,c,f,rfl⟩,b⟩:=h;exact⟨_,_,rfl,b,Or.inl ⟨a,rfl,_,_,rfl⟩⟩
theorem tF.back{C:KC}{ok:Bool}{n tt:Nat}{w w1:World}{e:Ending}{w':World}(c:Ch ag w w1)(h:tF C ok n tt w1 e w'):tF C ok n tt w e w':=by
 obtain⟨pv,a,b,d,f⟩:=h;exact⟨pv,a,b,c.trans d,f.imp_right fun⟨k,mb,χ,k1,k2,k3,j⟩=>⟨k,mb,χ,k1,k2,k3,fun i g=>Nat.le_trans c.size (j i g)⟩⟩
theorem tF.yes{C:KC}{ok:Bool}{n tt:Nat}{w:World}{e:Ending}{w':World}(a:ok=true)(h:EO C n tt w e w'):tF C ok n tt w e w':=by
 obtain⟨mb,χ,rfl,d,c,b⟩:=h;exact⟨_,_,rfl,b,Or.inr ⟨a,mb,χ,rfl,rfl,d,c⟩⟩
theorem A4{l:List aR}{loop:Int}{calls:List bB}(b:tu l loop calls)(P:fL)(wk a:Int)(y z A:Value){B1 B2 B3:Nat}(w:World)
 (p:w.ownsRow B1 121 7 y l.length (l.flatMap b3)) (q:w.ownsRow B2 49 6 z calls.length (calls.flatMap bB.cells)) (r:w.ownsRow B3 121 7 A (bT P).length ((bT P).flatMap b3))
 (m:w.cell? (0,0)=some (.iface 335 (.agg #[(1,40)]))):
 Calls prog 11 #[.agg #[.int .i64 (dh wk a).1,.int .i64 (dh wk a).2],.agg #[y,loop,z],.agg #[A,.int .i64 0,.int .i64 3,.int .i64 1]] w (tF (p5 l loop calls P) (jB P wk a) (dh wk a).1.toNat (dh wk a).2.toNat w):=by
 obtain⟨B,C,D,E⟩:=oS wk a;obtain⟨n,s⟩:=Int.eq_ofNat_of_zero_le (show 0<=(dh wk a).1 by omega);obtain⟨tt,t⟩:=Int.eq_ofNat_of_zero_le (show 0<=(dh wk a).2 by omega);have o:calls.length<=100000:=by have:=b.c1;omega
 unfold jB;rw[s]at B C;rw[t]at D E;rw[s,t];rw[Int.toNat_natCast,Int.toNat_natCast];have d:=aF p (ik b.ok).1;have f:=aF q b.c0;have g:=aF r (A1 P);obtain⟨i,a1,I,rfl,_,v,_,d,_⟩:=d;obtain⟨j,a2,u,rfl,_,H,_,f,_⟩:=f;obtain⟨k,a3,J,rfl,_,x,_,g,_⟩:=g;by_cases c:dB (bT P) 0 3 1=true
 ·by_cases G:17+8*n+3+1+1<=tt
  ·refine(uW n tt (by omega) (by omega) l loop calls (bT P) 0 3 1 o b.c0 b.ok c G _ _ _ w p q r m).mono fun e w' h=> .yes ?_ h
   rw[c,Bool.true_and,decide_eq_true_eq];omega
  ·refine(tp n tt (by omega) (by omega) l i a1 loop calls j a2 (bT P) k a3 0 3 1 v H x o b.c0 w (gF d) (gF g) ⟨u,f⟩ b.ok c m).mono fun e w' h=> .no ?_ (h.elim (fun h=>absurd h.1 (by omega)) And.right)
   rw[c,Bool.true_and,decide_eq_false_iff_not];omega
 ·have F:dB (bT P) 0 3 1=false:=by rwa [Bool.not_eq_true]at c
  refine(oH n tt l (some ⟨i,0,none⟩) a1 loop calls (some ⟨j,0,none⟩) a2 (bT P) (some ⟨k,0,none⟩) a3 0 3 1 v x o w (fun _=>⟨i,rfl,gF d⟩) (fun _=>⟨k,rfl,gF g⟩) (fun _=>⟨j,u,rfl,f⟩) (fun h=>c h.2.2.2.2.2) m).mono fun e w' h=> .no ?_ h
  rw[F,Bool.false_and]
def tG(C:KC)(ok:Bool)(n tt:Nat)(w:World)(e:Ending)(w':World):Prop:=
 (ok=false/\e=.returned (.pointer none)/\Ch ag w w')∨(ok=true/\∃mb χ,e=.returned (.pointer (some ⟨mb,0,none⟩))/\MS w' χ mb C (fH C n tt)/\(∀i,χ i≠ .no->w.heap.size<=i)/\Ch ag w w')
theorem gd.below{w w':World}{B:Nat}{p:Value}{P:fL}(h:gd w B p P)(hb:Below B w w'):gd w' B p P:=by
 obtain⟨a,c,g,i,j,b,d,e,f⟩:=h;exact⟨a,c,g,i,j,b,d.below hb,e.below hb,f.below hb⟩
theorem gd.mono{w:World}{B j:Nat}{p:Value}{P:fL}(h:gd w B p P)(A:B<=j):gd w j p P:=by
 obtain⟨a,c,u,y,z,q,b,d,i⟩:=h;have f:∀{v l},gP w B v l->gP w j v l:=fun {v l} h=>by
  obtain⟨a,c,b,d,i⟩:=h;refine⟨a,c,b,d,fun k x n=> ?_⟩;obtain⟨g,o,e,s,m⟩:=i k x n;exact⟨g,o,e,by omega,m⟩
 refine⟨a,c,u,y,z,q,f b,?_,f i⟩;obtain⟨a,c,b,d,i⟩:=d;refine⟨a,c,b,d,fun k x n=> ?_⟩;obtain⟨g,o,t,e,s,m,r⟩:=i k x n;exact⟨g,o,t,e,by omega,m,f r⟩
theorem A7{l:List aR}{loop:Int}{calls:List bB}(ch:tu l loop calls)(ap:∀w,Calls prog 9 #[.int .i64 16] w (oG l loop calls w))(P:fL)(am:jA P)(p:Value)(wk d:Int)(w:World)(Q:gd w w.heap.size p P)
 (E:w.cell? (0,0)=some (.iface 335 (.agg #[(1,40)]))):
 Calls prog 15 #[.agg #[wk,d],p] w (tG (p5 l loop calls P) (jB P wk d) (dh wk d).1.toNat (dh wk d).2.toNat w):=by
 have cf:=Z ap;have V:=Z E;have W:=Z Q;have U:=Z (fun w=>tx wk d w);have X:Hid (∀w1,Ch ag w w1->Calls prog 10 #[p,.int .i64 16] w1 (wu (bT P) w1)):=Z (fun w1 c=>A6 P am p w1 ((Q.below c.hR).mono c.size));have I:=Z (fun(c4 c5 c6:Value) (B1 B2 B3:Nat) (b:World) J K L E=>A4 ch P wk d c4 c5 c6 (B1:=B1) (B2:=B2) (B3:=B3) b J K L E);obtain⟨n,O⟩:=nm ((dh wk d).1);obtain⟨tt,R⟩:=nm ((dh wk d).2);obtain⟨C,M⟩:=nm (p5 l loop calls P);rw[O,R]at U I;rw[M]at I;rw[O,R,M];clear ap E Q am O R M;obtain⟨a0,t,cr,cs,ck,rfl,J,K,L⟩:=W.out;obtain⟨a1,u,rfl,-,-⟩:=J;obtain⟨a2,v,rfl,-,-⟩:=K;obtain⟨a3,x,rfl,-,-⟩:=L;obtain⟨k,Y⟩:=nm P.c';obtain⟨m,ab⟩:=nm P.first.length;obtain⟨o,ad⟩:=nm P.others.length;obtain⟨s,al⟩:=nm P.once.length;obtain⟨A,c2⟩:=nm P.mM;rw[Y,ab,ad,al,c2]at X⊢;clear W Y ab ad al c2;obtain⟨a,D⟩:=nm w.heap.size;have cl:=Z D;go_in
 go_wp2
 obtain⟨w1,z⟩:=nm ((w.alloc (.cells #[wk,d] 23)).alloc (.cells #[.slice a0 k t,.slice a1 m u,.slice a2 o v,.slice a3 s x,.bool A] 28));have f:Hid (Ch ag w w1):=Z (by rw[<-z];exact((Ch.refl _ _).alloc _).alloc _);have c7:Hid (Row w1 a 23 [wk,d]):=Z (by rw[<-z,<-D];exact(Row.new w _ _).alloc _);have cd:Hid (Row w1 (a+1) 28 [.slice a0 k t,.slice a1 m u,.slice a2 o v,.slice a3 s x,.bool A]):=Z (by
  rw[<-z,<-D];have r:=Row.new (w.alloc (.cells #[wk,d] 23)) #[.slice a0 k t,.slice a1 m u,.slice a2 o v,.slice a3 s x,.bool A] 28;rw[World.size_alloc]at r;exact r)
 rw[z];clear z D;have j:Hid (∀b,Ch ag w1 b->b.cell? (a,0)=some (.int .i64 wk)/\b.cell? (a,1)=some (.int .i64 d)/\b.cell? (a+1,0)=some (.slice a0 k t)/\b.cell? (a+1,1)=some (.slice a1 m u)/\b.cell? (a+1,2)=some (.slice a2 o v)/\b.cell? (a+1,3)=some (.slice a3 s x)/\b.cell? (a+1,4)=some (.bool A)):=Z (fun b c=>by
  have r:=c7.ch c (fun h=>h);have q:=cd.ch c (fun h=>h);exact⟨r.cell rfl,r.cell rfl,q.cell rfl,q.cell rfl,q.cell rfl,q.cell rfl,q.cell rfl⟩)
 obtain⟨t0,t1,t2,t3,t4,t5,t6⟩:=j _ (Ch.refl _ _);go_region_held3 (fun w'=>w'.cell? (a,0)=some (.int .i64 wk)/\w'.cell? (a,1)=some (.int .i64 d)/\w'.cell? (a+1,0)=some (.slice a0 k t)/\w'.cell? (a+1,1)=some (.slice a1 m u)/\w'.cell? (a+1,2)=some (.slice a2 o v)/\w'.cell? (a+1,3)=some (.slice a3 s x)/\w'.cell? (a+1,4)=some (.bool A)) (go_keep) (first|(go_at_call 12;refine(U _).mono ?_;rintro e w2 ⟨rfl,av⟩;have S:Hid (Ch ag w1 w2):=Z (Ch.trans g3 av);obtain⟨t0,t1,t2,t3,t4,t5,t6⟩:=j _ S;clear av)|(go_at_call 9;refine(cf _).mono ?_;rintro e w3 ⟨ck,rfl,⟨c4,c5,rfl,bw,bx⟩,ax⟩;have c8:=Z bw;have c9:=Z bx;have F:Hid (Ch ag w1 w3):=Z (S.trans (Ch.trans g3 ax));obtain⟨t0,t1,t2,t3,t4,t5,t6⟩:=j _ F;clear ax bw bx)|(go_at_call 10;refine(X _ (f.trans (F.trans g3))).mono ?_;rintro e w4 ⟨c6,rfl,c1,bi⟩;have B:Ch ag w3 w4:=Ch.trans g3 bi;have G:Hid (Ch ag w1 w4):=Z (F.trans B);have H:=((f.trans G).cell (aP V) (fun e=>e)).trans V;have cb:=Z (fun b (c:Ch ag w4 b)=>(I _ _ _ _ _ _ b (aj (aj c8 B (fun _ _ e=>e)) c (fun _ _ e=>e)) (aj (aj c9 B (fun _ _ e=>e)) c (fun _ _ e=>e)) (aj c1 c (fun _ _ e=>e)) ((c.cell (aP H) (fun e=>e)).trans H)).mono fun _ _ h=>h.back (G.trans c));obtain⟨t0,t1,t2,t3,t4,t5,t6⟩:=j _ G;clear bi c1 B H)|(go_at_call 11;refine(cb _ g3).mono ?_;rintro e cA ⟨pv,cm,rfl,N,c3⟩;have T:=Z N;have ce:=Z c3;obtain⟨t0,t1,t2,t3,t4,t5,t6⟩:=j _ N;clear N c3))
 all_goals
  rcases ce with⟨y,rfl,cq,cC,rfl⟩|⟨y,mb,χ,rfl,rfl,c0,bv⟩
  ·have g:=Z y
   clear y;go_wp2
   go_ret;exact Or.inl ⟨g,rfl,f.trans T⟩
  ·have g:=Z (And.intro y (And.intro c0 bv))
   clear y c0 bv;go_wp2
   go_ret;exact Or.inr ⟨g.1,mb,χ,rfl,g.2.1,fun i ci=>Nat.le_trans f.size (g.2.2 i ci),f.trans T⟩
theorem gQ.ch{α:Type}{w w':World}{v:Value}{k:Nat}{enc:α->List Value}{l:List α}(h:gQ w w.heap.size v k enc l)(c:Ch ag w w'):gQ w' w'.heap.size v k enc l:=by
 obtain⟨a,f,i,m,n⟩:=h;refine⟨a,f,i,m,fun q x t=> ?_⟩;obtain⟨g,d,o,b,r⟩:=n q x t;exact⟨g,d,o,Nat.lt_of_lt_of_le b c.size,fun j u s=>(c.cell (p:=⟨g,d+q*k+j,none⟩) b (fun e=>e)).trans (r j u s)⟩
structure DE(C:KC)(ok:Bool)(nw tt wk ce:Int)(p:Value)(w:World):Prop where
 made:∀W,Ch ag w W->Calls prog 15 #[.agg #[wk,ce],p] W (tG C ok nw.toNat tt.toNat W)
 Hc:∀W,Ch ag w W->Calls prog 13 #[] W (dc (.bool true) W)
 ck:ok=true->mU C/\Inv 1 0 (fH C nw.toNat tt.toNat)
 cf:∀W,Calls prog 12 #[.agg #[wk,ce]] W (dc (.agg #[nw,tt]) W)
 F':1<=nw/\nw<=64/\1<=tt/\tt<=65536
theorem CT{f:List aR}{loop:Int}{calls:List bB}(g:tu f loop calls)(j:∀w,Calls prog 9 #[.int .i64 16] w (oG f loop calls w))(P:fL)(i:jA P)(p:Value)(wk a:Int)(w:World)(k:gd w w.heap.size p P)
 (d:w.cell? (0,0)=some (.iface 335 (.agg #[(1,40)]))):DE (p5 f loop calls P) (jB P wk a) (dh wk a).1 (dh wk a).2 wk a p w:=by
 refine⟨?_,?_,?_,?_,oS wk a⟩
 ·exact fun b c=>A7 g j P i p wk a b ((k.below c.hR).mono c.size) ((c.cell (aP d) (fun e=>e)).trans d)
 ·exact fun b c=>pZ b ((c.cell (aP d) (fun e=>e)).trans d)
 ·exact fun h=>⟨A2 g i h,A3 h⟩
 ·exact fun b=>tx wk a b
theorem EZ(P:fL)(c:jA P)(p:Value)(wk a:Int)(w:World)(f:gd w w.heap.size p P)
 (e:w.cell? (0,0)=some (.iface 335 (.agg #[(1,40)]))):∃C ok nw tt,DE C ok nw tt wk a p w:=by
 obtain⟨g,loop,calls,b,d⟩:=AU;exact⟨_,_,_,_,CT b d P c p wk a w f e⟩
theorem vf{w:World}{B:Nat}{p:Value}{P:fL}(h:gd w B p P):∃a0 a a1 b a2 c a3 d,p=.agg #[.slice a0 P.c' a,.slice a1 P.first.length b,.slice a2 P.others.length c,.slice a3 P.once.length d,.bool P.mM]:=by
 obtain⟨a0,a,i,j,k,rfl,e,f,g⟩:=h;obtain⟨a1,b,rfl,-,-⟩:=e;obtain⟨a2,c,rfl,-,-⟩:=f;obtain⟨a3,d,rfl,-,-⟩:=g;exact⟨_,_,_,_,_,_,_,_,rfl⟩
structure eI(w1:World)(C:KC)(nw:Int)(mb:Nat)(sb:Nat)(sv:Value)(S:List jW)(χ:Nat->aX)(K:KS)(i:Nat)(wr:World):Prop where
 ms:MS wr χ mb C K
 inv:Inv (i+1) 0 K
 out:K.out=[]
 wl:(K.wk.length:Int)=nw
 jV:∀j,χ j≠ .no->w1.heap.size<=j
 ch:Ch ag w1 wr
 row:wr.ownsRow sb 58 3 sv S.length (S.flatMap ly)
 CU:∀g,sv.ownBlock=some g->g<wr.heap.size/\χ g=.no
theorem eI.af{w1:World}{C:KC}{nw:Int}{mb a:Nat}{b:Value}{S:List jW}{χ:Nat->aX}{K:KS}{i:Nat}{wr DF:World}(h:eI w1 C nw mb a b S χ K i wr)(c:Ch ag wr DF):eI w1 C nw mb a b S χ K i DF:=
 ⟨h.ms.af c,h.inv,h.out,h.wl,h.jV,h.ch.trans c,aj h.row c (fun _ _ h=>h),fun g e=>⟨Nat.lt_of_lt_of_le (h.CU g e).1 c.size,(h.CU g e).2⟩⟩
theorem A9(C:KC)(K:KS)(kind wk draw:Int)(h:K.out=[]):(fk C K kind wk draw).2.out=[]/\(fk C K kind wk draw).2.wk.length=K.wk.length:=by
 by_cases e:kind=2
 ·subst e;obtain⟨-,-,-,a,b⟩:=vH C K wk draw h;exact⟨a,b⟩
 ·obtain⟨-,-,-,a,b⟩:=Df C K kind wk draw h e;exact⟨a,b⟩
theorem eI.step{w1:World}{C:KC}{nw:Int}{mb m:Nat}{n:Value}{S:List jW}{χ:Nat->aX}{K:KS}{i:Nat}{wr w3:World}(k:mU C)(h:eI w1 C nw mb m n S χ K i wr)(c:Ch ag wr w3)(s:i<=1000)(x:jW)(l:aI x.draw):
 Calls prog 18 #[(mb,0),.agg #[.int .i64 x.kind,.int .i64 x.wk,.int .u64 x.draw]] w3 (fun e w4=>∃d f,e=.returned d/\w4.ownsRow w3.heap.size 62 11 d (fk C K x.kind x.wk x.draw).1.length ((fk C K x.kind x.wk x.draw).1.flatMap Ev.cells)/\(∀g,d.ownBlock=some g->f g=.no)/\Nx χ f w3 w4/\eI w1 C nw mb m n S f (fk C K x.kind x.wk x.draw).2 (i+1) w4):=by
 have a:=h.af c;refine(tq k h.inv (by omega) x.kind x.wk x.draw l a.ms).mono ?_;rintro e w4 ⟨d,f,rfl,r,o,q,b⟩;obtain⟨k1,k2⟩:=A9 C K x.kind x.wk x.draw h.out;refine⟨d,f,rfl,r,o,b,q,jl k h.inv (by omega) x.kind x.wk x.draw l,k1,by rw[k2];exact h.wl,lp h.jV b a.ch.size,gE h.jV b a.ch,aj a.row b.ch (fun g e p=>p (a.CU g e).2),fun g e=> ?_⟩;have j:=a.CU g e;exact⟨Nat.lt_of_lt_of_le j.1 b.ch.size,(b.same g j.1).trans j.2⟩
theorem eI.De{w1:World}{C:KC}{nw:Int}{mb l:Nat}{c:Value}{S:List jW}{χ:Nat->aX}{K:KS}{i:Nat}{wr:World}(h:eI w1 C nw mb l c S χ K i wr){x:jW}{q:Nat}(b:S[q]?=some x):
 ∃g cap,c=.slice (some ⟨g,0,none⟩) S.length cap/\wr.cell? ⟨g,q*3,none⟩=some (.int .i64 x.kind)/\wr.cell? ⟨g,q*3+1,none⟩=some (.int .i64 x.wk)/\wr.cell? ⟨g,q*3+2,none⟩=some (.int .u64 x.draw):=by
 have m:=(List.getElem?_eq_some_iff.1 b).1;obtain⟨g,cap,n,rfl,_,_,_,e,_⟩:=aF h.row (by omega);have a:∀j v,j<3->(ly x)[j]?=some v->wr.cell? ⟨g,q*3+j,none⟩=some v:=fun j v d f=>e.cell (by
  rw[List.getElem?_append_left (by rw[a4 (enc:=ly) (k:=3) (fun _=>rfl)];omega)];exact(bD (enc:=ly) (k:=3) (fun _=>rfl) b d).trans f)
 exact⟨g,cap,rfl,a 0 _ (by omega) rfl,a 1 _ (by omega) rfl,a 2 _ (by omega) rfl⟩
structure Hm(w1:World)(C:KC)(nw:Int)(mb nb sb:Nat)(sv:Value)(S:List jW)(χ ψ:Nat->aX)(K:KS)(i:Nat)(wr:World):Prop where
 a:eI w1 C nw mb sb sv S χ K i wr
 b:eI w1 C nw nb sb sv S ψ K i wr
 ap:∀j,χ j≠ .no->ψ j=.no
theorem eI.other{w1:World}{C:KC}{nw:Int}{mb c:Nat}{b:Value}{S:List jW}{χ a o:Nat->aX}{K:KS}{i:Nat}{wr w4:World}(h:eI w1 C nw mb c b S χ K i wr)(n:Nx a o wr w4)(d:∀j,a j≠ .no->χ j=.no)(f:∀j,a j≠ .no->w1.heap.size<=j)(m:∀g,b.ownBlock=some g->a g=.no):eI w1 C nw mb c b S χ K i w4:=
 ⟨h.ms.jV n.ch (fun j _ l=>d j l),h.inv,h.out,h.wl,h.jV,gE f n h.ch,aj h.row n.ch (fun g e k=>k (m g e)),fun g e=>⟨Nat.lt_of_lt_of_le (h.CU g e).1 n.ch.size,(h.CU g e).2⟩⟩
theorem E0{χ a:Nat->aX}(b:∀j,χ j≠ .no->a j=.no):∀j,a j≠ .no->χ j=.no:=fun j d=>by
 cases c:χ j with
 |no=>rfl
 |_=>exact absurd (b j (by rw[c];simp)) d
section
structure MM where
 m:Nat
 sb:Nat
 sv:Value
 S:List jW
 χ:Nat->aX
 K:KS
 i:Nat
section
variable{w1 wr DF w3 w4:World}{C:KC}{nw:Int}{M N R:MM}
def Al(w1:World)(C:KC)(nw:Int)(M:MM)(wr:World):Prop:=eI w1 C nw M.m M.sb M.sv M.S M.χ M.K M.i wr
structure DG(M N:MM):Prop where
 c:∀j,M.χ j≠ .no->N.χ j=.no
 s1:∀g,M.sv.ownBlock=some g->N.χ g=.no
 s2:∀g,N.sv.ownBlock=some g->M.χ g=.no
theorem DG.sym(h:DG M N):DG N M:=⟨E0 h.c,h.s2,h.s1⟩
structure oY(w1:World)(C:KC)(nw:Int)(M N R:MM)(wr:World):Prop where
 a:Al w1 C nw M wr
 b:Al w1 C nw N wr
 x:Al w1 C nw R wr
 ab:DG M N
 ax:DG M R
 bx:DG N R
theorem oY.af(h:oY w1 C nw M N R wr)(c:Ch ag wr DF):oY w1 C nw M N R DF:=⟨eI.af h.a c,eI.af h.b c,eI.af h.x c,h.ab,h.ax,h.bx⟩
theorem oY.sw(h:oY w1 C nw M N R wr):oY w1 C nw N M R wr:=⟨h.b,h.a,h.x,h.ab.sym,h.bx,h.ax⟩
theorem oY.G0(h:oY w1 C nw M N R wr):oY w1 C nw R M N wr:=⟨h.x,h.a,h.b,h.ax.sym,h.bx.sym,h.ab⟩
theorem oY.jV{D:Nat->Prop}(h:oY w1 C nw M N R wr)(c:Ch D wr DF)(b:∀j,D j->w1.heap.size<=j/\M.χ j=.no/\N.χ j=.no/\R.χ j=.no)(i:∀g,M.sv.ownBlock=some g->¬D g)(k:∀g,N.sv.ownBlock=some g->¬D g)(l:∀g,R.sv.ownBlock=some g->¬D g):oY w1 C nw M N R DF:=by
 have f:∀Q:MM,Al w1 C nw Q wr->(∀j,D j->Q.χ j=.no)->(∀g,Q.sv.ownBlock=some g->¬D g)->Al w1 C nw Q DF:=fun Q q k1 k2=>
  ⟨q.ms.jV c (fun j _ d=>k1 j d),q.inv,q.out,q.wl,q.jV,q.ch.fresh c (fun j d e=>by have:=(b j e).1;omega),aj q.row c k2,fun g e=>⟨Nat.lt_of_lt_of_le (q.CU g e).1 c.size,(q.CU g e).2⟩⟩
 exact⟨f M h.a (fun j a=>(b j a).2.1) i,f N h.b (fun j a=>(b j a).2.2.1) k,f R h.x (fun j a=>(b j a).2.2.2) l,h.ab,h.ax,h.bx⟩
theorem oY.step(r:mU C)(h:oY w1 C nw M N R wr)(v:M.i<=1000)(x:jW)(t:aI x.draw)(c:Ch ag wr w3):
 Calls prog 18 #[(M.m,0),.agg #[.int .i64 x.kind,.int .i64 x.wk,.int .u64 x.draw]] w3 (fun e w4=>∃f b,e=.returned f/\w4.ownsRow w3.heap.size 62 11 f (fk C M.K x.kind x.wk x.draw).1.length ((fk C M.K x.kind x.wk x.draw).1.flatMap Ev.cells)/\(∀g,f.ownBlock=some g->b g=.no/\N.χ g=.no/\R.χ g=.no)/\oY w1 C nw {M with χ:=b,K:=(fk C M.K x.kind x.wk x.draw).2,i:=M.i+1} N R w4/\Nx M.χ b w3 w4):=by
 have a:=h.af c;refine(eI.step r h.a c v x t).mono ?_;rintro e w4 ⟨f,b,rfl,m,s,d,w⟩;have l:∀Q:MM,Al w1 C nw Q w3->∀j,w3.heap.size<=j->Q.χ j=.no:=fun Q q j p=>by
  cases u:Q.χ j with
  |no=>rfl
  |_=>exact absurd (q.ms.small j (by rw[u];simp)) (by omega)
 have o:∀Q:MM,Al w1 C nw Q w3->DG M Q->DG {M with χ:=b,K:=(fk C M.K x.kind x.wk x.draw).2,i:=M.i+1} Q:=fun Q q n=>
  ⟨fun j p=>by
   rcases Nat.lt_or_ge j w3.heap.size with k|k
   ·exact n.c j (by rw[<-d.same j k];exact p)
   ·exact l Q q j k,n.s1,fun g e=>(d.same g (q.CU g e).1).trans (n.s2 g e)⟩
 exact⟨f,b,rfl,m,fun g e=>⟨s g e,l N a.b g (m.lt g e).1,l R a.x g (m.lt g e).1⟩,
  ⟨w,eI.other a.b d h.ab.c h.a.jV h.ab.s2,eI.other a.x d h.ax.c h.a.jV h.ax.s2,o N a.b h.ab,o R a.x h.ax,h.bx⟩,d⟩
end
end
structure Mk(w1:World)(C:KC)(n tt:Nat)(l:List (Nat×(Nat->aX)))(w:World):Prop where
 ms:∀x∈l,MS w x.2 x.1 C (fH C n tt)/\∀i,x.2 i≠ .no->w1.heap.size<=i
 ap:l.Pairwise fun a b=>∀j,a.2 j≠ .no->b.2 j=.no
 ch:Ch ag w1 w
theorem Mk.nil{w1 w:World}{C:KC}{n tt:Nat}(c:Ch ag w1 w):Mk w1 C n tt [] w:=⟨fun _ h=>by simp at h,List.Pairwise.nil,c⟩
theorem Mk.add{w1 w g w':World}{C:KC}{n tt:Nat}{l:List (Nat×(Nat->aX))}{e:Ending}(h:Mk w1 C n tt l w)(c:Ch ag w g)(m:tG C true n tt g e w'):∃mb χ,e=.returned (.pointer (some ⟨mb,0,none⟩))/\Mk w1 C n tt (l++[(mb,χ)]) w':=by
 rcases m with⟨f,_⟩|⟨_,mb,χ,rfl,f,k,q⟩
 ·cases f
 ·have o:=c.trans q
  refine⟨mb,χ,rfl,fun x d=> ?_,?_,h.ch.trans o⟩
  ·rcases List.mem_append.1 d with d|d
   ·exact⟨(h.ms x d).1.af o,(h.ms x d).2⟩
   ·rw[List.mem_singleton.1 d]
    exact⟨f,fun i s=>Nat.le_trans (h.ch.trans c).size (k i s)⟩
  ·rw[List.pairwise_append]
   refine⟨h.ap,List.pairwise_singleton _ _,fun a r b hb j t=> ?_⟩;rw[List.mem_singleton.1 hb];have:=(h.ms a r).1.small j t;cases p:χ j with
   |no=>exact p
   |_=>have u:=k j (by rw[p];simp);have:=c.size;omega
theorem Mk.no{w1 w2 w:World}{C:KC}{n tt:Nat}{l:List (Nat×(Nat->aX))}(h:Mk w1 C n tt l w2){x:Nat×(Nat->aX)}(b:x∈l){B z k:Nat}{t:TypeId}{v:Value}{c:List Value}(r:w.ownsRow B t z v k c)(d:w2.heap.size<=B):∀g,v.ownBlock=some g->x.2 g=.no:=fun g e=>by
 have:=(r.lt g e).1;cases a:x.2 g with
 |no=>rfl
 |_=>have:=(h.ms x b).1.small g (by rw[a];simp);omega
theorem Mk.al{w1 w2 w:World}{C:KC}{nw tt:Int}{l:List (Nat×(Nat->aX))}(h:Mk w1 C nw.toNat tt.toNat l w2)(j:1<=nw)(d:Inv 1 0 (fH C nw.toNat tt.toNat))(c:Ch ag w2 w){B:Nat}{v:Value}{S:List jW}(r:w.ownsRow B 58 3 v S.length (S.flatMap ly))(b:w2.heap.size<=B){x:Nat×(Nat->aX)}(a:x∈l):
 eI w1 C nw x.1 B v S x.2 (fH C nw.toNat tt.toNat) 0 w:=by
 obtain⟨k,m,f,i⟩:=As C nw.toNat tt.toNat;exact⟨(h.ms x a).1.af c,d,i,by show((fH C nw.toNat tt.toNat).wk.length:Int)=nw;rw[f];omega,(h.ms x a).2,h.ch.trans c,r,fun g e=>⟨(r.lt g e).2,h.no a r b g e⟩⟩
theorem tG.no{C:KC}{n tt:Nat}{w w':World}{e:Ending}(h:tG C false n tt w e w'):e=.returned (.pointer none)/\Ch ag w w':=by
 rcases h with⟨_,h⟩|⟨h,_⟩
 ·exact h
 ·cases h
theorem Mk.Hl{w1 w2 w:World}{C:KC}{nw tt:Int}{b d e:Nat}{f g i:Nat->aX}(h:Mk w1 C nw.toNat tt.toNat [(b,f),(d,g),(e,i)] w2)(m:1<=nw)(l:Inv 1 0 (fH C nw.toNat tt.toNat))(c:Ch ag w2 w){B j:Nat}{v n:Value}{S T:List jW}(r:w.ownsRow B 58 3 v S.length (S.flatMap ly))(a:w2.heap.size<=B)(r':w.ownsRow j 58 3 n T.length (T.flatMap ly))(k:w2.heap.size<=j):
 oY w1 C nw ⟨b,B,v,S,f,fH C nw.toNat tt.toNat,0⟩ ⟨d,B,v,S,g,fH C nw.toNat tt.toNat,0⟩ ⟨e,j,n,T,i,fH C nw.toNat tt.toNat,0⟩ w:=by
 have p:=h.ap;simp only[List.pairwise_cons,List.mem_cons,List.not_mem_nil,or_false,forall_eq_or_imp,forall_eq]at p;have k1:(b,f)∈[(b,f),(d,g),(e,i)]:=by simp
 have k2:(d,g)∈[(b,f),(d,g),(e,i)]:=by simp
 have k3:(e,i)∈[(b,f),(d,g),(e,i)]:=by simp
 exact⟨h.al m l c r a k1,h.al m l c r a k2,h.al m l c r' k k3,⟨p.1.1,h.no k2 r a,h.no k1 r a⟩,⟨p.1.2,h.no k3 r a,h.no k1 r' k⟩,⟨p.2.1,h.no k3 r a,h.no k2 r' k⟩⟩
theorem DH(C:KC)(K:KS)(kind wk draw:Int)(h:K.out=[]):(∀e∈(fk C K kind wk draw).1,e.at_=K.entries)/\(fk C K kind wk draw).2.entries=wrap64 (K.entries+1):=by
 by_cases e:kind=2
 ·subst e
  obtain⟨a,b,-⟩:=vH C K wk draw h;exact⟨fun e c=>by rw[a]at c;rw[List.mem_singleton.1 c],b⟩
 ·obtain⟨a,b,-⟩:=Df C K kind wk draw h e
  exact⟨a,b⟩
theorem yL(P:fL)(li:jA P)(p:Value)(wk bi:Int)(l dC:List Int)(v u:Value)(w:World)(hv:gd w w.heap.size p P)(mA:gQ w w.heap.size v 1 (fun x=>[.int .u64 x]) l)(md:∀x∈l,aI x)(mC:gQ w w.heap.size u 1 (fun x=>[.int .u64 x]) dC)(mk:∀x∈dC,aI x)
 (mp:w.cell? (0,0)=some (.iface 335 (.agg #[(1,40)]))):
 Calls prog 7 #[.agg #[wk,bi],p,v,u] w (Au w):=by
 obtain⟨C,ok,nw,tt,ms⟩:=EZ P li p wk bi w hv mp;have d:=Z ms;obtain⟨a0,cr,a1,cs,a2,cA,a3,cC,rfl⟩:=vf hv;obtain⟨ck,l0⟩:=nm P.c';obtain⟨cl,l1⟩:=nm P.first.length;obtain⟨cm,lb⟩:=nm P.others.length;obtain⟨cq,lc⟩:=nm P.once.length;obtain⟨dN,ne⟩:=nm P.mM;rw[l0,l1,lb,lc,ne]at d⊢;have k0:=Z mA;have k4:=Z mC;have pa:=Z md;have pc:=Z mk;obtain⟨r6,rc,rfl,-,-⟩:=mA;obtain⟨r5,rb,rfl,-,-⟩:=mC;obtain⟨c5,hi⟩:=nm w.heap.size;clear hv mp md mk ms l0 l1 lb lc ne li;obtain⟨N,kT⟩:=nm l.length;obtain⟨qr,le⟩:∃N,dC.length=N:=⟨_,rfl⟩;rw[kT]at k0⊢;rw[le]at k4⊢;clear kT le;go_in
 go_wp2
 obtain⟨w1,cd⟩:=nm ((w.alloc (.cells #[wk,bi] 23)).alloc (.cells #[.slice a0 ck cr,.slice a1 cl cs,.slice a2 cm cA,.slice a3 cq cC,.bool dN] 28));have al:Hid (Ch ag w w1):=Z (by rw[<-cd];exact((Ch.refl _ _).alloc _).alloc _);have p8:Hid (Row w1 c5 23 [wk,bi]):=Z (by rw[<-cd,<-hi];exact(Row.new w _ _).alloc _);have kb:Hid (Row w1 (c5+1) 28 [.slice a0 ck cr,.slice a1 cl cs,.slice a2 cm cA,.slice a3 cq cC,.bool dN]):=Z (by
  rw[<-cd,<-hi];have r:=Row.new (w.alloc (.cells #[wk,bi] 23)) #[.slice a0 ck cr,.slice a1 cl cs,.slice a2 cm cA,.slice a3 cq cC,.bool dN] 28;rw[World.size_alloc]at r;exact r)
 rw[cd];clear cd hi;obtain⟨c6,mc⟩:=nm (c5+1);rw[mc]at kb⊢;clear mc;have O:Hid (∀m,Ch ag w1 m->m.cell? (c5,0)=some (.int .i64 wk)/\m.cell? (c5,1)=some (.int .i64 bi)/\m.cell? (c6,0)=some (.slice a0 ck cr)/\m.cell? (c6,1)=some (.slice a1 cl cs)/\m.cell? (c6,2)=some (.slice a2 cm cA)/\m.cell? (c6,3)=some (.slice a3 cq cC)/\m.cell? (c6,4)=some (.bool dN)):=Z (fun m c=>by
  have r:=p8.ch c (fun h=>h);have q:=kb.ch c (fun h=>h);exact⟨r.cell rfl,r.cell rfl,q.cell rfl,q.cell rfl,q.cell rfl,q.cell rfl,q.cell rfl⟩)
 obtain⟨t0,t1,t2,t3,t4,t5,t6⟩:=O _ (Ch.refl _ _);cases ok with
 |false=>
  go_cut [9,10,11] (fun x y z wc=>x=.pointer none/\y=.pointer none/\z=.pointer none/\Ch ag w1 wc)
  case first=>
   have t:Hid (Ch ag w1 w1):=Z (Ch.refl _ _);go_region_held3 (O _ (Ch.refl _ _)) (go_keep) (first|(go_at_call 15;refine(d.made _ (al.trans (t.trans g3))).mono ?_;intro e c0 D;obtain⟨rfl,A⟩:=D.no;have A:=t.trans (Ch.trans g3 A);have t:=Z A;obtain⟨t0,t1,t2,t3,t4,t5,t6⟩:=O _ A;clear D A))
   all_goals
    go_wp2
    go_meet
    exact⟨rfl,rfl,rfl,t⟩
  case rest=>
   obtain⟨w2,rfl⟩:∃x,x=wc:=⟨_,rfl⟩;obtain⟨rfl,rfl,rfl,W⟩:=hcut;have c1:=Z (al.trans W);clear W t0 t1 t2 t3 t4 t5 t6;go_wp2_with fail
   with_reducible refine(d.out.Hc _ c1.out).mono ?_
   rintro e w3 ⟨rfl,I⟩;have p1:=Z (c1.trans I);clear I;go_wp2
   go_ret;exact⟨rfl,p1⟩
 |true=>
  have eW:=Z (d.ck rfl).1;go_cut [9,10,11] (fun x y z wc=>∃E J ab es i3 i4,x=.pointer (some ⟨E,0,none⟩)/\y=.pointer (some ⟨J,0,none⟩)/\z=.pointer (some ⟨ab,0,none⟩)/\Mk w1 C nw.toNat tt.toNat [(E,es),(J,i3),(ab,i4)] wc)
  case first=>
   have t:Hid (Mk w1 C nw.toNat tt.toNat [] w1):=Z (Mk.nil (Ch.refl _ _));go_region_held3 (O _ (Ch.refl _ _)) (go_keep) (first|(go_at_call 15;refine(d.made _ (al.trans (t.ch.trans g3))).mono ?_;intro e c0 D;obtain⟨E,es,rfl,A⟩:=t.add g3 D;have t:=Z A;obtain⟨t0,t1,t2,t3,t4,t5,t6⟩:=O _ A.ch;clear D A))
   all_goals
    go_wp2
    go_meet
    exact⟨_,_,_,_,_,_,rfl,rfl,rfl,t⟩
  case rest=>
   obtain⟨w2,rfl⟩:∃x,x=wc:=⟨_,rfl⟩;obtain⟨E,J,ab,es,i3,i4,rfl,rfl,rfl,D⟩:=hcut;have fd:=Z D;have c1:=Z (al.trans D.ch);clear D t2 t3 t4 t5 t6;obtain⟨t0,t1,-⟩:=O _ fd.ch;have rg:∀m:World,(Instr.field 43 (.agg #[nw,tt]) 0).run prog m=.ok (.int .i64 nw) m:=(fun m=>by kernel_rfl);go_wp2_with fail
   with_reducible refine(d.out.cf _).mono ?_
   rintro e w3 ⟨rfl,I⟩;have et:Hid (Ch ag w2 w3):=Z I;clear I t0 t1;go_wp2_with fail
   have c3:Hid (Calls prog 16 #[nw,.slice r6 N rc,.int .i64 600] w3 (vh nw 600 w3)):=Z (o1 nw d.F'.1 d.F'.2.1 600 (by omega) l pa _ w3 (k0.ch (c1.trans et)));with_reducible refine c3.out.mono ?_
   rintro e w4 ⟨⟨S,ut,rfl,cQ,gr,ll⟩,c8⟩;obtain⟨ec,L,rfl⟩:=ao cQ;have i5:=Z (et.trans c8);obtain⟨t0,t1,-⟩:=O _ (fd.ch.trans i5);obtain⟨f,go⟩:=nm S.length;have F:=Z (And.intro gr (And.intro ll go));rw[go]at cQ gr⊢;have pl:=Z cQ;clear cQ gr ll c8 c3 go;go_wp2_with fail
   with_reducible refine(d.out.cf _).mono ?_
   rintro e c0 ⟨rfl,X⟩;have pm:=Z (aj pl X (fun _ _ e=>e));have ex:=Z (i5.trans X);clear X t0 t1;go_wp2_with fail
   have c3:Hid (Calls prog 16 #[nw,.slice r5 qr rb,.int .i64 600] c0 (vh nw 600 c0)):=Z (o1 nw d.F'.1 d.F'.2.1 600 (by omega) dC pc _ c0 (k4.ch (c1.trans ex)));with_reducible refine c3.out.mono ?_
   rintro e x5 ⟨⟨T,v0,rfl,gs,lm,lo⟩,bw⟩;obtain⟨i0,en,rfl⟩:=ao gs;obtain⟨H,cS⟩:=nm T.length;have kf:=Z (And.intro lm (And.intro lo cS));have hw:=aj pm bw (fun _ _ e=>e);rw[<-F.2.2]at hw;have fz:=Z (fd.Hl d.F'.1 (d.ck rfl).2 (ex.trans bw) hw et.size gs ex.size);rw[cS,F.2.2]at fz;rw[cS];clear gs lm lo bw c3 rg cS hw;obtain⟨B,bv⟩:=nm w3.heap.size;obtain⟨cf,kw⟩:=nm c0.heap.size;rw[bv,kw]at fz;clear bv kw;go_upto_block 0 with fail
   go_cut [] (fun wc=>∃(K ax:KS) (i j:Nat) (χ o M:Nat->aX),i<=600/\oY w1 C nw ⟨E,B,.slice ec f L,S,χ,K,i⟩ ⟨J,B,.slice ec f L,S,o,K,i⟩ ⟨ab,cf,.slice i0 H en,T,M,ax,j⟩ wc)
   case first=>
    go_wp2
    go_loopw [14] (fun u wr=>∃(i j:Nat) (K ax:KS) (χ o M:Nat->aX),i<=f/\j<=i/\u=.int .i64 i/\K.entries=i/\oY w1 C nw ⟨E,B,.slice ec f L,S,χ,K,i⟩ ⟨J,B,.slice ec f L,S,o,K,i⟩ ⟨ab,cf,.slice i0 H en,T,M,ax,j⟩ wr) (fun u _=>f-(intOf u).toNat)
    case atStart=>exact⟨0,0,_,_,es,i3,i4,by omega,by omega,rfl,(As C nw.toNat tt.toNat).1,fz⟩
    case round=>
     obtain⟨i,j,K,ax,χ,o,M,ro,th,rfl,mm,ni⟩:=hrel;have av:=Z ni;have jp:=Z mm;clear ni mm;by_cases tl:i<f
     ·have sC:i<=600:=by have:=F.1;have:=F.2.2;omega
      obtain⟨x,dr⟩:∃x,S[i]?=some x:=⟨_,List.getElem?_eq_getElem (by have:=F.2.2;omega)⟩;have qb:=Z dr;have kv:=Z (F.2.1 x (List.mem_of_getElem? dr));obtain⟨g,cap,c7,y0,i1,i2⟩:=eI.De av.a dr;injection c7 with n U V
      subst n;have tb:(i:Int)<f:=(by omega);have tg:(0:Int)<=i:=(by omega);have io:=Z (oY.step eW av (by show i<=1000;omega) x kv.1 (Ch.refl _ _));clear dr U V;go_wp2_with fail
      with_reducible refine io.out.mono ?_
      rintro e on ⟨wd,ad,rfl,c9,l',no,s0⟩;have gc:=Z no;obtain⟨b,cL⟩:=nm (fk C K x.kind x.wk x.draw).1.length;have fn:=Z cL;have hu:=c9;rw[cL]at c9;obtain⟨Q,R,rfl⟩:=ao c9;rw[cL]at hu;have am:Hid (on.ownsRow wr.heap.size 62 11 (.slice Q b R) b ((fk C K x.kind x.wk x.draw).1.flatMap Ev.cells)/\∀g,(Value.slice Q b R).ownBlock=some g->ad g=.no/\o g=.no/\M g=.no/\w1.heap.size<=g):=Z ⟨hu,fun g e=>by
       obtain⟨k1,k2,k3⟩:=l' g e;exact⟨k1,k2,k3,Nat.le_trans (eI.ch av.a).size (c9.lt g e).1⟩⟩
      clear c9 hu l' no s0 cL y0 i1 i2 io;have pi:i<H∨¬i<H:=(by omega);rcases pi with r'|r'
      case' inl=>
       obtain⟨y,hB⟩:∃y,T[i]?=some y:=⟨_,List.getElem?_eq_getElem (by have:=kf.2.2;omega)⟩;have qc:=Z (kf.2.1 y (List.mem_of_getElem? hB));obtain⟨re,sv,c7,s7,s8,s9⟩:=eI.De gc.x hB;injection c7 with n U V
       subst n;have rt:(i:Int)<H:=(by omega);have it:=Z (oY.step eW gc.G0 (by show j<=1000;omega) y qc.1 (Ch.refl _ _));clear hB U V;go_wp2_with fail
       with_reducible refine it.out.mono ?_
       rintro e ce ⟨wh,s,rfl,-,-,bx,hm⟩;have ap:Hid (∃(c4:KS) (Y:Nat) (s:Nat->aX),Y<=i+1/\oY w1 C nw ⟨E,B,.slice (some ⟨g,0,none⟩) f L,S,ad,(fk C K x.kind x.wk x.draw).2,i+1⟩ ⟨J,B,.slice (some ⟨g,0,none⟩) f L,S,o,K,i⟩ ⟨ab,cf,.slice (some (re,0)) H en,T,s,c4,Y⟩ ce/\ce.ownsRow wr.heap.size 62 11 (.slice Q b R) b ((fk C K x.kind x.wk x.draw).1.flatMap Ev.cells)/\∀g,(Value.slice Q b R).ownBlock=some g->ad g=.no/\o g=.no/\s g=.no/\w1.heap.size<=g):=
        Z ⟨_,_,s,by omega,bx.G0.G0,aj am.1 hm.ch (fun g e k=>k (am.2 g e).2.2.1),fun g e=>by
         obtain⟨k1,k2,k3,hF⟩:=am.2 g e;exact⟨k1,k2,(hm.same g (am.1.lt g e).2).trans k3,hF⟩⟩
       clear bx hm s7 s8 s9 it
      case' inr=>
       obtain⟨ce,rfl⟩:=mn on;have ap:Hid (∃(c4:KS) (Y:Nat) (s:Nat->aX),Y<=i+1/\oY w1 C nw ⟨E,B,.slice (some ⟨g,0,none⟩) f L,S,ad,(fk C K x.kind x.wk x.draw).2,i+1⟩ ⟨J,B,.slice (some ⟨g,0,none⟩) f L,S,o,K,i⟩ ⟨ab,cf,.slice i0 H en,T,s,c4,Y⟩ ce/\ce.ownsRow wr.heap.size 62 11 (.slice Q b R) b ((fk C K x.kind x.wk x.draw).1.flatMap Ev.cells)/\∀g,(Value.slice Q b R).ownBlock=some g->ad g=.no/\o g=.no/\s g=.no/\w1.heap.size<=g):=
        Z ⟨_,j,M,by omega,gc,am⟩
       have rt:¬(i:Int)<H:=by omega
      all_goals
       go_upto_region 12 with fail
       obtain⟨c4,Y,s,rx,bx,n8,mb⟩:=ap.out;obtain⟨sw,st,c7,y0,i1,i2⟩:=eI.De bx.b qb;injection c7 with n U V
       injection n with n
       injection n with n _ _
       subst n;have ip:=Z (oY.step eW bx.sw (by show i<=1000;omega) x kv.1 (Ch.refl _ _));have c2:=Z (And.intro n8 mb);clear bx n8 mb U V ap;go_wp2_with fail
       with_reducible refine ip.out.mono ?_
       rintro e s6 ⟨wl,os,rfl,nd,-,nq,hn⟩;have kd:=Z nq.sw;have cW:=aj c2.1 hn.ch (fun g e k=>k (c2.2 g e).2.1);have p3:Hid (∀g,(Value.slice Q b R).ownBlock=some g->w1.heap.size<=g/\ad g=.no/\os g=.no/\s g=.no):=Z (fun g e=>by
        obtain⟨k1,k2,k3,hF⟩:=c2.2 g e;exact⟨hF,k1,(hn.same g (c2.1.lt g e).2).trans k2,k3⟩)
       have k5:=Z cW;rw[<-fn]at cW;have fb:=Z (CV _ s6 cW nd);rw[fn]at fb;clear nd cW hn nq y0 i1 i2 ip c2 am;go_wp2_with fail
       with_reducible refine fb.out.mono ?_
       rintro e og ⟨rfl,hd⟩;have pu:=Z (kd.af hd);have fr:=Z (aj k5 hd (fun _ _ e=>e));clear hd fb kd k5;have tm:=lz fr;obtain⟨x6,rfl⟩:∃x,x=wr:=⟨_,rfl⟩;go_upto_block 2 with fail
       go_cut [] (fun wc=>Ch ag og wc)
       case first=>
        go_wp2
        go_loopw [17] (fun u wq=>∃q:Nat,q<=b/\u=.int .i64 q/\Ch ag og wq) (fun u _=>b-(intOf u).toNat)
        case atStart=>exact⟨0,by omega,rfl,Ch.refl _ _⟩
        case round=>
         obtain⟨q,tr,rfl,W⟩:=hrel;have ii:=Z W;by_cases s1:q<b
         ·obtain⟨sz,us,up,rd,-,-,-,ob,-⟩:=aF (aj fr W (fun _ _ e=>e)) (by omega)
          injection rd with n U V
          subst n;obtain⟨gf,hl⟩:∃gf,(fk C K x.kind x.wk x.draw).1[q]?=some gf:=⟨_,List.getElem?_eq_getElem (by rw[fn];exact s1)⟩;have x1:=(A' ob hl).2.1;rw[(DH C K x.kind x.wk x.draw (eI.out av.a)).1 gf (List.mem_of_getElem? hl),jp]at x1;have ty:(q:Int)<b:=(by omega);have un:(0:Int)<=q:=(by omega);have hb:((i:Int) !=i)=false:=(by simp);clear ob hl W U V;go_wp2
          go_roundw
          case rel=>exact⟨q+1,by omega,by go_num,ii⟩
          case measure=>simp[intOf];omega
         ·obtain rfl:q=b:=by omega
          clear W;go_wp2
          go_meet
          exact ii
       case rest=>
        obtain⟨s2,rfl⟩:∃x,x=wc:=⟨_,rfl⟩;have ci:=Z (pu.af hcut);have ch:=Z (aj fr hcut (fun _ _ e=>e));have pp:=Z (vj s2 ch);clear hcut;go_wp2_with fail
        with_reducible refine pp.out.mono ?_
        rintro e wn ⟨rfl,ls⟩;have pv:=Z (ci.jV ls (fun j e=>p3 j e) (fun g e=>iy (eI.row ci.a) ch (by decide) e) (fun g e=>iy (eI.row ci.b) ch (by decide) e) (fun g e=>iy (eI.row ci.x) ch (by decide) e));clear ls;go_wp2
        go_roundw
        case rel=>exact⟨i+1,Y,_,c4,ad,os,s,by omega,rx,by go_num,by rw[(DH C K x.kind x.wk x.draw (eI.out av.a)).2,jp];exact(IntWalk.wrap64_in ((i:Int)+1) (by omega)).trans (by omega),pv⟩
        case measure=>simp[intOf];omega
     ·obtain rfl:i=f:=by omega
      go_wp2
      go_meet
      exact⟨K,ax,i,j,χ,o,M,by have:=F.1;have:=F.2.2;omega,av⟩
   case rest=>
    obtain⟨ws,rfl⟩:∃x,x=wc:=⟨_,rfl⟩;obtain⟨K,ax,i,j,χ,o,M,ro,cb⟩:=hcut;obtain⟨ql,sb,gk,nx,-⟩:=eI.ms cb.a;obtain⟨qm,sl,bv,nC,-⟩:=eI.ms cb.b;have gk:ql.mb=E:=gk;have bv:qm.mb=J:=bv;subst gk bv;have ge:=Z nx;have MB:=Z nC;have ov:=Z (eI.ch cb.a);have ap:Hid (K.q.flatten.length<=100000):=Z (by have:=(eI.inv cb.a).q.2;show K.q.flatten.length<=100000;exact Nat.le_trans this (by show i+1<=100000;omega));clear cb nx nC;have a:=Z (tK ge);go_wp2_with fail
    with_reducible refine a.out.mono ?_
    rintro e wv ⟨v1,rfl,mL,gt⟩;have G:=Z mL;have i6:=Z gt;have a:=Z (tK (MB.af gt));clear mL gt;go_wp2_with fail
    with_reducible refine a.out.mono ?_
    rintro e s3 ⟨v2,rfl,mS,he⟩;have i7:=Z (i6.trans he);have a:=Z (tI _ s3 (aj G he (fun _ _ e=>e)) mS);clear mS he i6 G;go_wp2_with fail
    with_reducible refine a.out.mono ?_
    rintro e ww ⟨rfl,I⟩;have eA:=Z (i7.trans I);have a:=Z (p7 (ge.af eA));clear I i7;go_wp2_with fail
    with_reducible refine a.out.mono ?_
    rintro e w' ⟨⟨v4,rfl,mW⟩,c8⟩;have eC:=Z (eA.trans c8);have G:=Z mW;have a:=Z (p7 (MB.af eC));clear mW c8 eA;go_wp2_with fail
    with_reducible refine a.out.mono ?_
    rintro e s4 ⟨⟨v6,rfl,n0⟩,X⟩;have i8:=Z (eC.trans X);have a:=Z (yK _ s4 (aj G X (fun _ _ e=>e)) n0);clear n0 X eC G;go_wp2_with fail
    with_reducible refine a.out.mono ?_
    rintro e x0 ⟨rfl,bw⟩;have eL:=Z (i8.trans bw);have a:=Z (p9 ap (ge.af eL));clear bw i8;go_wp2_with fail
    with_reducible refine a.out.mono ?_
    rintro e x2 ⟨⟨w0,rfl,n1⟩,lv⟩;have eS:=Z (eL.trans lv);have G:=Z n1;have a:=Z (p9 ap (MB.af eS));clear n1 lv eL;go_wp2_with fail
    with_reducible refine a.out.mono ?_
    rintro e s5 ⟨⟨wb,rfl,n2⟩,hf⟩;have i9:=Z (eS.trans hf);have a:=Z (tJ _ s5 (aj G hf (fun _ _ e=>e)) n2);clear n2 hf eS G;go_wp2_with fail
    with_reducible refine a.out.mono ?_
    rintro e x3 ⟨rfl,lw⟩;have ih:=Z (ov.trans (i9.trans lw));clear lw i9;go_wp2_with fail
    with_reducible refine(d.out.Hc _ (al.out.trans ih.out)).mono ?_
    rintro e x4 ⟨rfl,lt⟩;have p2:=Z (al.trans (ih.trans lt));clear lt;go_wp2
    go_ret;exact⟨rfl,p2⟩
end Go.Proofs.YtfnilkpkogipfaaGreatDoor
