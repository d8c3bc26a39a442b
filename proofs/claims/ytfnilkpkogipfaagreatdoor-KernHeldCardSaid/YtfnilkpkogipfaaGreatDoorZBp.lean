import Derived.Test.YtfnilkpkogipfaaGreatDoorZBm
import Derived.Test.YtfnilkpkogipfaaGreatDoorZBo
set_option linter.all false
set_option maxRecDepth 100000
set_option maxHeartbeats 8000000
namespace Go.Proofs.YtfnilkpkogipfaaGreatDoor
open Go.RowKit Go.Proofs.Tryz
theorem Inv.BF{N M:Nat}{K:KS}(h:Inv N M K)(id:Int)(b:id≠0->(aw K.ai id).isSome=true/\ea K.wk K.ring id=0/\st K.table id≠3):Inv N M {K with ring:=(g6 K.ring id).2}:=by
 refine⟨?_,h.nd,h.q,h.bW,h.bB,h.mem,h.obj,h.draw,h.w0,h.w1,h.out⟩;have c:=h.core;refine c.fO id c.cX (fun _ _=>rfl) (fun _ _=>rfl) (fun j g _=>⟨Nat.le_refl _,?_⟩) c.wk (fun r k f=>c.al id r k f) (fun t l=>c.ai id t l) (fun a=> ?_) (fun a _=>⟨(b a).1,(b a).2.2⟩) (fun a i=> ?_)
 ·show ea K.wk (g6 K.ring id).2 j<=ea K.wk K.ring j
  unfold ea;rw[(gh K.ring id j).2 g];exact Nat.le_refl _
 ·show ea K.wk (g6 K.ring id).2 id<=1
  have d:=(b a).2.1;have e:=(gh K.ring id id).1;rw[if_pos rfl]at e;unfold ea at d⊢;omega
 ·have d:=(b a).2.1
  have e:0<hz K.wk id:=i;unfold ea at d;omega
theorem xq(home:Int):db (List.replicate 64 aD.zero) home=(some 64,(List.replicate 64 aD.zero).set 0 ⟨1,true,aD.zero.bE,⟨64,1,home,0,0,false,false⟩⟩):=by rfl
theorem Dm(home:Int):st ((List.replicate 64 aD.zero).set 0 ⟨1,true,aD.zero.bE,⟨64,1,home,0,0,false,false⟩⟩) 64=1:=by rfl
theorem sy(C:KC)(n tt:Nat)(g:1<=n)(h:n<=64)(j:tt<=65536)(i:17+8*n+C.wide.toNat+C.narrow.toNat<=tt):Inv 1 0 (hC C n tt):=by
 have f:=vp C n tt g h j i;obtain⟨d,_,e⟩:=f.born (by omega) C.entry 0 bx;unfold hC;dsimp only;refine d.BF _ (fun c=> ?_);obtain⟨t,l,o⟩:=e c;refine⟨by rw[l];rfl,o,?_⟩;generalize a:bF (j2 C n tt) C.entry 0=x at c⊢;unfold bF at a
 revert a
 cases c' (j2 C n tt).blocks (j2 C n tt).mem 1 with
 |mk k p=>
  obtain⟨b,m⟩:=p;cases k with
  |none=>intro a;subst a;exact absurd rfl c
  |some q=>
   dsimp only;rw[show(j2 C n tt).table=List.replicate 64 aD.zero from rfl,xq];intro a;subst a;dsimp only;rw[Dm];decide
theorem pA(l:List br):∀k,∀r∈fC l k,0<=r/\r<=k
 |0,r,a=>by
  rw[(List.mem_replicate.1 a).2];exact⟨Int.le_refl _,Int.le_refl _⟩
 |k+1,r,a=>by
  rw[fC]at a;rcases List.mem_or_eq_of_mem_set a with h|h
  ·have:=pA l k r h;omega
  ·rw[h];omega
theorem oj(l:List br):∀k,(fC l k).length=1000
 |0=>List.length_replicate
 |k+1=>by rw[fC,List.length_set];exact oj l k
theorem om{n:Int}{b:Bool}:∀{l:List aV} {i:Nat},gE n b l i=none->∀x∈l,ep x n b=true
 |[],_,_=>fun x a=>by cases a
 |y::l,i,h=>fun x a=>by
  unfold gE at h;split at h
  ·rename_i d
   rcases List.mem_cons.1 a with rfl|c
   ·exact d
   ·exact om h x c
  ·cases h
theorem xr{l:List aV}{a:Bool}(h:ja l a=true):∀x∈l,ep x l.length a=true:=by
 unfold ja at h;rw[Bool.and_eq_true]at h;exact om (Option.isNone_iff_eq_none.1 h.2)
theorem vq{l:List aV}{loop:Int}{calls:List br}{p:List aV}{en c b:Int}(d:e2 l loop calls=true)(a:ei p en c b=true)(f:calls.length<=2048)
 (u1:∀x∈l,aH x.v) (u2:∀x∈p,aH x.v):oC (ue l loop calls p en c b) where
 ll:=(hU d).2
 pl:=(jB a).2
 cl:=f
 lv:=u1
 pv:=u2
 D4:=by
  have e:ja p false=true:=by
   unfold ei at a;simp only[Bool.and_eq_true]at a;exact a.1.2
  exact xr e
 bw:=by have:=qI a;exact this
 CT:=oj calls _
 rows:=pA calls _
theorem ae.zS{w w':World}{χ:Nat->a4}{L:cw}{Y:Var}{C:KC}{K:KS}{D:Nat->Prop}(h:ae w χ L Y C K)(c:Ch D w w')(f:∀i,i<w.heap.size->D i->χ i=.no):ae w' χ L Y C K:=by
 have s:eI [.no] χ χ D w w':=⟨c,fun i d g=>by rw[f i d g];simp,fun _ _=>rfl,fun i d=>Nat.lt_of_lt_of_le (h.small i d) c.size⟩;have b:=h.step s (by simp);exact {
  head:=fun _=>b.head (by simp)
  mem:=fun _=>b.mem (by simp)
  al:=fun _=>b.al (by simp)
  bW:=fun _=>b.bW (by simp)
  ring:=fun _=>b.ring (by simp)
  q:=fun _=>b.q (by simp)
  cX:=fun _=>b.cX (by simp)
  obj:=fun _=>b.obj (by simp)
  tm:=fun _=>b.tm (by simp)
  th:=fun j u a _=>b.th j u a (by simp)
  tl:=fun j u a _=>b.tl j u a (by simp)
  fr:=fun j u k e a l _=>b.fr j u k e a l (by simp)
  wk:=fun _=>b.wk (by simp)
  out:=fun _=>b.out (by simp)
  code:=fun _=>b.code (by simp)
  small:=b.small}
def MS(w:World)(χ:Nat->a4)(mb:Nat)(C:KC)(K:KS):Prop:=∃L Y,L.mb=mb/\ae w χ L Y C K/\∀i,χ i≠ .out
theorem MS.zS{w w':World}{χ:Nat->a4}{mb:Nat}{C:KC}{K:KS}{D:Nat->Prop}(h:MS w χ mb C K)(c:Ch D w w')(e:∀i,i<w.heap.size->D i->χ i=.no):MS w' χ mb C K:=by
 obtain⟨L,Y,a,b,d⟩:=h;exact⟨L,Y,a,b.zS c e,d⟩
theorem MS.af{w w':World}{χ:Nat->a4}{mb:Nat}{C:KC}{K:KS}(h:MS w χ mb C K)(c:Ch ag w w'):MS w' χ mb C K:=h.zS c (fun _ _ e=>False.elim e)
theorem MS.small{w:World}{χ:Nat->a4}{mb:Nat}{C:KC}{K:KS}(h:MS w χ mb C K):∀i,χ i≠ .no->i<w.heap.size:=by
 obtain⟨L,Y,b,a,c⟩:=h;exact a.small
def Fo(x:List Ev×KS)(χ:Nat->a4)(mb:Nat)(C:KC)(w:World)(e:Ending)(w':World):Prop:=
 ∃v aW,e=.returned v/\w'.ownsRow w.heap.size 62 11 v x.1.length (x.1.flatMap Ev.cells)/\(∀g,v.ownBlock=some g->aW g=.no)/\MS w' aW mb C x.2/\Nx χ aW w w'
theorem vr{w:World}{χ:Nat->a4}{mb:Nat}{C:KC}{K:KS}{N:Nat}(j:oC C)(k:Inv N 0 K)(l:N<=300000)(kind wk draw:Int)(m:aH draw)(h:MS w χ mb C K):
 Calls prog 18 #[(mb,0),.agg #[kind,wk,.int .u64 draw]] w (Fo (gM C K kind wk draw) χ mb C w):=by
 obtain⟨L,Y,rfl,a,b⟩:=h;refine(Br j k l kind wk draw m b a).mono ?_;rintro e w' ⟨v,aW,Y',rfl,c,d,f,g,i⟩;exact⟨v,aW,rfl,c,d,⟨L,Y',rfl,f,i⟩,g⟩
theorem mO{B:Nat}{χ aW:Nat->a4}{w w':World}(c:∀i,χ i≠ .no->B<=i)(h:Nx χ aW w w')(d:B<=w.heap.size):∀i,aW i≠ .no->B<=i:=fun i b=>by
 rcases Nat.lt_or_ge i w.heap.size with a|a
 ·rw[h.same i a]at b;exact c i b
 ·omega
theorem jl{χ aW:Nat->a4}{a w w':World}(d:∀i,χ i≠ .no->a.heap.size<=i)(h:Nx χ aW w w')(c:Ch ag a w):Ch ag a w':=c.fresh h.ch (fun i e b=>by have:=d i b;omega)
def Dn(C:KC)(n tt:Nat)(w:World)(e:Ending)(w':World):Prop:=
 ∃mb χ,e=.returned (.tuple #[.pointer (some ⟨mb,0,none⟩),.nilIface])/\MS w' χ mb C (hC C n tt)/\(∀i,χ i≠ .no->w.heap.size<=i)/\Ch ag w w'
theorem hV{w:World}{g:Nat}{l:List aV}{c:List Value}(h:Row w g 121 (l.flatMap dg++c)):eE w g l:=
 ⟨h.lt,fun j u a=>h.cell (by
  have b:j<(l.flatMap dg).length:=(List.getElem?_eq_some_iff.1 a).1;rw[List.getElem?_append_left b];exact a)⟩
theorem zT(n tt:Nat)(D:1<=n/\n<=64)(E:1<=tt/\tt<=65536)(l:List aV)(loop:Int)(calls:List br)(p:List aV)(en:Int)(b a:Nat)(C:calls.length<=100000)(f:0<calls.length)
 (c:e2 l loop calls=true) (d:ei p en b a=true) (N:17+8*n+b+a+1<=tt) (g i j:Value) {B1 B2 B3:Nat} (w:World)
 (t:w.ownsRow B1 121 7 g l.length (l.flatMap dg)) (u:w.ownsRow B2 49 6 i calls.length (calls.flatMap br.cells)) (v:w.ownsRow B3 121 7 j p.length (p.flatMap dg))
 (B:w.cell? (0,0)=some (.iface 335 (.agg #[(1,40)]))):
 Calls prog 11 #[.agg #[.int .i64 n,.int .i64 tt],.agg #[g,loop,i],.agg #[j,en,.int .i64 b,.int .i64 a]] w (Dn (ue l loop calls p en b a) n tt w):=by
 obtain⟨q,k,O,rfl,_,G,_,J,_⟩:=aS t (hU c).1;obtain⟨r,m,F,rfl,_,H,_,K,_⟩:=aS u f;obtain⟨s,o,P,rfl,_,I,_,M,_⟩:=aS v (jB d).1;refine(zR n tt D E l q k loop calls r m p s o en b a G H I C f w (hV J) (hV M) ⟨F,K⟩ c d B).mono ?_;rintro e w' (⟨_,χ,L,Y,rfl,x,y,z,A⟩|⟨h,_⟩)
 rotate_left
 ·omega
 exact⟨L.mb,χ,rfl,⟨L,Y,rfl,x,z⟩,y,A⟩
def DA:List aV×List (ByteArray×Int):=(ix ⟨#[115,101,116,32,114,49,32,53,10,115,116,32,114,49,32,91,48,93,10,114,101,116,10]⟩).getD ([],[])
theorem Dp:ix ⟨#[115,101,116,32,114,49,32,53,10,115,116,32,114,49,32,91,48,93,10,114,101,116,10]⟩=some DA:=by kernel_rfl
def mP:KC:=ue jk.1 0 [⟨6,3,0,0,0,0⟩] DA.1 0 1 0
def zU:KS:=hC mP 1 90
def xt:KS:=(gM mP zU 1 0 0).2
def xu:KS:=(gM mP xt 1 0 0).2
def oN:KS:=(gM mP xu 1 0 0).2
def E8:KS:=(gM mP oN 1 0 0).2
theorem zV:e2 jk.1 0 [⟨6,3,0,0,0,0⟩]=true:=by kernel_rfl
theorem vs:ei DA.1 0 1 0=true:=by kernel_rfl
theorem Eh:(gM mP zU 1 0 0).1=[]:=by kernel_rfl
theorem Ei:(gM mP xt 1 0 0).1=[]:=by kernel_rfl
theorem Ej:(gM mP xu 1 0 0).1=[]:=by kernel_rfl
theorem Ek:(gM mP oN 1 0 0).1=[⟨3,3,0,64,18,0,5,0,0,0,0⟩]:=by kernel_rfl
theorem BG:gH E8=25:=by kernel_rfl
def uf(l:List aV):Bool:=l.all fun x=>decide (0<=x.v)&&decide (x.v<18446744073709551616)
theorem lM{l:List aV}(h:uf l=true):∀x∈l,aH x.v:=fun x a=>by
 have:=List.all_eq_true.1 h x a;rw[Bool.and_eq_true,decide_eq_true_eq,decide_eq_true_eq]at this;exact this
theorem sA:oC mP:=vq zV vs (by decide) (lM (by kernel_rfl)) (lM (by kernel_rfl))
theorem Cb:Inv 1 0 zU:=sy mP 1 90 (by decide) (by decide) (by decide) (by decide+kernel)
theorem Cc:Inv 2 0 xt:=nU sA Cb (by decide) 1 0 0 bx
theorem Cd:Inv 3 0 xu:=nU sA Cc (by decide) 1 0 0 bx
theorem El:Inv 4 0 oN:=nU sA Cd (by decide) 1 0 0 bx
def Dq:Nat->KS
 |0=>zU
 |1=>xt
 |2=>xu
 |_=>oN
def E9(k:Nat)(χ:Nat->a4)(mb:Nat)(w:World)(e:Ending)(w':World):Prop:=∃a c aW,e=.returned (.slice a 0 c)/\MS w' aW mb mP (Dq (k+1))/\Nx χ aW w w'
theorem Em(k:Nat)(n:k<3)(w:World)(χ:Nat->a4)(mb:Nat)(h:MS w χ mb mP (Dq k)):
 Calls prog 18 #[(mb,0),.agg #[.int .i64 1,.int .i64 0,.int .u64 0]] w (E9 k χ mb w):=by
 have H:∀(K K':KS) (N:Nat),Inv N 0 K->N<=300000->(gM mP K 1 0 0).1=[]->(gM mP K 1 0 0).2=K'->MS w χ mb mP K->Calls prog 18 #[(mb,0),.agg #[.int .i64 1,.int .i64 0,.int .u64 0]] w (fun e w'=>∃a c aW,e=.returned (.slice a 0 c)/\MS w' aW mb mP K'/\Nx χ aW w w'):=by
  intro K K' N i j f g l;refine(vr sA i j 1 0 0 bx l).mono ?_;rintro e w' ⟨v,aW,rfl,d,_,b,m⟩;rw[f]at d;obtain⟨a,c,rfl⟩:=aA d;rw[g]at b;exact⟨a,c,aW,rfl,b,m⟩
 rcases(show k=0∨k=1∨k=2 by omega)with rfl|rfl|rfl
 ·exact H zU xt 1 Cb (by decide) Eh rfl h
 ·exact H xt xu 2 Cc (by decide) Ei rfl h
 ·exact H xu oN 3 Cd (by decide) Ej rfl h
def En(w:World)(mb:Nat)(i:Value)(wr:World):Prop:=∃(k:Nat) (χ:Nat->a4),k<=3/\i=.int .i64 k/\MS wr χ mb mP (Dq k)/\(∀i,χ i≠ .no->w.heap.size<=i)/\Ch ag w wr
theorem pB(w:World)(m:w.cell? (0,0)=some (.iface 335 (.agg #[(1,40)]))):
 Calls prog 13 #[] w (dt (.bool true) w):=by
 have B:=Z m;have bw:=Z (fun w=>lL _ _ Dp w);have c1:=Z (fun w=>xo w);have bv:Hid (∀(g h j:Value) (B1 B2 B3:Nat) (w:World),w.ownsRow B1 121 7 g jk.1.length (jk.1.flatMap dg)->w.ownsRow B2 49 6 h 1 [.int .i64 6,.int .i64 3,.int .i64 0,.int .i64 0,.int .i64 0,.int .i64 0]->w.ownsRow B3 121 7 j DA.1.length (DA.1.flatMap dg)->
  w.cell? (0,0)=some (.iface 335 (.agg #[(1,40)]))->
  Calls prog 11 #[.agg #[.int .i64 1,.int .i64 90],.agg #[g,.int .i64 0,h],.agg #[j,.int .i64 0,.int .i64 1,.int .i64 0]] w (Dn mP 1 90 w)):=
  Z (fun g h j B1 B2 B3 w c5 c6 c7 m=>zT 1 90 (by decide) (by decide) jk.1 0 [⟨6,3,0,0,0,0⟩] DA.1 0 1 0 (by decide) (by decide) zV vs (by decide) g h j w c5 c6 c7 m)
 clear m;go_enter func13,ntmps13
 go_wp2_with fail
 refine(bw _).mono ?_;rintro e w1 ⟨j,en,rfl,u,_,J⟩;obtain⟨cm,cC,rfl⟩:=aA u;have V:=Z u;have p:=Z J;clear u J;go_wp2_with fail
 refine(c1 _).mono ?_;rintro e w2 ⟨dN,rfl,⟨g,h,rfl,x,y⟩,v⟩;obtain⟨ac,cs,rfl⟩:=aA x;obtain⟨cl,cA,rfl⟩:=aA y;have al:=Z x;have am:=Z y;have q:=Z v;have W:=Z (ar V v (fun _ _ e=>e));clear x y v;go_wp2_with fail
 refine(bv _ _ _ _ _ _ _ al am W (((p.trans q).cell (aE B) (fun e=>e)).trans B)).mono ?_;rintro e es ⟨mb,T,rfl,O,N,K⟩;have ap:=Z O;have U:=Z ((p.trans q).trans K);have a3:Hid (∀i,T i≠ .no->w.heap.size<=i):=Z (fun i c9=>by have:=N i c9;have:=(p.trans q).size;omega);clear O N K;go_upto_block 0 with fail
 go_cut [] (fun wc=>∃χ,MS wc χ mb mP oN/\(∀i,χ i≠ .no->w.heap.size<=i)/\Ch ag w wc)
 case first=>
  go_wp2_with fail
  go_loopw [6] (fun i wr=>En w mb i wr) (fun i _=>3-(intOf i).toNat)
  case atStart=>exact⟨0,T,by omega,rfl,ap,a3,U⟩
  case round=>
   obtain⟨k,χ,cQ,rfl,a,f,b⟩:=hrel;by_cases cb:k<3
   ·have r:=Z (Em k cb wr χ mb a)
    have d:=Z f;have c:=Z b;have C:=Z a;clear a f b;go_wp2_with fail
    with_reducible refine r.out.mono ?_
    rintro e w4 ⟨ck,cq,cf,rfl,P,z⟩;have av:=Z P;have ab:=Z (mO d.out z c.size);have X:=Z (jl d z c);clear P z;go_wp2_with fail
    go_roundw
    case rel=>exact⟨k+1,cf,by omega,by go_num,av,ab,X⟩
    case measure=>simp[intOf];omega
   ·have c3:k=3:=by omega
    subst c3;have C:=Z a;have d:=Z f;have c:=Z b;clear a f b;go_wp2_with fail
    go_meet
    exact⟨χ,C,d,c⟩
 case rest=>
  obtain⟨χ,a,f,b⟩:=hcut;obtain⟨et,S⟩:=nm wc;rw[S]at a b⊢;have r:=Z (vr sA El (by decide) 1 0 0 bx a);have d:=Z f;have c:=Z b;clear a f b S;go_wp2_with fail
  with_reducible refine r.out.mono ?_
  rintro e ex ⟨ec,eC,rfl,Q,M,cd,A⟩;rw[Ek]at Q;obtain⟨c4,c2,cS,rfl,_,c8,_,R,_⟩:=aS Q (by decide);have c0:=Z R;have a2:=Z (M c4 rfl);clear M;have cL:1<=c2:=c8;have ad:=Z (mO d.out A c.size);have a0:=Z (jl d A c);obtain⟨L,Y,o,n,_⟩:=cd;have bi:=Z o;have ch:=Z n;have D:=Z (lq n);have t:=Z (wi 25 ⟨by decide,by decide⟩ n);have F:gH (gM mP oN 1 0 0).2=25:=BG;rw[F,o]at D;rw[o]at t;have G:(ma (gM mP oN 1 0 0).2 25).1=5:=by kernel_rfl
  have H:(ma (gM mP oN 1 0 0).2 25).2.1=true:=by kernel_rfl
  rw[G,H]at t;clear G H;clear A R n o F;go_wp2_with fail
  with_reducible refine D.out.mono ?_
  rintro e ce ⟨rfl,rfl⟩;go_wp2_with fail
  with_reducible refine t.out.mono ?_
  rintro e ce ⟨rfl,eL,ci,l⟩;have s:=Z (c0.ch l.nx.ch (fun e=>e a2));have a1:=Z (jl ad l.nx a0);have E:=Z (kA l.at_);have I:((ma (gM mP oN 1 0 0).2 25).2.2).entries=4:=by kernel_rfl
  rw[I,bi]at E;have cW:=s.c1;have dr:=s.k 3 rfl;have dC:=s.k 6 rfl;clear l I;go_wp2_with fail
  with_reducible refine E.out.mono ?_
  rintro e eA ⟨rfl,rfl⟩;go_wp2_with fail
  go_ret;exact⟨rfl,a1⟩
structure oo where
 num:Int
 name:ByteArray
 zW:ByteArray
 oq:Int
 k0:Int
 k1:Int
 k2:Int
 k3:Int
def pC(r:oo):List Value:=[.int .i64 r.num,.string r.name,.string r.zW,.int .i64 r.oq,.int .i64 r.k0,.int .i64 r.k1,.int .i64 r.k2,.int .i64 r.k3]
theorem xv(r:oo):(pC r).length=8:=rfl
def dA:List oo:=[⟨1,⟨#[99,114,101,97,116,101]⟩,⟨#[99,98,111,114,110]⟩,17,0,0,0,0⟩,
 ⟨2,⟨#[101,120,105,116]⟩,⟨#[99,101,120,105,116]⟩,17,0,0,0,0⟩,
 ⟨3,⟨#[106,111,105,110]⟩,⟨#[99,106,111,105,110]⟩,17,0,0,0,0⟩,
 ⟨4,⟨#[100,101,116,97,99,104]⟩,⟨#[99,108,111,111,115,101]⟩,17,0,0,0,0⟩,
 ⟨5,⟨#[115,101,108,102]⟩,⟨#[99,115,101,108,102]⟩,17,0,0,0,0⟩,
 ⟨6,⟨#[121,105,101,108,100]⟩,⟨#[99,121,105,101,108,100]⟩,17,0,0,0,0⟩,
 ⟨7,⟨#[115,108,101,101,112]⟩,⟨#[99,115,108,101,101,112]⟩,17,0,0,0,0⟩,
 ⟨8,⟨#[110,111,119]⟩,⟨#[99,110,111,119]⟩,17,0,0,0,0⟩,
 ⟨10,⟨#[109,117,116,101,120,32,105,110,105,116]⟩,⟨#[99,109,105,110,105,116]⟩,18,0,0,0,0⟩,
 ⟨11,⟨#[109,117,116,101,120,32,100,101,115,116,114,111,121]⟩,⟨#[99,109,103,111,110,101]⟩,18,1,0,0,0⟩,
 ⟨12,⟨#[109,117,116,101,120,32,108,111,99,107]⟩,⟨#[99,109,108,111,99,107]⟩,18,1,0,0,0⟩,
 ⟨13,⟨#[109,117,116,101,120,32,116,114,121,108,111,99,107]⟩,⟨#[99,109,116,114,121]⟩,18,1,0,0,0⟩,
 ⟨14,⟨#[109,117,116,101,120,32,116,105,109,101,100,108,111,99,107]⟩,⟨#[99,109,116,105,109,101,100]⟩,18,1,0,0,0⟩,
 ⟨15,⟨#[109,117,116,101,120,32,117,110,108,111,99,107]⟩,⟨#[99,109,102,114,101,101]⟩,18,1,0,0,0⟩,
 ⟨20,⟨#[115,101,109,32,105,110,105,116]⟩,⟨#[99,115,105,110,105,116]⟩,19,0,0,0,0⟩,
 ⟨21,⟨#[115,101,109,32,100,101,115,116,114,111,121]⟩,⟨#[99,115,103,111,110,101]⟩,19,2,0,0,0⟩,
 ⟨22,⟨#[115,101,109,32,119,97,105,116]⟩,⟨#[99,115,119,97,105,116]⟩,19,2,0,0,0⟩,
 ⟨23,⟨#[115,101,109,32,116,114,121,119,97,105,116]⟩,⟨#[99,115,116,114,121]⟩,19,2,0,0,0⟩,
 ⟨24,⟨#[115,101,109,32,116,105,109,101,100,119,97,105,116]⟩,⟨#[99,115,116,105,109,101,100]⟩,19,2,0,0,0⟩,
 ⟨25,⟨#[115,101,109,32,112,111,115,116]⟩,⟨#[99,115,112,111,115,116]⟩,19,2,0,0,0⟩,
 ⟨26,⟨#[115,101,109,32,103,101,116]⟩,⟨#[99,115,103,101,116]⟩,19,2,0,0,0⟩,
 ⟨30,⟨#[111,110,99,101,32,105,110,105,116]⟩,⟨#[99,111,105,110,105,116]⟩,20,0,0,0,0⟩,
 ⟨31,⟨#[111,110,99,101]⟩,⟨#[99,111,110,99,101]⟩,20,3,0,0,0⟩,
 ⟨40,⟨#[98,97,114,114,105,101,114,32,105,110,105,116]⟩,⟨#[99,98,105,110,105,116]⟩,21,0,0,0,0⟩,
 ⟨41,⟨#[98,97,114,114,105,101,114,32,100,101,115,116,114,111,121]⟩,⟨#[99,98,103,111,110,101]⟩,21,4,0,0,0⟩,
 ⟨42,⟨#[98,97,114,114,105,101,114,32,119,97,105,116]⟩,⟨#[99,98,119,97,105,116]⟩,21,4,0,0,0⟩,
 ⟨50,⟨#[114,119,108,111,99,107,32,105,110,105,116]⟩,⟨#[99,114,105,110,105,116]⟩,22,0,0,0,0⟩,
 ⟨51,⟨#[114,119,108,111,99,107,32,100,101,115,116,114,111,121]⟩,⟨#[99,114,103,111,110,101]⟩,22,5,0,0,0⟩,
 ⟨52,⟨#[114,119,108,111,99,107,32,114,101,97,100]⟩,⟨#[99,114,114,101,97,100]⟩,22,5,0,0,0⟩,
 ⟨53,⟨#[114,119,108,111,99,107,32,116,114,121,114,101,97,100]⟩,⟨#[99,114,116,114,121,114]⟩,22,5,0,0,0⟩,
 ⟨54,⟨#[114,119,108,111,99,107,32,116,105,109,101,100,114,101,97,100]⟩,⟨#[99,114,116,114,101,97,100]⟩,22,5,0,0,0⟩,
 ⟨55,⟨#[114,119,108,111,99,107,32,119,114,105,116,101]⟩,⟨#[99,114,119,114,105,116,101]⟩,22,5,0,0,0⟩,
 ⟨56,⟨#[114,119,108,111,99,107,32,116,114,121,119,114,105,116,101]⟩,⟨#[99,114,116,114,121,119]⟩,22,5,0,0,0⟩,
 ⟨57,⟨#[114,119,108,111,99,107,32,116,105,109,101,100,119,114,105,116,101]⟩,⟨#[99,114,116,119,114,105,116]⟩,22,5,0,0,0⟩,
 ⟨58,⟨#[114,119,108,111,99,107,32,117,110,108,111,99,107]⟩,⟨#[99,114,102,114,101,101]⟩,22,5,0,0,0⟩,
 ⟨60,⟨#[99,111,110,100,32,105,110,105,116]⟩,⟨#[99,99,105,110,105,116]⟩,23,0,0,0,0⟩,
 ⟨61,⟨#[99,111,110,100,32,100,101,115,116,114,111,121]⟩,⟨#[99,99,103,111,110,101]⟩,23,6,0,0,0⟩,
 ⟨62,⟨#[99,111,110,100,32,119,97,105,116]⟩,⟨#[99,99,119,97,105,116]⟩,23,6,1,0,0⟩,
 ⟨63,⟨#[99,111,110,100,32,116,105,109,101,100,119,97,105,116]⟩,⟨#[99,99,116,105,109,101,100]⟩,23,6,1,0,0⟩,
 ⟨64,⟨#[99,111,110,100,32,115,105,103,110,97,108]⟩,⟨#[99,99,115,105,103,110]⟩,23,6,0,0,0⟩,
 ⟨65,⟨#[99,111,110,100,32,98,114,111,97,100,99,97,115,116]⟩,⟨#[99,99,98,114,111,97,100]⟩,23,6,0,0,0⟩,
 ⟨70,⟨#[102,117,116,101,120,32,119,97,105,116]⟩,⟨#[99,102,119,97,105,116]⟩,16,7,0,0,0⟩,
 ⟨71,⟨#[102,117,116,101,120,32,119,97,107,101]⟩,⟨#[99,102,119,97,107,101]⟩,16,7,0,0,0⟩,
 ⟨72,⟨#[102,117,116,101,120,32,114,101,113,117,101,117,101]⟩,⟨#[99,102,114,101,113]⟩,16,7,0,7,0⟩,
 ⟨73,⟨#[102,117,116,101,120,32,99,109,112,114,101,113,117,101,117,101]⟩,⟨#[99,102,99,109,112]⟩,16,7,0,7,0⟩]
end Go.Proofs.YtfnilkpkogipfaaGreatDoor
