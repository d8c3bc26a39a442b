import Derived.RegionTactic
import Derived.ChangeAlike
import Derived.Test.YtfnilkpkogipfaaGreatDoorZAf
import Derived.Test.YtfnilkpkogipfaaGreatDoorZAg
set_option linter.all false
set_option maxRecDepth 100000
set_option maxHeartbeats 8000000
namespace Go.Proofs.YtfnilkpkogipfaaGreatDoor
open Go.RowKit Go.Proofs.Tryz
theorem ja{x:aR}{n:Nat}(h:bz x n=true):∃y:aR,y.op=x.op/\y.a=x.a/\y.b=x.b/\y.c=x.c/\eB y 1 (x.op !=22)=true:=by
 unfold bz at h;split at h
 ·rw[Bool.and_eq_true]at h
  exact⟨{x with v:=0,m:=0,wh:=0},rfl,rfl,rfl,rfl,h.2⟩
 ·exact⟨{x with m:=0,wh:=0},rfl,rfl,rfl,rfl,h⟩
theorem jJ{x:aR}{n:Nat}(h:bz x n=true)(d:(e5 x.op).1=true):0<=x.a/\x.a<32:=by
 obtain⟨y,b,c,_,_,a⟩:=ja h;unfold eB j7 at a;simp only[Bool.and_eq_true]at a;have:=a.1.2.1.1.1;rw[b,d]at this;unfold fq at this;rw[<-c];simpa using this
theorem wP{x:aR}{n:Nat}(h:bz x n=true)(d:x.op=21):0<=x.c/\x.c<32:=by
 obtain⟨y,b,_,_,c,a⟩:=ja h;unfold eB j7 at a;simp only[Bool.and_eq_true]at a;have:=a.1.2.1.2;rw[b,d]at this;unfold fq at this;rw[<-c];simpa[e5,mh]using this
def a'{a:Type}(acc:a->Int->Int->Int->Int->Option Int×a)(l:List aR)(f:cu)(S:a):Int×cu×a:=
 if f.pc<0 then(3,f,S)else
 match l[f.pc.toNat]? with
 |none=>(3,f,S)
 |some x=>
  if bz x l.length=false then(3,f,S)
  else if x.op=12∨x.op=13∨x.op=14∨x.op=15∨x.op=16 then((dF x f).1,(dF x f).2,S)
  else if x.op=17∨x.op=18∨x.op=19∨x.op=20∨x.op=21 then
   match bQ acc S x f.r with
   |(none,b)=>(3,f,b)
   |(some v,b)=>(0,{f with r:=fU f.r x.a.toNat v,pc:=wrap64 (f.pc+1)},b)
  else if 1<=x.op/\x.op<=11 then(0,{f with r:=fU f.r x.a.toNat (hy x (gT f.r x.b) (iv f.r x)),pc:=wrap64 (f.pc+1)},S)
  else(1,f,S)
def wQ(n:Int)(post:World->Prop)(e:Ending)(w':World):Prop:=(∃u,e=.returned (.tuple #[n,u])/\(u=.nilIface∨n=3/\ar u))/\post w'
def DX(P Q:Nat->Prop):Nat->Prop:=fun i=>P i∨Q i
theorem tV(n:Int)(t:TypeId)(x:Value)(w:World):Calls prog 70 #[n,.iface t x] w (fun e w'=>e=.returned (.iface 197 (.pointer (some (w.heap.size,0))))/\w.alloc (.cells #[.string ⟨#[118,109]⟩,n,.iface t x] 199)=w'):=by
 go_wp2
 go_ret;exact⟨rfl,rfl⟩
theorem nD{T:TypeId}{X:Value}{fn:Type}(c:qt T X fn)(S:fn)(i4:Hid (c.Ok S))(b m:Nat)(t:TypeId)(ce:t≠3)(pre post:List Value)(v:Value)(f:cu)(l:List aR)(gt:Option Addr)(N ex:Nat)
 (a0:N=l.length) (i3:N<=ex) (hl:N<=100000) (hb:f.back.length<=8) (ap:∀k,k<32->aI (f.r k)) (c3:∀x∈l,aI x.v)
 (w:World) (h:aJ w b m t pre post v f) (y:0<N->∃g dr,gt=some ⟨g,dr,none⟩/\∀j u,(b2 l)[j]?=some u->w.cell? ⟨g,dr+j,none⟩=some u) (al:c.At S w)
 (a3:∀S w w' c7 f1 hw f2,c.vA S w->aJ w b m t pre post c7 f1->aJ w' b m t pre post hw f2->aT w c7 hw->Ch (aL b) w w'->c.vA S w') (bw:¬c.D b) (bx:∀i,w.heap.size<=i->¬c.D i) (c0:∀g,v.ownBlock=some g->¬c.D g):
 Calls prog 28 #[(b,m),.slice gt N ex,.iface T X] w
  (wQ (a' c.acc l f S).1 (fun w'=>(∃dC,aJ w' b m t pre post dC (a' c.acc l f S).2.1/\aT w v dC)/\c.vA (a' c.acc l f S).2.2 w'/\Ch (DX (aL b) c.D) w w')):=by
 obtain⟨c6,fr,fb⟩:=f;dsimp only at hb ap;have H:=Z h;have bv:=Z al;have ad:w.cell? (b,m)=some (.int .i64 c6):=h.kI;have f0:=h.free m;have i1:=Z ap;by_cases hn:c6<0
 ·have E:Hid (a' c.acc l ⟨c6,fr,fb⟩ S=(3,⟨c6,fr,fb⟩,S)):=Z (by unfold a';rw[if_pos hn])
  clear h al ap c3 y a3 bw bx c0 hb;go_wp2
  go_ret2;rw[E];exact⟨⟨_,rfl,Or.inl rfl⟩,⟨_,H,aT.refl _ _⟩,c.Dd _ _ bv,Ch.refl _ _⟩
 ·have F:∀A B:Int×cu×fn,(if c6<0 then A else B)=B:=fun A B=>if_neg hn
  obtain⟨p,rfl⟩:=Int.eq_ofNat_of_zero_le (show 0<=c6 by omega);have c2:((p:Int)).toNat=p:=by omega
  by_cases c9:N<=p
  ·have E:Hid (a' c.acc l ⟨(p:Int),fr,fb⟩ S=(3,⟨(p:Int),fr,fb⟩,S)):=Z (by unfold a';rw[F,c2,List.getElem?_eq_none (by omega)])
   have i5:(N:Int)<=(p:Int):=(by omega);clear h al ap c3 y a3 bw bx c0 hb F c2 c9;go_wp2
   go_ret2;rw[E];exact⟨⟨_,rfl,Or.inl rfl⟩,⟨_,H,aT.refl _ _⟩,c.Dd _ _ bv,Ch.refl _ _⟩
  ·have cb:p<l.length:=by omega
   obtain⟨x,C⟩:∃x,l[p]?=some x:=⟨_,List.getElem?_eq_getElem cb⟩;obtain⟨g,dr,rfl,I⟩:=y (by omega);obtain⟨k0,k1,k2,k3,ch,ci,ck⟩:=eR l p x C;have a1:=I _ _ k0;have K:=I _ _ k1;rw[<-Nat.add_assoc]at K;have L:=I _ _ k2;rw[<-Nat.add_assoc]at L;have M:=I _ _ k3;rw[<-Nat.add_assoc]at M;have O:=I _ _ ch;rw[<-Nat.add_assoc]at O;have P:=I _ _ ci;rw[<-Nat.add_assoc]at P;have Q:=I _ _ ck;rw[<-Nat.add_assoc]at Q;have c4:aI x.v:=c3 x (List.mem_of_getElem? C);have i5:¬(N:Int)<=(p:Int):=(by omega);have lw:(p:Int)<(N:Int):=(by omega);have lv:0<=(p:Int):=(by omega);have a2:=Z (fun w=>rz x N hl w);have es:=Z a0;obtain⟨mb,o⟩:=nm (bz x N);rw[o]at a2;cases mb
   ·have E:Hid (a' c.acc l ⟨(p:Int),fr,fb⟩ S=(3,⟨(p:Int),fr,fb⟩,S)):=Z (by unfold a';rw[F,c2,C];dsimp only;rw[<-a0,if_pos o])
    clear h al ap c3 y a3 bw bx c0 hb F c9 C I c4 o a0 cb k0 k1 k2 k3 ch ci ck;unfold aK aG at a2;go_in
    go_wp2_with fail
    with_reducible refine(a2.out _).mono ?_
    rintro e w2 ⟨rfl,s⟩;have a:=Z s;clear s;go_wp2
    go_ret2;rw[E];exact⟨⟨_,rfl,Or.inl rfl⟩,⟨_,H.ch a id (fun g y h=>h),aT.refl _ _⟩,c.Dd _ _ (c.keep _ _ _ bv a),a.af⟩
   ·obtain⟨op,d,D,z,U,R,V⟩:=x
    dsimp only at c4 a1 K L M O P Q;unfold aK aG at a2;dsimp only at a2;have en:=Z a3;have i7:=Z o;have i8:=Z C;have i9:=Z c4;by_cases am:op=12∨op=13∨op=14∨op=15∨op=16
    ·have hi:op=16∨op=15∨op=12∨(op=13∨op=14)/\0<=d/\d<32:=by
      rcases am with rfl|rfl|rfl|rfl|rfl
      ·omega
      ·exact Or.inr (Or.inr (Or.inr ⟨Or.inl rfl,jJ o rfl⟩))
      ·exact Or.inr (Or.inr (Or.inr ⟨Or.inr rfl,jJ o rfl⟩))
      ·omega
      ·omega
     have W:=Z (fun w h=>ze b m t ce pre post v ⟨(p:Int),fr,fb⟩ ⟨op,d,D,z,U,R,V⟩ hi hb w h);unfold aK aG at W;dsimp only at W;have E:Hid (a' c.acc l ⟨(p:Int),fr,fb⟩ S=((dF ⟨op,d,D,z,U,R,V⟩ ⟨(p:Int),fr,fb⟩).1,(dF ⟨op,d,D,z,U,R,V⟩ ⟨(p:Int),fr,fb⟩).2,S)):=Z (by unfold a';rw[F,c2,C];dsimp only;rw[<-a0,o,if_neg (by decide),if_pos am]);obtain⟨l',hf⟩:=nm ((dF ⟨op,d,D,z,U,R,V⟩ ⟨(p:Int),fr,fb⟩));rw[hf]at E W;clear h al ap c3 y a3 bw bx c0 hb F c9 C I c4 o a0 cb k0 k1 k2 k3 ch ci ck hi hf;rcases am with rfl|rfl|rfl|rfl|rfl
     all_goals
      go_in
      go_wp2_with fail
      with_reducible refine(a2.out _).mono ?_
      rintro e w2 ⟨rfl,s⟩;have a:=Z s;have cl:=a.k a1;have cm:=a.k K;have cq:=a.k L;have cr:=a.k M;have cs:=a.k O;have cA:=a.k P;have cC:=a.k Q;have Y:=a.k ad;clear s a1 K L M O P Q ad;go_wp2_with fail
      have go:Hid (∀eW,aJ (w2.alloc eW) b m t pre post v ⟨(p:Int),fr,fb⟩):=Z (fun eW=>H.ch (a.alloc eW) id (fun g y h=>h));with_reducible refine(W.out _ (go.out _)).mono ?_
      rintro e w4 ⟨rfl,⟨dC,hF,eC⟩,G⟩;have gr:=Z hF;have hB:Hid (aT w v dC):=Z ((aT.refl w v).trans (a.alloc _).size eC);have i0:=Z eC;clear eC;have gc:=Z G;clear hF G;go_wp2
      go_ret2;rw[E];exact⟨⟨_,rfl,Or.inl rfl⟩,⟨_,gr,hB⟩,en _ _ _ _ _ _ _ (c.Dd _ _ (c.keep _ _ _ bv (a.alloc _))) (go _) gr i0 gc,((a.alloc _).af.trans gc).mono (fun i ab=>Or.inl ab)⟩
    ·by_cases c1:op=17∨op=18∨op=19∨op=20∨op=21
     ·have cS:0<=d/\d<32:=by
       refine jJ o ?_;rcases c1 with rfl|rfl|rfl|rfl|rfl<;>rfl
      have he:op=17∨op=18∨op=19∨op=20∨(op=21/\0<=z/\z<32):=by
       rcases c1 with rfl|rfl|rfl|rfl|rfl
       ·omega
       ·omega
       ·omega
       ·omega
       ·exact Or.inr (Or.inr (Or.inr (Or.inr ⟨rfl,wP o rfl⟩)))
      have W:=Z (fun w h i6=>qu c S i4 b m (p:Int) fr ⟨op,d,D,z,U,R,V⟩ cS he i1 c4 w h i6);unfold aK aG at W;dsimp only at W;obtain⟨q,eL⟩:=nm (bQ c.acc S ⟨op,d,D,z,U,R,V⟩ fr);obtain⟨hv,i2⟩:=q;have E:Hid (a' c.acc l ⟨(p:Int),fr,fb⟩ S=match(hv,i2)with
       |(none,eA)=>(3,⟨(p:Int),fr,fb⟩,eA)
       |(some v,eA)=>(0,{(⟨(p:Int),fr,fb⟩:cu)with r:=fU fr d.toNat v,pc:=(p:Int)+1},eA)):=Z (by
       have eS:wrap64 ((p:Int)+1)=(p:Int)+1:=(by unfold wrap64;omega);unfold a';rw[F,c2,C];dsimp only;rw[<-a0,o,if_neg (by decide),if_neg am,if_pos c1,eL,eS])
      rw[eL]at W;obtain⟨ls,lt⟩:=cS;have gf:=Z bx;have ge:=Z bw;have gk:=Z c0;have en:=Z a3;clear h al ap c3 y a3 bw bx c0 hb F c9 C I c4 o a0 cb k0 k1 k2 k3 ch ci ck he eL am;obtain⟨n,hm⟩:=mn op;have es:=Z hm;clear hm;rcases c1 with rfl|rfl|rfl|rfl|rfl
      all_goals
       cases hv with
       |none=>
        go_in
        go_wp2_with fail
        with_reducible refine(a2.out _).mono ?_
        rintro e w2 ⟨rfl,s⟩;have a:=Z s;have cl:=a.k a1;have cm:=a.k K;have cq:=a.k L;have cr:=a.k M;have cs:=a.k O;have cA:=a.k P;have cC:=a.k Q;have Y:=a.k ad;have cd:=s.size;clear s a1 K L M O P Q ad;go_wp2_with fail
        obtain⟨w3,J⟩:=mn (w2.alloc (.cells #[n,d,D,z,.int .u64 U,R,V] 121));rw[es]at J;have c5:=Z (Row.al J.symm);have av:Hid (Ch ag w w3):=Z (by rw[J];exact a.alloc _);have ax:Hid (aJ w3 b m t pre post v ⟨(p:Int),fr,fb⟩):=Z (H.ch av id (fun g y h=>h));have et:Hid (c.At S w3):=Z (c.keep _ _ _ bv av);have cQ:Hid (¬c.D w2.heap.size):=Z (gf _ cd);try rw[<-J]
        obtain⟨tb,cf⟩:=mn w2.heap.size;rw[<-cf]at c5 cQ⊢;clear J cf cl cm cq cr cs cA cC Y cd;obtain⟨d0,d1,d2⟩:=c5.c3;have Y:=ax.kI;with_reducible refine(W.out _ ax.out.fr et.out).mono ?_
        rintro e w4 ⟨⟨n,u,rfl,tt,mk,rfl⟩,c8,G⟩;have ec:=Z c8;have dN:=Z G;have bi:Hid (aJ w4 b m t pre post v ⟨(p:Int),fr,fb⟩):=Z (ax.ch G ge gk);clear c8 G d0 d1 d2 Y;have Y:=bi.kI;go_wp2_with (first|(go_at_call 70;refine(tV _ _ _ _).mono ?_;rintro e fd ⟨rfl,rfl⟩))
        go_ret2;rw[E];exact⟨⟨_,rfl,Or.inr ⟨rfl,ar.mk _ _⟩⟩,⟨_,bi.ch ((Ch.refl ag _).alloc _) id (fun g y h=>h),aT.refl _ _⟩,c.zf _ _ _ ec ((Ch.refl ag _).alloc _),(av.af.trans (dN.mono fun i ab=>Or.inr ab)).alloc _⟩
       |some c7=>
        go_in
        go_wp2_with fail
        with_reducible refine(a2.out _).mono ?_
        rintro e w2 ⟨rfl,s⟩;have a:=Z s;have cl:=a.k a1;have cm:=a.k K;have cq:=a.k L;have cr:=a.k M;have cs:=a.k O;have cA:=a.k P;have cC:=a.k Q;have Y:=a.k ad;have cd:=s.size;clear s a1 K L M O P Q ad;go_wp2_with fail
        obtain⟨w3,J⟩:=mn (w2.alloc (.cells #[n,d,D,z,.int .u64 U,R,V] 121));rw[es]at J;have c5:=Z (Row.al J.symm);have av:Hid (Ch ag w w3):=Z (by rw[J];exact a.alloc _);have ax:Hid (aJ w3 b m t pre post v ⟨(p:Int),fr,fb⟩):=Z (H.ch av id (fun g y h=>h));have et:Hid (c.At S w3):=Z (c.keep _ _ _ bv av);have cQ:Hid (¬c.D w2.heap.size):=Z (gf _ cd);try rw[<-J]
        obtain⟨tb,cf⟩:=mn w2.heap.size;rw[<-cf]at c5 cQ⊢;clear J cf cl cm cq cr cs cA cC Y cd;obtain⟨d0,d1,d2⟩:=c5.c3;have Y:=ax.kI;with_reducible refine(W.out _ ax.out.fr et.out).mono ?_
        rintro e w4 ⟨rfl,c8,G⟩;have ec:=Z c8;have dN:=Z G;have bi:Hid (aJ w4 b m t pre post v ⟨(p:Int),fr,fb⟩):=Z (ax.ch G ge gk);have gs:=c5.ch G cQ;clear c8 G d0 d1 d2 Y;have d1:=gs.k 1 rfl;have lm:=bi.mo d.toNat (by omega);have lo:=bi.free (m+1+d.toNat);clear gs;go_wp2
        obtain⟨fd,hu⟩:=nm ((w4.drew).setCell (b,m+1+d.toNat) (.int .u64 c7));have cL:Hid (aJ fd b m t pre post v ⟨(p:Int),fU fr d.toNat c7,fb⟩):=Z (by rw[<-hu];exact bi.drew.qq ce d.toNat (by omega) c7);have fz:Hid (Ch (aL b) w4 fd):=Z (by rw[<-hu];exact(Ch.refl _ _).drew.only _ _);have mc:=cL.kI;have md:=cL.free m;go_still_tail 7,(by kernel_rfl)
        go_wp2
        go_ret2;rw[E];exact⟨⟨_,rfl,Or.inl rfl⟩,⟨_,cL.jZ ce _,aT.refl _ _⟩,en _ _ _ _ _ _ _ ec bi (cL.jZ ce _) (aT.refl _ _) (fz.only _ _),(av.af.trans (dN.mono fun i ab=>Or.inr ab)).trans ((fz.only _ _).mono fun i ab=>Or.inl ab)⟩
     ·by_cases cW:1<=op/\op<=11
      ·have cS:0<=d/\d<32:=by
        refine jJ o ?_;have:op=1∨op=2∨op=3∨op=4∨op=5∨op=6∨op=7∨op=8∨op=9∨op=10∨op=11:=(by omega);rcases this with rfl|rfl|rfl|rfl|rfl|rfl|rfl|rfl|rfl|rfl|rfl<;>rfl
       have E:a' c.acc l ⟨(p:Int),fr,fb⟩ S=(0,⟨(p:Int)+1,fU fr d.toNat (hy ⟨op,d,D,z,U,R,V⟩ (gT fr D) (iv fr ⟨op,d,D,z,U,R,V⟩)),fb⟩,S):=by
        have eS:wrap64 ((p:Int)+1)=(p:Int)+1:=(by unfold wrap64;omega);unfold a';rw[F,c2,C];dsimp only;rw[<-a0,o,if_neg (by decide),if_neg am,if_neg c1,if_pos cW,eS]
       refine(rG T X b m t ce pre post v p fr fb g dr N ex i3 hl (by omega) op d D z U R V cW cS o w H a1 K L M O P Q).mono ?_;rintro e w' ⟨rfl,hF,hd⟩;rw[E];exact⟨⟨_,rfl,Or.inl rfl⟩,⟨_,hF,aT.refl _ _⟩,a3 _ _ _ _ _ _ _ (c.Dd _ _ al) H hF (aT.refl _ _) hd,hd.mono (fun i ab=>Or.inl ab)⟩
      ·have E:Hid (a' c.acc l ⟨(p:Int),fr,fb⟩ S=(1,⟨(p:Int),fr,fb⟩,S)):=Z (by
        unfold a';rw[F,c2,C];dsimp only;rw[<-a0,o,if_neg (by decide),if_neg am,if_neg c1,if_neg cW])
       obtain⟨⟨ih,kv,l0,l1,lb,lc,le⟩,⟨li,ll,ii,io,ip,it,jp⟩,k4,k5,kb,kd,kf,kw,kT⟩:(((op==1)=false/\(op==2)=false/\(op==3)=false/\(op==4)=false/\(op==5)=false/\(op==6)=false/\(op==7)=false)/\((op==8)=false/\(op==9)=false/\(op==10)=false/\(op==11)=false/\(op==12)=false/\(op==13)=false/\(op==14)=false)/\(op==15)=false/\(op==16)=false/\(op==17)=false/\(op==18)=false/\(op==19)=false/\(op==20)=false/\(op==21)=false):=by simp only[beq_eq_false_iff_ne];omega
       clear h al ap c3 y a3 bw bx c0 hb F c9 C I c4 o a0 cb k0 k1 k2 k3 ch ci ck am c1 cW;go_in
       go_wp2_with fail
       with_reducible refine(a2.out _).mono ?_
       rintro e w2 ⟨rfl,s⟩;have a:=Z s;have cl:=a.k a1;have cm:=a.k K;have cq:=a.k L;have cr:=a.k M;have cs:=a.k O;have cA:=a.k P;have cC:=a.k Q;have Y:=a.k ad;clear s a1 K L M O P Q ad;go_wp2
       go_ret2;rw[E];exact⟨⟨_,rfl,Or.inl rfl⟩,⟨_,H.ch (a.alloc _) id (fun g y h=>h),aT.refl _ _⟩,c.Dd _ _ (c.keep _ _ _ bv (a.alloc _)),(a.alloc _).af⟩
deriving instance Inhabited for cu
structure Ev where
 kind:Int
 at_:Int
 w:Int
 t:Int
 num:Int
 a0:Int
 a1:Int
 a2:Int
 a3:Int
 v:Int
 code:Int
 deriving DecidableEq,Inhabited
def Ev.cells(e:Ev):List Value:=[.int .i64 e.kind,.int .i64 e.at_,.int .i64 e.w,.int .u64 e.t,.int .i64 e.num,.int .u64 e.a0,.int .u64 e.a1,.int .u64 e.a2,.int .u64 e.a3,.int .u64 e.v,.int .u64 e.code]
structure bB where
 num:Int
 at_:Int
 k0:Int
 k1:Int
 k2:Int
 k3:Int
 deriving DecidableEq,Inhabited
def bB.cells(r:bB):List Value:=[.int .i64 r.num,.int .i64 r.at_,.int .i64 r.k0,.int .i64 r.k1,.int .i64 r.k2,.int .i64 r.k3]
theorem bB.len(r:bB):r.cells.length=6:=rfl
structure Frame where
 f:cu
 b7:Bool
 num:Int
 deriving Inhabited
structure Thread where
 id:Int
 l:List Frame
 eU:Int
 deriving Inhabited
structure ay where
 slot:Int
 hand:Int
 parked:Bool
 left:Int
 f:cu
 deriving Inhabited
structure KC where
 dG:List aR
 loop:Int
 calls:List bB
 a8:List aR
 entry:Int
 wide:Int
 narrow:Int
 rows:List Int
structure fO where
 id:Int
 ad:Int
 mask:Int
 deriving DecidableEq,Inhabited
structure KS where
 mem:aA
 blocks:a6
 clock:aO
 ring:List Int
 q:List (List fO)
 table:List aE
 c':List bK
 ai:List (Int×Thread)
 wk:List ay
 entries:Int
 at_:Int
 w:Int
 draw:Int
 out:List Ev
def gV(q:List (List fO))(id:Int):Option fO:=q.flatten.find? (fun s=>s.id==id)
def dv(q:List (List fO))(id:Int):Bool×List (List fO):=
 match gV q id with
 |none=>(false,q)
 |some _=>(true,q.map fun l=>l.filter fun s=>s.id !=id)
def pr(q:List (List fO))(s:fO):List (List fO):=q.modify (bg s.ad 8).toNat (·++[s])
def kK(q:List (List fO))(id a mask:Int):Bool×List (List fO):=
 if id==0 then(false,q)else
 match gV q id with
 |some _=>(false,q)
 |none=>(true,pr q ⟨id,a,mask⟩)
def lJ(q:List (List fO))(a mask:Int)(each:Bool):Option fO:=(q.getD (bg a 8).toNat []).find? fun s=>s.ad==a&&(each||rs s.mask mask)
def eJ(q:List (List fO))(a mask:Int):Int×Bool×List (List fO):=
 match lJ q a mask false with
 |none=>(0,false,q)
 |some s=>(s.id,true,(dv q s.id).2)
def hV(q:List (List fO))(fr tt:Int):Int×Bool×List (List fO):=
 match lJ q fr 0 true with
 |none=>(0,false,q)
 |some s=>(s.id,true,pr (dv q s.id).2 {s with ad:=tt})
def wY(q:List (List fO))(a mask:Int):Bool:=(lJ q a mask false).isSome
def eV(K:KS):Int:=17+8*K.wk.length
def KC.cells(C:KC):Int:=C.wide+C.narrow
def tell(K:KS)(e:Ev):KS:={K with out:=K.out++[{e with at_:=K.at_,w:=K.w}]}
def cE(K:KS)(id:Int):Int:=(fy K.table id).1.state
def cv(K:KS)(id:Int):KS:={K with table:=(j3 K.table id 1).2,ring:=(hp K.ring id).2,mem:=(K.mem.acc 3 0 0 1).2}
def KS.W(K:KS)(i:Nat):ay:=K.wk.getD i default
def KS.be(K:KS)(i:Nat)(x:ay):KS:={K with wk:=K.wk.set i x}
def KS.T(K:KS)(id:Int):Thread:=(aw K.ai id).getD default
def KS.cn(K:KS)(id:Int)(t:Thread):KS:={K with ai:=b8 K.ai id t}
def gJ(C:KC)(K:KS)(i:Nat):KS:=K.be i {K.W i with f:={(K.W i).f with pc:=C.loop,back:=[]}}
def dA(C:KC)(K:KS)(i:Nat):KS:=gJ C (K.be i {K.W i with slot:=0}) i
inductive bN where
 |own (i:Nat)
 |ai (id:Int) (k:Nat)
def KS.F(K:KS):bN->cu
 |.own i=>(K.W i).f
 |.ai id k=>((K.T id).l.getD k default).f
def KS.cJ(K:KS)(c:bN)(f:cu):KS:=
 match c with
 |.own i=>K.be i {K.W i with f:=f}
 |.ai id k=>K.cn id {K.T id with l:=(K.T id).l.set k {(K.T id).l.getD k default with f:=f}}
def KS.az(K:KS)(c:bN)(k:Nat)(x:Int):KS:=K.cJ c {K.F c with r:=fU (K.F c).r k x}
def KS.fB(K:KS)(c:bN):KS:=K.cJ c {K.F c with pc:=wrap64 ((K.F c).pc+1)}
def KS.top(K:KS)(id:Int):Nat:=(K.T id).l.length-1
def hA(K:KS)(a:Int):Int×KS:=(((K.mem.acc 0 a 0 0).1).getD 0,{K with mem:=(K.mem.acc 0 a 0 0).2})
def iN(op:Int):Bool:=(e5 op).1
def jc(K:KS)(a:Int):KS:={K with blocks:=(mO K.blocks K.mem a).2.1,mem:=(mO K.blocks K.mem a).2.2}
def ek(K:KS)(id a:Int):KS:=if cE K id=0 then jc K (wrap64 a)else K
def mQ(C:KC)(K:KS)(i:Nat)(id:Int):KS:=
 let K:={K with table:=(gj K.table id 0).2}
 let x:=(fy K.table id).1
 let K:={K with table:=(eM K.table id).2}
 let K:={K with q:=(dv K.q id).2}
 let K:={K with clock:=(K.clock.bp id).2}
 let K:=tell K ⟨7,0,0,id,0,0,0,0,0,x.value,0⟩
 let K:=dA C K i
 let K:={K with ai:=ft K.ai id}
 ek K id x.home
def dn(K:KS)(id:Int)(num code v:Int):KS:=
 let K:=K.az (.ai id (K.top id)) 0 code
 let K:=K.az (.ai id (K.top id)) 1 v
 tell K ⟨2,0,0,id,num,0,0,0,0,v,code⟩
def eD(K:KS)(id:Int)(code v:Int):KS:=
 let n:=K.top id
 let num:=((K.T id).l.getD n default).num
 dn (K.cn id {K.T id with l:=(K.T id).l.take n}) id num code v
def da(K:KS)(id:Int)(c:bN)(x:aR):KS:=
 if x.m=0 then K else
 let code:=if iN x.op then(K.F c).r x.a.toNat else 0
 if x.wh=0∨((x.wh==1)=(code==0))then tell K ⟨5,0,0,id,x.m,0,0,0,0,(K.F c).r 0,code⟩else K
def cB(C:KC)(K:KS):List (Int×Int)->Int
 |[]=>0
 |(k,a)::l=>
  if k=0 then cB C K l
  else if k=7 then(if IntKind.u64.wrap C.cells<=a then 22 else cB C K l)
  else if(gu K.c' a k).isNone then 22 else cB C K l
def cN(C:KC)(K:KS)(id num:Int)(a0 a1 a2 a3:Int):Int:=
 if 1000<=num∨C.rows.getD num.toNat 0=0 then 38
 else if 7<=(K.T id).l.length/\num≠2 then 11
 else
  let r:=C.calls.getD (C.rows.getD num.toNat 0-1).toNat default
  cB C K [(r.k0,a0),(r.k1,a1),(r.k2,a2),(r.k3,a3)]
def de(K:KS)(k a:Int):Int:=
 if k=0 then a else if k=7 then IntKind.u64.wrap (IntKind.u64.wrap (eV K)+a)else(gu K.c' a k).getD 0
def g9(C:KC)(K:KS)(id:Int)(k:Nat)(num:Int):KS:=
 let f:=K.F (.ai id k)
 let a0:=f.r 0
 let a1:=f.r 1
 let a2:=f.r 2
 let a3:=f.r 3
 let K:=tell K ⟨1,0,0,id,num,a0,a1,a2,a3,0,0⟩
 let c:=cN C K id num a0 a1 a2 a3
 if c≠0 then dn K id num c 0
 else
  let r:=C.calls.getD (C.rows.getD num.toNat 0-1).toNat default
  let R:Nat->Int:=fun j=>if j=0 then de K r.k0 a0 else if j=1 then de K r.k1 a1 else if j=2 then de K r.k2 a2 else if j=3 then de K r.k3 a3 else if j=30 then a0 else if j=31 then IntKind.u64.wrap num else 0
  K.cn id {K.T id with l:=(K.T id).l++[⟨⟨r.at_,R,[]⟩,true,num⟩]}
def eX(C:KC)(K:KS)(i:Nat)(id:Int)(k:Nat)(v:Int):KS:=
 let K:=K.az (.ai id k) 0 v
 let K:=K.fB (.ai id k)
 if 0<C.rows.getD 2 0 then g9 C K id k 2
 else mQ C {K with table:=(gj K.table id v).2} i id
def eK(K:KS)(i:Nat)(id:Int):KS:=
 if(K.W i).hand≠0∨cE K id≠1 then K
 else if K.wk.any (fun x=>x.hand==id)then K
 else if K.ring.any (fun r=>r==id)then K
 else K.be i {K.W i with hand:=id}
def eo(K:KS)(i:Nat)(id:Int):KS:=
 if(K.W i).hand≠0 then cv K id
 else
  let K:={K with table:=(j3 K.table id 1).2}
  K.be i {K.W i with hand:=id}
def bL(K:KS)(place a:Int):Int×KS:=
 match dd K.blocks K.mem 1 with
 |(none,b,m)=>(0,{K with blocks:=b,mem:=m})
 |(some h,b,m)=>
  let K:={K with blocks:=b,mem:=m}
  match df K.table h with
  |(none,t)=>(0,jc {K with table:=t} h)
  |(some id,t)=>(id,{K with table:=t,ai:=b8 K.ai id ⟨id,[⟨⟨place,fun j=>if j=0 then a else 0,[]⟩,false,0⟩],0⟩})
def aD(C:KC)(K:KS)(i:Nat)(id:Int)(c:bN)(x:aR):Int×KS:=
 let f:=K.F c
 let a:=f.r x.a.toNat
 if x.op=24 then
  let p:=kK K.q id (f.r x.b.toNat) (f.r x.c.toNat)
  if p.1 then(0,{K with q:=p.2,clock:=(K.clock.arm id a).2})else(0,{K with q:=p.2})
 else if x.op=28 then
  match gV K.q id with
  |some _=>(1,dA C {K with table:=(j3 K.table id 3).2} i)
  |none=>(0,K.az c x.a.toNat (K.T id).eU)
 else if x.op=51 then(0,{K with table:=(hs K.table a id).2})
 else if x.op=53 then(0,{K with table:=(gj K.table id a).2})
 else if x.op=55 then(1,mQ C K i id)
 else if x.op=56 then(0,dA C (cv K id) i)
 else if x.op=57 then
  if a<C.a8.length/\(K.T id).l.length<8 then(0,K.cn id {K.T id with l:=(K.T id).l++[⟨⟨wrap64 a,fun _=>0,[]⟩,false,0⟩]})else(0,K)
 else if x.op=58 then(1,eD K id (f.r 0) (f.r 1))
 else(0,K)
def bf(K:KS)(i:Nat)(c:bN)(x:aR):Int×KS:=
 let f:=K.F c
 let at_:=dt f.r x
 let a:=f.r x.a.toNat
 if x.op=31 then
  let p:=K.mem.acc 1 at_ 0 a
  let K:={K with mem:=p.2}
  if p.1.isNone then(2,K)else(0,K.be i {K.W i with hand:=0})
 else
  let p:=K.mem.acc 4 at_ a (f.r x.c.toNat)
  let K:={K with mem:=p.2}
  match p.1 with
  |none=>(2,K)
  |some held=>
   let K:=K.az c x.a.toNat held
   if held=gi (K.mem.wid at_) a then(0,eK K i ((K.F c).r 16))else(0,K)
def bY(K:KS)(i:Nat)(c:bN)(x:aR):KS:=
 let a:=(K.F c).r x.a.toNat
 if x.op=30 then eK K i a
 else if x.op=33 then
  if(K.W i).hand≠0 then
   let K:=cv K (K.W i).hand
   K.be i {K.W i with hand:=0}
  else K
 else if x.op=34 then
  let K:=K.az c x.a.toNat 0
  if(K.W i).hand=0 then
   let p:=gU K.ring
   let K:={K with ring:=p.2.2}
   let K:=K.be i {K.W i with hand:=p.1}
   K.az c x.a.toNat (K.W i).hand
  else K
 else if x.op=35 then
  if(K.W i).hand≠0/\a=(K.W i).hand/\(K.W i).slot=0 then
   let K:=K.be i {K.W i with slot:=(K.W i).hand,hand:=0,left:=24}
   {K with table:=(j3 K.table (K.W i).slot 2).2}
  else K
 else K
def bh(K:KS)(c:bN)(x:aR):KS:=
 let f:=K.F c
 let a:=f.r x.a.toNat
 if x.op=43 then
  let n:=if 0<=x.b then f.r x.b.toNat else x.v
  let K:=K.az c x.a.toNat 0
  if n<=4096 then
   let g:=dd K.blocks K.mem n.toNat
   let K:={K with blocks:=g.2.1,mem:=g.2.2}
   K.az c x.a.toNat (match g.1 with|some h=>(h:Int)|none=>0)
  else K
 else if x.op=44 then(if a<65536 then jc K a else K)
 else if x.op=45 then
  if x.v<=6 then
   let m:=fN K.c' x.v (f.r x.b.toNat)
   {K with c':=m.2}.az c x.a.toNat (m.1.getD 0)
  else K.az c x.a.toNat 0
 else if x.op=46 then {K with c':=(iM K.c' a).2}
 else K
def bA(C:KC)(K:KS)(i:Nat)(c:bN)(x:aR):KS:=
 let f:=K.F c
 let a:=f.r x.a.toNat
 let b:=f.r x.b.toNat
 if x.op=48 then
  if b<C.a8.length then
   let p:=bL K (wrap64 b) (f.r x.c.toNat)
   let K:=if p.1≠0 then eo p.2 i p.1 else p.2
   K.az c x.a.toNat p.1
  else K.az c x.a.toNat 0
 else if x.op=52 then
  let t:=(fy K.table a).1
  let l:=e8 K.table a
  let K:={K with table:=l.2}
  (if l.1 then ek K a t.home else K).az c x.a.toNat a
 else if x.op=54 then
  let r:=fA K.table b
  let K:={K with table:=r.2.2.2.2}
  (if r.2.2.2.1 then ek K b r.2.2.1 else K).az c x.a.toNat r.2.1
 else if x.op=49 then K.az c x.a.toNat (IntKind.u64.wrap (d' K.table b))
 else if x.op=50 then K.az c x.a.toNat (fy K.table b).1.home
 else K.az c x.a.toNat a
def bk(K:KS)(i:Nat)(c:bN)(x:aR):KS:=
 let f:=K.F c
 let b:=f.r x.b.toNat
 let a:=f.r x.c.toNat
 if x.op=25 then
  let p:=eJ K.q b a
  let K:={K with q:=p.2.2}
  if p.2.1 then
   let K:={K with clock:=(K.clock.bp p.1).2}
   let K:=if(aw K.ai p.1).isSome then K.cn p.1 {K.T p.1 with eU:=0}else K
   let K:=if cE K p.1=3 then eo K i p.1 else K
   K.az c x.a.toNat p.1
  else K.az c x.a.toNat 0
 else if x.op=26 then
  let p:=hV K.q b a
  {K with q:=p.2.2}.az c x.a.toNat p.1
 else if x.op=27 then K.az c x.a.toNat (if wY K.q b a then 1 else 0)
 else K.az c x.a.toNat 0
def g'(i:Int):Int:=IntKind.u64.wrap (17+3*i)
def hW(C:KC)(K:KS)(i:Nat)(id:Int)(c:bN)(x:aR):Int:=
 let b:=(K.F c).r x.b.toNat
 if x.op=23 then IntKind.u64.wrap (1+2*bg b 8)
 else if x.op=41 then K.clock.now
 else if x.op=37 then id
 else if x.op=40 then IntKind.u64.wrap K.wk.length
 else if x.op=42 then K.draw
 else if x.op=29 then(K.W i).hand
 else if x.op=38 then g' (wrap64 (IntKind.u64.wrap K.w%IntKind.u64.wrap K.wk.length))
 else if x.op=39 then g' (wrap64 (b%IntKind.u64.wrap K.wk.length))
 else if x.op=47 then(if b<C.a8.length then 1 else 0)
 else 0
def aB(C:KC)(K:KS)(i:Nat)(id:Option Int)(c:bN)(x:aR):Int×KS:=
 if x.op=24∨x.op=28∨x.op=51∨x.op=53∨x.op=55∨x.op=56∨x.op=57∨x.op=58 then
  match id with
  |none=>(0,K)
  |some id=>aD C K i id c x
 else if x.op=31∨x.op=32 then bf K i c x
 else if x.op=36 then
  let p:=hA K 0
  let a:=p.1==(p.2.F c).r x.a.toNat
  let K:=p.2.be i {p.2.W i with parked:=a}
  if a then(1,K)else(0,K)
 else if x.op=30∨x.op=33∨x.op=34∨x.op=35 then(0,bY K i c x)
 else if x.op=43∨x.op=44∨x.op=45∨x.op=46 then(0,bh K c x)
 else if x.op=48∨x.op=52∨x.op=54∨x.op=49∨x.op=50 then(0,bA C K i c x)
 else if x.op=25∨x.op=26∨x.op=27 then(0,bk K i c x)
 else if x.op=22 then(2,K)
 else(0,K.az c x.a.toNat (hW C K i (id.getD 0) c x))
def ff(l:List aR)(pc:Int):aR:=if 0<=pc/\pc<l.length then l.getD pc.toNat ⟨0,0,0,0,0,0,0⟩else⟨0,0,0,0,0,0,0⟩
def cF(C:KC)(K:KS)(c:bN):aR×Int×KS:=
 let s:=a' aA.acc C.dG (K.F c) K.mem
 (ff C.dG (K.F c).pc,s.1,({K with mem:=s.2.2}).cJ c s.2.1)
def eE(C:KC)(K:KS)(i:Nat)(id:Option Int)(c:bN):aR×Int×KS:=
 let s:=cF C K c
 if s.2.1=1 then
  let p:=aB C s.2.2 i id c s.1
  if p.1=0 then(s.1,0,p.2.fB c)
  else if p.1=2 then(s.1,3,p.2)
  else(s.1,1,p.2)
 else s
def ke(C:KC)(K:KS)(i:Nat):KS:=
 let K:=K.be i {K.W i with parked:=false}
 let s:=eE C K i none (.own i)
 if s.2.1=0 then da s.2.2 0 (.own i) s.1
 else if s.2.1=3∨s.2.1=2 then gJ C s.2.2 i
 else s.2.2
def cG(C:KC)(K:KS)(i:Nat)(id:Int)(k:Nat):KS:=
 let s:=eE C K i (some id) (.ai id k)
 if s.2.1=0 then da s.2.2 id (.ai id k) s.1
 else if s.2.1=3∨s.2.1=2 then eD s.2.2 id 22 0
 else s.2.2
def bE(C:KC)(b:KS)(id op:Int)(S:aA×List Ev)(kind a e v:Int):Option Int×aA×List Ev:=
 if IntKind.u64.wrap C.cells<=a then(none,S)
 else
  let c:=IntKind.u64.wrap (IntKind.u64.wrap (eV b)+a)
  let p:=S.1.acc kind c e v
  match p.1 with
  |none=>(none,p.2,S.2)
  |some held=>
   let d:=p.2.acc 0 c 0 0
   (some held,d.2,S.2++[⟨3,b.at_,b.w,id,op,held,d.1.getD 0,0,0,a,0⟩])
def bV(C:KC)(K:KS)(i:Nat)(id:Int)(k:Nat):KS:=
 let c:=bN.ai id k
 let x:=ff C.a8 (K.F c).pc
 let s:=a' (bE C K id x.op) C.a8 (K.F c) (K.mem,K.out)
 let K:=({K with mem:=s.2.2.1,out:=s.2.2.2}).cJ c s.2.1
 if s.1=1 then g9 C (K.fB c) id k (wrap64 x.v)
 else if s.1=2 then
  if 0<K.top id then K.cn id {K.T id with l:=(K.T id).l.take (K.top id)}
  else eX C K i id k ((K.F c).r 0)
 else if s.1=3 then
  let v:=if x.op≠15/\x.op≠0 then dt (K.F c).r x else 0
  eX C (tell K ⟨4,0,0,id,x.op,0,0,0,0,v,0⟩) i id k 18446744073709551615
 else K
def eY(C:KC)(K:KS)(i:Nat):KS:=
 if(K.W i).slot=0 then ke C K i else
 let id:=(K.W i).slot
 let k:=K.top id
 let f:=(K.T id).l.getD k default
 if f.b7=false/\(K.W i).left=0 then dA C (cv K id) i
 else
  let K:=K.be i {K.W i with left:=max ((K.W i).left-1) 0}
  if f.b7 then cG C K i id k else bV C K i id k
def cD(K:KS)(id:Int):KS:=
 let K:={K with q:=(dv K.q id).2}
 let K:=if(aw K.ai id).isSome then K.cn id {K.T id with eU:=110}else K
 if cE K id=3 then cv K id else K
def ha(K:KS):KS:=
 let t:=K.clock.tick
 let K:={K with clock:=t.1}
 let K:=tell K ⟨6,0,0,0,0,0,0,0,0,K.clock.now,0⟩
 t.2.foldl cD K
def fk(C:KC)(K:KS)(kind wk draw:Int):List Ev×KS:=
 let K:={K with at_:=K.entries,w:=-1,draw:=draw,entries:=wrap64 (K.entries+1)}
 let K:=if kind=2 then ha K
  else if kind=1 then(if 0<=wk/\wk<K.wk.length then eY C {K with w:=wk} wk.toNat else K)
  else K
 (K.out,{K with out:=[]})
def bj(b:Nat):Value:=.pointer (some (b,0))
def kN(s:Sl)(p n:Option Nat):List Value:=[.int .u64 s.id,.int .u64 s.ad,.int .u64 s.mask,ptrTo p,ptrTo n]
def bJ(w:World):Option Nat->Option Nat->List Sl->Prop
 |_,_,[]=>True
 |p,e,s::r=>Row w s.b 256 (kN s p ((r.head?.map Sl.b).or e))/\bJ w (some s.b) e r
theorem bJ.ch{w w':World}{D:Nat->Prop}(c:Ch D w w'):∀{p e:Option Nat} {l:List Sl},bJ w p e l->(∀s∈l,¬D s.b)->bJ w' p e l
 |_,_,[],_,_=>trivial
 |_,_,s::r,h,a=>⟨h.1.ch c (a s (by simp)),bJ.ch c h.2 (fun x b=>a x (by simp[b]))⟩
theorem bJ.mem{w:World}:∀{p e:Option Nat} {l:List Sl},bJ w p e l->∀s∈l,∃a b,Row w s.b 256 (kN s a b)
 |_,_,x::r,h,s,c=>by
  rcases List.mem_cons.1 c with rfl|c
  ·exact⟨_,_,h.1⟩
  ·exact bJ.mem h.2 s c
theorem fV{w:World}{p e:Option Nat}{s:Sl}{r:List Sl}:bJ w p e (s::r)↔Row w s.b 256 (kN s p ((r.head?.map Sl.b).or e))/\bJ w (some s.b) e r:=Iff.rfl
theorem lK{w:World}{p e:Option Nat}:bJ w p e []↔True:=Iff.rfl
theorem bJ.app{w:World}:∀{p e:Option Nat} {l r:List Sl},bJ w p e (l++r)↔bJ w p ((r.head?.map Sl.b).or e) l/\bJ w ((l.getLast?.map Sl.b).or p) e r
 |p,e,[],r=>by simp[lK]
 |p,e,s::l,r=>by
  rw[List.cons_append,fV,fV,bJ.app (l:=l)];cases l with
  |nil=>simp[lK]
  |cons y l=>
   rw[List.getLast?_cons_cons];obtain⟨z,a⟩:∃z,(y::l).getLast?=some z:=⟨_,List.getLast?_eq_some_getLast (by simp)⟩;rw[a];simp[and_assoc]
theorem bJ.snoc{w:World}{p e:Option Nat}{l:List Sl}{x:Sl}:bJ w p e (l++[x])↔bJ w p (some x.b) l/\Row w x.b 256 (kN x ((l.getLast?.map Sl.b).or p) e):=by
 rw[bJ.app,fV];simp[lK]
theorem bJ.mid{w:World}{p e:Option Nat}{l r:List Sl}{x:Sl}:bJ w p e (l++x::r)↔bJ w p (some x.b) l/\Row w x.b 256 (kN x ((l.getLast?.map Sl.b).or p) ((r.head?.map Sl.b).or e))/\bJ w (some x.b) e r:=by
 rw[bJ.app,fV];simp
theorem ep(l:List Sl):(bP l).length=2:=rfl
theorem lL:∀{d:List (List Sl)} {k:Nat} {x y:List Sl} {a b:Value},d[k]?=some x->bP y=[a,b]->((d.flatMap bP).set (k*2) a).set (k*2+1) b=(d.set k y).flatMap bP
 |[],k,x,y,a,b,h,_=>by simp at h
 |z::d,0,x,y,a,b,h,c=>by
  rw[List.flatMap_cons];show((bP z++_).set 0 a).set 1 b=_
  simp[bP]at c⊢;exact⟨c.1.symm,c.2.symm⟩
 |z::d,k+1,x,y,a,b,h,c=>by
  have e:(k+1)*2=k*2+2:=Nat.succ_mul k 2;rw[List.flatMap_cons,List.set_append_right _ _ (by rw[ep,e];omega),ep,show(k+1)*2-2=k*2 from by omega,
   List.set_append_right _ _ (by rw[ep,e];omega),ep,show(k+1)*2+1-2=k*2+1 from by omega,lL (by simpa using h) c]
  simp
structure im(w:World)(qb lb mb:Nat)(ls:List (List Sl)):Prop where
 head:Row w qb 214 [.slice (some (lb,0)) (8:Nat) (8:Nat),.map (some mb)]
 ends:Row w lb 254 (ls.flatMap bP)
 len:ls.length=8
 chain:∀(k:Nat) (l:List Sl),ls[k]?=some l->bJ w none none l
 map:∃m,bR w mb .u64 bj m/\gp m/\∀id,aw m id=(ls.flatten.find? (fun s=>s.id==id)).map Sl.b
 nd:(ls.flatten.map Sl.b).Nodup
 yR:(ls.flatten.map Sl.id).Nodup
 at_:∀(k:Nat) (l:List Sl),ls[k]?=some l->∀s∈l,bg s.ad (8:Nat)=k
def QD(qb lb mb:Nat)(a:List (List Sl)):Nat->Prop:=fun i=>i=qb∨i=lb∨i=mb∨∃s∈a.flatten,s.b=i
def Sl.s(x:Sl):fO:=⟨x.id,x.ad,x.mask⟩
def bZ(a:List (List Sl)):List (List fO):=a.map (·.map Sl.s)
theorem br{a:List (List Sl)}{k:Nat}{l:List Sl}(h:a[k]?=some l){s:Sl}(b:s∈l):s∈a.flatten:=List.mem_flatten.2 ⟨l,List.mem_of_getElem? h,b⟩
theorem im.ch{w w':World}{D:Nat->Prop}{qb lb mb:Nat}{b:List (List Sl)}(h:im w qb lb mb b)(c:Ch D w w')(a:∀i,QD qb lb mb b i->¬D i):im w' qb lb mb b where
 head:=h.head.ch c (a _ (Or.inl rfl))
 ends:=h.ends.ch c (a _ (Or.inr (Or.inl rfl)))
 len:=h.len
 chain:=fun k l d=>(h.chain k l d).ch c (fun s g=>a _ (Or.inr (Or.inr (Or.inr ⟨s,br d g,rfl⟩))))
 map:=by
  obtain⟨m,e,f⟩:=h.map;exact⟨m,e.ch c (a _ (Or.inr (Or.inr (Or.inl rfl)))),f⟩
 nd:=h.nd
 yR:=h.yR
 at_:=h.at_
theorem im.af{w w':World}{qb lb mb:Nat}{a:List (List Sl)}(h:im w qb lb mb a)(c:Ch ag w w'):im w' qb lb mb a:=h.ch c (fun _ _ h=>h)
theorem er{α:Type}{a:List (List α)}{k:Nat}{l:List α}(h:a[k]?=some l):a.flatten=(a.take k).flatten++l++(a.drop (k+1)).flatten/\∀y,(a.set k y).flatten=(a.take k).flatten++y++(a.drop (k+1)).flatten:=by
 obtain⟨b,rfl⟩:=List.getElem?_eq_some_iff.1 h
 constructor
 ·calc a.flatten=(a.take k++a.drop k).flatten:=by rw[List.take_append_drop]
   _=_:=by rw[List.drop_eq_getElem_cons b,List.flatten_append,List.flatten_cons,List.append_assoc]
 ·intro y
  rw[List.set_eq_take_append_cons_drop,if_pos b];simp
theorem hX{α:Type}{a:List (List α)}{s:α}(h:s∈a.flatten):∃(k:Nat) (pre post:List α),a[k]?=some (pre++s::post):=by
 obtain⟨l,c,d⟩:=List.mem_flatten.1 h;obtain⟨k,b⟩:=List.getElem?_of_mem c;obtain⟨pre,post,rfl⟩:=List.append_of_mem d;exact⟨k,pre,post,b⟩
theorem im.apart{w:World}{qb lb mb:Nat}{d:List (List Sl)}(h:im w qb lb mb d){s:Sl}(i:s∈d.flatten):s.b≠qb/\s.b≠lb/\s.b≠mb/\s.b<w.heap.size:=by
 obtain⟨k,pre,post,f⟩:=hX i;obtain⟨a,b,c⟩:=(h.chain k _ f).mem s (by simp);obtain⟨m,g,_⟩:=h.map;exact⟨c.ne h.head (by decide),c.ne h.ends (by decide),fun e=>g.ne c e.symm,c.lt⟩
theorem gK{a c:List Sl}{x:Sl}(h:((a++x::c).map Sl.b).Nodup):∀y,y∈a∨y∈c->y.b≠x.b:=by
 rw[List.map_append,List.map_cons,List.nodup_append,List.nodup_cons]at h;obtain⟨_,⟨d,_⟩,f⟩:=h;rintro y (b|b) e
 ·exact f _ (List.mem_map_of_mem b) _ List.mem_cons_self e
 ·exact d (e▸List.mem_map_of_mem b)
theorem w9{a:List (List Sl)}{k:Nat}{x y:List Sl}(h:a[k]?=some x)(b:bP x=bP y):(a.set k y).flatMap bP=a.flatMap bP:=by
 rw[List.flatMap_def,List.flatMap_def,List.map_set,<-b,j5 (by rw[List.getElem?_map,h];rfl)]
theorem j0(a:List (List Sl)):(a.flatMap bP).length=a.length*2:=a4 ep a
def xa(lb k:Nat)(a:List (List Sl))(l':List Sl)(w:World)(e:Ending)(w':World):Prop:=
 e=.returned (.tuple #[])/\Row w' lb 254 ((a.set k l').flatMap bP)/\bJ w' none none l'/\Ch (fun i=>i=lb∨∃x∈l',x.b=i) w w'
theorem nH(qb lb k:Nat)(q:Value)(p:List (List Sl))(pre post:List Sl)(s:Sl)(w:World)(C:Row w qb 214 [.slice (some (lb,0)) (8:Nat) (8:Nat),q])
 (m:Row w lb 254 (p.flatMap bP)) (hlen:p.length=8) (o:p[k]?=some (pre++s::post)) (I:bJ w none none (pre++s::post)) (hb:bg s.ad (8:Nat)=k)
 (l:((pre++s::post).map Sl.b).Nodup):Calls prog 137 #[bj qb,bj s.b] w (xa lb k p (pre++post) w):=by
 have B:k<8:=by rw[<-hlen];exact(List.getElem?_eq_some_iff.1 o).1
 have A:(p.flatMap bP).length=8*2:=by rw[j0,hlen]
 obtain⟨N,n,H⟩:=bJ.mid.1 I;have K:=gK l;have E:∀y:Sl,y∈pre++s::post->y.b≠lb:=fun y U=>by
  obtain⟨a,b,Q⟩:=I.mem y U;exact Q.ne m (by decide)
 rcases List.eq_nil_or_concat pre with rfl|⟨g,x,rfl⟩
 ·cases post with
  |nil=>
   refine(rS qb lb 8 8 k s.b q _ s.id s.ad s.mask (by omega) (by omega) hb B w C m A n).mono ?_;rintro e w' ⟨rfl,h,c⟩;refine⟨rfl,?_,trivial,c.mono fun i f=>Or.inl f⟩;have:=lL (y:=[]) (a:=.pointer none) (b:=.pointer none) o rfl;rw[this]at h;exact h
  |cons y r=>
   obtain⟨t,u⟩:=fV.1 H;refine(qC qb lb 8 8 k s.b y.b q _ s.id s.ad s.mask y.id y.ad y.mask _ _ (by omega) (by omega) hb B w C m A n t (K y (by simp)).symm).mono ?_;rintro e w' ⟨rfl,h,G,c⟩;have D:∀z∈r,z.b≠y.b:=(fun z d=>gK (a:=[s]) (x:=y) (c:=r) (by simpa using l) z (Or.inr d));refine⟨rfl,?_,⟨G,u.ch c ?_⟩,c.mono fun i f=>f.imp id fun f=>⟨y,by simp,f.symm⟩⟩
   ·have:=fp (enc:=bP) (k:=2) ep o (y:=y::r) (j:=0) (v:=bj y.b) (by omega) (by simp[bP,List.getLast?_cons_cons,ptrTo,bj])
    rw[Nat.add_zero]at this;rw[show(.pointer (some ⟨y.b,0,none⟩):Value)=bj y.b from rfl,this]at h;exact h
   ·rintro z d (e|e)
    ·exact E z (by simp[d]) e
    ·exact D z d e
 ·rw[List.concat_eq_append]at*
  obtain⟨t,u⟩:=bJ.snoc.1 N;have L:∀z∈g,z.b≠x.b:=fun z d=>gK (a:=g) (x:=x) (c:=s::post) (by simpa using l) z (Or.inl d)
  have M:s.b≠x.b:=gK (a:=g) (x:=x) (c:=s::post) (by simpa using l) s (Or.inr (by simp));have J:((g++[x]).getLast?.map Sl.b).or none=some x.b:=by simp
  rw[J]at n;cases post with
  |nil=>
   refine(rT qb lb 8 8 k s.b x.b q _ s.id s.ad s.mask x.id x.ad x.mask _ _ (by omega) (by omega) hb B w C m A n u M).mono ?_;rintro e w' ⟨rfl,h,F,c⟩;rw[List.append_nil];refine⟨rfl,?_,bJ.snoc.2 ⟨t.ch c ?_,F⟩,c.mono fun i f=>f.imp id fun f=>⟨x,by simp,f.symm⟩⟩
   ·have:=fp (enc:=bP) (k:=2) ep o (y:=g++[x]) (j:=1) (v:=bj x.b) (by omega) (by simp[bP,ptrTo,bj,List.head?_append,List.getLast?_append])
    rw[show(.pointer (some (x.b,0)):Value)=bj x.b from rfl,this]at h;exact h
   ·rintro z d (e|e)
    ·exact E z (by simp[d]) e
    ·exact L z d e
  |cons y r=>
   obtain⟨O,P⟩:=fV.1 H;have R:s.b≠y.b:=(K y (by simp)).symm;have T:x.b≠y.b:=(gK (a:=g) (x:=x) (c:=s::y::r) (by simpa using l) y (Or.inr (by simp))).symm;have D:∀z,z∈g++[x,s]∨z∈r->z.b≠y.b:=gK (a:=g++[x,s]) (x:=y) (c:=r) (by simpa using l);have S:∀z∈r,z.b≠x.b:=(fun z d=>gK (a:=g) (x:=x) (c:=s::y::r) (by simpa using l) z (Or.inr (by simp[d])));refine(t' qb lb 8 8 k s.b x.b y.b q _ s.id s.ad s.mask x.id x.ad x.mask _ _ _ _ y.id y.ad y.mask (by omega) (by omega) hb B w C m A n u O M R T).mono ?_;rintro e w' ⟨rfl,F,G,c⟩;refine⟨rfl,?_,bJ.app.2 ⟨bJ.snoc.2 ⟨t.ch c ?_,F⟩,?_⟩,c.mono fun i f=>Or.inr (f.elim (fun f=>⟨x,by simp,f.symm⟩) (fun f=>⟨y,by simp,f.symm⟩))⟩
   ·rw[w9 o (by simp[bP,List.head?_append,List.getLast?_append,List.getLast?_cons_cons])]
    exact m.ch c (by rintro(e|e);exact E x (by simp) e.symm;exact E y (by simp) e.symm)
   ·rintro z d (e|e)
    ·exact L z d e
    ·exact D z (Or.inl (by simp[d])) e
   ·rw[J]
    exact⟨G,P.ch c (by rintro z d (e|e);exact S z d e;exact D z (Or.inr d) e)⟩
def BW(lb k:Nat)(a:List (List Sl))(l:List Sl)(s:Sl)(w:World)(e:Ending)(w':World):Prop:=
 e=.returned (.tuple #[])/\Row w' lb 254 ((a.set k (l++[s])).flatMap bP)/\bJ w' none none (l++[s])/\Ch (fun i=>i=lb∨i=s.b∨∃x∈l,x.b=i) w w'
theorem rU(qb lb k:Nat)(r pv t:Value)(g:List (List Sl))(l:List Sl)(s:Sl)(w:World)(G:Row w qb 214 [.slice (some (lb,0)) (8:Nat) (8:Nat),r])
 (n:Row w lb 254 (g.flatMap bP)) (hlen:g.length=8) (m:g[k]?=some l) (I:bJ w none none l) (hb:bg s.ad (8:Nat)=k)
 (H:Row w s.b 256 [.int .u64 s.id,.int .u64 s.ad,.int .u64 s.mask,pv,t]) (E:((l++[s]).map Sl.b).Nodup):
 Calls prog 207 #[bj qb,bj s.b] w (BW lb k g l s w):=by
 have C:k<8:=by rw[<-hlen];exact(List.getElem?_eq_some_iff.1 m).1
 have B:(g.flatMap bP).length=8*2:=by rw[j0,hlen]
 have F:∀z∈l,z.b≠s.b:=fun z f=>gK (a:=l) (x:=s) (c:=[]) E z (Or.inl f)
 have p:(g.flatMap bP)[k*2+1]?=some (ptrTo (l.getLast?.map Sl.b)):=by rw[bD (enc:=bP) (k:=2) ep m (by omega)];rfl
 rcases List.eq_nil_or_concat l with rfl|⟨o,x,rfl⟩
 ·refine(tZ qb lb 8 8 k s.b r _ s.id s.ad s.mask pv t (by omega) (by omega) hb C w G n B p H).mono ?_
  rintro e w' ⟨rfl,h,q,c⟩;refine⟨rfl,?_,⟨q,trivial⟩,c.mono fun i d=>d.imp id fun d=>Or.inl d⟩;have:=lL (y:=[s]) (a:=bj s.b) (b:=bj s.b) m rfl;rw[show(.pointer (some (s.b,0)):Value)=bj s.b from rfl,this]at h;exact h
 ·rw[List.concat_eq_append]at*
  obtain⟨u,A⟩:=bJ.snoc.1 I;have L:∀z∈o,z.b≠x.b:=fun z f=>gK (a:=o) (x:=x) (c:=[s]) (by simpa using E) z (Or.inl f)
  have M:x.b≠lb:=A.ne n (by decide);have D:((o++[x]).getLast?.map Sl.b)=some x.b:=by simp
  rw[D]at p;refine(w8 qb lb 8 8 k s.b x.b r _ s.id s.ad s.mask pv t _ _ x.id x.ad x.mask (by omega) (by omega) hb C w G n B p H A (F x (by simp)).symm).mono ?_;rintro e w' ⟨rfl,h,q,K,c⟩;refine⟨rfl,?_,bJ.app.2 ⟨bJ.snoc.2 ⟨u.ch c ?_,K⟩,?_⟩,c.mono ?_⟩
  ·have:=fp (enc:=bP) (k:=2) ep m (y:=o++[x]++[s]) (j:=1) (v:=bj s.b) (by omega) (by simp[bP,ptrTo,bj,List.head?_append,List.getLast?_append])
   rw[show(.pointer (some (s.b,0)):Value)=bj s.b from rfl,this]at h;exact h
  ·rintro z f (e|e|e)
   ·obtain⟨a,b,J⟩:=u.mem z f
    exact J.ne n (by decide) e
   ·exact F z (by simp[f]) e
   ·exact L z f e
  ·rw[D];exact⟨q,trivial⟩
  ·rintro i (d|d|d)
   ·exact Or.inl d
   ·exact Or.inr (Or.inl d)
   ·exact Or.inr (Or.inr ⟨x,by simp,d.symm⟩)
theorem kO{a:List (List Sl)}{k j:Nat}{l m:List Sl}(h:(a.flatten.map Sl.b).Nodup)(g:a[k]?=some l)(b:a[j]?=some m)(o:j≠k){x s:Sl}(d:x∈l)(c:s∈m):x.b≠s.b:=by
 rw[(er g).1,List.map_append,List.map_append,List.nodup_append,List.nodup_append]at h;obtain⟨⟨_,_,e⟩,_,f⟩:=h;by_cases n:j<k
 ·have:s∈(a.take k).flatten:=List.mem_flatten.2 ⟨m,List.mem_of_getElem? (by rw[List.getElem?_take,if_pos n];exact b),c⟩
  exact(e _ (List.mem_map_of_mem this) _ (List.mem_map_of_mem d)).symm
 ·have:s∈(a.drop (k+1)).flatten:=List.mem_flatten.2 ⟨m,List.mem_of_getElem? (i:=j-(k+1)) (by rw[List.getElem?_drop,show k+1+(j-(k+1))=j from by omega];exact b),c⟩
  exact f _ (List.mem_append_right _ (List.mem_map_of_mem d)) _ (List.mem_map_of_mem this)
theorem im.re{w w':World}{qb lb mb:Nat}{b:List (List Sl)}(h:im w qb lb mb b){k:Nat}{l l':List Sl}(f:b[k]?=some l){D:Nat->Prop}(c:Ch D w w')(q:∀i,i<w.heap.size->D i->i=lb∨i=mb∨∃x∈l,x.b=i)
 (v:Row w' lb 254 ((b.set k l').flatMap bP)) (u:bJ w' none none l')
 (o:∃m,bR w' mb .u64 bj m/\gp m/\∀id,aw m id=((b.set k l').flatten.find? (fun s=>s.id==id)).map Sl.b)
 (y:((b.set k l').flatten.map Sl.b).Nodup) (z:((b.set k l').flatten.map Sl.id).Nodup) (t:∀s∈l',bg s.ad (8:Nat)=k):im w' qb lb mb (b.set k l') where
 head:=h.head.ch c (fun n=>by
  obtain⟨m,o,_⟩:=h.map;rcases q _ h.head.lt n with e|e|⟨x,p,e⟩
  ·exact h.head.ne h.ends (by decide) e
  ·exact o.ne h.head e.symm
  ·exact(h.apart (br f p)).1 e)
 ends:=v
 len:=by rw[List.length_set];exact h.len
 chain:=fun j m a=>by
  by_cases d:k=j
  ·subst d
   have:m=l':=by
    rw[List.getElem?_set_self (List.getElem?_eq_some_iff.1 f).1]at a;exact(Option.some.inj a).symm
   subst this;exact u
  ·rw[List.getElem?_set_ne d]at a
   refine(h.chain j m a).ch c (fun s r n=> ?_);have g:=h.apart (br a r);rcases q _ g.2.2.2 n with e|e|⟨x,p,e⟩
   ·exact g.2.1 e
   ·exact g.2.2.1 e
   ·exact kO h.nd f a (fun e=>d e.symm) p r e
 map:=o
 nd:=y
 yR:=z
 at_:=fun j m a=>by
  by_cases d:k=j
  ·subst d
   have:m=l':=by
    rw[List.getElem?_set_self (List.getElem?_eq_some_iff.1 f).1]at a;exact(Option.some.inj a).symm
   subst this;exact t
  ·rw[List.getElem?_set_ne d]at a
   exact h.at_ j m a
theorem xb(a:List (List Sl)):(bZ a).flatten=a.flatten.map Sl.s:=by unfold bZ;rw[List.map_flatten]
theorem jd(a:List (List Sl))(id:Int):gV (bZ a) id=(a.flatten.find? (fun s=>s.id==id)).map Sl.s:=by
 unfold gV;rw[xb,List.find?_map];rfl
def zn(v:Value)(qb lb mb:Nat)(a:List (List Sl))(c:List (List fO))(w:World)(e:Ending)(w':World):Prop:=
 e=.returned v/\∃b,im w' qb lb mb b/\bZ b=c/\Ch (QD qb lb mb a) w w'/\(∀s∈b.flatten,(∃x∈a.flatten,x.b=s.b)∨w.heap.size<=s.b)/\∀x∈a.flatten,w'.cell? ⟨x.b,0,none⟩=some (.int .u64 x.id)
theorem im.Bm{w:World}{qb lb mb:Nat}{c:List (List Sl)}(h:im w qb lb mb c){x:Sl}(f:x∈c.flatten):w.cell? (x.b,0)=some (.int .u64 x.id):=by
 obtain⟨k,pre,post,d⟩:=hX f;obtain⟨a,b,e⟩:=(h.chain k _ d).mem x (by simp);exact e.cell (i:=0) rfl
theorem kP{X Y:List Sl}{s:Sl}(h:((X++s::Y).map Sl.id).Nodup)(j:Int):(X++Y).find? (fun x=>x.id==j)=if j=s.id then none else(X++s::Y).find? (fun x=>x.id==j):=by
 rw[List.map_append,List.map_cons,List.nodup_append,List.nodup_cons]at h;obtain⟨_,⟨b,_⟩,c⟩:=h;split
 ·rename_i e
  subst e;rw[List.find?_eq_none];intro x a;rcases List.mem_append.1 a with a|a
  ·simpa using c _ (List.mem_map_of_mem a) _ List.mem_cons_self
  ·have:s.id≠x.id:=fun e=>b (e▸List.mem_map_of_mem a)
   simpa using this.symm
 ·rename_i e
  have:(s.id==j)=false:=by simpa using fun h=>e h.symm
  rw[List.find?_append,List.find?_append,List.find?_cons,this]
theorem qD{X Y:List Sl}{s:Sl}{α:Type}{f:Sl->α}(h:((X++s::Y).map f).Nodup):((X++Y).map f).Nodup:=by
 refine List.Nodup.sublist ?_ h;exact List.Sublist.map _ (List.Sublist.append (List.Sublist.refl _) (List.sublist_cons_self _ _))
theorem nI{a:List (List Sl)}{k:Nat}{pre post:List Sl}{s:Sl}(d:a[k]?=some (pre++s::post)):∃X Y,a.flatten=X++s::Y/\(a.set k (pre++post)).flatten=X++Y:=by
 obtain⟨b,c⟩:=er d;exact⟨(a.take k).flatten++pre,post++(a.drop (k+1)).flatten,by rw[b];simp,by rw[c];simp⟩
theorem rV{b:List (List Sl)}{k:Nat}{pre post:List Sl}{s:Sl}(d:b[k]?=some (pre++s::post))(r:(b.flatten.map Sl.id).Nodup):bZ (b.set k (pre++post))=(bZ b).map fun l=>l.filter fun x=>x.id !=s.id:=by
 obtain⟨X,Y,n,o⟩:=nI d;have g:∀x∈(b.set k (pre++post)).flatten,x.id≠s.id:=by
  intro x i e;rw[o]at i;have:=kP (n▸r) s.id;rw[if_pos rfl,List.find?_eq_none]at this;exact this x i (by simpa using e)
 apply List.ext_getElem?;intro j;unfold bZ;rw[List.getElem?_map,List.getElem?_map,List.getElem?_map];by_cases f:k=j
 ·subst f
  rw[List.getElem?_set_self (List.getElem?_eq_some_iff.1 d).1,d];simp only[Option.map_some,List.map_append,List.map_cons,List.filter_append];have h:∀z∈pre++post,z.id≠s.id:=fun z a=>g z (br (k:=k) (List.getElem?_set_self (List.getElem?_eq_some_iff.1 d).1) a)
  rw[List.filter_cons_of_neg (by simp[Sl.s]),List.filter_eq_self.2,List.filter_eq_self.2]
  ·intro z a
   obtain⟨y,c,rfl⟩:=List.mem_map.1 a;simpa[Sl.s]using h y (by simp[c])
  ·intro z a
   obtain⟨y,c,rfl⟩:=List.mem_map.1 a;simpa[Sl.s]using h y (by simp[c])
 ·rw[List.getElem?_set_ne f]
  cases p:b[j]? with
  |none=>rfl
  |some m=>
   simp only[Option.map_some];rw[List.filter_eq_self.2];intro z a;obtain⟨y,c,rfl⟩:=List.mem_map.1 a;have q:(b.set k (pre++post))[j]?=some m:=(by rw[List.getElem?_set_ne f];exact p);simpa[Sl.s]using g y (br q c)
theorem pt(qb lb mb:Nat)(c:List (List Sl))(id:Int)(w:World)(h:im w qb lb mb c):
 Calls prog 107 #[(qb,0),.int .u64 id] w (zn (.bool (dv (bZ c) id).1) qb lb mb c (dv (bZ c) id).2 w):=by
 have H:=Z h;obtain⟨m,C,W,F⟩:=h.map;have v:=Z C;have J:=Z W;have am:=h.head.k 1 rfl;have o:=fu (P:=prog) (w:=w) (T:=212) (K:=56) (E:=252) (z:=.pointer none) underlying212 underlying56 (by kernel_rfl) C id;have a3:=Z F;rw[F]at o;obtain⟨r,n⟩:=nm (c.flatten.find? (fun s=>s.id==id));rw[n]at o;have u:=Z (jd c id);rw[n]at u;clear h C W F;cases r with
 |none=>
  have E:Hid (dv (bZ c) id=(false,bZ c)):=Z (by unfold dv;rw[u];rfl);clear n;simp only[Option.map_none,Option.getD_none]at o;go_wp2
  go_ret;rw[E];exact⟨rfl,c,H,rfl,Ch.refl _ _,fun s t=>Or.inl ⟨s,t,rfl⟩,fun x a=>H.Bm a⟩
 |some s=>
  have t:=List.mem_of_find?_eq_some n;have I:s.id=id:=by have:=List.find?_some n;simpa using this
  obtain⟨k,pre,post,f⟩:=hX t;have hb:=H.at_ k _ f s (by simp);obtain⟨X,Y,Q,R⟩:=nI f;have G:((pre++s::post).map Sl.b).Nodup:=by
   refine List.Nodup.sublist ?_ H.nd;rw[(er f).1];exact List.Sublist.map _ ((List.sublist_append_right _ _).trans (List.sublist_append_left _ _))
  have al:=Z (fun w av ap q=>nH qb lb k (.map (some mb)) c pre post s w av ap H.len f q hb G);have E:Hid (dv (bZ c) id=(true,bZ (c.set k (pre++post)))):=Z (by
   unfold dv;rw[u,rV f H.yR,I];rfl)
  have b:=Z (And.intro f (And.intro Q R));have L:=Z I;have ax:=Z hb;have ab:=Z (gK G);clear n t I f hb Q R G;simp only[Option.map_some,Option.getD_some,bj]at o;go_in
  go_wp2_with fail
  refine(al _ H.head H.ends (H.chain k _ b.1)).mono ?_;rintro e w1 ⟨rfl,S,q,l⟩;have N:∀i,(i=lb∨∃x∈pre++post,x.b=i)->QD qb lb mb c i:=fun i d=>by
   rcases d with rfl|⟨x,a,rfl⟩
   ·exact Or.inr (Or.inl rfl)
   ·exact Or.inr (Or.inr (Or.inr ⟨x,br b.1 (by simp at a⊢;rcases a with a|a<;>simp[a]),rfl⟩))
  have V:¬(mb=lb∨∃x∈pre++post,x.b=mb):=by
   rintro(e|⟨x,a,e⟩)
   ·exact v.ne H.ends e
   ·exact(H.apart (br b.1 (by simp at a⊢;rcases a with a|a<;>simp[a]))).2.2.1 e
  have a0:¬(qb=lb∨∃x∈pre++post,x.b=qb):=by
   rintro(e|⟨x,a,e⟩)
   ·exact H.head.ne H.ends (by decide) e
   ·exact(H.apart (br b.1 (by simp at a⊢;rcases a with a|a<;>simp[a]))).1 e
  have U:=v.ch l V;have d1:=(H.head.ch l a0).cell (i:=1) rfl;obtain⟨w2,bi,O,g⟩:=fw (P:=prog) (T:=212) (K:=56) (E:=252) (ty:=0) (kT:=56) underlying212 underlying56 U id;have y:Hid (im w2 qb lb mb (c.set k (pre++post))/\Ch (QD qb lb mb c) w w2):=Z (by
   refine⟨H.re b.1 (D:=fun i=>(i=lb∨∃x∈pre++post,x.b=i)∨i=mb) ((l.mono fun i d=>Or.inl d).trans (g.mono fun i d=>Or.inr d)) ?_ (S.ch g (fun e=>v.ne H.ends (show mb=lb from Eq.symm e))) (q.ch g ?_) ⟨_,O,(J.del id).1,?_⟩ ?_ ?_ ?_,(l.mono N).trans (g.mono fun i d=>Or.inr (Or.inr (Or.inl d)))⟩
   ·rintro i _ ((d|⟨x,a,d⟩)|d)
    ·exact Or.inl d
    ·exact Or.inr (Or.inr ⟨x,by simp at a⊢;rcases a with a|a<;>simp[a],d⟩)
    ·exact Or.inr (Or.inl d)
   ·intro x a e
    exact(H.apart (br b.1 (by simp at a⊢;rcases a with a|a<;>simp[a]))).2.2.1 e
   ·intro j
    rw[b.2.2,kP (b.2.1▸H.yR) j,<-b.2.1];by_cases B:j=id
    ·subst B
     rw[(J.del j).2,if_pos L.out.symm];rfl
    ·rw[gn _ _ _ B,a3,if_neg (by rw[L.out];exact B)]
   ·rw[b.2.2];exact qD (b.2.1▸H.nd)
   ·rw[b.2.2];exact qD (b.2.1▸H.yR)
   ·intro x a
    exact H.at_ k _ b.1 x (by simp at a⊢;rcases a with a|a<;>simp[a]))
  have ad:Hid (w2.cell? ⟨s.b,0,none⟩=some (.int .u64 s.id)):=Z (by
   have a1:s∈c.flatten:=br b.1 (by simp);have A:=H.apart a1;have M:=(l.cell (p:=⟨s.b,0,none⟩) A.2.2.2 (by
    rintro(e|⟨x,a,e⟩)
    ·exact A.2.1 e
    ·exact ab x (by simpa using a) e)).trans (H.Bm a1)
   exact(g.cell (p:=⟨s.b,0,none⟩) (aP M) (fun e=>A.2.2.1 e)).trans M)
  clear S q l N V a0 U O g o am;go_wp2
  go_ret;rw[E];refine⟨rfl,_,y.1,rfl,y.2,fun x a=>Or.inl ⟨x,?_,rfl⟩,fun x a=> ?_⟩
  ·rw[b.2.2]at a
   rw[b.2.1];simp at a⊢;rcases a with a|a<;>simp[a]
  ·rw[b.2.1]at a
   by_cases a2:x=s
   ·rw[a2];exact ad
   ·refine y.1.Bm ?_
    rw[b.2.2];simp at a⊢;rcases a with a|a|a
    ·exact Or.inl a
    ·exact absurd a a2
    ·exact Or.inr a
def kQ(s:Option fO)(w:World)(e:Ending)(w':World):Prop:=
 (match s with
  |some s=>e=.returned (.tuple #[.int .u64 s.ad,.int .u64 s.mask,.int .i64 (bg s.ad (8:Nat)),.bool true])
  |none=>e=.returned (.tuple #[.int .u64 0,.int .u64 0,.int .i64 0,.bool false]))/\∃n,w'=w.drewN n
theorem ua(qb lb mb:Nat)(e:List (List Sl))(id:Int)(w:World)(h:im w qb lb mb e):
 Calls prog 77 #[(qb,0),.int .u64 id] w (kQ (gV (bZ e) id) w):=by
 have H:=Z h;obtain⟨m,i,p,j⟩:=h.map;have t:=h.head.k 1 rfl;have q:=h.head.c1;have d:=fu (P:=prog) (w:=w) (T:=212) (K:=56) (E:=252) (z:=.pointer none) underlying212 underlying56 (by kernel_rfl) i id;rw[j]at d;obtain⟨r,c⟩:=nm (e.flatten.find? (fun s=>s.id==id));rw[c]at d;have f:=Z (jd e id);rw[c]at f;clear h i p j;cases r with
 |none=>
  clear c;simp only[Option.map_none,Option.getD_none]at d;go_wp2
  refine bodyPost_ret (ds rfl _ _ _) rfl ?_;rw[f];exact⟨rfl,0,rfl⟩
 |some s=>
  have n:=List.mem_of_find?_eq_some c;obtain⟨k,pre,post,g⟩:=hX n;obtain⟨a,b,l⟩:=(H.chain k _ g).mem s (by simp);obtain⟨u,v,x⟩:=l.c3;have o:=Z (fun w h=>dL qb lb (.map (some mb)) s.ad 8 8 (by omega) (by omega) w h);clear c n g l;simp only[Option.map_some,Option.getD_some,bj]at d;go_wp2
  go_quiet ((go_at_call 123;exact Calls.quiet_of_same (b5 (o _ H.head))))
  go_wp2
  refine bodyPost_ret (ds rfl _ _ _) rfl ?_;rw[f];exact⟨rfl,nq,rfl⟩
def dQ(a mask:Int)(each:Bool)(s:Sl):Bool:=s.ad==a&&(each||rs s.mask mask)
def rW(r:Option Sl):Value:=.pointer (r.map fun s=>⟨s.b,0,none⟩)
def zo(r:Option Sl)(w:World)(e:Ending)(w':World):Prop:=e=.returned (rW r)/\∃n,w'=w.drewN n
theorem lM(qb lb mb:Nat)(G:List (List Sl))(l:List Sl)(k:Nat)(b mask:Int)(each:Bool)(y:G[k]?=some l)(hb:bg b (8:Nat)=k)(w:World)(h:im w qb lb mb G):
 Calls prog 210 #[(qb,0),.int .u64 b,.int .u64 mask,.bool each] w (zo (l.find? (dQ b mask each)) w):=by
 have H:=Z h;have J:=h.head.c1;have C:=Z (fun w h=>dL qb lb (.map (some mb)) b 8 8 (by omega) (by omega) w h);rw[hb]at C;have B:w.cell? (lb,k*2)=some (ptrTo (l.head?.map Sl.b)):=h.ends.at (enc:=bP) ep y (j:=0) (by omega) rfl;have N:k<8:=by rw[<-h.len];exact(List.getElem?_eq_some_iff.1 y).1
 have O:(k:Int)<8:=by omega
 have F:ptrTo (l.head?.map Sl.b)=rW l.head?:=by cases l<;>rfl
 rw[F]at B;have I:=Z (h.chain k l y);unfold rW at B;clear F hb y h;have M:Hid (∀mask w,Calls prog 211 #[.int .u64 mask,.int .u64 0] w (eg (.bool (rs mask 0)) w)):=Z fun m w=>ru m 0 w
 cases each
 all_goals
  go_wp2
  go_quiet ((go_at_call 123;exact Calls.quiet_of_same (b5 (C _ H.head))))
  obtain⟨o,z⟩:=nm (w.drewN nq);have t:=Z z;have D:Hid (bJ o none none l):=Z (by rw[<-z];exact I.ch ((Ch.refl ag w).drewN nq) (fun _ _ h=>h));rw[z];clear z J B;go_wp2_with fail
 ·go_loopg [9] (l.length+1) (fun gk u wr=>∃(p:Option Addr) (pre r:List Sl),u=.pointer p/\o=wr/\r.length<gk/\Hid (p=(r.head?.map fun s=>⟨s.b,0,none⟩)/\l=pre++r/\pre.find? (dQ b mask false)=none))
  case atStart=>exact⟨_,[],l,rfl,rfl,Nat.lt_succ_self _,rfl,rfl,rfl⟩
  case round=>
   obtain⟨p,pre,r,rfl,rfl,x,a⟩:=hrel;cases r with
   |nil=>
    obtain rfl:p=none:=a.1;have E:Hid (l.find? (dQ b mask false)=none):=Z (by rw[a.2.1,List.append_nil];exact a.2.2);go_wp2
    go_ret;rw[E];exact⟨rfl,nq,t.symm⟩
   |cons s r=>
    obtain rfl:p=some ⟨s.b,0,none⟩:=a.1;obtain⟨v,rfl⟩:∃A,gk=A+1:=⟨gk-1,by omega⟩;have f:=D.out;rw[a.2.1]at f;have d:=(bJ.mid.1 f).2.1;have K:=d.k 1 rfl;have P:=d.k 2 rfl;have L:o.cell? ⟨s.b,4,none⟩=some (.pointer (r.head?.map fun s=>⟨s.b,0,none⟩)):=by
     rw[d.cell (i:=4) rfl];cases r<;>rfl
    clear f d;have q:=Z (ru s.mask mask);cases n:s.ad==b
    ·have c:Hid (l=(pre++[s])++r/\(pre++[s]).find? (dQ b mask false)=none):=Z ⟨by rw[a.2.1];simp,by rw[List.find?_append,a.2.2];simp[dQ,n]⟩
     go_wp2_with fail
     go_wp2
     go_roundg v
     case measure=>omega
     case rel=>exact⟨_,pre++[s],r,rfl,rfl,by simp at x;omega,rfl,c.1,c.2⟩
    ·cases g:rs s.mask mask
     ·have c:Hid (l=(pre++[s])++r/\(pre++[s]).find? (dQ b mask false)=none):=Z ⟨by rw[a.2.1];simp,by rw[List.find?_append,a.2.2];simp[dQ,n,g]⟩
      rw[g]at q;clear g;go_wp2_with (go_at_call 211;refine(q _).mono ?_;rintro e w' ⟨rfl,rfl⟩)
      go_roundg v
      case measure=>omega
      case rel=>exact⟨_,pre++[s],r,rfl,rfl,by simp at x;omega,rfl,c.1,c.2⟩
     ·have E:Hid (l.find? (dQ b mask false)=some s):=Z (by rw[a.2.1,List.find?_append,a.2.2];simp[dQ,n,g])
      rw[g]at q;clear g;go_wp2_with (go_at_call 211;refine(q _).mono ?_;rintro e w' ⟨rfl,rfl⟩)
      go_ret;rw[E];exact⟨rfl,nq,t.symm⟩
 ·go_loopg [9] (l.length+1) (fun gk u wr=>∃(p:Option Addr) (pre r:List Sl),u=.pointer p/\o=wr/\r.length<gk/\Hid (p=(r.head?.map fun s=>⟨s.b,0,none⟩)/\l=pre++r/\pre.find? (dQ b mask true)=none))
  case atStart=>exact⟨_,[],l,rfl,rfl,Nat.lt_succ_self _,rfl,rfl,rfl⟩
  case round=>
   obtain⟨p,pre,r,rfl,rfl,x,a⟩:=hrel;cases r with
   |nil=>
    obtain rfl:p=none:=a.1;have E:Hid (l.find? (dQ b mask true)=none):=Z (by rw[a.2.1,List.append_nil];exact a.2.2);go_wp2
    go_ret;rw[E];exact⟨rfl,nq,t.symm⟩
   |cons s r=>
    obtain rfl:p=some ⟨s.b,0,none⟩:=a.1;obtain⟨v,rfl⟩:∃A,gk=A+1:=⟨gk-1,by omega⟩;have f:=D.out;rw[a.2.1]at f;have d:=(bJ.mid.1 f).2.1;have K:=d.k 1 rfl;have L:o.cell? ⟨s.b,4,none⟩=some (.pointer (r.head?.map fun s=>⟨s.b,0,none⟩)):=by
     rw[d.cell (i:=4) rfl];cases r<;>rfl
    clear f d;cases n:s.ad==b
    ·have c:Hid (l=(pre++[s])++r/\(pre++[s]).find? (dQ b mask true)=none):=Z ⟨by rw[a.2.1];simp,by rw[List.find?_append,a.2.2];simp[dQ,n]⟩
     go_wp2
     go_roundg v
     case measure=>omega
     case rel=>exact⟨_,pre++[s],r,rfl,rfl,by simp at x;omega,rfl,c.1,c.2⟩
    ·have E:Hid (l.find? (dQ b mask true)=some s):=Z (by rw[a.2.1,List.find?_append,a.2.2];simp[dQ,n])
     go_wp2
     go_ret;rw[E];exact⟨rfl,nq,t.symm⟩
theorem kh(a:Int):∃k:Nat,bg a (8:Nat)=k/\k<8/\(bg a 8).toNat=k:=by
 have h:=lB a 8 (by omega);have e:bg a ((8:Nat):Int)=bg a 8:=rfl;rw[e]at h⊢;exact⟨(bg a 8).toNat,by omega,by omega,rfl⟩
theorem lN(b:List (List Sl))(l:List Sl)(k:Nat)(a mask:Int)(each:Bool)(c:b[k]?=some l)(hb:(bg a 8).toNat=k):lJ (bZ b) a mask each=(l.find? (dQ a mask each)).map Sl.s:=by
 unfold lJ bZ;rw[hb,List.getD_eq_getElem?_getD,List.getElem?_map,c];simp only[Option.map_some,Option.getD_some,List.find?_map];rfl
theorem im.bucket{w:World}{qb lb mb:Nat}{b:List (List Sl)}(h:im w qb lb mb b)(a:Int):∃(k:Nat) (l:List Sl),b[k]?=some l/\bg a (8:Nat)=k/\(bg a 8).toNat=k:=by
 obtain⟨k,c,d,e⟩:=kh a;exact⟨k,_,List.getElem?_eq_getElem (by rw[h.len];exact d),c,e⟩
theorem im.drewN{w:World}{qb lb mb:Nat}{a:List (List Sl)}(h:im w qb lb mb a)(n:Nat):im (w.drewN n) qb lb mb a:=h.af ((Ch.refl _ _).drewN n)
def zp(b:Bool)(w:World)(e:Ending)(w':World):Prop:=e=.returned (.bool b)/\∃n,w'=w.drewN n
theorem zq(qb lb mb:Nat)(b:List (List Sl))(a mask:Int)(w:World)(h:im w qb lb mb b):
 Calls prog 202 #[(qb,0),.int .u64 a,.int .u64 mask] w (zp (wY (bZ b) a mask) w):=by
 obtain⟨k,l,c,hb,f⟩:=h.bucket a;have d:=Z (lM qb lb mb b l k a mask false c hb w h);have E:=Z (lN b l k a mask false c f);obtain⟨r,g⟩:=nm (l.find? (dQ a mask false));rw[g]at d E;have i:Hid (wY (bZ b) a mask=r.isSome):=Z (by unfold wY;rw[E];cases r<;>rfl);clear c hb f h g;cases r
 all_goals
  go_in
  go_wp2_with (go_at_call 210;refine d.mono ?_;rintro e w' ⟨rfl,n,rfl⟩;simp only[rW,Option.map_none,Option.map_some])
  go_ret;rw[i];exact⟨rfl,n,rfl⟩
def rX(x:Int×Bool×List (List fO))(qb lb mb:Nat)(a:List (List Sl))(w:World)(e:Ending)(w':World):Prop:=zn (.tuple #[.int .u64 x.1,.bool x.2.1]) qb lb mb a x.2.2 w e w'
theorem xc(qb lb mb:Nat)(c:List (List Sl))(d mask:Int)(w:World)(h:im w qb lb mb c):
 Calls prog 199 #[(qb,0),.int .u64 d,.int .u64 mask] w (rX (eJ (bZ c) d mask) qb lb mb c w):=by
 obtain⟨k,l,f,hb,t⟩:=h.bucket d;have H:=Z h;have q:=Z (lM qb lb mb c l k d mask false f hb w h);have E:=Z (lN c l k d mask false f t);obtain⟨r,o⟩:=nm (l.find? (dQ d mask false));rw[o]at q E;cases r with
 |none=>
  have p:Hid (eJ (bZ c) d mask=(0,false,bZ c)):=Z (by unfold eJ;rw[E];rfl);clear f hb t h o;go_in
  go_wp2_with (go_at_call 210;refine q.mono ?_;rintro e w' ⟨rfl,n,rfl⟩;simp only[rW,Option.map_none,Option.map_some])
  go_ret2;rw[p];exact⟨rfl,c,H.drewN n,rfl,(Ch.refl _ _).drewN n,fun s j=>Or.inl ⟨s,j,rfl⟩,fun x A=>(H.drewN n).Bm A⟩
 |some s=>
  have j:=List.mem_of_find?_eq_some o;have v:=br f j;have F:gV (bZ c) s.id=some s.s∨∃y,gV (bZ c) s.id=some y:=by
   right;rw[jd];cases O:c.flatten.find? (fun x=>x.id==s.id)with
   |none=>
    have:=List.find?_eq_none.1 O s v;simp at this
   |some y=>exact⟨_,rfl⟩
  have C:(dv (bZ c) s.id).1=true:=by
   unfold dv;rcases F with h|⟨y,h⟩<;>rw[h]
  have p:Hid (eJ (bZ c) d mask=(s.id,true,(dv (bZ c) s.id).2)):=Z (by unfold eJ;rw[E];rfl);have L:Hid (∀w,im w qb lb mb c->Calls prog 107 #[(qb,0),.int .u64 s.id] w (zn (.bool true) qb lb mb c (dv (bZ c) s.id).2 w)):=Z (fun w h=>C▸pt qb lb mb c s.id w h);obtain⟨a,b,I⟩:=(h.chain k l f).mem s j;have M:=Z I;have N:=Z v;clear f hb t h o j v F C I;go_in
  go_wp2_with (go_at_call 210;refine q.mono ?_;rintro e w' ⟨rfl,n,rfl⟩;simp only[rW,Option.map_none,Option.map_some])
  obtain⟨K,z⟩:=nm (w.drewN n);have m:Hid (Ch ag w K):=Z (by rw[<-z];exact(Ch.refl _ _).drewN n);rw[z];clear z;have Q:=(M.ch m (fun h=>h)).cell (i:=0) rfl;go_region_held3 (fun w'=>w'.cell? ⟨s.b,0,none⟩=some (.int .u64 s.id)) (go_keep) ((go_at_call 107;refine(L K.drew (H.af m.drew)).mono ?_;rintro e w2 ⟨rfl,P,G,J,B,D,u⟩;have g:=Z (And.intro G (And.intro J (And.intro B (And.intro D u))));have d0:=u s N;clear G J B D u))
  all_goals
   go_wp2
   go_ret2;rw[p];exact⟨rfl,P,g.1,g.2.1,(m.drew.af).trans g.2.2.1,fun x A=>(g.2.2.2.1 x A).imp id fun h=>Nat.le_trans m.size h,g.2.2.2.2⟩
theorem pw(t:TypeId)(x:Value)(w:World):Calls prog 92 #[.iface t x] w (fun e w'=>e=.returned (.iface 197 (.pointer (some (w.heap.size,0))))/\w.alloc (.cells #[.string ⟨#[119,97,105,116,113]⟩,.int .i64 0,.iface t x] 199)=w'):=by
 go_wp2
 go_ret;exact⟨rfl,rfl⟩
structure iO(w:World)(qb lb:Nat)(mv:Value)(ls:List (List Sl)):Prop where
 head:Row w qb 214 [.slice (some (lb,0)) (8:Nat) (8:Nat),mv]
 ends:Row w lb 254 (ls.flatMap bP)
 len:ls.length=8
 chain:∀(k:Nat) (l:List Sl),ls[k]?=some l->bJ w none none l
 nd:(ls.flatten.map Sl.b).Nodup
theorem im.core{w:World}{qb lb mb:Nat}{a:List (List Sl)}(h:im w qb lb mb a):iO w qb lb (.map (some mb)) a:=⟨h.head,h.ends,h.len,h.chain,h.nd⟩
theorem iO.apart{w:World}{qb lb:Nat}{g:Value}{d:List (List Sl)}(h:iO w qb lb g d){s:Sl}(f:s∈d.flatten):s.b≠qb/\s.b≠lb/\s.b<w.heap.size:=by
 obtain⟨k,pre,post,e⟩:=hX f;obtain⟨a,b,c⟩:=(h.chain k _ e).mem s (by simp);exact⟨c.ne h.head (by decide),c.ne h.ends (by decide),c.lt⟩
theorem iO.ch{w w':World}{D:Nat->Prop}{qb lb:Nat}{d:Value}{a:List (List Sl)}(h:iO w qb lb d a)(c:Ch D w w')(e:¬D qb)(f:¬D lb)(g:∀s∈a.flatten,¬D s.b):iO w' qb lb d a:=
 ⟨h.head.ch c e,h.ends.ch c f,h.len,fun k l b=>(h.chain k l b).ch c (fun s i=>g s (br b i)),h.nd⟩
theorem iO.re{w w':World}{qb lb:Nat}{f:Value}{a:List (List Sl)}(h:iO w qb lb f a){k:Nat}{l l':List Sl}(o:a[k]?=some l){D:Nat->Prop}(c:Ch D w w')(q:¬D qb)(g:∀j m s,a[j]?=some m->j≠k->s∈m->¬D s.b)
 (n:Row w' lb 254 ((a.set k l').flatMap bP)) (i:bJ w' none none l') (p:((a.set k l').flatten.map Sl.b).Nodup):iO w' qb lb f (a.set k l') where
 head:=h.head.ch c q
 ends:=n
 len:=by rw[List.length_set];exact h.len
 chain:=fun j m b=>by
  by_cases d:k=j
  ·subst d
   have:m=l':=by
    rw[List.getElem?_set_self (List.getElem?_eq_some_iff.1 o).1]at b;exact(Option.some.inj b).symm
   subst this;exact i
  ·rw[List.getElem?_set_ne d]at b
   exact(h.chain j m b).ch c (fun s r=>g j m s b (fun e=>d e.symm) r)
 nd:=p
theorem px(b:List (List Sl))(k:Nat)(l:List Sl)(s:Sl)(c:b[k]?=some l)(hb:(bg s.ad 8).toNat=k):bZ (b.set k (l++[s]))=pr (bZ b) s.s:=by
 unfold bZ pr;apply List.ext_getElem?;intro j;rw[show s.s.ad=s.ad from rfl,hb,List.getElem?_modify,List.getElem?_map,List.getElem?_map];by_cases a:k=j
 ·subst a
  rw[List.getElem?_set_self (List.getElem?_eq_some_iff.1 c).1,c];simp
 ·rw[List.getElem?_set_ne a]
  simp[a]
theorem zr{a:List (List Sl)}{k:Nat}{pre post:List Sl}{s:Sl}(b:a[k]?=some (pre++s::post))(d:(a.flatten.map Sl.id).Nodup):dv (bZ a) s.id=(true,bZ (a.set k (pre++post))):=by
 have e:s∈a.flatten:=br b (by simp);unfold dv;rw[jd];cases c:a.flatten.find? (fun x=>x.id==s.id)with
 |none=>have:=List.find?_eq_none.1 c s e;simp at this
 |some y=>simp only[Option.map_some];rw[rV b d]
theorem rY{L:List Sl}(h:(L.map Sl.id).Nodup){i:Int}{s:Sl}(c:s∈L)(b:s.id=i):L.find? (fun x=>x.id==i)=some s:=by
 obtain⟨X,Y,rfl⟩:=List.append_of_mem c;have a:=kP h s.id;rw[if_pos rfl,List.find?_eq_none]at a;rw[List.find?_append];have:X.find? (fun x=>x.id==i)=none:=List.find?_eq_none.2 fun x d=>by
  have:=a x (by simp[d]);rwa [b]at this
 rw[this];simp[b]
theorem vI{a:List (List Sl)}{k:Nat}{l:List Sl}{s:Sl}(d:a[k]?=some l):∃X Y,a.flatten=X++Y/\(a.set k (l++[s])).flatten=X++s::Y:=by
 obtain⟨b,c⟩:=er d;exact⟨(a.take k).flatten++l,(a.drop (k+1)).flatten,by rw[b],by rw[c];simp⟩
theorem py{X Y:List Sl}{s:Sl}{α:Type}{f:Sl->α}(h:((X++Y).map f).Nodup)(g:∀x∈X++Y,f x≠f s):((X++s::Y).map f).Nodup:=by
 rw[List.map_append,List.nodup_append]at h;rw[List.map_append,List.map_cons,List.nodup_append,List.nodup_cons];refine⟨h.1,⟨fun i=> ?_,h.2.1⟩,?_⟩
 ·obtain⟨y,c,e⟩:=List.mem_map.1 i
  exact g y (by simp[c]) e
 ·intro a d b hb
  rcases List.mem_cons.1 hb with rfl|hb
  ·obtain⟨y,c,rfl⟩:=List.mem_map.1 d
   exact g y (by simp[c])
  ·exact h.2.2 a d b hb
theorem xd(qb lb mb:Nat)(q:List (List Sl))(C tt:Int)(w:World)(h:im w qb lb mb q):
 Calls prog 201 #[(qb,0),.int .u64 C,.int .u64 tt] w (rX (hV (bZ q) C tt) qb lb mb q w):=by
 obtain⟨k,l,u,hb,bv⟩:=h.bucket C;have H:=Z h;have ap:=Z (lM qb lb mb q l k C 0 true u hb w h);have E:=Z (lN q l k C 0 true u bv);obtain⟨r,Q⟩:=nm (l.find? (dQ C 0 true));rw[Q]at ap E;cases r with
 |none=>
  have am:Hid (hV (bZ q) C tt=(0,false,bZ q)):=Z (by unfold hV;rw[E];rfl);clear u hb bv h Q;go_in
  go_wp2_with (go_at_call 210;refine ap.mono ?_;rintro e w' ⟨rfl,n,rfl⟩;simp only[rW,Option.map_none,Option.map_some])
  go_ret2;rw[am];exact⟨rfl,q,H.drewN n,rfl,(Ch.refl _ _).drewN n,fun s F=>Or.inl ⟨s,F,rfl⟩,fun x a=>(H.drewN n).Bm a⟩
 |some s=>
  have F:=List.mem_of_find?_eq_some Q;obtain⟨pre,post,rfl⟩:=List.append_of_mem F;have et:=br u F;have bw:=h.at_ k _ u s F;obtain⟨X,Y,I,L⟩:=nI u;have c6:((pre++s::post).map Sl.b).Nodup:=by
   refine List.Nodup.sublist ?_ h.nd;rw[(er u).1];exact List.Sublist.map _ ((List.sublist_append_right _ _).trans (List.sublist_append_left _ _))
  have dC:=gK c6;have bi:∀x∈X++Y,x.b≠s.b/\x.id≠s.id:=fun x a=>by
   have ax:=I▸h.nd;have ch:=kP (I▸h.yR) s.id;rw[if_pos rfl,List.find?_eq_none]at ch;exact⟨gK ax x (by simpa using a),by simpa using ch x a⟩
  obtain⟨p,A⟩:=nm (q.set k (pre++post));have c3:p.length=8:=by rw[<-A,List.length_set];exact h.len
  obtain⟨k2,c0,fr,cC⟩:=kh tt;obtain⟨t,P⟩:∃t,p[k2]?=some t:=⟨_,List.getElem?_eq_getElem (by rw[c3];exact fr)⟩;obtain⟨o,d⟩:∃o:Sl,o={s with ad:=tt}:=⟨_,rfl⟩;have c2:∀x∈t,x∈X++Y:=fun x a=>by rw[<-L,A];exact br P a
  have c7:(p.flatten.map Sl.b).Nodup:=by rw[<-A,L];exact qD (I▸h.nd)
  have dr:(p.flatten.map Sl.id).Nodup:=by rw[<-A,L];exact qD (I▸h.yR)
  have cS:((t++[o]).map Sl.b).Nodup:=by
   have ax:(t.map Sl.b).Nodup:=by
    refine List.Nodup.sublist ?_ c7;rw[(er P).1];exact List.Sublist.map _ ((List.sublist_append_right _ _).trans (List.sublist_append_left _ _))
   have:=py (X:=t) (Y:=[]) (s:=o) (f:=Sl.b) (by simpa using ax) (fun x a=>by rw[d];exact(bi x (c2 x (by simpa using a))).1);simpa using this
  have fd:=Z (fun w c8 c1 M=>nH qb lb k (.map (some mb)) q pre post s w c8 c1 h.len u M bw c6);have eS:=Z (fun w pv gf c8 c1 M Q=>rU qb lb k2 (.map (some mb)) pv gf p t o w c8 c1 c3 P M (by rw[d];exact c0) Q cS);have am:Hid (hV (bZ q) C tt=(s.id,true,bZ (p.set k2 (t++[o])))):=Z (by
   unfold hV;rw[E];simp only[Option.map_some];rw[show s.s.id=s.id from rfl,zr u h.yR,A,px p k2 t o P (by rw[d];exact cC),d]
   rfl)
  obtain⟨pa,gk,ec⟩:=(h.chain k _ u).mem s F;have ck:=h.apart et;have fz:∀j,j≠k->p[j]?=q[j]?:=fun j g=>by rw[<-A,List.getElem?_set_ne (fun e=>g e.symm)]
  have cL:∀x∈p.flatten,x∈X++Y:=fun x a=>by rw[<-L,A];exact a
  have b:=Z (And.intro u (And.intro I (And.intro L (And.intro bi (And.intro ck (And.intro A (And.intro P (And.intro d (And.intro bw c0)))))))));have v:=Z (And.intro dC (And.intro c7 (And.intro dr (And.intro c2 cL))));have eW:=Z ec;clear u hb bv h Q F et ec I L bi ck A P d bw c0 cC dC c7 dr c2 cL c6 cS c3 fz;go_in
  go_wp2_with (go_at_call 210;refine ap.mono ?_;rintro e w' ⟨rfl,n,rfl⟩;simp only[rW,Option.map_none,Option.map_some])
  obtain⟨gr,c9⟩:=nm (w.drewN n);have W:Hid (Ch ag w gr):=Z (by rw[<-c9];exact(Ch.refl _ _).drewN n);rw[c9];clear c9;have U:=Z (H.af W);refine(fd _ U.head U.ends (U.chain k _ b.1)).mono ?_;rintro e w1 ⟨rfl,cq,M,a2⟩;have dN:∀x∈X++Y,x.b≠qb/\x.b≠lb/\x.b≠mb:=fun x a=>by
   have:=H.apart (s:=x) (by rw[b.2.1];simp at a⊢;rcases a with a|a<;>simp[a]);exact⟨this.1,this.2.1,this.2.2.1⟩
  have cA:∀x,x∈pre++post->x∈X++Y:=fun x a=>by
   rw[<-b.2.2.1];exact br (List.getElem?_set_self (List.getElem?_eq_some_iff.1 b.1).1) a
  have cm:iO w1 qb lb (.map (some mb)) p:=by
   rw[<-b.2.2.2.2.2.1];refine U.core.re b.1 a2 ?_ ?_ cq M (by rw[b.2.2.2.2.2.1];exact v.2.1)
   ·rintro(e|⟨x,a,e⟩)
    ·exact H.head.ne H.ends (by decide) e
    ·exact(dN x (cA x a)).1 e
   ·rintro j m x g z a (e|⟨y,c,e⟩)
    ·exact(H.apart (br g a)).2.1 e
    ·exact kO H.nd b.1 g z (x:=y) (by simp at c⊢;rcases c with c|c<;>simp[c]) a e
  have es:¬(s.b=lb∨∃x∈pre++post,x.b=s.b):=by
   rintro(e|⟨x,a,e⟩)
   ·exact b.2.2.2.2.1.2.1 e
   ·exact v.1 x (by simpa using a) e
  have al:=(eW.ch W id).ch a2 es;have go:=al.k 1 rfl;have f1:=al.free 1;have V:=Z (And.intro cm (And.intro al a2));clear cq M a2 dN cA cm es al;go_wp2_with fail
  have a1:Ch (aL s.b) w1 (w1.setCell ⟨s.b,1,none⟩ (.int .u64 tt)):=(Ch.refl _ _).only _ _;have N:iO (w1.setCell ⟨s.b,1,none⟩ (.int .u64 tt)) qb lb (.map (some mb)) p:=V.1.ch a1 (fun e=>b.2.2.2.2.1.1 (show qb=s.b from e).symm) (fun e=>b.2.2.2.2.1.2.1 (show lb=s.b from e).symm) (fun x a e=>(b.2.2.2.1 x (v.2.2.2.2 x a)).1 e);have en:=V.2.1.set 1 (.int .u64 tt);have d:=b.2.2.2.2.2.2.2.1;have c4:=eS (w1.setCell ⟨s.b,1,none⟩ (.int .u64 tt)) (ptrTo pa) (ptrTo gk) N.head N.ends (N.chain k2 _ b.2.2.2.2.2.2.1) (by rw[d];exact en);rw[show o.b=s.b from by rw[d]]at c4;refine c4.mono ?_;rintro e w3 ⟨rfl,cr,cl,T⟩;rw[show o.b=s.b from by rw[d]]at T;have a3:∀x∈t,x∈X++Y:=v.2.2.2.1;obtain⟨ce,cf,J,D⟩:=vI (s:=o) b.2.2.2.2.2.2.1;have K:∀x∈ce++cf,x∈X++Y:=fun x a=>v.2.2.2.2 x (by rw[J];exact a)
  have cW:((p.set k2 (t++[o])).flatten.map Sl.b).Nodup:=by
   rw[D];exact py (J▸v.2.1) (fun x a=>by rw[d];exact(b.2.2.2.1 x (K x a)).1)
  have ab:((p.set k2 (t++[o])).flatten.map Sl.id).Nodup:=by
   rw[D];exact py (J▸v.2.2.1) (fun x a=>by rw[d];exact(b.2.2.2.1 x (K x a)).2)
  have a0:∀x∈X++Y,x.b≠qb/\x.b≠lb/\x.b≠mb:=fun x a=>by
   have:=H.apart (s:=x) (by rw[b.2.1];simp at a⊢;rcases a with a|a<;>simp[a]);exact⟨this.1,this.2.1,this.2.2.1⟩
  have O:iO w3 qb lb (.map (some mb)) (p.set k2 (t++[o])):=by
   refine N.re b.2.2.2.2.2.2.1 T ?_ ?_ cr cl cW
   ·rintro(e|e|⟨x,a,e⟩)
    ·exact H.head.ne H.ends (by decide) e
    ·exact b.2.2.2.2.1.1 e.symm
    ·exact(a0 x (a3 x a)).1 e
   ·rintro j m x g z a (e|e|⟨y,c,e⟩)
    ·exact(N.apart (br g a)).2.1 e
    ·exact(b.2.2.2.1 x (v.2.2.2.2 x (br g a))).1 e
    ·exact kO v.2.1 b.2.2.2.2.2.2.1 g z (x:=y) c a e
  have ci:Ch (QD qb lb mb q) w w3:=by
   have eA:∀x∈X++Y,QD qb lb mb q x.b:=(fun x a=>Or.inr (Or.inr (Or.inr ⟨x,by rw[b.2.1];simp at a⊢;rcases a with a|a<;>simp[a],rfl⟩)));have eC:QD qb lb mb q s.b:=Or.inr (Or.inr (Or.inr ⟨s,by rw[b.2.1];simp,rfl⟩));refine((W.af.trans (V.2.2.mono ?_)).trans (a1.mono ?_)).trans (T.mono ?_)
   ·rintro i (rfl|⟨x,a,rfl⟩)
    ·exact Or.inr (Or.inl rfl)
    ·exact eA x (by rw[<-b.2.2.1];exact br (List.getElem?_set_self (List.getElem?_eq_some_iff.1 b.1).1) a)
   ·rintro i rfl;exact eC
   ·rintro i (rfl|rfl|⟨x,a,rfl⟩)
    ·exact Or.inr (Or.inl rfl)
    ·exact eC
    ·exact eA x (a3 x a)
  have cQ:Ch (fun i=>i≠mb) w w3:=by
   refine((W.af.trans (V.2.2.mono ?_)).trans (a1.mono ?_)).trans (T.mono ?_)
   ·rintro i (rfl|⟨x,a,rfl⟩)
    ·intro e;subst e;obtain⟨m,B,_⟩:=H.out.map;exact B.ne H.ends rfl
    ·exact(a0 x (by rw[<-b.2.2.1];exact br (List.getElem?_set_self (List.getElem?_eq_some_iff.1 b.1).1) a)).2.2
   ·rintro i rfl;exact b.2.2.2.2.1.2.2.1
   ·rintro i (rfl|rfl|⟨x,a,rfl⟩)
    ·intro e;subst e;obtain⟨m,B,_⟩:=H.out.map;exact B.ne H.ends rfl
    ·exact b.2.2.2.2.1.2.2.1
    ·exact(a0 x (a3 x a)).2.2
  have av:Hid (im w3 qb lb mb (p.set k2 (t++[o]))):=Z {
   head:=O.head
   ends:=O.ends
   len:=O.len
   chain:=O.chain
   nd:=O.nd
   yR:=ab
   map:=by
    obtain⟨m,B,gc,ge⟩:=H.out.map;refine⟨m,B.ch cQ (fun h=>h rfl),gc,fun i=> ?_⟩;rw[ge];cases bx:q.flatten.find? (fun x=>x.id==i)with
    |none=>
     cases cs:(p.set k2 (t++[o])).flatten.find? (fun x=>x.id==i)with
     |none=>rfl
     |some y=>
      exfalso;have c:=List.mem_of_find?_eq_some cs;have G:y.id=i:=(by simpa using List.find?_some cs);rw[D]at c;have c5:=List.find?_eq_none.1 bx;rcases List.mem_append.1 c with c|c
      ·have:=K y (by simp[c])
       exact c5 y (by rw[b.2.1];simp at this⊢;rcases this with a|a<;>simp[a]) (by simpa using G)
      ·rcases List.mem_cons.1 c with rfl|c
       ·exact c5 s (by rw[b.2.1];simp) (by rw[d]at G;simpa using G)
       ·have:=K y (by simp[c])
        exact c5 y (by rw[b.2.1];simp at this⊢;rcases this with a|a<;>simp[a]) (by simpa using G)
    |some y=>
     have c:=List.mem_of_find?_eq_some bx;have G:y.id=i:=(by simpa using List.find?_some bx);by_cases cd:y=s
     ·rw[rY ab (s:=o) (by rw[D];simp) (by rw[d,<-G,cd]),cd,d];rfl
     ·have cb:y∈X++Y:=by
       rw[b.2.1]at c;simp at c⊢;rcases c with c|c|c
       ·exact Or.inl c
       ·exact absurd c cd
       ·exact Or.inr c
      have R:y∈ce++cf:=(by rw[<-J,<-b.2.2.2.2.2.1,b.2.2.1];exact cb);rw[rY ab (s:=y) (by rw[D];simp at R⊢;rcases R with a|a<;>simp[a]) G]
   at_:=fun j m g x a=>by
    have hold:∀(j:Nat) (m:List Sl),p[j]?=some m->∀x∈m,bg x.ad (8:Nat)=j:=fun j m g x a=>by
     by_cases z:k=j
     ·subst z
      rw[<-b.2.2.2.2.2.1,List.getElem?_set_self (List.getElem?_eq_some_iff.1 b.1).1]at g;have B:=Option.some.inj g;rw[<-B]at a;exact H.at_ k _ b.1 x (by simp at a⊢;rcases a with a|a<;>simp[a])
     ·rw[<-b.2.2.2.2.2.1,List.getElem?_set_ne z]at g
      exact H.at_ j m g x a
    by_cases z:k2=j
    ·subst z
     rw[List.getElem?_set_self (List.getElem?_eq_some_iff.1 b.2.2.2.2.2.2.1).1]at g;have B:=Option.some.inj g;rw[<-B]at a;rcases List.mem_append.1 a with a|a
     ·exact hold k2 _ b.2.2.2.2.2.2.1 x a
     ·have:x=o:=by simpa using a
      rw[this,d];exact b.2.2.2.2.2.2.2.2.2
    ·rw[List.getElem?_set_ne z]at g
     exact hold j m g x a}
  have eL:=Z ci;have S:=Z (And.intro D (And.intro K J));have fn:w3.cell? ⟨s.b,0,none⟩=some (.int .u64 s.id):=by
   have:=av.Bm (x:=o) (by rw[D];simp);rw[d]at this;exact this
  have fb:=Z d;clear go f1 a1 N en d c4 cr cl T a3 J D K cW ab a0 O ci cQ;go_wp2
  go_ret2;rw[am];refine⟨rfl,_,av,rfl,eL,fun x a=>Or.inl ?_,fun x a=> ?_⟩
  ·rw[S.1]at a
   rcases List.mem_append.1 a with a|a
   ·have:=S.2.1 x (by simp[a])
    exact⟨x,by rw[b.2.1];simp at this⊢;rcases this with a|a<;>simp[a],rfl⟩
   ·rcases List.mem_cons.1 a with rfl|a
    ·exact⟨s,by rw[b.2.1];simp,by rw[fb]⟩
    ·have:=S.2.1 x (by simp[a])
     exact⟨x,by rw[b.2.1];simp at this⊢;rcases this with a|a<;>simp[a],rfl⟩
  ·by_cases ex:x=s
   ·rw[ex];exact fn
   ·refine av.Bm (x:=x) ?_
    have cb:x∈X++Y:=by
     rw[b.2.1]at a;simp at a⊢;rcases a with c|c|c
     ·exact Or.inl c
     ·exact absurd c ex
     ·exact Or.inr c
    have R:=cb;rw[<-b.2.2.1,b.2.2.2.2.2.1,S.2.2]at R;rw[S.1];simp at R⊢;rcases R with a|a<;>simp[a]
section
inductive aX where
 |no|gL|mem|al|b0|ring|q|cU|obj|tm|wk|out|code|back
 |th (id:Int)|tl (id:Int)|fr (id:Int) (k:Nat)
 deriving DecidableEq
structure cz where
 mb:Nat
 m:Nat
 c:Nat
 d:Nat
 ab:Nat
 cb:Nat
 ch:Nat
 cm:Nat
 cq:Nat
 rb:Nat
 rg:Nat
 qb:Nat
 ql:Nat
 qm:Nat
 tb:Nat
 tg:Nat
 ob:Nat
 og:Nat
 tm:Nat
 wb:Nat
 lc:Option Addr
 Dg:Nat
 ll:Option Addr
 Gc:Nat
 pc:Option Addr
 BX:Nat
structure Var where
 av:Value
 hv:Value
 ov:Value
 ls:List (List Sl)
 bH:Int->Nat
 lv:Int->Value
 fb:Int->Nat->Nat
 bv:Int->Nat->Value
 wv:Nat->Value
def kR(C:KC)(L:cz):List Value:=[.slice L.lc C.dG.length L.Dg,.int .i64 C.loop,.slice L.ll C.calls.length L.Gc,.slice L.pc C.a8.length L.BX,.int .i64 C.entry,.int .i64 C.wide,.int .i64 C.narrow]
def hc(L:cz)(ov:Value)(nw:Nat)(en at_ w draw:Int):List Value:=
 [bj L.m,bj L.ab,bj L.cb,bj L.rb,bj L.qb,bj L.tb,bj L.ob,.map (some L.tm),.slice (some (L.wb,0)) nw nw,en,at_,w,.int .u64 draw,ov]
def cZ(L:cz)(ov:Value)(C:KC)(nw:Nat)(en at_ w draw:Int):List Value:=kR C L++(C.rows.map (Value.int .i64)++hc L ov nw en at_ w draw)
def ay.cells(x:ay)(v:Value):List Value:=[.int .u64 x.slot,.int .u64 x.hand,.bool x.parked,.int .i64 x.left]++x.f.cells v
theorem ay.len(x:ay×Value):(x.1.cells x.2).length=38:=by simp[ay.cells,cu.cY]
def Frame.post(f:Frame):List Value:=[.bool f.b7,.int .i64 f.num]
structure nJ(w:World)(χ:Nat->aX)(L:cz)(ov:Value)(C:KC)(nw:Nat)(en at_ wn draw:Int):Prop where
 row:Row w L.mb 137 (cZ L ov C nw en at_ wn draw)
 rows:C.rows.length=1000
 k:χ L.mb=.gL
structure xe(w:World)(χ:Nat->aX)(L:cz)(S:aA):Prop where
 is:aM w L.m L.c L.d S
 k1:χ L.m=.mem
 k2:χ L.c=.mem
 k3:χ L.d=.mem
structure Fe(w:World)(χ:Nat->aX)(L:cz)(v:Value)(S:a6):Prop where
 is:aW w L.ab L.m v S
 k1:χ L.ab=.al
 k2:∀g,v.ownBlock=some g->χ g=.al
structure zs(w:World)(χ:Nat->aX)(L:cz)(v:Value)(S:aO):Prop where
 is:aZ w L.cb L.ch L.cm L.cq v S
 k1:χ L.cb=.b0
 k2:χ L.ch=.b0
 k3:χ L.cm=.b0
 k4:χ L.cq=.b0
 k5:∀g,v.ownBlock=some g->χ g=.b0
structure nK(w:World)(χ:Nat->aX)(L:cz)(q:List Int):Prop where
 is:eO w L.rb L.rg q
 k1:χ L.rb=.ring
 k2:χ L.rg=.ring
structure QC(w:World)(χ:Nat->aX)(L:cz)(ls:List (List Sl))(q:List (List fO)):Prop where
 is:im w L.qb L.ql L.qm ls
 bZ:bZ ls=q
 k:∀i,QD L.qb L.ql L.qm ls i->χ i=.q
structure zt(w:World)(χ:Nat->aX)(L:cz)(l:List aE):Prop where
 is:a5 w L.tb L.tg l
 k1:χ L.tb=.cU
 k2:χ L.tg=.cU
structure zu(w:World)(χ:Nat->aX)(L:cz)(l:List bK):Prop where
 is:bX w L.ob L.og l
 k1:χ L.ob=.obj
 k2:χ L.og=.obj
structure BY(w:World)(χ:Nat->aX)(L:cz)(bH:Int->Nat)(ai:List (Int×Thread)):Prop where
 is:bR w L.tm .u64 bj (ai.map fun x=>(x.1,bH x.1))
 k:χ L.tm=.tm
 nd:gp ai
structure zv(w:World)(χ:Nat->aX)(b:Nat)(v:Value)(id:Int)(t:Thread):Prop where
 is:Row w b 176 [.int .u64 t.id,v,.int .u64 t.eU]
 k:χ b=.th id
structure Bn(w:World)(χ:Nat->aX)(v:Value)(fb:Nat->Nat)(id:Int)(n:Nat):Prop where
 is:w.ownsRow 0 177 1 v n ((List.range n).map fun k=>bj (fb k))
 k:∀g,v.ownBlock=some g->χ g=.tl id
structure Bo(w:World)(χ:Nat->aX)(b:Nat)(v:Value)(id:Int)(k:Nat)(f:Frame):Prop where
 is:aJ w b 0 179 [] f.post v f.f
 kf:χ b=.fr id k
 kb:∀g,v.ownBlock=some g->χ g=.back
def di(l:List ay)(wv:Nat->Value):List (ay×Value):=l.zipIdx.map fun x=>(x.1,wv x.2)
structure Ff(w:World)(χ:Nat->aX)(L:cz)(wv:Nat->Value)(l:List ay):Prop where
 is:Row w L.wb 148 ((di l wv).flatMap fun x=>x.1.cells x.2)
 k:χ L.wb=.wk
 back:∀i x,l[i]?=some x->ct w (wv i) x.f.back
 kb:∀(i:Nat) (x:ay),l[i]?=some x->∀g,(wv i).ownBlock=some g->χ g=.back
 n:l.length<=64
structure zw(w:World)(χ:Nat->aX)(v:Value)(l:List Ev):Prop where
 is:w.ownsRow 0 62 11 v l.length (l.flatMap Ev.cells)
 k:∀g,v.ownBlock=some g->χ g=.out
structure vJ(w:World)(χ:Nat->aX)(L:cz)(C:KC):Prop where
 mR:C.dG.length<=L.Dg
 je:C.calls.length<=L.Gc
 mT:C.a8.length<=L.BX
 b7:C.dG≠[]->∃g,L.lc=some ⟨g,0,none⟩/\fo w g C.dG/\χ g=.code
 prog:C.a8≠[]->∃g,L.pc=some ⟨g,0,none⟩/\fo w g C.a8/\χ g=.code
 calls:C.calls≠[]->∃g junk,L.ll=some ⟨g,0,none⟩/\Row w g 49 (C.calls.flatMap bB.cells++junk)/\χ g=.code
structure MB(X:List aX)(w:World)(χ:Nat->aX)(L:cz)(Y:Var)(C:KC)(K:KS):Prop where
 head:.gL∉X->nJ w χ L Y.ov C K.wk.length K.entries K.at_ K.w K.draw
 mem:.mem∉X->xe w χ L K.mem
 al:.al∉X->Fe w χ L Y.av K.blocks
 b0:.b0∉X->zs w χ L Y.hv K.clock
 ring:.ring∉X->nK w χ L K.ring
 q:.q∉X->QC w χ L Y.ls K.q
 cU:.cU∉X->zt w χ L K.table
 obj:.obj∉X->zu w χ L K.c'
 tm:.tm∉X->BY w χ L Y.bH K.ai
 th:∀id t,aw K.ai id=some t-> .th id∉X->zv w χ (Y.bH id) (Y.lv id) id t
 tl:∀id t,aw K.ai id=some t-> .tl id∉X->Bn w χ (Y.lv id) (Y.fb id) id t.l.length
 fr:∀id t k f,aw K.ai id=some t->t.l[k]?=some f-> .fr id k∉X->Bo w χ (Y.fb id k) (Y.bv id k) id k f
 wk:.wk∉X->Ff w χ L Y.wv K.wk
 out:.out∉X->zw w χ Y.ov K.out
 code:.code∉X->vJ w χ L C
 small:∀i,χ i≠ .no->i<w.heap.size
def ae(w:World)(χ:Nat->aX)(L:cz)(Y:Var)(C:KC)(K:KS):Prop:=MB [] w χ L Y C K
structure eQ(X:List aX)(χ aY:Nat->aX)(D:Nat->Prop)(w w':World):Prop where
 c:Ch D w w'
 G4:∀i,i<w.heap.size->D i->χ i∈X
 same:∀i,i<w.heap.size->aY i=χ i
 small:∀i,aY i≠ .no->i<w'.heap.size
section
variable{X:List aX}{w w':World}{χ aY:Nat->aX}{D:Nat->Prop}{L:cz}{Y:Var}{C:KC}
theorem eQ.nd(s:eQ X χ aY D w w'){i:Nat}{c:aX}(e:i<w.heap.size)(b:χ i=c)(a:c∉X):¬D i:=fun d=>a (b▸s.G4 i e d)
theorem nJ.tr{ov:Value}{nw:Nat}{en at_ wn draw:Int}(h:nJ w χ L ov C nw en at_ wn draw)(s:eQ X χ aY D w w')(a:.gL∉X):nJ w' aY L ov C nw en at_ wn draw:=
 ⟨h.row.ch s.c (s.nd h.row.lt h.k a),h.rows,(s.same _ h.row.lt).trans h.k⟩
theorem xe.tr{S:aA}(h:xe w χ L S)(s:eQ X χ aY D w w')(a:.mem∉X):xe w' aY L S:=
 ⟨h.is.ch s.c (s.nd h.is.head.lt h.k1 a) (s.nd h.is.cells.lt h.k2 a) (s.nd h.is.width.lt h.k3 a),(s.same _ h.is.head.lt).trans h.k1,(s.same _ h.is.cells.lt).trans h.k2,(s.same _ h.is.width.lt).trans h.k3⟩
theorem cH{B:Nat}{e:TypeId}{z:Nat}{v:Value}{n:Nat}{d:List Value}(h:w.ownsRow B e z v n d){g:Nat}(a:v.ownBlock=some g):g<w.heap.size:=by
 rcases h.2 with⟨rfl,_⟩|⟨b,cap,cur,rfl,_,c,_⟩
 ·cases a
 ·have:b=g:=by simpa[Value.ownBlock]using a
  subst this;exact(Array.getElem?_eq_some_iff.1 c).1
theorem Fe.tr{v:Value}{S:a6}(h:Fe w χ L v S)(s:eQ X χ aY D w w')(b:.al∉X):Fe w' aY L v S:=
 ⟨h.is.ch s.c (s.nd h.is.head.lt h.k1 b) (fun g a=>s.nd (cH h.is.own a) (h.k2 g a) b),(s.same _ h.is.head.lt).trans h.k1,fun g a=>(s.same _ (cH h.is.own a)).trans (h.k2 g a)⟩
theorem zs.tr{v:Value}{S:aO}(h:zs w χ L v S)(s:eQ X χ aY D w w')(a:.b0∉X):zs w' aY L v S:=
 ⟨h.is.ch s.c (s.nd h.is.head.lt h.k1 a) (s.nd h.is.heap.head.lt h.k2 a) (s.nd h.is.heap.map.lt h.k3 a) (s.nd h.is.fm.lt h.k4 a) (fun g b=>s.nd (cH h.is.heap.own b) (h.k5 g b) a),
  (s.same _ h.is.head.lt).trans h.k1,(s.same _ h.is.heap.head.lt).trans h.k2,(s.same _ h.is.heap.map.lt).trans h.k3,(s.same _ h.is.fm.lt).trans h.k4,fun g b=>(s.same _ (cH h.is.heap.own b)).trans (h.k5 g b)⟩
theorem eO.BZ{b g:Nat}{q:List Int}(h:eO w b g q):b<w.heap.size/\g<w.heap.size:=by
 obtain⟨cs,fr,a,_⟩:=h;exact⟨a.head.lt,a.rows.lt⟩
theorem nK.tr{q:List Int}(h:nK w χ L q)(s:eQ X χ aY D w w')(a:.ring∉X):nK w' aY L q:=
 ⟨h.is.ch s.c (s.nd h.is.BZ.1 h.k1 a) (s.nd h.is.BZ.2 h.k2 a),(s.same _ h.is.BZ.1).trans h.k1,(s.same _ h.is.BZ.2).trans h.k2⟩
theorem im.BZ{qb lb mb:Nat}{a:List (List Sl)}(h:im w qb lb mb a){i:Nat}(b:QD qb lb mb a i):i<w.heap.size:=by
 rcases b with rfl|rfl|rfl|⟨x,d,rfl⟩
 ·exact h.head.lt
 ·exact h.ends.lt
 ·obtain⟨m,c,_⟩:=h.map;exact c.lt
 ·exact(h.apart d).2.2.2
theorem QC.tr{b:List (List Sl)}{q:List (List fO)}(h:QC w χ L b q)(s:eQ X χ aY D w w')(c:.q∉X):QC w' aY L b q:=
 ⟨h.is.ch s.c (fun i a=>s.nd (h.is.BZ a) (h.k i a) c),h.bZ,fun i a=>(s.same _ (h.is.BZ a)).trans (h.k i a)⟩
theorem zt.tr{l:List aE}(h:zt w χ L l)(s:eQ X χ aY D w w')(a:.cU∉X):zt w' aY L l:=
 ⟨h.is.ch s.c (s.nd h.is.head.lt h.k1 a) (s.nd h.is.rows.lt h.k2 a),(s.same _ h.is.head.lt).trans h.k1,(s.same _ h.is.rows.lt).trans h.k2⟩
theorem zu.tr{l:List bK}(h:zu w χ L l)(s:eQ X χ aY D w w')(a:.obj∉X):zu w' aY L l:=
 ⟨h.is.ch s.c (s.nd h.is.head.lt h.k1 a) (s.nd h.is.rows.lt h.k2 a),(s.same _ h.is.head.lt).trans h.k1,(s.same _ h.is.rows.lt).trans h.k2⟩
theorem BY.tr{a:Int->Nat}{ai:List (Int×Thread)}(h:BY w χ L a ai)(s:eQ X χ aY D w w')(b:.tm∉X):BY w' aY L a ai:=
 ⟨h.is.ch s.c (s.nd h.is.lt h.k b),(s.same _ h.is.lt).trans h.k,h.nd⟩
theorem zv.tr{b:Nat}{v:Value}{id:Int}{t:Thread}(h:zv w χ b v id t)(s:eQ X χ aY D w w')(a:.th id∉X):zv w' aY b v id t:=
 ⟨h.is.ch s.c (s.nd h.is.lt h.k a),(s.same _ h.is.lt).trans h.k⟩
theorem Bn.tr{v:Value}{fb:Nat->Nat}{id:Int}{n:Nat}(h:Bn w χ v fb id n)(s:eQ X χ aY D w w')(b:.tl id∉X):Bn w' aY v fb id n:=
 ⟨aj h.is s.c (fun g a=>s.nd (cH h.is a) (h.k g a) b),fun g a=>(s.same _ (cH h.is a)).trans (h.k g a)⟩
theorem Bo.tr{b:Nat}{v:Value}{id:Int}{k:Nat}{f:Frame}(h:Bo w χ b v id k f)(s:eQ X χ aY D w w')(c:.fr id k∉X)(hb:.back∉X):Bo w' aY b v id k f:=
 ⟨h.is.ch s.c (s.nd h.is.row.lt h.kf c) (fun g a=>s.nd (cH h.is.back a) (h.kb g a) hb),(s.same _ h.is.row.lt).trans h.kf,fun g a=>(s.same _ (cH h.is.back a)).trans (h.kb g a)⟩
theorem Ff.tr{wv:Nat->Value}{l:List ay}(h:Ff w χ L wv l)(s:eQ X χ aY D w w')(c:.wk∉X)(hb:.back∉X):Ff w' aY L wv l:=
 ⟨h.is.ch s.c (s.nd h.is.lt h.k c),(s.same _ h.is.lt).trans h.k,fun i x a=>(h.back i x a).ch s.c (fun g b=>s.nd (cH (h.back i x a) b) (h.kb i x a g b) hb),fun i x a g b=>(s.same _ (cH (h.back i x a) b)).trans (h.kb i x a g b),h.n⟩
theorem zw.tr{v:Value}{l:List Ev}(h:zw w χ v l)(s:eQ X χ aY D w w')(b:.out∉X):zw w' aY v l:=
 ⟨aj h.is s.c (fun g a=>s.nd (cH h.is a) (h.k g a) b),fun g a=>(s.same _ (cH h.is a)).trans (h.k g a)⟩
theorem vJ.tr(h:vJ w χ L C)(s:eQ X χ aY D w w')(e:.code∉X):vJ w' aY L C where
 mR:=h.mR
 je:=h.je
 mT:=h.mT
 b7:=fun d=>by
  obtain⟨g,c,a,b⟩:=h.b7 d;exact⟨g,c,a.ch s.c (s.nd a.lt b e),(s.same _ a.lt).trans b⟩
 prog:=fun d=>by
  obtain⟨g,c,a,b⟩:=h.prog d;exact⟨g,c,a.ch s.c (s.nd a.lt b e),(s.same _ a.lt).trans b⟩
 calls:=fun d=>by
  obtain⟨g,f,c,a,b⟩:=h.calls d;exact⟨g,f,c,a.ch s.c (s.nd a.lt b e),(s.same _ a.lt).trans b⟩
theorem ni{a:aX}{X Z:List aX}(h:a∉X++Z):a∉X/\a∉Z:=by simpa using h
theorem MB.step{K:KS}{Z:List aX}(h:MB Z w χ L Y C K)(s:eQ X χ aY D w w')(hb:.back∉X):MB (X++Z) w' aY L Y C K where
 head:=fun a=>(h.head (ni a).2).tr s (ni a).1
 mem:=fun a=>(h.mem (ni a).2).tr s (ni a).1
 al:=fun a=>(h.al (ni a).2).tr s (ni a).1
 b0:=fun a=>(h.b0 (ni a).2).tr s (ni a).1
 ring:=fun a=>(h.ring (ni a).2).tr s (ni a).1
 q:=fun a=>(h.q (ni a).2).tr s (ni a).1
 cU:=fun a=>(h.cU (ni a).2).tr s (ni a).1
 obj:=fun a=>(h.obj (ni a).2).tr s (ni a).1
 tm:=fun a=>(h.tm (ni a).2).tr s (ni a).1
 th:=fun id t b a=>(h.th id t b (ni a).2).tr s (ni a).1
 tl:=fun id t b a=>(h.tl id t b (ni a).2).tr s (ni a).1
 fr:=fun id t k f b c a=>(h.fr id t k f b c (ni a).2).tr s (ni a).1 hb
 wk:=fun a=>(h.wk (ni a).2).tr s (ni a).1 hb
 out:=fun a=>(h.out (ni a).2).tr s (ni a).1
 code:=fun a=>(h.code (ni a).2).tr s (ni a).1
 small:=s.small
theorem ae.step{K:KS}(h:ae w χ L Y C K)(s:eQ X χ aY D w w')(hb:.back∉X):MB X w' aY L Y C K:=by
 have:=MB.step h s hb
 rwa [List.append_nil]at this
end
theorem eQ.af{w w':World}{χ:Nat->aX}(c:Ch ag w w')(b:∀i,χ i≠ .no->i<w.heap.size):eQ [] χ χ ag w w':=
 ⟨c,fun _ _ h=>h.elim,fun _ _=>rfl,fun i a=>Nat.lt_of_lt_of_le (b i a) c.size⟩
theorem ae.af{w w':World}{χ:Nat->aX}{L:cz}{Y:Var}{C:KC}{K:KS}(h:ae w χ L Y C K)(c:Ch ag w w'):ae w' χ L Y C K:=h.step (eQ.af c h.small) (by simp)
theorem ae.drew{w:World}{χ:Nat->aX}{L:cz}{Y:Var}{C:KC}{K:KS}(h:ae w χ L Y C K):ae w.drew χ L Y C K:=h.af (Ch.refl _ _).drew
theorem ae.drewN{w:World}{χ:Nat->aX}{L:cz}{Y:Var}{C:KC}{K:KS}(h:ae w χ L Y C K)(n:Nat):ae (w.drewN n) χ L Y C K:=h.af ((Ch.refl _ _).drewN n)
theorem ae.alloc{w:World}{χ:Nat->aX}{L:cz}{Y:Var}{C:KC}{K:KS}(h:ae w χ L Y C K)(a:Obj):ae (w.alloc a) χ L Y C K:=h.af ((Ch.refl _ _).alloc a)
theorem eQ.one{w w':World}{χ:Nat->aX}{D:Nat->Prop}{X:List aX}(c:Ch D w w')(a:∀i,D i->χ i∈X)(d:∀i,χ i≠ .no->i<w.heap.size):eQ X χ χ D w w':=
 ⟨c,fun i _ h=>a i h,fun _ _=>rfl,fun i b=>Nat.lt_of_lt_of_le (d i b) c.size⟩
def cO(χ:Nat->aX)(a:Option Nat)(c:aX):Nat->aX:=fun i=>if a=some i then c else χ i
theorem eQ.cO{w w':World}{χ:Nat->aX}{D:Nat->Prop}{X:List aX}{v b:Value}{k:aX}(c:Ch D w w')(e:∀i,i<w.heap.size->D i->χ i∈X)(l:∀i,χ i≠ .no->i<w.heap.size)(f:aT w v b)(m:∀g,v.ownBlock=some g->χ g=k)(j:∀g,b.ownBlock=some g->g<w'.heap.size):
 eQ X χ (cO χ b.ownBlock k) D w w':=by
 refine⟨c,e,fun i a=> ?_,fun i a=> ?_⟩
 ·unfold Go.Proofs.YtfnilkpkogipfaaGreatDoor.cO
  split
  ·rename_i h
   rcases f i h with d|d
   ·exact(m i d).symm
   ·omega
  ·rfl
 ·unfold Go.Proofs.YtfnilkpkogipfaaGreatDoor.cO at a
  split at a
  ·rename_i h;exact j i h
  ·exact Nat.lt_of_lt_of_le (l i a) c.size
theorem hY{χ:Nat->aX}{v:Value}{k:aX}:∀g,v.ownBlock=some g->cO χ v.ownBlock k g=k:=fun g a=>by unfold cO;rw[if_pos a]
end
theorem MB.Gp{w:World}{χ:Nat->aX}{L:cz}{Y:Var}{C:KC}{K:KS}{S:aA}(h:MB [.mem] w χ L Y C K)(c:xe w χ L S):ae w χ L Y C {K with mem:=S} where
 head:=fun _=>h.head (by simp)
 mem:=fun _=>c
 al:=fun _=>h.al (by simp)
 b0:=fun _=>h.b0 (by simp)
 ring:=fun _=>h.ring (by simp)
 q:=fun _=>h.q (by simp)
 cU:=fun _=>h.cU (by simp)
 obj:=fun _=>h.obj (by simp)
 tm:=fun _=>h.tm (by simp)
 th:=fun id t a _=>h.th id t a (by simp)
 tl:=fun id t a _=>h.tl id t a (by simp)
 fr:=fun id t k f a b _=>h.fr id t k f a b (by simp)
 wk:=fun _=>h.wk (by simp)
 out:=fun _=>h.out (by simp)
 code:=fun _=>h.code (by simp)
 small:=h.small
theorem MB.He{w:World}{χ:Nat->aX}{L:cz}{Y:Var}{C:KC}{K:KS}{v:Value}{A:a6}{S:aA}(h:MB [.al,.mem] w χ L Y C K)(b:Fe w χ L v A)(d:xe w χ L S):ae w χ L {Y with av:=v} C {K with blocks:=A,mem:=S} where
 head:=fun _=>h.head (by simp)
 mem:=fun _=>d
 al:=fun _=>b
 b0:=fun _=>h.b0 (by simp)
 ring:=fun _=>h.ring (by simp)
 q:=fun _=>h.q (by simp)
 cU:=fun _=>h.cU (by simp)
 obj:=fun _=>h.obj (by simp)
 tm:=fun _=>h.tm (by simp)
 th:=fun id t a _=>h.th id t a (by simp)
 tl:=fun id t a _=>h.tl id t a (by simp)
 fr:=fun id t k f a c _=>h.fr id t k f a c (by simp)
 wk:=fun _=>h.wk (by simp)
 out:=fun _=>h.out (by simp)
 code:=fun _=>h.code (by simp)
 small:=h.small
theorem MB.Gq{w:World}{χ:Nat->aX}{L:cz}{Y:Var}{C:KC}{K:KS}{v:Value}{S:aO}(h:MB [.b0] w χ L Y C K)(b:zs w χ L v S):ae w χ L {Y with hv:=v} C {K with clock:=S} where
 head:=fun _=>h.head (by simp)
 mem:=fun _=>h.mem (by simp)
 al:=fun _=>h.al (by simp)
 b0:=fun _=>b
 ring:=fun _=>h.ring (by simp)
 q:=fun _=>h.q (by simp)
 cU:=fun _=>h.cU (by simp)
 obj:=fun _=>h.obj (by simp)
 tm:=fun _=>h.tm (by simp)
 th:=fun id t a _=>h.th id t a (by simp)
 tl:=fun id t a _=>h.tl id t a (by simp)
 fr:=fun id t k f a c _=>h.fr id t k f a c (by simp)
 wk:=fun _=>h.wk (by simp)
 out:=fun _=>h.out (by simp)
 code:=fun _=>h.code (by simp)
 small:=h.small
theorem MB.Fg{w:World}{χ:Nat->aX}{L:cz}{Y:Var}{C:KC}{K:KS}{S:List Int}(h:MB [.ring] w χ L Y C K)(b:nK w χ L S):ae w χ L Y C {K with ring:=S} where
 head:=fun _=>h.head (by simp)
 mem:=fun _=>h.mem (by simp)
 al:=fun _=>h.al (by simp)
 b0:=fun _=>h.b0 (by simp)
 ring:=fun _=>b
 q:=fun _=>h.q (by simp)
 cU:=fun _=>h.cU (by simp)
 obj:=fun _=>h.obj (by simp)
 tm:=fun _=>h.tm (by simp)
 th:=fun id t a _=>h.th id t a (by simp)
 tl:=fun id t a _=>h.tl id t a (by simp)
 fr:=fun id t k f a c _=>h.fr id t k f a c (by simp)
 wk:=fun _=>h.wk (by simp)
 out:=fun _=>h.out (by simp)
 code:=fun _=>h.code (by simp)
 small:=h.small
theorem MB.cQ{w:World}{χ:Nat->aX}{L:cz}{Y:Var}{C:KC}{K:KS}{b:List (List Sl)}{S:List (List fO)}(h:MB [.q] w χ L Y C K)(c:QC w χ L b S):ae w χ L {Y with ls:=b} C {K with q:=S} where
 head:=fun _=>h.head (by simp)
 mem:=fun _=>h.mem (by simp)
 al:=fun _=>h.al (by simp)
 b0:=fun _=>h.b0 (by simp)
 ring:=fun _=>h.ring (by simp)
 q:=fun _=>c
 cU:=fun _=>h.cU (by simp)
 obj:=fun _=>h.obj (by simp)
 tm:=fun _=>h.tm (by simp)
 th:=fun id t a _=>h.th id t a (by simp)
 tl:=fun id t a _=>h.tl id t a (by simp)
 fr:=fun id t k f a d _=>h.fr id t k f a d (by simp)
 wk:=fun _=>h.wk (by simp)
 out:=fun _=>h.out (by simp)
 code:=fun _=>h.code (by simp)
 small:=h.small
theorem MB.Gs{w:World}{χ:Nat->aX}{L:cz}{Y:Var}{C:KC}{K:KS}{S:List aE}(h:MB [.cU] w χ L Y C K)(b:zt w χ L S):ae w χ L Y C {K with table:=S} where
 head:=fun _=>h.head (by simp)
 mem:=fun _=>h.mem (by simp)
 al:=fun _=>h.al (by simp)
 b0:=fun _=>h.b0 (by simp)
 ring:=fun _=>h.ring (by simp)
 q:=fun _=>h.q (by simp)
 cU:=fun _=>b
 obj:=fun _=>h.obj (by simp)
 tm:=fun _=>h.tm (by simp)
 th:=fun id t a _=>h.th id t a (by simp)
 tl:=fun id t a _=>h.tl id t a (by simp)
 fr:=fun id t k f a c _=>h.fr id t k f a c (by simp)
 wk:=fun _=>h.wk (by simp)
 out:=fun _=>h.out (by simp)
 code:=fun _=>h.code (by simp)
 small:=h.small
theorem MB.Gt{w:World}{χ:Nat->aX}{L:cz}{Y:Var}{C:KC}{K:KS}{S:List bK}(h:MB [.obj] w χ L Y C K)(b:zu w χ L S):ae w χ L Y C {K with c':=S} where
 head:=fun _=>h.head (by simp)
 mem:=fun _=>h.mem (by simp)
 al:=fun _=>h.al (by simp)
 b0:=fun _=>h.b0 (by simp)
 ring:=fun _=>h.ring (by simp)
 q:=fun _=>h.q (by simp)
 cU:=fun _=>h.cU (by simp)
 obj:=fun _=>b
 tm:=fun _=>h.tm (by simp)
 th:=fun id t a _=>h.th id t a (by simp)
 tl:=fun id t a _=>h.tl id t a (by simp)
 fr:=fun id t k f a c _=>h.fr id t k f a c (by simp)
 wk:=fun _=>h.wk (by simp)
 out:=fun _=>h.out (by simp)
 code:=fun _=>h.code (by simp)
 small:=h.small
theorem MB.Fh{w:World}{χ:Nat->aX}{L:cz}{Y:Var}{C:KC}{K:KS}{en at_ wn dr:Int}(h:MB [.gL] w χ L Y C K)(b:nJ w χ L Y.ov C K.wk.length en at_ wn dr):ae w χ L Y C {K with entries:=en,at_:=at_,w:=wn,draw:=dr} where
 head:=fun _=>b
 mem:=fun _=>h.mem (by simp)
 al:=fun _=>h.al (by simp)
 b0:=fun _=>h.b0 (by simp)
 ring:=fun _=>h.ring (by simp)
 q:=fun _=>h.q (by simp)
 cU:=fun _=>h.cU (by simp)
 obj:=fun _=>h.obj (by simp)
 tm:=fun _=>h.tm (by simp)
 th:=fun id t a _=>h.th id t a (by simp)
 tl:=fun id t a _=>h.tl id t a (by simp)
 fr:=fun id t k f a c _=>h.fr id t k f a c (by simp)
 wk:=fun _=>h.wk (by simp)
 out:=fun _=>h.out (by simp)
 code:=fun _=>h.code (by simp)
 small:=h.small
theorem MB.rZ{w:World}{χ:Nat->aX}{L:cz}{Y:Var}{C:KC}{K:KS}{v:Value}{l:List Ev}(h:MB [.gL,.out] w χ L Y C K)(b:nJ w χ L v C K.wk.length K.entries K.at_ K.w K.draw)(d:zw w χ v l):ae w χ L {Y with ov:=v} C {K with out:=l} where
 head:=fun _=>b
 mem:=fun _=>h.mem (by simp)
 al:=fun _=>h.al (by simp)
 b0:=fun _=>h.b0 (by simp)
 ring:=fun _=>h.ring (by simp)
 q:=fun _=>h.q (by simp)
 cU:=fun _=>h.cU (by simp)
 obj:=fun _=>h.obj (by simp)
 tm:=fun _=>h.tm (by simp)
 th:=fun id t a _=>h.th id t a (by simp)
 tl:=fun id t a _=>h.tl id t a (by simp)
 fr:=fun id t k f a c _=>h.fr id t k f a c (by simp)
 wk:=fun _=>h.wk (by simp)
 out:=fun _=>d
 code:=fun _=>h.code (by simp)
 small:=h.small
theorem MB.Hf{w:World}{χ:Nat->aX}{L:cz}{Y:Var}{C:KC}{K:KS}{wv:Nat->Value}{l:List ay}(h:MB [.wk] w χ L Y C K)(d:l.length=K.wk.length)(b:Ff w χ L wv l):ae w χ L {Y with wv:=wv} C {K with wk:=l} where
 head:=fun _=>by show nJ w χ L Y.ov C l.length _ _ _ _;rw[d];exact h.head (by simp)
 mem:=fun _=>h.mem (by simp)
 al:=fun _=>h.al (by simp)
 b0:=fun _=>h.b0 (by simp)
 ring:=fun _=>h.ring (by simp)
 q:=fun _=>h.q (by simp)
 cU:=fun _=>h.cU (by simp)
 obj:=fun _=>h.obj (by simp)
 tm:=fun _=>h.tm (by simp)
 th:=fun id t a _=>h.th id t a (by simp)
 tl:=fun id t a _=>h.tl id t a (by simp)
 fr:=fun id t k f a c _=>h.fr id t k f a c (by simp)
 wk:=fun _=>b
 out:=fun _=>h.out (by simp)
 code:=fun _=>h.code (by simp)
 small:=h.small
theorem zx{l:List (Int×Thread)}{k:Int}{v:Thread}{g:Int->Nat}(h:(aw l k).isSome):(b8 l k v).map (fun x=>(x.1,g x.1))=l.map (fun x=>(x.1,g x.1)):=by
 induction l with
 |nil=>rw[y8]at h;cases h
 |cons x l ih=>
  rw[dW];by_cases a:k=x.1
  ·rw[if_pos a];simp[a]
  ·rw[if_neg a]
   rw[cX,if_neg a]at h;simp only[List.map_cons,ih h]
theorem BY.put{w:World}{χ:Nat->aX}{L:cz}{Y:Var}{l:List (Int×Thread)}{k:Int}{v:Thread}(h:BY w χ L Y.bH l)(a:(aw l k).isSome):BY w χ L Y.bH (b8 l k v):=
 ⟨by rw[zx (g:=Y.bH) a];exact h.is,h.k,h.nd.put k v⟩
theorem MB.Hg{w:World}{χ:Nat->aX}{L:cz}{Y:Var}{C:KC}{K:KS}{id:Int}{t b:Thread}(h:MB [.th id] w χ L Y C K)(d:aw K.ai id=some t)(g:b.l=t.l)(i:zv w χ (Y.bH id) (Y.lv id) id b):ae w χ L Y C (K.cn id b) where
 head:=fun _=>h.head (by simp)
 mem:=fun _=>h.mem (by simp)
 al:=fun _=>h.al (by simp)
 b0:=fun _=>h.b0 (by simp)
 ring:=fun _=>h.ring (by simp)
 q:=fun _=>h.q (by simp)
 cU:=fun _=>h.cU (by simp)
 obj:=fun _=>h.obj (by simp)
 tm:=fun _=>(h.tm (by simp)).put (by rw[d];rfl)
 th:=fun j u a _=>by
  rw[show(KS.cn K id b).ai=b8 K.ai id b from rfl,aV]at a;split at a
  ·rename_i e;injection a with a;subst e a;exact i
  ·rename_i e;exact h.th j u a (by simp[e])
 tl:=fun j u a _=>by
  rw[show(KS.cn K id b).ai=b8 K.ai id b from rfl,aV]at a;split at a
  ·rename_i e;injection a with a;subst e a;rw[g];exact h.tl j t d (by simp)
  ·exact h.tl j u a (by simp)
 fr:=fun j u k f a c _=>by
  rw[show(KS.cn K id b).ai=b8 K.ai id b from rfl,aV]at a;split at a
  ·rename_i e;injection a with a;subst e a;rw[g]at c;exact h.fr j t k f d c (by simp)
  ·exact h.fr j u k f a c (by simp)
 wk:=fun _=>h.wk (by simp)
 out:=fun _=>h.out (by simp)
 code:=fun _=>h.code (by simp)
 small:=h.small
theorem MB.Hh{w:World}{χ:Nat->aX}{L:cz}{Y:Var}{C:KC}{K:KS}{id:Int}{k:Nat}{t:Thread}{f:Frame}{v:Value}(h:MB [.fr id k] w χ L Y C K)(g:aw K.ai id=some t)(o:k<t.l.length)(n:Bo w χ (Y.fb id k) v id k f):ae w χ L {Y with bv:=fun i j=>if i=id/\j=k then v else Y.bv i j} C (K.cn id {t with l:=t.l.set k f}) where
 head:=fun _=>h.head (by simp)
 mem:=fun _=>h.mem (by simp)
 al:=fun _=>h.al (by simp)
 b0:=fun _=>h.b0 (by simp)
 ring:=fun _=>h.ring (by simp)
 q:=fun _=>h.q (by simp)
 cU:=fun _=>h.cU (by simp)
 obj:=fun _=>h.obj (by simp)
 tm:=fun _=>(h.tm (by simp)).put (by rw[g];rfl)
 th:=fun j u a _=>by
  rw[show(KS.cn K id {t with l:=t.l.set k f}).ai=b8 K.ai id {t with l:=t.l.set k f}from rfl,aV]at a;split at a
  ·rename_i e;injection a with a;subst e a;have:=h.th j t g (by simp);exact⟨this.is,this.k⟩
  ·exact h.th j u a (by simp)
 tl:=fun j u a _=>by
  rw[show(KS.cn K id {t with l:=t.l.set k f}).ai=b8 K.ai id {t with l:=t.l.set k f}from rfl,aV]at a;split at a
  ·rename_i e;injection a with a;subst e a;have:=h.tl j t g (by simp);rw[List.length_set];exact this
  ·exact h.tl j u a (by simp)
 fr:=fun j u c m a b _=>by
  rw[show(KS.cn K id {t with l:=t.l.set k f}).ai=b8 K.ai id {t with l:=t.l.set k f}from rfl,aV]at a;show Bo w χ (Y.fb j c) (if j=id/\c=k then v else Y.bv j c) j c m
  split at a
  ·rename_i e;injection a with a;subst e a
   by_cases d:c=k
   ·subst d
    rw[List.getElem?_set_self o]at b;injection b with b
    subst b;rw[if_pos ⟨rfl,rfl⟩];exact n
   ·rw[List.getElem?_set_ne (fun e=>d e.symm)]at b
    rw[if_neg (fun h=>d h.2)];exact h.fr j t c m g b (by simp[d])
  ·rename_i e
   rw[if_neg (fun h=>e h.1)];exact h.fr j u c m a b (by simp[e])
 wk:=fun _=>h.wk (by simp)
 out:=fun _=>h.out (by simp)
 code:=fun _=>h.code (by simp)
 small:=h.small
theorem MB.Gu{w:World}{χ:Nat->aX}{L:cz}{Y:Var}{C:KC}{K:KS}{id:Int}{n:Nat}{t:Thread}{v:Value}(h:MB [.th id] w χ L Y C K)(c:aw K.ai id=some t)(o:n<=t.l.length)(g:zv w χ (Y.bH id) v id {t with l:=t.l.take n})(m:Bn w χ v (Y.fb id) id n):ae w χ L {Y with lv:=fun i=>if i=id then v else Y.lv i} C (K.cn id {t with l:=t.l.take n}) where
 head:=fun _=>h.head (by simp)
 mem:=fun _=>h.mem (by simp)
 al:=fun _=>h.al (by simp)
 b0:=fun _=>h.b0 (by simp)
 ring:=fun _=>h.ring (by simp)
 q:=fun _=>h.q (by simp)
 cU:=fun _=>h.cU (by simp)
 obj:=fun _=>h.obj (by simp)
 tm:=fun _=>(h.tm (by simp)).put (by rw[c];rfl)
 th:=fun j u a _=>by
  rw[show(KS.cn K id {t with l:=t.l.take n}).ai=b8 K.ai id {t with l:=t.l.take n}from rfl,aV]at a;show zv w χ (Y.bH j) (if j=id then v else Y.lv j) j u
  split at a
  ·rename_i e;injection a with a;subst e a;rw[if_pos rfl];exact g
  ·rename_i e;rw[if_neg e];exact h.th j u a (by simp[e])
 tl:=fun j u a _=>by
  rw[show(KS.cn K id {t with l:=t.l.take n}).ai=b8 K.ai id {t with l:=t.l.take n}from rfl,aV]at a;show Bn w χ (if j=id then v else Y.lv j) (Y.fb j) j u.l.length
  split at a
  ·rename_i e;injection a with a;subst e a
   rw[if_pos rfl,show({t with l:=t.l.take n}:Thread).l.length=n from by simp;omega];exact m
  ·rename_i e;rw[if_neg e];exact h.tl j u a (by simp)
 fr:=fun j u k f a b _=>by
  rw[show(KS.cn K id {t with l:=t.l.take n}).ai=b8 K.ai id {t with l:=t.l.take n}from rfl,aV]at a;split at a
  ·rename_i e;injection a with a;subst e a
   have d:t.l[k]?=some f:=by
    have:(t.l.take n)[k]?=some f:=b;rw[List.getElem?_take]at this;split at this
    ·exact this
    ·cases this
   exact h.fr j t k f c d (by simp)
  ·exact h.fr j u k f a b (by simp)
 wk:=fun _=>h.wk (by simp)
 out:=fun _=>h.out (by simp)
 code:=fun _=>h.code (by simp)
 small:=h.small
theorem MB.Fi{w:World}{χ:Nat->aX}{L:cz}{Y:Var}{C:KC}{K:KS}{id:Int}{t:Thread}{f:Frame}{v bv':Value}{b:Nat}(h:MB [.th id,.tl id] w χ L Y C K)(n:aw K.ai id=some t)(s:zv w χ (Y.bH id) v id {t with l:=t.l++[f]})(x:Bn w χ v (fun j=>if j=t.l.length then b else Y.fb id j) id (t.l.length+1))(p:Bo w χ b bv' id t.l.length f):ae w χ L {Y with lv:=fun i=>if i=id then v else Y.lv i,fb:=fun i j=>if i=id/\j=t.l.length then b else Y.fb i j,bv:=fun i j=>if i=id/\j=t.l.length then bv' else Y.bv i j} C (K.cn id {t with l:=t.l++[f]}) where
 head:=fun _=>h.head (by simp)
 mem:=fun _=>h.mem (by simp)
 al:=fun _=>h.al (by simp)
 b0:=fun _=>h.b0 (by simp)
 ring:=fun _=>h.ring (by simp)
 q:=fun _=>h.q (by simp)
 cU:=fun _=>h.cU (by simp)
 obj:=fun _=>h.obj (by simp)
 tm:=fun _=>(h.tm (by simp)).put (by rw[n];rfl)
 th:=fun j u a _=>by
  rw[show(KS.cn K id {t with l:=t.l++[f]}).ai=b8 K.ai id {t with l:=t.l++[f]}from rfl,aV]at a;show zv w χ (Y.bH j) (if j=id then v else Y.lv j) j u
  split at a
  ·rename_i e;injection a with a;subst e a;rw[if_pos rfl];exact s
  ·rename_i e;rw[if_neg e];exact h.th j u a (by simp[e])
 tl:=fun j u a _=>by
  rw[show(KS.cn K id {t with l:=t.l++[f]}).ai=b8 K.ai id {t with l:=t.l++[f]}from rfl,aV]at a;show Bn w χ (if j=id then v else Y.lv j) (fun k=>if j=id/\k=t.l.length then b else Y.fb j k) j u.l.length
  split at a
  ·rename_i e;injection a with a;subst e a
   rw[if_pos rfl,show({t with l:=t.l++[f]}:Thread).l.length=t.l.length+1 from by simp];simpa using x
  ·rename_i e;rw[if_neg e];simpa[e]using h.tl j u a (by simp[e])
 fr:=fun j u k c a g _=>by
  rw[show(KS.cn K id {t with l:=t.l++[f]}).ai=b8 K.ai id {t with l:=t.l++[f]}from rfl,aV]at a;show Bo w χ (if j=id/\k=t.l.length then b else Y.fb j k) (if j=id/\k=t.l.length then bv' else Y.bv j k) j k c
  split at a
  ·rename_i e;injection a with a;subst e a
   by_cases m:k=t.l.length
   ·subst m
    have d:(t.l++[f])[t.l.length]?=some c:=g;rw[List.getElem?_append_right (Nat.le_refl _)]at d;have o:f=c:=(by simpa using d);subst o;rw[if_pos ⟨rfl,rfl⟩,if_pos ⟨rfl,rfl⟩];exact p
   ·have d:(t.l++[f])[k]?=some c:=g
    have r:k<t.l.length:=by
     have:=(List.getElem?_eq_some_iff.1 d).1;simp at this;omega
    rw[List.getElem?_append_left r]at d;rw[if_neg (fun h=>m h.2),if_neg (fun h=>m h.2)];exact h.fr j t k c n d (by simp)
  ·rename_i e
   rw[if_neg (fun h=>e h.1),if_neg (fun h=>e h.1)];exact h.fr j u k c a g (by simp)
 wk:=fun _=>h.wk (by simp)
 out:=fun _=>h.out (by simp)
 code:=fun _=>h.code (by simp)
 small:=h.small
theorem jf{l:List (Int×Thread)}{id j:Int}{u:Thread}(b:gp l)(a:aw (ft l id) j=some u):aw l j=some u:=by
 by_cases e:j=id
 ·subst e
  rw[(b.del j).2]at a;cases a
 ·rwa [gn _ _ _ e]at a
theorem MB.Gv{w:World}{χ:Nat->aX}{L:cz}{Y:Var}{C:KC}{K:KS}{id:Int}(h:MB [.tm] w χ L Y C K)(b:gp K.ai)(c:BY w χ L Y.bH (ft K.ai id)):ae w χ L Y C {K with ai:=ft K.ai id} where
 head:=fun _=>h.head (by simp)
 mem:=fun _=>h.mem (by simp)
 al:=fun _=>h.al (by simp)
 b0:=fun _=>h.b0 (by simp)
 ring:=fun _=>h.ring (by simp)
 q:=fun _=>h.q (by simp)
 cU:=fun _=>h.cU (by simp)
 obj:=fun _=>h.obj (by simp)
 tm:=fun _=>c
 th:=fun j u a _=>h.th j u (jf b a) (by simp)
 tl:=fun j u a _=>h.tl j u (jf b a) (by simp)
 fr:=fun j u k f a d _=>h.fr j u k f (jf b a) d (by simp)
 wk:=fun _=>h.wk (by simp)
 out:=fun _=>h.out (by simp)
 code:=fun _=>h.code (by simp)
 small:=h.small
theorem MB.Fj{w:World}{χ:Nat->aX}{L:cz}{Y:Var}{C:KC}{K:KS}{id:Int}{t:Thread}{f:Frame}{v bv':Value}{b fbk:Nat}(h:MB [.tm] w χ L Y C K)(p:aw K.ai id=none)(g:t.l=[f])(l:BY w χ L (fun i=>if i=id then b else Y.bH i) (b8 K.ai id t))(n:zv w χ b v id t)(o:Bn w χ v (fun _=>fbk) id 1)(m:Bo w χ fbk bv' id 0 f):ae w χ L {Y with bH:=fun i=>if i=id then b else Y.bH i,lv:=fun i=>if i=id then v else Y.lv i,fb:=fun i j=>if i=id then fbk else Y.fb i j,bv:=fun i j=>if i=id then bv' else Y.bv i j} C {K with ai:=b8 K.ai id t} where
 head:=fun _=>h.head (by simp)
 mem:=fun _=>h.mem (by simp)
 al:=fun _=>h.al (by simp)
 b0:=fun _=>h.b0 (by simp)
 ring:=fun _=>h.ring (by simp)
 q:=fun _=>h.q (by simp)
 cU:=fun _=>h.cU (by simp)
 obj:=fun _=>h.obj (by simp)
 tm:=fun _=>l
 th:=fun j u a _=>by
  rw[aV]at a;show zv w χ (if j=id then b else Y.bH j) (if j=id then v else Y.lv j) j u
  split at a
  ·rename_i e;injection a with a;subst e a;rw[if_pos rfl,if_pos rfl];exact n
  ·rename_i e;rw[if_neg e,if_neg e];exact h.th j u a (by simp)
 tl:=fun j u a _=>by
  rw[aV]at a;show Bn w χ (if j=id then v else Y.lv j) (fun k=>if j=id then fbk else Y.fb j k) j u.l.length
  split at a
  ·rename_i e;injection a with a;subst e a;rw[g];simpa using o
  ·rename_i e;simpa[e]using h.tl j u a (by simp)
 fr:=fun j u k d a c _=>by
  rw[aV]at a;show Bo w χ (if j=id then fbk else Y.fb j k) (if j=id then bv' else Y.bv j k) j k d
  split at a
  ·rename_i e;injection a with a;subst e a
   rw[g]at c;cases k with
   |zero=>
    have:f=d:=(by simpa using c);subst this;simpa using m
   |succ k=>simp at c
  ·rename_i e;simpa[e]using h.fr j u k d a c (by simp)
 wk:=fun _=>h.wk (by simp)
 out:=fun _=>h.out (by simp)
 code:=fun _=>h.code (by simp)
 small:=h.small
section
structure Nx(χ aY:Nat->aX)(w w':World):Prop where
 ch:Ch (fun i=>χ i≠ .no) w w'
 same:∀i,i<w.heap.size->aY i=χ i
theorem Nx.refl(χ:Nat->aX)(w:World):Nx χ χ w w:=⟨Ch.refl _ _,fun _ _=>rfl⟩
theorem Nx.trans{χ b c:Nat->aX}{w w1 w2:World}(h:Nx χ b w w1)(k:Nx b c w1 w2):Nx χ c w w2:=
 ⟨h.ch.join k.ch (fun i a d=>by rw[<-h.same i a];exact d),fun i a=>(k.same i (Nat.lt_of_lt_of_le a h.ch.size)).trans (h.same i a)⟩
theorem Nx.af{χ:Nat->aX}{w w':World}(c:Ch ag w w'):Nx χ χ w w':=⟨c.af,fun _ _=>rfl⟩
theorem Nx.of{X:List aX}{χ aY:Nat->aX}{D:Nat->Prop}{w w':World}(s:eQ X χ aY D w w')(a:.no∉X):Nx χ aY w w':=
 ⟨⟨s.c.os,s.c.tape,s.c.output,s.c.size,fun b hb d=>s.c.same b hb (fun c=>a (by
  have:=s.G4 b hb c;have e:χ b=.no:=Classical.not_not.1 d
  rwa [e]at this))⟩,s.same⟩
def Yk(K:KS)(Y Y':Var):Prop:=∀id t,aw K.ai id=some t->Y'.bH id=Y.bH id/\∀k,k<t.l.length->Y'.fb id k=Y.fb id k
theorem Yk.refl(K:KS)(Y:Var):Yk K Y Y:=fun _ _ _=>⟨rfl,fun _ _=>rfl⟩
def Gr(K K':KS):Prop:=∀id t,aw K.ai id=some t->∃a,aw K'.ai id=some a/\t.l.length<=a.l.length
theorem Gr.refl(K:KS):Gr K K:=fun _ t h=>⟨t,h,Nat.le_refl _⟩
theorem Gr.of_eq{K K':KS}(h:K'.ai=K.ai):Gr K K':=fun _ t a=>⟨t,by rw[h];exact a,Nat.le_refl _⟩
theorem Gr.trans{K K1 a:KS}(h:Gr K K1)(k:Gr K1 a):Gr K a:=fun id t f=>by
 obtain⟨t1,b,c⟩:=h id t f;obtain⟨t2,d,e⟩:=k id t1 b;exact⟨t2,d,Nat.le_trans c e⟩
theorem Yk.trans{K K1:KS}{Y b c:Var}(h:Yk K Y b)(g:Gr K K1)(k:Yk K1 b c):Yk K Y c:=fun id t a=>by
 obtain⟨t1,d,f⟩:=g id t a;exact⟨(k id t1 d).1.trans (h id t a).1,fun j e=>((k id t1 d).2 j (by omega)).trans ((h id t a).2 j e)⟩
structure dJ(χ:Nat->aX)(L:cz)(Y:Var)(C:KC)(K K':KS)(w:World)(aY:Nat->aX)(Y':Var)(w':World):Prop where
 at_:ae w' aY L Y' C K'
 nx:Nx χ aY w w'
 yk:Yk K Y Y'
def dj(v:Value)(χ:Nat->aX)(L:cz)(Y:Var)(C:KC)(K K':KS)(w:World)(e:Ending)(w':World):Prop:=e=.returned v/\∃aY Y',dJ χ L Y C K K' w aY Y' w'
def nL(ok:Bool)(χ:Nat->aX)(L:cz)(Y:Var)(C:KC)(K K':KS)(w:World)(e:Ending)(w':World):Prop:=(∃v,e=.returned v/\(if ok then v=.nilIface else ar v))/\∃aY Y',dJ χ L Y C K K' w aY Y' w'
def xf(x:Option Int)(χ:Nat->aX)(L:cz)(Y:Var)(C:KC)(K K':KS)(w:World)(e:Ending)(w':World):Prop:=
 (match x with
  |some a=>e=.returned (.tuple #[.int .u64 a,.nilIface])
  |none=>∃v,e=.returned (.tuple #[.int .u64 0,v])/\ar v)/\∃aY Y',dJ χ L Y C K K' w aY Y' w'
section
variable{w w':World}{χ:Nat->aX}{L:cz}{Y:Var}{C:KC}{K:KS}
theorem ae.hC(h:ae w χ L Y C K)(c:Ch ag w w'):dJ χ L Y C K K w χ Y w':=⟨h.af c,Nx.af c,Yk.refl _ _⟩
theorem ae.nM(h:ae w χ L Y C K){S:aA}{D:Nat->Prop}(e:aM w' L.m L.c L.d S)(c:Ch D w w')(b:∀i,D i->i=L.m∨i=L.c∨i=L.d):dJ χ L Y C K {K with mem:=S} w χ Y w':=by
 have a:=h.mem (by simp);have s:eQ [.mem] χ χ D w w':=eQ.one c (fun i d=>by rcases b i d with rfl|rfl|rfl<;>simp[a.k1,a.k2,a.k3]) h.small;exact⟨(h.step s (by simp)).Gp ⟨e,a.k1,a.k2,a.k3⟩,Nx.of s (by simp),Yk.refl _ _⟩
theorem ae.ub(h:ae w χ L Y C K){q:List Int}(d:eO w' L.rb L.rg q)(c:Ch (dp L.rb L.rg) w w'):dJ χ L Y C K {K with ring:=q} w χ Y w':=by
 have a:=h.ring (by simp);have s:eQ [.ring] χ χ (dp L.rb L.rg) w w':=eQ.one c (fun i b=>by rcases b with rfl|rfl<;>simp[a.k1,a.k2]) h.small;exact⟨(h.step s (by simp)).Fg ⟨d,a.k1,a.k2⟩,Nx.of s (by simp),Yk.refl _ _⟩
theorem ae.mv(h:ae w χ L Y C K){l:List aE}(d:a5 w' L.tb L.tg l)(c:Ch (aL L.tg) w w'):dJ χ L Y C K {K with table:=l} w χ Y w':=by
 have a:=h.cU (by simp);have s:eQ [.cU] χ χ (aL L.tg) w w':=eQ.one c (fun i b=>by rcases b with rfl;simp[a.k2]) h.small;exact⟨(h.step s (by simp)).Gs ⟨d,a.k1,a.k2⟩,Nx.of s (by simp),Yk.refl _ _⟩
theorem ae.Dh(h:ae w χ L Y C K){l:List bK}(d:bX w' L.ob L.og l)(c:Ch (aL L.og) w w'):dJ χ L Y C K {K with c':=l} w χ Y w':=by
 have a:=h.obj (by simp);have s:eQ [.obj] χ χ (aL L.og) w w':=eQ.one c (fun i b=>by rcases b with rfl;simp[a.k2]) h.small;exact⟨(h.step s (by simp)).Gt ⟨d,a.k1,a.k2⟩,Nx.of s (by simp),Yk.refl _ _⟩
theorem ae.zy(h:ae w χ L Y C K){v:Value}{S:aO}(d:aZ w' L.cb L.ch L.cm L.cq v S)(f:aT w Y.hv v)(c:Ch (e9 L.cb L.ch L.cm L.cq Y.hv) w w'):
 dJ χ L Y C K {K with clock:=S} w (cO χ v.ownBlock .b0) {Y with hv:=v} w':=by
 have a:=h.b0 (by simp);have s:eQ [.b0] χ (cO χ v.ownBlock .b0) (e9 L.cb L.ch L.cm L.cq Y.hv) w w':=eQ.cO c (fun i _ b=>by
  rcases b with rfl|rfl|rfl|rfl|b
  ·simp[a.k1]
  ·simp[a.k4]
  ·simp[a.k2]
  ·simp[a.k3]
  ·simp[a.k5 i b]) h.small f a.k5 (fun g e=>cH d.heap.own e)
 refine⟨(h.step s (by simp)).Gq ⟨d,?_,?_,?_,?_,hY⟩,Nx.of s (by simp),Yk.refl _ _⟩
 ·exact(s.same _ a.is.head.lt).trans a.k1
 ·exact(s.same _ a.is.heap.head.lt).trans a.k2
 ·exact(s.same _ a.is.heap.map.lt).trans a.k3
 ·exact(s.same _ a.is.fm.lt).trans a.k4
theorem ae.B0(h:ae w χ L Y C K){v:Value}{A:a6}{S:aA}(e:aW w' L.ab L.m v A)(j:aT w Y.av v)(k:aM w' L.m L.c L.d S)(c:Ch (lI L.ab Y.av L.m L.c L.d) w w'):
 dJ χ L Y C K {K with blocks:=A,mem:=S} w (cO χ v.ownBlock .al) {Y with av:=v} w':=by
 have b:=h.al (by simp);have a:=h.mem (by simp);have s:eQ [.al,.mem] χ (cO χ v.ownBlock .al) (lI L.ab Y.av L.m L.c L.d) w w':=eQ.cO c (fun i _ d=>by
  rcases d with(rfl|d)|rfl|rfl|rfl
  ·simp[b.k1]
  ·simp[b.k2 i d]
  ·simp[a.k1]
  ·simp[a.k2]
  ·simp[a.k3]) h.small j b.k2 (fun g f=>cH e.own f)
 refine⟨(h.step s (by simp)).He ⟨e,?_,hY⟩ ⟨k,?_,?_,?_⟩,Nx.of s (by simp),Yk.refl _ _⟩
 ·exact(s.same _ b.is.head.lt).trans b.k1
 ·exact(s.same _ a.is.head.lt).trans a.k1
 ·exact(s.same _ a.is.cells.lt).trans a.k2
 ·exact(s.same _ a.is.width.lt).trans a.k3
theorem ae.Hi(h:ae w χ L Y C K){a:List (List Sl)}(j:im w' L.qb L.ql L.qm a)(c:Ch (QD L.qb L.ql L.qm Y.ls) w w')(k:∀s∈a.flatten,(∃x∈Y.ls.flatten,x.b=s.b)∨w.heap.size<=s.b):
 ∃aY,dJ χ L Y C K {K with q:=bZ a} w aY {Y with ls:=a} w':=by
 have g:=h.q (by simp)
 classical
 refine⟨fun i=>if QD L.qb L.ql L.qm a i then .q else χ i,?_⟩;have m:∀i,i<w.heap.size->(if QD L.qb L.ql L.qm a i then aX.q else χ i)=χ i:=fun i d=>by
  split
  ·rename_i b
   refine(g.k i ?_).symm;rcases b with e|e|e|⟨s,l,e⟩
   ·exact Or.inl e
   ·exact Or.inr (Or.inl e)
   ·exact Or.inr (Or.inr (Or.inl e))
   ·rcases k s l with⟨x,n,f⟩|f
    ·exact Or.inr (Or.inr (Or.inr ⟨x,n,f.trans e⟩))
    ·omega
  ·rfl
 have s:eQ [.q] χ (fun i=>if QD L.qb L.ql L.qm a i then .q else χ i) (QD L.qb L.ql L.qm Y.ls) w w':=⟨c,fun i _ b=>by simp[g.k i b],m,fun i d=>by
  split at d
  ·rename_i b;exact j.BZ b
  ·exact Nat.lt_of_lt_of_le (h.small i d) c.size⟩
 exact⟨(h.step s (by simp)).cQ ⟨j,rfl,fun i d=>if_pos d⟩,Nx.of s (by simp),Yk.refl _ _⟩
end
end
section
section
variable{w w':World}{χ:Nat->aX}{L:cz}{Y:Var}{C:KC}{K:KS}
theorem cK{ov:Value}{nw:Nat}{en at_ wn dr:Int}(a:C.rows.length=1000)(j:Nat)(b:j<14):(cZ L ov C nw en at_ wn dr)[1007+j]?=(hc L ov nw en at_ wn dr)[j]?:=by
 unfold cZ;rw[List.getElem?_append_right (by show 7<=_;omega),List.getElem?_append_right (by rw[List.length_map,a];show 1000<=1007+j-7;omega)]
 congr 1
 rw[List.length_map,a];show 1007+j-7-1000=j;omega
theorem ae.fz(h:ae w χ L Y C K)(i:Nat):w.frozen? (L.mb,i)=false:=(h.head (by simp)).row.free i
theorem ae.Gw(h:ae w χ L Y C K):L.mb<w.heap.size:=(h.head (by simp)).row.lt
theorem ae.D1(h:ae w χ L Y C K){i:Nat}{r:Int}(a:C.rows[i]?=some r):w.cell? (L.mb,7+i)=some (.int .i64 r):=by
 have b:=h.head (by simp);refine b.row.cell ?_;have c:=(List.getElem?_eq_some_iff.1 a).1;unfold cZ;rw[List.getElem?_append_right (by show 7<=_;omega),List.getElem?_append_left (by rw[List.length_map];show 7+i-7<_;omega),List.getElem?_map];rw[show 7+i-(kR C L).length=i from by show 7+i-7=i;omega,a];rfl
theorem ae.c0(h:ae w χ L Y C K):w.cell? (L.mb,0)=some (.slice L.lc C.dG.length L.Dg):=(h.head (by simp)).row.cell (by unfold cZ;rfl)
theorem ae.c1(h:ae w χ L Y C K):w.cell? (L.mb,1)=some (.int .i64 C.loop):=(h.head (by simp)).row.cell (by unfold cZ;rfl)
theorem ae.c2(h:ae w χ L Y C K):w.cell? (L.mb,2)=some (.slice L.ll C.calls.length L.Gc):=(h.head (by simp)).row.cell (by unfold cZ;rfl)
theorem ae.c3(h:ae w χ L Y C K):w.cell? (L.mb,3)=some (.slice L.pc C.a8.length L.BX):=(h.head (by simp)).row.cell (by unfold cZ;rfl)
theorem ae.c5(h:ae w χ L Y C K):w.cell? (L.mb,5)=some (.int .i64 C.wide):=(h.head (by simp)).row.cell (by unfold cZ;rfl)
theorem ae.c6(h:ae w χ L Y C K):w.cell? (L.mb,6)=some (.int .i64 C.narrow):=(h.head (by simp)).row.cell (by unfold cZ;rfl)
theorem ae.cP(h:ae w χ L Y C K):w.cell? (L.mb,1007)=some (.pointer (some (L.m,0))):=(h.head (by simp)).row.cell ((cK (h.head (by simp)).rows 0 (by omega)).trans rfl)
theorem ae.o4(h:ae w χ L Y C K):w.cell? (L.mb,1008)=some (.pointer (some (L.ab,0))):=(h.head (by simp)).row.cell ((cK (h.head (by simp)).rows 1 (by omega)).trans rfl)
theorem ae.j1(h:ae w χ L Y C K):w.cell? (L.mb,1009)=some (.pointer (some (L.cb,0))):=(h.head (by simp)).row.cell ((cK (h.head (by simp)).rows 2 (by omega)).trans rfl)
theorem ae.nN(h:ae w χ L Y C K):w.cell? (L.mb,1010)=some (.pointer (some (L.rb,0))):=(h.head (by simp)).row.cell ((cK (h.head (by simp)).rows 3 (by omega)).trans rfl)
theorem ae.vK(h:ae w χ L Y C K):w.cell? (L.mb,1011)=some (.pointer (some (L.qb,0))):=(h.head (by simp)).row.cell ((cK (h.head (by simp)).rows 4 (by omega)).trans rfl)
theorem ae.ea(h:ae w χ L Y C K):w.cell? (L.mb,1012)=some (.pointer (some (L.tb,0))):=(h.head (by simp)).row.cell ((cK (h.head (by simp)).rows 5 (by omega)).trans rfl)
theorem ae.iP(h:ae w χ L Y C K):w.cell? (L.mb,1013)=some (.pointer (some (L.ob,0))):=(h.head (by simp)).row.cell ((cK (h.head (by simp)).rows 6 (by omega)).trans rfl)
theorem ae.hZ(h:ae w χ L Y C K):w.cell? (L.mb,1014)=some (.map (some L.tm)):=(h.head (by simp)).row.cell ((cK (h.head (by simp)).rows 7 (by omega)).trans rfl)
theorem ae.r0(h:ae w χ L Y C K):w.cell? (L.mb,1015)=some (.slice (some (L.wb,0)) K.wk.length K.wk.length):=(h.head (by simp)).row.cell ((cK (h.head (by simp)).rows 8 (by omega)).trans rfl)
theorem ae.Fk(h:ae w χ L Y C K):w.cell? (L.mb,1016)=some (.int .i64 K.entries):=(h.head (by simp)).row.cell ((cK (h.head (by simp)).rows 9 (by omega)).trans rfl)
theorem ae.G5(h:ae w χ L Y C K):w.cell? (L.mb,1017)=some (.int .i64 K.at_):=(h.head (by simp)).row.cell ((cK (h.head (by simp)).rows 10 (by omega)).trans rfl)
theorem ae.Gd(h:ae w χ L Y C K):w.cell? (L.mb,1018)=some (.int .i64 K.w):=(h.head (by simp)).row.cell ((cK (h.head (by simp)).rows 11 (by omega)).trans rfl)
theorem ae.Di(h:ae w χ L Y C K):w.cell? (L.mb,1019)=some (.int .u64 K.draw):=(h.head (by simp)).row.cell ((cK (h.head (by simp)).rows 12 (by omega)).trans rfl)
theorem ae.rZ(h:ae w χ L Y C K):w.cell? (L.mb,1020)=some (Y.ov):=(h.head (by simp)).row.cell ((cK (h.head (by simp)).rows 13 (by omega)).trans rfl)
theorem dJ.trans{K1 a:KS}{d e:Nat->aX}{b c:Var}{w1 w2:World}(h:dJ χ L Y C K K1 w d b w1)(g:Gr K K1)(k:dJ d L b C K1 a w1 e c w2):dJ χ L Y C K a w e c w2:=⟨k.at_,h.nx.trans k.nx,h.yk.trans g k.yk⟩
theorem dJ.refl(h:ae w χ L Y C K):dJ χ L Y C K K w χ Y w:=⟨h,Nx.refl _ _,Yk.refl _ _⟩
theorem dJ.af{K1:KS}{b:Nat->aX}{a:Var}{w1 w2:World}(h:dJ χ L Y C K K1 w b a w1)(c:Ch ag w1 w2):dJ χ L Y C K K1 w b a w2:=⟨h.at_.af c,h.nx.trans (Nx.af c),h.yk⟩
theorem qE(id s:Int)(hid:aI id)(h:ae w χ L Y C K):Calls prog 139 #[(L.tb,0),.int .u64 id,s] w (nL (j3 K.table id s).1 χ L Y C K {K with table:=(j3 K.table id s).2} w):=
 (wC L.tb L.tg K.table id s hid w (h.cU (by simp)).is).mono fun _ _ ⟨a,b,c⟩=>⟨a,_,_,h.mv b c⟩
theorem qF(id v:Int)(hid:aI id)(h:ae w χ L Y C K):Calls prog 173 #[(L.tb,0),.int .u64 id,.int .u64 v] w (nL (gj K.table id v).1 χ L Y C K {K with table:=(gj K.table id v).2} w):=
 (tO L.tb L.tg K.table id v hid w (h.cU (by simp)).is).mono fun _ _ ⟨a,b,c⟩=>⟨a,_,_,h.mv b c⟩
theorem zz(id a:Int)(hid:aI id)(h:ae w χ L Y C K):Calls prog 188 #[(L.tb,0),.int .u64 id,.int .u64 a] w (nL (hs K.table id a).1 χ L Y C K {K with table:=(hs K.table id a).2} w):=
 (rv L.tb L.tg K.table id a hid w (h.cU (by simp)).is).mono fun _ _ ⟨b,c,d⟩=>⟨b,_,_,h.mv c d⟩
theorem xg(id:Int)(hid:aI id)(h:ae w χ L Y C K):Calls prog 195 #[(L.tb,0),.int .u64 id] w (nL (e8 K.table id).1 χ L Y C K {K with table:=(e8 K.table id).2} w):=
 (qv L.tb L.tg K.table id hid w (h.cU (by simp)).is).mono fun _ _ ⟨a,b,c⟩=>⟨a,_,_,h.mv b c⟩
theorem xh(id:Int)(hid:aI id)(h:ae w χ L Y C K):Calls prog 204 #[(L.tb,0),.int .u64 id] w (nL (eM K.table id).1 χ L Y C K {K with table:=(eM K.table id).2} w):=
 (qw L.tb L.tg K.table id hid w (h.cU (by simp)).is).mono fun _ _ ⟨a,b,c⟩=>⟨a,_,_,h.mv b c⟩
theorem uc(id:Int)(hid:aI id)(h:ae w χ L Y C K):Calls prog 198 #[(L.tb,0),.int .u64 id] w (eg (.int .i64 (d' K.table id)) w):=
 o3 L.tb L.tg K.table id hid w (h.cU (by simp)).is
theorem kS(id:Int)(hid:aI id)(h:ae w χ L Y C K):Calls prog 138 #[(L.tb,0),.int .u64 id] w (dc (.tuple #[(fy K.table id).1.val,.bool (fy K.table id).2]) w):=
 rI L.tb L.tg K.table id hid w (h.cU (by simp)).is
def Fl(x:Bool×Int×Int×Bool×List aE)(χ:Nat->aX)(L:cz)(Y:Var)(C:KC)(K:KS)(w:World)(e:Ending)(w':World):Prop:=
 (∃v,e=.returned (.tuple #[.int .u64 x.2.1,.int .u64 x.2.2.1,.bool x.2.2.2.1,v])/\(if x.1 then v=.nilIface else ar v))/\∃aY Y',dJ χ L Y C K {K with table:=x.2.2.2.2} w aY Y' w'
theorem zA(id:Int)(hid:aI id)(h:ae w χ L Y C K):Calls prog 197 #[(L.tb,0),.int .u64 id] w (Fl (fA K.table id) χ L Y C K w):=
 (rJ L.tb L.tg K.table id hid w (h.cU (by simp)).is).mono fun _ _ ⟨a,b,c⟩=>⟨a,_,_,h.mv b c⟩
theorem r1(home:Int)(h:ae w χ L Y C K):Calls prog 99 #[(L.tb,0),.int .u64 home] w (xf (df K.table home).1 χ L Y C K {K with table:=(df K.table home).2} w):=
 (mq L.tb L.tg K.table home w (h.cU (by simp)).is).mono fun _ _ ⟨a,b,c⟩=>⟨a,_,_,h.mv b c⟩
theorem zB(v:Int)(h:ae w χ L Y C K):Calls prog 59 #[(L.rb,0),.int .u64 v] w (nL (hp K.ring v).1 χ L Y C K {K with ring:=(hp K.ring v).2} w):=
 (mr L.rb L.rg K.ring v w (h.ring (by simp)).is).mono fun _ _ ⟨a,b,c⟩=>⟨a,_,_,h.ub b c⟩
theorem xi(h:ae w χ L Y C K):Calls prog 191 #[(L.rb,0)] w (dj (.tuple #[.int .u64 (gU K.ring).1,.bool (gU K.ring).2.1]) χ L Y C K {K with ring:=(gU K.ring).2.2} w):=
 (qx L.rb L.rg K.ring w (h.ring (by simp)).is).mono fun _ _ ⟨a,b,c⟩=>⟨a,_,_,h.ub b c⟩
theorem fW{i:Nat}(h:dp L.m L.c i):i=L.m∨i=L.c∨i=L.d:=h.imp id Or.inl
def mw(x:Option Int)(χ:Nat->aX)(L:cz)(Y:Var)(C:KC)(K K':KS)(w:World)(e:Ending)(w':World):Prop:=xf x χ L Y C K K' w e w'/\Ch (fun i=>χ i=.mem) w w'
theorem ae.B4(h:ae w χ L Y C K)(c:Ch (dp L.m L.c) w w'):Ch (fun i=>χ i=.mem) w w':=c.mono fun i b=>by
 have a:=h.mem (by simp);rcases b with rfl|rfl
 ·exact a.k1
 ·exact a.k2
theorem ud(a:Int)(e:aI a)(h:ae w χ L Y C K):Calls prog 30 #[(L.m,0),.int .u64 a] w (mw (K.mem.acc 0 a 0 0).1 χ L Y C K {K with mem:=(K.mem.acc 0 a 0 0).2} w):=
 (ht L.m L.c L.d K.mem a e w (h.mem (by simp)).is).mono fun _ _ ⟨c,d,b⟩=>⟨⟨c,_,_,h.nM d b fun _ f=>fW f⟩,h.B4 b⟩
theorem Fm(a:Int)(b:aI a)(h:ae w χ L Y C K):Calls prog 30 #[(L.m,0),.int .u64 a] w (xf (K.mem.acc 0 a 0 0).1 χ L Y C K {K with mem:=(K.mem.acc 0 a 0 0).2} w):=
 (ud a b h).mono fun _ _ h=>h.1
theorem D2(a v:Int)(e:aI a)(g:aI v)(h:ae w χ L Y C K):Calls prog 230 #[(L.m,0),.int .u64 a,.int .u64 v] w (mw (K.mem.acc 2 a 0 v).1 χ L Y C K {K with mem:=(K.mem.acc 2 a 0 v).2} w):=
 (mg L.m L.c L.d K.mem a v e g w (h.mem (by simp)).is).mono fun _ _ ⟨c,d,b⟩=>⟨⟨c,_,_,h.nM d b fun _ f=>fW f⟩,h.B4 b⟩
theorem Dj(a v:Int)(e:aI a)(g:aI v)(h:ae w χ L Y C K):Calls prog 140 #[(L.m,0),.int .u64 a,.int .u64 v] w (mw (K.mem.acc 3 a 0 v).1 χ L Y C K {K with mem:=(K.mem.acc 3 a 0 v).2} w):=
 (nh L.m L.c L.d K.mem a v e g w (h.mem (by simp)).is).mono fun _ _ ⟨c,d,b⟩=>⟨⟨c,_,_,h.nM d b fun _ f=>fW f⟩,h.B4 b⟩
theorem Gx(a v:Int)(b:aI a)(c:aI v)(h:ae w χ L Y C K):Calls prog 140 #[(L.m,0),.int .u64 a,.int .u64 v] w (xf (K.mem.acc 3 a 0 v).1 χ L Y C K {K with mem:=(K.mem.acc 3 a 0 v).2} w):=
 (Dj a v b c h).mono fun _ _ h=>h.1
theorem Dk(a b v:Int)(f:aI a)(i:aI v)(h:ae w χ L Y C K):Calls prog 189 #[(L.m,0),.int .u64 a,.int .u64 b,.int .u64 v] w (mw (K.mem.acc 4 a b v).1 χ L Y C K {K with mem:=(K.mem.acc 4 a b v).2} w):=
 (nj L.m L.c L.d K.mem a b v f i w (h.mem (by simp)).is).mono fun _ _ ⟨d,e,c⟩=>⟨⟨d,_,_,h.nM e c fun _ g=>fW g⟩,h.B4 c⟩
theorem Gy(a b v:Int)(c:aI a)(d:aI v)(h:ae w χ L Y C K):Calls prog 189 #[(L.m,0),.int .u64 a,.int .u64 b,.int .u64 v] w (xf (K.mem.acc 4 a b v).1 χ L Y C K {K with mem:=(K.mem.acc 4 a b v).2} w):=
 (Dk a b v c d h).mono fun _ _ h=>h.1
theorem D3(a v:Int)(e:aI a)(g:aI v)(h:ae w χ L Y C K):Calls prog 95 #[(L.m,0),.int .u64 a,.int .u64 v] w (nL (K.mem.acc 1 a 0 v).1.isSome χ L Y C K {K with mem:=(K.mem.acc 1 a 0 v).2} w):=
 (ey L.m L.c L.d K.mem a v e g w (h.mem (by simp)).is).mono fun _ _ ⟨b,c,d⟩=>⟨b,_,_,h.nM c d fun _ f=>fW f⟩
theorem zC(a:Int)(b:aI a)(h:ae w χ L Y C K):Calls prog 121 #[(L.m,0),.int .u64 a] w (eg (.int .i64 (K.mem.wid a)) w):=
 pf L.m L.c L.d K.mem a b w (h.mem (by simp)).is
theorem zD(a k:Int)(h:ae w χ L Y C K):Calls prog 172 #[(L.ob,0),.int .u64 a,k] w (zi (gu K.c' a k) w):=
 rL L.ob L.og K.c' a k w (h.obj (by simp)).is
theorem Fo(k a:Int)(h:ae w χ L Y C K):Calls prog 192 #[(L.ob,0),k,.int .u64 a] w (xf (fN K.c' k a).1 χ L Y C K {K with c':=(fN K.c' k a).2} w):=
 (rN L.ob L.og K.c' k a w (h.obj (by simp)).is).mono fun _ _ ⟨b,c,d⟩=>⟨b,_,_,h.Dh c d⟩
theorem Fp(a:Int)(h:ae w χ L Y C K):Calls prog 193 #[(L.ob,0),.int .u64 a] w (nL (iM K.c' a).1 χ L Y C K {K with c':=(iM K.c' a).2} w):=
 (rM L.ob L.og K.c' a w (h.obj (by simp)).is).mono fun _ _ ⟨b,c,d⟩=>⟨b,_,_,h.Dh c d⟩
structure aO.Ok(S:aO):Prop where
 wf:S.heap.WF
 len:S.heap.l.length<=900000
theorem Fq(h:ae w χ L Y C K):Calls prog 63 #[(L.cb,0)] w (eg (.int .u64 K.clock.now) w):=
 qi L.cb L.ch L.cm L.cq Y.hv K.clock w (h.b0 (by simp)).is
theorem xj(id:Int)(h:ae w χ L Y C K):Calls prog 78 #[(L.cb,0),.int .u64 id] w (dc (.tuple #[.int .u64 (dm K.clock id).1,.bool (dm K.clock id).2]) w):=
 kE L.cb L.ch L.cm L.cq Y.hv K.clock id w (h.b0 (by simp)).is
theorem kU(id:Int)(a:K.clock.Ok)(h:ae w χ L Y C K):Calls prog 200 #[(L.cb,0),.int .u64 id] w (dj (.bool (K.clock.bp id).1) χ L Y C K {K with clock:=(K.clock.bp id).2} w):=
 (mN L.cb L.ch L.cm L.cq Y.hv K.clock id a.len a.wf w (h.b0 (by simp)).is).mono fun _ _ ⟨b,⟨v,c,d⟩,e⟩=>⟨b,_,_,h.zy c d e⟩
theorem Gz(id dl:Int)(e:K.clock.Ok)(h:ae w χ L Y C K):Calls prog 187 #[(L.cb,0),.int .u64 id,.int .u64 dl] w (nL (K.clock.arm id dl).1 χ L Y C K {K with clock:=(K.clock.arm id dl).2} w):=
 (qk L.cb L.ch L.cm L.cq Y.hv K.clock id dl e.len w (h.b0 (by simp)).is).mono fun _ _ ⟨a,⟨v,b,c⟩,d⟩=>⟨a,_,_,h.zy b c d⟩
theorem zE{w:World}{B:Nat}{e:TypeId}{z:Nat}{v:Value}{n:Nat}{c:List Value}(h:w.ownsRow B e z v n c):∀g,v.ownBlock=some g->B<=g:=fun g a=>by
 rcases h.2 with⟨rfl,_⟩|⟨b,cap,cur,rfl,d,_⟩
 ·cases a
 ·have:b=g:=by simpa[Value.ownBlock]using a
  omega
def GA(x:Option Nat)(χ:Nat->aX)(L:cz)(Y:Var)(C:KC)(K K':KS)(w:World)(e:Ending)(w':World):Prop:=
 (match x with
  |some a=>e=.returned (.tuple #[.int .i64 a,.nilIface])
  |none=>∃u,e=.returned (.tuple #[.int .i64 0,u])/\ar u)/\∃aY Y',dJ χ L Y C K K' w aY Y' w'
theorem r2(n:Nat)(f:n<=1000000)(g:K.blocks.Ok)(h:ae w χ L Y C K):Calls prog 98 #[(L.ab,0),.int .i64 n,.int .i64 64] w (GA (dd K.blocks K.mem n).1 χ L Y C K {K with blocks:=(dd K.blocks K.mem n).2.1,mem:=(dd K.blocks K.mem n).2.2} w):=
 (kG L.ab L.m L.c L.d Y.av K.blocks K.mem g n f w (h.al (by simp)).is (h.mem (by simp)).is).mono fun _ _ ⟨a,⟨v,b,c⟩,d,e⟩=>⟨a,_,_,h.B0 b c d e⟩
theorem zF(a:Int)(g:K.blocks.Ok)(h:ae w χ L Y C K):Calls prog 100 #[(L.ab,0),a] w (nL (mO K.blocks K.mem a).1 χ L Y C K (jc K a) w):=
 (kH L.ab L.m L.c L.d Y.av K.blocks K.mem g a w (h.al (by simp)).is (h.mem (by simp)).is).mono fun _ _ ⟨b,⟨v,c,d⟩,e,f⟩=>⟨b,_,_,h.B0 c d e f⟩
theorem ae.B5{v:Value}{a:List (List fO)}{e:Ending}(h:ae w χ L Y C K)(i:zn v L.qb L.ql L.qm Y.ls a w e w'):dj v χ L Y C K {K with q:=a} w e w':=by
 obtain⟨b,j,c,rfl,d,f,_⟩:=i;obtain⟨aY,g⟩:=h.Hi c d f;exact⟨b,aY,_,g⟩
theorem nO(id:Int)(h:ae w χ L Y C K):Calls prog 107 #[(L.qb,0),.int .u64 id] w (dj (.bool (dv K.q id).1) χ L Y C K {K with q:=(dv K.q id).2} w):=by
 have a:=h.q (by simp);have:=pt L.qb L.ql L.qm Y.ls id w a.is;rw[a.bZ]at this;exact this.mono fun _ _ b=>h.B5 b
theorem D4(a m:Int)(h:ae w χ L Y C K):Calls prog 199 #[(L.qb,0),.int .u64 a,.int .u64 m] w (dj (.tuple #[.int .u64 (eJ K.q a m).1,.bool (eJ K.q a m).2.1]) χ L Y C K {K with q:=(eJ K.q a m).2.2} w):=by
 have b:=h.q (by simp);have:=xc L.qb L.ql L.qm Y.ls a m w b.is;rw[b.bZ]at this;exact this.mono fun _ _ c=>h.B5 c
theorem D5(a m:Int)(h:ae w χ L Y C K):Calls prog 201 #[(L.qb,0),.int .u64 a,.int .u64 m] w (dj (.tuple #[.int .u64 (hV K.q a m).1,.bool (hV K.q a m).2.1]) χ L Y C K {K with q:=(hV K.q a m).2.2} w):=by
 have b:=h.q (by simp);have:=xd L.qb L.ql L.qm Y.ls a m w b.is;rw[b.bZ]at this;exact this.mono fun _ _ c=>h.B5 c
theorem Fs(a m:Int)(h:ae w χ L Y C K):Calls prog 202 #[(L.qb,0),.int .u64 a,.int .u64 m] w (zp (wY K.q a m) w):=by
 have b:=h.q (by simp);have:=zq L.qb L.ql L.qm Y.ls a m w b.is
 rwa [b.bZ]at this
theorem qG(id:Int)(h:ae w χ L Y C K):Calls prog 77 #[(L.qb,0),.int .u64 id] w (kQ (gV K.q id) w):=by
 have a:=h.q (by simp);have:=ua L.qb L.ql L.qm Y.ls id w a.is
 rwa [a.bZ]at this
end
end
section
theorem ki{l:List ay}{wv:Nat->Value}{i:Nat}{x:ay}(h:l[i]?=some x):(di l wv)[i]?=some (x,wv i):=by
 unfold di;rw[List.getElem?_map,List.getElem?_zipIdx,h];simp
theorem nP(l:List ay)(wv:Nat->Value):(di l wv).length=l.length:=by simp[di]
theorem ue{l:List ay}{wv:Nat->Value}{i:Nat}{c:ay}{v:Value}(b:i<l.length):(di l wv).set i (c,v)=di (l.set i c) (fun j=>if j=i then v else wv j):=by
 apply List.ext_getElem?;intro j;unfold di;rw[List.getElem?_map,List.getElem?_zipIdx];by_cases a:i=j
 ·subst a
  rw[List.getElem?_set_self (by simpa using b),List.getElem?_set_self b];simp
 ·rw[List.getElem?_set_ne a,List.getElem?_set_ne a,List.getElem?_map,List.getElem?_zipIdx]
  cases l[j]? with
  |none=>rfl
  |some y=>simp[Ne.symm a]
def fC(x:ay×Value):List Value:=x.1.cells x.2
theorem r3{α:Type}{enc:α->List Value}{l:List α}{i:Nat}{x:α}(h:l[i]?=some x):l.flatMap enc=(l.take i).flatMap enc++(enc x++(l.drop (i+1)).flatMap enc):=by
 obtain⟨a,rfl⟩:=List.getElem?_eq_some_iff.1 h
 calc l.flatMap enc=(l.take i++l.drop i).flatMap enc:=by rw[List.take_append_drop]
  _=_:=by rw[List.drop_eq_getElem_cons a,List.flatMap_append,List.flatMap_cons]
section
variable{w w':World}{χ:Nat->aX}{L:cz}{Y:Var}{C:KC}{K:KS}
theorem KS.B6{i:Nat}{x:ay}(h:K.wk[i]?=some x):K.W i=x:=by
 unfold KS.W;rw[List.getD_eq_getElem?_getD,h];rfl
theorem KS.gY{i:Nat}(h:i<K.wk.length):K.wk[i]?=some (K.W i):=by
 unfold KS.W;rw[List.getD_eq_getElem?_getD,List.getElem?_eq_getElem h];rfl
theorem KS.dk{id:Int}{t:Thread}(h:aw K.ai id=some t):K.T id=t:=by unfold KS.T;rw[h];rfl
theorem ae.vL(h:ae w χ L Y C K){i:Nat}(a:i<K.wk.length)(j:Nat){v:Value}(b:j<38)(c:((K.W i).cells (Y.wv i))[j]?=some v):w.cell? (L.wb,i*38+j)=some v:=
 (h.wk (by simp)).is.at (enc:=fun x:ay×Value=>x.1.cells x.2) ay.len (ki (KS.gY a)) b c
theorem ae.mx(h:ae w χ L Y C K){i:Nat}(a:i<K.wk.length):w.cell? (L.wb,i*38)=some (.int .u64 (K.W i).slot):=h.vL a 0 (by omega) rfl
theorem ae.fD(h:ae w χ L Y C K){i:Nat}(a:i<K.wk.length):w.cell? (L.wb,i*38+1)=some (.int .u64 (K.W i).hand):=h.vL a 1 (by omega) rfl
theorem ae.vM(h:ae w χ L Y C K){i:Nat}(a:i<K.wk.length):w.cell? (L.wb,i*38+2)=some (.bool (K.W i).parked):=h.vL a 2 (by omega) rfl
theorem ae.Dl(h:ae w χ L Y C K){i:Nat}(a:i<K.wk.length):w.cell? (L.wb,i*38+3)=some (.int .i64 (K.W i).left):=h.vL a 3 (by omega) rfl
theorem ae.uf(h:ae w χ L Y C K)(j:Nat):w.frozen? (L.wb,j)=false:=(h.wk (by simp)).is.free j
theorem ae.ug(h:ae w χ L Y C K){i:Nat}(a:i<K.wk.length):∃pre post,aJ w L.wb (i*38+4) 148 pre post (Y.wv i) (K.W i).f/\
 pre=((di K.wk Y.wv).take i).flatMap fC++[.int .u64 (K.W i).slot,.int .u64 (K.W i).hand,.bool (K.W i).parked,.int .i64 (K.W i).left]/\post=((di K.wk Y.wv).drop (i+1)).flatMap fC:=by
 have b:=h.wk (by simp);refine⟨_,_,⟨?_,?_,b.back i _ (KS.gY a)⟩,rfl,rfl⟩
 ·have:=b.is
  rw[show((di K.wk Y.wv).flatMap fun x=>x.1.cells x.2)=(di K.wk Y.wv).flatMap fC from rfl,r3 (enc:=fC) (ki (wv:=Y.wv) (KS.gY a))]at this;rw[List.append_assoc];unfold fC ay.cells at this⊢;simpa[List.append_assoc]using this
 ·rw[List.length_append,a4 (enc:=fC) ay.len,List.length_take,nP]
  show min i K.wk.length*38+4=_
  rw[Nat.min_eq_left (by omega)]
theorem ae.Dm(h:ae w χ L Y C K){i:Nat}(f:i<K.wk.length){x:ay}{v:Value}{D:Nat->Prop}(o:Row w' L.wb 148 (((di K.wk Y.wv).set i (x,v)).flatMap fC))(hb:ct w' v x.f.back)(r:aT w (Y.wv i) v)
 (c:Ch D w w') (n:∀k,D k->k=L.wb):∃aY Y',dJ χ L Y C K (K.be i x) w aY Y' w'/\Y'.wv i=v:=by
 have d:=h.wk (by simp);have s:eQ [.wk] χ (cO χ v.ownBlock .back) D w w':=eQ.cO c (fun k _ q=>by rw[n k q];simp[d.k]) h.small r (fun g a=>d.kb i _ (KS.gY f) g a) (fun g a=>cH hb a);refine⟨_,{Y with wv:=fun j=>if j=i then v else Y.wv j},⟨(h.step s (by simp)).Hf (l:=K.wk.set i x) (by simp) ⟨?_,(s.same _ d.is.lt).trans d.k,?_,?_,by rw[List.length_set];exact d.n⟩,Nx.of s (by simp),Yk.refl _ _⟩,by simp⟩
 ·rw[ue f]at o;exact o
 ·intro j y b
  show ct w' (if j=i then v else Y.wv j) y.f.back
  by_cases e:i=j
  ·subst e
   rw[List.getElem?_set_self f]at b;injection b with b
   subst b;rw[if_pos rfl];exact hb
  ·rw[List.getElem?_set_ne e]at b
   rw[if_neg (fun h=>e h.symm)];exact(d.back j y b).ch c (fun g a p=>by
    have m:=d.kb j y b g a;rw[n g p,d.k]at m;cases m)
 ·intro j y b g a
  change(if j=i then v else Y.wv j).ownBlock=some g at a;by_cases e:j=i
  ·rw[if_pos e]at a;exact hY g a
  ·rw[if_neg e]at a
   rw[List.getElem?_set_ne (fun h=>e h.symm)]at b;exact(s.same _ (cH (d.back j y b) a)).trans (d.kb j y b g a)
theorem ae.vN(h:ae w χ L Y C K){i:Nat}(a:i<K.wk.length){x:ay}(j:Nat)(m:j<38){v:Value}(f:x.f=(K.W i).f)(q:((K.W i).cells (Y.wv i)).set j v=x.cells (Y.wv i)):
 ∃aY Y',dJ χ L Y C K (K.be i x) w aY Y' (w.setCell (L.wb,i*38+j) v):=by
 have b:=h.wk (by simp);have p:Row (w.setCell (L.wb,i*38+j) v) L.wb 148 (((di K.wk Y.wv).set i (x,Y.wv i)).flatMap fC):=b.is.put (enc:=fun x:ay×Value=>x.1.cells x.2) ay.len (ki (KS.gY a)) m q;have d:Ch (aL L.wb) w (w.setCell (L.wb,i*38+j) v):=(Ch.refl _ _).only _ _;obtain⟨aY,Y',o,_⟩:=h.Dm a p (by
  rw[f];exact(b.back i _ (KS.gY a)).ch d (fun g l e=>by
   have c:=b.kb i _ (KS.gY a) g l;rw[show g=L.wb from e,b.k]at c;cases c)) (aT.refl _ _) d (fun k n=>n)
 exact⟨aY,Y',o⟩
theorem ae.vO(h:ae w χ L Y C K){i:Nat}(a:i<K.wk.length)(v:Int):∃aY Y',dJ χ L Y C K (K.be i {K.W i with slot:=v}) w aY Y' (w.setCell (L.wb,i*38) (.int .u64 v)):=h.vN a 0 (by omega) rfl rfl
theorem ae.jM(h:ae w χ L Y C K){i:Nat}(a:i<K.wk.length)(v:Int):∃aY Y',dJ χ L Y C K (K.be i {K.W i with hand:=v}) w aY Y' (w.setCell (L.wb,i*38+1) (.int .u64 v)):=h.vN a 1 (by omega) rfl rfl
theorem ae.pz(h:ae w χ L Y C K){i:Nat}(a:i<K.wk.length)(v:Bool):∃aY Y',dJ χ L Y C K (K.be i {K.W i with parked:=v}) w aY Y' (w.setCell (L.wb,i*38+2) (.bool v)):=h.vN a 2 (by omega) rfl rfl
theorem ae.vP(h:ae w χ L Y C K){i:Nat}(a:i<K.wk.length)(v:Int):∃aY Y',dJ χ L Y C K (K.be i {K.W i with left:=v}) w aY Y' (w.setCell (L.wb,i*38+3) (.int .i64 v)):=h.vN a 3 (by omega) rfl rfl
def ak(K:KS):bN->Prop
 |.own i=>i<K.wk.length
 |.ai id k=>∃t,aw K.ai id=some t/\k<t.l.length
def qH:bN->TypeId
 |.own _=>148
 |.ai _ _=>179
theorem kV(c:bN):qH c≠3:=by
 cases c with
 |own _=>exact(by decide:(148:TypeId)≠3)
 |ai _ _=>exact(by decide:(179:TypeId)≠3)
def aS(L:cz)(Y:Var):bN->Nat->Nat->Prop
 |.own i,b,a=>b=L.wb/\a=i*38+4
 |.ai id k,b,a=>b=Y.fb id k/\a=0
theorem aS.yk{Y':Var}{c:bN}{b a:Nat}(h:aS L Y c b a)(d:ak K c)(g:Yk K Y Y'):aS L Y' c b a:=by
 cases c with
 |own i=>exact h
 |ai id k=>
  obtain⟨t,f,e⟩:=d;exact⟨h.1.trans ((g id t f).2 k e).symm,h.2⟩
theorem ak.gr{K':KS}{c:bN}(a:ak K c)(b:Gr K K')(f:K'.wk.length=K.wk.length):ak K' c:=by
 cases c with
 |own i=>show i<_;rw[f];exact a
 |ai id k=>
  obtain⟨t,d,h⟩:=a;obtain⟨g,e,j⟩:=b id t d;exact⟨g,e,by omega⟩
theorem ae.cur(h:ae w χ L Y C K){c:bN}(a:ak K c){b g:Nat}(e:aS L Y c b g):∃pre post v,aJ w b g (qH c) pre post v (K.F c):=by
 cases c with
 |own i=>
  obtain⟨rfl,rfl⟩:=e;obtain⟨pre,post,j,_⟩:=h.ug a;exact⟨_,_,_,j⟩
 |ai id k=>
  obtain⟨rfl,rfl⟩:=e;obtain⟨t,f,d⟩:=a;have:=h.fr id t k _ f (List.getElem?_eq_getElem d) (by simp);refine⟨[],(t.l[k]).post,Y.bv id k,?_⟩;rw[show K.F (.ai id k)=(t.l[k]).f from by
   show((K.T id).l.getD k default).f=_
   rw[KS.dk f,List.getD_eq_getElem?_getD,List.getElem?_eq_getElem d];rfl]
  exact this.is
theorem ae.zG(h:ae w χ L Y C K){c:bN}(p:ak K c){b E:Nat}(I:aS L Y c b E){pre post:List Value}{v e:Value}{f:cu}(o:aJ w b E (qH c) pre post v (K.F c))(q:aJ w' b E (qH c) pre post e f)(H:aT w v e)(F:Ch (aL b) w w'):
 ∃aY Y',dJ χ L Y C K (K.cJ c f) w aY Y' w':=by
 cases c with
 |own i=>
  obtain⟨rfl,rfl⟩:=I;obtain⟨J,S,G,B,Q⟩:=h.ug p;have hlen:pre.length=J.length:=by rw[o.len,G.len]
  have y:pre++((K.W i).f.cells v++post)=J++((K.W i).f.cells (Y.wv i)++S):=by
   have d:=o.row;have a:=G.row;unfold Row at d a;rw[d]at a;injection a with a
   injection a with a _ _
   exact congrArg Array.toList a
  obtain⟨rfl,N⟩:=List.append_inj y hlen;obtain⟨z,rfl⟩:=List.append_inj N (by rw[cu.cY,cu.cY]);have D:v=Y.wv i:=by
   have d:=congrArg (fun l=>l[33]?) z;have n:∀u,((K.W i).f.cells u)[33]?=some u:=fun u=>by
    unfold cu.cells;rw[List.getElem?_cons_succ,List.getElem?_append_right (by rw[bt];omega),bt];rfl
   simp only[n]at d;exact Option.some.inj d
  subst D;have U:=h.wk (by simp);obtain⟨aY,Y',P,_⟩:=h.Dm (x:={K.W i with f:=f}) (v:=e) p (by
   have:=q.row;rw[B,Q]at this;change Row w' L.wb 148 _ at this;have R:((di K.wk Y.wv).set i ({K.W i with f:=f},e)).flatMap fC=((di K.wk Y.wv).take i).flatMap fC++(fC ({K.W i with f:=f},e)++((di K.wk Y.wv).drop (i+1)).flatMap fC):=by
    have A:i<(di K.wk Y.wv).length:=(by rw[nP];exact p);rw[r3 (enc:=fC) (l:=(di K.wk Y.wv).set i ({K.W i with f:=f},e)) (i:=i) (List.getElem?_set_self A)];rw[List.take_set_of_le (Nat.le_refl _),List.drop_set_of_lt (by omega)]
   rw[R];unfold fC ay.cells at this⊢;simpa[List.append_assoc]using this) q.back H F (fun k m=>m)
  exact⟨aY,Y',P⟩
 |ai id k=>
  obtain⟨rfl,rfl⟩:=I;obtain⟨t,r,m⟩:=p;have hF:=h.fr id t k _ r (List.getElem?_eq_getElem m) (by simp);have M:K.F (.ai id k)=(t.l[k]).f:=by
   show((K.T id).l.getD k default).f=_
   rw[KS.dk r,List.getD_eq_getElem?_getD,List.getElem?_eq_getElem m];rfl
  rw[M]at o;have B:pre=[]:=List.eq_nil_of_length_eq_zero o.len;subst B;have y:(t.l[k]).f.cells v++post=(t.l[k]).f.cells (Y.bv id k)++(t.l[k]).post:=by
   have d:=o.row;have a:=hF.is.row;unfold Row at d a;rw[d]at a;injection a with a
   injection a with a _ _
   simpa using congrArg Array.toList a
  obtain⟨z,rfl⟩:=List.append_inj y (by rw[cu.cY,cu.cY]);have D:v=Y.bv id k:=by
   have d:=congrArg (fun l=>l[33]?) z;have n:∀u,((t.l[k]).f.cells u)[33]?=some u:=fun u=>by
    unfold cu.cells;rw[List.getElem?_cons_succ,List.getElem?_append_right (by rw[bt];omega),bt];rfl
   simp only[n]at d;exact Option.some.inj d
  subst D;have s:eQ [.fr id k] χ (cO χ e.ownBlock .back) (aL (Y.fb id k)) w w':=eQ.cO F (fun i _ A=>by rw[show i=Y.fb id k from A];simp[hF.kf]) h.small H hF.kb (fun g O=>cH q.back O);refine⟨_,{Y with bv:=fun i j=>if i=id/\j=k then e else Y.bv i j},⟨?_,Nx.of s (by simp),?_⟩⟩
  ·have:=(h.step s (by simp)).Hh (f:={t.l[k]with f:=f}) r m ⟨q,(s.same _ hF.is.row.lt).trans hF.kf,hY⟩
   have n:t.l.getD k default=t.l[k]:=(by rw[List.getD_eq_getElem?_getD,List.getElem?_eq_getElem m];rfl);rw[<-n,<-KS.dk r]at this;exact this
  ·intro j u T;exact⟨rfl,fun _ _=>rfl⟩
theorem bq(c:bN)(f:cu):(K.cJ c f).wk.length=K.wk.length:=by cases c<;>simp[KS.cJ,KS.be,KS.cn]
theorem bu{c:bN}(d:ak K c)(f:cu):Gr K (K.cJ c f):=by
 cases c with
 |own i=>exact Gr.of_eq rfl
 |ai id k=>
  obtain⟨t0,b,h⟩:=d;intro j u a;show∃g,aw (b8 K.ai id _) j=some g/\_
  rw[aV];by_cases e:j=id
  ·subst e
   rw[b]at a;injection a with a;subst a
   rw[if_pos rfl];exact⟨_,rfl,by simp[KS.dk b]⟩
  ·rw[if_neg e];exact⟨u,a,Nat.le_refl _⟩
theorem D6{c:bN}(a:ak K c)(f:cu):(K.cJ c f).F c=f:=by
 cases c with
 |own i=>
  show((K.be i _).W i).f=f
  rw[KS.B6 (x:={K.W i with f:=f}) (by show(K.wk.set i _)[i]?=_;rw[List.getElem?_set_self a])]
 |ai id k=>
  obtain⟨t0,d,b⟩:=a;show(((K.cn id _).T id).l.getD k default).f=f
  rw[KS.dk (K:=K.cn id _) (t:={K.T id with l:=(K.T id).l.set k {(K.T id).l.getD k default with f:=f}}) (by show aw (b8 _ _ _) _=_;rw[aV,if_pos rfl])];rw[List.getD_eq_getElem?_getD,List.getElem?_set_self (by rw[KS.dk d];exact b)];rfl
theorem ae.a9(h:ae w χ L Y C K){c:bN}(a:ak K c){b f:Nat}(e:aS L Y c b f)(k:Nat)(g:k<32)(x:Int):∃aY Y',dJ χ L Y C K (K.az c k x) w aY Y' (w.setCell (b,f+1+k) (.int .u64 x)):=by
 obtain⟨pre,post,v,d⟩:=h.cur a e;exact h.zG a e d (d.qq (kV c) k g x) (aT.refl _ _) ((Ch.refl _ _).only _ _)
theorem ae.qI(h:ae w χ L Y C K){c:bN}(a:ak K c){b f:Nat}(e:aS L Y c b f)(p:Int):∃aY Y',dJ χ L Y C K (K.cJ c {K.F c with pc:=p}) w aY Y' (w.setCell (b,f) (.int .i64 p)):=by
 obtain⟨pre,post,v,d⟩:=h.cur a e;exact h.zG a e d (d.jZ (kV c) p) (aT.refl _ _) ((Ch.refl _ _).only _ _)
theorem ae.aC(h:ae w χ L Y C K){c:bN}(d:ak K c){b a:Nat}(g:aS L Y c b a)(k:Nat)(f:k<32):w.cell? (b,a+1+k)=some (.int .u64 ((K.F c).r k)):=by
 obtain⟨pre,post,v,e⟩:=h.cur d g;exact e.mo k f
theorem ae.uh(h:ae w χ L Y C K){c:bN}(d:ak K c){b a:Nat}(f:aS L Y c b a):w.cell? (b,a)=some (.int .i64 (K.F c).pc):=by
 obtain⟨pre,post,v,e⟩:=h.cur d f;exact e.kI
theorem ae.hg(h:ae w χ L Y C K){c:bN}(a:ak K c){b f:Nat}(e:aS L Y c b f)(i:Nat):w.frozen? (b,i)=false:=by
 obtain⟨pre,post,v,d⟩:=h.cur a e;exact d.free i
end
end
section
theorem nQ{L:cz}{C:KC}{ov:Value}{nw:Nat}{en at_ wn dr:Int}(a:C.rows.length=1000)(j:Nat)(v:Value):(cZ L ov C nw en at_ wn dr).set (1007+j) v=kR C L++(C.rows.map (Value.int .i64)++(hc L ov nw en at_ wn dr).set j v):=by
 unfold cZ;rw[List.set_append_right _ _ (by show 7<=_;omega),List.set_append_right _ _ (by rw[List.length_map,a];show 1000<=1007+j-7;omega)]
 congr 3
 rw[List.length_map,a];show 1007+j-7-1000=j;omega
section
variable{w w':World}{χ:Nat->aX}{L:cz}{Y:Var}{C:KC}{K:KS}
theorem ae.vQ(h:ae w χ L Y C K){en at_ wn dr:Int}(j:Nat)(v:Value)(b:(hc L Y.ov K.wk.length K.entries K.at_ K.w K.draw).set j v=hc L Y.ov K.wk.length en at_ wn dr):
 dJ χ L Y C K {K with entries:=en,at_:=at_,w:=wn,draw:=dr} w χ Y (w.setCell (L.mb,1007+j) v):=by
 have a:=h.head (by simp);have c:Ch (aL L.mb) w (w.setCell (L.mb,1007+j) v):=(Ch.refl _ _).only _ _;have s:eQ [.gL] χ χ (aL L.mb) w (w.setCell (L.mb,1007+j) v):=eQ.one c (fun i d=>by rw[show i=L.mb from d];simp[a.k]) h.small;refine⟨(h.step s (by simp)).Fh ⟨a.row.bc _ _ ?_,a.rows,a.k⟩,Nx.of s (by simp),Yk.refl _ _⟩;rw[nQ a.rows,b];rfl
theorem ae.D7(h:ae w χ L Y C K)(v:Int):dJ χ L Y C K {K with entries:=v} w χ Y (w.setCell (L.mb,1016) (.int .i64 v)):=h.vQ 9 _ rfl
theorem ae.setAt(h:ae w χ L Y C K)(v:Int):dJ χ L Y C K {K with at_:=v} w χ Y (w.setCell (L.mb,1017) (.int .i64 v)):=h.vQ 10 _ rfl
theorem ae.Dn(h:ae w χ L Y C K)(v:Int):dJ χ L Y C K {K with w:=v} w χ Y (w.setCell (L.mb,1018) (.int .i64 v)):=h.vQ 11 _ rfl
theorem ae.B7(h:ae w χ L Y C K)(v:Int):dJ χ L Y C K {K with draw:=v} w χ Y (w.setCell (L.mb,1019) (.int .u64 v)):=h.vQ 12 _ rfl
theorem ae.Ft(h:ae w χ L Y C K){e:Ev}{w4:World}{g cap:Nat}(j:w4.ownsRow 0 62 11 (.slice (some (g,0)) (K.out.length+1) cap) (K.out.length+1) (K.out.flatMap Ev.cells++e.cells))
 (y:w.grownBy w4 Y.ov.ownBlock) (u:Y.ov.ownBlock=some g∨w.heap.size<=g):
 ∃aY Y',dJ χ L Y C K {K with out:=K.out++[e]} w aY Y' (w4.setCell (L.mb,1020) (.slice (some (g,0)) (K.out.length+1) cap)):=by
 have a:=h.head (by simp);have f:=h.out (by simp);obtain⟨v,l⟩:=mn (Value.slice (some (g,0)) (K.out.length+1) cap);rw[<-l]at j⊢;have m:=Ch.bM y;have o:=a.row.ch m (aU f.is a.row (by decide));have r:v.ownBlock=some g:=by rw[l];rfl
 have x:L.mb≠g:=fun e=>aU j o (by decide) (by rw[r,e])
 have c:Ch (fun i=>i=L.mb∨Y.ov.ownBlock=some i) w (w4.setCell (L.mb,1020) v):=(m.mono (E:=fun i=>i=L.mb∨Y.ov.ownBlock=some i) fun i b=>Or.inr b).g5 (p:=⟨L.mb,1020,none⟩) (Or.inl rfl) _;have n:(w4.setCell (L.mb,1020) v).ownsRow 0 62 11 v (K.out++[e]).length ((K.out++[e]).flatMap Ev.cells):=by
  rw[List.length_append,List.length_cons,List.length_nil,List.flatMap_append,show [e].flatMap Ev.cells=e.cells from by simp];exact aj (D:=aL L.mb) j ((Ch.refl _ _).only _ _) (fun k d t=>by
   rw[r]at d;injection d with d
   exact x ((show k=L.mb from t)▸d.symm▸rfl))
 have s:eQ [.gL,.out] χ (cO χ v.ownBlock .out) (fun i=>i=L.mb∨Y.ov.ownBlock=some i) w (w4.setCell (L.mb,1020) v):=
  eQ.cO c (fun i _ b=>by
   rcases b with rfl|b
   ·simp[a.k]
   ·simp[f.k i b]) h.small (by rw[l];exact aT.at u) f.k (fun q z=>cH n z)
 refine⟨_,{Y with ov:=v},(h.step s (by simp)).rZ ⟨?_,a.rows,(s.same _ a.row.lt).trans a.k⟩ ⟨n,hY⟩,Nx.of s (by simp),Yk.refl _ _⟩;refine o.bc _ _ ?_;have:=nQ (L:=L) (C:=C) (ov:=Y.ov) (nw:=K.wk.length) (en:=K.entries) (at_:=K.at_) (wn:=K.w) (dr:=K.draw) a.rows 13 v;rw[this];rfl
theorem ae.gv(h:ae w χ L Y C K){id:Int}{t:Thread}(a:aw K.ai id=some t):w.cell? (Y.bH id,0)=some (.int .u64 t.id):=(h.th id t a (by simp)).is.cell (i:=0) rfl
theorem ae.Dp(h:ae w χ L Y C K){id:Int}{t:Thread}(a:aw K.ai id=some t):w.cell? (Y.bH id,1)=some (Y.lv id):=(h.th id t a (by simp)).is.cell (i:=1) rfl
theorem ae.Fu(h:ae w χ L Y C K){id:Int}{t:Thread}(a:aw K.ai id=some t):w.cell? (Y.bH id,2)=some (.int .u64 t.eU):=(h.th id t a (by simp)).is.cell (i:=2) rfl
theorem ae.r4(h:ae w χ L Y C K){id:Int}{t:Thread}(a:aw K.ai id=some t)(j:Nat):w.frozen? (Y.bH id,j)=false:=(h.th id t a (by simp)).is.free j
theorem ae.hh(h:ae w χ L Y C K){id:Int}{t:Thread}(b:aw K.ai id=some t)(v:Int):dJ χ L Y C K (K.cn id {t with eU:=v}) w χ Y (w.setCell (Y.bH id,2) (.int .u64 v)):=by
 have a:=h.th id t b (by simp);have c:Ch (aL (Y.bH id)) w (w.setCell (Y.bH id,2) (.int .u64 v)):=(Ch.refl _ _).only _ _;have s:eQ [.th id] χ χ (aL (Y.bH id)) w (w.setCell (Y.bH id,2) (.int .u64 v)):=eQ.one c (fun i d=>by rw[show i=Y.bH id from d];simp[a.k]) h.small;exact⟨(h.step s (by simp)).Hg b rfl ⟨a.is.bc _ _ rfl,a.k⟩,Nx.of s (by simp),Yk.refl _ _⟩
theorem zH(l:List (Int×Thread))(g:Int->Nat)(id:Int):aw (l.map fun x=>(x.1,g x.1)) id=(aw l id).map fun _=>g id:=by
 induction l with
 |nil=>rfl
 |cons x l ih=>
  rw[List.map_cons,cX,cX];by_cases e:id=x.1
  ·simp[e]
  ·simp only[if_neg e];exact ih
theorem ae.look(h:ae w χ L Y C K)(id:Int):(Instr.lookup 126 (.map (some L.tm)) (.int .u64 id) false).run prog w=.ok (((aw K.ai id).map fun _=>bj (Y.bH id)).getD (.pointer none)) w:=by
 have:=fu (P:=prog) (w:=w) (T:=126) (K:=56) (E:=173) (z:=.pointer none) underlying126 underlying56 (by kernel_rfl) (h.tm (by simp)).is id;rw[zH,Option.map_map]at this;exact this
theorem ae.hL(h:ae w χ L Y C K){id:Int}{t:Thread}(i:aw K.ai id=some t)(f:0<t.l.length):
 ∃g cap,Y.lv id=.slice (some ⟨g,0,none⟩) t.l.length cap/\t.l.length<=cap/\∀k,k<t.l.length->w.cell? ⟨g,k,none⟩=some (.pointer (some ⟨Y.fb id k,0,none⟩)):=by
 have e:=h.tl id t i (by simp);obtain⟨g,cap,j,b,_,c,_,d,_⟩:=aF e.is f;refine⟨g,cap,b,c,fun k a=>d.cell ?_⟩;rw[List.getElem?_append_left (by simpa using a)];simp[a,bj]
theorem ae.r7(h:ae w χ L Y C K){id:Int}{t:Thread}(c:aw K.ai id=some t){k:Nat}{f:Frame}(b:t.l[k]?=some f):w.cell? (Y.fb id k,34)=some (.bool f.b7):=by
 have a:=h.fr id t k f c b (by simp);refine a.is.row.cell ?_;rw[List.nil_append,List.getElem?_append_right (by rw[cu.cY];omega),cu.cY];rfl
theorem ae.Fv(h:ae w χ L Y C K){id:Int}{t:Thread}(c:aw K.ai id=some t){k:Nat}{f:Frame}(b:t.l[k]?=some f):w.cell? (Y.fb id k,35)=some (.int .i64 f.num):=by
 have a:=h.fr id t k f c b (by simp);refine a.is.row.cell ?_;rw[List.nil_append,List.getElem?_append_right (by rw[cu.cY];omega),cu.cY];rfl
theorem xk{w:World}{B:Nat}{e:TypeId}{g n m cap:Nat}{b:List Value}(h:w.ownsRow B e 1 (.slice (some (g,0)) n cap) n b)(s:m<=n):w.ownsRow B e 1 (.slice (some (g,0)) m cap) m (b.take m):=by
 have t:=h.1;rcases h.2 with⟨a,_⟩|⟨p,o,cur,f,d,i,r,j,k,l⟩
 ·cases a
 ·injection f with a q c
  injection a with a
  injection a with a
  subst a c;refine⟨by rw[List.length_take];omega,Or.inr ⟨g,cap,cur,rfl,d,i,by omega,j,k,?_⟩⟩;rw[<-l,List.take_take]
  congr 1;omega
theorem ae.Fw(h:ae w χ L Y C K){id:Int}{t:Thread}(j:aw K.ai id=some t){g cap m:Nat}(r:Y.lv id=.slice (some (g,0)) t.l.length cap)(d:m<=t.l.length):
 ∃Y',dJ χ L Y C K (K.cn id {t with l:=t.l.take m}) w χ Y' (w.setCell (Y.bH id,1) (.slice (some (g,0)) m cap))/\Yk K Y Y':=by
 have a:=h.th id t j (by simp);have b:=h.tl id t j (by simp);obtain⟨v,n⟩:=mn (Value.slice (some (g,0)) m cap);have p:v.ownBlock=(Y.lv id).ownBlock:=by rw[n,r];rfl
 have y:w.ownsRow 0 177 1 v m ((List.range m).map fun k=>bj (Y.fb id k)):=by
  have:=b.is;rw[r]at this;have:=xk this d;rw[<-List.map_take,List.take_range,Nat.min_eq_left d,<-n]at this;exact this
 rw[<-n];have c:Ch (aL (Y.bH id)) w (w.setCell (Y.bH id,1) v):=(Ch.refl _ _).only _ _;have s:eQ [.th id] χ χ (aL (Y.bH id)) w (w.setCell (Y.bH id,1) v):=eQ.one c (fun i x=>by rw[show i=Y.bH id from x];simp[a.k]) h.small;have u:Yk K Y {Y with lv:=fun i=>if i=id then v else Y.lv i}:=fun _ _ _=>⟨rfl,fun _ _=>rfl⟩
 refine⟨{Y with lv:=fun i=>if i=id then v else Y.lv i},⟨(h.step s (by simp)).Gu j d ⟨a.is.bc _ _ rfl,a.k⟩ ⟨aj y c (fun q f e=> ?_),fun q f=>b.k q (p▸f)⟩,Nx.of s (by simp),u⟩,u⟩;have o:=b.k q (p▸f);rw[show q=Y.bH id from e,a.k]at o;cases o
theorem ae.Dq(h:ae w χ L Y C K){id:Int}{t:Thread}(J:aw K.ai id=some t){f:Frame}{bv:Value}{fb g cap:Nat}{w4:World}
 (T:aJ w fb 0 179 [] f.post bv f.f) (B:χ fb=.no) (S:bv.ownBlock=none)
 (O:w4.ownsRow 0 177 1 (.slice (some (g,0)) (t.l.length+1) cap) (t.l.length+1) (((List.range t.l.length).map fun k=>bj (Y.fb id k))++[bj fb]))
 (ab:w.grownBy w4 (Y.lv id).ownBlock) (Z:(Y.lv id).ownBlock=some g∨w.heap.size<=g):
 ∃aY Y',ae (w4.setCell (Y.bH id,1) (.slice (some (g,0)) (t.l.length+1) cap)) aY L Y' C (K.cn id {t with l:=t.l++[f]})/\
  (∀i,i<w.heap.size->i≠fb->aY i=χ i)/\Yk K Y Y'/\Ch (fun i=>χ i≠ .no) w (w4.setCell (Y.bH id,1) (.slice (some (g,0)) (t.l.length+1) cap)):=by
 have z:=h.th id t J (by simp);have I:=h.tl id t J (by simp);obtain⟨v,Q⟩:=mn (Value.slice (some (g,0)) (t.l.length+1) cap);rw[<-Q]at O⊢;have G:v.ownBlock=some g:=by rw[Q];rfl
 have R:=Ch.bM ab;have W:=z.is.ch R (aU I.is z.is (by decide));have a0:Y.bH id≠g:=fun e=>aU O W (by decide) (by rw[G,e])
 have a3:fb<w.heap.size:=T.row.lt;have c:Ch (fun i=>i=Y.bH id∨(Y.lv id).ownBlock=some i) w (w4.setCell (Y.bH id,1) v):=(R.mono (E:=fun i=>i=Y.bH id∨(Y.lv id).ownBlock=some i) fun i n=>Or.inr n).g5 (p:=⟨Y.bH id,1,none⟩) (Or.inl rfl) _;have P:(w4.setCell (Y.bH id,1) v).ownsRow 0 177 1 v (t.l.length+1) (((List.range t.l.length).map fun k=>bj (Y.fb id k))++[bj fb]):=
  aj (D:=aL (Y.bH id)) O ((Ch.refl _ _).only _ _) (fun k r X=>by
   rw[G]at r;injection r with r
   exact a0 ((show k=Y.bH id from X)▸r.symm▸rfl))
 have s:eQ [.th id,.tl id] χ (cO χ v.ownBlock (.tl id)) (fun i=>i=Y.bH id∨(Y.lv id).ownBlock=some i) w (w4.setCell (Y.bH id,1) v):=
  eQ.cO c (fun i _ n=>by
   rcases n with rfl|n
   ·simp[z.k]
   ·simp[I.k i n]) h.small (by rw[Q];exact aT.at Z) I.k (fun q m=>cH P m)
 have U:aJ (w4.setCell (Y.bH id,1) v) fb 0 179 [] f.post bv f.f:=T.ch c (by
  rintro(e|e)
  ·rw[e,z.k]at B;cases B
  ·rw[I.k fb e]at B;cases B) (fun q m=>by rw[S]at m;cases m)
 have V:g≠fb:=fun e=>aU P U.row (by decide) (by rw[G,e])
 have base:=h.step s (by simp);have a2:cO χ v.ownBlock (.tl id) fb=.no:=by unfold cO;rw[G,if_neg (by simpa using V)];exact B
 have ap:eQ [.no] (cO χ v.ownBlock (.tl id)) (fun i=>if i=fb then .fr id t.l.length else cO χ v.ownBlock (.tl id) i) ag (w4.setCell (Y.bH id,1) v) (w4.setCell (Y.bH id,1) v)->True:=fun _=>trivial
 have ad:∀i,i≠fb->(if i=fb then aX.fr id t.l.length else cO χ v.ownBlock (.tl id) i)=cO χ v.ownBlock (.tl id) i:=fun i n=>if_neg n
 have a:∀{i:Nat} {k:aX},cO χ v.ownBlock (.tl id) i=k->k≠ .no->(if i=fb then aX.fr id t.l.length else cO χ v.ownBlock (.tl id) i)=k:=fun {i k} y A=>by
  rw[if_neg (fun e=>A (by rw[<-y,e,a2]))];exact y
 have M:MB [.th id,.tl id] (w4.setCell (Y.bH id,1) v) (fun i=>if i=fb then .fr id t.l.length else cO χ v.ownBlock (.tl id) i) L Y C K:={
  head:=fun d=>⟨(base.head (by simpa using d)).row,(base.head (by simpa using d)).rows,a (base.head (by simpa using d)).k (by simp)⟩
  mem:=fun d=>⟨(base.mem (by simp)).is,a (base.mem (by simp)).k1 (by simp),a (base.mem (by simp)).k2 (by simp),a (base.mem (by simp)).k3 (by simp)⟩
  al:=fun d=>⟨(base.al (by simp)).is,a (base.al (by simp)).k1 (by simp),fun q m=>a ((base.al (by simp)).k2 q m) (by simp)⟩
  b0:=fun d=>⟨(base.b0 (by simp)).is,a (base.b0 (by simp)).k1 (by simp),a (base.b0 (by simp)).k2 (by simp),a (base.b0 (by simp)).k3 (by simp),a (base.b0 (by simp)).k4 (by simp),fun q m=>a ((base.b0 (by simp)).k5 q m) (by simp)⟩
  ring:=fun d=>⟨(base.ring (by simp)).is,a (base.ring (by simp)).k1 (by simp),a (base.ring (by simp)).k2 (by simp)⟩
  q:=fun d=>⟨(base.q (by simp)).is,(base.q (by simp)).bZ,fun i n=>a ((base.q (by simp)).k i n) (by simp)⟩
  cU:=fun d=>⟨(base.cU (by simp)).is,a (base.cU (by simp)).k1 (by simp),a (base.cU (by simp)).k2 (by simp)⟩
  obj:=fun d=>⟨(base.obj (by simp)).is,a (base.obj (by simp)).k1 (by simp),a (base.obj (by simp)).k2 (by simp)⟩
  tm:=fun d=>⟨(base.tm (by simp)).is,a (base.tm (by simp)).k (by simp),(base.tm (by simp)).nd⟩
  th:=fun j u o d=>⟨(base.th j u o d).is,a (base.th j u o d).k (by simp)⟩
  tl:=fun j u o d=>⟨(base.tl j u o d).is,fun q m=>a ((base.tl j u o d).k q m) (by simp)⟩
  fr:=fun j u k N o r d=>⟨(base.fr j u k N o r d).is,a (base.fr j u k N o r d).kf (by simp),fun q m=>a ((base.fr j u k N o r d).kb q m) (by simp)⟩
  wk:=fun d=>⟨(base.wk (by simp)).is,a (base.wk (by simp)).k (by simp),(base.wk (by simp)).back,fun i x F q m=>a ((base.wk (by simp)).kb i x F q m) (by simp),(base.wk (by simp)).n⟩
  out:=fun d=>⟨(base.out (by simp)).is,fun q m=>a ((base.out (by simp)).k q m) (by simp)⟩
  code:=fun d=>{
   mR:=(base.code (by simp)).mR
   je:=(base.code (by simp)).je
   mT:=(base.code (by simp)).mT
   b7:=fun F=>by obtain⟨q,y,A,H⟩:=(base.code (by simp)).b7 F;exact⟨q,y,A,a H (by simp)⟩
   prog:=fun F=>by obtain⟨q,y,A,H⟩:=(base.code (by simp)).prog F;exact⟨q,y,A,a H (by simp)⟩
   calls:=fun F=>by obtain⟨q,j,y,A,H⟩:=(base.code (by simp)).calls F;exact⟨q,j,y,A,a H (by simp)⟩}
  small:=fun i n=>by
   by_cases e:i=fb
   ·subst e;exact Nat.lt_of_lt_of_le a3 c.size
   ·rw[ad i e]at n;exact base.small i n}
 have a1:Y.bH id≠fb:=fun e=>by rw[<-e,z.k]at B;cases B
 have am:Yk K Y {Y with lv:=fun i=>if i=id then v else Y.lv i,fb:=fun i j=>if i=id/\j=t.l.length then fb else Y.fb i j,bv:=fun i j=>if i=id/\j=t.l.length then bv else Y.bv i j}:=fun j u o=>⟨rfl,fun k r=>by
  show(if j=id/\k=t.l.length then fb else Y.fb j k)=Y.fb j k
  rw[if_neg];rintro⟨rfl,rfl⟩;rw[J]at o;injection o with o;subst o;omega⟩
 refine⟨_,_,M.Fi (v:=v) (bv':=bv) (b:=fb) (f:=f) J ⟨?_,?_⟩ ⟨?_,?_⟩ ⟨U,by simp,fun q m=>by rw[S]at m;cases m⟩,?_,am,?_⟩
 ·exact W.bc _ _ rfl
 ·rw[if_neg a1];exact(s.same _ z.is.lt).trans z.k
 ·have:((List.range (t.l.length+1)).map fun k=>bj (if k=t.l.length then fb else Y.fb id k))=((List.range t.l.length).map fun k=>bj (Y.fb id k))++[bj fb]:=by
   rw[List.range_succ,List.map_append]
   congr 1
   ·apply List.map_congr_left
    intro k r;rw[if_neg (by have:=List.mem_range.1 r;omega)]
   ·simp
  rw[this];exact P
 ·intro q m
  rw[G]at m;injection m with m
  subst m;rw[if_neg V];unfold cO;rw[if_pos G]
 ·intro i n d
  rw[if_neg d];exact s.same i n
 ·refine c.mono fun i n=> ?_
  rcases n with rfl|n
  ·rw[z.k];simp
  ·rw[I.k i n];simp
end
theorem ae.fresh{w:World}{χ:Nat->aX}{L:cz}{Y:Var}{C:KC}{K:KS}(h:ae w χ L Y C K){i:Nat}(b:w.heap.size<=i):χ i=.no:=by
 cases a:χ i with
 |no=>rfl
 |_=>exact absurd (h.small i (by rw[a];simp)) (by omega)
theorem ae.pre{w:World}{χ:Nat->aX}{L:cz}{Y:Var}{C:KC}{K:KS}(h:ae w χ L Y C K)(n b c d f e g:Int):∃a,w.alloc (.cells #[n,b,c,d,.int .u64 f,e,g] 121)=a/\Hid (Ch ag w a)/\Hid (dJ χ L Y C K K w χ Y a)/\Hid (Row a w.heap.size 121 [n,b,c,d,.int .u64 f,e,g]/\χ w.heap.size=.no):=
 ⟨_,rfl,(Ch.refl _ _).alloc _,h.hC ((Ch.refl _ _).alloc _),Row.new w _ _,h.fresh (Nat.le_refl _)⟩
theorem ae.r8{w:World}{χ:Nat->aX}{L:cz}{Y:Var}{C:KC}{K:KS}(h:ae w χ L Y C K)(n b c d f e g:Int):∃a,w.alloc (.cells #[n,b,c,d,.int .u64 f,e,g] 121)=a/\Hid (Ch ag w a)/\Hid (dJ χ L Y C K K w χ Y a)/\Hid (Row a w.heap.size 121 [n,b,c,d,.int .u64 f,e,g]):=
 ⟨_,rfl,(Ch.refl _ _).alloc _,h.hC ((Ch.refl _ _).alloc _),Row.new w _ _⟩
end
section
section
variable{w:World}{χ:Nat->aX}{L:cz}{Y:Var}{C:KC}{K:KS}
theorem fg(n:Int)(t:TypeId)(x:Value)(w:World):Calls prog 49 #[n,.iface t x] w (fun e w'=>e=.returned (.iface 197 (.pointer (some (w.heap.size,0))))/\w.alloc (.cells #[.string ⟨#[107,101,114,110]⟩,n,.iface t x] 199)=w'):=by
 go_wp2
 go_ret;exact⟨rfl,rfl⟩
theorem zI(op:Int)(w:World):Calls prog 169 #[op] w (eg (.bool (iN op)) w):=by
 have f:=Z (nk op);obtain⟨p,d⟩:=nm (e5 op);have E:Hid (iN op=p.1):=Z (by unfold iN;rw[d]);rw[d]at f;clear d;obtain⟨a,b,c,g⟩:=p;go_in
 go_wp2_with (go_at_call 175;refine(f _).mono ?_;rintro e w' ⟨rfl,rfl⟩)
 go_ret;rw[E];exact eg.mk rfl
theorem pA(i:Int)(a:0<=i)(b:i<=100)(p:Value)(w:World):Calls prog 80 #[p,i] w (eg (.int .u64 (g' i)) w):=by
 have E:Hid (g' i=17+3*i):=Z (by unfold g' IntKind.wrap IntKind.bits IntKind.signed;simp;omega);go_wp2
 go_ret;rw[E];exact eg.mk rfl
theorem jN(h:ae w χ L Y C K):Calls prog 32 #[(L.mb,0)] w (eg (.int .i64 (eV K)) w):=by
 have c:=h.r0;have a:K.wk.length<=64:=(h.wk (by simp)).n;have b:(K.wk.length:Int)<=64:=by omega
 obtain⟨n,a⟩:=nm K.wk.length;have E:Hid (eV K=17+8*(n:Int)):=Z (by unfold eV;rw[a]);rw[a]at c b;clear h a;go_wp2
 go_ret;rw[E];exact eg.mk rfl
theorem nR(h:ae w χ L Y C K)(hb:0<=C.wide/\C.wide<=256/\0<=C.narrow/\C.narrow<=256):Calls prog 97 #[(L.mb,0)] w (fun e w'=>e=.returned (.int .i64 C.cells)/\∃n,w'=w.drewN n):=by
 have a:=h.c5;have b:=h.c6;obtain⟨c,d,f,g⟩:=hb;have i:IntKind.i64.wrap (C.wide+C.narrow)=C.wide+C.narrow:=IntWalk.i64_in _ (by omega);clear h;go_wp2
 go_quiet (fail)
 go_wp2
 go_ret;exact⟨rfl,nq,rfl⟩
theorem qJ(h:ae w χ L Y C K):Calls prog 20 #[(L.mb,0)] w (eg (.int .i64 K.entries) w):=by
 have c:=h.Fk;clear h;go_wp2
 go_ret;exact eg.mk rfl
theorem db(id:Int)(hid:aI id)(h:ae w χ L Y C K):Calls prog 108 #[(L.mb,0),.int .u64 id] w (dc (.int .i64 (cE K id)) w):=by
 have c:=h.ea;have a:=Z (kS id hid h);obtain⟨t,b⟩:=nm (fy K.table id);rw[b]at a;have E:Hid (cE K id=t.1.state):=Z (by unfold cE;rw[b]);obtain⟨⟨t0,t1,t2,t3,t4,t5,t6⟩,tb⟩:=t;unfold iZ.val at a;dsimp only at a E;clear h b;go_in
 go_wp2_with (refine a.mono ?_;rintro e w' ⟨rfl,d⟩;have f:=Z d;clear d)
 go_ret;rw[E];exact⟨rfl,f.alloc _⟩
theorem fh(id:Int)(hid:aI id)(h:ae w χ L Y C K):Calls prog 109 #[(L.mb,0),.int .u64 id] w (dj (.tuple #[]) χ L Y C K (cv K id) w):=by
 have c:=h.ea;have H:=Z h;have k:=Z hid;clear h hid;go_in
 go_wp2_with fail
 refine(qE id 1 k H).mono ?_;rintro e w1 ⟨⟨v,rfl,_⟩,q,o,b⟩;have c:=b.at_.nN;have f:=Z b;clear b;go_wp2_with fail
 refine(zB id f.at_).mono ?_;rintro e w2 ⟨⟨v,rfl,_⟩,r,p,d⟩;have c:=d.at_.cP;have g:=Z (f.trans (Gr.of_eq rfl) d);clear d;go_wp2_with fail
 refine(Gx 0 1 ⟨by decide,by decide⟩ ⟨by decide,by decide⟩ g.at_).mono ?_;rintro e w3 ⟨a,n,l,i⟩;have j:=Z (g.trans (Gr.of_eq rfl) i);clear i;have m:∃v,e=.returned v:=by
  split at a
  ·exact⟨_,a⟩
  ·obtain⟨v,h,_⟩:=a;exact⟨_,h⟩
 obtain⟨v,rfl⟩:=m;clear a;go_wp2
 go_end0
 exact⟨rfl,n,l,j⟩
def B8(v:Value)(χ:Nat->aX)(L:cz)(Y:Var)(C:KC)(K K':KS)(w:World)(e:Ending)(w':World):Prop:=dj v χ L Y C K K' w e w'/\Ch (fun i=>χ i=.mem) w w'
theorem nS(a:Int)(m:aI a)(h:ae w χ L Y C K):Calls prog 81 #[(L.mb,0),.int .u64 a] w (B8 (.int .u64 (hA K a).1) χ L Y C K (hA K a).2 w):=by
 have c:=h.cP;have g:=Z (ud a m h);obtain⟨p,k⟩:=nm (K.mem.acc 0 a 0 0);obtain⟨r,S⟩:=p;rw[k]at g;have E:Hid (hA K a=(r.getD 0,{K with mem:=S})):=Z (by unfold hA;rw[k]);clear h k;cases r with
 |none=>
  go_in
  go_wp2_with (refine g.mono ?_;rintro e w1 ⟨⟨⟨v,rfl,n⟩,l,j,b⟩,d⟩;have f:=Z b;have i:=Z d;clear b n d)
  go_ret;rw[E];exact⟨⟨rfl,l,j,f⟩,i⟩
 |some r=>
  go_in
  go_wp2_with (refine g.mono ?_;rintro e w1 ⟨⟨rfl,l,j,b⟩,d⟩;have f:=Z b;have i:=Z d;clear b d)
  go_ret;rw[E];exact⟨⟨rfl,l,j,f⟩,i⟩
theorem xl(a:Int)(b:aI a)(h:ae w χ L Y C K):Calls prog 81 #[(L.mb,0),.int .u64 a] w (dj (.int .u64 (hA K a).1) χ L Y C K (hA K a).2 w):=
 (nS a b h).mono fun _ _ h=>h.1
def my(K:KS)(a:Int):Int×Bool×KS:=(((K.mem.acc 0 a 0 0).1).getD 0,(K.mem.acc 0 a 0 0).1.isSome,{K with mem:=(K.mem.acc 0 a 0 0).2})
theorem xm(a:Int)(k:aI a)(h:ae w χ L Y C K):Calls prog 31 #[(L.mb,0),.int .u64 a] w (dj (.tuple #[.int .u64 (my K a).1,.bool (my K a).2.1]) χ L Y C K (my K a).2.2 w):=by
 have c:=h.cP;have f:=Z (Fm a k h);obtain⟨p,i⟩:=nm (K.mem.acc 0 a 0 0);obtain⟨r,S⟩:=p;rw[i]at f;have E:Hid (my K a=(r.getD 0,r.isSome,{K with mem:=S})):=Z (by unfold my;rw[i]);clear h i;cases r with
 |none=>
  go_in
  go_wp2_with (refine f.mono ?_;rintro e w1 ⟨⟨v,rfl,l⟩,j,g,b⟩;have d:=Z b;obtain⟨tt,m,rfl⟩:=l;clear b)
  go_quiet (fail)
  go_wp2
  go_ret2;rw[E];exact⟨rfl,j,g,d.af ((Ch.refl _ _).drewN _)⟩
 |some r=>
  go_in
  go_wp2_with (refine f.mono ?_;rintro e w1 ⟨rfl,j,g,b⟩;have d:=Z b;clear b)
  go_quiet (fail)
  go_wp2
  go_ret2;rw[E];exact⟨rfl,j,g,d.af ((Ch.refl _ _).drewN _)⟩
end
end
section
theorem D8:(prog.info? 62).map (fun i=>(i.zero,i.size,i.bytes))=some (some (.agg #[.int .i64 0,.int .i64 0,.int .i64 0,.int .u64 0,.int .i64 0,.int .u64 0,.int .u64 0,.int .u64 0,.int .u64 0,.int .u64 0,.int .u64 0]),11,88):=by kernel_rfl
section
variable{w:World}{χ:Nat->aX}{L:cz}{Y:Var}{C:KC}{K:KS}
theorem ae.D9(h:ae w χ L Y C K){w4:World}(a:w.grownBy w4 Y.ov.ownBlock)(v:Value):Ch (fun i=>χ i=.gL∨χ i=.out) w (w4.setCell (L.mb,1020) v):=
 ((Ch.bM a).mono (E:=fun i=>χ i=.gL∨χ i=.out) (fun i b=>Or.inr ((h.out (by simp)).k i b))).g5 (p:=⟨L.mb,1020,none⟩) (Or.inl (h.head (by simp)).k) v
def B9(χ:Nat->aX)(L:cz)(Y:Var)(C:KC)(K K':KS)(w:World)(e:Ending)(w':World):Prop:=dj (.tuple #[]) χ L Y C K K' w e w'/\Ch (fun i=>χ i=.gL∨χ i=.out) w w'
theorem nT(kind at_ wn t num a0 a1 a2 a3 v code:Int)(hb:K.out.length<=900000)(h:ae w χ L Y C K):
 Calls prog 106 #[(L.mb,0),.agg #[kind,at_,wn,.int .u64 t,num,.int .u64 a0,.int .u64 a1,.int .u64 a2,.int .u64 a3,.int .u64 v,.int .u64 code]] w
  (B9 χ L Y C K (tell K ⟨kind,at_,wn,t,num,a0,a1,a2,a3,v,code⟩) w):=by
 obtain⟨ax,Q,am,ap,av⟩:=info_parts D8;have U:=Z Q;have H:=Z h;obtain⟨b,m⟩:=mn L.mb;have r:=Z m;have d13:=h.G5;have d14:=h.Gd;rw[<-m]at d13 d14⊢;obtain⟨c,B⟩:=nm K.at_;obtain⟨d,F⟩:=nm K.w;rw[B]at d13;rw[F]at d14;obtain⟨N,A⟩:=mn K.out.length;have E:Hid (tell K ⟨kind,at_,wn,t,num,a0,a1,a2,a3,v,code⟩={K with out:=K.out++[⟨kind,c,d,t,num,a0,a1,a2,a3,v,code⟩]}):=Z (by unfold tell;rw[B,F]);have u:=Z A;rw[<-A]at hb;have ad:b<w.heap.size:=by rw[m];exact h.Gw
 clear h m B F A Q;go_in
 go_wp2
 obtain⟨c9,n⟩:=nm (w.alloc (.cells #[kind,at_,wn,.int .u64 t,num,.int .u64 a0,.int .u64 a1,.int .u64 a2,.int .u64 a3,.int .u64 v,.int .u64 code] 62));have s:=Z (Ch.al (D:=ag) n);have f:=Z (Row.al n);rw[n];have X:=s.k d13;have ab:=s.k d14;obtain⟨tb,I⟩:=mn w.heap.size;have M:=Z I;rw[<-I]at f⊢;have t1:=f.k 1 rfl;have t2:=f.k 2 rfl;have f1:=f.free 1;have f2:=f.free 2;have ce:b≠tb:=by omega
 have cf:tb≠b:=by omega
 clear n d13 d14 I;go_region
 go_wp2_with fail
 obtain⟨w1,o⟩:=nm (((c9.setCell (tb,1) (.int .i64 c)).setCell (tb,2) (.int .i64 d)).drew);have l:Hid (Ch ag w w1):=Z (by rw[<-o];exact((s.set (p:=⟨tb,1,none⟩) (Or.inr (by rw[M];exact Nat.le_refl _)) _).set (p:=⟨tb,2,none⟩) (Or.inr (by rw[M];exact Nat.le_refl _)) _).drew);have V:Hid (Row w1 tb 62 (Ev.cells ⟨kind,c,d,t,num,a0,a1,a2,a3,v,code⟩)):=Z (by rw[<-o];exact((f.set 1 _).set 2 _).drew);rw[o];clear o X ab t1 t2 f1 f2;have a:=Z (H.af l);have d16:=a.rZ;have y:=a.fz 1020;rw[<-r]at d16 y;have k:=(a.out.out (by simp)).is;rw[<-u]at k;obtain⟨cb,cd,J⟩:=ao k;have q:Y.ov.ownBlock≠some b:=by rw[r];exact aU (a.out.out (by simp)).is (a.head (by simp)).row (by decide)
 have S:b<w1.heap.size:=Nat.lt_of_lt_of_le ad l.size;have x:=Z J;rw[J]at d16 k q;clear J;obtain⟨bi,bv,bx,c0,c1,c2,c3,c4,c5,c6,bw⟩:=V.Bl;go_wp2
 go_region_law (first|(refine step_append_lies _ (by rfl) _ _ _ (by rfl) 0 62 ax _ 11 88 underlying54 U am ap av rfl (by omega) _ N (K.out.flatMap Ev.cells) (by rfl) ((k.alloc _).drew) ⟨w1.heap.size,0,none⟩ 1 1 [kind,c,d,.int .u64 t,num,.int .u64 a0,.int .u64 a1,.int .u64 a2,.int .u64 a3,.int .u64 v,.int .u64 code] (by rfl) (by rfl) (World.news_of_block (cs:=#[kind,c,d,.int .u64 t,num,.int .u64 a0,.int .u64 a1,.int .u64 a2,.int .u64 a3,.int .u64 v,.int .u64 code]) (t:=62) (fr:=(0,0)) (heap_alloc_new w1 _)) (by simp[Value.oneCell']) (by omega) (by unfold maxLen;omega) (by omega) (by simp) (w1.heap.size+1) (by simp) ?_;intro z cap w4 R j P al;have c7:w4.cell? (b,1020)=_:=(j.cell_far ⟨b,1020,none⟩ (by simp;omega) (Ne.symm q)).trans (by simp[go_sem,World.cell?_alloc_past,S,d16];rfl);have c8:w4.frozen? (b,1020)=false:=(j.frozen_far ⟨b,1020,none⟩ (by simp;omega) (Ne.symm q)).trans (by simp[go_sem,World.frozen?_alloc_past,S,y])))
 all_goals
  have T:Hid (∃aY Y',dJ χ L Y C K {K with out:=K.out++[⟨kind,c,d,t,num,a0,a1,a2,a3,v,code⟩]} w1 aY Y' (w4.setCell (L.mb,1020) (.slice (some (z,0)) (N+1) cap))):=Z (by
   have:=a.Ft (e:=⟨kind,c,d,t,num,a0,a1,a2,a3,v,code⟩) (w4:=w4) (g:=z) (cap:=cap) (by rw[<-u];exact R) (by rw[x];exact au (cT j)) (by
    rw[x];rcases P with O|O
    ·exact Or.inl (by rw[O])
    ·exact Or.inr (by omega))
   rw[<-u]at this;exact this)
  have W:Hid (Ch (fun i=>χ i=.gL∨χ i=.out) w1 (w4.setCell (L.mb,1020) (.slice (some (z,0)) (N+1) cap))):=Z (a.D9 (by rw[x];exact au (cT j)) _);rw[r]at*;clear R j P al c7 c8 d16 y k q bi bv bx c0 c1 c2 c3 c4 c5 c6 bw;go_wp2
  go_end0
  rw[E];obtain⟨aY,Y',G⟩:=T.out;exact⟨⟨rfl,aY,Y',G.at_,(Nx.af l).trans G.nx,G.yk⟩,l.af.trans W⟩
theorem dH(kind at_ wn t num a0 a1 a2 a3 v code:Int)(hb:K.out.length<=900000)(h:ae w χ L Y C K):
 Calls prog 106 #[(L.mb,0),.agg #[kind,at_,wn,.int .u64 t,num,.int .u64 a0,.int .u64 a1,.int .u64 a2,.int .u64 a3,.int .u64 v,.int .u64 code]] w
  (dj (.tuple #[]) χ L Y C K (tell K ⟨kind,at_,wn,t,num,a0,a1,a2,a3,v,code⟩) w):=
 (nT kind at_ wn t num a0 a1 a2 a3 v code hb h).mono fun _ _ h=>h.1
end
end
section
section
variable{w:World}{χ:Nat->aX}{L:cz}{Y:Var}{C:KC}{K:KS}
theorem dJ.cur{K1:KS}{i:Nat->aX}{a:Var}{w1:World}(m:dJ χ L Y C K K1 w i a w1){c:bN}{b e:Nat}(d:ak K c)(f:aS L Y c b e)(g:Gr K K1)(h:K1.wk.length=K.wk.length):ak K1 c/\aS L a c b e:=⟨d.gr g h,f.yk d m.yk⟩
def r9(v:Value)(χ:Nat->aX)(L:cz)(C:KC)(K':KS)(w:World)(e:Ending)(w':World):Prop:=e=.returned v/\∃aY Y',ae w' aY L Y' C K'/\Nx χ aY w w'
theorem ae.zJ(h:ae w χ L Y C K){c:bN}(a:ak K c){b e:Nat}(f:aS L Y c b e)(k1 k2:Nat)(i:k1<32)(j:k2<32)(x1 x2:Int):∃aY Y',dJ χ L Y C K ((K.az c k1 x1).az c k2 x2) w aY Y' ((w.setCell (b,e+1+k1) (.int .u64 x1)).setCell (b,e+1+k2) (.int .u64 x2)):=by
 obtain⟨p,o,d⟩:=h.a9 a f k1 i x1;obtain⟨k,l⟩:=d.cur a f (bu a _) (bq _ _);obtain⟨n,g,m⟩:=d.at_.a9 k l k2 j x2;exact⟨n,g,d.trans (bu a _) m⟩
theorem j2(id:Int)(t:Thread)(a:aw K.ai id=some t)(hid:t.id=id)(N:0<t.l.length)(a2:t.l.length<=8)(num code v:Int)(hb:K.out.length<=900000)(h:ae w χ L Y C K):
 Calls prog 170 #[(L.mb,0),(Y.bH id,0),num,.int .u64 code,.int .u64 v] w (dj (.tuple #[]) χ L Y C K (dn K id num code v) w):=by
 obtain⟨g,cap,M,a1,J⟩:=h.hL a N;have l:=h.Dp a;rw[M]at l;have d:=h.gv a;rw[hid]at d;obtain⟨m,o⟩:∃m,t.l.length=m+1:=⟨t.l.length-1,by omega⟩;have B:=J m (by omega);rw[o]at l a1;have am:(m:Int)+1-1=(m:Int):=by omega
 have al:m<8:=by omega
 have i:ak K (.ai id m):=⟨t,a,by omega⟩;obtain⟨fb,n⟩:=nm (Y.fb id m);obtain⟨tb,q⟩:=nm (Y.bH id);have b:Hid (aS L Y (.ai id m) fb 0):=Z ⟨n.symm,rfl⟩;rw[n]at B;rw[q]at l d⊢;have f:=Z i;have H:=Z h;have Q:=h.aC i b 0 (by omega);have R:=h.aC i b 1 (by omega);have D:=h.hg i b 1;have F:=h.hg i b 2;have S:=Z hb;have ab:=Z (And.intro a (And.intro hid q));have O:tb≠fb:=by
  rw[<-q,<-n];intro e;have k1:=(h.th id t a (by simp)).k;have k2:=(h.fr id t m _ a (List.getElem?_eq_getElem (by omega)) (by simp)).kf;rw[e,k2]at k1;cases k1
 have ap:fb≠tb:=fun e=>O e.symm
 have E:Hid (dn K id num code v=tell ((K.az (.ai id m) 0 code).az (.ai id m) 1 v) ⟨2,0,0,id,num,0,0,0,0,v,code⟩):=Z (by
  unfold dn;have W:K.top id=m:=by unfold KS.top;rw[KS.dk a,o];omega
  have X:(K.az (.ai id m) 0 code).top id=m:=by
   unfold KS.top;show((K.cn id _).T id).l.length-1=m
   rw[KS.dk (K:=K.cn id _) (by show aw (b8 _ _ _) _=_;rw[aV,if_pos rfl])];simp[KS.dk a,o]
  simp only[W,X])
 clear h hb a hid N a2 M J o n q i;go_wp2
 go_quiet (fail)
 obtain⟨k,z⟩:=nm (w.drewN nq);have x:Hid (Ch ag w k):=Z (by rw[<-z];exact(Ch.refl _ _).drewN nq);rw[z];have j:=Z (H.af x);have Q:=j.aC f b 0 (by omega);have R:=j.aC f b 1 (by omega);have D:=j.hg f b 1;have F:=j.hg f b 2;have d:=x.k d;have a0:=Z (j.drew.zJ f b 0 1 (by omega) (by omega) code v);clear z l B;go_wp2
 go_region
 obtain⟨w1,s⟩:=nm (((k.setCell (fb,1) (.int .u64 code)).setCell (fb,2) (.int .u64 v)).drew);have U:Hid (∃aY Y',dJ χ L Y C K ((K.az (.ai id m) 0 code).az (.ai id m) 1 v) k.drew aY Y' w1):=Z (by rw[<-s];exact a0.out);obtain⟨av,ad,P⟩:=U.out;have A:=Z P;have y:=(bu f {K.F (.ai id m)with r:=fU (K.F (.ai id m)).r 0 code});have I:=(f.gr y (bq _ _));have T:Hid (Gr K ((K.az (.ai id m) 0 code).az (.ai id m) 1 v)):=Z (y.trans (bu I _));have d:w1.cell? (tb,0)=some (.int .u64 id):=by
  rw[<-s];have c:Ch (aL fb) k ((k.setCell (fb,1) (.int .u64 code)).setCell (fb,2) (.int .u64 v)).drew:=(((Ch.refl _ _).only _ _).only _ _).drew;exact(c.cell (p:=⟨tb,0,none⟩) (aP d) O).trans d
 rw[s];clear s P Q R D F y I;go_wp2_with fail
 refine(dH 2 0 0 id num 0 0 0 0 v code (by exact S) A.at_).mono ?_;rintro e w2 ⟨rfl,a3,V,G⟩;have u:=Z (A.trans T G);clear G d;go_wp2
 go_end0
 rw[E];exact⟨rfl,a3,V,u.at_,(Nx.af x.drew).trans u.nx,u.yk⟩
theorem hD(id:Int)(t:Thread)(a:aw K.ai id=some t)(hid:t.id=id)(B:1<t.l.length)(O:t.l.length<=8)(code v:Int)(hb:K.out.length<=900000)(h:ae w χ L Y C K):
 Calls prog 145 #[(L.mb,0),(Y.bH id,0),.int .u64 code,.int .u64 v] w (r9 (.tuple #[]) χ L C (eD K id code v) w):=by
 obtain⟨g,cap,o,N,z⟩:=h.hL a (by omega);have c:=h.Dp a;rw[o]at c;obtain⟨m,d⟩:∃m,t.l.length=m+1:=⟨t.l.length-1,by omega⟩;have s:=z m (by omega);obtain⟨f,n⟩:∃f,t.l[m]?=some f:=⟨_,List.getElem?_eq_getElem (by omega)⟩;have k:=h.Fv a n;rw[d]at c N;have T:(m:Int)+1-1=(m:Int):=by omega
 have S:m<8:=by omega
 have R:m<=m+1:=by omega
 have U:m<cap:=by omega
 have x:=Z (h.Fw (m:=m) a o (by omega));obtain⟨fb,y⟩:=nm (Y.fb id m);obtain⟨tb,i⟩:=nm (Y.bH id);rw[y]at s k;rw[i]at c x⊢;have M:=h.r4 a 1;rw[i]at M;have F:=Z hb;have b:=Z (And.intro a (And.intro hid (And.intro i (And.intro d B))));obtain⟨num,p⟩:=nm f.num;rw[p]at k;have E:Hid (eD K id code v=dn (K.cn id {t with l:=t.l.take m}) id num code v):=Z (by
  unfold eD;have J:K.top id=m:=by unfold KS.top;rw[KS.dk a,d];omega
  simp only[J,KS.dk a];rw[List.getD_eq_getElem?_getD,n];simp only[Option.getD_some,p])
 clear h hb a hid B O o z d y i n p;go_in
 go_wp2_with fail
 obtain⟨H,j,_⟩:=x.out;have G:=Z j;have D:aw (K.cn id {t with l:=t.l.take m}).ai id=some {t with l:=t.l.take m}:=by show aw (b8 _ _ _) _=_;rw[aV,if_pos rfl]
 have P:H.bH id=tb:=((j.yk id t b.1).1).trans b.2.2.1;have A:(t.l.take m).length=m:=by rw[List.length_take,b.2.2.2.1];omega
 have q:=j2 id {t with l:=t.l.take m} D b.2.1 (by show 0<(t.l.take m).length;rw[A];have:=b.2.2.2.1;have:=b.2.2.2.2;omega) (by show(t.l.take m).length<=8;rw[A];omega) num code v (by exact F) j.at_;rw[P]at q;refine q.mono ?_;rintro e w2 ⟨rfl,Q,I,u⟩;have r:=Z u;clear u j D q c s k;go_wp2
 go_end0
 rw[E];exact⟨rfl,Q,I,r.at_,G.nx.trans r.nx⟩
end
end
end Go.Proofs.YtfnilkpkogipfaaGreatDoor
