import Derived.Test.YtfnilkpkogipfaaGreatDoorZAi
set_option linter.unusedVariables false
set_option linter.unusedSimpArgs false
set_option maxRecDepth 100000
set_option maxHeartbeats 8000000
namespace Go.Proofs.YtfnilkpkogipfaaGreatDoor
open Go.RowKit Go.Proofs.Tryz
theorem iQ{x:aV}{n:Nat}(h:bt x n=true):∃y:aV,y.op=x.op/\y.a=x.a/\y.b=x.b/\y.c=x.c/\ep y 1 (x.op !=22)=true:=by
 unfold bt at h;split at h
 ·rw[Bool.and_eq_true]at h
  exact⟨{x with v:=0,m:=0,wh:=0},rfl,rfl,rfl,rfl,h.2⟩
 ·exact⟨{x with m:=0,wh:=0},rfl,rfl,rfl,rfl,h⟩
theorem ju{x:aV}{n:Nat}(h:bt x n=true)(d:(eV x.op).1=true):0<=x.a/\x.a<32:=by
 obtain⟨y,b,c,_,_,a⟩:=iQ h;unfold ep jN at a;simp only[Bool.and_eq_true]at a;have:=a.1.2.1.1.1;rw[b,d]at this;unfold fi at this;rw[<-c];simpa using this
theorem vJ{x:aV}{n:Nat}(h:bt x n=true)(d:x.op=21):0<=x.c/\x.c<32:=by
 obtain⟨y,b,_,_,c,a⟩:=iQ h;unfold ep jN at a;simp only[Bool.and_eq_true]at a;have:=a.1.2.1.2;rw[b,d]at this;unfold fi at this;rw[<-c];simpa[eV,lY]using this
def bD{a:Type}(acc:a->Int->Int->Int->Int->Option Int×a)(l:List aV)(f:cE)(S:a):Int×cE×a:=
 if f.pc<0 then(3,f,S)else
 match l[f.pc.toNat]? with
 |none=>(3,f,S)
 |some x=>
  if bt x l.length=false then(3,f,S)
  else if x.op=12∨x.op=13∨x.op=14∨x.op=15∨x.op=16 then((dw x f).1,(dw x f).2,S)
  else if x.op=17∨x.op=18∨x.op=19∨x.op=20∨x.op=21 then
   match cK acc S x f.r with
   |(none,b)=>(3,f,b)
   |(some v,b)=>(0,{f with r:=fO f.r x.a.toNat v,pc:=wrap64 (f.pc+1)},b)
  else if 1<=x.op/\x.op<=11 then(0,{f with r:=fO f.r x.a.toNat (ha x (gF f.r x.b) (h' f.r x)),pc:=wrap64 (f.pc+1)},S)
  else(1,f,S)
def yj(n:Int)(post:World->Prop)(e:Ending)(w':World):Prop:=(∃u,e=.returned (.tuple #[n,u])/\(u=.nilIface∨n=3/\aq u))/\post w'
def Cw(P Q:Nat->Prop):Nat->Prop:=fun i=>P i∨Q i
theorem sY(n:Int)(t:TypeId)(x:Value)(w:World):Calls prog 70 #[n,.iface t x] w (fun e w'=>e=.returned (.iface 197 (.pointer (some (w.heap.size,0))))/\w.alloc (.cells #[.string ⟨#[118,109]⟩,n,.iface t x] 199)=w'):=by
 go_enter func70,ntmps70
 go_wp2
 go_ret;exact⟨rfl,rfl⟩
theorem q3{T:TypeId}{X:Value}{fz:Type}(c:pT T X fz)(S:fz)(i7:Hid (c.Ok S))(b j:Nat)(t:TypeId)(cf:t≠3)(pre post:List Value)(v:Value)(f:cE)(l:List aV)(hf:Option Addr)(N eA:Nat)
 (O:N=l.length) (i6:N<=eA) (hu:N<=100000) (hb:f.back.length<=8) (al:∀k,k<32->aH (f.r k)) (c3:∀x∈l,aH x.v)
 (w:World) (h:aG w b j t pre post v f) (s:0<N->∃g,hf=some ⟨g,0,none⟩/\eE w g l) (ab:c.At S w)
 (a1:∀S w w' c8 f1 i1 f2,c.uI S w->aG w b j t pre post c8 f1->aG w' b j t pre post i1 f2->aQ w c8 i1->Ch (aK b) w w'->c.uI S w') (bv:¬c.D b) (bw:∀i,w.heap.size<=i->¬c.D i) (c0:∀g,v.ownBlock=some g->¬c.D g):
 Calls prog 28 #[(b,j),.slice hf N eA,.iface T X] w
  (yj (bD c.acc l f S).1 (fun w'=>(∃dN,aG w' b j t pre post dN (bD c.acc l f S).2.1/\aQ w v dN)/\c.uI (bD c.acc l f S).2.2 w'/\Ch (Cw (aK b) c.D) w w')):=by
 obtain⟨c7,fr,fb⟩:=f;dsimp only at hb al;have H:=Z h;have bi:=Z ab;have a3:w.cell? (b,j)=some (.int .i64 c7):=h.mu;have f0:=h.free j;have i4:=Z al;by_cases hw:c7<0
 ·have E:Hid (bD c.acc l ⟨c7,fr,fb⟩ S=(3,⟨c7,fr,fb⟩,S)):=Z (by unfold bD;rw[if_pos hw])
  clear h ab al c3 s a1 bv bw c0 hb;go_enter func28,ntmps28
  go_wp2_with fail
  go_ret2;rw[E];exact⟨⟨_,rfl,Or.inl rfl⟩,⟨_,H,aQ.refl _ _⟩,c.BR _ _ bi,Ch.refl _ _⟩
 ·have C:∀gc B:Int×cE×fz,(if c7<0 then gc else B)=B:=fun gc B=>if_neg hw
  obtain⟨p,rfl⟩:=Int.eq_ofNat_of_zero_le (show 0<=c7 by omega);have c2:((p:Int)).toNat=p:=by omega
  by_cases cb:N<=p
  ·have E:Hid (bD c.acc l ⟨(p:Int),fr,fb⟩ S=(3,⟨(p:Int),fr,fb⟩,S)):=Z (by unfold bD;rw[C,c2,List.getElem?_eq_none (by omega)])
   have i8:(N:Int)<=(p:Int):=by omega
   clear h ab al c3 s a1 bv bw c0 hb C c2 cb;go_enter func28,ntmps28
   go_wp2_with fail
   go_ret2;rw[E];exact⟨⟨_,rfl,Or.inl rfl⟩,⟨_,H,aQ.refl _ _⟩,c.BR _ _ bi,Ch.refl _ _⟩
  ·have cd:p<l.length:=by omega
   obtain⟨x,z⟩:∃x,l[p]?=some x:=⟨_,List.getElem?_eq_getElem cd⟩;obtain⟨g,rfl,F⟩:=s (by omega);obtain⟨k0,k1,k2,k3,ci,ck,cl⟩:=eJ l p x z;have P:=F.cell _ _ k0;have Q:=F.cell _ _ k1;have R:=F.cell _ _ k2;have U:=F.cell _ _ k3;have V:=F.cell _ _ ci;have W:=F.cell _ _ ck;have Y:=F.cell _ _ cl;have c4:aH x.v:=c3 x (List.mem_of_getElem? z);have i8:¬(N:Int)<=(p:Int):=by omega
   have mk:(p:Int)<(N:Int):=by omega
   have md:0<=(p:Int):=by omega
   have a0:=Z (fun w=>qV x N hu w);have et:=Z O;obtain⟨mb,m⟩:=nm (bt x N);rw[m]at a0;cases mb
   ·have E:Hid (bD c.acc l ⟨(p:Int),fr,fb⟩ S=(3,⟨(p:Int),fr,fb⟩,S)):=Z (by unfold bD;rw[C,c2,z];dsimp only;rw[<-O,if_pos m])
    clear h ab al c3 s a1 bv bw c0 hb C cb z F c4 m O cd k0 k1 k2 k3 ci ck cl;unfold aI aC at a0;go_enter func28,ntmps28
    go_wp2_with fail
    with_reducible refine(a0.out _).mono ?_
    rintro e w2 ⟨rfl,o⟩;have a:=Z o;clear o;go_wp2_with fail
    go_ret2;rw[E];exact⟨⟨_,rfl,Or.inl rfl⟩,⟨_,H.ch a (fun h=>h) (fun g s h=>h),aQ.refl _ _⟩,c.BR _ _ (c.keep _ _ _ bi a),a.af⟩
   ·obtain⟨op,d,A,y,J,I,K⟩:=x
    dsimp only at c4 P Q R U V W Y;unfold aI aC at a0;dsimp only at a0;have es:=Z a1;have ih:=Z m;have ii:=Z z;have io:=Z c4;by_cases ad:op=12∨op=13∨op=14∨op=15∨op=16
    ·have hn:op=16∨op=15∨op=12∨(op=13∨op=14)/\0<=d/\d<32:=by
      rcases ad with rfl|rfl|rfl|rfl|rfl
      ·omega
      ·exact Or.inr (Or.inr (Or.inr ⟨Or.inl rfl,ju m rfl⟩))
      ·exact Or.inr (Or.inr (Or.inr ⟨Or.inr rfl,ju m rfl⟩))
      ·omega
      ·omega
     have L:=Z (fun w h=>yh b j t cf pre post v ⟨(p:Int),fr,fb⟩ ⟨op,d,A,y,J,I,K⟩ hn hb w h);unfold aI aC at L;dsimp only at L;have E:Hid (bD c.acc l ⟨(p:Int),fr,fb⟩ S=((dw ⟨op,d,A,y,J,I,K⟩ ⟨(p:Int),fr,fb⟩).1,(dw ⟨op,d,A,y,J,I,K⟩ ⟨(p:Int),fr,fb⟩).2,S)):=Z (by unfold bD;rw[C,c2,z];dsimp only;rw[<-O,m,if_neg (by decide),if_pos ad]);obtain⟨mp,hm⟩:=nm ((dw ⟨op,d,A,y,J,I,K⟩ ⟨(p:Int),fr,fb⟩));rw[hm]at E L;clear h ab al c3 s a1 bv bw c0 hb C cb z F c4 m O cd k0 k1 k2 k3 ci ck cl hn hm;rcases ad with rfl|rfl|rfl|rfl|rfl
     all_goals
      go_enter func28,ntmps28
      go_wp2_with fail
      with_reducible refine(a0.out _).mono ?_
      rintro e w2 ⟨rfl,o⟩;have a:=Z o;have cm:=a.k P;have cq:=a.k Q;have cs:=a.k R;have cA:=a.k U;have cC:=a.k V;have cL:=a.k W;have cQ:=a.k Y;have M:=a.k a3;clear o P Q R U V W Y a3;go_wp2_with fail
      have gs:Hid (∀fd,aG (w2.alloc fd) b j t pre post v ⟨(p:Int),fr,fb⟩):=Z (fun fd=>H.ch (a.alloc fd) (fun h=>h) (fun g s h=>h));with_reducible refine(L.out _ (gs.out _)).mono ?_
      rintro e w4 ⟨rfl,⟨dN,hF,eL⟩,D⟩;have gt:=Z hF;have i2:Hid (aQ w v dN):=Z ((aQ.refl w v).trans (a.alloc _).size eL);have i3:=Z eL;clear eL;have gf:=Z D;clear hF D;go_wp2_with fail
      go_ret2;rw[E];exact⟨⟨_,rfl,Or.inl rfl⟩,⟨_,gt,i2⟩,es _ _ _ _ _ _ _ (c.BR _ _ (c.keep _ _ _ bi (a.alloc _))) (gs _) gt i3 gf,((a.alloc _).af.trans gf).mono (fun i a2=>Or.inl a2)⟩
    ·by_cases c1:op=17∨op=18∨op=19∨op=20∨op=21
     ·have dr:0<=d/\d<32:=by
       refine ju m ?_;rcases c1 with rfl|rfl|rfl|rfl|rfl<;>rfl
      have hl:op=17∨op=18∨op=19∨op=20∨(op=21/\0<=y/\y<32):=by
       rcases c1 with rfl|rfl|rfl|rfl|rfl
       ·omega
       ·omega
       ·omega
       ·omega
       ·exact Or.inr (Or.inr (Or.inr (Or.inr ⟨rfl,vJ m rfl⟩)))
      have L:=Z (fun w h i9=>pU c S i7 b j (p:Int) fr ⟨op,d,A,y,J,I,K⟩ dr hl i4 c4 w h i9);unfold aI aC at L;dsimp only at L;obtain⟨q,eS⟩:=nm (cK c.acc S ⟨op,d,A,y,J,I,K⟩ fr);obtain⟨i0,i5⟩:=q;have E:Hid (bD c.acc l ⟨(p:Int),fr,fb⟩ S=match(i0,i5)with
       |(none,eC)=>(3,⟨(p:Int),fr,fb⟩,eC)
       |(some v,eC)=>(0,{(⟨(p:Int),fr,fb⟩:cE)with r:=fO fr d.toNat v,pc:=(p:Int)+1},eC)):=Z (by
       have eW:wrap64 ((p:Int)+1)=(p:Int)+1:=by unfold wrap64;omega
       unfold bD;rw[C,c2,z];dsimp only;rw[<-O,m,if_neg (by decide),if_neg ad,if_pos c1,eS,eW])
      rw[eS]at L;obtain⟨l',mc⟩:=dr;have go:=Z bw;have gk:=Z bv;have gr:=Z c0;have es:=Z a1;clear h ab al c3 s a1 bv bw c0 hb C cb z F c4 m O cd k0 k1 k2 k3 ci ck cl hl eS ad;obtain⟨n,hv⟩:=mn op;have et:=Z hv;clear hv;rcases c1 with rfl|rfl|rfl|rfl|rfl
      all_goals
       cases i0 with
       |none=>
        go_enter func28,ntmps28
        go_wp2_with fail
        with_reducible refine(a0.out _).mono ?_
        rintro e w2 ⟨rfl,o⟩;have a:=Z o;have cm:=a.k P;have cq:=a.k Q;have cs:=a.k R;have cA:=a.k U;have cC:=a.k V;have cL:=a.k W;have cQ:=a.k Y;have M:=a.k a3;have ce:=o.size;clear o P Q R U V W Y a3;go_wp2_with fail
        obtain⟨c5,G⟩:=mn (w2.alloc (.cells #[n,d,A,y,.int .u64 J,I,K] 121));rw[et]at G;have c6:=Z (Row.al G.symm);have am:Hid (Ch ag w c5):=Z (by rw[G];exact a.alloc _);have ap:Hid (aG c5 b j t pre post v ⟨(p:Int),fr,fb⟩):=Z (H.ch am (fun h=>h) (fun g s h=>h));have ex:Hid (c.At S c5):=Z (c.keep _ _ _ bi am);have cW:Hid (¬c.D w2.heap.size):=Z (go _ ce);try rw[<-G]
        obtain⟨tb,ch⟩:=mn w2.heap.size;rw[<-ch]at c6 cW⊢;clear G ch cm cq cs cA cC cL cQ M ce;obtain⟨d0,d1,d2⟩:=c6.c3;have M:=ap.mu;with_reducible refine(L.out _ ap.out.fr ex.out).mono ?_
        rintro e w4 ⟨⟨n,u,rfl,tt,mC,rfl⟩,c9,D⟩;have en:=Z c9;have ec:=Z D;have av:Hid (aG w4 b j t pre post v ⟨(p:Int),fr,fb⟩):=Z (ap.ch D gk gr);clear c9 D d0 d1 d2 M;have M:=av.mu;go_wp2_with (first|(go_at_call 70;refine(sY _ _ _ _).mono ?_;rintro e fn ⟨rfl,rfl⟩))
        go_ret2;rw[E];exact⟨⟨_,rfl,Or.inr ⟨rfl,aq.mk _ _⟩⟩,⟨_,av.ch ((Ch.refl ag _).alloc _) (fun h=>h) (fun g s h=>h),aQ.refl _ _⟩,c.yi _ _ _ en ((Ch.refl ag _).alloc _),(am.af.trans (ec.mono fun i a2=>Or.inr a2)).alloc _⟩
       |some c8=>
        go_enter func28,ntmps28
        go_wp2_with fail
        with_reducible refine(a0.out _).mono ?_
        rintro e w2 ⟨rfl,o⟩;have a:=Z o;have cm:=a.k P;have cq:=a.k Q;have cs:=a.k R;have cA:=a.k U;have cC:=a.k V;have cL:=a.k W;have cQ:=a.k Y;have M:=a.k a3;have ce:=o.size;clear o P Q R U V W Y a3;go_wp2_with fail
        obtain⟨c5,G⟩:=mn (w2.alloc (.cells #[n,d,A,y,.int .u64 J,I,K] 121));rw[et]at G;have c6:=Z (Row.al G.symm);have am:Hid (Ch ag w c5):=Z (by rw[G];exact a.alloc _);have ap:Hid (aG c5 b j t pre post v ⟨(p:Int),fr,fb⟩):=Z (H.ch am (fun h=>h) (fun g s h=>h));have ex:Hid (c.At S c5):=Z (c.keep _ _ _ bi am);have cW:Hid (¬c.D w2.heap.size):=Z (go _ ce);try rw[<-G]
        obtain⟨tb,ch⟩:=mn w2.heap.size;rw[<-ch]at c6 cW⊢;clear G ch cm cq cs cA cC cL cQ M ce;obtain⟨d0,d1,d2⟩:=c6.c3;have M:=ap.mu;with_reducible refine(L.out _ ap.out.fr ex.out).mono ?_
        rintro e w4 ⟨rfl,c9,D⟩;have en:=Z c9;have ec:=Z D;have av:Hid (aG w4 b j t pre post v ⟨(p:Int),fr,fb⟩):=Z (ap.ch D gk gr);have he:=c6.ch D cW;clear c9 D d0 d1 d2 M;have d1:=he.k 1 rfl;have lv:=av.l4 d.toNat (by omega);have lw:=av.free (j+1+d.toNat);clear he;go_wp2_with fail
        obtain⟨fn,hB⟩:=nm ((w4.drew).setCell (b,j+1+d.toNat) (.int .u64 c8));have cS:Hid (aG fn b j t pre post v ⟨(p:Int),fO fr d.toNat c8,fb⟩):=Z (by rw[<-hB];exact av.drew.pR cf d.toNat (by omega) c8);have ge:Hid (Ch (aK b) w4 fn):=Z (by rw[<-hB];exact(Ch.refl _ _).drew.only _ _);have ms:=cS.mu;have mA:=cS.free j;go_still_tail 7,(by kernel_rfl)
        go_wp2_with fail
        go_ret2;rw[E];exact⟨⟨_,rfl,Or.inl rfl⟩,⟨_,cS.jF cf _,aQ.refl _ _⟩,es _ _ _ _ _ _ _ en av (cS.jF cf _) (aQ.refl _ _) (ge.only _ _),(am.af.trans (ec.mono fun i a2=>Or.inr a2)).trans ((ge.only _ _).mono fun i a2=>Or.inl a2)⟩
     ·by_cases dC:1<=op/\op<=11
      ·have dr:0<=d/\d<32:=by
        refine ju m ?_;have:op=1∨op=2∨op=3∨op=4∨op=5∨op=6∨op=7∨op=8∨op=9∨op=10∨op=11:=by omega
        rcases this with rfl|rfl|rfl|rfl|rfl|rfl|rfl|rfl|rfl|rfl|rfl<;>rfl
       have E:bD c.acc l ⟨(p:Int),fr,fb⟩ S=(0,⟨(p:Int)+1,fO fr d.toNat (ha ⟨op,d,A,y,J,I,K⟩ (gF fr A) (h' fr ⟨op,d,A,y,J,I,K⟩)),fb⟩,S):=by
        have eW:wrap64 ((p:Int)+1)=(p:Int)+1:=by unfold wrap64;omega
        unfold bD;rw[C,c2,z];dsimp only;rw[<-O,m,if_neg (by decide),if_neg ad,if_neg c1,if_pos dC,eW]
       refine(q2 T X b j t cf pre post v p fr fb g N eA i6 hu (by omega) op d A y J I K dC dr m w H P Q R U V W Y).mono ?_;rintro e w' ⟨rfl,hF,hi⟩;rw[E];exact⟨⟨_,rfl,Or.inl rfl⟩,⟨_,hF,aQ.refl _ _⟩,a1 _ _ _ _ _ _ _ (c.BR _ _ ab) H hF (aQ.refl _ _) hi,hi.mono (fun i a2=>Or.inl a2)⟩
      ·have E:Hid (bD c.acc l ⟨(p:Int),fr,fb⟩ S=(1,⟨(p:Int),fr,fb⟩,S)):=Z (by
        unfold bD;rw[C,c2,z];dsimp only;rw[<-O,m,if_neg (by decide),if_neg ad,if_neg c1,if_neg dC])
       obtain⟨⟨ip,l1,le,li,ll,lm,lo⟩,⟨ls,lt,it,jp,k4,k5,kb⟩,kd,kf,kw,kT,l0,lb,lc⟩:(((op==1)=false/\(op==2)=false/\(op==3)=false/\(op==4)=false/\(op==5)=false/\(op==6)=false/\(op==7)=false)/\((op==8)=false/\(op==9)=false/\(op==10)=false/\(op==11)=false/\(op==12)=false/\(op==13)=false/\(op==14)=false)/\(op==15)=false/\(op==16)=false/\(op==17)=false/\(op==18)=false/\(op==19)=false/\(op==20)=false/\(op==21)=false):=by simp only[beq_eq_false_iff_ne];omega
       clear h ab al c3 s a1 bv bw c0 hb C cb z F c4 m O cd k0 k1 k2 k3 ci ck cl ad c1 dC;go_enter func28,ntmps28
       go_wp2_with fail
       with_reducible refine(a0.out _).mono ?_
       rintro e w2 ⟨rfl,o⟩;have a:=Z o;have cm:=a.k P;have cq:=a.k Q;have cs:=a.k R;have cA:=a.k U;have cC:=a.k V;have cL:=a.k W;have cQ:=a.k Y;have M:=a.k a3;clear o P Q R U V W Y a3;go_wp2_with fail
       go_ret2;rw[E];exact⟨⟨_,rfl,Or.inl rfl⟩,⟨_,H.ch (a.alloc _) (fun h=>h) (fun g s h=>h),aQ.refl _ _⟩,c.BR _ _ (c.keep _ _ _ bi (a.alloc _)),(a.alloc _).af⟩
theorem vK(args:Array Value)(w:World):(callFunc 30 args).run prog w=.ok (.enter 30 args) w:=by kernel_rfl
theorem AJ(m:Nat)(w:World):(Go.method 494 73 (.pointer (some (m,0))) "Load").run prog w=.ok (30,.pointer (some (m,0))) w:=by kernel_rfl
theorem vL(args:Array Value)(w:World):(callFunc 95 args).run prog w=.ok (.enter 95 args) w:=by kernel_rfl
theorem AK(m:Nat)(w:World):(Go.method 494 73 (.pointer (some (m,0))) "Store").run prog w=.ok (95,.pointer (some (m,0))) w:=by kernel_rfl
theorem vM(args:Array Value)(w:World):(callFunc 230 args).run prog w=.ok (.enter 230 args) w:=by kernel_rfl
theorem AL(m:Nat)(w:World):(Go.method 494 73 (.pointer (some (m,0))) "Swap").run prog w=.ok (230,.pointer (some (m,0))) w:=by kernel_rfl
theorem vN(args:Array Value)(w:World):(callFunc 140 args).run prog w=.ok (.enter 140 args) w:=by kernel_rfl
theorem AM(m:Nat)(w:World):(Go.method 494 73 (.pointer (some (m,0))) "Add").run prog w=.ok (140,.pointer (some (m,0))) w:=by kernel_rfl
theorem vO(args:Array Value)(w:World):(callFunc 189 args).run prog w=.ok (.enter 189 args) w:=by kernel_rfl
theorem AN(m:Nat)(w:World):(Go.method 494 73 (.pointer (some (m,0))) "Cas").run prog w=.ok (189,.pointer (some (m,0))) w:=by kernel_rfl
theorem AO(m:Nat)(w:World):(nilAhead 494 73 (.pointer (some (m,0))) "Cas").run prog w=.ok (some false) w:=by kernel_rfl
theorem mv.of{x:Option Int×aF}{m c b:Nat}{w:World}{e:Ending}{w':World}(h:k7 x m c b w e w'):mv x.1 (fun w'=>aO w' m c b x.2/\Ch (di m c) w w') e w':=by
 obtain⟨a,f⟩:=h;refine⟨?_,f⟩;cases d:x.1 with
 |none=>rw[d]at a;obtain⟨v,g,i⟩:=a;exact⟨_,_,g,i⟩
 |some v=>rw[d]at a;exact a
def yl(m c d:Nat):pT 73 (.pointer (some (m,0))) aF where
 At:=fun S w=>aO w m c d S
 uI:=fun S w=>aO w m c d S
 Ok:=fun _=>True
 D:=di m c
 acc:=aF.acc
 FL:=30
 FS:=95
 FW:=230
 FA:=140
 FC:=189
 mL:=AJ m
 mS:=AK m
 mW:=AL m
 mA:=AM m
 mC:=AN m
 nC:=AO m
 eL:=vK
 eS:=vL
 eW:=vM
 eA:=vN
 eC:=vO
 keep:=fun _ _ _ h k=>h.ch k (fun h=>h) (fun h=>h) (fun h=>h)
 BR:=fun _ _ h=>h
 yi:=fun _ _ _ h k=>h.ch k (fun h=>h) (fun h=>h) (fun h=>h)
 cL:=fun S a w _ b h=>(lW m c d S a b w h).mono fun _ _ h=>mv.of h
 cS:=fun S a v w _ b e h=>(eo m c d S a v b e w h).mono fun _ _ h=>⟨h.1,h.2⟩
 cW:=fun S a v w _ b e h=>(lX m c d S a v b e w h).mono fun _ _ h=>mv.of h
 cA:=fun S a v w _ b e h=>(mY m c d S a v b e w h).mono fun _ _ h=>mv.of h
 cC:=fun S a f v w _ b _ e h=>(mZ m c d S a f v b e w h).mono fun _ _ h=>mv.of h
theorem pV(b g:Nat)(l:List aD)(id:Int)(hid:aH id)(w:World)(h:aU w b g l):
 Calls prog 195 #[(b,0),.int .u64 id] w (mX (eZ l id).1 b g (eZ l id).2 w):=by
 have H:=Z h;have a:=Z (e5 b g l id hid w h);cases c:dS l id with
 |none=>
  have E:Hid (eZ l id=(false,l)):=Z (by unfold eZ;rw[c]);rw[c]at a;clear h c;go_enter func195,ntmps195
  go_wp2_with (first|(go_at_call 160;refine a.mono ?_;rintro e w' ⟨rfl,rfl⟩;simp only[b0])|(go_at_call 93;refine(a5 _ _ _).mono ?_;rintro e w' ⟨rfl,rfl⟩))
  go_ret;rw[E];exact⟨⟨_,rfl,aq.mk _ _⟩,H.alloc _,(Ch.refl _ _).alloc _⟩
 |some p=>
  obtain⟨-,r,i,-,-⟩:=eb c;obtain⟨x,y,z,A,B,C,D,F,G,I,fr,J⟩:=h.cells i;obtain⟨d,j⟩:=h.start i;have E:Hid (eZ l id=if r.t.bI !=0||r.t.loose then(false,l)else if r.t.state==4&& !r.t.aJ then(true,l.set p r.gone)else(true,l.set p {r with t:={r.t with loose:=true}})):=Z (by unfold eZ;rw[c];simp only[i]);have v:=Z i;have k:=Z d;rw[c]at a;clear h c i d;obtain⟨times,taken,K,⟨tid,state,home,value,s,loose,u⟩⟩:=r;dsimp only at*;cases f:s !=0
  ·cases loose
   ·cases d:state==4
    ·rw[f,d]at E
     go_enter func195,ntmps195
     go_wp2_with (first|(go_at_call 160;refine a.mono ?_;rintro e w' ⟨rfl,rfl⟩;simp only[b0])|(go_at_call 93;refine(a5 _ _ _).mono ?_;rintro e w' ⟨rfl,rfl⟩))
     go_ret;rw[E];exact⟨⟨_,rfl,rfl⟩,k.s8 j (by omega),(Ch.refl _ _).only _ _⟩
    ·cases u
     ·rw[f,d]at E
      go_enter func195,ntmps195
      go_wp2_with (first|(go_at_call 160;refine a.mono ?_;rintro e w' ⟨rfl,rfl⟩;simp only[b0])|(go_at_call 93;refine(a5 _ _ _).mono ?_;rintro e w' ⟨rfl,rfl⟩)|(go_at_call 209;refine(hY b g p _ _ _ (k.s8 j (by omega)) (mE j)).mono ?_;rintro e w1 ⟨rfl,n,m⟩;have q:=Z n;have o:=Z m;clear n m))
      go_ret;rw[E];exact⟨⟨_,rfl,rfl⟩,(by have:=q.out;rw[List.set_set]at this;exact this),((Ch.refl _ _).only _ _).trans o⟩
     ·rw[f,d]at E
      go_enter func195,ntmps195
      go_wp2_with (first|(go_at_call 160;refine a.mono ?_;rintro e w' ⟨rfl,rfl⟩;simp only[b0])|(go_at_call 93;refine(a5 _ _ _).mono ?_;rintro e w' ⟨rfl,rfl⟩))
      go_ret;rw[E];exact⟨⟨_,rfl,rfl⟩,k.s8 j (by omega),(Ch.refl _ _).only _ _⟩
   ·rw[f]at E
    go_enter func195,ntmps195
    go_wp2_with (first|(go_at_call 160;refine a.mono ?_;rintro e w' ⟨rfl,rfl⟩;simp only[b0])|(go_at_call 93;refine(a5 _ _ _).mono ?_;rintro e w' ⟨rfl,rfl⟩))
    go_ret;rw[E];exact⟨⟨_,rfl,aq.mk _ _⟩,H.alloc _,(Ch.refl _ _).alloc _⟩
  ·rw[f]at E
   go_enter func195,ntmps195
   go_wp2_with (first|(go_at_call 160;refine a.mono ?_;rintro e w' ⟨rfl,rfl⟩;simp only[b0])|(go_at_call 93;refine(a5 _ _ _).mono ?_;rintro e w' ⟨rfl,rfl⟩))
   go_ret;rw[E];exact⟨⟨_,rfl,aq.mk _ _⟩,H.alloc _,(Ch.refl _ _).alloc _⟩
theorem pW(b g:Nat)(l:List aD)(id:Int)(hid:aH id)(w:World)(h:aU w b g l):
 Calls prog 204 #[(b,0),.int .u64 id] w (mX (eF l id).1 b g (eF l id).2 w):=by
 have H:=Z h;have a:=Z (e5 b g l id hid w h);cases c:dS l id with
 |none=>
  have E:Hid (eF l id=(false,l)):=Z (by unfold eF;rw[c]);rw[c]at a;clear h c;go_enter func204,ntmps204
  go_wp2_with (first|(go_at_call 160;refine a.mono ?_;rintro e w' ⟨rfl,rfl⟩;simp only[b0])|(go_at_call 93;refine(a5 _ _ _).mono ?_;rintro e w' ⟨rfl,rfl⟩))
  go_ret;rw[E];exact⟨⟨_,rfl,aq.mk _ _⟩,H.alloc _,(Ch.refl _ _).alloc _⟩
 |some p=>
  obtain⟨-,r,i,-,-⟩:=eb c;obtain⟨v,x,y,z,A,B,C,D,F,G,fr,I⟩:=h.cells i;obtain⟨o,f⟩:=h.start i;have E:Hid (eF l id=if !r.t.aJ then(false,l)else if r.t.loose||r.bE then(true,l.set p r.gone)else(true,l.set p {r with t:={r.t with aJ:=false}})):=Z (by unfold eF;rw[c];simp only[i]);have u:=Z i;have m:=Z o;rw[c]at a;clear h c i o;obtain⟨times,taken,q,⟨tid,state,home,value,J,loose,s⟩⟩:=r;dsimp only at*;cases s
  ·skip
   go_enter func204,ntmps204
   go_wp2_with (first|(go_at_call 160;refine a.mono ?_;rintro e w' ⟨rfl,rfl⟩;simp only[b0])|(go_at_call 93;refine(a5 _ _ _).mono ?_;rintro e w' ⟨rfl,rfl⟩))
   go_ret;rw[E];exact⟨⟨_,rfl,aq.mk _ _⟩,H.alloc _,(Ch.refl _ _).alloc _⟩
  ·cases loose
   ·cases q
    ·skip
     go_enter func204,ntmps204
     go_wp2_with (first|(go_at_call 160;refine a.mono ?_;rintro e w' ⟨rfl,rfl⟩;simp only[b0])|(go_at_call 93;refine(a5 _ _ _).mono ?_;rintro e w' ⟨rfl,rfl⟩))
     go_ret;rw[E];exact⟨⟨_,rfl,rfl⟩,m.s9 f (by omega),(Ch.refl _ _).only _ _⟩
    ·skip
     go_enter func204,ntmps204
     go_wp2_with (first|(go_at_call 160;refine a.mono ?_;rintro e w' ⟨rfl,rfl⟩;simp only[b0])|(go_at_call 93;refine(a5 _ _ _).mono ?_;rintro e w' ⟨rfl,rfl⟩)|(go_at_call 209;refine(hY b g p _ _ _ (m.s9 f (by omega)) (mE f)).mono ?_;rintro e w1 ⟨rfl,j,d⟩;have n:=Z j;have k:=Z d;clear j d))
     go_ret;rw[E];exact⟨⟨_,rfl,rfl⟩,(by have:=n.out;rw[List.set_set]at this;exact this),((Ch.refl _ _).only _ _).trans k⟩
   ·skip
    go_enter func204,ntmps204
    go_wp2_with (first|(go_at_call 160;refine a.mono ?_;rintro e w' ⟨rfl,rfl⟩;simp only[b0])|(go_at_call 93;refine(a5 _ _ _).mono ?_;rintro e w' ⟨rfl,rfl⟩)|(go_at_call 209;refine(hY b g p _ _ _ (m.s9 f (by omega)) (mE f)).mono ?_;rintro e w1 ⟨rfl,j,d⟩;have n:=Z j;have k:=Z d;clear j d))
    go_ret;rw[E];exact⟨⟨_,rfl,rfl⟩,(by have:=n.out;rw[List.set_set]at this;exact this),((Ch.refl _ _).only _ _).trans k⟩
def dV(l:List aD)(id:Int):Int:=
 match dS l id with
 |none=>0
 |some p=>match l[p]? with
  |none=>0
  |some r=>if r.bE then 0 else if r.t.loose then 2 else if r.t.bI !=0 then 4 else if r.t.state==4 then 3 else 1
theorem oF(b g:Nat)(l:List aD)(id:Int)(hid:aH id)(w:World)(h:aU w b g l):
 Calls prog 198 #[(b,0),.int .u64 id] w (d' (.int .i64 (dV l id)) w):=by
 have a:=Z (e5 b g l id hid w h);cases c:dS l id with
 |none=>
  have E:Hid (dV l id=0):=Z (by unfold dV;rw[c]);rw[c]at a;clear h c;go_enter func198,ntmps198
  go_wp2_with (go_at_call 160;refine a.mono ?_;rintro e w' ⟨rfl,rfl⟩;simp only[b0])
  go_ret;exact d'.mk (by rw[E];rfl)
 |some p=>
  obtain⟨-,r,j,-,-⟩:=eb c;obtain⟨n,o,q,s,t,u,v,x,y,z,fr,A⟩:=h.cells j;have E:Hid (dV l id=if r.bE then 0 else if r.t.loose then 2 else if r.t.bI !=0 then 4 else if r.t.state==4 then 3 else 1):=Z (by unfold dV;rw[c];simp only[j]);rw[c]at a;clear h c j;obtain⟨times,taken,m,⟨tid,state,home,value,f,loose,B⟩⟩:=r;dsimp only at*;have i:(f !=0)=true∨((f !=0)=false/\(state==4)=true)∨((f !=0)=false/\(state==4)=false):=by
   cases f !=0<;>cases state==4<;>simp
  cases m
  ·cases loose
   ·rcases i with d|⟨d,k⟩|⟨d,k⟩
    ·rw[d]at E
     go_enter func198,ntmps198
     go_wp2_with (go_at_call 160;refine a.mono ?_;rintro e w' ⟨rfl,rfl⟩;simp only[b0])
     go_ret;exact d'.mk (by rw[E];rfl)
    ·rw[d,k]at E
     go_enter func198,ntmps198
     go_wp2_with (go_at_call 160;refine a.mono ?_;rintro e w' ⟨rfl,rfl⟩;simp only[b0])
     go_ret;exact d'.mk (by rw[E];rfl)
    ·rw[d,k]at E
     go_enter func198,ntmps198
     go_wp2_with (go_at_call 160;refine a.mono ?_;rintro e w' ⟨rfl,rfl⟩;simp only[b0])
     go_ret;exact d'.mk (by rw[E];rfl)
   ·clear i
    go_enter func198,ntmps198
    go_wp2_with (go_at_call 160;refine a.mono ?_;rintro e w' ⟨rfl,rfl⟩;simp only[b0])
    go_ret;exact d'.mk (by rw[E];rfl)
  ·clear i
   go_enter func198,ntmps198
   go_wp2_with (go_at_call 160;refine a.mono ?_;rintro e w' ⟨rfl,rfl⟩;simp only[b0])
   go_ret;exact d'.mk (by rw[E];rfl)
def fq(l:List aD)(id:Int):lV×Bool:=
 match dS l id with
 |none=>(lV.zero,false)
 |some p=>match l[p]? with
  |none=>(lV.zero,false)
  |some r=>(r.t,true)
theorem q4(b g:Nat)(l:List aD)(id:Int)(hid:aH id)(w:World)(h:aU w b g l):
 Calls prog 138 #[(b,0),.int .u64 id] w (dt (.tuple #[(fq l id).1.val,.bool (fq l id).2]) w):=by
 have c:=Z (fun d=>e5 b g l id hid (w.alloc d) (h.alloc d));cases a:dS l id with
 |none=>
  have E:Hid (fq l id=(lV.zero,false)):=Z (by unfold fq;rw[a]);rw[a]at c;clear h a;go_enter func138,ntmps138
  go_wp2_with (go_at_call 160;refine(c _).mono ?_;rintro e w' ⟨rfl,rfl⟩;simp only[b0])
  refine bodyPost_ret (v:=.tuple #[lV.zero.val,.bool false]) (by simp[results,Tryz.results138,go_sem,lV.val,lV.zero]) rfl ?_;rw[E];exact⟨rfl,(Ch.refl _ _).alloc _⟩
 |some p=>
  obtain⟨-,r,f,-,-⟩:=eb a;have i:=Z (fun d=>(h.alloc d).cells f);have E:Hid (fq l id=(r.t,true)):=Z (by unfold fq;rw[a];simp only[f]);rw[a]at c;have B:=h.rows.lt;clear h a f;obtain⟨times,taken,C,⟨tid,state,home,value,u,loose,x⟩⟩:=r;dsimp only at*;obtain⟨y,z,A,j,k,m,n,o,q,s,fr,t⟩:=i (.cells lV.zero.cells.toArray 101);dsimp only[lV.cells,lV.zero]at j k m n o q s;clear fr t;go_enter func138,ntmps138
  go_wp2_with (go_at_call 160;refine(c _).mono ?_;rintro e w' ⟨rfl,rfl⟩;simp only[b0])
  refine bodyPost_ret (v:=.tuple #[(lV.mk tid state home value u loose x).val,.bool true]) (by simp[results,Tryz.results138,go_sem,lV.val]) rfl ?_;rw[E];exact⟨rfl,(Ch.refl _ _).alloc _⟩
def fs(l:List aD)(id:Int):Bool×Int×Int×Bool×List aD:=
 match dS l id with
 |none=>(false,0,0,false,l)
 |some p=>match l[p]? with
  |none=>(false,0,0,false,l)
  |some r=>if r.t.state !=4||r.t.loose||r.bE then(false,0,0,false,l)
   else(true,r.t.value,r.t.home,!r.t.aJ,if r.t.aJ then l.set p {r with bE:=true}else l.set p r.gone)
def AP(x:Bool×Int×Int×Bool×List aD)(b g:Nat)(w:World)(e:Ending)(w':World):Prop:=
 (∃v,e=.returned (.tuple #[.int .u64 x.2.1,.int .u64 x.2.2.1,.bool x.2.2.2.1,v])/\(if x.1 then v=.nilIface else aq v))/\aU w' b g x.2.2.2.2/\Ch (aK g) w w'
theorem q5(b g:Nat)(l:List aD)(id:Int)(hid:aH id)(w:World)(h:aU w b g l):
 Calls prog 197 #[(b,0),.int .u64 id] w (AP (fs l id) b g w):=by
 have H:=Z h;have a:=Z (e5 b g l id hid w h);cases c:dS l id with
 |none=>
  have E:Hid (fs l id=(false,0,0,false,l)):=Z (by unfold fs;rw[c]);rw[c]at a;clear h c;go_enter func197,ntmps197
  go_wp2_with (first|(go_at_call 160;refine a.mono ?_;rintro e w' ⟨rfl,rfl⟩;simp only[b0])|(go_at_call 93;refine(a5 _ _ _).mono ?_;rintro e w' ⟨rfl,rfl⟩))
  refine bodyPost_ret (dk rfl _ _ _) rfl ?_;rw[E];exact⟨⟨_,rfl,aq.mk _ _⟩,H.alloc _,(Ch.refl _ _).alloc _⟩
 |some p=>
  obtain⟨-,r,d,-,-⟩:=eb c;obtain⟨x,y,z,A,B,C,D,F,G,I,fr,J⟩:=h.cells d;obtain⟨m,j⟩:=h.start d;have E:Hid (fs l id=if r.t.state !=4||r.t.loose||r.bE then(false,0,0,false,l)else(true,r.t.value,r.t.home,!r.t.aJ,if r.t.aJ then l.set p {r with bE:=true}else l.set p r.gone)):=Z (by unfold fs;rw[c];simp only[d]);have v:=Z d;have i:=Z m;rw[c]at a;clear h c d m;obtain⟨times,taken,s,⟨tid,state,home,value,K,loose,t⟩⟩:=r;dsimp only at*;cases f:state !=4
  ·cases loose
   ·cases s
    ·rw[f]at E
     have u:=Z (i);cases t
     all_goals
      go_enter func197,ntmps197
      go_wp2_with (first|(go_at_call 160;refine a.mono ?_;rintro e w' ⟨rfl,rfl⟩;simp only[b0])|(go_at_call 93;refine(a5 _ _ _).mono ?_;rintro e w' ⟨rfl,rfl⟩))
      go_quiet (fail)
      go_wp2_with (go_at_call 209;refine(hY b g p _ _ _ ((i.drewN _).s2 j (by omega)) (mE j)).mono ?_;rintro e w1 ⟨rfl,n,k⟩;have q:=Z n;have o:=Z k;clear n k)
      refine bodyPost_ret (dk rfl _ _ _) rfl ?_;rw[E]
     ·exact⟨⟨_,rfl,rfl⟩,(by have:=q.out;rw[List.set_set]at this;exact this),(((Ch.refl _ _).drewN _).only _ _).trans o⟩
     ·exact⟨⟨_,rfl,rfl⟩,(i.drewN _).s2 j (by omega),((Ch.refl _ _).drewN _).only _ _⟩
    ·rw[f]at E
     go_enter func197,ntmps197
     go_wp2_with (first|(go_at_call 160;refine a.mono ?_;rintro e w' ⟨rfl,rfl⟩;simp only[b0])|(go_at_call 93;refine(a5 _ _ _).mono ?_;rintro e w' ⟨rfl,rfl⟩))
     refine bodyPost_ret (dk rfl _ _ _) rfl ?_;rw[E];exact⟨⟨_,rfl,aq.mk _ _⟩,H.alloc _,(Ch.refl _ _).alloc _⟩
   ·rw[f]at E
    go_enter func197,ntmps197
    go_wp2_with (first|(go_at_call 160;refine a.mono ?_;rintro e w' ⟨rfl,rfl⟩;simp only[b0])|(go_at_call 93;refine(a5 _ _ _).mono ?_;rintro e w' ⟨rfl,rfl⟩))
    refine bodyPost_ret (dk rfl _ _ _) rfl ?_;rw[E];exact⟨⟨_,rfl,aq.mk _ _⟩,H.alloc _,(Ch.refl _ _).alloc _⟩
  ·rw[f]at E
   go_enter func197,ntmps197
   go_wp2_with (first|(go_at_call 160;refine a.mono ?_;rintro e w' ⟨rfl,rfl⟩;simp only[b0])|(go_at_call 93;refine(a5 _ _ _).mono ?_;rintro e w' ⟨rfl,rfl⟩))
   refine bodyPost_ret (dk rfl _ _ _) rfl ?_;rw[E];exact⟨⟨_,rfl,aq.mk _ _⟩,H.alloc _,(Ch.refl _ _).alloc _⟩
def iB:List aD->Nat->Option Nat
 |[],_=>none
 |r::l,k=>if r.taken then iB l (k+1)else some k
def db(l:List aD)(home:Int):Option Int×List aD:=
 match iB l 0 with
 |none=>(none,l)
 |some p=>match l[p]? with
  |none=>(none,l)
  |some r=>
   let n:=IntKind.u64.wrap (r.times+1)
   let id:=IntKind.u64.wrap (p+IntKind.u64.wrap (64*n))
   (some id,l.set p {times:=n,taken:=true,bE:=r.bE,t:=⟨id,1,home,0,0,false,false⟩})
def AQ(x:Option Int×List aD)(b g:Nat)(w:World)(e:Ending)(w':World):Prop:=
 (match x.1 with
  |some id=>e=.returned (.tuple #[.int .u64 id,.nilIface])
  |none=>∃v,e=.returned (.tuple #[.int .u64 0,v])/\aq v)/\aU w' b g x.2/\Ch (aK g) w w'
theorem l5(b g:Nat)(l:List aD)(home:Int)(w:World)(h:aU w b g l):
 Calls prog 99 #[(b,0),.int .u64 home] w (AQ (db l home) b g w):=by
 have H:=Z h;have z:=h.head.c1;have hlen:=Z h.len;have L:=h.head.lt;clear h;go_enter func99,ntmps99
 go_wp2
 go_loop [13] (fun s=>∃k:Nat,s=.int .i64 k/\k<=64/\Hid (iB (l.drop k) k=iB l 0)) (fun s=>64-(intOf s).toNat)
 case atStart=>exact⟨0,rfl,Nat.zero_le _,rfl⟩
 case round=>
  obtain⟨k,rfl,M,d⟩:=hrel;by_cases v:k<64
  ·obtain⟨r,c⟩:∃r,l[k]?=some r:=⟨_,List.getElem?_eq_getElem (by rw[hlen.out];exact v)⟩
   obtain⟨y,A,B,C,D,F,G,I,J,K,fr,P⟩:=H.cells c;have j:l.drop k=r::l.drop (k+1):=by
    obtain⟨q,u⟩:=List.getElem?_eq_some_iff.1 c;rw[List.drop_eq_getElem_cons q,u]
   have i:=Z j;obtain⟨m,a⟩:=H.start c;have p:=Z m;have o:=Z c;have O:(k:Int)<64:=by omega
   clear j m c;obtain⟨times,taken,x,⟨tid,state,Q,value,R,loose,S⟩⟩:=r;dsimp only at*;cases taken
   ·have E:Hid (db l home=(some (IntKind.u64.wrap (k+IntKind.u64.wrap (64*IntKind.u64.wrap (times+1)))),l.set k {times:=IntKind.u64.wrap (times+1),taken:=true,bE:=x,t:=⟨IntKind.u64.wrap (k+IntKind.u64.wrap (64*IntKind.u64.wrap (times+1))),1,home,0,0,false,false⟩})):=Z (by
     have f:iB l 0=some k:=by rw[<-d,i];rfl
     unfold db;rw[f];simp only[o.out])
    go_wp2
    go_ret2;rw[E];refine⟨rfl,?_,?_⟩
    ·exact((((((((p.s0 a rfl).s1 a rfl).s3 a rfl).s4 a rfl).s5 a rfl).s6 a rfl).s7 a rfl).s8 a rfl).s9 a rfl
    ·exact(((((((((Ch.refl _ _).only _ _).only _ _).only _ _).only _ _).only _ _).only _ _).only _ _).only _ _).only _ _
   ·have n:Hid (iB (l.drop (k+1)) (k+1)=iB l 0):=Z (by rw[<-d,i];rfl)
    go_wp2
    go_round
    case rel=>exact⟨k+1,by go_num,by omega,n⟩
    case measure=>simp[intOf];omega
  ·have N:¬(k:Int)<64:=by omega
   have E:Hid (db l home=(none,l)):=Z (by
    have f:iB l 0=none:=by rw[<-d,List.drop_eq_nil_of_le (by rw[hlen.out];omega)];rfl
    unfold db;rw[f])
   go_wp2_with (go_at_call 93;refine(a5 _ _ _).mono ?_;rintro e w' ⟨rfl,rfl⟩)
   go_ret2;rw[E];exact⟨⟨_,rfl,aq.mk _ _⟩,H.alloc _,(Ch.refl _ _).alloc _⟩
end Go.Proofs.YtfnilkpkogipfaaGreatDoor
