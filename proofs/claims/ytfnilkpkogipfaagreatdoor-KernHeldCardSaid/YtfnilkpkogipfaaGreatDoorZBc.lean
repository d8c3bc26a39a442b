import Derived.Test.YtfnilkpkogipfaaGreatDoorZBb
set_option linter.all false
set_option maxRecDepth 100000
set_option maxHeartbeats 8000000
namespace Go.Proofs.YtfnilkpkogipfaaGreatDoor
open Go.RowKit Go.Proofs.Tryz
section
section
variable{N M:Nat}{K:KS}{C:KC}
theorem dH{id:Int}{k:Nat}{t:Thread}(b:aw K.ai id=some t)(f:cE):∃a,aw (K.cH (.ai id k) f).ai id=some a/\a.l.length=t.l.length/\a.id=t.id:=by
 refine⟨_,by show aw (b8 K.ai id _) id=_;rw[aT,if_pos rfl],?_,?_⟩
 ·show(List.set (K.T id).l k _).length=_
  rw[List.length_set,KS.df b]
 ·show(K.T id).id=_
  rw[KS.df b]
theorem w6(h:Inv N M K){i:Nat}(a:i<K.wk.length):Inv N M (gv C K i):=
 h.be a rfl rfl ⟨⟨(h.gi a).f.r,by simp⟩,(h.gi a).l0,(h.gi a).l1⟩
theorem r7(h:Inv N M K)(id:Int)(c:bK)(x:aV):Inv N (M+1) (cY K id c x):=by
 unfold cY;split
 ·exact h.more (Nat.le_refl _) (Nat.le_succ _)
 ·dsimp only
  repeat' split
  all_goals first|exact h.tell _|exact h.more (Nat.le_refl _) (Nat.le_succ _)
theorem kJ(h:Inv N M K){c:bK}(a:aj K c):Inv N M (K.ft c):=h.cH a ((h.lz a).pc _)
theorem u'(A:oC C)(h:Inv N M K)(I:N<=800000){i:Nat}(u:i<K.wk.length){idO:Option Int}{c:bK}(m:aj K c)
 (v:∀id,idO=some id->(K.W i).slot=id/\id≠0/\c=.ai id (K.top id)/\∃t,aw K.ai id=some t/\t.l.length%2=0):
 Inv (N+1) (M+1) (eu C K i idO c).2.2/\((eu C K i idO c).2.1=2∨(eu C K i idO c).2.1=3->(eu C K i idO c).2.2.wk.length=K.wk.length/\∀id t,idO=some id->aw K.ai id=some t->∃a,aw (eu C K i idO c).2.2.ai id=some a/\a.l.length=t.l.length):=by
 obtain⟨k1,k2,k3,G⟩:=lD A h m;have f:=nO C m;have w:=nP C (c:=c) i u;unfold eu;obtain⟨s,o⟩:=nm (cy C K c);have p:∀id t,idO=some id->aw K.ai id=some t->∃a,aw s.2.2.ai id=some a/\a.l.length=t.l.length:=fun id t e d=>by
  obtain⟨_,_,j,_⟩:=v id e;obtain⟨a,b,g,_⟩:=pg C (k:=K.top id) d;rw[j]at o;rw[o]at b;exact⟨a,b,g⟩
 rw[o]at k1 k2 k3 G f w⊢;dsimp only;split
 ·rename_i b
  obtain⟨E,F⟩:=k3 (Or.inr b);have B:i<s.2.2.wk.length:=by rw[f.2];exact u
  have n:aj s.2.2 c:=m.gr f.1 f.2;have q:∀id,idO=some id->(s.2.2.W i).slot=id/\id≠0/\∃t,aw s.2.2.ai id=some t/\t.l.length%2=0:=fun id e=>by
   obtain⟨x,j,H,t,d,D⟩:=v id e;obtain⟨a,b,g⟩:=p id t e d;exact⟨w.1.trans x,j,a,b,by rw[g];exact D⟩
  have l:=iZ (C:=C) k1 (by omega) B n (iI.of E F) q;split
  ·rename_i y
   have r:=j1 (C:=C) k1 (by omega) (i:=i) (idO:=idO) n s.1 (fun id e=>by obtain⟨_,_,t,d,_⟩:=q id e;exact⟨t,d⟩) y;exact⟨kJ l (n.gr r.1 r.2),(fun e=>by rcases e with e|e<;>cases e)⟩
  ·split
   ·rename_i g
    have:=i' (C:=C) s.2.2 i idO c s.1 g;refine⟨l,fun _=>⟨by rw[show _=_ from this.2];exact f.2,fun id t e d=> ?_⟩⟩;obtain⟨a,b,z⟩:=p id t e d;exact⟨a,by rw[show _=_ from this.1];exact b,z⟩
   ·exact⟨l,(fun e=>by rcases e with e|e<;>cases e)⟩
 ·exact⟨k1.more (Nat.le_succ _) (Nat.le_succ _),fun _=>⟨f.2,p⟩⟩
theorem Bm(j:oC C)(h:Inv N M K)(k:N<=800000){i:Nat}(a:i<K.wk.length):Inv (N+1) (M+2) (jT C K i):=by
 unfold jT;dsimp only;have f:Inv N M (K.be i {K.W i with parked:=false}):=h.be a rfl rfl ⟨(h.gi a).f,(h.gi a).l0,(h.gi a).l1⟩;have d:i<(K.be i {K.W i with parked:=false}).wk.length:=by rw[bA];exact a
 have b:=u' j f k d (idO:=none) (c:=.own i) d (fun id e=>by cases e);split
 ·exact r7 b.1 _ _ _
 ·split
  ·rename_i g
   exact(w6 b.1 (by rw[(b.2 g.symm).1];exact d)).more (Nat.le_refl _) (Nat.le_succ _)
  ·exact b.1.more (Nat.le_refl _) (Nat.le_succ _)
theorem r8(l:oC C)(h:Inv N M K)(m:N<=800000){i:Nat}(n:i<K.wk.length){id:Int}{t:Thread}(a:aw K.ai id=some t)(p:(K.W i).slot=id)(d:id≠0)(o:t.l.length%2=0){k:Nat}(s:k+1=t.l.length):Inv (N+1) (M+2) (cz C K i id k):=by
 unfold cz;dsimp only;have q:K.top id=k:=by unfold KS.top;rw[KS.df a];omega
 have b:=u' l h m n (idO:=some id) (c:=.ai id k) ⟨t,a,by omega⟩ (fun j e=>by injection e with e;subst e;exact⟨p,d,by rw[q],t,a,o⟩);split
 ·exact r7 b.1 _ _ _
 ·split
  ·rename_i g
   obtain⟨u,f,r⟩:=(b.2 g.symm).2 id t rfl a;exact b.1.answer f (by have:=(h.dc a).l.n0;omega) ⟨by decide,by decide⟩ bx
  ·exact b.1.more (Nat.le_refl _) (Nat.le_succ _)
theorem zn(h:Inv N M K)(k a:Int)(b:aH a):aH (da K k a):=by
 unfold da;split
 ·exact b
 ·split
  ·exact cj _
  ·cases c:ga K.cV a k with
   |none=>exact bx
   |some x=>exact h.obj.find a k x c
theorem nS(C:KC)(K:KS):∀l,aH (cr C K l)
 |[]=>bx
 |(k,a)::l=>by
  unfold cr;have b:aH (22:Int):=⟨by decide,by decide⟩
  repeat' split
  all_goals first|exact b|exact nS C K l
theorem qw(C:KC)(K:KS)(id num a0 a1 a2 a3:Int):aH (cI C K id num a0 a1 a2 a3):=by
 unfold cI;have b:aH (38:Int):=⟨by decide,by decide⟩;have a:aH (11:Int):=⟨by decide,by decide⟩
 repeat' split
 all_goals first|exact b|exact a|exact nS C K _
theorem r9(h:Inv N M K){id:Int}{t:Thread}(f:aw K.ai id=some t)(i:t.l.length%2=1){k:Nat}(n:k+1=t.l.length)(num:Int):Inv N (M+2) (gX C K id k num):=by
 have g:aj K (.ai id k):=⟨t,f,by omega⟩;have e:=(h.lz g).r;unfold gX;dsimp only;obtain⟨K1,d⟩:=nm (tell K ⟨1,0,0,id,num,(K.F (.ai id k)).r 0,(K.F (.ai id k)).r 1,(K.F (.ai id k)).r 2,(K.F (.ai id k)).r 3,0,0⟩);have a:Inv N (M+1) K1:=by rw[<-d];exact h.tell _
 have c:aw K1.ai id=some t:=by rw[<-d];exact f
 rw[d];split
 ·exact a.returned c _ (qw _ _ _ _ _ _ _ _) bx
 ·have b:=a.dc c
  have l:=b.l.n8;rw[KS.df c];refine Inv.more (N:=N) (M:=M+1) (a.b9 c ⟨b.id,b.eM,?_⟩) (Nat.le_refl _) (Nat.le_succ _);refine b.l.push _ (by omega) ⟨fun j m=> ?_,by simp⟩ (by simp[i]);dsimp only;have a0:=zn a
  repeat' split
  all_goals first|exact a0 _ _ (e _ (by omega))|exact e _ (by omega)|exact cj _|exact bx
theorem sa(h:Inv N M K)(s:N<=800000){i:Nat}(o:i<K.wk.length){id:Int}{t:Thread}(e:aw K.ai id=some t)(p:(K.W i).slot=id)(j:id≠0)(x:t.l.length%2=1){k:Nat}(u:k+1=t.l.length)(v:Int)(g:aH v):Inv N (M+2) (eN C K i id k v):=by
 have b:aj K (.ai id k):=⟨t,e,by omega⟩;have l:=h.au b 0 v g;have n:aj (K.au (.ai id k) 0 v) (.ai id k):=b.gr (bs b _) (bm _ _);have a:=kJ l n;obtain⟨t1,q,w,_⟩:=dH (K:=K) (k:=k) e {K.F (.ai id k)with r:=fO (K.F (.ai id k)).r 0 v};obtain⟨t2,f,y,_⟩:=dH (K:=K.au (.ai id k) 0 v) (k:=k) q {(K.au (.ai id k) 0 v).F (.ai id k)with pc:=wrap64 (((K.au (.ai id k) 0 v).F (.ai id k)).pc+1)};unfold eN;dsimp only;split
 ·exact r9 a f (by omega) (by omega) 2
 ·have m:=a.nM (a.core.ended f v g)
  have d:((({(K.au (.ai id k) 0 v).ft (.ai id k)with table:=(fW ((K.au (.ai id k) 0 v).ft (.ai id k)).table id v).2}:KS)).W i).slot=id:=p;have c:=Inv.ended (C:=C) m (by omega) (i:=i) o (by rw[d];exact j);rw[d]at c;exact c.more (Nat.le_refl _) (Nat.le_succ _)
theorem zo(id op:Int)(S:aF×List Ev)(kind a c v:Int)(b:bX S.1/\S.2.length<=M)(g:aH v):(bX (bG C K id op S kind a c v).2.1/\(bG C K id op S kind a c v).2.2.length<=M+1)/\∀x,(bG C K id op S kind a c v).1=some x->aH x:=by
 unfold bG;split
 ·exact⟨⟨b.1,Nat.le_succ_of_le b.2⟩,fun x e=>by cases e⟩
 ·dsimp only
  have d:=b.1.acc kind (IntKind.u64.wrap (IntKind.u64.wrap (gH K)+a)) c v g;split
  ·exact⟨⟨d.1,Nat.le_succ_of_le b.2⟩,fun x e=>by cases e⟩
  ·rename_i held f
   refine⟨⟨(d.1.acc 0 _ 0 0 bx).1,?_⟩,fun x e=>by rw[<-Option.some.inj e];exact d.2 held f⟩;rw[List.length_append];have:=b.2;simp;omega
theorem tK{x:aV}{n:Int}(h:ep x n false=true):x.op<=22/\(x.op=22->x.v<1000):=by
 unfold ep lZ jN at h;simp only[Bool.and_eq_true]at h;obtain⟨⟨⟨_,b⟩,⟨_,a⟩⟩,_⟩:=h;refine⟨?_,fun e=> ?_⟩
 ·have:x.op<=22/\x.m=0:=by simpa using b
  exact this.1
 ·unfold qU at a
  rw[if_neg (by omega),if_pos e]at a;simpa using a
theorem pk(d:oC C)(h:Inv N M K){id:Int}{t:Thread}(m:aw K.ai id=some t){k:Nat}(i:k<t.l.length)(op:Int):Inv N (M+1) (({K with mem:=(bD (bG C K id op) C.bn (K.F (.ai id k)) (K.mem,K.out)).2.2.1,out:=(bD (bG C K id op) C.bn (K.F (.ai id k)) (K.mem,K.out)).2.2.2}:KS).cH (.ai id k) (bD (bG C K id op) C.bn (K.F (.ai id k)) (K.mem,K.out)).2.1)/\
 ((bD (bG C K id op) C.bn (K.F (.ai id k)) (K.mem,K.out)).1=0∨(bD (bG C K id op) C.bn (K.F (.ai id k)) (K.mem,K.out)).1=1∨(bD (bG C K id op) C.bn (K.F (.ai id k)) (K.mem,K.out)).1=2∨(bD (bG C K id op) C.bn (K.F (.ai id k)) (K.mem,K.out)).1=3)/\
 ((bD (bG C K id op) C.bn (K.F (.ai id k)) (K.mem,K.out)).1=1->(fu C.bn (K.F (.ai id k)).pc).op=22/\0<=(fu C.bn (K.F (.ai id k)).pc).v/\(fu C.bn (K.F (.ai id k)).pc).v<1000):=by
 have u:aj K (.ai id k):=⟨t,m,i⟩;have l:=r1 (Q:=fun S:aF×List Ev=>bX S.1/\S.2.length<=M) (Q':=fun S:aF×List Ev=>bX S.1/\S.2.length<=M+1) (bG C K id op) (fun S kind a z v b y=>zo id op S kind a z v b y) (fun S b=>⟨b.1,Nat.le_succ_of_le b.2⟩) C.bn d.pv (K.F (.ai id k)) (h.lz u) (K.mem,K.out) ⟨h.mem,h.out⟩;obtain⟨s,x⟩:=nm (bD (bG C K id op) C.bn (K.F (.ai id k)) (K.mem,K.out));rw[x]at l⊢;obtain⟨n,g,o,p,q⟩:=l;refine⟨?_,o,fun e=> ?_⟩
 ·have r:Inv N (M+1) ({K with mem:=s.2.2.1,out:=s.2.2.2}:KS):=⟨h.core,h.nd,h.q,h.bW,h.bB,g.1,h.obj,h.draw,h.w0,h.w1,g.2⟩
  exact r.cH (c:=.ai id k) ⟨t,m,i⟩ n
 ·have j:=(p (Or.inr e)).2
  have w:=tK (d.D4 _ j);have A:=(q e).1;have f:(fu C.bn (K.F (.ai id k)).pc).op=22:=by omega
  exact⟨f,(d.pv _ j).1,w.2 f⟩
theorem tL(o:oC C)(h:Inv N M K)(f:N<=800000){i:Nat}(p:i<K.wk.length){id:Int}{t:Thread}(n:aw K.ai id=some t)(u:(K.W i).slot=id)(e:id≠0)(y:t.l.length%2=1){k:Nat}(w:k+1=t.l.length):Inv N (M+4) (cu C K i id k):=by
 unfold cu;dsimp only;have l:=pk o h n (k:=k) (by omega) (fu C.bn (K.F (.ai id k)).pc).op;obtain⟨s,r⟩:=nm (bD (bG C K id (fu C.bn (K.F (.ai id k)).pc).op) C.bn (K.F (.ai id k)) (K.mem,K.out));rw[r]at l⊢;obtain⟨a,_,_⟩:=l;obtain⟨t1,b,x,_⟩:=dH (K:=({K with mem:=s.2.2.1,out:=s.2.2.2}:KS)) (k:=k) (id:=id) n s.2.1;obtain⟨K1,c⟩:=nm (({K with mem:=s.2.2.1,out:=s.2.2.2}:KS).cH (.ai id k) s.2.1);have j:i<K1.wk.length:=by rw[<-c];exact p
 have m:(K1.W i).slot=id:=by rw[<-c];exact u
 rw[c]at a b⊢;have g:aj K1 (.ai id k):=⟨t1,b,by omega⟩;split
 ·obtain⟨t2,v,z,_⟩:=dH (K:=K1) (k:=k) b {K1.F (.ai id k)with pc:=wrap64 ((K1.F (.ai id k)).pc+1)}
  exact(r9 (kJ a g) v (by omega) (by omega) _).more (Nat.le_refl _) (by omega)
 ·split
  ·split
   ·rename_i q
    have d:=a.dc b;rw[KS.df b];exact Inv.more (N:=N) (M:=M+1) (a.b9 b ⟨d.id,d.eM,d.l.take _ q⟩) (Nat.le_refl _) (by omega)
   ·exact(sa a f j b m e (by omega) (by omega) _ ((a.lz g).r 0 (by omega))).more (Nat.le_refl _) (by omega)
  ·split
   ·exact sa (a.tell _) f (K:=tell K1 _) j b m e (by omega) (by omega) _ ⟨by decide,by decide⟩
   ·exact a.more (Nat.le_refl _) (by omega)
theorem zp(g:oC C)(h:Inv N M K)(j:N<=800000){i:Nat}(a:i<K.wk.length):Inv (N+1) (M+4) (fI C K i):=by
 unfold fI;split
 ·exact(Bm g h j a).more (Nat.le_refl _) (by omega)
 ·rename_i d
  dsimp only;obtain⟨t,c⟩:=h.core.kF (KS.gy a) d;have m:=h.dc c;have k:K.top (K.W i).slot=t.l.length-1:=by unfold KS.top;rw[KS.df c]
  have s:=m.l.n0;obtain⟨f,n⟩:∃f,t.l[t.l.length-1]?=some f:=⟨_,List.getElem?_eq_getElem (by omega)⟩;have r:(K.T (K.W i).slot).l.getD (K.top (K.W i).slot) default=f:=by rw[KS.df c,k,List.getD_eq_getElem?_getD,n];rfl
  have e:=m.l.ca _ f n;rw[r];split
  ·exact(h.kG a d).more (Nat.le_succ _) (by omega)
  ·have q:=h.gi a
   have l:Inv N M (K.be i {K.W i with left:=max ((K.W i).left-1) 0}):=h.be a rfl rfl ⟨q.f,by show 0<=max ((K.W i).left-1) 0;omega,by have:=q.l1;show max ((K.W i).left-1) 0<=24;omega⟩;have o:i<(K.be i {K.W i with left:=max ((K.W i).left-1) 0}).wk.length:=by rw[bA];exact a
   have p:((K.be i {K.W i with left:=max ((K.W i).left-1) 0}).W i).slot=(K.W i).slot:=by rw[gz a]
   split
   ·rename_i b
    rw[b]at e;have:(t.l.length-1)%2=1:=by simpa using e.symm
    exact(r8 g l j o c p d (by omega) (by rw[k];omega)).more (Nat.le_refl _) (by omega)
   ·rename_i b
    have b:f.ca=false:=by simpa using b
    rw[b]at e;have:(t.l.length-1)%2≠1:=by simpa using e.symm
    exact(tL g l j o c p d (by omega) (by rw[k];omega)).more (Nat.le_succ _) (Nat.le_refl _)
theorem sb(h:Inv N M K)(id:Int):Inv N M (cv K id):=by
 rw[jY];have a:=(h.jZ (h.q.drop id)).g2 (id:=id) 110 ⟨by decide,by decide⟩;split
 ·rename_i b
  rw[lA]at b;obtain⟨⟨t,c⟩,d⟩:=a.core.y6 b;exact a.toRing c d
 ·exact a
theorem nT:∀(l:List Int) (K:KS),Inv N M K->Inv N M (l.foldl cv K)
 |[],_,h=>h
 |x::l,K,h=>nT l _ (sb h x)
theorem zq(h:Inv N M K):Inv N (M+1) (gZ K):=by
 unfold gZ;dsimp only;exact nT _ _ ((h.tF h.bW.tick.1).tell _)
theorem nU(c:oC C)(h:Inv N 0 K)(d:N<=800000)(kind wk draw:Int)(e:aH draw):Inv (N+1) 0 (gM C K kind wk draw).2:=by
 have a:∀w,Inv N 0 ({K with at_:=K.entries,w:=w,draw:=draw,entries:=wrap64 (K.entries+1)}:KS):=fun w=>⟨h.core,h.nd,h.q,h.bW,h.bB,h.mem,h.obj,e,h.w0,h.w1,h.out⟩
 have b:∀{M:Nat} {K':KS},Inv (N+1) M K'->Inv (N+1) 0 ({K' with out:=[]}:KS):=fun h=>⟨h.core,h.nd,h.q,h.bW,h.bB,h.mem,h.obj,h.draw,h.w0,h.w1,Nat.le_refl _⟩
 unfold gM;dsimp only;split
 ·exact b ((zq (a (-1))).more (Nat.le_succ _) (Nat.le_refl _))
 ·split
  ·split
   ·rename_i f
    exact b (zp c (a wk) d (i:=wk.toNat) (by have:=f.2;show wk.toNat<K.wk.length;omega))
   ·exact b ((a (-1)).more (Nat.le_succ _) (Nat.le_refl _))
  ·exact b ((a (-1)).more (Nat.le_succ _) (Nat.le_refl _))
end
end
section
section
variable{w w':World}{χ:Nat->a4}{L:cw}{Y:Var}{C:KC}{K:KS}
theorem lE{N M:Nat}(G:oC C)(W:Inv N M K)(cQ:N<=600000)(cL:M<=600000)(i:Nat)(a0:i<K.wk.length)(id:Int)(t:Thread)(x:aw K.ai id=some t)(k:Nat)(c4:k+1=t.l.length)(c5:t.l.length%2=1)(v:Int)(ad:aH v)(h:ae w χ L Y C K):
 Calls prog 147 #[(L.mb,0),(L.wb,i*38),(Y.bB id,0),(Y.fb id k,0),.int .u64 v] w (rB (.tuple #[]) χ L C (eN C K i id k v) w):=by
 have g:aj K (.ai id k):=⟨t,x,by omega⟩;obtain⟨b,hb⟩:=nm (Y.fb id k);obtain⟨tb,P⟩:=nm (Y.bB id);have q:aP L Y (.ai id k) b 0:=⟨hb.symm,rfl⟩;rw[hb,P];obtain⟨cS,cA,l⟩:=h.a6 g q 0 (by omega) v;obtain⟨K1,d⟩:=nm (K.au (.ai id k) 0 v);have H:Inv N M K1:=by rw[<-d];exact W.au g 0 v ad
 have I:Gr K K1:=by rw[<-d];exact bs g _
 have Q:K1.wk.length=K.wk.length:=by rw[<-d];exact bm _ _
 obtain⟨t1,ab,c6,_⟩:∃o,aw K1.ai id=some o/\o.l.length=t.l.length/\o.id=t.id:=by rw[<-d];exact dH x _
 rw[d]at l;obtain⟨j,D⟩:=l.cur g q I Q;obtain⟨al,B,F⟩:=l.at_.qe j D (wrap64 ((K1.F (.ai id k)).pc+1));obtain⟨a,f⟩:=nm (K1.ft (.ai id k));have c:Inv N M a:=by rw[<-f];exact H.cH j ((H.lz j).pc _)
 have c3:Gr K1 a:=by rw[<-f];exact bs j _
 have z:a.wk.length=K1.wk.length:=by rw[<-f];exact bm _ _
 obtain⟨t2,n,c7,_⟩:∃o,aw a.ai id=some o/\o.l.length=t1.l.length/\o.id=t1.id:=by rw[<-f];exact dH ab _
 have c2:K1.cH (.ai id k) {K1.F (.ai id k)with pc:=wrap64 ((K1.F (.ai id k)).pc+1)}=a:=f;rw[c2]at F;clear c2;have cm:w.cell? (b,1)=some (.int .u64 ((K.F (.ai id k)).r 0)):=h.az g q 0 (by omega);have f0:=h.g1 g q 1;have T:=l.at_.tq j D;have f1:=l.at_.g1 j D 0;obtain⟨pc,a2⟩:=nm ((K1.F (.ai id k)).pc);rw[a2]at T F;have A:=l.trans I F;have R:B.bB id=tb:=((A.yk id t x).1).trans P;have S:B.fb id k=b:=((A.yk id t x).2 k (by omega)).trans hb;have m:Hid (dB χ L Y C K a w al B ((w.setCell (b,1) (.int .u64 v)).setCell (b,0) (.int .i64 (wrap64 (pc+1))))):=Z A;have p1:(w.setCell (b,1) (.int .u64 v)).cell? (b,0)=some (.int .i64 pc):=T;have f2:(w.setCell (b,1) (.int .u64 v)).frozen? (b,0)=false:=f1;obtain⟨r,O⟩:∃r,C.rows[2]?=some r:=⟨_,List.getElem?_eq_getElem (by rw[G.CT];omega)⟩;have c0:((w.setCell (b,1) (.int .u64 v)).setCell (b,0) (.int .i64 (wrap64 (pc+1)))).cell? (L.mb,9)=some (.int .i64 r):=A.at_.CA O;have a3:C.rows.getD 2 0=r:=by rw[List.getD_eq_getElem?_getD,O];rfl
 have av:Hid (eN C K i id k v=if 0<r then gX C a id k 2 else mw C {a with table:=(fW a.table id v).2} i id):=Z (by unfold eN;dsimp only;rw[d,f,a3]);have J:=(c.dc n).id;have y:=(c.CS (by omega) n).1;have a1:i<a.wk.length:=by rw[z,Q];exact a0
 have bi:=Z (And.intro R S);by_cases s:0<r
 ·have cl:decide (0<r)=true:=by simpa using s
  have E:Hid (eN C K i id k v=gX C a id k 2):=Z (by rw[av,if_pos s]);have ap:=Z (fun w (h:ae w al L B C a)=>pj G c (by omega) (by omega) id t2 n k (by omega) (by omega) 2 (by decide) (by decide) h);rw[R,S]at ap;clear h g q hb P W G l d H I Q ab c6 j D F f c c3 z n c7 A R S O a3 J y a1 x c4 c5 a0 a2 T f1 s ad;go_enter func147,ntmps147
  go_wp2_with fail
  with_reducible refine(ap.out _ m.out.at_).mono ?_
  rintro e cq ⟨rfl,cd,V,p,c9⟩;have bv:=Z (And.intro p (m.nx.trans c9));clear p c9;go_wp2_with fail
  go_end0
  rw[E];exact⟨rfl,cd,V,bv.1,bv.2⟩
 ·have cl:decide (0<r)=false:=by simpa using s
  have E:Hid (eN C K i id k v=mw C {a with table:=(fW a.table id v).2} i id):=Z (by rw[av,if_neg s]);have cf:=Z (fun w (h:ae w al L B C a)=>p' id v y h);have ce:=Z (fun(w:World) (χ:Nat->a4) (Y:Var) (h:ae w χ L Y C ({a with table:=(fW a.table id v).2}:KS))=>rC (K:=({a with table:=(fW a.table id v).2}:KS)) i a1 id t2 n J y (c.bW.ok (by omega)) (c.bB.ok (by omega)) (by show a.out.length<=800000;have:=c.out;omega) h);have U:=Z (And.intro n J);clear h g q hb P W G l d H I Q ab c6 j D F f c c3 z n c7 A R S O a3 J y a1 x c4 c5 a0 a2 T f1 s ad;go_enter func147,ntmps147
  go_wp2_with fail
  obtain⟨w2,z⟩:=nm (((w.setCell (b,1) (.int .u64 v)).setCell (b,0) (.int .i64 (wrap64 (pc+1)))));rw[z]at m c0⊢;clear z cm f0 p1 f2 c0;have ck:=m.at_.gb U.1;rw[bi.1,U.2]at ck;have cC:=m.at_.eh;go_still_tail 9,(by kernel_rfl)
  change wpList _ _ _ _ _ w2.drew;go_wp2_with fail
  with_reducible refine(cf.out _ m.out.at_.drew).mono ?_
  rintro e cq ⟨⟨u,rfl,y⟩,cd,V,p⟩;have am:=Z p;have c8:V.bB id=tb:=((p.yk id t2 U.1).1).trans bi.1;have ch:=Z c8;clear p c8 y;go_wp2_with fail
  have X:=ce _ _ _ am.at_;rw[ch]at X;with_reducible refine X.mono ?_
  clear X;rintro e w4 ⟨rfl,cs,ci,c1,cb⟩;have bw:=Z (And.intro c1 ((m.nx.trans ((Nx.af (Ch.refl _ w2).drew).trans am.nx)).trans cb));clear c1 cb;go_wp2_with fail
  go_end0
  rw[E];exact⟨rfl,cs,ci,bw.1,bw.2⟩
end
end
end Go.Proofs.YtfnilkpkogipfaaGreatDoor
