import Derived.Test.YtfnilkpkogipfaaGreatDoorZAp
import Derived.Test.YtfnilkpkogipfaaGreatDoorZAq
import Derived.Test.YtfnilkpkogipfaaGreatDoorZAr
set_option linter.all false
set_option maxRecDepth 100000
set_option maxHeartbeats 8000000
namespace Go.Proofs.YtfnilkpkogipfaaGreatDoor
open Go.RowKit Go.Proofs.Tryz
section
section
variable{w:World}{χ:Nat->aX}{L:cz}{Y:Var}{C:KC}{K:KS}
theorem Eb{i:Nat}(a:i<K.wk.length)(c:bN)(v:Bool):(K.be i {K.W i with parked:=v}).F c=K.F c:=by
 cases c with
 |own j=>
  show((K.be i _).W j).f=(K.W j).f
  by_cases e:i=j
  ·subst e;rw[gM a]
  ·have:(K.be i {K.W i with parked:=v}).W j=K.W j:=by
    unfold KS.W KS.be;simp only[List.getD_eq_getElem?_getD,List.getElem?_set_ne e]
   rw[this]
 |ai id k=>rfl
theorem uo(o:Value)(idO:Option Int)(i:Nat)(c:bN)(b n:Nat)(a d e g f j:Int)(h:ae w χ L Y C K):
 Calls prog 142 #[(L.mb,0),(L.wb,i*38),o,(b,n),.agg #[.int .i64 22,a,d,e,.int .u64 g,f,j]] w (dM (aB C K i idO c ⟨22,a,d,e,g,f,j⟩) χ L Y C K w):=by
 obtain⟨q,m,p,k,l⟩:=h.r8 22 a d e g f j;have t0:=l.c1;have E:Hid (aB C K i idO c ⟨22,a,d,e,g,f,j⟩=(2,K)):=Z (by unfold aB;dsimp only;rw[if_neg (by decide),if_neg (by decide),if_neg (by decide),if_neg (by decide),if_neg (by decide),if_neg (by decide),if_neg (by decide),if_pos rfl]);clear h;go_in
 go_wp2
 try rw[m]
 go_ret;rw[E];exact⟨rfl,χ,Y,k.at_,k.nx,fun _=>k.yk⟩
theorem uq(a2:Value)(idO:Option Int)(i:Nat)(R:i<K.wk.length)(c:bN)(b m:Nat)(Q:ak K c)(S:aS L Y c b m)(a p r t s u:Int)(X:0<=a/\a<32)(h:ae w χ L Y C K):
 Calls prog 142 #[(L.mb,0),(L.wb,i*38),a2,(b,m),.agg #[.int .i64 36,a,p,r,.int .u64 t,s,u]] w (dM (aB C K i idO c ⟨36,a,p,r,t,s,u⟩) χ L Y C K w):=by
 have J:=Z Q;have M:=Z S;have A:=Z R;obtain⟨a3,T,ab,D,z⟩:=h.pre 36 a p r t s u;obtain⟨t0,t1⟩:=z.1.c2;obtain⟨bv,bw⟩:=X;have a0:L.wb≠w.heap.size:=Nat.ne_of_lt (h.wk (by simp)).is.lt;have ax:=a0.symm;obtain⟨q,d⟩:=nm (hA K 0);have N:=Z (fun w h=>xl (K:=K) (w:=w) (χ:=χ) (L:=L) (Y:=Y) (C:=C) 0 ⟨by omega,by omega⟩ h);have H:q.2.ai=K.ai/\q.2.wk=K.wk:=by rw[<-d];exact⟨rfl,rfl⟩
 have hF:(q.2.F c)=K.F c:=by rw[<-d];cases c<;>rfl
 rw[d]at N;have W:=Z d;obtain⟨pv,K1⟩:=q;dsimp only at H hF;have f:=Z H;obtain⟨x,k⟩:∃y,(K.F c).r a.toNat=y:=⟨_,rfl⟩;have ad:=Z k;have B:Hid ((K1.F c).r a.toNat=x):=Z (by rw[hF];exact k);have o:=D.at_.aC J M a.toNat (by omega);rw[k]at o;clear h R Q S d H hF k;obtain⟨n,a1⟩:=nm ((pv==x));have E:Hid (aB C K i idO c ⟨36,a,p,r,t,s,u⟩=((if n then 1 else 0),K1.be i {K1.W i with parked:=n})):=Z (by unfold aB;dsimp only;rw[if_neg (by decide),if_neg (by decide),if_pos rfl,W];dsimp only;rw[B,a1];cases n<;>rfl);cases n
 all_goals
  go_in
  go_wp2
  try rw[T]
  try clear T
  go_region_held3 (fun w'=>w'.cell? ⟨w.heap.size,1,none⟩=some (.int .i64 a)/\w'.cell? (b,m+1+a.toNat)=some (.int .u64 x)) (go_keep) ((go_at_call 81;refine(N _ D.at_.drew).mono ?_;rintro e w1 ⟨rfl,bx,al,G⟩;have g:=Z ((D.af (Ch.refl _ _).drew).trans (Gr.refl _) G);have V:=Z (((Nx.af (Ch.refl _ a3).drew).trans G.nx).row z.1 z.2);have j:=Z (g.cur J M (Gr.of_eq f.1) (by rw[f.2]));clear G t0 t1 o;have t1:=V.1.k 1 rfl;have o:=g.at_.aC j.1 j.2 a.toNat (by omega);rw[B]at o;have bi:=g.at_.vM (i:=i) (by rw[f.2];exact A);have am:=g.at_.uf (i*38+2);have P:=Z (fun v=>g.at_.pz (i:=i) (by rw[f.2];exact A) v);have I:∀v,(w1.setCell (L.wb,i*38+2) (.bool v)).cell? (b,m+1+a.toNat)=some (.int .u64 x):=(fun v=>by obtain⟨U,O,l⟩:=P v;have d:=l.cur j.1 j.2 (Gr.of_eq rfl) (bF _ _);have:=l.at_.aC d.1 d.2 a.toNat (by omega);rw[Eb (by rw[f.2];exact A) c v,B]at this;exact this);have ap:=I false;have av:=I true;clear I))
  all_goals
   go_wp2
   go_ret;rw[E];obtain⟨U,O,l⟩:=P _;have F:=g.trans (Gr.of_eq f.1) l;exact⟨rfl,U,O,F.at_,F.nx,fun _=>F.yk⟩
end
end
section
section
variable{N M:Nat}{K:KS}{C:KC}
theorem z1:aI (1:Int):=⟨by decide,by decide⟩
theorem pH{x:Int}(a:0<=x)(b:x<=100000000):aI x:=⟨a,by omega⟩
theorem Inv.Eg(h:Inv N M K)(d:N<=900000){id:Int}{t:Thread}(a:aw K.ai id=some t):aI id/\id≠0:=by
 obtain⟨_,_,_,b,c⟩:=h.core.row a;exact⟨pH (by omega) (by omega),by omega⟩
theorem Inv.z2(h:Inv N M K)(b:N<=900000){i:Nat}(c:i<K.wk.length):aI (K.W i).hand:=by
 by_cases a:(K.W i).hand=0
 ·rw[a];exact bm
 ·obtain⟨t,d⟩:=h.core.qO (KS.gY c) a
  exact(h.Eg b d).1
theorem Inv.FE(h:Inv N M K)(b:N<=900000){id:Int}(c:id∈K.ring):aI id:=by
 by_cases a:id=0
 ·rw[a];exact bm
 ·have:0<n3 K.ring id:=List.countP_pos_iff.2 ⟨id,c,by simp⟩
  obtain⟨t,d⟩:=Option.isSome_iff_exists.1 (h.core.sy id a (by unfold eu;omega)).1;exact(h.Eg b d).1
theorem Inv.FF(h:Inv N M K)(a:N<=900000):aI (gU K.ring).1:=by
 cases b:K.ring with
 |nil=>exact bm
 |cons x l=>exact h.FE a (by rw[b];exact List.mem_cons_self)
theorem km(h:Inv N M K):b' (K.mem.acc 3 0 0 1).2:=(h.mem.acc 3 0 0 1 z1).1
theorem Inv.toRing(h:Inv N M K){id:Int}{t:Thread}(a:aw K.ai id=some t)(b:eu K.wk K.ring id=0):Inv N M (cv K id):=
 ⟨h.core.toRing a b,h.nd,h.q,h.b0,h.bH,km h,h.obj,h.draw,h.w0,h.w1,h.out⟩
theorem Inv.k7(h:Inv N M K){i:Nat}(a:i<K.wk.length)(b:(K.W i).slot≠0):Inv N M (dA C (cv K (K.W i).slot) i):=by
 rw[lV C (K:=cv K (K.W i).slot) a];exact⟨h.core.k7 (KS.gY a) b ((h.gz a).left 0 C.loop) rfl rfl,h.nd,h.q,h.b0,h.bH,km h,h.obj,h.draw,by show 1<=(K.wk.set i _).length;rw[List.length_set];exact h.w0,by show(K.wk.set i _).length<=64;rw[List.length_set];exact h.w1,h.out⟩
theorem Inv.lU(h:Inv N M K){i:Nat}(a:i<K.wk.length)(b:(K.W i).slot≠0):Inv N M (dA C {K with table:=(j3 K.table (K.W i).slot 3).2} i):=by
 rw[lV C (K:={K with table:=(j3 K.table (K.W i).slot 3).2}) a];exact⟨h.core.lU (KS.gY a) b ((h.gz a).left 0 C.loop) rfl rfl,h.nd,h.q,h.b0,h.bH,h.mem,h.obj,h.draw,by show 1<=(K.wk.set i _).length;rw[List.length_set];exact h.w0,by show(K.wk.set i _).length<=64;rw[List.length_set];exact h.w1,h.out⟩
theorem hM.ji{x:ay}(h:hM x)(v:Int):hM {x with hand:=v}:=⟨h.f,h.l0,h.l1⟩
theorem Inv.n4(h:Inv N M K){i:Nat}(a:i<K.wk.length)(b:(K.W i).hand≠0):Inv N M ((cv K (K.W i).hand).be i {(cv K (K.W i).hand).W i with hand:=0}):=
 ⟨h.core.n4 (KS.gY a) b ((h.gz a).ji 0) rfl rfl,h.nd,h.q,h.b0,h.bH,km h,h.obj,h.draw,by show 1<=(K.wk.set i _).length;rw[List.length_set];exact h.w0,by show(K.wk.set i _).length<=64;rw[List.length_set];exact h.w1,h.out⟩
theorem Inv.FG(h:Inv N M K){i:Nat}(b:i<K.wk.length){id:Int}{t:Thread}(c:aw K.ai id=some t)(d:eu K.wk K.ring id=0):Inv N M (eo K i id):=by
 unfold eo;split
 ·exact h.toRing c d
 ·rename_i a
  have a:(K.W i).hand=0:=Classical.not_not.1 a;exact⟨h.core.Ef c d (KS.gY b) a ((h.gz b).ji id) rfl rfl,h.nd,h.q,h.b0,h.bH,h.mem,h.obj,h.draw,by show 1<=(K.wk.set i _).length;rw[List.length_set];exact h.w0,by show(K.wk.set i _).length<=64;rw[List.length_set];exact h.w1,h.out⟩
theorem Inv.take(h:Inv N M K){i:Nat}(b:i<K.wk.length)(id:Int):Inv N M (eK K i id):=by
 unfold eK;split
 ·exact h
 ·rename_i a
  split
  ·exact h
  ·rename_i c
   split
   ·exact h
   ·rename_i d
    have f:(K.W i).hand=0:=(Classical.not_not.1 fun e=>a (Or.inl e));have g:st K.table id=1:=(by rw[<-lT];exact Classical.not_not.1 fun e=>a (Or.inr e));have j:∀x∈K.wk,x.hand≠id:=(fun x m e=>c (List.any_eq_true.2 ⟨x,m,by simp[e]⟩));have k:id∉K.ring:=(fun l=>d (List.any_eq_true.2 ⟨id,l,by simp⟩));exact⟨h.core.take g j k (KS.gY b) f ((h.gz b).ji id) rfl rfl,h.nd,h.q,h.b0,h.bH,h.mem,h.obj,h.draw,by show 1<=(K.wk.set i _).length;rw[List.length_set];exact h.w0,by show(K.wk.set i _).length<=64;rw[List.length_set];exact h.w1,h.out⟩
theorem Core.qQ{tb:List aE}{ai:List (Int×Thread)}{wk:List ay}{ring:List Int}(c:Core N tb ai wk ring){i:Nat}{x y:ay}(h:wk[i]?=some x)(o:hM y)(n:y.slot=x.slot)(k:y.hand=0):Core N tb ai (wk.set i y) ring:=by
 have f:=fun j=>e0 (y:=y) h j
 have g:=fun j=>e1 (y:=y) h j
 simp only[iE,n,k]at f g;have e:∀j,j≠0->eu (wk.set i y) ring j<=eu wk ring j:=fun j l=>by
  have a:=f j;have b:=g j;rw[if_neg (Ne.symm l)]at b;unfold eu;omega
 exact⟨c.cU,c.al,c.ai,fun id d=>by have:=e id d;have:=c.one id d;omega,fun id d m=>c.sy id d (by have:=e id d;omega),fun id d m=>c.slt id d (by have:=f id;omega),hN c.wk o⟩
theorem Inv.qQ(h:Inv N M K){i:Nat}(a:i<K.wk.length):Inv N M (K.be i {K.W i with hand:=0}):=
 ⟨h.core.qQ (KS.gY a) ((h.gz a).ji 0) rfl rfl,h.nd,h.q,h.b0,h.bH,h.mem,h.obj,h.draw,by show 1<=(K.wk.set i _).length;rw[List.length_set];exact h.w0,by show(K.wk.set i _).length<=64;rw[List.length_set];exact h.w1,h.out⟩
theorem Inv.born(h:Inv N M K)(B:N<=900000)(place a:Int)(v:aI a):Inv (N+1) M (bL K place a).2/\aI (bL K place a).1/\
 ((bL K place a).1≠0->∃t,aw (bL K place a).2.ai (bL K place a).1=some t/\eu (bL K place a).2.wk (bL K place a).2.ring (bL K place a).1=0):=by
 unfold bL;have c:=m4 h.bH h.mem 1;cases u:dd K.blocks K.mem 1 with
 |mk w p=>
  obtain⟨b,m⟩:=p;rw[u]at c;have g:Inv (N+1) M {K with blocks:=b,mem:=m}:=(h.more (Nat.le_succ _) (Nat.le_refl _)).uz c.1 c.2.1;cases w with
  |none=>exact⟨g,bm,fun e=>absurd rfl e⟩
  |some d=>
   dsimp only;cases hb:df K.table d with
   |mk x t2=>
    cases x with
    |none=>
     dsimp only;have o:t2=K.table:=by
      unfold df at hb;split at hb
      ·injection hb with _ e;exact e.symm
      ·split at hb
       ·injection hb with _ e;exact e.symm
       ·injection hb with e;cases e
     subst o;exact⟨(show Inv (N+1) M ({K with blocks:=b,mem:=m}:KS)from g).jc _,bm,fun e=>absurd rfl e⟩
    |some id=>
     dsimp only;have q:nZ id ⟨id,[⟨⟨place,fun j=>if j=0 then a else 0,[]⟩,false,0⟩],0⟩:=⟨rfl,bm,by simp,by simp,fun k f i=>by
      have s:k=0:=(by have:=(List.getElem?_eq_some_iff.1 i).1;simpa using this);subst s;rw[<-Option.some.inj i];rfl,fun f r=>by
      rw[List.mem_singleton.1 r];exact⟨fun k _=>by
       show aI (if k=0 then a else 0)
       split
       ·exact v
       ·exact bm,by simp⟩⟩
     obtain⟨y,l,n,z,A,_⟩:=h.core.born (by omega) d (c.2.2 d rfl) hb q;refine⟨⟨l,h.nd.put _ _,h.q.more (Nat.le_succ _),h.b0.more (Nat.le_succ _),c.1,c.2.1,h.obj,h.draw,h.w0,h.w1,h.out⟩,pH (by omega) (by omega),fun _=>⟨_,by show aw (b8 K.ai id _) id=_;rw[aV,if_pos rfl],n⟩⟩
theorem Inv.hh(h:Inv N M K){id:Int}(v:Int)(c:aI v):Inv N M (b1 K id v):=by
 unfold b1;split
 ·rename_i b
  obtain⟨t,a⟩:=Option.isSome_iff_exists.1 b;have:=h.dg a;rw[KS.dk a];exact h.cn a ⟨this.id,c,this.l⟩
 ·exact h
theorem Inv.ended(h:Inv N M K)(c:N<=900000){i:Nat}(a:i<K.wk.length)(b:(K.W i).slot≠0):Inv N (M+1) (mQ C K i (K.W i).slot):=by
 unfold mQ;dsimp only;refine Inv.home ?_ _ _;rw[lV C (by exact a)];exact⟨h.core.gone (KS.gY a) b ((h.gz a).left 0 C.loop) rfl rfl h.nd,(h.nd.del _).1,h.q.drop _,h.b0.bp _,h.bH,h.mem,h.obj,h.draw,by show 1<=(K.wk.set i _).length;rw[List.length_set];exact h.w0,by show(K.wk.set i _).length<=64;rw[List.length_set];exact h.w1,by show(K.out++[_]).length<=M+1;rw[List.length_append];have:=h.out;simp;omega⟩
theorem Inv.returned(h:Inv N M K){id:Int}{t:Thread}(b:aw K.ai id=some t)(num:Int){code v:Int}(d:aI code)(i:aI v):Inv N (M+1) (dn K id num code v):=by
 unfold dn;dsimp only;have a:ak K (.ai id (K.top id)):=⟨t,b,by unfold KS.top;rw[KS.dk b];have:=(h.dg b).l.n0;omega⟩;have c:=h.az a 0 code d;have g:∀n,(K.az (.ai id n) 0 code).top id=K.top id:=fun n=>by
  unfold KS.top
  congr 1
  have:aw (K.az (.ai id n) 0 code).ai id=some {K.T id with l:=(K.T id).l.set n {(K.T id).l.getD n default with f:={K.F (.ai id n)with r:=fU (K.F (.ai id n)).r 0 code}}}:=by
   show aw (b8 K.ai id _) id=_
   rw[aV,if_pos rfl]
  rw[KS.dk this,List.length_set]
 have e:ak (K.az (.ai id (K.top id)) 0 code) (.ai id (K.top id)):=a.gr (bu a _) (bq _ _);rw[g];exact(c.az e 1 v i).tell _
theorem Inv.answer(h:Inv N M K){id:Int}{t:Thread}(a:aw K.ai id=some t)(f:1<t.l.length){code v:Int}(c:aI code)(e:aI v):Inv N (M+1) (eD K id code v):=by
 unfold eD;dsimp only;have b:=h.dg a;have d:K.top id=t.l.length-1:=by unfold KS.top;rw[KS.dk a]
 refine Inv.returned (t:={K.T id with l:=(K.T id).l.take (K.top id)}) (h.cn a ?_) (by show aw (b8 K.ai id _) id=_;rw[aV,if_pos rfl]) _ c e;rw[KS.dk a,d];exact⟨b.id,b.eU,b.l.take _ (by omega)⟩
structure iS(x:aR):Prop where
 a:x.a.toNat<32
 b:x.b.toNat<32
 c:x.c.toNat<32
 v:aI x.v
theorem qR(h:Inv N M K)(k:N<=900000){i:Nat}(f:i<K.wk.length){id:Int}(g:(K.W i).slot=id)(e:id≠0){t:Thread}(a:aw K.ai id=some t)(q:t.l.length%2=0){c:bN}(l:ak K c){x:aR}(j:iS x):
 Inv (N+1) (M+1) (aD C K i id c x).2:=by
 have d:=h.lS l;have o:=d.r _ j.a;have hb:=d.r _ j.b;have r:=d.r _ j.c;have hid:=(h.Eg k a).1;have b:=h.dg a;have up:∀{K':KS},Inv N M K'->Inv (N+1) (M+1) K':=fun h=>h.more (Nat.le_succ _) (Nat.le_succ _)
 have n:∀{K':KS},Inv N (M+1) K'->Inv (N+1) (M+1) K':=fun h=>h.more (Nat.le_succ _) (Nat.le_refl _)
 have s:t.l.length≠1:=by omega
 have p:1<t.l.length:=by have:=b.l.n0;omega
 unfold aD;dsimp only;split
 ·split
  ·exact((up h).kl (h.q.put _ _ _ hid)).uy (h.b0.arm _ _ hid)
  ·exact(up h).kl (h.q.put _ _ _ hid)
 split
 ·split
  ·subst g;exact up (h.lU f e)
  ·rw[KS.dk a];exact up (h.az l _ _ b.eU)
 split
 ·have:=xQ h.core.cU ((K.F c).r x.a.toNat) id
  exact up (h.n' (h.core.same this.1 this.2))
 split
 ·exact up (h.n' (h.core.ended a _ o))
 split
 ·subst g;exact n (h.ended k f e)
 split
 ·subst g;exact up (h.k7 f e)
 split
 ·split
  ·rename_i m
   rw[KS.dk a]at m⊢;refine up (h.cn a ⟨b.id,b.eU,b.l.push _ m.2 ⟨fun _ _=>bm,by simp⟩ ?_⟩);simp[q]
  ·exact up h
 split
 ·exact n (h.answer a p (d.r 0 (by omega)) (d.r 1 (by omega)))
 ·exact up h
theorem qS(h:Inv N M K){i:Nat}(g:i<K.wk.length){c:bN}(e:ak K c){x:aR}(j:iS x):Inv N M (bf K i c x).2:=by
 have f:=h.lS e;have k:=f.r _ j.a;have m:=f.r _ j.c;unfold bf;dsimp only;split
 ·have a:=h.qP (h.mem.acc 1 (dt (K.F c).r x) 0 _ k).1
  split
  ·exact a
  ·exact a.qQ g
 ·have b:=h.mem.acc 4 (dt (K.F c).r x) ((K.F c).r x.a.toNat) _ m
  have a:=h.qP b.1;split
  ·exact a
  ·rename_i held n
   have l:ak ({K with mem:=(K.mem.acc 4 (dt (K.F c).r x) ((K.F c).r x.a.toNat) ((K.F c).r x.c.toNat)).2}:KS) c:=(by cases c<;>exact e);have d:=a.az l x.a.toNat held (b.2 held n);split
   ·exact d.take (Nat.lt_of_lt_of_eq (show i<({K with mem:=(K.mem.acc 4 (dt (K.F c).r x) ((K.F c).r x.a.toNat) ((K.F c).r x.c.toNat)).2}:KS).wk.length from g) (bq _ _).symm) _
   ·exact d
theorem xS(h:Inv N M K)(m:N<=900000){i:Nat}(d:i<K.wk.length){c:bN}(f:ak K c){x:aR}(o:iS x):Inv N M (bY K i c x):=by
 unfold bY;dsimp only;split
 ·exact h.take d _
 split
 ·split
  ·rename_i b;exact h.n4 d b
  ·exact h
 split
 ·have a:=h.az f x.a.toNat 0 bm
  have hlen:(K.az c x.a.toNat 0).wk.length=K.wk.length:=bq _ _;have g:i<(K.az c x.a.toNat 0).wk.length:=by rw[hlen];exact d
  have k:ak (K.az c x.a.toNat 0) c:=f.gr (bu f _) hlen;split
  ·rename_i b
   have n:=a.FF m;have l:Inv N M (({K.az c x.a.toNat 0 with ring:=(gU (K.az c x.a.toNat 0).ring).2.2}:KS).be i {(({K.az c x.a.toNat 0 with ring:=(gU (K.az c x.a.toNat 0).ring).2.2}:KS).W i)with hand:=(gU (K.az c x.a.toNat 0).ring).1}):=
    ⟨a.core.zY (KS.gY g) b ((a.gz g).ji _) rfl rfl,a.nd,a.q,a.b0,a.bH,a.mem,a.obj,a.draw,by show 1<=(List.set _ i _).length;rw[List.length_set];exact a.w0,by show(List.set _ i _).length<=64;rw[List.length_set];exact a.w1,a.out⟩
   refine l.az ?_ _ _ ?_
   ·cases c with
    |own j=>show j<(List.set _ i _).length;rw[List.length_set];exact k
    |ai _ _=>exact k
   ·rw[gM (by exact g)];exact n
  ·exact a
 split
 ·split
  ·rename_i b
   have e:((K.be i {K.W i with slot:=(K.W i).hand,hand:=0,left:=24}).W i).slot=(K.W i).hand:=(by rw[gM d]);rw[e];exact⟨h.core.zW (KS.gY d) b.1 b.2.2 ⟨(h.gz d).f,show(0:Int)<=24 by decide,show(24:Int)<=24 by decide⟩ rfl rfl,h.nd,h.q,h.b0,h.bH,h.mem,h.obj,h.draw,by show 1<=(K.wk.set i _).length;rw[List.length_set];exact h.w0,by show(K.wk.set i _).length<=64;rw[List.length_set];exact h.w1,h.out⟩
  ·exact h
 ·exact h
theorem dw{K':KS}{c:bN}(a:ak K c)(e:K'.ai=K.ai)(f:K'.wk=K.wk):ak K' c:=by
 cases c with
 |own i=>show i<_;rw[f];exact a
 |ai id k=>obtain⟨t,b,d⟩:=a;exact⟨t,by rw[e];exact b,d⟩
theorem uA(h:Inv N M K){c:bN}(b:ak K c){x:aR}(j:iS x):Inv (N+1) M (bh K c x):=by
 have g:=h.lS b;have m:=g.r _ j.a;have hb:=g.r _ j.b;have up:∀{K':KS},Inv N M K'->Inv (N+1) M K':=fun h=>h.more (Nat.le_succ _) (Nat.le_refl _)
 unfold bh;dsimp only;split
 ·have d:=h.az b x.a.toNat 0 bm
  have hlen:(K.az c x.a.toNat 0).wk.length=K.wk.length:=bq _ _;have k:ak (K.az c x.a.toNat 0) c:=b.gr (bu b _) hlen;have key:∀n:Int,Inv (N+1) M (if n<=4096 then({K.az c x.a.toNat 0 with blocks:=(dd (K.az c x.a.toNat 0).blocks (K.az c x.a.toNat 0).mem n.toNat).2.1,mem:=(dd (K.az c x.a.toNat 0).blocks (K.az c x.a.toNat 0).mem n.toNat).2.2}:KS).az c x.a.toNat (match(dd (K.az c x.a.toNat 0).blocks (K.az c x.a.toNat 0).mem n.toNat).1 with|some h=>(h:Int)|none=>0)else K.az c x.a.toNat 0):=fun n=>by
   split
   ·have f:=m4 d.bH d.mem n.toNat
    refine((up d).uz f.1 f.2.1).az (dw k rfl rfl) _ _ ?_;split
    ·rename_i a e;exact f.2.2 a e
    ·exact bm
   ·exact up d
  exact key _
 split
 ·split
  ·exact up (h.jc _)
  ·exact up h
 split
 ·split
  ·have i:=h.obj.make x.v ((K.F c).r x.b.toNat) hb
   refine up ((h.setObj i.1).az (dw b rfl rfl) _ _ ?_);cases l:(fN K.c' x.v ((K.F c).r x.b.toNat)).1 with
   |none=>exact bm
   |some y=>exact i.2 y l
  ·exact up (h.az b _ _ bm)
 split
 ·exact up (h.setObj (h.obj.gone _))
 ·exact up h
theorem Inv.fresh(h:Inv N M K)(n:N<=900000):∀d id,(df K.table d).1=some id->aw K.ai id=none:=fun d id hb=>by
 cases k:aw K.ai id with
 |none=>rfl
 |some t=>
  cases a:df K.table d with
  |mk m t2=>
   rw[a]at hb;have hb:m=some id:=hb;subst hb;unfold df at a;cases c:iL K.table 0 with
   |none=>rw[c]at a;cases a
   |some p=>
    obtain⟨_,r,b,l⟩:=n5 K.table 0 p c;rw[Nat.sub_zero]at b;rw[c]at a;dsimp only at a;rw[b]at a;dsimp only at a;injection a with f _
    injection f with f
    obtain⟨_,r',j,_⟩:=h.core.ai id t k;have i:=h.core.cU.row p r b;have o:p<64:=(by have:=(List.getElem?_eq_some_iff.1 b).1;rw[h.core.cU.len]at this;exact this);have t0:=i.t0;have t1:=i.t1;have w1:IntKind.u64.wrap (r.times+1)=r.times+1:=(by unfold IntKind.wrap IntKind.bits IntKind.signed;simp;omega);have w2:IntKind.u64.wrap (64*(r.times+1))=64*(r.times+1):=(by unfold IntKind.wrap IntKind.bits IntKind.signed;simp;omega);have w3:IntKind.u64.wrap ((p:Int)+64*(r.times+1))=(p:Int)+64*(r.times+1):=(by unfold IntKind.wrap IntKind.bits IntKind.signed;simp;omega);rw[w1,w2,w3]at f;have:=(uu j);have e:(id%64).toNat=p:=(by omega);rw[e,b]at this;have g:=this.2.1;rw[<-Option.some.inj this.1,l]at g;cases g
theorem pI{c:bN}(b:ak K c)(id a:Int):ak (ek K id a) c:=dw b (g0 K id a) (kW K id a)
theorem uB(h:Inv N M K)(m:N<=900000){i:Nat}(y:i<K.wk.length){c:bN}(a:ak K c){x:aR}(g:iS x):Inv (N+1) M (bA C K i c x):=by
 have f:=h.lS a;have e:=f.r _ g.a;have hb:=f.r _ g.b;have v:=f.r _ g.c;have up:∀{K':KS},Inv N M K'->Inv (N+1) M K':=fun h=>h.more (Nat.le_succ _) (Nat.le_refl _)
 unfold bA;dsimp only;split
 ·split
  ·obtain⟨j,k,p⟩:=h.born m (wrap64 ((K.F c).r x.b.toNat)) ((K.F c).r x.c.toNat) v
   have w:=kX (K:=K) (wrap64 ((K.F c).r x.b.toNat)) ((K.F c).r x.c.toNat) (h.fresh m);have o:(bL K (wrap64 ((K.F c).r x.b.toNat)) ((K.F c).r x.c.toNat)).2.wk=K.wk:=nV _ _;have n:ak (bL K (wrap64 ((K.F c).r x.b.toNat)) ((K.F c).r x.c.toNat)).2 c:=a.gr w (by rw[o]);split
   ·rename_i q
    obtain⟨t,A,B⟩:=p q;have z:i<(bL K (wrap64 ((K.F c).r x.b.toNat)) ((K.F c).r x.c.toNat)).2.wk.length:=(by rw[o];exact y);exact(j.FG z A B).az (n.gr (dT _ _ _) (fE _ _ _)) _ _ k
   ·exact j.az n _ _ k
  ·exact up (h.az a _ _ bm)
 split
 ·have d:=ux h.core.cU ((K.F c).r x.a.toNat)
  have b:=h.n' (h.core.same d.1 d.2);split
  ·exact up ((b.home _ _).az (pI (K:=({K with table:=(e8 K.table ((K.F c).r x.a.toNat)).2}:KS)) (dw a rfl rfl) _ _) _ _ e)
  ·exact up (b.az (dw a rfl rfl) _ _ e)
 split
 ·have d:=xR h.core.cU ((K.F c).r x.b.toNat)
  have b:=h.n' (h.core.same d.1 d.2.1);split
  ·exact up ((b.home _ _).az (pI (K:=({K with table:=(fA K.table ((K.F c).r x.b.toNat)).2.2.2.2}:KS)) (dw a rfl rfl) _ _) _ _ d.2.2)
  ·exact up (b.az (dw a rfl rfl) _ _ d.2.2)
 split
 ·exact up (h.az a _ _ (cx _))
 split
 ·refine up (h.az a _ _ ?_)
  unfold fy;rcases fj (l:=K.table) (id:=(K.F c).r x.b.toNat)with⟨b,_⟩|⟨r,b,s,u⟩
  ·rw[b];exact bm
  ·rw[b];dsimp only;rw[s];exact(h.core.cU.at u).1.home
 ·exact up (h.az a _ _ e)
theorem pJ(K:KS)(pid v:Int):(b1 K pid v).wk=K.wk/\(b1 K pid v).ring=K.ring/\(b1 K pid v).table=K.table:=by unfold b1;split<;>exact⟨rfl,rfl,rfl⟩
theorem qT(h:Inv N M K){i:Nat}(o:i<K.wk.length){c:bN}(d:ak K c){x:aR}(v:iS x):Inv N M (bk K i c x):=by
 unfold bk;dsimp only;split
 ·have a:=h.q.take ((K.F c).r x.b.toNat) ((K.F c).r x.c.toNat)
  obtain⟨p,r⟩:=nm (eJ K.q ((K.F c).r x.b.toNat) ((K.F c).r x.c.toNat));rw[r]at a⊢;have g:=h.kl a.1;split
  ·have m:=g.uy (g.b0.bp p.1)
   have b:=m.hh (id:=p.1) 0 bm;obtain⟨e,f⟩:=nm (b1 ({K with q:=p.2.2,clock:=(K.clock.bp p.1).2}:KS) p.1 0);have n:Gr K e:=(by rw[<-f];exact(Gr.of_eq (K':=({K with q:=p.2.2,clock:=(K.clock.bp p.1).2}:KS)) rfl).trans (jO _ _ _));have l:e.wk=K.wk:=(by rw[<-f];exact(pJ _ _ _).1);have b:Inv N M e:=(by rw[<-f];exact b);show Inv N M (KS.az (if cE (b1 ({K with q:=p.2.2,clock:=(K.clock.bp p.1).2}:KS) p.1 0) p.1=3 then eo (b1 ({K with q:=p.2.2,clock:=(K.clock.bp p.1).2}:KS) p.1 0) i p.1 else b1 ({K with q:=p.2.2,clock:=(K.clock.bp p.1).2}:KS) p.1 0) c x.a.toNat p.1)
   rw[f];have j:ak e c:=d.gr n (by rw[l]);split
   ·rename_i k
    rw[lT]at k;obtain⟨⟨t,s⟩,u⟩:=b.core.zX k;exact(b.FG (by rw[l];exact o) s u).az (j.gr (dT _ _ _) (fE _ _ _)) _ _ a.2
   ·exact b.az j _ _ a.2
  ·exact g.az (dw d rfl rfl) _ _ bm
 split
 ·have a:=h.q.move ((K.F c).r x.b.toNat) ((K.F c).r x.c.toNat)
  exact(h.kl a.1).az (dw d rfl rfl) _ _ a.2
 split
 ·refine h.az d _ _ ?_
  split
  ·exact z1
  ·exact bm
 ·exact h.az d _ _ bm
theorem z3(h:Inv N M K)(a:N<=900000){i:Nat}(b:i<K.wk.length){id:Int}(hid:aI id)(c:bN)(x:aR):aI (hW C K i id c x):=by
 unfold hW;dsimp only
 repeat' split
 all_goals first|exact cx _|exact h.b0.now|exact hid|exact h.draw|exact h.z2 a b|exact z1|exact bm
theorem jj(h:Inv N M K)(g:N<=900000){i:Nat}(a:i<K.wk.length){idO:Option Int}{c:bN}(d:ak K c){x:aR}(f:iS x)
 (l:∀id,idO=some id->(K.W i).slot=id/\id≠0/\∃t,aw K.ai id=some t/\t.l.length%2=0):Inv (N+1) (M+1) (aB C K i idO c x).2:=by
 have up:∀{K':KS},Inv N M K'->Inv (N+1) (M+1) K':=fun h=>h.more (Nat.le_succ _) (Nat.le_succ _)
 have m:∀{K':KS},Inv (N+1) M K'->Inv (N+1) (M+1) K':=fun h=>h.more (Nat.le_refl _) (Nat.le_succ _)
 unfold aB;dsimp only;split
 ·cases idO with
  |none=>exact up h
  |some id=>
   obtain⟨e,j,t,k,n⟩:=l id rfl;exact qR h g a e j k n d f
 split
 ·exact up (qS h a d f)
 split
 ·have e:Inv N M (hA K 0).2:=h.qP (h.mem.acc 0 0 0 0 bm).1
  have j:∀b,Inv N M ((hA K 0).2.be i {(hA K 0).2.W i with parked:=b}):=fun b=>e.be (by exact a) rfl rfl ⟨(e.gz (by exact a)).f,(e.gz (by exact a)).l0,(e.gz (by exact a)).l1⟩
  split
  ·exact up (j _)
  ·exact up (j _)
 split
 ·exact up (xS h g a d f)
 split
 ·exact m (uA h d f)
 split
 ·exact m (uB h g a d f)
 split
 ·exact up (qT h a d f)
 split
 ·exact up h
 ·refine up (h.az d _ _ (z3 h g a ?_ c x))
  cases idO with
  |none=>exact bm
  |some id=>
   obtain⟨_,_,t,k,_⟩:=l id rfl;exact(h.Eg g k).1
end
end
end Go.Proofs.YtfnilkpkogipfaaGreatDoor
