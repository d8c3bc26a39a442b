import Derived.Laws.MakeOwn
import Derived.RegionTactic
import Derived.ChangeAlike
import Derived.RangeFuncBox
import Derived.Test.YtlihkblppjgebaaGreatDoorZAk
set_option linter.all false
set_option maxRecDepth 100000
set_option maxHeartbeats 0
namespace Go.Proofs.YtlihkblppjgebaaGreatDoor
open Go.RowKit Go.Proofs.Tryz
variable{K a b c:KS}
structure Fr(K K':KS):Prop where
 Ea:K'.entries=K.entries
 at_:K'.at_=K.at_
 now:K'.clock.now=K.clock.now
 w:K'.w=K.w
 wl:K'.wk.length=K.wk.length
 out:∀e∈K'.out,e∈K.out∨e.at_=K.at_
theorem Fr.refl(K:KS):Fr K K:=⟨rfl,rfl,rfl,rfl,rfl,fun e h=>Or.inl h⟩
theorem Fr.trans(h:Fr a b)(g:Fr b c):Fr a c:=⟨g.Ea.trans h.Ea,g.at_.trans h.at_,g.now.trans h.now,g.w.trans h.w,g.wl.trans h.wl,fun e f=>by
 rcases g.out e f with d|d
 ·exact h.out e d
 ·exact Or.inr (d.trans h.at_)⟩
theorem Fr.th(g:Fr b c)(h:Fr a b):Fr a c:=h.trans g
theorem Fr.of{K':KS}(d:K'.entries=K.entries)(f:K'.at_=K.at_)(g:K'.w=K.w)(i:K'.out=K.out)(j:K'.clock.now=K.clock.now)(k:K'.wk.length=K.wk.length):Fr K K':=⟨d,f,j,g,k,fun e h=>Or.inl (i▸h)⟩
theorem kN(K:KS)(e:Ev):Fr K (tell K e):=⟨rfl,rfl,rfl,rfl,rfl,fun x d=>by
 rcases List.mem_append.1 d with h|h
 ·exact Or.inl h
 ·exact Or.inr (by rw[List.mem_singleton.1 h])⟩
theorem eG(K:KS)(i:Nat)(x:aC):Fr K (K.bj i x):=Fr.of rfl rfl rfl rfl rfl (by simp[KS.bj])
theorem jR(K:KS)(id:Int)(t:Thread):Fr K (K.cp id t):=Fr.of rfl rfl rfl rfl rfl rfl
theorem nc(K:KS)(c:cJ)(f:cP):Fr K (K.cI c f):=by
 cases c
 ·exact eG _ _ _
 ·exact jR _ _ _
theorem bZ(K:KS)(c:cJ)(k:Nat)(x:Int):Fr K (K.ax c k x):=nc _ _ _
theorem qB(K:KS)(c:cJ):Fr K (K.fA c):=nc _ _ _
theorem jS(K:KS)(id:Int):Fr K (cr K id):=Fr.of rfl rfl rfl rfl rfl rfl
theorem rX(C:KC)(K:KS)(i:Nat):Fr K (gJ C K i):=eG _ _ _
theorem kO(C:KC)(K:KS)(i:Nat):Fr K (dB C K i):=(eG _ _ _).trans (rX _ _ _)
theorem vT(K:KS)(a:Int):Fr K (gu K a).2:=Fr.of rfl rfl rfl rfl rfl rfl
theorem ud(K:KS)(a:Int):Fr K (jm K a):=Fr.of rfl rfl rfl rfl rfl rfl
theorem bd{A B:KS}{p:Prop} [Decidable p](d:Fr K A)(e:Fr K B):Fr K (if p then A else B):=by
 split
 ·exact d
 ·exact e
theorem qC(K:KS)(id a:Int):Fr K (eo K id a):=bd (ud _ _) (Fr.refl _)
theorem kh(S:aN)(id:Int):(S.bp id).2.now=S.now:=by
 unfold aN.bp
 split<;>rfl
theorem Ci(S:aN)(id dl:Int):(S.arm id dl).2.now=S.now:=by
 unfold aN.arm;split
 ·rfl
 ·split
  ·rfl
  ·split<;>rfl
theorem zD(C:KC)(K:KS)(i:Nat)(id:Int):Fr K (m3 C K i id):=by
 unfold m3;refine Fr.trans ?_ (qC _ _ _);have d:∀A:KS,Fr K A->Fr K ({dB C A i with ai:=fs (dB C A i).ai id}:KS):=fun A h=>(h.trans (kO C A i)).trans (Fr.of rfl rfl rfl rfl rfl rfl)
 refine d _ ?_;refine Fr.trans ?_ (kN _ _);exact Fr.of rfl rfl rfl rfl (kh _ _) rfl
theorem mG(K:KS)(id num code v:Int):Fr K (dq K id num code v):=by
 unfold dq;refine Fr.trans ?_ (kN _ _);exact(bZ _ _ _ _).trans (bZ _ _ _ _)
theorem pC(K:KS)(id code v:Int):Fr K (eE K id code v):=(jR _ _ _).trans (mG _ _ _ _ _)
theorem vU(K:KS)(id:Int)(c:cJ)(x:be):Fr K (dc K id c x):=by
 unfold dc;exact bd (Fr.refl _) (bd (kN _ _) (Fr.refl _))
theorem vV(C:KC)(K:KS)(id:Int)(k:Nat)(num:Int):Fr K (hr C K id k num):=by
 unfold hr;dsimp only;exact(kN _ _).trans (bd (mG _ _ _ _ _) (jR _ _ _))
theorem vW(C:KC)(K:KS)(i:Nat)(id:Int)(k:Nat)(v:Int):Fr K (eZ C K i id k v):=by
 unfold eZ;dsimp only;refine((bZ _ _ _ _).trans (qB _ _)).trans (bd (vV _ _ _ _ _) ?_);refine Fr.trans ?_ (zD _ _ _ _);exact Fr.of rfl rfl rfl rfl rfl rfl
theorem vX(K:KS)(i:Nat)(id:Int):Fr K (eK K i id):=by
 unfold eK;exact bd (Fr.refl _) (bd (Fr.refl _) (bd (Fr.refl _) (eG _ _ _)))
theorem vY(K:KS)(i:Nat)(id:Int):Fr K (ep K i id):=by
 unfold ep;refine bd (jS _ _) ?_;exact Fr.th (eG _ _ _) (Fr.of rfl rfl rfl rfl rfl rfl)
theorem qD(K:KS)(p r:Int):Fr K (bQ K p r).2:=by
 unfold bQ;split
 ·exact Fr.of rfl rfl rfl rfl rfl rfl
 ·dsimp only
  split
  ·exact Fr.th (ud _ _) (Fr.of rfl rfl rfl rfl rfl rfl)
  ·exact Fr.of rfl rfl rfl rfl rfl rfl
theorem ct{A B:Int×KS}{p:Prop} [Decidable p](d:Fr K A.2)(e:Fr K B.2):Fr K (if p then A else B).2:=by
 split
 ·exact d
 ·exact e
theorem rY(C:KC)(K:KS)(i:Nat)(id:Int)(c:cJ)(x:be):Fr K (aB C K i id c x).2:=by
 unfold aB;dsimp only;refine ct (ct (Fr.of rfl rfl rfl rfl (Ci _ _ _) rfl) (Fr.of rfl rfl rfl rfl rfl rfl)) (ct ?_ (ct (Fr.of rfl rfl rfl rfl rfl rfl) (ct (Fr.of rfl rfl rfl rfl rfl rfl) (ct (zD _ _ _ _) (ct ?_ (ct (ct (jR _ _ _) (Fr.refl _)) (ct (pC _ _ _ _) (Fr.refl _))))))))
 ·split
  ·exact Fr.th (kO _ _ _) (Fr.of rfl rfl rfl rfl rfl rfl)
  ·exact bZ _ _ _ _
 ·exact(jS _ _).trans (kO _ _ _)
theorem rZ(K:KS)(i:Nat)(c:cJ)(x:be):Fr K (bf K i c x).2:=by
 unfold bf;dsimp only;refine ct ?_ ?_
 ·refine ct (Fr.of rfl rfl rfl rfl rfl rfl) ?_
  exact Fr.th (eG _ _ _) (Fr.of rfl rfl rfl rfl rfl rfl)
 ·split
  ·exact Fr.of rfl rfl rfl rfl rfl rfl
  ·refine ct ?_ ?_
   ·exact Fr.th (vX _ _ _) (Fr.th (bZ _ _ _ _) (Fr.of rfl rfl rfl rfl rfl rfl))
   ·exact Fr.th (bZ _ _ _ _) (Fr.of rfl rfl rfl rfl rfl rfl)
theorem zE(K:KS)(i:Nat)(c:cJ)(x:be):Fr K (b0 K i c x):=by
 unfold b0;dsimp only;refine bd (vX _ _ _) (bd (bd ((jS _ _).trans (eG _ _ _)) (Fr.refl _)) (bd ?_ (bd (bd ?_ (Fr.refl _)) (Fr.refl _))))
 ·refine(bZ _ _ _ _).trans (bd ?_ (Fr.refl _))
  exact Fr.th (bZ _ _ _ _) (Fr.th (eG _ _ _) (Fr.of rfl rfl rfl rfl rfl rfl))
 ·exact(eG _ _ _).trans (Fr.of rfl rfl rfl rfl rfl rfl)
theorem xn(K:KS)(c:cJ)(x:be):Fr K (bh K c x):=by
 unfold bh;dsimp only;refine bd ?_ (bd (bd (ud _ _) (Fr.refl _)) (bd (bd ?_ (bZ _ _ _ _)) (bd (Fr.of rfl rfl rfl rfl rfl rfl) (Fr.refl _))))
 ·refine(bZ _ _ _ _).trans (bd ?_ (Fr.refl _))
  exact Fr.th (bZ _ _ _ _) (Fr.of rfl rfl rfl rfl rfl rfl)
 ·exact Fr.th (bZ _ _ _ _) (Fr.of rfl rfl rfl rfl rfl rfl)
theorem xo(C:KC)(K:KS)(i:Nat)(c:cJ)(x:be):Fr K (bD C K i c x):=by
 unfold bD;dsimp only;refine bd (bd ?_ (bZ _ _ _ _)) (bd ?_ (bd ?_ (bd (bZ _ _ _ _) (bd (bZ _ _ _ _) (bZ _ _ _ _)))))
 ·refine Fr.trans ?_ (bZ _ _ _ _)
  exact bd ((qD _ _ _).trans (vY _ _ _)) (qD _ _ _)
 ·refine Fr.trans ?_ (bZ _ _ _ _)
  exact bd (Fr.th (qC _ _ _) (Fr.of rfl rfl rfl rfl rfl rfl)) (Fr.of rfl rfl rfl rfl rfl rfl)
 ·refine Fr.trans ?_ (bZ _ _ _ _)
  exact bd (Fr.th (qC _ _ _) (Fr.of rfl rfl rfl rfl rfl rfl)) (Fr.of rfl rfl rfl rfl rfl rfl)
theorem r0(K:KS)(i:Nat)(c:cJ)(x:be):Fr K (bl K i c x):=by
 unfold bl;dsimp only;refine bd (bd ?_ ?_) (bd ?_ (bd (bZ _ _ _ _) (bZ _ _ _ _)))
 ·refine Fr.trans ?_ (bZ _ _ _ _)
  have h:∀A:KS,Fr K A->Fr K (if cz A (eJ K.q ((K.F c).r x.b.toNat) ((K.F c).r x.c.toNat)).1=3 then ep A i (eJ K.q ((K.F c).r x.b.toNat) ((K.F c).r x.c.toNat)).1 else A):=fun A d=>bd (d.trans (vY _ _ _)) d
  refine h _ (bd ?_ ?_)
  ·exact Fr.th (jR _ _ _) (Fr.of rfl rfl rfl rfl (kh _ _) rfl)
  ·exact Fr.of rfl rfl rfl rfl (kh _ _) rfl
 ·exact Fr.th (bZ _ _ _ _) (Fr.of rfl rfl rfl rfl rfl rfl)
 ·exact Fr.th (bZ _ _ _ _) (Fr.of rfl rfl rfl rfl rfl rfl)
theorem ue(C:KC)(K:KS)(i:Nat)(id:Option Int)(c:cJ)(x:be):Fr K (az C K i id c x).2:=by
 unfold az;refine ct ?_ (ct (rZ _ _ _ _) (ct ?_ (ct (zE _ _ _ _) (ct (xn _ _ _) (ct (xo _ _ _ _ _) (ct (r0 _ _ _ _) (ct (Fr.refl _) (bZ _ _ _ _))))))))
 ·split
  ·exact Fr.refl _
  ·exact rY _ _ _ _ _ _
 ·dsimp only
  exact ct ((vT _ _).trans (eG _ _ _)) ((vT _ _).trans (eG _ _ _))
theorem zF(C:KC)(K:KS)(c:cJ):Fr K (cB C K c).2.2:=by
 unfold cB;exact Fr.th (nc _ _ _) (Fr.of rfl rfl rfl rfl rfl rfl)
theorem zG(C:KC)(K:KS)(i:Nat)(id:Option Int)(c:cJ):Fr K (eF C K i id c).2.2:=by
 unfold eF;dsimp only;have h:=zF C K c;have g:=fun x=>ue C (cB C K c).2.2 i id c x
 split
 ·split
  ·exact(h.trans (g _)).trans (qB _ _)
  ·split
   ·exact h.trans (g _)
   ·exact h.trans (g _)
 ·exact h
theorem Eb(C:KC)(K:KS)(i:Nat):Fr K (kg C K i):=by
 unfold kg;dsimp only;refine(eG K i {K.W i with parked:=false}).trans ?_;have h:=zG C (K.bj i {K.W i with parked:=false}) i none (.own i);exact bd (h.trans (vU _ _ _ _)) (bd (h.trans (rX _ _ _)) h)
theorem uf(C:KC)(K:KS)(i:Nat)(id:Int)(k:Nat):Fr K (cD C K i id k):=by
 unfold cD;dsimp only;have h:=zG C K i (some id) (.ai id k);exact bd (h.trans (vU _ _ _ _)) (bd (h.trans (pC _ _ _ _)) h)
theorem xp{e:Type}(P:e->Prop)(acc:e->Int->Int->Int->Int->Option Int×e)(g:∀S k a o v,P S->P (acc S k a o v).2)(l:List be)(f:cP)(S:e)(d:P S):P (bM acc l f S).2.2:=by
 have i:∀x r,P (cR acc S x r).2:=fun x r=>by
  unfold cR;dsimp only
  repeat' split
  all_goals first|exact d|exact g _ _ _ _ _ d
 unfold bM;split
 ·exact d
 ·split
  ·exact d
  ·split
   ·exact d
   ·split
    ·exact d
    ·split
     ·rename_i x _ _ _ _
      have h:=i x f.r;split
      ·rename_i q;rw[q]at h;exact h
      ·rename_i q;rw[q]at h;exact h
     ·split
      ·exact d
      ·exact d
theorem xq(C:KC)(K:KS)(i:Nat)(id:Int)(k:Nat):Fr K (cx C K i id k):=by
 unfold cx;dsimp only;obtain⟨s,g⟩:=nm (bM (bR C K id (fB C.bs (K.F (.ai id k)).pc).op) C.bs (K.F (.ai id k)) (K.mem,K.out));have m:∀e∈s.2.2.2,e∈K.out∨e.at_=K.at_:=by
  rw[<-g];refine xp (fun S:aI×List Ev=>∀e∈S.2,e∈K.out∨e.at_=K.at_) _ (fun S q a o v f=> ?_) _ _ _ (fun e h=>Or.inl h);unfold bR;split
  ·exact f
  ·dsimp only
   split
   ·exact f
   ·intro e l
    rcases List.mem_append.1 l with h|h
    ·exact f e h
    ·exact Or.inr (by rw[List.mem_singleton.1 h])
 rw[g];have j:Fr K ({K with mem:=s.2.2.1,out:=s.2.2.2}:KS):=⟨rfl,rfl,rfl,rfl,rfl,m⟩;have d:=j.trans (nc _ (.ai id k) s.2.1);refine bd (d.trans ((qB _ _).trans (vV _ _ _ _ _))) (bd (bd (d.trans (jR _ _ _)) (d.trans (vW _ _ _ _ _ _))) (bd (d.trans ((kN _ _).trans (vW _ _ _ _ _ _))) d))
theorem Cj(C:KC)(K:KS)(i:Nat):Fr K (fR C K i):=by
 unfold fR;dsimp only;refine bd (Eb _ _ _) (bd ((jS _ _).trans (kO _ _ _)) ?_);exact(eG _ _ _).trans (bd (uf _ _ _ _ _) (xq _ _ _ _ _))
theorem qE(K:KS)(id:Int):(cy K id).entries=K.entries/\(cy K id).at_=K.at_/\(cy K id).clock=K.clock/\(cy K id).w=K.w/\(cy K id).out=K.out/\(cy K id).wk=K.wk:=by
 unfold cy;dsimp only
 repeat' split
 all_goals exact⟨rfl,rfl,rfl,rfl,rfl,rfl⟩
theorem nQ:∀(l:List Int) (K:KS),(l.foldl cy K).entries=K.entries/\(l.foldl cy K).at_=K.at_/\(l.foldl cy K).clock=K.clock/\(l.foldl cy K).w=K.w/\(l.foldl cy K).out=K.out/\(l.foldl cy K).wk=K.wk
 |[],K=>⟨rfl,rfl,rfl,rfl,rfl,rfl⟩
 |id::l,K=>by
  obtain⟨a1,a2,a3,d,e,f⟩:=nQ l (cy K id);obtain⟨g,h,i,j,k,m⟩:=qE K id;exact⟨a1.trans g,a2.trans h,a3.trans i,d.trans j,e.trans k,f.trans m⟩
theorem nR:∀(n:Nat) (S:aN) (l:List Int),(ej n S l).1.now=S.now
 |0,S,l=>by unfold ej;rfl
 |n+1,S,l=>by
  unfold ej
  repeat' split
  all_goals first|rfl|exact nR n _ _
theorem Ck(C:KC)(K:KS)(wk draw:Int)(h:K.out=[]):
 (ht C K 2 wk draw).1=[⟨6,K.entries,-1,0,0,0,0,0,0,IntKind.u64.wrap (K.clock.now+1),0⟩]/\(ht C K 2 wk draw).2.entries=wrap64 (K.entries+1)/\(ht C K 2 wk draw).2.clock.now=IntKind.u64.wrap (K.clock.now+1)/\(ht C K 2 wk draw).2.out=[]/\(ht C K 2 wk draw).2.wk.length=K.wk.length:=by
 have d:(K.clock.tick).1.now=IntKind.u64.wrap (K.clock.now+1):=nR _ _ _;unfold ht;dsimp only;rw[if_pos rfl];unfold hs;dsimp only;obtain⟨a1,a2,a3,g,e,f⟩:=nQ (K.clock.tick).2 (tell ({K with at_:=K.entries,w:=-1,draw:=draw,entries:=wrap64 (K.entries+1),clock:=(K.clock.tick).1}:KS) ⟨6,0,0,0,0,0,0,0,0,(K.clock.tick).1.now,0⟩);refine⟨?_,?_,?_,rfl,?_⟩
 ·rw[e]
  show K.out++[_]=_
  rw[h,d];rfl
 ·rw[a1];rfl
 ·rw[a3];exact d
 ·rw[f];rfl
theorem Fz(C:KC)(K:KS)(kind wk draw:Int)(h:K.out=[])(j:kind≠2):
 (∀e∈(ht C K kind wk draw).1,e.at_=K.entries)/\(ht C K kind wk draw).2.entries=wrap64 (K.entries+1)/\(ht C K kind wk draw).2.clock.now=K.clock.now/\(ht C K kind wk draw).2.out=[]/\(ht C K kind wk draw).2.wk.length=K.wk.length:=by
 unfold ht;dsimp only;rw[if_neg j];split
 ·split
  ·have f:=Cj C ({K with at_:=K.entries,w:=wk,draw:=draw,entries:=wrap64 (K.entries+1)}:KS) wk.toNat
   refine⟨fun e g=> ?_,f.Ea,f.now,rfl,f.wl⟩;rcases f.out e g with i|i
   ·have d:e∈K.out:=i
    rw[h]at d;cases d
   ·exact i
  ·refine⟨fun e g=> ?_,rfl,rfl,rfl,rfl⟩
   have d:e∈K.out:=g;rw[h]at d;cases d
 ·refine⟨fun e g=> ?_,rfl,rfl,rfl,rfl⟩
  have d:e∈K.out:=g;rw[h]at d;cases d
variable{p:KS}{w:World}{χ:Nat->a'}{L:cU}{Y:Var}{C:KC}
theorem xM(id:Int)(i:Nat)(c:cJ)(b o:Nat)(n a d f j g k:Int)(r:n=24∨n=28∨n=51∨n=53∨n=55∨n=56∨n=57∨n=58){p:Int×KS}(v:aB C K i id c ⟨n,a,d,f,j,g,k⟩=p)
 (x:∀w,ae w χ L Y C K->Calls prog 164 #[(L.mb,0),(L.wb,i*38),(Y.bI id,0),(b,o),aL ⟨n,a,d,f,j,g,k⟩] w (dO p χ L Y C K w)) (h:ae w χ L Y C K):
 Calls prog 133 #[(L.mb,0),(L.wb,i*38),(Y.bI id,0),(b,o),aL ⟨n,a,d,f,j,g,k⟩] w (dO (az C K i (some id) c ⟨n,a,d,f,j,g,k⟩) χ L Y C K w):=by
 have l:=Z x;unfold aL aD at l⊢;dsimp only at l⊢;obtain⟨w0,z,F,q,s⟩:=h.pre n a d f j g k;obtain⟨t0,t1,t2,t3,t4,t5,t6⟩:=s.1.c7;obtain⟨tb,y⟩:=nm (Y.bI id);rw[y]at l⊢;have E:Hid (az C K i (some id) c ⟨n,a,d,f,j,g,k⟩=p):=Z (by rw[<-v];unfold az;dsimp only;rw[if_pos r]);rcases r with rfl|rfl|rfl|rfl|rfl|rfl|rfl|rfl
 all_goals
  go_in
  go_wp2_with fail
  try rw[z]
  refine(l _ q.at_).mono ?_;rintro e w2 ⟨rfl,D,t,u,A,B⟩;have m:=Z (And.intro u (And.intro A B));go_wp2
  go_ret;rw[E];exact⟨rfl,D,t,m.1,q.nx.trans m.2.1,m.2.2⟩
theorem xN(A:Value)(idO:Option Int)(i:Nat)(c:cJ)(b o:Nat)(n a d f j g k:Int)(r:n=31∨n=32){p:Int×KS}(v:bf K i c ⟨n,a,d,f,j,g,k⟩=p)
 (x:∀w,ae w χ L Y C K->Calls prog 165 #[(L.mb,0),(L.wb,i*38),(b,o),aL ⟨n,a,d,f,j,g,k⟩] w (dO p χ L Y C K w)) (h:ae w χ L Y C K):
 Calls prog 133 #[(L.mb,0),(L.wb,i*38),A,(b,o),aL ⟨n,a,d,f,j,g,k⟩] w (dO (az C K i idO c ⟨n,a,d,f,j,g,k⟩) χ L Y C K w):=by
 have m:=Z x;unfold aL aD at m⊢;dsimp only at m⊢;obtain⟨w0,y,F,q,s⟩:=h.pre n a d f j g k;obtain⟨t0,t1,t2,t3,t4,t5,t6⟩:=s.1.c7;have E:Hid (az C K i idO c ⟨n,a,d,f,j,g,k⟩=p):=Z (by rw[<-v];unfold az;dsimp only;rw[if_neg (by omega),if_pos r]);rcases r with rfl|rfl
 all_goals
  go_in
  go_wp2_with fail
  try rw[y]
  refine(m _ q.at_).mono ?_;rintro e w2 ⟨rfl,D,t,u,z,B⟩;have l:=Z (And.intro u (And.intro z B));go_wp2
  go_ret;rw[E];exact⟨rfl,D,t,l.1,q.nx.trans l.2.1,l.2.2⟩
theorem xO(z:Value)(idO:Option Int)(i:Nat)(c:cJ)(b o:Nat)(n a d f j g k:Int)(r:n=30∨n=33∨n=34∨n=35)(v:b0 K i c ⟨n,a,d,f,j,g,k⟩=p)
 (x:∀w,ae w χ L Y C K->Calls prog 166 #[(L.mb,0),(L.wb,i*38),(b,o),aL ⟨n,a,d,f,j,g,k⟩] w (dk (.tuple #[]) χ L Y C K p w)) (h:ae w χ L Y C K):
 Calls prog 133 #[(L.mb,0),(L.wb,i*38),z,(b,o),aL ⟨n,a,d,f,j,g,k⟩] w (dO (az C K i idO c ⟨n,a,d,f,j,g,k⟩) χ L Y C K w):=by
 have l:=Z x;unfold aL aD at l⊢;dsimp only at l⊢;obtain⟨w0,y,B,q,s⟩:=h.pre n a d f j g k;obtain⟨t0,t1,t2,t3,t4,t5,t6⟩:=s.1.c7;have E:Hid (az C K i idO c ⟨n,a,d,f,j,g,k⟩=(0,p)):=Z (by rw[<-v];unfold az;dsimp only;rw[if_neg (by omega),if_neg (by omega),if_neg (by omega),if_pos r]);rcases r with rfl|rfl|rfl|rfl
 all_goals
  go_in
  go_wp2_with fail
  try rw[y]
  refine(l _ q.at_).mono ?_;rintro e w2 ⟨rfl,A,t,u⟩;have m:=Z (q.trans (Gr.refl _) u);go_wp2
  go_ret;rw[E];exact⟨rfl,A,t,m.at_,m.nx,fun _=>m.yk⟩
theorem xP(z:Value)(idO:Option Int)(i:Nat)(c:cJ)(b o:Nat)(n a d f j g k:Int)(r:n=43∨n=44∨n=45∨n=46)(v:bh K c ⟨n,a,d,f,j,g,k⟩=p)
 (x:∀w,ae w χ L Y C K->Calls prog 167 #[(L.mb,0),(b,o),aL ⟨n,a,d,f,j,g,k⟩] w (dk (.tuple #[]) χ L Y C K p w)) (h:ae w χ L Y C K):
 Calls prog 133 #[(L.mb,0),(L.wb,i*38),z,(b,o),aL ⟨n,a,d,f,j,g,k⟩] w (dO (az C K i idO c ⟨n,a,d,f,j,g,k⟩) χ L Y C K w):=by
 have l:=Z x;unfold aL aD at l⊢;dsimp only at l⊢;obtain⟨w0,y,B,q,s⟩:=h.pre n a d f j g k;obtain⟨t0,t1,t2,t3,t4,t5,t6⟩:=s.1.c7;have E:Hid (az C K i idO c ⟨n,a,d,f,j,g,k⟩=(0,p)):=Z (by rw[<-v];unfold az;dsimp only;rw[if_neg (by omega),if_neg (by omega),if_neg (by omega),if_neg (by omega),if_pos r]);rcases r with rfl|rfl|rfl|rfl
 all_goals
  go_in
  go_wp2_with fail
  try rw[y]
  refine(l _ q.at_).mono ?_;rintro e w2 ⟨rfl,A,t,u⟩;have m:=Z (q.trans (Gr.refl _) u);go_wp2
  go_ret;rw[E];exact⟨rfl,A,t,m.at_,m.nx,fun _=>m.yk⟩
theorem xQ(z:Value)(idO:Option Int)(i:Nat)(c:cJ)(b o:Nat)(n a d f j g k:Int)(r:n=48∨n=52∨n=54∨n=49∨n=50)(v:bD C K i c ⟨n,a,d,f,j,g,k⟩=p)
 (x:∀w,ae w χ L Y C K->Calls prog 168 #[(L.mb,0),(L.wb,i*38),(b,o),aL ⟨n,a,d,f,j,g,k⟩] w (dk (.tuple #[]) χ L Y C K p w)) (h:ae w χ L Y C K):
 Calls prog 133 #[(L.mb,0),(L.wb,i*38),z,(b,o),aL ⟨n,a,d,f,j,g,k⟩] w (dO (az C K i idO c ⟨n,a,d,f,j,g,k⟩) χ L Y C K w):=by
 have l:=Z x;unfold aL aD at l⊢;dsimp only at l⊢;obtain⟨w0,y,B,q,s⟩:=h.pre n a d f j g k;obtain⟨t0,t1,t2,t3,t4,t5,t6⟩:=s.1.c7;have E:Hid (az C K i idO c ⟨n,a,d,f,j,g,k⟩=(0,p)):=Z (by rw[<-v];unfold az;dsimp only;rw[if_neg (by omega),if_neg (by omega),if_neg (by omega),if_neg (by omega),if_neg (by omega),if_pos r]);rcases r with rfl|rfl|rfl|rfl|rfl
 all_goals
  go_in
  go_wp2_with fail
  try rw[y]
  refine(l _ q.at_).mono ?_;rintro e w2 ⟨rfl,A,t,u⟩;have m:=Z (q.trans (Gr.refl _) u);go_wp2
  go_ret;rw[E];exact⟨rfl,A,t,m.at_,m.nx,fun _=>m.yk⟩
theorem xR(z:Value)(idO:Option Int)(i:Nat)(c:cJ)(b o:Nat)(n a d f j g k:Int)(r:n=25∨n=26∨n=27)(v:bl K i c ⟨n,a,d,f,j,g,k⟩=p)
 (x:∀w,ae w χ L Y C K->Calls prog 169 #[(L.mb,0),(L.wb,i*38),(b,o),aL ⟨n,a,d,f,j,g,k⟩] w (dk (.tuple #[]) χ L Y C K p w)) (h:ae w χ L Y C K):
 Calls prog 133 #[(L.mb,0),(L.wb,i*38),z,(b,o),aL ⟨n,a,d,f,j,g,k⟩] w (dO (az C K i idO c ⟨n,a,d,f,j,g,k⟩) χ L Y C K w):=by
 have l:=Z x;unfold aL aD at l⊢;dsimp only at l⊢;obtain⟨w0,y,B,q,s⟩:=h.pre n a d f j g k;obtain⟨t0,t1,t2,t3,t4,t5,t6⟩:=s.1.c7;have E:Hid (az C K i idO c ⟨n,a,d,f,j,g,k⟩=(0,p)):=Z (by rw[<-v];unfold az;dsimp only;rw[if_neg (by omega),if_neg (by omega),if_neg (by omega),if_neg (by omega),if_neg (by omega),if_neg (by omega),if_pos r]);rcases r with rfl|rfl|rfl
 all_goals
  go_in
  go_wp2_with fail
  try rw[y]
  refine(l _ q.at_).mono ?_;rintro e w2 ⟨rfl,A,t,u⟩;have m:=Z (q.trans (Gr.refl _) u);go_wp2
  go_ret;rw[E];exact⟨rfl,A,t,m.at_,m.nx,fun _=>m.yk⟩
theorem xS(i:Nat)(c:cJ)(b o:Nat)(n a d e g f j:Int)(l:n=24∨n=28∨n=51∨n=53∨n=55∨n=56∨n=57∨n=58)(h:ae w χ L Y C K):
 Calls prog 133 #[(L.mb,0),(L.wb,i*38),.pointer none,(b,o),aL ⟨n,a,d,e,g,f,j⟩] w (dO (az C K i none c ⟨n,a,d,e,g,f,j⟩) χ L Y C K w):=by
 unfold aL aD;dsimp only;obtain⟨w0,q,r,k,m⟩:=h.pre n a d e g f j;obtain⟨t0,t1,t2,t3,t4,t5,t6⟩:=m.1.c7;have E:Hid (az C K i none c ⟨n,a,d,e,g,f,j⟩=(0,K)):=Z (by unfold az;exact if_pos l);rcases l with rfl|rfl|rfl|rfl|rfl|rfl|rfl|rfl
 all_goals
  go_in
  go_wp2
  try rw[q]
  go_ret;rw[E];exact⟨rfl,χ,Y,k.at_,k.nx,fun _=>k.yk⟩
theorem x'(i:Nat)(cf:i<K.wk.length)(c:cJ)(b o:Nat)(cd:aj K c)(ci:aR L Y c b o)(a9:∀k,k<32->aK ((K.F c).r k))(a g j S R T:Int)(c8:0<=a/\a<32)(hb:0<=g/\g<32)(ce:0<=j/\j<32)(cQ:C.bs.length<=2048)(c9:K.blocks.Ok)(cb:(df K.blocks K.mem 1).2.1.Ok)(c0:∀ch id,(dh K.table ch).1=some id->aw K.ai id=none)(ck:aK (bQ K (wrap64 ((K.F c).r g.toNat)) ((K.F c).r j.toNat)).1)(h:ae w χ L Y C K):
 Calls prog 168 #[(L.mb,0),(L.wb,i*38),(b,o),.agg #[.int .i64 48,a,g,j,.int .u64 S,R,T]] w (dk (.tuple #[]) χ L Y C K (bD C K i c ⟨48,a,g,j,S,R,T⟩) w):=by
 have H:=Z h;have t:=Z cd;have u:=Z ci;have c6:=Z cf;obtain⟨w0,ad,cA,O,D⟩:=h.pre 48 a g j S R T;obtain⟨et,ex⟩:=c8;obtain⟨al,c2⟩:∃y,(K.F c).r a.toNat=y:=⟨_,rfl⟩;have a4:=Z c2;have av:=Z (a9 a.toNat (by omega));rw[c2]at av;obtain⟨dr,dC⟩:=av.out;obtain⟨eA,eC⟩:=hb;obtain⟨l,c3⟩:∃y,(K.F c).r g.toNat=y:=⟨_,rfl⟩;have z:=Z c3;have bi:=Z (a9 g.toNat (by omega));rw[c3]at bi;obtain⟨dN,ec⟩:=bi.out;obtain⟨eL,eS⟩:=ce;obtain⟨M,c4⟩:∃y,(K.F c).r j.toNat=y:=⟨_,rfl⟩;have F:=Z c4;have bv:=Z (a9 j.toNat (by omega));rw[c4]at bv;obtain⟨en,es⟩:=bv.out;obtain⟨t0,t1,t2,t3,t4,t5,t6⟩:=D.1.c7;have r:=O.at_.aA t u a.toNat (by omega);rw[a4]at r;have I:=O.at_.aA t u g.toNat (by omega);rw[z]at I;have J:=O.at_.aA t u j.toNat (by omega);rw[F]at J;obtain⟨n,a5⟩:=nm C.bs.length;have N:=Z a5;have cW:(n:Int)<=2048:=by omega
 by_cases G:l<(n:Int)
 ·have cl:wrap64 l=l:=by unfold wrap64;omega
  have cS:IntKind.i64.wrap l=l:=IntWalk.i64_in _ (by omega);have W:=Z (fun w h=>xH (K:=K) (w:=w) (χ:=χ) (L:=L) (Y:=Y) (C:=C) (wrap64 l) M c9 cb c0 h);have m:=Z (And.intro (k6 (K:=K) (wrap64 l) M c0) (n9 (K:=K) (wrap64 l) M));have ab:=ck;rw[z,F]at ab;obtain⟨p,c1⟩:=nm (bQ K (wrap64 l) M);have am:=Z c1;rw[c1]at W m ab;rw[cl]at W;obtain⟨Q,K'⟩:=p;have ap:=Z ab;have G:=(show l<(C.bs.length:Int)by rw[a5];exact G);rw[a5]at G;have cC:=Z G;obtain⟨cm,cq⟩:=ap.out;dsimp only at cm cq W m;by_cases B:Q=0
  ·subst B
   have E:Hid (bD C K i c ⟨48,a,g,j,S,R,T⟩=K'.ax c a.toNat 0):=Z (by unfold bD;dsimp only;rw[if_pos rfl,z,F,N,if_pos G,am];rfl);go_in
   go_wp2
   try rw[ad]
   go_quiet (fail)
   obtain⟨w1,A⟩:=nm (w0.drewN nq);have x:Hid (Ch ag w0 w1):=Z (by rw[<-A];exact ay);rw[A];have f:=Z (O.af x);have d:Hid (aj K c/\aR L Y c b o):=Z ⟨t,u⟩;have s:=Z ((Nx.af x).row D.1 D.2);obtain⟨t0,t1,t2,t3,t4,t5,t6⟩:=s.1.c7;have r:=f.at_.aA d.1 d.2 a.toNat (by omega);rw[show((K:KS).F c).r a.toNat=al from a4.out]at r;have I:=f.at_.aA d.1 d.2 g.toNat (by omega);rw[show((K:KS).F c).r g.toNat=l from z.out]at I;have J:=f.at_.aA d.1 d.2 j.toNat (by omega);rw[show((K:KS).F c).r j.toNat=M from F.out]at J;have k1:=f.at_.c3;rw[N]at k1;go_wp2_with fail
   go_wp2
   go_still_tail 10,(by kernel_rfl)
   change wpList _ _ _ _ _ w1.drew;go_wp2_with fail
   refine(W _ f.at_.drew).mono ?_;rintro e w2 ⟨rfl,cs,c7,a1⟩;have q:=Z ((f.af ay).trans (Gr.refl _) a1);have V:=Z (((Nx.af (Ch.refl _ w1).drew).trans a1.nx).row s.1 s.2);have v:=Z (q.cur t u (m.1) (by rw[m.2]));obtain⟨t0,t1,t2,t3,t4,t5,t6⟩:=V.1.c7;have r:=q.at_.aA v.1 v.2 a.toNat (by omega);have bw:=q.at_.hy v.1 v.2 (o+1+a.toNat);have a2:=Z (q.at_.drew.a7 v.1 v.2 a.toNat (by omega) 0);have U:Hid (Gr K _):=Z (m.1);go_wp2
   go_still_tail 6,(by kernel_rfl)
   change wpList _ _ _ _ _ w2.drew;go_wp2
   go_end0
   rw[E];obtain⟨a3,a0,B⟩:=a2.out;exact⟨rfl,a3,a0,(q.af ay).trans U B⟩
  ·have E:Hid (bD C K i c ⟨48,a,g,j,S,R,T⟩=(ep K' i Q).ax c a.toNat Q):=Z (by unfold bD;dsimp only;rw[if_pos rfl,z,F,N,if_pos G,am];rw[if_pos B])
   go_in
   go_wp2
   try rw[ad]
   go_quiet (fail)
   obtain⟨w1,A⟩:=nm (w0.drewN nq);have x:Hid (Ch ag w0 w1):=Z (by rw[<-A];exact ay);rw[A];have f:=Z (O.af x);have d:Hid (aj K c/\aR L Y c b o):=Z ⟨t,u⟩;have s:=Z ((Nx.af x).row D.1 D.2);obtain⟨t0,t1,t2,t3,t4,t5,t6⟩:=s.1.c7;have r:=f.at_.aA d.1 d.2 a.toNat (by omega);rw[show((K:KS).F c).r a.toNat=al from a4.out]at r;have I:=f.at_.aA d.1 d.2 g.toNat (by omega);rw[show((K:KS).F c).r g.toNat=l from z.out]at I;have J:=f.at_.aA d.1 d.2 j.toNat (by omega);rw[show((K:KS).F c).r j.toNat=M from F.out]at J;have k1:=f.at_.c3;rw[N]at k1;go_wp2_with fail
   go_wp2
   go_still_tail 10,(by kernel_rfl)
   change wpList _ _ _ _ _ w1.drew;go_wp2_with fail
   refine(W _ f.at_.drew).mono ?_;rintro e w2 ⟨rfl,cs,c7,a1⟩;have q:=Z ((f.af ay).trans (Gr.refl _) a1);have V:=Z (((Nx.af (Ch.refl _ w1).drew).trans a1.nx).row s.1 s.2);have v:=Z (q.cur t u (m.1) (by rw[m.2]));obtain⟨t0,t1,t2,t3,t4,t5,t6⟩:=V.1.c7;have r:=q.at_.aA v.1 v.2 a.toNat (by omega);go_wp2_with fail
   refine(lU (K:=K') i (by rw[m.2];exact c6) Q ap q.at_).mono ?_;rintro e w3 ⟨rfl,eW,cL,bx⟩;have X:=Z (q.trans (m.1) bx);have c5:=Z (bx.nx.row V.1 V.2);have P:=Z (X.cur t u (m.1.trans (dV _ _ _)) (by rw[fE,m.2]));obtain⟨t0,t1,t2,t3,t4,t5,t6⟩:=c5.1.c7;have r:=X.at_.aA P.1 P.2 a.toNat (by omega);have bw:=X.at_.hy P.1 P.2 (o+1+a.toNat);have a2:=Z (X.at_.drew.a7 P.1 P.2 a.toNat (by omega) Q);have U:Hid (Gr K _):=Z (m.1.trans (dV K' i Q));go_wp2
   go_still_tail 6,(by kernel_rfl)
   change wpList _ _ _ _ _ w3.drew;go_wp2
   go_end0
   rw[E];obtain⟨a3,a0,B⟩:=a2.out;exact⟨rfl,a3,a0,(X.af ay).trans U B⟩
 ·have E:Hid (bD C K i c ⟨48,a,g,j,S,R,T⟩=K.ax c a.toNat 0):=Z (by unfold bD;dsimp only;rw[if_pos rfl,z,N,if_neg G])
  go_in
  go_wp2
  try rw[ad]
  go_quiet (fail)
  obtain⟨w1,A⟩:=nm (w0.drewN nq);have x:Hid (Ch ag w0 w1):=Z (by rw[<-A];exact ay);rw[A];have f:=Z (O.af x);have d:Hid (aj K c/\aR L Y c b o):=Z ⟨t,u⟩;have s:=Z ((Nx.af x).row D.1 D.2);obtain⟨t0,t1,t2,t3,t4,t5,t6⟩:=s.1.c7;have r:=f.at_.aA d.1 d.2 a.toNat (by omega);rw[show((K:KS).F c).r a.toNat=al from a4.out]at r;have I:=f.at_.aA d.1 d.2 g.toNat (by omega);rw[show((K:KS).F c).r g.toNat=l from z.out]at I;have J:=f.at_.aA d.1 d.2 j.toNat (by omega);rw[show((K:KS).F c).r j.toNat=M from F.out]at J;have k1:=f.at_.c3;rw[N]at k1;go_wp2_with fail
  have bw:=f.at_.hy d.1 d.2 (o+1+a.toNat);have a2:=Z (f.at_.drew.a7 d.1 d.2 a.toNat (by omega) 0);have U:Hid (Gr K _):=Z (Gr.refl K);go_wp2
  go_still_tail 6,(by kernel_rfl)
  change wpList _ _ _ _ _ w1.drew;go_wp2
  go_end0
  rw[E];obtain⟨a3,a0,B⟩:=a2.out;exact⟨rfl,a3,a0,(f.af ay).trans U B⟩
variable{pid:Int}{t:Thread}
def b3(K:KS)(pid v:Int):KS:=if(aw K.ai pid).isSome then K.cp pid {K.T pid with eY:=v}else K
theorem hP(h:aw K.ai pid=some t)(v:Int):b3 K pid v=K.cp pid {t with eY:=v}:=by unfold b3;rw[if_pos (by rw[h];rfl),KS.dm h]
theorem hQ(h:aw K.ai pid=none)(v:Int):b3 K pid v=K:=by unfold b3;rw[if_neg (by rw[h];simp)]
theorem hc(i:Nat)(c:cJ)(e g h l k m:Int){b d:Int}{f:Bool}{a:List (List fQ)}(hb:(K.F c).r g.toNat=b)(hd:(K.F c).r h.toNat=d)(j:eJ K.q b d=(pid,f,a)):
 bl K i c ⟨25,e,g,h,l,k,m⟩=if f then(if cz (b3 {K with q:=a,clock:=(K.clock.bp pid).2} pid 0) pid=3 then ep (b3 {K with q:=a,clock:=(K.clock.bp pid).2} pid 0) i pid else(b3 {K with q:=a,clock:=(K.clock.bp pid).2} pid 0)).ax c e.toNat pid else({K with q:=a}:KS).ax c e.toNat 0:=by
 unfold bl;dsimp only;rw[if_pos rfl,hb,hd,j];rfl
theorem uz(q:List (List fQ))(a m:Int):(eJ q a m).2.1=false->(eJ q a m).1=0:=by
 unfold eJ;split
 ·exact fun _=>rfl
 ·intro h;cases h
theorem qQ{id:Int}{b:Thread}(d:aw K.ai id=some t)(c:t.l.length<=b.l.length):Gr K (K.cp id b):=by
 intro j u a;show∃v,aw (cn K.ai id b) j=some v/\_
 rw[aV];by_cases e:j=id
 ·subst e
  rw[d]at a;injection a with a;subst a
  rw[if_pos rfl];exact⟨_,rfl,c⟩
 ·rw[if_neg e];exact⟨u,a,Nat.le_refl _⟩
theorem sA(i:Nat)(fn:i<K.wk.length)(c:cJ)(b o:Nat)(eW:aj K c)(fr:aR L Y c b o)(cA:∀k,k<32->aK ((K.F c).r k))(a g j V U W:Int)(eS:0<=a/\a<32)(hb:0<=g/\g<32)(fb:0<=j/\j<32)(fd:K.clock.Ok)(ck:aK (eJ K.q ((K.F c).r g.toNat) ((K.F c).r j.toNat)).1)(h:ae w χ L Y C K):
 Calls prog 169 #[(L.mb,0),(L.wb,i*38),(b,o),.agg #[.int .i64 25,a,g,j,.int .u64 V,U,W]] w (dk (.tuple #[]) χ L Y C K (bl K i c ⟨25,a,g,j,V,U,W⟩) w):=by
 have H:=Z h;have n:=Z eW;have r:=Z fr;have dN:=Z fn;obtain⟨w0,cb,g1,bw,X⟩:=h.pre 25 a g j V U W;obtain⟨g8,g9⟩:=eS;obtain⟨ce,ex⟩:∃y,(K.F c).r a.toNat=y:=⟨_,rfl⟩;have c4:=Z ex;have ec:=Z (cA a.toNat (by omega));rw[ex]at ec;obtain⟨g2,g3⟩:=ec.out;obtain⟨gc,ge⟩:=hb;obtain⟨c0,eA⟩:∃y,(K.F c).r g.toNat=y:=⟨_,rfl⟩;have S:=Z eA;have en:=Z (cA g.toNat (by omega));rw[eA]at en;obtain⟨g4,g5⟩:=en.out;obtain⟨gf,gk⟩:=fb;obtain⟨c1,eC⟩:∃y,(K.F c).r j.toNat=y:=⟨_,rfl⟩;have T:=Z eC;have es:=Z (cA j.toNat (by omega));rw[eC]at es;obtain⟨g6,g7⟩:=es.out;obtain⟨t0,t1,t2,t3,t4,t5,t6⟩:=X.1.c7;have A:=bw.at_.aA n r a.toNat (by omega);rw[c4]at A;have ab:=bw.at_.aA n r g.toNat (by omega);rw[S]at ab;have ad:=bw.at_.aA n r j.toNat (by omega);rw[T]at ad;rw[S,T]at ck;obtain⟨p,cs⟩:=nm (eJ K.q c0 c1);have c7:=Z cs;have c3:=Z (fun w h=>Ef (K:=K) (w:=w) (χ:=χ) (L:=L) (Y:=Y) (C:=C) c0 c1 h);have R:p.2.1=false->p.1=0:=by rw[<-cs];exact uz _ _ _
 rw[cs]at c3 ck;obtain⟨pid,fz,a9⟩:=p;dsimp only at R ck;have c2:=Z ck;have cf:=Z fd;cases fz
 ·obtain rfl:pid=0:=R rfl
  have E:Hid (bl K i c ⟨25,a,g,j,V,U,W⟩=({K with q:=a9}:KS).ax c a.toNat 0):=Z (by unfold bl;dsimp only;rw[if_pos rfl,S,T,c7];rfl);go_in
  go_wp2
  try rw[cb]
  go_quiet (fail)
  obtain⟨w1,M⟩:=nm (w0.drewN nq);have G:Hid (Ch ag w0 w1):=Z (by rw[<-M];exact ay);rw[M];have d:=Z (bw.af G);have f:Hid (aj K c/\aR L Y c b o):=Z ⟨n,r⟩;have v:=Z ((Nx.af G).row X.1 X.2);obtain⟨t0,t1,t2,t3,t4,t5,t6⟩:=v.1.c7;have A:=d.at_.aA f.1 f.2 a.toNat (by omega);rw[show((K:KS).F c).r a.toNat=ce from c4.out]at A;have ab:=d.at_.aA f.1 f.2 g.toNat (by omega);rw[show((K:KS).F c).r g.toNat=c0 from S.out]at ab;have ad:=d.at_.aA f.1 f.2 j.toNat (by omega);rw[show((K:KS).F c).r j.toNat=c1 from T.out]at ad;have k1:=d.at_.v8;go_wp2_with fail
  refine(c3 _ d.at_).mono ?_;rintro e w2 ⟨rfl,cl,ch,J⟩;have l:=Z (d.trans (Gr.refl _) J);have x:=Z (J.nx.row v.1 v.2);have al:=Z (l.cur n r (Gr.of_eq rfl) (rfl));obtain⟨t0,t1,t2,t3,t4,t5,t6⟩:=x.1.c7;have A:=l.at_.aA al.1 al.2 a.toNat (by omega);have ci:=l.at_.hy al.1 al.2 (o+1+a.toNat);have u:=Z (l.at_.drew.a7 al.1 al.2 a.toNat (by omega) 0);have am:Hid (Gr K _):=Z (Gr.of_eq rfl);go_wp2
  go_still_tail 6,(by kernel_rfl)
  change wpList _ _ _ _ _ w2.drew;go_wp2
  go_end0
  rw[E];obtain⟨bv,av,R⟩:=u.out;exact⟨rfl,bv,av,(l.af ay).trans am R⟩
 ·clear R
  cases et:aw K.ai pid with
  |none=>
   have I:=Z et;obtain⟨s,bi⟩:=mn (({K with q:=a9,clock:=(K.clock.bp pid).2}:KS));have c5:=Z bi;have c6:Hid (s=b3 ({K with q:=a9,clock:=(K.clock.bp pid).2}:KS) pid 0):=Z (by rw[bi];exact(hQ (by exact I) 0).symm);have O:Hid (Gr K s):=Z (by rw[bi];exact Gr.of_eq rfl);have ap:Hid (s.wk.length=K.wk.length):=Z (by rw[bi];try rfl);by_cases Q:cz s pid=3
   ·have a2:=Z Q
    have E:Hid (bl K i c ⟨25,a,g,j,V,U,W⟩=(ep s i pid).ax c a.toNat pid):=Z (by rw[hc i c a g j V U W S T c7,if_pos rfl,<-c6,if_pos a2.out]);go_in
    go_wp2
    try rw[cb]
    go_quiet (fail)
    obtain⟨w1,M⟩:=nm (w0.drewN nq);have G:Hid (Ch ag w0 w1):=Z (by rw[<-M];exact ay);rw[M];have d:=Z (bw.af G);have f:Hid (aj K c/\aR L Y c b o):=Z ⟨n,r⟩;have v:=Z ((Nx.af G).row X.1 X.2);obtain⟨t0,t1,t2,t3,t4,t5,t6⟩:=v.1.c7;have A:=d.at_.aA f.1 f.2 a.toNat (by omega);rw[show((K:KS).F c).r a.toNat=ce from c4.out]at A;have ab:=d.at_.aA f.1 f.2 g.toNat (by omega);rw[show((K:KS).F c).r g.toNat=c0 from S.out]at ab;have ad:=d.at_.aA f.1 f.2 j.toNat (by omega);rw[show((K:KS).F c).r j.toNat=c1 from T.out]at ad;have k1:=d.at_.v8;go_wp2_with fail
    refine(c3 _ d.at_).mono ?_;rintro e w2 ⟨rfl,cl,ch,J⟩;have l:=Z (d.trans (Gr.refl _) J);have x:=Z (J.nx.row v.1 v.2);have al:=Z (l.cur n r (Gr.of_eq rfl) (rfl));obtain⟨t0,t1,t2,t3,t4,t5,t6⟩:=x.1.c7;have k1:=l.at_.j2;go_wp2_with fail
    refine(kX pid (by exact cf) l.at_).mono ?_;rintro e w3 ⟨rfl,dC,c8,a4⟩;have m:=Z (l.trans (Gr.of_eq rfl) a4);have N:=Z (a4.nx.row x.1 x.2);have cq:=Z (m.cur n r (Gr.of_eq rfl) (rfl));obtain⟨t0,t1,t2,t3,t4,t5,t6⟩:=N.1.c7;have k1:=m.at_.hN;have F:=m.at_.look pid;rw[show aw (({K with q:=a9,clock:=(K.clock.bp pid).2}:KS)).ai pid=_ from I.out]at F;dsimp only[Option.map,Option.getD]at F;go_wp2_with fail
    have z:=m;rw[<-c5]at z;have a0:=N;have bx:=Z (z.cur n r O ap);refine(dd (K:=s) pid c2 z.at_).mono ?_;rintro e cd ⟨rfl,a5⟩;have B:=Z (z.af a5);have a1:=Z ((Nx.af a5).row a0.1 a0.2);have D:=bx;have Q:=a2.out;obtain⟨t0,t1,t2,t3,t4,t5,t6⟩:=a1.1.c7;rw[Q];go_wp2_with fail
    refine(lU (K:=s) i (by rw[ap];exact dN) pid c2 B.at_).mono ?_;rintro e dr ⟨rfl,g0,eL,c9⟩;have a3:=Z (B.trans (O) c9);have cm:=Z (c9.nx.row a1.1 a1.2);have P:=Z (a3.cur n r (O.trans (dV _ _ _)) (by rw[fE,ap]));obtain⟨t0,t1,t2,t3,t4,t5,t6⟩:=cm.1.c7;have A:=a3.at_.aA P.1 P.2 a.toNat (by omega);have ci:=a3.at_.hy P.1 P.2 (o+1+a.toNat);have u:=Z (a3.at_.drew.a7 P.1 P.2 a.toNat (by omega) pid);have am:Hid (Gr K _):=Z (O.trans (dV s i pid));go_wp2
    go_still_tail 6,(by kernel_rfl)
    change wpList _ _ _ _ _ dr.drew;go_wp2
    go_end0
    rw[E];obtain⟨bv,av,R⟩:=u.out;exact⟨rfl,bv,av,(a3.af ay).trans am R⟩
   ·have a2:=Z Q
    have E:Hid (bl K i c ⟨25,a,g,j,V,U,W⟩=(s).ax c a.toNat pid):=Z (by rw[hc i c a g j V U W S T c7,if_pos rfl,<-c6,if_neg a2.out]);go_in
    go_wp2
    try rw[cb]
    go_quiet (fail)
    obtain⟨w1,M⟩:=nm (w0.drewN nq);have G:Hid (Ch ag w0 w1):=Z (by rw[<-M];exact ay);rw[M];have d:=Z (bw.af G);have f:Hid (aj K c/\aR L Y c b o):=Z ⟨n,r⟩;have v:=Z ((Nx.af G).row X.1 X.2);obtain⟨t0,t1,t2,t3,t4,t5,t6⟩:=v.1.c7;have A:=d.at_.aA f.1 f.2 a.toNat (by omega);rw[show((K:KS).F c).r a.toNat=ce from c4.out]at A;have ab:=d.at_.aA f.1 f.2 g.toNat (by omega);rw[show((K:KS).F c).r g.toNat=c0 from S.out]at ab;have ad:=d.at_.aA f.1 f.2 j.toNat (by omega);rw[show((K:KS).F c).r j.toNat=c1 from T.out]at ad;have k1:=d.at_.v8;go_wp2_with fail
    refine(c3 _ d.at_).mono ?_;rintro e w2 ⟨rfl,cl,ch,J⟩;have l:=Z (d.trans (Gr.refl _) J);have x:=Z (J.nx.row v.1 v.2);have al:=Z (l.cur n r (Gr.of_eq rfl) (rfl));obtain⟨t0,t1,t2,t3,t4,t5,t6⟩:=x.1.c7;have k1:=l.at_.j2;go_wp2_with fail
    refine(kX pid (by exact cf) l.at_).mono ?_;rintro e w3 ⟨rfl,dC,c8,a4⟩;have m:=Z (l.trans (Gr.of_eq rfl) a4);have N:=Z (a4.nx.row x.1 x.2);have cq:=Z (m.cur n r (Gr.of_eq rfl) (rfl));obtain⟨t0,t1,t2,t3,t4,t5,t6⟩:=N.1.c7;have k1:=m.at_.hN;have F:=m.at_.look pid;rw[show aw (({K with q:=a9,clock:=(K.clock.bp pid).2}:KS)).ai pid=_ from I.out]at F;dsimp only[Option.map,Option.getD]at F;go_wp2_with fail
    have z:=m;rw[<-c5]at z;have a0:=N;have bx:=Z (z.cur n r O ap);refine(dd (K:=s) pid c2 z.at_).mono ?_;rintro e cd ⟨rfl,a5⟩;have B:=Z (z.af a5);have a1:=Z ((Nx.af a5).row a0.1 a0.2);have D:=bx;have Q:=a2.out;obtain⟨t0,t1,t2,t3,t4,t5,t6⟩:=a1.1.c7;have A:=B.at_.aA D.1 D.2 a.toNat (by omega);obtain⟨st,cC⟩:=nm (cz s pid);rw[cC]at Q⊢;go_wp2
    have ci:=B.at_.hy D.1 D.2 (o+1+a.toNat);have u:=Z (B.at_.drew.a7 D.1 D.2 a.toNat (by omega) pid);have am:Hid (Gr K _):=Z (O);go_still_tail 6,(by kernel_rfl)
    change wpList _ _ _ _ _ cd.drew;go_wp2
    go_end0
    rw[E];obtain⟨bv,av,R⟩:=u.out;exact⟨rfl,bv,av,(B.af ay).trans am R⟩
  |some t=>
   have I:=Z et;obtain⟨s,bi⟩:=mn ((({K with q:=a9,clock:=(K.clock.bp pid).2}:KS).cp pid {t with eY:=0}));have c5:=Z bi;have c6:Hid (s=b3 ({K with q:=a9,clock:=(K.clock.bp pid).2}:KS) pid 0):=Z (by rw[bi];exact(hP (by exact I) 0).symm);have O:Hid (Gr K s):=Z (by rw[bi];exact Gr.trans (K1:=({K with q:=a9,clock:=(K.clock.bp pid).2}:KS)) (Gr.of_eq rfl) (qQ (K:=({K with q:=a9,clock:=(K.clock.bp pid).2}:KS)) (t:=t) (by exact I) (Nat.le_refl _)));have ap:Hid (s.wk.length=K.wk.length):=Z (by rw[bi];try rfl);by_cases Q:cz s pid=3
   ·have a2:=Z Q
    have E:Hid (bl K i c ⟨25,a,g,j,V,U,W⟩=(ep s i pid).ax c a.toNat pid):=Z (by rw[hc i c a g j V U W S T c7,if_pos rfl,<-c6,if_pos a2.out]);go_in
    go_wp2
    try rw[cb]
    go_quiet (fail)
    obtain⟨w1,M⟩:=nm (w0.drewN nq);have G:Hid (Ch ag w0 w1):=Z (by rw[<-M];exact ay);rw[M];have d:=Z (bw.af G);have f:Hid (aj K c/\aR L Y c b o):=Z ⟨n,r⟩;have v:=Z ((Nx.af G).row X.1 X.2);obtain⟨t0,t1,t2,t3,t4,t5,t6⟩:=v.1.c7;have A:=d.at_.aA f.1 f.2 a.toNat (by omega);rw[show((K:KS).F c).r a.toNat=ce from c4.out]at A;have ab:=d.at_.aA f.1 f.2 g.toNat (by omega);rw[show((K:KS).F c).r g.toNat=c0 from S.out]at ab;have ad:=d.at_.aA f.1 f.2 j.toNat (by omega);rw[show((K:KS).F c).r j.toNat=c1 from T.out]at ad;have k1:=d.at_.v8;go_wp2_with fail
    refine(c3 _ d.at_).mono ?_;rintro e w2 ⟨rfl,cl,ch,J⟩;have l:=Z (d.trans (Gr.refl _) J);have x:=Z (J.nx.row v.1 v.2);have al:=Z (l.cur n r (Gr.of_eq rfl) (rfl));obtain⟨t0,t1,t2,t3,t4,t5,t6⟩:=x.1.c7;have k1:=l.at_.j2;go_wp2_with fail
    refine(kX pid (by exact cf) l.at_).mono ?_;rintro e w3 ⟨rfl,dC,c8,a4⟩;have m:=Z (l.trans (Gr.of_eq rfl) a4);have N:=Z (a4.nx.row x.1 x.2);have cq:=Z (m.cur n r (Gr.of_eq rfl) (rfl));obtain⟨t0,t1,t2,t3,t4,t5,t6⟩:=N.1.c7;have k1:=m.at_.hN;have F:=m.at_.look pid;rw[show aw (({K with q:=a9,clock:=(K.clock.bp pid).2}:KS)).ai pid=_ from I.out]at F;dsimp only[Option.map,Option.getD]at F;unfold bk at F;have cS:=m.at_.FR (id:=pid) (t:=t) (by exact I);have cW:=m.at_.sf (id:=pid) (t:=t) (by exact I) 2;have u:=Z (m.at_.hz (id:=pid) (t:=t) (by exact I) 0);obtain⟨tb,cL⟩:=nm (c8.bI pid);rw[cL]at F cS cW u;go_wp2_with fail
    obtain⟨w4,cQ⟩:=nm (w3.setCell (tb,2) (.int .u64 0));rw[cQ]at u⊢;rw[<-c5]at u;have z:=Z (m.trans (Gr.of_eq rfl) u);have a0:=Z (u.nx.row N.1 N.2);have bx:=Z (z.cur n r O ap);refine(dd (K:=s) pid c2 z.at_).mono ?_;rintro e cd ⟨rfl,a5⟩;have B:=Z (z.af a5);have a1:=Z ((Nx.af a5).row a0.1 a0.2);have D:=bx;have Q:=a2.out;obtain⟨t0,t1,t2,t3,t4,t5,t6⟩:=a1.1.c7;rw[Q];go_wp2_with fail
    refine(lU (K:=s) i (by rw[ap];exact dN) pid c2 B.at_).mono ?_;rintro e dr ⟨rfl,g0,eL,c9⟩;have a3:=Z (B.trans (O) c9);have cm:=Z (c9.nx.row a1.1 a1.2);have P:=Z (a3.cur n r (O.trans (dV _ _ _)) (by rw[fE,ap]));obtain⟨t0,t1,t2,t3,t4,t5,t6⟩:=cm.1.c7;have A:=a3.at_.aA P.1 P.2 a.toNat (by omega);have ci:=a3.at_.hy P.1 P.2 (o+1+a.toNat);have u:=Z (a3.at_.drew.a7 P.1 P.2 a.toNat (by omega) pid);have am:Hid (Gr K _):=Z (O.trans (dV s i pid));go_wp2
    go_still_tail 6,(by kernel_rfl)
    change wpList _ _ _ _ _ dr.drew;go_wp2
    go_end0
    rw[E];obtain⟨bv,av,R⟩:=u.out;exact⟨rfl,bv,av,(a3.af ay).trans am R⟩
   ·have a2:=Z Q
    have E:Hid (bl K i c ⟨25,a,g,j,V,U,W⟩=(s).ax c a.toNat pid):=Z (by rw[hc i c a g j V U W S T c7,if_pos rfl,<-c6,if_neg a2.out]);go_in
    go_wp2
    try rw[cb]
    go_quiet (fail)
    obtain⟨w1,M⟩:=nm (w0.drewN nq);have G:Hid (Ch ag w0 w1):=Z (by rw[<-M];exact ay);rw[M];have d:=Z (bw.af G);have f:Hid (aj K c/\aR L Y c b o):=Z ⟨n,r⟩;have v:=Z ((Nx.af G).row X.1 X.2);obtain⟨t0,t1,t2,t3,t4,t5,t6⟩:=v.1.c7;have A:=d.at_.aA f.1 f.2 a.toNat (by omega);rw[show((K:KS).F c).r a.toNat=ce from c4.out]at A;have ab:=d.at_.aA f.1 f.2 g.toNat (by omega);rw[show((K:KS).F c).r g.toNat=c0 from S.out]at ab;have ad:=d.at_.aA f.1 f.2 j.toNat (by omega);rw[show((K:KS).F c).r j.toNat=c1 from T.out]at ad;have k1:=d.at_.v8;go_wp2_with fail
    refine(c3 _ d.at_).mono ?_;rintro e w2 ⟨rfl,cl,ch,J⟩;have l:=Z (d.trans (Gr.refl _) J);have x:=Z (J.nx.row v.1 v.2);have al:=Z (l.cur n r (Gr.of_eq rfl) (rfl));obtain⟨t0,t1,t2,t3,t4,t5,t6⟩:=x.1.c7;have k1:=l.at_.j2;go_wp2_with fail
    refine(kX pid (by exact cf) l.at_).mono ?_;rintro e w3 ⟨rfl,dC,c8,a4⟩;have m:=Z (l.trans (Gr.of_eq rfl) a4);have N:=Z (a4.nx.row x.1 x.2);have cq:=Z (m.cur n r (Gr.of_eq rfl) (rfl));obtain⟨t0,t1,t2,t3,t4,t5,t6⟩:=N.1.c7;have k1:=m.at_.hN;have F:=m.at_.look pid;rw[show aw (({K with q:=a9,clock:=(K.clock.bp pid).2}:KS)).ai pid=_ from I.out]at F;dsimp only[Option.map,Option.getD]at F;unfold bk at F;have cS:=m.at_.FR (id:=pid) (t:=t) (by exact I);have cW:=m.at_.sf (id:=pid) (t:=t) (by exact I) 2;have u:=Z (m.at_.hz (id:=pid) (t:=t) (by exact I) 0);obtain⟨tb,cL⟩:=nm (c8.bI pid);rw[cL]at F cS cW u;go_wp2_with fail
    obtain⟨w4,cQ⟩:=nm (w3.setCell (tb,2) (.int .u64 0));rw[cQ]at u⊢;rw[<-c5]at u;have z:=Z (m.trans (Gr.of_eq rfl) u);have a0:=Z (u.nx.row N.1 N.2);have bx:=Z (z.cur n r O ap);refine(dd (K:=s) pid c2 z.at_).mono ?_;rintro e cd ⟨rfl,a5⟩;have B:=Z (z.af a5);have a1:=Z ((Nx.af a5).row a0.1 a0.2);have D:=bx;have Q:=a2.out;obtain⟨t0,t1,t2,t3,t4,t5,t6⟩:=a1.1.c7;have A:=B.at_.aA D.1 D.2 a.toNat (by omega);obtain⟨st,cC⟩:=nm (cz s pid);rw[cC]at Q⊢;go_wp2
    have ci:=B.at_.hy D.1 D.2 (o+1+a.toNat);have u:=Z (B.at_.drew.a7 D.1 D.2 a.toNat (by omega) pid);have am:Hid (Gr K _):=Z (O);go_still_tail 6,(by kernel_rfl)
    change wpList _ _ _ _ _ cd.drew;go_wp2
    go_end0
    rw[E];obtain⟨bv,av,R⟩:=u.out;exact⟨rfl,bv,av,(B.af ay).trans am R⟩
theorem sB(i:Nat)(bx:i<K.wk.length)(c:cJ)(b o:Nat)(bv:aj K c)(c0:aR L Y c b o)(W:∀k,k<32->aK ((K.F c).r k))(a f g M J N:Int)(bi:0<=a/\a<32)(hb:0<=f/\f<32)(bw:0<=g/\g<32)(h:ae w χ L Y C K):
 Calls prog 169 #[(L.mb,0),(L.wb,i*38),(b,o),.agg #[.int .i64 27,a,f,g,.int .u64 M,J,N]] w (dk (.tuple #[]) χ L Y C K (bl K i c ⟨27,a,f,g,M,J,N⟩) w):=by
 have H:=Z h;have s:=Z bv;have x:=Z c0;have c2:=Z bx;obtain⟨w0,ab,c1,B,r⟩:=h.pre 27 a f g M J N;obtain⟨c9,cb⟩:=bi;obtain⟨ap,ad⟩:∃y,(K.F c).r a.toNat=y:=⟨_,rfl⟩;have T:=Z ad;have a3:=Z (W a.toNat (by omega));rw[ad]at a3;obtain⟨c3,c4⟩:=a3.out;obtain⟨cd,ce⟩:=hb;obtain⟨O,al⟩:∃y,(K.F c).r f.toNat=y:=⟨_,rfl⟩;have z:=Z al;have a4:=Z (W f.toNat (by omega));rw[al]at a4;obtain⟨c5,c6⟩:=a4.out;obtain⟨cf,ch⟩:=bw;obtain⟨P,am⟩:∃y,(K.F c).r g.toNat=y:=⟨_,rfl⟩;have A:=Z am;have a5:=Z (W g.toNat (by omega));rw[am]at a5;obtain⟨c7,c8⟩:=a5.out;obtain⟨t0,t1,t2,t3,t4,t5,t6⟩:=r.1.c7;have p:=B.at_.aA s x a.toNat (by omega);rw[T]at p;have G:=B.at_.aA s x f.toNat (by omega);rw[z]at G;have I:=B.at_.aA s x g.toNat (by omega);rw[A]at I;obtain⟨q,a9⟩:=nm (xm K.q O P);have a2:=Z a9;have S:=Z (fun w h=>FP (K:=K) (w:=w) (χ:=χ) (L:=L) (Y:=Y) (C:=C) O P h);rw[a9]at S;cases q
 ·have E:Hid (bl K i c ⟨27,a,f,g,M,J,N⟩=K.ax c a.toNat 0):=Z (by unfold bl;dsimp only;rw[if_neg (by decide),if_neg (by decide),if_pos rfl,z,A,a2];rfl)
  go_in
  go_wp2
  try rw[ab]
  go_quiet (fail)
  obtain⟨w1,D⟩:=nm (w0.drewN nq);have u:Hid (Ch ag w0 w1):=Z (by rw[<-D];exact ay);rw[D];have j:=Z (B.af u);have d:Hid (aj K c/\aR L Y c b o):=Z ⟨s,x⟩;have n:=Z ((Nx.af u).row r.1 r.2);obtain⟨t0,t1,t2,t3,t4,t5,t6⟩:=n.1.c7;have p:=j.at_.aA d.1 d.2 a.toNat (by omega);rw[show((K:KS).F c).r a.toNat=ap from T.out]at p;have G:=j.at_.aA d.1 d.2 f.toNat (by omega);rw[show((K:KS).F c).r f.toNat=O from z.out]at G;have I:=j.at_.aA d.1 d.2 g.toNat (by omega);rw[show((K:KS).F c).r g.toNat=P from A.out]at I;have k1:=j.at_.v8;go_wp2_with fail
  refine(S _ j.at_).mono ?_;rintro e w2 ⟨rfl,a0,rfl⟩;obtain⟨w3,F⟩:=nm (w1.drewN a0);have v:Hid (Ch ag w1 w3):=Z (by rw[<-F];exact ay);rw[F];have m:=Z (j.af v);have R:=Z ((Nx.af v).row n.1 n.2);have l:=d;obtain⟨t0,t1,t2,t3,t4,t5,t6⟩:=R.1.c7;have p:=m.at_.aA l.1 l.2 a.toNat (by omega);have av:=m.at_.hy l.1 l.2 (o+1+a.toNat);have V:=Z (m.at_.drew.a7 l.1 l.2 a.toNat (by omega) 0);have Q:Hid (Gr K _):=Z (Gr.refl K);go_wp2
  go_still_tail 6,(by kernel_rfl)
  change wpList _ _ _ _ _ w3.drew;go_wp2
  go_end0
  rw[E];obtain⟨a1,U,X⟩:=V.out;exact⟨rfl,a1,U,(m.af ay).trans Q X⟩
 ·have E:Hid (bl K i c ⟨27,a,f,g,M,J,N⟩=K.ax c a.toNat 1):=Z (by unfold bl;dsimp only;rw[if_neg (by decide),if_neg (by decide),if_pos rfl,z,A,a2];rfl)
  go_in
  go_wp2
  try rw[ab]
  go_quiet (fail)
  obtain⟨w1,D⟩:=nm (w0.drewN nq);have u:Hid (Ch ag w0 w1):=Z (by rw[<-D];exact ay);rw[D];have j:=Z (B.af u);have d:Hid (aj K c/\aR L Y c b o):=Z ⟨s,x⟩;have n:=Z ((Nx.af u).row r.1 r.2);obtain⟨t0,t1,t2,t3,t4,t5,t6⟩:=n.1.c7;have p:=j.at_.aA d.1 d.2 a.toNat (by omega);rw[show((K:KS).F c).r a.toNat=ap from T.out]at p;have G:=j.at_.aA d.1 d.2 f.toNat (by omega);rw[show((K:KS).F c).r f.toNat=O from z.out]at G;have I:=j.at_.aA d.1 d.2 g.toNat (by omega);rw[show((K:KS).F c).r g.toNat=P from A.out]at I;have k1:=j.at_.v8;go_wp2_with fail
  refine(S _ j.at_).mono ?_;rintro e w2 ⟨rfl,a0,rfl⟩;obtain⟨w3,F⟩:=nm (w1.drewN a0);have v:Hid (Ch ag w1 w3):=Z (by rw[<-F];exact ay);rw[F];have m:=Z (j.af v);have R:=Z ((Nx.af v).row n.1 n.2);have l:=d;obtain⟨t0,t1,t2,t3,t4,t5,t6⟩:=R.1.c7;have p:=m.at_.aA l.1 l.2 a.toNat (by omega);have av:=m.at_.hy l.1 l.2 (o+1+a.toNat);have V:=Z (m.at_.drew.a7 l.1 l.2 a.toNat (by omega) 1);have Q:Hid (Gr K _):=Z (Gr.refl K);go_wp2
  go_still_tail 6,(by kernel_rfl)
  change wpList _ _ _ _ _ w3.drew;go_wp2
  go_end0
  rw[E];obtain⟨a1,U,X⟩:=V.out;exact⟨rfl,a1,U,(m.af ay).trans Q X⟩
theorem sD(i:Nat)(am:i<K.wk.length)(c:cJ)(b o:Nat)(ad:aj K c)(ap:aR L Y c b o)(G:∀k,k<32->aK ((K.F c).r k))(a d f x v z:Int)(ab:0<=a/\a<32)(hb:0<=d/\d<32)(al:0<=f/\f<32)(h:ae w χ L Y C K):
 Calls prog 169 #[(L.mb,0),(L.wb,i*38),(b,o),.agg #[.int .i64 26,a,d,f,.int .u64 x,v,z]] w (dk (.tuple #[]) χ L Y C K (bl K i c ⟨26,a,d,f,x,v,z⟩) w):=by
 have H:=Z h;have m:=Z ad;have n:=Z ap;have c1:=Z am;obtain⟨w0,av,c0,s,A⟩:=h.pre 26 a d f x v z;obtain⟨cd,ce⟩:=ab;obtain⟨bw,X⟩:∃y,(K.F c).r a.toNat=y:=⟨_,rfl⟩;have T:=Z X;have Q:=Z (G a.toNat (by omega));rw[X]at Q;obtain⟨c5,c6⟩:=Q.out;obtain⟨cf,ch⟩:=hb;obtain⟨M,a0⟩:∃y,(K.F c).r d.toNat=y:=⟨_,rfl⟩;have D:=Z a0;have R:=Z (G d.toNat (by omega));rw[a0]at R;obtain⟨c7,c8⟩:=R.out;obtain⟨ci,ck⟩:=al;obtain⟨N,a1⟩:∃y,(K.F c).r f.toNat=y:=⟨_,rfl⟩;have F:=Z a1;have S:=Z (G f.toNat (by omega));rw[a1]at S;obtain⟨c9,cb⟩:=S.out;obtain⟨t0,t1,t2,t3,t4,t5,t6⟩:=A.1.c7;have u:=s.at_.aA m n a.toNat (by omega);rw[T]at u;have I:=s.at_.aA m n d.toNat (by omega);rw[D]at I;have J:=s.at_.aA m n f.toNat (by omega);rw[F]at J;obtain⟨p,V⟩:=nm (ij K.q M N);have a4:=Z V;have P:=Z (fun w h=>Eg (K:=K) (w:=w) (χ:=χ) (L:=L) (Y:=Y) (C:=C) M N h);rw[V]at P;obtain⟨pid,c4,bv⟩:=p;have E:Hid (bl K i c ⟨26,a,d,f,x,v,z⟩=({K with q:=bv}:KS).ax c a.toNat pid):=Z (by unfold bl;dsimp only;rw[if_neg (by decide),if_pos rfl,D,F,a4]);go_in
 go_wp2
 try rw[av]
 go_quiet (fail)
 obtain⟨w1,W⟩:=nm (w0.drewN nq);have O:Hid (Ch ag w0 w1):=Z (by rw[<-W];exact ay);rw[W];have g:=Z (s.af O);have j:Hid (aj K c/\aR L Y c b o):=Z ⟨m,n⟩;have B:=Z ((Nx.af O).row A.1 A.2);obtain⟨t0,t1,t2,t3,t4,t5,t6⟩:=B.1.c7;have u:=g.at_.aA j.1 j.2 a.toNat (by omega);rw[show((K:KS).F c).r a.toNat=bw from T.out]at u;have I:=g.at_.aA j.1 j.2 d.toNat (by omega);rw[show((K:KS).F c).r d.toNat=M from D.out]at I;have J:=g.at_.aA j.1 j.2 f.toNat (by omega);rw[show((K:KS).F c).r f.toNat=N from F.out]at J;have k1:=g.at_.v8;go_wp2_with fail
 refine(P _ g.at_).mono ?_;rintro e w2 ⟨rfl,cl,c2,U⟩;have r:=Z (g.trans (Gr.refl _) U);have a3:=Z (U.nx.row B.1 B.2);have l:=Z (r.cur m n (Gr.of_eq rfl) (rfl));obtain⟨t0,t1,t2,t3,t4,t5,t6⟩:=a3.1.c7;have u:=r.at_.aA l.1 l.2 a.toNat (by omega);have c3:=r.at_.hy l.1 l.2 (o+1+a.toNat);have a9:=Z (r.at_.drew.a7 l.1 l.2 a.toNat (by omega) pid);have a2:Hid (Gr K _):=Z (Gr.of_eq rfl);go_wp2
 go_still_tail 6,(by kernel_rfl)
 change wpList _ _ _ _ _ w2.drew;go_wp2
 go_end0
 rw[E];obtain⟨bx,a5,bi⟩:=a9.out;exact⟨rfl,bx,a5,(r.af ay).trans a2 bi⟩
variable{w':World}
def Eo(l:List Int)(χ:Nat->a')(L:cU)(Y:Var)(C:KC)(K K':KS)(w:World)(e:Ending)(w':World):Prop:=
 ∃u aY Y',e=.returned u/\w'.ownsRow w.heap.size 39 1 u l.length (l.map (Value.int .u64))/\(∀g,u.ownBlock=some g->w.heap.size<=g/\aY g=.no)/\dD χ L Y C K K' w aY Y' w'
theorem Ep(d:K.clock.Ok)(h:ae w χ L Y C K):Calls prog 82 #[(L.cb,0)] w (Eo K.clock.tick.2 χ L Y C K {K with clock:=K.clock.tick.1} w):=
 (o' L.cb L.ch L.cm L.cq Y.hv K.clock d.len d.wf w (h.b2 (by simp)).is).mono fun _ _ ⟨⟨u,e,a⟩,⟨v,c,f⟩,i⟩=>
  ⟨u,_,_,e,a,fun g b=>⟨zY a g b,by
   have j:χ g=.no:=h.fresh (zY a g b);unfold cN;rw[if_neg (kH a c.heap.own (by decide) b)];exact j⟩,h.zS c f i⟩
def jr(K:KS)(l:List Int):KS:=l.foldl cy K
theorem kk(K:KS)(id:Int):cy K id=(if cz (b3 {K with q:=(dw K.q id).2} id 110) id=3 then cr (b3 {K with q:=(dw K.q id).2} id 110) id else b3 {K with q:=(dw K.q id).2} id 110):=rfl
theorem jU(K:KS)(id v:Int):Gr K (b3 K id v):=by
 cases h:aw K.ai id with
 |none=>rw[hQ h];exact Gr.refl _
 |some t=>rw[hP h];exact qQ h (Nat.le_refl _)
theorem uC(K:KS)(id:Int):Gr K (cy K id):=by
 rw[kk];have h:=(Gr.of_eq (K:=K) (K':={K with q:=(dw K.q id).2}) rfl).trans (jU _ id 110);split
 ·exact h.trans (Gr.of_eq rfl)
 ·exact h
theorem yd(K:KS)(l:List Int):Gr K (jr K l):=by
 induction l generalizing K with
 |nil=>exact Gr.refl _
 |cons x l ih=>exact(uC K x).trans (ih _)
theorem sG(K:KS)(l:List Int)(x:Int):jr K (l++[x])=cy (jr K l) x:=by unfold jr;rw[List.foldl_append];rfl
theorem ye(cs:K.clock.Ok)(c6:∀x∈K.clock.tick.2,aK x)(hlen:K.clock.tick.2.length<=900000)(hb:K.out.length<=900000)(h:ae w χ L Y C K):Calls prog 42 #[(L.mb,0)] w (dk (.tuple #[]) χ L Y C K (hs K) w):=by
 have H:=Z h;have cm:=Z (Ep cs h);obtain⟨p,c4⟩:=nm K.clock.tick;rw[c4]at cm c6 hlen;have g2:=Z c4;obtain⟨eS,l⟩:=p;dsimp only at c6 hlen;have et:=Z c6;have g0:=Z hb;obtain⟨N,cb⟩:=nm l.length;have av:=Z cb;rw[cb]at hlen;obtain⟨K1,a0⟩:=mn (({K with clock:=eS}:KS));have cW:=Z a0;obtain⟨S,c0⟩:=mn (tell K1 ⟨6,0,0,0,0,0,0,0,0,K1.clock.now,0⟩);have dr:=Z c0;have ci:Hid (Gr K K1):=Z (by rw[a0];exact Gr.of_eq rfl);have cS:Hid (Gr K S):=Z (by rw[c0];exact ci.trans (Gr.of_eq rfl));have ec:Hid (K1.out.length<=900000):=Z (by rw[a0];exact hb);have E:Hid (hs K=jr S l):=Z (by unfold hs;dsimp only;rw[c4,c0,a0];rfl);have k0:=h.j2;clear h cs c4 c6 hb cb a0 c0;go_in
 go_wp2_with fail
 refine cm.mono ?_;rintro e w1 ⟨u,dZ,Y1,rfl,ce,cA,bx⟩;try dsimp only at bx ce
 rw[<-cW]at bx;have bv:=Z bx;have bi:=Z ce;have cl:=Z cA;rw[av]at bi;clear bx ce cA k0;obtain⟨U,V,rfl⟩:=au bi;have k1:=bv.at_.j2;have dN:=Z (FO bv.at_);go_wp2_with fail
 refine dN.mono ?_;rintro e w2 ⟨rfl,rfl⟩;go_wp2_with fail
 refine(dI (K:=K1) 6 0 0 0 0 0 0 0 0 K1.clock.now 0 ec bv.at_).mono ?_;rintro e w2 ⟨rfl,cQ,eA,W⟩;rw[<-dr]at W;have ex:=Z (bv.trans ci W);have en:Hid (w2.ownsRow w.heap.size 39 1 (.slice U N V) N (l.map (Value.int .u64))):=Z (ak bi W.nx.ch (fun g a e=>e (cl g a).2));have dC:Hid (∀g,(Value.slice U N V).ownBlock=some g->cQ g=.no):=Z (fun g a=>(W.nx.same g (cE bi a)).trans (cl g a).2);clear W k1;go_wp2
 go_loopg [21] (N+1) (fun gk i wr=>∃k:Nat,k<=N/\gk=N-k+1/\i=.int .i64 k/\Hid (∃aY Y',dD χ L Y C K (jr S (l.take k)) w aY Y' wr/\wr.ownsRow w.heap.size 39 1 (.slice U N V) N (l.map (Value.int .u64))/\∀g,(Value.slice U N V).ownBlock=some g->aY g=.no))
 case atStart=>exact⟨0,by omega,by omega,rfl,cQ,eA,ex,en,dC⟩
 case round=>
  obtain⟨k,g4,rfl,rfl,es⟩:=hrel;obtain⟨fz,eC,X,c3,cd⟩:=es.out;by_cases Q:k<N
  ·obtain⟨cq,eL,g5,cL,eW,fd,fb,cC,_⟩:=aE c3 (by omega)
   obtain⟨rfl,rfl⟩:U=some ⟨cq,0,none⟩/\V=eL:=by simpa using cL
   obtain⟨x,a5⟩:∃x,l[k]?=some x:=⟨_,List.getElem?_eq_getElem (by rw[av];exact Q)⟩;have g3:=Z a5;have P:Hid (aK x):=Z (et x (List.mem_of_getElem? a5));have bw:wr.cell? (cq,k)=some (.int .u64 x):=cC.cell (by rw[List.getElem?_append_left (by rw[List.length_map,av];exact Q),List.getElem?_map,a5];rfl);obtain⟨c8,a1⟩:=nm (jr S (l.take k));rw[a1]at X;have g1:=Z a1;have R:Hid (Gr K c8):=Z (by rw[<-a1];exact cS.trans (yd _ _));have y:=Z X;have B:=Z c3;have A:=Z cd;obtain⟨T,c1⟩:=mn (({c8 with q:=(dw c8.q x).2}:KS));have am:=Z c1;have c7:Hid (Gr K T):=Z (by rw[c1];exact R.trans (Gr.of_eq rfl));obtain⟨n,c2⟩:=mn (b3 T x 110);have ap:=Z c2;have ck:Hid (Gr K n):=Z (by rw[c2];exact c7.trans (jU _ _ _));have al:Hid (jr S (l.take (k+1))=if cz n x=3 then cr n x else n):=Z (by rw[List.take_add_one,a5,show(some x).toList=[x]from rfl,sG,a1,kk,<-c1,<-c2]);clear X c3 cd a5 cC cL eW fd fb a1 c1 c2;have k3:=y.at_.v8;cases c5:aw T.ai x with
   |none=>
    have j:=Z c5;clear c5;by_cases f:cz n x=3
    ·have s:=Z f
     clear f;go_wp2_with fail
     refine(nY x y.at_).mono ?_;rintro e w4 ⟨rfl,ad,J,c⟩;rw[<-am]at c;have b:=Z (y.trans R c);have D:=Z c.nx;clear c k3 bw;have O:=b.at_.hN;have d:=b.at_.look x;rw[j]at d;dsimp only[Option.map,Option.getD]at d;go_wp2_with fail
     clear d O;have o:=b;rw[<-hQ (K:=T) j 110,<-ap]at o;have F:=D;refine(dd (K:=n) x P o.at_).mono ?_;rintro e cf ⟨rfl,m⟩;have z:=Z (o.af m);have G:=Z (F.trans (Nx.af m));clear m;have f:=s.out;rw[f];go_wp2_with fail
     refine(fh (K:=n) x P z.at_).mono ?_;rintro e fr ⟨rfl,ch,c9,M⟩;have I:=Z (z.trans ck M);have v:=Z (G.trans M.nx);clear M f;go_wp2
     go_roundg (N-(k+1)+1)
     case measure=>omega
     case rel=>
      refine⟨k+1,Q,rfl,by congr 1,ch,c9,?_,ak B v.ch (fun g a e=>e (A g a)),fun g a=>(v.same g (cE B a)).trans (A g a)⟩;rw[al,if_pos s.out];exact I
    ·have s:=Z f
     clear f;go_wp2_with fail
     refine(nY x y.at_).mono ?_;rintro e w4 ⟨rfl,ad,J,c⟩;rw[<-am]at c;have b:=Z (y.trans R c);have D:=Z c.nx;clear c k3 bw;have O:=b.at_.hN;have d:=b.at_.look x;rw[j]at d;dsimp only[Option.map,Option.getD]at d;go_wp2_with fail
     clear d O;have o:=b;rw[<-hQ (K:=T) j 110,<-ap]at o;have F:=D;refine(dd (K:=n) x P o.at_).mono ?_;rintro e cf ⟨rfl,m⟩;have z:=Z (o.af m);have G:=Z (F.trans (Nx.af m));clear m;have f:=s.out;obtain⟨st,a2⟩:=nm (cz n x);rw[a2]at f⊢;clear a2;go_wp2
     have I:=z;have v:=G;go_roundg (N-(k+1)+1)
     case measure=>omega
     case rel=>
      refine⟨k+1,Q,rfl,by congr 1,ad,J,?_,ak B v.ch (fun g a e=>e (A g a)),fun g a=>(v.same g (cE B a)).trans (A g a)⟩;rw[al,if_neg s.out];exact I
   |some t=>
    have j:=Z c5;clear c5;by_cases f:cz n x=3
    ·have s:=Z f
     clear f;go_wp2_with fail
     refine(nY x y.at_).mono ?_;rintro e w4 ⟨rfl,ad,J,c⟩;rw[<-am]at c;have b:=Z (y.trans R c);have D:=Z c.nx;clear c k3 bw;have O:=b.at_.hN;have d:=b.at_.look x;rw[j]at d;dsimp only[Option.map,Option.getD]at d;unfold bk at d;have a9:=b.at_.FR (id:=x) (t:=t) j;have ab:=b.at_.sf (id:=x) (t:=t) j 2;have r:=Z (b.at_.hz (id:=x) (t:=t) j 110);obtain⟨tb,a3⟩:=nm (J.bI x);rw[a3]at d a9 ab r;clear a3;go_wp2_with fail
     obtain⟨fn,a4⟩:=nm (w4.setCell (tb,2) (.int .u64 110));rw[a4]at r⊢;clear a4 a9 ab d O;rw[<-hP j,<-ap]at r;have o:=Z (b.trans c7 r);have F:=Z (D.trans r.nx);clear r;refine(dd (K:=n) x P o.at_).mono ?_;rintro e cf ⟨rfl,m⟩;have z:=Z (o.af m);have G:=Z (F.trans (Nx.af m));clear m;have f:=s.out;rw[f];go_wp2_with fail
     refine(fh (K:=n) x P z.at_).mono ?_;rintro e fr ⟨rfl,ch,c9,M⟩;have I:=Z (z.trans ck M);have v:=Z (G.trans M.nx);clear M f;go_wp2
     go_roundg (N-(k+1)+1)
     case measure=>omega
     case rel=>
      refine⟨k+1,Q,rfl,by congr 1,ch,c9,?_,ak B v.ch (fun g a e=>e (A g a)),fun g a=>(v.same g (cE B a)).trans (A g a)⟩;rw[al,if_pos s.out];exact I
    ·have s:=Z f
     clear f;go_wp2_with fail
     refine(nY x y.at_).mono ?_;rintro e w4 ⟨rfl,ad,J,c⟩;rw[<-am]at c;have b:=Z (y.trans R c);have D:=Z c.nx;clear c k3 bw;have O:=b.at_.hN;have d:=b.at_.look x;rw[j]at d;dsimp only[Option.map,Option.getD]at d;unfold bk at d;have a9:=b.at_.FR (id:=x) (t:=t) j;have ab:=b.at_.sf (id:=x) (t:=t) j 2;have r:=Z (b.at_.hz (id:=x) (t:=t) j 110);obtain⟨tb,a3⟩:=nm (J.bI x);rw[a3]at d a9 ab r;clear a3;go_wp2_with fail
     obtain⟨fn,a4⟩:=nm (w4.setCell (tb,2) (.int .u64 110));rw[a4]at r⊢;clear a4 a9 ab d O;rw[<-hP j,<-ap]at r;have o:=Z (b.trans c7 r);have F:=Z (D.trans r.nx);clear r;refine(dd (K:=n) x P o.at_).mono ?_;rintro e cf ⟨rfl,m⟩;have z:=Z (o.af m);have G:=Z (F.trans (Nx.af m));clear m;have f:=s.out;obtain⟨st,a2⟩:=nm (cz n x);rw[a2]at f⊢;clear a2;go_wp2
     have I:=z;have v:=G;go_roundg (N-(k+1)+1)
     case measure=>omega
     case rel=>
      refine⟨k+1,Q,rfl,by congr 1,ad,J,?_,ak B v.ch (fun g a e=>e (A g a)),fun g a=>(v.same g (cE B a)).trans (A g a)⟩;rw[al,if_neg s.out];exact I
  ·obtain rfl:k=N:=by omega
   have y:=Z X;clear X c3 cd;go_wp2
   go_end0
   rw[E];have:l.take k=l:=List.take_of_length_le (by rw[av];exact Nat.le_refl _);rw[<-this];exact⟨rfl,fz,eC,y⟩
def pe(C:KC)(K:KS)(id op kind a b v:Int):KS:={K with mem:=(bR C K id op (K.mem,K.out) kind a b v).2.1,out:=(bR C K id op (K.mem,K.out) kind a b v).2.2}
def iQ(x:Option Int)(χ:Nat->a')(L:cU)(Y:Var)(C:KC)(K K':KS)(w:World)(e:Ending)(w':World):Prop:=
 (match x with
  |some v=>e=.returned (.tuple #[.int .u64 v,.nilIface])
  |none=>∃n v,e=.returned (.tuple #[.int .u64 n,v])/\ar v)/\(∃aY Y',dD χ L Y C K K' w aY Y' w')/\Ch (fun i=>χ i=.mem∨χ i=.gL∨χ i=.out) w w'
theorem AK(h:Ch (fun i=>χ i=.mem) w w'):Ch (fun i=>χ i=.mem∨χ i=.gL∨χ i=.out) w w':=h.mono fun _ h=>Or.inl h
theorem F'(h:Ch (fun i=>χ i=.gL∨χ i=.out) w w'):Ch (fun i=>χ i=.mem∨χ i=.gL∨χ i=.out) w w':=h.mono fun _ h=>Or.inr h
theorem AL{P:a'->Prop}{χ dZ:Nat->a'}{w w1 w2:World}(h:Ch (fun i=>P (χ i)) w w1)(c:∀i,i<w.heap.size->dZ i=χ i)(k:Ch (fun i=>P (dZ i)) w1 w2):Ch (fun i=>P (χ i)) w w2:=
 h.join k fun i a b=>by rw[<-c i a];exact b
theorem lg{p1 p2 p3:Value}(k:Int)(F:Value)(A:Nat)(z:Int->Array Value)(hF:(F=.func (.func 81) #[.pointer (some ⟨L.m,0,none⟩)] #[]/\A=81/\z=fun c=>#[.pointer (some ⟨L.m,0,none⟩),.int .u64 c])∨(F=.func (.func 296) #[] #[p1,p2]/\A=296/\z=fun c=>#[.int .u64 c,p1,p2])∨(F=.func (.func 294) #[] #[p1,p2]/\A=294/\z=fun c=>#[.int .u64 c,p1,p2])∨(F=.func (.func 295) #[] #[p1,p2,p3]/\A=295/\z=fun c=>#[.int .u64 c,p1,p2,p3]))(ch:0<=C.wide/\C.wide<=256/\0<=C.narrow/\C.narrow<=256)(bv:K.out.length<=900000)(id op a f v:Int)(cf:aK a)
 (V:∀c w1,aK c->Ch ag w w1->Calls prog A (z c) w1 (mJ (K.mem.acc k c f v).1 χ L Y C K {K with mem:=(K.mem.acc k c f v).2} w1)) (h:ae w χ L Y C K):
 Calls prog 293 #[.agg #[.pointer (some ⟨L.mb,0,none⟩),.int .u64 id,op],.int .u64 a,F] w (iQ (bR C K id op (K.mem,K.out) k a f v).1 χ L Y C K (pe C K id op k a f v) w):=by
 obtain⟨w0,B⟩:=nm (w.alloc (.cells #[.pointer (some ⟨L.mb,0,none⟩),.int .u64 id,op] 287));have n:=Z (Ch.al (D:=ag) B);have g:=Z (h.gU n);have R:=Z (Row.al B);obtain⟨X,cA,cC⟩:=R.c3;have am:0<=C.cells/\C.cells<=512:=by unfold KC.cells;omega
 have eS:=(h.wk (by simp)).n;have a9:0<=gT K/\gT K<=600:=by unfold gT;omega
 have I:=Z (fun w (h:ae w χ L Y C K)=>n4 h ch);have T:=Z (fun w (h:ae w χ L Y C K)=>lT h);obtain⟨y,al⟩:=nm C.cells;obtain⟨j,ab⟩:=nm (gT K);rw[al]at I am;rw[ab]at T a9;obtain⟨eA,eC⟩:=am;obtain⟨et,ex⟩:=a9;have cS:IntKind.u64.wrap y=y:=by unfold IntKind.wrap IntKind.bits IntKind.signed;simp;omega
 have cQ:IntKind.u64.wrap j=j:=by unfold IntKind.wrap IntKind.bits IntKind.signed;simp;omega
 obtain⟨en,es⟩:=cf;have dC:=Z bv;rcases hF with⟨rfl,rfl,rfl⟩|⟨rfl,rfl,rfl⟩|⟨rfl,rfl,rfl⟩|⟨rfl,rfl,rfl⟩
 all_goals
  dsimp only at V;have dr:=Z V;have s:=Z (And.intro al ab);have t:=Z (And.intro cS cQ);have c3:Hid (χ w.heap.size=.no):=Z (Classical.not_not.1 fun e=>absurd (h.small _ e) (by omega));by_cases av:y<=a
  ·have E:Hid (bR C K id op (K.mem,K.out) k a f v=(none,K.mem,K.out)):=Z (by unfold bR;rw[s.1,t.1,if_pos av])
   have o:Hid (pe C K id op k a f v=K):=Z (by unfold pe;rw[E]);go_in
   go_wp2_with fail
   try rw[B]
   with_reducible refine(I.out _ g.out.at_).mono ?_
   rintro e w1 ⟨rfl,O,rfl⟩;go_wp2_with fail
   with_reducible refine(fg _ _ _ _).mono ?_
   rintro e w2 ⟨rfl,l⟩;have b:=Z (Ch.al (D:=ag) l);go_wp2
   go_ret2;rw[E,o];exact⟨⟨_,_,rfl,ar.mk _ _⟩,⟨_,_,(g.af ay).af b⟩,((n.trans ay).trans b).af⟩
  ·have eL:a<y:=by omega
   have c1:IntKind.u64.wrap (j+a)=j+a:=(by unfold IntKind.wrap IntKind.bits IntKind.signed;simp;omega);have W:aK (j+a):=⟨by omega,by omega⟩;have c4:=Z (fun(w:World) (χ:Nat->a') (Y:Var) (K:KS) (h:ae w χ L Y C K)=>n5 (j+a) W h);have dN:=Z W;have ap:¬y<=a:=av;obtain⟨q,bx⟩:=nm (K.mem.acc k (j+a) f v);obtain⟨cs,x⟩:=q;have a3:=Z bx;have ad:=(fun w1 (cl:Ch ag w w1)=>V (j+a) w1 W cl);rw[bx]at ad;have a1:=Z ad;cases cs with
   |none=>
    have E:Hid (bR C K id op (K.mem,K.out) k a f v=(none,x,K.out)):=Z (by unfold bR;rw[s.1,t.1,if_neg ap,s.2,t.2,c1];dsimp only;rw[a3]);have o:Hid (pe C K id op k a f v={K with mem:=x}):=Z (by unfold pe;rw[E]);go_in
    go_wp2_with fail
    try rw[B]
    with_reducible refine(I.out _ g.out.at_).mono ?_
    rintro e w1 ⟨rfl,O,rfl⟩;obtain⟨w2,l⟩:=nm (w0.drewN O);have b:=Z (Ch.dN (D:=ag) l);rw[l];have U:=Z (g.af b);have r:=Z (R.ch b (fun h=>h));have X:=r.c1;go_wp2_with fail
    with_reducible refine(T.out _ U.out.at_).mono ?_
    rintro e w3 ⟨rfl,rfl⟩;go_wp2_with fail
    with_reducible refine(a1.out _ (n.out.trans b.out)).mono ?_
    rintro e w4 ⟨⟨⟨u,rfl,ck⟩,Q,c8,M⟩,m⟩;obtain⟨tt,fn,rfl⟩:=ck;have d:=Z (And.intro M m);go_wp2
    go_ret2;rw[E,o];exact⟨⟨_,_,rfl,ar.mk _ _⟩,⟨_,_,d.1.at_,(g.nx.trans (Nx.af b)).trans d.1.nx,d.1.yk⟩,(n.trans b).af.trans (AK d.2)⟩
   |some held=>
    obtain⟨pk,ci⟩:=nm (x.acc 0 (j+a) 0 0);obtain⟨k1,J⟩:=pk;have a2:=Z ci;obtain⟨N,bi⟩:=nm (k1.getD 0);have E:Hid (bR C K id op (K.mem,K.out) k a f v=(some held,J,K.out++[⟨3,K.at_,K.w,id,op,held,N,0,0,a,0⟩])):=Z (by unfold bR;rw[s.1,t.1,if_neg ap,s.2,t.2,c1];dsimp only;rw[a3];dsimp only;rw[a2];dsimp only;rw[bi]);have o:Hid (pe C K id op k a f v=tell {K with mem:=J} ⟨3,0,0,id,op,held,N,0,0,a,0⟩):=Z (by unfold pe;rw[E];rfl);have c6:Hid (gu ({K with mem:=x}:KS) (j+a)=(N,{K with mem:=J})):=Z (by unfold gu;dsimp only;rw[a2,<-bi]);have c7:=Z (fun(w:World) (χ:Nat->a') (Y:Var) (h:ae w χ L Y C ({K with mem:=J}:KS))=>n6 3 0 0 id op held N 0 0 a 0 (by exact bv) h);have bw:=(fun(w:World) (χ:Nat->a') (Y:Var) (h:ae w χ L Y C ({K with mem:=x}:KS))=>c4 w χ Y _ h);rw[c6]at bw;have c5:=Z bw;go_in
    go_wp2_with fail
    try rw[B]
    with_reducible refine(I.out _ g.out.at_).mono ?_
    rintro e w1 ⟨rfl,O,rfl⟩;obtain⟨w2,l⟩:=nm (w0.drewN O);have b:=Z (Ch.dN (D:=ag) l);rw[l];have U:=Z (g.af b);have r:Hid (Row w2 w.heap.size 287 [.pointer (some ⟨L.mb,0,none⟩),.int .u64 id,op]/\χ w.heap.size=.no):=Z ⟨R.ch b (fun h=>h),c3⟩;have X:=r.1.c1;go_wp2_with fail
    with_reducible refine(T.out _ U.out.at_).mono ?_
    rintro e w3 ⟨rfl,rfl⟩;go_wp2_with fail
    with_reducible refine(a1.out _ (n.out.trans b.out)).mono ?_
    rintro e w4 ⟨⟨rfl,Q,c8,M⟩,m⟩;have d:=Z (And.intro M m);have H:=Z (M.nx.row r.1 r.2);obtain⟨X,cA,cC⟩:=H.1.c3;go_wp2
    go_region_held3 (H.1.c3) (go_keep) (first|(go_at_call 51;refine(c5 _ _ _ d.1.at_.drew).mono ?_;rintro e c0 ⟨⟨rfl,a0,ec,a4⟩,m⟩;have p:=Z (And.intro a4 m);have S:=Z (((Nx.af (Ch.refl _ w4).drew).trans a4.nx).row H.1 H.2);obtain⟨eW,fb,fd⟩:=S.1.c3)|(go_at_call 83;refine(c7 _ _ _ p.1.at_).mono ?_;rintro e cL ⟨⟨rfl,cW,c9,a5⟩,m⟩;have G:=Z (And.intro a5 m);have c2:=Z (a5.nx.row S.1 S.2);obtain⟨y0,fr,fz⟩:=c2.1.c3))
    all_goals
     go_wp2
     go_ret2;rw[E,o];refine⟨rfl,⟨cW,c9,G.1.at_,?_,?_⟩,?_⟩
     ·exact(((g.nx.trans (Nx.af b)).trans d.1.nx).trans ((Nx.af (Ch.refl _ w4).drew).trans p.1.nx)).trans G.1.nx
     ·exact(d.1.yk.trans (Gr.of_eq rfl) p.1.yk).trans (Gr.of_eq rfl) G.1.yk
     ·have cb:Ch (fun i=>χ i=.mem∨χ i=.gL∨χ i=.out) w w4:=(n.trans b).af.trans (AK d.2)
      have cd:Ch (fun i=>Q i=.mem∨Q i=.gL∨Q i=.out) w4 c0:=(AK ((Ch.refl _ w4).drew.trans p.2));have ce:Ch (fun i=>a0 i=.mem∨a0 i=.gL∨a0 i=.out) c0 cL:=F' G.2;have cm:=((g.nx.trans (Nx.af b)).trans d.1.nx).same;have cq:=(((g.nx.trans (Nx.af b)).trans d.1.nx).trans ((Nx.af (Ch.refl _ w4).drew).trans p.1.nx)).same;exact AL (P:=fun c=>c=.mem∨c=.gL∨c=.out) (AL (P:=fun c=>c=.mem∨c=.gL∨c=.out) cb cm cd) cq ce
theorem CL(id op a D v:Int)(s:aK a)(z:aK v)(sb f:Nat)(m:Row w sb 287 [(L.mb,0),.int .u64 id,op])(n:Row w f 39 [.int .u64 v])(t:χ sb=.no/\χ f=.no)(h:ae w χ L Y C K):
 Calls prog 296 #[.int .u64 a,(sb,0),(f,0)] w (mJ (K.mem.acc 2 a 0 v).1 χ L Y C K {K with mem:=(K.mem.acc 2 a 0 v).2} w):=by
 have E:=m.c1;have F:=n.c1;have B:=h.cO;have g:=Z (Ed a v s z h.drew);have d:=Z (And.intro m (And.intro t n));obtain⟨q,x⟩:=nm (K.mem.acc 2 a 0 v);rw[x]at g⊢;obtain⟨o,A⟩:=q;cases o with
 |none=>
  go_wp2
  go_region_held3 (fun w'=>w'.cell? (sb,0)=some (.pointer (some (L.mb,0)))/\w'.cell? (L.mb,1007)=some (.pointer (some (L.m,0)))/\w'.cell? (f,0)=some (.int .u64 v)) (go_keep) ((go_at_call 277;refine g.mono ?_;rintro e w4 ⟨⟨⟨u,rfl,y⟩,l,j,c⟩,k⟩;obtain⟨tt,G,rfl⟩:=y;have b:=Z (And.intro c k);have p:=(c.nx.row (w:=w.drew) (d.1.drew) d.2.1.1).1.cell (i:=0) rfl;have r:=c.at_.cO;have d0:=(c.nx.row (w:=w.drew) (d.2.2.drew) d.2.1.2).1.cell (i:=0) rfl))
  all_goals
   go_wp2
   go_ret2;exact⟨⟨⟨_,rfl,ar.mk _ _⟩,l,j,b.1.at_,(Nx.af (Ch.refl _ w).drew).trans b.1.nx,b.1.yk⟩,(Ch.refl _ w).drew.trans b.2⟩
 |some o=>
  go_wp2
  go_region_held3 (fun w'=>w'.cell? (sb,0)=some (.pointer (some (L.mb,0)))/\w'.cell? (L.mb,1007)=some (.pointer (some (L.m,0)))/\w'.cell? (f,0)=some (.int .u64 v)) (go_keep) ((go_at_call 277;refine g.mono ?_;rintro e w4 ⟨⟨rfl,l,j,c⟩,k⟩;have b:=Z (And.intro c k);have p:=(c.nx.row (w:=w.drew) (d.1.drew) d.2.1.1).1.cell (i:=0) rfl;have r:=c.at_.cO;have d0:=(c.nx.row (w:=w.drew) (d.2.2.drew) d.2.1.2).1.cell (i:=0) rfl))
  all_goals
   go_wp2
   go_ret2;exact⟨⟨rfl,l,j,b.1.at_,(Nx.af (Ch.refl _ w).drew).trans b.1.nx,b.1.yk⟩,(Ch.refl _ w).drew.trans b.2⟩
theorem Ew(id op a D v:Int)(s:aK a)(z:aK v)(sb f:Nat)(m:Row w sb 287 [(L.mb,0),.int .u64 id,op])(n:Row w f 39 [.int .u64 v])(t:χ sb=.no/\χ f=.no)(h:ae w χ L Y C K):
 Calls prog 294 #[.int .u64 a,(sb,0),(f,0)] w (mJ (K.mem.acc 3 a 0 v).1 χ L Y C K {K with mem:=(K.mem.acc 3 a 0 v).2} w):=by
 have E:=m.c1;have F:=n.c1;have B:=h.cO;have g:=Z (Dw a v s z h.drew);have d:=Z (And.intro m (And.intro t n));obtain⟨q,x⟩:=nm (K.mem.acc 3 a 0 v);rw[x]at g⊢;obtain⟨o,A⟩:=q;cases o with
 |none=>
  go_wp2
  go_region_held3 (fun w'=>w'.cell? (sb,0)=some (.pointer (some (L.mb,0)))/\w'.cell? (L.mb,1007)=some (.pointer (some (L.m,0)))/\w'.cell? (f,0)=some (.int .u64 v)) (go_keep) ((go_at_call 131;refine g.mono ?_;rintro e w4 ⟨⟨⟨u,rfl,y⟩,l,j,c⟩,k⟩;obtain⟨tt,G,rfl⟩:=y;have b:=Z (And.intro c k);have p:=(c.nx.row (w:=w.drew) (d.1.drew) d.2.1.1).1.cell (i:=0) rfl;have r:=c.at_.cO;have d0:=(c.nx.row (w:=w.drew) (d.2.2.drew) d.2.1.2).1.cell (i:=0) rfl))
  all_goals
   go_wp2
   go_ret2;exact⟨⟨⟨_,rfl,ar.mk _ _⟩,l,j,b.1.at_,(Nx.af (Ch.refl _ w).drew).trans b.1.nx,b.1.yk⟩,(Ch.refl _ w).drew.trans b.2⟩
 |some o=>
  go_wp2
  go_region_held3 (fun w'=>w'.cell? (sb,0)=some (.pointer (some (L.mb,0)))/\w'.cell? (L.mb,1007)=some (.pointer (some (L.m,0)))/\w'.cell? (f,0)=some (.int .u64 v)) (go_keep) ((go_at_call 131;refine g.mono ?_;rintro e w4 ⟨⟨rfl,l,j,c⟩,k⟩;have b:=Z (And.intro c k);have p:=(c.nx.row (w:=w.drew) (d.1.drew) d.2.1.1).1.cell (i:=0) rfl;have r:=c.at_.cO;have d0:=(c.nx.row (w:=w.drew) (d.2.2.drew) d.2.1.2).1.cell (i:=0) rfl))
  all_goals
   go_wp2
   go_ret2;exact⟨⟨rfl,l,j,b.1.at_,(Nx.af (Ch.refl _ w).drew).trans b.1.nx,b.1.yk⟩,(Ch.refl _ w).drew.trans b.2⟩
theorem Ex(id op a f v:Int)(y:aK a)(D:aK v)(sb g j:Nat)(p:Row w sb 287 [(L.mb,0),.int .u64 id,op])(o:Row w g 39 [.int .u64 f])(r:Row w j 39 [.int .u64 v])(z:χ sb=.no/\χ g=.no/\χ j=.no)(h:ae w χ L Y C K):
 Calls prog 295 #[.int .u64 a,(sb,0),(g,0),(j,0)] w (mJ (K.mem.acc 4 a f v).1 χ L Y C K {K with mem:=(K.mem.acc 4 a f v).2} w):=by
 have G:=p.c1;have H:=o.c1;have v1:=r.c1;have F:=h.cO;have k:=Z (Dx a f v y D h.drew);have b:=Z (And.intro p (And.intro z (And.intro o r)));obtain⟨q,A⟩:=nm (K.mem.acc 4 a f v);rw[A]at k⊢;obtain⟨s,E⟩:=q;cases s with
 |none=>
  go_wp2
  go_region_held3 (fun w'=>w'.cell? (sb,0)=some (.pointer (some (L.mb,0)))/\w'.cell? (L.mb,1007)=some (.pointer (some (L.m,0)))/\w'.cell? (g,0)=some (.int .u64 f)/\w'.cell? (j,0)=some (.int .u64 v)) (go_keep) ((go_at_call 204;refine k.mono ?_;rintro e w4 ⟨⟨⟨u,rfl,B⟩,n,l,c⟩,m⟩;obtain⟨tt,I,rfl⟩:=B;have d:=Z (And.intro c m);have t:=(c.nx.row (w:=w.drew) (b.1.drew) b.2.1.1).1.cell (i:=0) rfl;have x:=c.at_.cO;have d0:=(c.nx.row (w:=w.drew) (b.2.2.1.drew) b.2.1.2.1).1.cell (i:=0) rfl;have d1:=(c.nx.row (w:=w.drew) (b.2.2.2.drew) b.2.1.2.2).1.cell (i:=0) rfl))
  all_goals
   go_wp2
   go_ret2;exact⟨⟨⟨_,rfl,ar.mk _ _⟩,n,l,d.1.at_,(Nx.af (Ch.refl _ w).drew).trans d.1.nx,d.1.yk⟩,(Ch.refl _ w).drew.trans d.2⟩
 |some s=>
  go_wp2
  go_region_held3 (fun w'=>w'.cell? (sb,0)=some (.pointer (some (L.mb,0)))/\w'.cell? (L.mb,1007)=some (.pointer (some (L.m,0)))/\w'.cell? (g,0)=some (.int .u64 f)/\w'.cell? (j,0)=some (.int .u64 v)) (go_keep) ((go_at_call 204;refine k.mono ?_;rintro e w4 ⟨⟨rfl,n,l,c⟩,m⟩;have d:=Z (And.intro c m);have t:=(c.nx.row (w:=w.drew) (b.1.drew) b.2.1.1).1.cell (i:=0) rfl;have x:=c.at_.cO;have d0:=(c.nx.row (w:=w.drew) (b.2.2.1.drew) b.2.1.2.1).1.cell (i:=0) rfl;have d1:=(c.nx.row (w:=w.drew) (b.2.2.2.drew) b.2.1.2.2).1.cell (i:=0) rfl))
  all_goals
   go_wp2
   go_ret2;exact⟨⟨rfl,n,l,d.1.at_,(Nx.af (Ch.refl _ w).drew).trans d.1.nx,d.1.yk⟩,(Ch.refl _ w).drew.trans d.2⟩
theorem iQ.of{x:Option Int}{K':KS}{e:Ending}{w0 w':World}(h:iQ x χ L Y C K K' w0 e w')(c:Ch ag w w0):iQ x χ L Y C K K' w e w':=by
 obtain⟨b,⟨aY,Y',a⟩,d⟩:=h;exact⟨b,⟨aY,Y',a.at_,(Nx.af c).trans a.nx,a.yk⟩,c.af.trans d⟩
theorem uO(E:0<=C.wide/\C.wide<=256/\0<=C.narrow/\C.narrow<=256)(F:K.out.length<=900000)(id op a:Int)(B:aK a)(h:ae w χ L Y C K):
 Calls prog 290 #[.agg #[(L.mb,0),.int .u64 id,op],.int .u64 a] w (iQ (bR C K id op (K.mem,K.out) 0 a 0 0).1 χ L Y C K (pe C K id op 0 a 0 0) w):=by
 obtain⟨w0,d⟩:=nm ((w.alloc (.cells #[(L.mb,0),.int .u64 id,op] 287)));have k:=Z (Ch.al (D:=ag) d);have l:=Z (h.gU k);have i:=Z (Row.al d);obtain⟨M,N,O⟩:=i.c3;have I:=l.at_.cO;have p:Hid (χ w.heap.size=.no):=Z (Classical.not_not.1 fun e=>absurd (h.small _ e) (by omega));have g:=Z (lg (p1:=.nilIface) (p2:=.nilIface) (p3:=.nilIface) 0 _ _ _ (Or.inl ⟨rfl,rfl,rfl⟩) E F id op a 0 0 B (fun c w1 m G=>um c m (l.at_.drew.af G)) l.at_.drew);obtain⟨q,s⟩:=nm (bR C K id op (K.mem,K.out) 0 a 0 0);obtain⟨K',r⟩:∃K',pe C K id op 0 a 0 0=K':=⟨_,rfl⟩;rw[s,r]at g;rw[s,r];obtain⟨t,J⟩:=q;dsimp only at g;cases t with
 |none=>
  go_in
  go_wp2
  try rw[d]
  try clear d
  go_region_held3 (fun w'=>w'.cell? (w.heap.size,0)=some (.pointer (some (L.mb,0)))/\w'.cell? (w.heap.size,1)=some (.int .u64 id)/\w'.cell? (w.heap.size,2)=some (.int .i64 op)/\w'.cell? (L.mb,1007)=some (.pointer (some (L.m,0)))) (go_keep) ((go_at_call 293;refine g.mono ?_;rintro e w4 ⟨⟨n,u,rfl,m⟩,⟨H,v,b⟩,o⟩;obtain⟨tt,P,rfl⟩:=m;have f:=Z (And.intro b o);have j:=Z (b.nx.row (w:=w0.drew) i.drew p);obtain⟨x,y,z⟩:=j.1.c3;have A:=b.at_.cO))
  all_goals
   go_wp2
   go_ret2;exact iQ.of ⟨⟨_,_,rfl,ar.mk _ _⟩,⟨_,_,f.1⟩,f.2⟩ (k.trans ay)
 |some t=>
  go_in
  go_wp2
  try rw[d]
  try clear d
  go_region_held3 (fun w'=>w'.cell? (w.heap.size,0)=some (.pointer (some (L.mb,0)))/\w'.cell? (w.heap.size,1)=some (.int .u64 id)/\w'.cell? (w.heap.size,2)=some (.int .i64 op)/\w'.cell? (L.mb,1007)=some (.pointer (some (L.m,0)))) (go_keep) ((go_at_call 293;refine g.mono ?_;rintro e w4 ⟨rfl,⟨H,v,b⟩,o⟩;have f:=Z (And.intro b o);have j:=Z (b.nx.row (w:=w0.drew) i.drew p);obtain⟨x,y,z⟩:=j.1.c3;have A:=b.at_.cO))
  all_goals
   go_wp2
   go_ret2;exact iQ.of ⟨rfl,⟨_,_,f.1⟩,f.2⟩ (k.trans ay)
theorem oD(z:0<=C.wide/\C.wide<=256/\0<=C.narrow/\C.narrow<=256)(A:K.out.length<=900000)(id op a v:Int)(y:aK a)(B:aK v)(h:ae w χ L Y C K):
 Calls prog 292 #[.agg #[.pointer (some ⟨L.mb,0,none⟩),.int .u64 id,op],.int .u64 a,.int .u64 v] w (iQ (bR C K id op (K.mem,K.out) 2 a 0 v).1 χ L Y C K (pe C K id op 2 a 0 v) w):=by
 obtain⟨w0,d⟩:=nm (((w.alloc (.cells #[.pointer (some ⟨L.mb,0,none⟩),.int .u64 id,op] 287)).alloc (.cells #[.int .u64 v] 39)));have g:Hid (Ch ag w w0):=Z (by rw[<-d];exact ay);have r:=Z (h.gU g);have o:Hid (Row w0 w.heap.size 287 [.pointer (some ⟨L.mb,0,none⟩),.int .u64 id,op]):=Z (by rw[<-d];exact(Row.new w _ _).alloc _);have x:Hid (Row w0 (w.heap.size+1) 39 [.int .u64 v]):=Z (by
  rw[<-d];have:=Row.new (w.alloc (.cells #[.pointer (some ⟨L.mb,0,none⟩),.int .u64 id,op] 287)) #[.int .u64 v] 39;simpa[World.size_alloc,Nat.add_assoc]using this)
 have p:Hid (∀i,w.heap.size<=i->χ i=.no):=Z (fun i E=>Classical.not_not.1 fun e=>absurd (h.small _ e) (by omega));obtain⟨G,H,I⟩:=o.c3;have f:=Z (lg (p1:=.pointer (some ⟨w.heap.size,0,none⟩)) (p2:=.pointer (some ⟨w.heap.size+1,0,none⟩)) (p3:=.nilIface) 2 _ _ _ (Or.inr (Or.inl ⟨rfl,rfl,rfl⟩)) z A id op a 0 v y (fun c w1 k l=>CL id op c 0 v k B _ _ (o.ch l (fun h=>h)) (x.ch l (fun h=>h)) ⟨p _ (by omega),p _ (by omega)⟩ (r.at_.af l)) r.at_);obtain⟨q,t⟩:=nm (bR C K id op (K.mem,K.out) 2 a 0 v);obtain⟨K',s⟩:∃K',pe C K id op 2 a 0 v=K':=⟨_,rfl⟩;rw[t,s]at f;rw[t,s];obtain⟨D,F⟩:=q;dsimp only at f;cases D
 all_goals
  go_in
  go_wp2_with fail
  try rw[d]
  try clear d
  with_reducible refine f.out.mono ?_
 ·rintro e w4 ⟨⟨n,u,rfl,k⟩,j,m⟩
  obtain⟨tt,J,rfl⟩:=k;have b:=Z (And.intro j m);go_wp2
  go_ret2;exact iQ.of ⟨⟨_,_,rfl,ar.mk _ _⟩,b.1,b.2⟩ g
 ·rintro e w4 ⟨rfl,j,m⟩
  have b:=Z (And.intro j m);go_wp2
  go_ret2;exact iQ.of ⟨rfl,b.1,b.2⟩ g
theorem ys(z:0<=C.wide/\C.wide<=256/\0<=C.narrow/\C.narrow<=256)(A:K.out.length<=900000)(id op a v:Int)(y:aK a)(B:aK v)(h:ae w χ L Y C K):
 Calls prog 288 #[.agg #[.pointer (some ⟨L.mb,0,none⟩),.int .u64 id,op],.int .u64 a,.int .u64 v] w (iQ (bR C K id op (K.mem,K.out) 3 a 0 v).1 χ L Y C K (pe C K id op 3 a 0 v) w):=by
 obtain⟨w0,d⟩:=nm (((w.alloc (.cells #[.pointer (some ⟨L.mb,0,none⟩),.int .u64 id,op] 287)).alloc (.cells #[.int .u64 v] 39)));have g:Hid (Ch ag w w0):=Z (by rw[<-d];exact ay);have r:=Z (h.gU g);have o:Hid (Row w0 w.heap.size 287 [.pointer (some ⟨L.mb,0,none⟩),.int .u64 id,op]):=Z (by rw[<-d];exact(Row.new w _ _).alloc _);have x:Hid (Row w0 (w.heap.size+1) 39 [.int .u64 v]):=Z (by
  rw[<-d];have:=Row.new (w.alloc (.cells #[.pointer (some ⟨L.mb,0,none⟩),.int .u64 id,op] 287)) #[.int .u64 v] 39;simpa[World.size_alloc,Nat.add_assoc]using this)
 have p:Hid (∀i,w.heap.size<=i->χ i=.no):=Z (fun i E=>Classical.not_not.1 fun e=>absurd (h.small _ e) (by omega));obtain⟨G,H,I⟩:=o.c3;have f:=Z (lg (p1:=.pointer (some ⟨w.heap.size,0,none⟩)) (p2:=.pointer (some ⟨w.heap.size+1,0,none⟩)) (p3:=.nilIface) 3 _ _ _ (Or.inr (Or.inr (Or.inl ⟨rfl,rfl,rfl⟩))) z A id op a 0 v y (fun c w1 k l=>Ew id op c 0 v k B _ _ (o.ch l (fun h=>h)) (x.ch l (fun h=>h)) ⟨p _ (by omega),p _ (by omega)⟩ (r.at_.af l)) r.at_);obtain⟨q,t⟩:=nm (bR C K id op (K.mem,K.out) 3 a 0 v);obtain⟨K',s⟩:∃K',pe C K id op 3 a 0 v=K':=⟨_,rfl⟩;rw[t,s]at f;rw[t,s];obtain⟨D,F⟩:=q;dsimp only at f;cases D
 all_goals
  go_in
  go_wp2_with fail
  try rw[d]
  try clear d
  with_reducible refine f.out.mono ?_
 ·rintro e w4 ⟨⟨n,u,rfl,k⟩,j,m⟩
  obtain⟨tt,J,rfl⟩:=k;have b:=Z (And.intro j m);go_wp2
  go_ret2;exact iQ.of ⟨⟨_,_,rfl,ar.mk _ _⟩,b.1,b.2⟩ g
 ·rintro e w4 ⟨rfl,j,m⟩
  have b:=Z (And.intro j m);go_wp2
  go_ret2;exact iQ.of ⟨rfl,b.1,b.2⟩ g
theorem yt(B:0<=C.wide/\C.wide<=256/\0<=C.narrow/\C.narrow<=256)(D:K.out.length<=900000)(id op a b v:Int)(A:aK a)(hold:aK b)(E:aK v)(h:ae w χ L Y C K):
 Calls prog 289 #[.agg #[.pointer (some ⟨L.mb,0,none⟩),.int .u64 id,op],.int .u64 a,.int .u64 b,.int .u64 v] w (iQ (bR C K id op (K.mem,K.out) 4 a b v).1 χ L Y C K (pe C K id op 4 a b v) w):=by
 obtain⟨w0,d⟩:=nm ((((w.alloc (.cells #[.pointer (some ⟨L.mb,0,none⟩),.int .u64 id,op] 287)).alloc (.cells #[.int .u64 b] 39)).alloc (.cells #[.int .u64 v] 39)));have k:Hid (Ch ag w w0):=Z (by rw[<-d];exact ay);have s:=Z (h.gU k);have r:Hid (Row w0 w.heap.size 287 [.pointer (some ⟨L.mb,0,none⟩),.int .u64 id,op]):=Z (by rw[<-d];exact((Row.new w _ _).alloc _).alloc _);have y:Hid (Row w0 (w.heap.size+1) 39 [.int .u64 b]):=Z (by
  rw[<-d];have:=(Row.new (w.alloc (.cells #[.pointer (some ⟨L.mb,0,none⟩),.int .u64 id,op] 287)) #[.int .u64 b] 39).alloc (.cells #[.int .u64 v] 39);simpa[World.size_alloc,Nat.add_assoc]using this)
 have z:Hid (Row w0 (w.heap.size+2) 39 [.int .u64 v]):=Z (by
  rw[<-d];have:=Row.new ((w.alloc (.cells #[.pointer (some ⟨L.mb,0,none⟩),.int .u64 id,op] 287)).alloc (.cells #[.int .u64 b] 39)) #[.int .u64 v] 39;simpa[World.size_alloc,Nat.add_assoc]using this)
 have l:Hid (∀i,w.heap.size<=i->χ i=.no):=Z (fun i G=>Classical.not_not.1 fun e=>absurd (h.small _ e) (by omega));obtain⟨I,J,M⟩:=r.c3;have j:=Z (lg (p1:=.pointer (some ⟨w.heap.size,0,none⟩)) (p2:=.pointer (some ⟨w.heap.size+1,0,none⟩)) (p3:=.pointer (some ⟨w.heap.size+2,0,none⟩)) 4 _ _ _ (Or.inr (Or.inr (Or.inr ⟨rfl,rfl,rfl⟩))) B D id op a b v A (fun c w1 o g=>Ex id op c b v o E _ _ _ (r.ch g (fun h=>h)) (y.ch g (fun h=>h)) (z.ch g (fun h=>h)) ⟨l _ (by omega),l _ (by omega),l _ (by omega)⟩ (s.at_.af g)) s.at_);obtain⟨q,x⟩:=nm (bR C K id op (K.mem,K.out) 4 a b v);obtain⟨K',t⟩:∃K',pe C K id op 4 a b v=K':=⟨_,rfl⟩;rw[x,t]at j;rw[x,t];obtain⟨F,H⟩:=q;dsimp only at j;cases F
 all_goals
  go_in
  go_wp2_with fail
  try rw[d]
  try clear d
  with_reducible refine j.out.mono ?_
 ·rintro e w4 ⟨⟨n,u,rfl,o⟩,m,p⟩
  obtain⟨tt,N,rfl⟩:=o;have f:=Z (And.intro m p);go_wp2
  go_ret2;exact iQ.of ⟨⟨_,_,rfl,ar.mk _ _⟩,f.1,f.2⟩ k
 ·rintro e w4 ⟨rfl,m,p⟩
  have f:=Z (And.intro m p);go_wp2
  go_ret2;exact iQ.of ⟨rfl,f.1,f.2⟩ k
def G8(ok:Bool)(χ:Nat->a')(L:cU)(Y:Var)(C:KC)(K K':KS)(w:World)(e:Ending)(w':World):Prop:=
 (∃v,e=.returned v/\(if ok then v=.nilIface else ar v))/\(∃aY Y',dD χ L Y C K K' w aY Y' w')/\Ch (fun i=>χ i=.mem∨χ i=.gL∨χ i=.out) w w'
theorem sW(id op a v:Int)(S:aI×List Ev):bR C K id op S 1 a 0 v=bR C K id op S 2 a 0 v:=by
 have:∀(M:aI) (c:Int),M.acc 1 c 0 v=M.acc 2 c 0 v:=fun M c=>by unfold aI.acc;simp
 unfold bR;dsimp only;simp only[this]
theorem sX(t:0<=C.wide/\C.wide<=256/\0<=C.narrow/\C.narrow<=256)(y:K.out.length<=900000)(id op a v:Int)(s:aK a)(B:aK v)(h:ae w χ L Y C K):
 Calls prog 291 #[.agg #[(L.mb,0),.int .u64 id,op],.int .u64 a,.int .u64 v] w (G8 (bR C K id op (K.mem,K.out) 1 a 0 v).1.isSome χ L Y C K (pe C K id op 1 a 0 v) w):=by
 obtain⟨w0,c⟩:=nm (w.alloc (.cells #[(L.mb,0),.int .u64 id,op] 287));have f:=Z (Ch.al (D:=ag) c);have p:=Z (h.gU f);have o:=Z (Row.al c);obtain⟨H,I,J⟩:=o.c3;have d:=Z (oD t y id op a v s B p.at_);have z:pe C K id op 1 a 0 v=pe C K id op 2 a 0 v:=by unfold pe;rw[sW]
 rw[sW,z];obtain⟨q,m⟩:=nm (bR C K id op (K.mem,K.out) 2 a 0 v);obtain⟨K',l⟩:∃K',pe C K id op 2 a 0 v=K':=⟨_,rfl⟩;rw[m,l]at d;rw[m,l];obtain⟨E,G⟩:=q;dsimp only at d;cases E
 all_goals
  go_in
  go_wp2_with fail
  try rw[c]
  try clear c
  with_reducible refine d.out.mono ?_
 ·rintro e w4 ⟨⟨n,u,rfl,A⟩,j,k⟩
  obtain⟨tt,F,rfl⟩:=A;have b:=Z (And.intro j k);go_wp2
  go_ret;obtain⟨r,⟨aY,Y',g⟩,i⟩:=iQ.of (x:=none) (w:=w) ⟨⟨n,_,rfl,ar.mk tt F⟩,b.1,b.2⟩ f;exact⟨⟨_,rfl,ar.mk _ _⟩,⟨aY,Y',g⟩,i⟩
 ·rintro e w4 ⟨rfl,j,k⟩
  have b:=Z (And.intro j k);go_wp2
  go_ret;obtain⟨r,⟨aY,Y',g⟩,i⟩:=iQ.of (x:=some 0) (w:=w) ⟨rfl,b.1,b.2⟩ f;exact⟨⟨_,rfl,rfl⟩,⟨aY,Y',g⟩,i⟩
theorem iu{α:Type}{enc:α->List Value}{k:Nat}(a:∀x,(enc x).length=k)(m:0<k)(x:α)(z:Array Value)(g:z.toList=enc x)(c:Nat):(madeCells z (c*k)).toList=(List.replicate c x).flatMap enc:=by
 have d:z.size=k:=by rw[<-Array.length_toList,g,a]
 apply List.ext_getElem?;intro i;by_cases f:i<c*k
 ·have e:i=(i/k)*k+i%k:=by rw[Nat.mul_comm];exact(Nat.div_add_mod i k).symm
  have l:i/k<c:=Nat.div_lt_of_lt_mul (by rw[Nat.mul_comm];exact f);have b:i%k<k:=Nat.mod_lt _ m;have h:((List.replicate c x).flatMap enc)[i]?=(enc x)[i%k]?:=by
   conv=>lhs;rw[e]
   exact bJ a (by simp[l]) b
  rw[h,<-g];have j:(madeCells z (c*k))[i]?=z[i%k]?:=by
   unfold madeCells;rw[Array.getElem?_map,Array.getElem?_range,if_pos f];simp only[Option.map_some,d];rw[getElem!_pos z (i%k) (by rw[d];exact b),Array.getElem?_eq_getElem (by rw[d];exact b)]
  simpa using j
 ·rw[List.getElem?_eq_none (by simp[size_madeCells];omega),List.getElem?_eq_none (by rw[aU a,List.length_replicate];omega)]
theorem oE(z:Value)(c:Nat):(madeCells #[z] c).toList=List.replicate c z:=by
 have:=iu (enc:=fun v:Value=>[v]) (k:=1) (fun _=>rfl) (by omega) z #[z] rfl c;rw[Nat.mul_one]at this;rw[this];simp[List.flatMap_replicate]
theorem AN:(prog.info? 210).map (fun i=>(i.zero,i.size,i.bytes))=some (some (.agg #[.int .u64 0,.bool false,.bool false,.int .u64 0,.int .i64 0,.int .u64 0,.int .u64 0,.int .u64 0,.bool false,.bool false]),10,64):=by kernel_rfl
theorem s':(prog.info? 237).map (fun i=>(i.zero,i.size,i.bytes))=some (some (.agg #[.int .u64 0,.int .u64 0,.int .i64 0,.int .u64 0]),4,32):=by kernel_rfl
theorem CQ:(prog.info? 217).map (fun i=>(i.zero,i.size,i.bytes))=some (some (.agg #[.pointer none,.pointer none]),2,16):=by kernel_rfl
theorem EK:(prog.info? 5).map (fun i=>(i.zero,i.size,i.bytes))=some (some (.int .u8 0),1,1):=by kernel_rfl
def aF.zero:aF:=⟨0,false,false,iD.zero⟩
def bq.zero:bq:=⟨0,0,0,0⟩
theorem q5(w:World):Calls prog 65 #[.int .i64 64] w (fun e w'=>e=.returned (.tuple #[(w.heap.size+1,0),.nilIface])/\aW w' (w.heap.size+1) w.heap.size (List.replicate 64 aF.zero)/\Ch ag w w'):=by
 obtain⟨b,d,i,j,k⟩:=info_parts AN;have g:=run_make (P:=prog) w 206 210 b _ underlying206 d i .i64 .i64 64 64 (by omega) (by omega) (by rw[k];decide) (by omega);obtain⟨cs,a⟩:=nm (madeCells (Value.agg #[.int .u64 0,.bool false,.bool false,.int .u64 0,.int .i64 0,.int .u64 0,.int .u64 0,.int .u64 0,.bool false,.bool false]).cells ((64:Int).toNat*b.size));rw[a]at g;rw[j]at a;have c:=Z a;go_wp2
 go_ret2;have f:=iu (enc:=aF.cells) aF.len (by omega) aF.zero #[.int .u64 0,.bool false,.bool false,.int .u64 0,.int .i64 0,.int .u64 0,.int .u64 0,.int .u64 0,.bool false,.bool false] rfl 64;have h:Row (w.alloc (.cells cs 210)) w.heap.size 210 ((List.replicate 64 aF.zero).flatMap aF.cells):=by
  have:=Row.new w cs 210;rw[<-c]at this⊢;rw[<-f];exact this
 refine⟨by simp,⟨?_,h.alloc _,by simp⟩,ay⟩;have:=Row.new (w.alloc (.cells cs 210)) #[.slice (some (w.heap.size,0)) 64 64] 208;rw[World.size_alloc]at this;exact this
theorem oF(w:World):Calls prog 66 #[.int .i64 64] w (fun e w'=>e=.returned (.tuple #[(w.heap.size+1,0),.nilIface])/\bP w' (w.heap.size+1) w.heap.size (List.replicate 64 bq.zero)/\Ch ag w w'):=by
 obtain⟨b,d,i,j,k⟩:=info_parts s';have g:=run_make (P:=prog) w 233 237 b _ underlying233 d i .i64 .i64 64 64 (by omega) (by omega) (by rw[k];decide) (by omega);obtain⟨cs,a⟩:=nm (madeCells (Value.agg #[.int .u64 0,.int .u64 0,.int .i64 0,.int .u64 0]).cells ((64:Int).toNat*b.size));rw[a]at g;rw[j]at a;have c:=Z a;go_wp2
 go_ret2;have f:=iu (enc:=bq.cells) bq.len (by omega) bq.zero #[.int .u64 0,.int .u64 0,.int .i64 0,.int .u64 0] rfl 64;have h:Row (w.alloc (.cells cs 237)) w.heap.size 237 ((List.replicate 64 bq.zero).flatMap bq.cells):=by
  have:=Row.new w cs 237;rw[<-c]at this⊢;rw[<-f];exact this
 refine⟨by simp,⟨?_,h.alloc _,by simp⟩,ay⟩;have:=Row.new (w.alloc (.cells cs 237)) #[.slice (some (w.heap.size,0)) 64 64] 235;rw[World.size_alloc]at this;exact this
theorem ta(w:World):Calls prog 63 #[.int .i64 64] w (fun e w'=>e=.returned (.tuple #[(w.heap.size+1,0),.nilIface])/\eP w' (w.heap.size+1) w.heap.size []/\Ch ag w w'):=by
 obtain⟨b,d,h,i,j⟩:=info_parts g';have f:=run_make (P:=prog) w 29 39 b _ underlying29 d h .i64 .i64 64 64 (by omega) (by omega) (by rw[j];decide) (by omega);obtain⟨cs,a⟩:=nm (madeCells (Value.int .u64 0).cells ((64:Int).toNat*b.size));rw[a]at f;rw[i]at a;have c:=Z a;go_wp2
 go_ret2;have g:Row (w.alloc (.cells cs 39)) w.heap.size 39 ((List.replicate 64 (0:Int)).map (Value.int .u64)):=by
  have:=Row.new w cs 39;rw[<-c]at this⊢;rw[List.map_replicate,<-oE (.int .u64 0) 64];exact this
 refine⟨by simp,⟨List.replicate 64 0,0,⟨?_,g.alloc _,by simp,by omega,by simp⟩,by simp⟩,ay⟩;have:=Row.new (w.alloc (.cells cs 39)) #[.slice (some (w.heap.size,0)) 64 64,.int .i64 0,.int .i64 0] 229;rw[World.size_alloc]at this;exact this
theorem q6(m fr tt:Nat)(h:fr<=tt)(c:tt<=1000000)(w:World):Calls prog 111 #[(m,0),.int .i64 fr,.int .i64 tt] w (fun e w'=>e=.returned (.tuple #[(w.heap.size,0),.nilIface])/\aT w' w.heap.size m (.slice none 0 0) ⟨fr,tt,[]⟩/\Ch ag w w'):=by
 have a:(fr:Int)<=(tt:Int):=by omega
 have b:¬(tt:Int)<(fr:Int):=by omega
 go_wp2
 go_ret2;exact⟨rfl,⟨Row.new w #[(m,0),.int .i64 fr,.int .i64 tt,.slice none 0 0] 314,rfl,Or.inl ⟨rfl,rfl⟩⟩,ay⟩
theorem pf(w:World):Calls prog 64 #[.int .i64 8] w (fun e w'=>∃qb lb mb,e=.returned (.tuple #[.pointer (some ⟨qb,0,none⟩),.nilIface])/\iE w' qb lb mb (List.replicate 8 [])/\w.heap.size<=qb/\w.heap.size<=lb/\w.heap.size<=mb/\Ch ag w w'):=by
 obtain⟨d,g,n,o,p⟩:=info_parts CQ;have j:=run_make (P:=prog) w 211 217 d _ underlying211 g n .i64 .i64 8 8 (by omega) (by omega) (by rw[p];decide) (by omega);obtain⟨cs,a⟩:=nm (madeCells (Value.agg #[.pointer none,.pointer none]).cells ((8:Int).toNat*d.size));rw[a]at j;rw[o]at a;have f:=Z a;have q:= @run_makeMap prog;go_wp2
 go_ret2;have i:=iu (enc:=fun _:Unit=>[Value.pointer none,Value.pointer none]) (k:=2) (fun _=>rfl) (by omega) () #[.pointer none,.pointer none] rfl 8;have m:Row (w.alloc (.cells cs 217)) w.heap.size 217 ((List.replicate 8 ([]:List Sl)).flatMap bV):=by
  have:=Row.new w cs 217;rw[<-f]at this⊢;rw[show(List.replicate 8 ([]:List Sl)).flatMap bV=(List.replicate 8 ()).flatMap (fun _:Unit=>[Value.pointer none,Value.pointer none])from rfl,<-i];exact this
 have b:∀(k:Nat) (l:List Sl),(List.replicate 8 ([]:List Sl))[k]?=some l->l=[]:=fun k l h=>by
  have:=List.mem_of_getElem? h;simpa using this
 refine⟨w.heap.size+2,w.heap.size,w.heap.size+1,by simp,⟨?_,(m.alloc _).alloc _,by simp,?_,⟨[],⟨#[],0,?_,rfl⟩,List.nodup_nil,fun id=>rfl⟩,by simp,by simp,?_⟩,by omega,by omega,by omega,ay⟩
 ·have:=Row.new ((w.alloc (.cells cs 217)).alloc (.map #[] 0)) #[.slice (some (w.heap.size,0)) 8 8,.map (some (w.heap.size+1))] 214
  rw[World.size_alloc,World.size_alloc]at this;exact this
 ·intro k l h;rw[b k l h];trivial
 ·rw[Below.heap_alloc _ _ _ (by simp)]
  have:=heap_alloc_new (w.alloc (.cells cs 217)) (.map #[] 0);rw[World.size_alloc]at this;exact this
 ·intro k l h s c;rw[b k l h]at c;cases c
def aI.new(n:Nat):aI:=⟨List.replicate n 0,List.replicate n 0⟩
theorem aO.new{w:World}{m c d n:Nat}(f:n<=65536)(a:Row w m 310 [.slice (some (c,0)) n n,.slice (some (d,0)) n n,.int .i64 0,.int .i64 0])
 (b:Row w c 39 (List.replicate n (.int .u64 0))) (e:Row w d 5 (List.replicate n (.int .u8 0))):aO w m c d (aI.new n) where
 hd:=⟨_,_,by unfold aI.new;simpa using a⟩
 cells:=by unfold aI.new;simpa using b
 width:=by unfold aI.new;simpa using e
 len:=by simp[aI.new]
 qg:=by simpa[aI.new]using f
 ok:=fun i x h=>by
  have:=List.mem_of_getElem? h;simp[aI.new]at this;omega
 u64:=fun i x h=>by
  have:=List.mem_of_getElem? h;simp[aI.new]at this;rw[this.2];exact⟨by decide,by decide⟩
def EL(n:Nat)(w:World)(e:Ending)(w':World):Prop:=∃m c d,e=.returned (.tuple #[.pointer (some ⟨m,0,none⟩),.nilIface])/\aO w' m c d (aI.new n)/\w.heap.size<=m/\w.heap.size<=c/\w.heap.size<=d/\Ch ag w w'
theorem uP(n:Nat)(x:1<=n)(k:n<=65536)(w:World):Calls prog 108 #[.int .i64 n] w (EL n w):=by
 obtain⟨i,o,t,u,v⟩:=info_parts g';obtain⟨j,p,q,r,s⟩:=info_parts EK;have g:=fun w=>run_make (P:=prog) w 29 39 i _ underlying29 o t .i64 .i64 (n:Int) (n:Int) (by omega) (by omega) (by rw[v];omega) (by omega)
 have h:=fun w=>run_make (P:=prog) w 308 5 j _ underlying308 p q .i64 .i64 (n:Int) (n:Int) (by omega) (by omega) (by rw[s];omega) (by omega)
 simp only[Int.toNat_natCast]at g h;obtain⟨cs,e⟩:=nm (madeCells (Value.int .u64 0).cells (n*i.size));obtain⟨a,f⟩:=nm (madeCells (Value.int .u8 0).cells (n*j.size));have l:cs.toList=List.replicate n (.int .u64 0):=by
  rw[<-e,u,Nat.mul_one];exact oE (.int .u64 0) n
 have m:a.toList=List.replicate n (.int .u8 0):=by
  rw[<-f,r,Nat.mul_one];exact oE (.int .u8 0) n
 simp only[e]at g;simp only[f]at h;have b:=Z l;have c:=Z m;have y:(1:Int)<=n:=by omega
 have z:(n:Int)<=65536:=by omega
 have d:=Z k;go_wp2
 go_region
 all_goals
  go_wp2
  go_ret2
 ·refine⟨w.heap.size+1+1,w.heap.size,w.heap.size+1,rfl,aO.new d ?_ ?_ ?_,by omega,by omega,by omega,ay⟩
  ·have:=Row.new ((w.alloc (.cells cs 39)).alloc (.cells a 5)) #[.slice (some ⟨w.heap.size,0,none⟩) n n,.slice (some ⟨w.heap.size+1,0,none⟩) n n,.int .i64 0,.int .i64 0] 310
   rw[World.size_alloc,World.size_alloc]at this;exact this
  ·have:=Row.new w cs 39
   rw[b]at this;exact(this.alloc _).alloc _
  ·have:=Row.new (w.alloc (.cells cs 39)) a 5
   rw[c,World.size_alloc]at this;exact this.alloc _
 ·refine⟨w.heap.size+1+1,w.heap.size+1,w.heap.size,rfl,aO.new d ?_ ?_ ?_,by omega,by omega,by omega,ay⟩
  ·have:=Row.new ((w.alloc (.cells a 5)).alloc (.cells cs 39)) #[.slice (some ⟨w.heap.size+1,0,none⟩) n n,.slice (some ⟨w.heap.size,0,none⟩) n n,.int .i64 0,.int .i64 0] 310
   rw[World.size_alloc,World.size_alloc]at this;exact this
  ·have:=Row.new (w.alloc (.cells a 5)) cs 39
   rw[b,World.size_alloc]at this;exact this.alloc _
  ·have:=Row.new w a 5
   rw[c]at this;exact(this.alloc _).alloc _
def hD(χ:Nat->a'):Prop:=∀i,χ i≠ .out
theorem ae.Ge(h:ae w χ L Y C K){id:Int}(D:aw K.ai id=none){f:Frame}{bv:Value}{fb g tb:Nat}(G:aJ w fb 0 127 [] f.post bv f.f)(F:bv.ownBlock=none)
 (H:w.ownsRow 0 125 1 (.slice (some (g,0)) 1 1) 1 [bk fb]) (I:Row w tb 124 [.int .u64 id,.slice (some (g,0)) 1 1,.int .u64 0]) (n:χ fb=.no) (o:χ g=.no) (p:χ tb=.no) (Q:g≠fb) (U:tb≠fb) (R:g≠tb)
 (S:bS w' L.tm .u64 bk (cn (K.ai.map fun x=>(x.1,Y.bI x.1)) id tb)) (c:Ch (aH L.tm) w w'):
 ∃aY Y',ae w' aY L Y' C {K with ai:=cn K.ai id ⟨id,[f],0⟩}/\(∀i,i<w.heap.size->χ i≠ .no->aY i=χ i)/\(∀i,aY i≠ .no->χ i≠ .no∨i=fb∨i=g∨i=tb)/\Yk K Y Y'/\(hD χ->hD aY):=by
 have A:=h.tm (by simp);have s:eT [.tm] χ χ (aH L.tm) w w':=eT.one c (fun i a=>by rw[show i=L.tm from a];simp[A.k]) h.small;have base:=h.step s (by simp);obtain⟨aY,z⟩:∃aY:Nat->a',aY=fun i=>if i=fb then .fr id 0 else if i=g then .tl id else if i=tb then .th id else χ i:=⟨_,rfl⟩
 have nb:∀{i:Nat} {k:a'},χ i=k->k≠ .no->aY i=k:=fun {i k} a r=>by
  rw[z];dsimp only;rw[if_neg (fun e=>r (by rw[<-a,e,n])),if_neg (fun e=>r (by rw[<-a,e,o])),if_neg (fun e=>r (by rw[<-a,e,p]))];exact a
 have E:∀{i},χ i=.no->i≠L.tm:=fun {i} a e=>by rw[e,A.k]at a;cases a
 have M:MB [.tm] w' aY L Y C K:={
  head:=fun l=>⟨(base.head (by simp)).row,(base.head (by simp)).rows,nb (base.head (by simp)).k (by simp)⟩
  mem:=fun l=>⟨(base.mem (by simp)).is,nb (base.mem (by simp)).k1 (by simp),nb (base.mem (by simp)).k2 (by simp),nb (base.mem (by simp)).k3 (by simp)⟩
  al:=fun l=>⟨(base.al (by simp)).is,nb (base.al (by simp)).k1 (by simp),fun q d=>nb ((base.al (by simp)).k2 q d) (by simp)⟩
  b2:=fun l=>⟨(base.b2 (by simp)).is,nb (base.b2 (by simp)).k1 (by simp),nb (base.b2 (by simp)).k2 (by simp),nb (base.b2 (by simp)).k3 (by simp),nb (base.b2 (by simp)).k4 (by simp),fun q d=>nb ((base.b2 (by simp)).k5 q d) (by simp)⟩
  ring:=fun l=>⟨(base.ring (by simp)).is,nb (base.ring (by simp)).k1 (by simp),nb (base.ring (by simp)).k2 (by simp)⟩
  q:=fun l=>⟨(base.q (by simp)).is,(base.q (by simp)).b1,fun i a=>nb ((base.q (by simp)).k i a) (by simp)⟩
  cZ:=fun l=>⟨(base.cZ (by simp)).is,nb (base.cZ (by simp)).k1 (by simp),nb (base.cZ (by simp)).k2 (by simp)⟩
  obj:=fun l=>⟨(base.obj (by simp)).is,nb (base.obj (by simp)).k1 (by simp),nb (base.obj (by simp)).k2 (by simp)⟩
  tm:=fun l=>absurd (by simp) l
  th:=fun j u m l=>⟨(base.th j u m (by simp)).is,nb (base.th j u m (by simp)).k (by simp)⟩
  tl:=fun j u m l=>⟨(base.tl j u m (by simp)).is,fun q d=>nb ((base.tl j u m (by simp)).k q d) (by simp)⟩
  fr:=fun j u k B m r l=>⟨(base.fr j u k B m r (by simp)).is,nb (base.fr j u k B m r (by simp)).kf (by simp),fun q d=>nb ((base.fr j u k B m r (by simp)).kb q d) (by simp)⟩
  wk:=fun l=>⟨(base.wk (by simp)).is,nb (base.wk (by simp)).k (by simp),(base.wk (by simp)).back,fun i x y q d=>nb ((base.wk (by simp)).kb i x y q d) (by simp),(base.wk (by simp)).n⟩
  out:=fun l=>⟨(base.out (by simp)).is,fun q d=>nb ((base.out (by simp)).k q d) (by simp)⟩
  code:=fun l=>{
   m4:=(base.code (by simp)).m4
   jo:=(base.code (by simp)).jo
   m5:=(base.code (by simp)).m5
   cg:=fun y=>by obtain⟨q,n,o,p⟩:=(base.code (by simp)).cg y;exact⟨q,n,o,nb p (by simp)⟩
   prog:=fun y=>by obtain⟨q,n,o,p⟩:=(base.code (by simp)).prog y;exact⟨q,n,o,nb p (by simp)⟩
   calls:=fun y=>by obtain⟨q,j,n,o,p⟩:=(base.code (by simp)).calls y;exact⟨q,j,n,o,nb p (by simp)⟩}
  small:=fun i a=>by
   rw[z]at a;dsimp only at a;split at a
   ·rename_i e;rw[e];exact Nat.lt_of_lt_of_le G.row.lt c.size
   ·split at a
    ·rename_i e;rw[e];exact Nat.lt_of_lt_of_le (cE H (g:=g) rfl) c.size
    ·split at a
     ·rename_i e;rw[e];exact Nat.lt_of_lt_of_le I.lt c.size
     ·exact base.small i a}
 have O:=G.ch c (fun e=>E n e) (fun q d=>by rw[F]at d;cases d);have P:=ak H c (fun q d e=>E o (by
  have:g=q:=by simpa[Value.ownBlock]using d
  rw[this];exact e))
 have T:=I.ch c (fun e=>E p e);have N:hD χ->hD aY:=fun J i=>by
  rw[z];dsimp only;split
  ·intro e;cases e
  ·split
   ·intro e;cases e
   ·split
    ·intro e;cases e
    ·exact J i
 refine⟨aY,_,M.FH (t:=⟨id,[f],0⟩) (f:=f) (v:=.slice (some (g,0)) 1 1) (bv':=bv) (b:=tb) (fbk:=fb) D rfl ⟨?_,nb A.k (by simp),A.nd.put _ _⟩ ⟨T,?_⟩ ⟨by simpa using P,?_⟩ ⟨O,?_,fun q d=>by rw[F]at d;cases d⟩,fun i a l=>nb rfl l,?_,?_,N⟩
 ·rw[<-su _ _ _ _ _ D];exact S
 ·rw[z];dsimp only;rw[if_neg U,if_neg (fun e=>R e.symm),if_pos rfl]
 ·intro q d
  have:g=q:=by simpa[Value.ownBlock]using d
  rw[<-this,z];dsimp only;rw[if_neg Q,if_pos rfl]
 ·rw[z];dsimp only;rw[if_pos rfl]
 ·intro i a
  rw[z]at a;dsimp only at a;split at a
  ·rename_i e;exact Or.inr (Or.inl e)
  ·split at a
   ·rename_i e;exact Or.inr (Or.inr (Or.inl e))
   ·split at a
    ·rename_i e;exact Or.inr (Or.inr (Or.inr e))
    ·exact Or.inl a
 ·intro j u m
  have e:j≠id:=fun e=>by rw[e,D]at m;cases m
  exact⟨if_neg e,fun k _=>if_neg e⟩
def Gf(x:Option Nat)(χ:Nat->a')(L:cU)(Y:Var)(C:KC)(K K':KS)(w:World)(e:Ending)(w':World):Prop:=
 (match x with
  |some a=>e=.returned (.tuple #[.int .i64 a,.nilIface])
  |none=>∃u,e=.returned (.tuple #[.int .i64 0,u])/\ar u)/\∃aY Y',dD χ L Y C K K' w aY Y' w'/\(hD χ->hD aY)
def Gg(x:Option Int)(χ:Nat->a')(L:cU)(Y:Var)(C:KC)(K K':KS)(w:World)(e:Ending)(w':World):Prop:=
 (match x with
  |some a=>e=.returned (.tuple #[.int .u64 a,.nilIface])
  |none=>∃v,e=.returned (.tuple #[.int .u64 0,v])/\ar v)/\∃aY Y',dD χ L Y C K K' w aY Y' w'/\(hD χ->hD aY)
def DK(ok:Bool)(χ:Nat->a')(L:cU)(Y:Var)(C:KC)(K K':KS)(w:World)(e:Ending)(w':World):Prop:=(∃v,e=.returned v/\(if ok then v=.nilIface else ar v))/\∃aY Y',dD χ L Y C K K' w aY Y' w'/\(hD χ->hD aY)
def Gh(v:Value)(χ:Nat->a')(L:cU)(Y:Var)(C:KC)(K K':KS)(w:World)(e:Ending)(w':World):Prop:=e=.returned v/\∃aY Y',dD χ L Y C K K' w aY Y' w'/\(hD χ->hD aY)
theorem p5{χ:Nat->a'}{o:Option Nat}:hD χ->hD (cN χ o .al):=fun h i=>by
 unfold cN;split
 ·intro e;cases e
 ·exact h i
theorem EZ(n:Nat)(f:n<=1000000)(g:K.blocks.Ok)(h:ae w χ L Y C K):Calls prog 113 #[(L.ab,0),.int .i64 n,.int .i64 64] w (Gf (df K.blocks K.mem n).1 χ L Y C K {K with blocks:=(df K.blocks K.mem n).2.1,mem:=(df K.blocks K.mem n).2.2} w):=
 (kJ L.ab L.m L.c L.d Y.av K.blocks K.mem g n f w (h.al (by simp)).is (h.mem (by simp)).is).mono fun _ _ ⟨a,⟨v,b,c⟩,d,e⟩=>⟨a,_,_,h.Cp b c d e,p5⟩
theorem E0(a:Int)(g:K.blocks.Ok)(h:ae w χ L Y C K):Calls prog 115 #[(L.ab,0),a] w (DK (m1 K.blocks K.mem a).1 χ L Y C K (jm K a) w):=
 (kK L.ab L.m L.c L.d Y.av K.blocks K.mem g a w (h.al (by simp)).is (h.mem (by simp)).is).mono fun _ _ ⟨b,⟨v,c,d⟩,e,f⟩=>⟨b,_,_,h.Cp c d e f,p5⟩
theorem p6(home:Int)(h:ae w χ L Y C K):Calls prog 114 #[(L.tb,0),.int .u64 home] w (Gg (dh K.table home).1 χ L Y C K {K with table:=(dh K.table home).2} w):=
 (mE L.tb L.tg K.table home w (h.cZ (by simp)).is).mono fun _ _ ⟨a,b,c⟩=>⟨a,_,_,h.mI b c,fun h=>h⟩
theorem yL(v:Int)(h:ae w χ L Y C K):Calls prog 69 #[(L.rb,0),.int .u64 v] w (DK (hG K.ring v).1 χ L Y C K {K with ring:=(hG K.ring v).2} w):=
 (mF L.rb L.rg K.ring v w (h.ring (by simp)).is).mono fun _ _ ⟨a,b,c⟩=>⟨a,_,_,h.uj b c,fun h=>h⟩
theorem vd(place c:Int)(a2:K.blocks.Ok)(a3:(df K.blocks K.mem 1).2.1.Ok)(bx:∀O id,(dh K.table O).1=some id->aw K.ai id=none)(h:ae w χ L Y C K):
 Calls prog 68 #[(L.mb,0),place,.int .u64 c] w (Gh (.int .u64 (bQ K place c).1) χ L Y C K (bQ K place c).2 w):=by
 have H:=Z h;have B:=h.pd;have N:=Z (EZ 1 (by omega) a2 h);obtain⟨p,Q⟩:=nm (df K.blocks K.mem 1);have hle:∀a,p.1=some a->a<=140000:=fun a bw=>ng a2 (by rw[Q];exact bw)
 rw[Q]at N a3;obtain⟨cs,B1,am⟩:=p;have U:=Z Q;have c8:=Z a3;have ce:=Z bx;clear h Q a2 a3 bx;cases cs with
 |none=>
  have E:Hid (bQ K place c=(0,{K with blocks:=B1,mem:=am})):=Z (by unfold bQ;rw[U]);clear hle;go_in
  go_wp2_with fail
  refine N.mono ?_;rintro e w1 ⟨⟨u,rfl,a5⟩,dZ,Y1,b,M⟩;have A:=Z M;obtain⟨tt,dN,rfl⟩:=a5;have y:=Z b;clear b B;go_wp2
  go_ret;rw[E];exact⟨rfl,dZ,Y1,y,A⟩
 |some a=>
  have bw:=hle a rfl;have et:IntKind.u64.wrap (a:Int)=a:=by unfold IntKind.wrap IntKind.bits IntKind.signed;simp;omega
  obtain⟨K1,a1⟩:=mn (({K with blocks:=B1,mem:=am}:KS));have j:=Z a1;have es:(a:Int)<=140000:=by omega
  obtain⟨q,c1⟩:=nm (dh K1.table (a:Int));obtain⟨cq,r⟩:=q;have z:=Z c1;have c9:Hid (K1.blocks.Ok):=Z (by rw[a1];exact c8);clear hle a1 c1;cases cq with
  |none=>
   have E:Hid (bQ K place c=(0,jm {K1 with table:=r} a)):=Z (by
    have:=z.out;rw[j]at this⊢;unfold bQ;rw[U];dsimp only;rw[show dh K.table (a:Int)=(none,r)from this])
   go_in
   go_wp2_with fail
   refine N.mono ?_;rintro e w1 ⟨rfl,dZ,Y1,b,M⟩;have A:=Z M;rw[<-j]at b;have y:=Z b;have W:=b.at_.ee;have n:=p6 (a:Int) b.at_;rw[z]at n;have R:=Z n;clear b B n;go_wp2_with fail
   refine R.mono ?_;rintro e w2 ⟨⟨u,rfl,a5⟩,x,ap,m,a9⟩;have V:=Z a9;obtain⟨tt,dN,rfl⟩:=a5;have k:=Z (y.trans (Gr.of_eq (by rw[j])) m);have B:=m.at_.pd;clear m W;go_wp2_with fail
   refine(E0 (a:Int) (by exact c9) k.at_).mono ?_;rintro e w3 ⟨⟨v,rfl,_⟩,ec,cm,av,dr⟩;have cl:=Z dr;have c7:=Z (k.trans (Gr.of_eq (by rw[j])) av);clear av B;go_wp2
   go_ret;rw[E];exact⟨rfl,ec,cm,c7,fun h=>cl (V (A h))⟩
  |some id=>
   have c0:aw K.ai id=none:=ce (a:Int) id (by have:=z.out;rw[j]at this;rw[show dh K.table (a:Int)=(some id,r)from this]);have cf:=Z c0;have E:Hid (bQ K place c=(id,{K1 with table:=r,ai:=cn K.ai id ⟨id,[jb place c],0⟩})):=Z (by
    have:=z.out;rw[j]at this⊢;unfold bQ;rw[U];dsimp only;rw[show dh K.table (a:Int)=(some id,r)from this];rfl)
   clear c0;go_in
   go_wp2_with fail
   refine N.mono ?_;rintro e w1 ⟨rfl,dZ,Y1,b,M⟩;have A:=Z M;rw[<-j]at b;have y:=Z b;have W:=b.at_.ee;have n:=p6 (a:Int) b.at_;rw[z]at n;have R:=Z n;clear b B n;go_wp2_with fail
   refine R.mono ?_;rintro e w2 ⟨rfl,x,ap,m,a9⟩;have V:=Z a9;have k:=Z (y.trans (Gr.of_eq (by rw[j])) m);have X:=m.at_.hN;have c6:=Z X;clear X;go_upto_region 11 with fail
   obtain⟨d,J⟩:=nm (w2.alloc (.cells #[place,.int .u64 c,.int .u64 0,.int .u64 0,.int .u64 0,.int .u64 0,.int .u64 0,.int .u64 0,.int .u64 0,.int .u64 0,.int .u64 0,.int .u64 0,.int .u64 0,.int .u64 0,.int .u64 0,.int .u64 0,.int .u64 0,.int .u64 0,.int .u64 0,.int .u64 0,.int .u64 0,.int .u64 0,.int .u64 0,.int .u64 0,.int .u64 0,.int .u64 0,.int .u64 0,.int .u64 0,.int .u64 0,.int .u64 0,.int .u64 0,.int .u64 0,.int .u64 0,.slice none 0 0,.bool false,.int .i64 0] 127));have ad:=Z (Ch.al (D:=ag) J);have al:Hid (aJ d w2.heap.size 0 127 [] (jb place c).post (.slice none 0 0) (jb place c).f):=Z ⟨by
    have c2:=Row.new w2 #[place,.int .u64 c,.int .u64 0,.int .u64 0,.int .u64 0,.int .u64 0,.int .u64 0,.int .u64 0,.int .u64 0,.int .u64 0,.int .u64 0,.int .u64 0,.int .u64 0,.int .u64 0,.int .u64 0,.int .u64 0,.int .u64 0,.int .u64 0,.int .u64 0,.int .u64 0,.int .u64 0,.int .u64 0,.int .u64 0,.int .u64 0,.int .u64 0,.int .u64 0,.int .u64 0,.int .u64 0,.int .u64 0,.int .u64 0,.int .u64 0,.int .u64 0,.int .u64 0,.slice none 0 0,.bool false,.int .i64 0] 127;rw[J]at c2;exact c2,rfl,cv.nil _⟩
   have l:Hid (d.heap.size=w2.heap.size+1):=Z (by rw[<-J];simp);rw[J];clear J m W;have X:=(ad.cell (aQ c6.out) (fun h=>h)).trans c6.out;obtain⟨fb,a4⟩:=mn w2.heap.size;rw[<-a4]at al l⊢;have o:=Z a4;clear a4;obtain⟨w4,t⟩:=nm ((d.alloc (.cells #[(fb,0)] 125)).alloc (.cells #[.int .u64 id,.slice (some (d.heap.size,0)) 1 1,.int .u64 0] 124));have ab:Hid (Ch ag w2 w4):=Z (by rw[<-t];exact(ad.alloc _).alloc _);have S:Hid (ae w4 x L ap C {K1 with table:=r}):=Z (k.at_.af ab);have ch:Hid (Row w4 d.heap.size 125 [bk fb]):=Z (by rw[<-t];exact(Row.new d _ _).alloc _);have ci:Hid (Row w4 (d.heap.size+1) 124 [.int .u64 id,.slice (some (d.heap.size,0)) 1 1,.int .u64 0]):=Z (by
    rw[<-t];have:=Row.new (d.alloc (.cells #[(fb,0)] 125)) #[.int .u64 id,.slice (some (d.heap.size,0)) 1 1,.int .u64 0] 124;rw[World.size_alloc]at this;exact this)
   have cd:Hid (aJ w4 fb 0 127 [] (jb place c).post (.slice none 0 0) (jb place c).f):=Z (by
    rw[<-t];exact al.ch (((Ch.refl ag _).alloc _).alloc _) (fun h=>h) (fun _ _ h=>h))
   obtain⟨dC,c4,bi,a0⟩:=fu (P:=prog) (T:=110) (K:=39) (E:=121) (enc:=bk) underlying110 underlying39 (S.tm (by simp)).is id (d.heap.size+1);have I:∀i,w2.heap.size<=i->x i=.no:=fun i s=>by
    cases F:x i with
    |no=>rfl
    |_=>exact absurd (k.at_.small i (by rw[F];simp)) (by omega)
   have en:=Z I;have c3:=S.Ge (id:=id) (f:=jb place c) (bv:=.slice none 0 0) (fb:=fb) (g:=d.heap.size) (tb:=d.heap.size+1) (w':=dC) (by rw[j];exact cf) cd rfl
    ⟨rfl,Or.inr ⟨d.heap.size,1,#[bk fb],rfl,Nat.zero_le _,ch,Nat.le_refl _,by unfold maxLen;omega,rfl,rfl⟩⟩ ci (I _ (by rw[o];exact Nat.le_refl _)) (I _ (by rw[l,o];omega)) (I _ (by rw[l,o];omega)) (by rw[l];omega) (by rw[l];omega) (by omega) bi a0
   have ck:=Z c3;have cb:=Z a0;simp only[bk]at c4;rw[<-t]at c4;clear c3 bi a0 t I;go_wp2
   go_ret;rw[E];obtain⟨aY,Y',O,cS,cL,cW,cQ⟩:=ck.out;have c5:K1.ai=K.ai:=(by rw[j]);simp only[c5]at O;refine⟨rfl,aY,Y',⟨O,?_,?_⟩,fun h=>cQ (V (A h))⟩
   ·have G:Nx χ x w w4:=k.nx.trans (Nx.af ab)
    have cA:=(S.tm (by simp)).k;have ex:w.heap.size<=w2.heap.size:=k.nx.ch.size;refine⟨G.ch.join cb (fun i s e=>by rw[<-G.same i s,show i=L.tm from e,cA];simp),fun i s=> ?_⟩;cases F:x i with
    |no=>
     rw[<-G.same i s,F];cases cC:aY i with
     |no=>rfl
     |_=>
      exfalso;rcases cL i (by rw[cC];simp)with e|e|e|e
      ·exact e F
      ·rw[o]at e;omega
      ·rw[l,o]at e;omega
      ·rw[l,o]at e;omega
    |_=>rw[cS i (Nat.lt_of_lt_of_le s G.ch.size) (by rw[F];simp),G.same i s]
   ·exact k.yk.trans (Gr.of_eq c5) cW
section
attribute [local go_sem] Oper.semAt_some
variable{A:World}{lc:Nat}
def De(lc:Nat)(A:World)(k:Nat):Prop:=∃v,Boxed A lc 29 v/\v.ownBlock=some k
structure zb(lc:Nat)(A B:World):Prop where
 size:A.heap.size<=B.heap.size
 same:∀k o,A.heap[k]?=some o->o.isCells=true->k≠lc->¬De lc A k->B.heap[k]?=some o
 own:∀k,De lc B k->De lc A k∨A.heap.size<=k
theorem kv{k:Nat}{o:Obj}(h:A.heap[k]?=some o):k<A.heap.size:=(Array.getElem?_eq_some_iff.1 h).1
theorem zb.trans{B C:World}(h:zb lc A B)(a:zb lc B C):zb lc A C where
 size:=Nat.le_trans h.size a.size
 same:=fun k o b f c d=>a.same k o (h.same k o b f c d) f c fun e=>(h.own k e).elim d fun e=>by have:=kv b;omega
 own:=fun k e=>(a.own k e).elim (fun e=>h.own k e) fun e=>Or.inr (by have:=h.size;omega)
theorem zb.put(W:World)(l:Nat)(o c:Obj)(d:l≠lc)(h:W.heap[l]?=some o)(f:o.isCells=false):zb lc W (W.putObj l c) where
 size:=by show _<=(W.heap.setIfInBounds l c).size;rw[Array.size_setIfInBounds];exact Nat.le_refl _
 same:=fun k i a b _ _=>by
  by_cases e:k=l
  ·subst e;rw[h]at a;cases a;rw[f]at b;cases b
  ·exact(World.putObj_heap_other e).trans a
 own:=fun k ⟨v,g,e⟩=>Or.inl ⟨v,(World.putObj_heap_other (fun e=>d e.symm)).symm.trans g,e⟩
def Gy(lc:Nat)(A:World)(k:Nat):Prop:=(∃o,A.heap[k]?=some o/\o.isCells=true)/\k≠lc/\¬De lc A k
theorem By(lc:Nat):uv (zb lc) (Gy lc):=⟨fun {A B k} h ⟨⟨o,a,b⟩,c,d⟩ f=>
 ⟨(h.same k o a b c d).trans a.symm,⟨o,h.same k o a b c d,b⟩,c,fun e=>(h.own k e).elim d fun e=>by omega⟩⟩
theorem gH{F:Fence}{n:Nat}{P:Program}(w:World){ops:Array Oper}{rest:List Oper}{o:Oper}{a:Act}{Q:Exit->Act->World->Prop}
 (N:o.guard=none) (s x:Operand) (t:TypeId) (d:o.op=Op.call {callee:=Callee.builtin Builtin.append,args:=#[s,x],argTypes:=#[t,t]})
 (base:Nat) (e:TypeId) (i:TypeInfo) (z:Value) (size bytes:Nat) (p:P.underlying t=some (.slice e)) (r:P.info? e=some i) (y:i.zero=some z) (B:i.size=size) (D:i.bytes=bytes) (E:z.cells.size=size) (G:0<size)
 (v:Value) (k:Nat) (xs:List Value) (U:a.eval s=v) (S:w.ownsRow base e size v k xs) (b:Addr) (m c:Nat) (news:List Value) (V:a.eval x=.slice (some b) m c) (R:news.length=m*size)
 (J:∀j u,news[j]?=some u->w.cell? (b.add j)=some u) (q:∀u∈news,u.oneCell'=true) (O:0<m) (f:k+m<=maxLen) (h:(k+m)*bytes<=140737488355328) (l:base<=w.heap.size)
 (H:∀g cap w',w'.ownsRow base e size (.slice (some ⟨g,0,none⟩) (k+m) cap) (k+m) (xs++news)->w.grownBy w' v.ownBlock->(v.ownBlock=some g∨g=w.heap.size)->wpListIn F n P ops Q rest (a.put o.dst (.slice (some ⟨g,0,none⟩) (k+m) cap)) w'):
 wpListIn F n P ops Q (o::rest) a w:=by
 refine wpListIn_plain N fun K I=> ?_
 obtain⟨g,cap,w',T,W,X,Z,-⟩:=run_append_lies (P:=P) w t o.type base e i z size bytes p r y B D E G v k xs S b m c news R J q O f h l _ rfl;unfold Oper.wpIn;refine⟨?_,?_⟩
 ·simp[Oper.about,d,resolve,Target.leads,Sem.run_pure]
 ·rw[Oper.semAt_plain F _ _ (by rw[d];intro c M;cases M)]
  simp[execOp,d,resolve,invoke,builtin,U,V,T,Result.andThen];exact I _ _ (H g cap w' W X Z)
structure ry(l:List Int)(w:World)(e:Ending)(w':World):Prop where
 ret:∃v,e=.returned v/\w'.ownsRow w.heap.size 39 1 v l.length (l.map (Value.int .u64))
 ch:Ch ag w w'
section
variable{w:World}{χ:Nat->a'}{L:cU}{Y:Var}{C:KC}{K:KS}
theorem mq(h:ae w χ L Y C K):Calls prog 19 #[.pointer (some ⟨L.mb,0,none⟩)] w (ry K.ring w):=by
 obtain⟨lc,u⟩:=nm w.heap.size;obtain⟨w1,P⟩:=nm (w.alloc (.cells #[.slice none 0 0] 29));have X:Hid (Boxed w1 lc 29 (.slice none 0 0)):=Z (by rw[<-P,<-u];exact Boxed.new _ _ _);have d:Hid (Ch ag w w1):=Z (Ch.al P);have E:=Z (h.af d);have a4:Hid (w1.heap.size=lc+1):=Z (by rw[<-P,<-u];simp);have ci:=E.nX;have ce:=(E.ring (by simp)).is;obtain⟨c5,ad,c2,c3,c4⟩:=info_parts g';have a2:=Z ad;refine dx func19 rfl ?_;simp only[ntmps19,List.size_toArray,List.length_cons,List.length_nil,Nat.reduceAdd,Nat.reduceSub,Array.replicate_succ,Array.replicate_zero,List.push_toArray,List.append_toArray,List.nil_append,List.cons_append];go_wp2_with fail
 refine(mN L.rb w1).mono ?_;rintro e w4 ⟨rfl,y⟩;have f:Hid (Ch ag w1 w4):=Z (Ch.al y);have a3:Hid (Row w4 w1.heap.size 106 [.pointer (some ⟨L.rb,0,none⟩)]):=Z (Row.al y);have Q:Hid (Boxed w4 lc 29 (.slice none 0 0)):=Z (by rw[<-y];exact X.alloc _);have g:Hid (w4.heap.size=lc+2):=Z (by rw[<-y];simp[a4.out]);have S:=Z (E.af f);go_wp2_with fail
 have bx:=k7 (5-1) (by omega) w1.heap.size L.rb L.rg K.ring (By lc) w4 (a3.cell (i:=0) rfl) (S.ring (by simp)).is (fun W T k o hb M N G H=>by
  have bw:=hb.size;have c1:Boxed T lc 29 (.slice none 0 0):=((show Row w4 lc 29 [.slice none 0 0]from Q.out).ch (Ch.bT hb) (fun h=>h)).ch M (fun h=>h);refine⟨⟨o,G,H⟩,by rw[g]at bw;omega,fun⟨v,b,e⟩=> ?_⟩;have:=(show T.heap[lc]?=_ from b).symm.trans c1;simp at this;subst this;simp[Value.ownBlock]at e)
 refine(wpIn_wide (n:=5)).1 ?_;apply wpIn_rangeFunc_ownG (F:=Fence.wide) (n:=5) rfl (by omega) (gf:=93) (lb:=#[.pointer (some ⟨w1.heap.size,0,none⟩)]) rfl trivial (enters_of func93 (by kernel_rfl) rfl) bx (fun h k=>zb.trans h k) (fun W l o c6 am G H _=>zb.put W l o c6 (by rw[g]at am;omega) G H) (Below.refl _ _) (fun _=>rfl)
  (fun pre W=>Below w.heap.size w4 W/\∃v,Boxed W lc 29 v/\W.ownsRow lc 39 1 v pre.length (pre.map fun p=>Value.int .u64 p.2)/\True) (fun c pre W=>False)
  (OwnFrom.and (ownFrom_below (by have:=d.size;have:=f.size;omega) (by have:=d.size;have:=f.size;omega)) ((holdsRow_own lc lc 29 39 1 (fun pre:List (Nat×Int)=>pre.length) (fun pre=>pre.map fun p=>Value.int .u64 p.2) (fun _ _=>True)).from _))
  (fun c=>fun _ _ _ _ h _ _=>h)
  ⟨Below.refl _ _,_,Q,⟨by simp,Or.inl ⟨rfl,rfl⟩⟩,trivial⟩
 ·intro l x W K q
  gi_wp2
  exact q
 ·rintro l pre ⟨ck,c7⟩ W ⟨m,v,b,a,-⟩ hlen
  have ch:=m.size;have cd:K.ring.length<=64:=by obtain⟨cs,fr,M,-⟩:=(S.ring (by simp)).is;exact M.hn
  have a5:=b.cell;have fb:=b.frozen;have B:=Z b;have R:=Z a;have a0:=Z m
  gi_wp2_with (first|(gi_at_builtin;refine gH _ rfl _ _ 29 rfl lc 39 c5 (.int .u64 0) 1 8 underlying29 a2 c2 c3 c4 rfl (by decide) _ _ _ rfl (R.alloc _) ⟨W.heap.size,0,none⟩ 1 1 [.int .u64 c7] rfl rfl (cell_one_new _ _ _) (by simp[Value.oneCell']) (by omega) (by unfold maxLen;omega) (by omega) (by have:=g.out;simp;omega) ?_;intro a9 c9 w3 bv s I;obtain⟨V,r,O,t,J⟩:=B.appended (by decide) R (by have:=g.out;omega) (Nat.le_refl _) bv s;have c8:=V.cell;have f3:=V.frozen;have j:=Z (And.intro r (And.intro O (And.intro t J)));have a1:=Z (And.intro s I)))
  obtain⟨r,O,t,J⟩:=j.out;obtain⟨s,I⟩:=a1.out;refine⟨t.from _,⟨t.size,fun k o N cf av bi=> ?_,fun k ⟨v',c0,e⟩=> ?_⟩,⟨(show Below lc w4 W from u▸a0).trans J,_,r,?_⟩⟩
  ·have al:=kv N
   refine(Below.heap_setCell _ _ _ k (fun e=>av e)).trans ((s.block k (by simp;omega) (fun e=>bi ⟨v,B,e.symm⟩)).trans ((HL _ _ _ al).trans N))
  ·have:=(show _=some (Obj.cells #[v'] 29 (0,0))from c0).symm.trans r
   simp at this;subst this;obtain rfl:a9=k:=by simpa[Value.ownBlock]using e
   rcases I with h|h
   ·exact Or.inl ⟨v,B,h⟩
   ·exact Or.inr (by rw[h];simp)
  ·simpa using O
 ·rintro D cl W U rfl ⟨m,v,b,a,-⟩ q
  have a5:=b.cell;have z:=Z q;have j:=Z (And.intro m a);go_wp2_with fail
  refine⟨by simp,.inl ⟨_,_,rfl,run_takeDeferred z,?_⟩⟩;refine⟨_,results_tmp rfl _ _ _,?_⟩;have a:=ownsRow_putObj j.2 (.deferred none) z rfl;rw[pI]at a;have ab:Below w.heap.size w (W.putObj D (.deferred none)):=(((d.trans f).ib).trans j.1).trans (belowK_b (w:=w4) (by have:=d.size;have:=f.size;omega) W D (.deferred (some [])) (.deferred none) U z rfl rfl);have ap:(gy K.ring K.ring.length).map (fun p=>Value.int .u64 p.2)=K.ring.map (Value.int .u64):=by
   have:=congrArg (List.map (Value.int .u64)) (lW K.ring (Nat.le_refl _));rw[List.map_map,List.take_length]at this;exact this
  rw[ap]at a;exact⟨⟨_,rfl,by rw[u];exact a⟩,Ch.bT ab⟩
 ·rintro D c pre W U cb hF q
  exact hF.elim
end
end
theorem HJ{w wr:World}{l pre r:List Sl}{s:Sl}(a:bN w none none l)(d:l=pre++s::r)(c:Ch ag w wr):wr.cell? (s.b,4)=some (ptrTo (r.head?.map Sl.b)):=by
 rw[d]at a;obtain⟨-,b,-⟩:=bN.mid.1 a;have:=(b.ch c (fun h=>h)).cell (i:=4) rfl
 rwa [Option.or_none]at this
theorem Bz(qb lb mb k:Nat)(ls:List (List Sl))(l:List Sl)(w:World)(h:iE w qb lb mb ls)(d:ls[k]?=some l)(F:l.length<=100000):
 Calls prog 45 #[(qb,0),.int .i64 k] w (ry (l.map Sl.id) w):=by
 obtain⟨K,E,H,I,J⟩:=info_parts g';have v:=Z E;have T:k<8:=by rw[<-h.len];exact(List.getElem?_eq_some_iff.1 d).1
 have f:=Z (h.chain k l d);have x:=Z F;have M:=h.head.c1;have B:w.cell? (lb,k*2)=some (ptrTo (l.head?.map Sl.b)):=h.ends.at er d (j:=0) (by omega) rfl;have U:(k:Int)<8:=by omega
 have V:(0:Int)<=k:=by omega
 obtain⟨a0,q⟩:=nm (ptrTo (l.head?.map Sl.b));rw[q]at B;have A:=Z q;have R:decide ((k:Int)<0)=false:=decide_eq_false (by omega);have S:decide ((8:Int)<=k)=false:=decide_eq_false (by omega);go_wp2
 go_loopg [5,6] (l.length+1) (fun gk sv pv wr=>∃pre post:List Sl,l=pre++post/\gk=post.length+1/\pv=ptrTo (post.head?.map Sl.b)/\Hid (Ch ag w wr/\wr.ownsRow w.heap.size 39 1 sv pre.length ((pre.map Sl.id).map (Value.int .u64))))
 case atStart=>exact⟨[],l,rfl,rfl,A.symm,Z ⟨Ch.refl _ _,⟨by simp,Or.inl ⟨rfl,rfl⟩⟩⟩⟩
 case round=>
  obtain⟨pre,post,o,rfl,rfl,a⟩:=hrel;obtain⟨L,N,rfl⟩:=au a.2;have b:=Z o;have u:pre.length+post.length<=100000:=by have:=x.out;rw[o,List.length_append]at this;exact this
  cases post with
  |nil=>
   rw[show ptrTo (([]:List Sl).head?.map Sl.b)=.pointer none from rfl];go_wp2
   go_ret;refine⟨⟨_,rfl,?_⟩,a.1⟩;have P:=a.2;rw[b,List.append_nil]
   rwa [List.length_map]
  |cons s r=>
   have m:=f.out;rw[b]at m;obtain⟨-,c,-⟩:=bN.mid.1 m;have c:=c.ch a.1 (fun h=>h);have y0:=c.c1;obtain⟨n,e⟩:=nm pre.length;have y:=Z e;have Y:=a.1.size;rw[e]at u⊢;have X:n+1<=100000:=(by rw[List.length_cons]at u;omega);have p:=a.2;rw[e]at p;have i:=Z p;rw[show ptrTo ((s::r).head?.map Sl.b)=.pointer (some (s.b,0))from rfl];go_wp2_with (at_builtin;refine wpList_append_lies _ rfl _ _ _ rfl w.heap.size 39 K _ 1 8 underlying29 v H I J rfl (by omega) _ n ((pre.map Sl.id).map (Value.int .u64)) rfl (i.alloc _) ⟨wr.heap.size,0,none⟩ 1 1 [.int .u64 s.id] rfl rfl (World.news_of_block (cs:=#[.int .u64 s.id]) (t:=39) (fr:=(0,0)) (heap_alloc_new wr _)) (by simp[Value.oneCell']) (by omega) (by unfold maxLen;omega) (by omega) (by simp;omega) (wr.heap.size+1) (by simp) ?_)
   intro O cap a1 G D Q W;have C:=ao D;have z:=Z G;have g:=Z (eX a.1 i (Nat.le_refl _) C);have a2:=(HJ f b g);go_wp2
   go_roundg (r.length+1)
   case measure=>simp
   case rel=>exact⟨pre++[s],r,by rw[b];simp,rfl,rfl,Z ⟨g,by simpa[y.out]using z.out⟩⟩
theorem Di:(prog.info? 48).map (fun i=>(i.zero,i.size,i.bytes))=some (some (.agg #[.int .u64 0,.int .i64 0,.int .u64 0,.int .u64 0,.int .u64 0,.bool false,.bool false]),7,48):=by kernel_rfl
def rz(l:List aF):List iD:=(l.filter aF.taken).map aF.t
theorem jY{l:List aF}{k:Nat}{r:aF}(h:l[k]?=some r):rz (l.take (k+1))=rz (l.take k)++(if r.taken then [r.t]else []):=by
 rw[List.take_succ,h];unfold rz;rw[List.filter_append,List.map_append];cases a:r.taken<;>simp[a]
def BA(l:List iD)(w:World)(e:Ending)(w':World):Prop:=∃v,e=.returned v/\w'.ownsRow w.heap.size 48 7 v l.length (l.flatMap iD.cells)/\Ch ag w w'
theorem vv(b g:Nat)(l:List aF)(w:World)(h:aW w b g l):Calls prog 44 #[(b,0)] w (BA (rz l) w):=by
 obtain⟨J,p,F,G,I⟩:=info_parts Di;have y:=Z p;have H:=Z h;have U:=h.head.c1;clear p h;go_wp2
 go_loopw [3,10] (fun sv j wr=>∃k n:Nat,k<=64/\n<=k/\j=.int .i64 k/\n=(rz (l.take k)).length/\Ch ag w wr/\wr.ownsRow w.heap.size 48 7 sv n ((rz (l.take k)).flatMap iD.cells)) (fun _ j _=>64-(intOf j).toNat)
 case atStart=>exact⟨0,0,by omega,by omega,rfl,rfl,Ch.refl _ _,⟨by simp[rz],Or.inl ⟨rfl,rfl⟩⟩⟩
 case round=>
  obtain⟨k,n,Y,a2,rfl,q,d,e⟩:=hrel;have a:=Z (And.intro d (And.intro e q));obtain⟨T,W,rfl⟩:=au e;have V:=((H.ch d (fun h=>h) (fun h=>h)).head).cell (i:=0) rfl;clear d e q;by_cases C:k<64
  ·obtain⟨r,f⟩:∃r,l[k]?=some r:=⟨_,List.getElem?_eq_getElem (by rw[H.len];exact C)⟩
   have c:=Z f;obtain⟨times,taken,a3,⟨tid,state,home,value,u,loose,v⟩⟩:=r;obtain⟨y0,K,L,M,N,O,P,Q,R,S,fr,a1⟩:=(H.ch a.1 (fun h=>h) (fun h=>h)).cells f;dsimp only at K M N O P Q R S;have a0:(k:Int)<64:=(by omega);clear fr f y0 L;cases taken with
   |false=>
    go_wp2
    go_roundw
    case rel=>exact⟨k+1,n,by omega,by omega,by go_num,by rw[jY c];simpa using a.out.2.2,a.1,by rw[jY c];simpa using a.out.2.1⟩
    case measure=>simp[intOf];omega
   |true=>
    have E:=a.1.size;go_wp2_with (at_builtin;refine wpList_append_lies _ rfl _ _ _ rfl w.heap.size 48 J _ 7 48 underlying43 y F G I rfl (by omega) _ n ((rz (l.take k)).flatMap iD.cells) rfl (a.2.1.alloc _) ⟨wr.heap.size,0,none⟩ 1 1 [.int .u64 tid,state,.int .u64 home,.int .u64 value,.int .u64 u,.bool loose,.bool v] rfl rfl (World.news_of_block (cs:=#[.int .u64 tid,state,.int .u64 home,.int .u64 value,.int .u64 u,.bool loose,.bool v]) (t:=48) (fr:=(0,0)) (heap_alloc_new wr _)) (by simp[Value.oneCell']) (by omega) (by unfold maxLen;omega) (by omega) (by simp;omega) (wr.heap.size+1) (by simp) ?_)
    intro X cap a4 s o B D;have m:=ao o;have z:=Z s;have x:=Z (eX a.1 a.2.1 (Nat.le_refl _) m);clear o m s B D E;go_wp2
    go_roundw
    case rel=>exact⟨k+1,n+1,by omega,by omega,by go_num,by rw[jY c];simpa using a.out.2.2,x,by rw[jY c,List.flatMap_append];simpa[iD.cells]using z.out⟩
    case measure=>simp[intOf];omega
  ·obtain rfl:k=64:=by omega
   go_wp2
   go_ret;refine⟨_,rfl,?_,a.1⟩;have A:=a.2.1;rw[a.2.2,List.take_of_length_le (by rw[H.len];omega)]at A
   rwa [a.2.2,List.take_of_length_le (by rw[H.len];omega)]
theorem o8{w:World}{χ:Nat->a'}{L:cU}{Y:Var}{C:KC}{K:KS}(h:ae w χ L Y C K):Calls prog 15 #[(L.mb,0)] w (BA (rz K.table) w):=by
 have c:=h.ee;have b:=Z (vv L.tb L.tg K.table w (h.cZ (by simp)).is);go_in
 go_wp2_with (go_at_call 44;refine b.mono ?_;rintro e w' ⟨v,rfl,f,d⟩;have a:=Z (And.intro f d))
 go_ret;exact⟨v,rfl,a.1,a.2⟩
