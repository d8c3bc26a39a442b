import Derived.Test.YtlihkblppjgebaaGreatDoorZAq
set_option linter.all false
set_option maxRecDepth 100000
set_option maxHeartbeats 8000000
namespace Go.Proofs.YtlihkblppjgebaaGreatDoor
open Go.RowKit Go.Proofs.Tryz
section
section
variable{ok:Hy}{n j k m d a i q v id:Nat}{s s':Sh}{g g':Gh}{w w':AW}{rl:List Nat}{wk:List AW}{p:Pl}
theorem LI.same(L:LI n s g rl wk)(hb:s'.nb=s.nb)(c:g'.lc=g.lc)(y:∀x d i,d<n->tp s d<=i->i<g.eb d->g.it d i=x->tp s' d<=i/\i<g'.eb d/\g'.it d i=x):LI n s' g' rl wk:=by
 have b:∀x,val s' x↔val s x:=fun x=>by unfold val;rw[hb]
 refine⟨L.r0,L.rn,fun x=> ?_,fun x d i h e=> ?_,fun k x t u=> ?_,fun x k h e=> ?_,fun x k h e=> ?_⟩
 ·rw[b,c];exact L.rg x
 ·rw[c]at e
  obtain⟨f,l,o,r⟩:=L.dq x d i ((b x).1 h) e;exact⟨f,y x d i f l o r⟩
 ·rw[b,c];exact L.hd k x t u
 ·rw[c]at e;exact L.ND x k ((b x).1 h) e
 ·rw[c]at e;exact L.rc x k ((b x).1 h) e
theorem LI.take(L:LI n s g rl wk)(hw:wk[j]?=some w)(A:w.hand=0)(t:w'.hand=id)(D:val s id)(G:g.lc id≠ .ring)(F:∀k,g.lc id≠ .hand k)(hb:s'.nb=s.nb)(u:g'.lc=F1 g.lc id (.hand j))
 (B:∀x d i,x≠id->val s x->g.lc x=.deq d i->d<n/\tp s' d<=i/\i<g'.eb d/\g'.it d i=x):LI n s' g' rl (wk.set j w'):=by
 have b:∀x,val s' x↔val s x:=fun x=>by unfold val;rw[hb]
 have o:g'.lc id=.hand j:=by rw[u,B2]
 have r:∀x,x≠id->g'.lc x=g.lc x:=fun x h=>by rw[u,FF _ _ h]
 refine⟨L.r0,L.rn,fun x=> ?_,fun x d i h e=> ?_,Jv (If hw) (P:=fun k h=>val s' h/\g'.lc h=.hand k) (fun _=>by rw[t];exact⟨(b _).2 D,o⟩) (fun k x H E C=> ?_),fun x k h e=> ?_,fun x k h e=> ?_⟩
 ·rw[b,L.rg x]
  by_cases c:x=id
  ·rw[c,o]
   exact⟨fun h=>absurd h.2 G,fun h=>(by cases h.2)⟩
  ·rw[r x c]
 ·by_cases c:x=id
  ·rw[c,o]at e;cases e
  ·rw[r x c]at e
   exact B x d i c ((b _).1 h) e
 ·obtain⟨f,l⟩:=L.hd k x E C
  exact⟨(b _).2 f,by rw[r _ (fun q=>F k (by rw[<-q];exact l))];exact l⟩
 ·by_cases c:x=id
  ·rw[c,o]at e
   injection e with e
   subst e;exact⟨w',HU (If hw),by rw[t,c]⟩
  ·rw[r x c]at e
   obtain⟨y,f,l⟩:=L.ND x k ((b _).1 h) e;have z:k≠j:=fun q=>by
    subst q;rw[hw]at f;obtain rfl:=Option.some.inj f;exact(((b _).1 h).Qm) (by rw[<-l,A])
   exact⟨y,by rw[HM z];exact f,l⟩
 ·by_cases c:x=id
  ·rw[c,o]at e;cases e
  ·rw[r x c]at e
   exact L.rc x k ((b _).1 h) e
theorem NJ(I:SI ok n s g)(L:LI n s g rl wk)(hj:j<n)(hw:wk[j]?=some w)(F:w.hand≠0)(J:w'.hand=0):
 Mh ok n j s g (s.wr 0 v) (g.mv w.hand .ring) (rl++[w.hand]) (wk.set j w')/\(I9 s g j->I9 (s.wr 0 v) (g.mv w.hand .ring) j):=by
 obtain⟨M,u⟩:=L.hd j w hw F;have A:Ja n s g j 0:=Or.inl rfl;have z:=I.wr (v:=v) hj A;have C:∀d,d<n->SD n (s.wr 0 v) (g.mv w.hand .ring) d:=fun d H=>(z.d d H).mv (fun i e=>by rw[u]at e;cases e)
 refine⟨⟨{z with d:=C},?_,(IG.wr I hj A).trans (IG.of fun k t D=>⟨GO.mv (by rw[u];intro e;cases e) (fun e=>by cases e),z.d k t,C k t⟩)⟩,fun h x B e=> ?_⟩
 ·have K:w.hand∉rl:=fun h=>by have:=((L.rg _).1 h).2;rw[u]at this;cases this
  have r:∀x,x≠w.hand->(g.mv w.hand .ring).lc x=g.lc x:=fun x h=>Ii h
  refine⟨by obtain⟨l,e⟩:=L.r0;exact⟨l++[w.hand],by rw[e];rfl⟩,List.nodup_append.2 ⟨L.rn,by simp,fun a G b hb=>by simp at hb;subst hb;exact fun e=>K (e▸G)⟩,fun x=> ?_,fun x d i h e=> ?_,Jv (If hw) (P:=fun k h=>val s h/\(g.mv w.hand .ring).lc h=.hand k) (fun q=>absurd J q) (fun k x t B D=> ?_),fun x k h e=> ?_,fun x k h e=> ?_⟩
  ·show _↔val s x/\_
   rw[List.mem_append,L.rg x];by_cases c:x=w.hand
   ·rw[c,HH];simp[M]
   ·rw[r x c];simp[c]
  ·by_cases c:x=w.hand
   ·rw[c,HH]at e;cases e
   ·rw[r x c]at e
    have:=L.dq x d i h e;rw[A.tp this.1];exact this
  ·obtain⟨o,f⟩:=L.hd k x B D
   exact⟨o,by rw[r _ (fun q=>by rw[q,u]at f;injection f with f;exact t f.symm)];exact f⟩
  ·by_cases c:x=w.hand
   ·rw[c,HH]at e;cases e
   ·rw[r x c]at e
    obtain⟨y,o,f⟩:=L.ND x k h e;have E:k≠j:=(fun q=>by subst q;rw[hw]at o;obtain rfl:=Option.some.inj o;exact c f.symm);exact⟨y,by rw[HM E];exact o,f⟩
  ·by_cases c:x=w.hand
   ·rw[c,HH]at e;cases e
   ·rw[r x c]at e
    exact L.rc x k h e
 ·by_cases c:x=w.hand
  ·rw[c,HH]at e;cases e
  ·rw[Ii c]at e
   exact h x B e
theorem Lo(I:SI ok n s g)(L:LI n s g rl wk)(hj:j<n)(hw:wk[j]?=some w)(P:w'.hand=w.hand)(T:q+1=g.eb j)(U:tp s j<q)(S:I9 s g j):
 ∃g',Mh ok n j s g s g' rl (wk.set j w')/\g'.it=g.it/\g'.eb j=q/\Rc s g' j q:=by
 have D:=I.d j hj;obtain⟨Q,y⟩:=D.dq q (by omega) (by omega);let g':Gh:={g with eb:=F1 g.eb j q,lc:=F1 g.lc (g.it j q) (.rch j)}
 have l:∀x,x≠g.it j q->g'.lc x=g.lc x:=fun x h=>FF _ _ h
 have r:g'.lc (g.it j q)=.rch j:=B2 _ _ _;have f1:g'.eb j=q:=B2 _ _ _;have f2:∀d,d≠j->g'.eb d=g.eb d:=fun d h=>FF _ _ h
 have K:∀d,d<n->SD n s g' d:=fun d A=>by
  have B:=I.d d A;by_cases c:d=j
  ·subst c
   refine⟨B.t1,by rw[f1];omega,by rw[f1];have:=B.rm;omega,by rw[f1];have:=B.eb;omega,⟨B.ar.lo,B.ar.hi,B.ar.sz,B.ar.bs⟩,B.pb,B.ow,fun i o f=>by rw[f1]at f;exact B.ce i o (by omega),fun i o f=> ?_⟩;rw[f1]at f;have:=B.dq i o (by omega);refine⟨this.1,?_⟩;rw[l _ (fun G=>by
    have:=this.2;rw[G,y]at this;injection this with _ this
    omega)]
   exact this.2
  ·refine⟨B.t1,by rw[f2 d c];exact B.le,by rw[f2 d c];exact B.rm,by rw[f2 d c];exact B.eb,⟨B.ar.lo,B.ar.hi,B.ar.sz,B.ar.bs⟩,B.pb,B.ow,fun i o f=>by rw[f2 d c]at f;exact B.ce i o f,fun i o f=> ?_⟩
   rw[f2 d c]at f;have:=B.dq i o f;refine⟨this.1,?_⟩;rw[l _ (fun G=>by
    have:=this.2;rw[G,y]at this;injection this with this _
    exact c this.symm)]
   exact this.2
 have O:∀d,d<n->ok.em d->tp s d=g'.eb d:=fun d A e=>by
  have q:=I.em d A e;by_cases c:d=j
  ·subst c;omega
  ·rw[f2 d c];exact q
 refine⟨g',⟨{I with d:=K,em:=O},?_,IG.of fun k C E=>⟨?_,I.d k C,K k C⟩⟩,rfl,f1,⟨Q,r,fun x R e=> ?_⟩⟩
 ·have M:LI n s g' rl wk:=by
   refine⟨L.r0,L.rn,fun x=> ?_,fun x d i h e=> ?_,fun k x C E=> ?_,fun x k h e=> ?_,fun x k h e=> ?_⟩
   ·rw[L.rg x]
    by_cases c:x=g.it j q
    ·rw[c,r,y]
     exact⟨fun h=>(by cases h.2),fun h=>(by cases h.2)⟩
    ·rw[l x c]
   ·by_cases c:x=g.it j q
    ·rw[c,r]at e;cases e
    ·rw[l x c]at e
     obtain⟨F,u,N,H⟩:=L.dq x d i h e;refine⟨F,u,?_,H⟩;by_cases J:d=j
     ·subst J
      rw[f1];rcases Nat.lt_or_ge i q with z|z
      ·exact z
      ·obtain rfl:i=q:=by omega
       exact absurd H.symm c
     ·rw[f2 d J];exact N
   ·obtain⟨F,u⟩:=L.hd k x C E
    exact⟨F,by rw[l _ (fun z=>by rw[z,y]at u;cases u)];exact u⟩
   ·by_cases c:x=g.it j q
    ·rw[c,r]at e;cases e
    ·rw[l x c]at e
     exact L.ND x k h e
   ·by_cases c:x=g.it j q
    ·rw[c,r]at e;injection e with e;subst e;exact hj
    ·rw[l x c]at e
     exact L.rc x k h e
  exact M.put hw P
 ·exact {
   nb:=Nat.le_refl _,nx:=Nat.le_refl _,b:=rfl,a:=rfl,eb:=f2 k E,it:=rfl,t:=fun _ _=>Nat.le_refl _,ow:=fun _ _=>⟨rfl,rfl,fun e=>e,fun _=>rfl⟩,ce:=fun _ _ _ _=>rfl,hc:=fun _ _ _=>rfl,
   lr:=fun x _ e=>by rw[l x (fun z=>by rw[z,y]at e;cases e)];exact e
   LV:=fun x h e=>by
    by_cases c:x=g.it j q
    ·rw[c,r]at e;injection e with e;exact absurd e.symm E
    ·rw[l x c]at e;exact⟨h,e⟩
   th:=fun d A o f=>⟨by
    by_cases c:d=j
    ·subst c;rw[f1];omega
    ·rw[f2 d c];exact f,rfl,fun _ _ _ _=>rfl⟩}
 ·by_cases c:x=g.it j q
  ·exact c
  ·rw[l x c]at e
   exact absurd e (S x R)
theorem NK(I:SI ok n s g)(L:LI n s g rl wk)(hj:j<n)(hw:wk[j]?=some w)(o:w.hand=0)(y:Rc s g j q)(t:w'.hand=g.it j q):
 Mh ok n j s g s (g.mv (g.it j q) (.hand j)) rl (wk.set j w')/\I9 s (g.mv (g.it j q) (.hand j)) j:=by
 obtain⟨A,b,z⟩:=y;have h:∀d,d<n->SD n s (g.mv (g.it j q) (.hand j)) d:=fun d r=>(I.d d r).mv (fun i e=>by rw[b]at e;cases e)
 refine⟨⟨{I with d:=h},L.take hw o t A (by rw[b];intro e;cases e) (fun k=>by rw[b];intro e;cases e) rfl rfl (fun x d i _ f e=>L.dq x d i f e),IG.of fun k l u=>⟨GO.mv (by rw[b];intro e;injection e with e;exact u e.symm) (fun e=>by cases e),I.d k l,h k l⟩⟩,fun x f e=> ?_⟩;by_cases c:x=g.it j q
 ·rw[c,HH]at e;cases e
 ·rw[Ii c]at e
  exact c (z x f e)
theorem KQ(I:SI ok n s g)(L:LI n s g rl wk)(hj:j<n)(P:d<n)(hw:wk[j]?=some w)(N:w.hand=0)(H:tp s d<g.eb d)(S:w'.hand=g.it d (tp s d)):
 ∃g',Mh ok n j s g (s.wr (17+3*d) (tp s d+1)) g' rl (wk.set j w')/\g'.eb=g.eb/\(I9 s g j->I9 (s.wr (17+3*d) (tp s d+1)) g' j):=by
 have D:=I.d d P;obtain⟨T,u⟩:=D.dq (tp s d) (Nat.le_refl _) H;have t1:tp (s.wr (17+3*d) (tp s d+1)) d=tp s d+1:=Fy _ _ _;have t2:∀x,x≠d->tp (s.wr (17+3*d) (tp s d+1)) x=tp s x:=fun x h=>cQ _ _ (by omega)
 have t3:∀x,ra (s.wr (17+3*d) (tp s d+1)) x=ra s x:=fun x=>cQ _ _ (by omega)
 have t4:∀x,17+3*n<=x->(s.wr (17+3*d) (tp s d+1)).c x=s.c x:=fun x h=>cQ _ _ (by omega)
 have r:∀x,x≠g.it d (tp s d)->(g.mv (g.it d (tp s d)) (.hand j)).lc x=g.lc x:=fun x h=>Ii h
 have O:∀a,Ie n s g a->Ie n (s.wr (17+3*d) (tp s d+1)) (g.mv (g.it d (tp s d)) (.hand j)) a:=fun a h=>⟨h.lo,by rw[t4 _ h.lo];exact h.hi,by rw[t4 _ h.lo];exact h.sz,by rw[t4 _ h.lo];exact h.bs⟩
 have F:∀x,x<n->SD n (s.wr (17+3*d) (tp s d+1)) (g.mv (g.it d (tp s d)) (.hand j)) x:=fun x f=>by
  have B:=I.d x f;have E:=t4 _ B.ar.lo;have R:tp s x<=tp (s.wr (17+3*d) (tp s d+1)) x:=by
   by_cases c:x=d
   ·subst c;omega
   ·rw[t2 x c];exact Nat.le_refl _
  refine⟨Nat.le_trans B.t1 R,?_,by rw[t3,E];have:=B.rm;show g.eb x<=_;omega,B.eb,by rw[t3];exact O _ B.ar,by rw[t3];exact B.pb,by rw[t3];exact B.ow,fun i l o=> ?_,fun i l o=> ?_⟩
  ·by_cases c:x=d
   ·subst c;rw[t1];exact H
   ·rw[t2 x c];exact B.le
  ·rw[t3,E,t4 _ (B.ar.cell i).1]
   exact B.ce i (by omega) o
  ·have:=B.dq i (by omega) o
   refine⟨this.1,?_⟩;show(g.mv _ _).lc (g.it x i)=_
   rw[r _ (fun z=>by
    have q:=this.2;rw[z,u]at q;injection q with V X
    subst V;rw[t1]at l;omega)]
   exact this.2
 have Q:∀x,x<n->ok.em x->tp (s.wr (17+3*d) (tp s d+1)) x=(g.mv (g.it d (tp s d)) (.hand j)).eb x:=fun x f e=>by
  have q:=I.em x f e;by_cases c:x=d
  ·subst c;omega
  ·rw[t2 x c];exact q
 refine⟨g.mv (g.it d (tp s d)) (.hand j),⟨{I with d:=F,em:=Q},L.take hw N S T (by rw[u];intro e;cases e) (fun k=>by rw[u];intro e;cases e) rfl rfl (fun x y i f U e=> ?_),IG.of fun k G W=>⟨?_,I.d k G,F k G⟩⟩,rfl,fun h x f e=> ?_⟩
 ·obtain⟨J,K,M,C⟩:=L.dq x y i U e
  refine⟨J,?_,M,C⟩;by_cases c:y=d
  ·subst c
   rw[t1];rcases Nat.lt_or_ge (tp s y) i with z|z
   ·exact z
   ·obtain rfl:i=tp s y:=by omega
    exact absurd C.symm f
  ·rw[t2 y c];exact K
 ·exact {
   nb:=Nat.le_refl _,nx:=Nat.le_refl _,b:=cQ _ _ (by omega),a:=t3 k,eb:=rfl,it:=rfl,
   t:=fun x f=>by
    by_cases c:x=d
    ·subst c;omega
    ·rw[t2 x c];exact Nat.le_refl _
   ow:=fun _ _=>⟨rfl,rfl,fun e=>e,fun _=>rfl⟩,ce:=fun q l _ _=>t4 q l,hc:=fun a A _=>t4 _ A.lo,
   lr:=fun x _ e=>by rw[r x (fun z=>by rw[z,u]at e;cases e)];exact e
   LV:=fun x h e=>by
    by_cases c:x=g.it d (tp s d)
    ·rw[c,HH]at e;cases e
    ·rw[r x c]at e;exact⟨h,e⟩
   th:=fun x f l o=>⟨o,rfl,fun a A _ _=>t4 _ (A.cell _).1⟩}
 ·by_cases c:x=g.it d (tp s d)
  ·rw[c,HH]at e;cases e
  ·rw[r x c]at e
   exact h x f e
theorem NL(I:SI ok n s g)(L:LI n s g rl wk)(hj:j<n)(hw:wk[j]?=some w)(J:w'.hand=w.hand)(P:2*s.c (ra s j)+1=q)(K:s.hl+q<=s.Gx):
 ∃g',Mh ok n j s g {s with hl:=s.hl+q,c:=fun x=>if s.hl<=x/\x<s.hl+q then 0 else s.c x} g' rl (wk.set j w')/\NA n {s with hl:=s.hl+q,c:=fun x=>if s.hl<=x/\x<s.hl+q then 0 else s.c x} g' j s.hl/\g'.eb=g.eb/\g'.lc=g.lc:=by
 let g':Gh:={g with bs:=fun x=>if s.hl<=x then s.hl else g.bs x,ow:=F1 g.ow s.hl j,pb:=F1 g.pb s.hl false}
 let s':Sh:={s with hl:=s.hl+q,c:=fun x=>if s.hl<=x/\x<s.hl+q then 0 else s.c x}
 have r:∀x,x<s.hl->s'.c x=s.c x:=fun x h=>if_neg (by omega)
 have A:∀x,x<s.hl->g'.bs x=g.bs x:=fun x h=>if_neg (by omega)
 have E:∀x,x<s.hl->g'.ow x=g.ow x:=fun x h=>FF _ _ (by omega)
 have z:∀x,x<s.hl->g'.pb x=g.pb x:=fun x h=>FF _ _ (by omega)
 have M:=I.lo;have t1:∀x,x<n->tp s' x=tp s x:=fun x h=>r _ (by omega)
 have t2:∀x,x<n->dK s' x=dK s x:=fun x h=>r _ (by omega)
 have t3:∀x,x<n->ra s' x=ra s x:=fun x h=>r _ (by omega)
 have H:∀a,Ie n s g a->Ie n s' g' a:=fun a h=>by
  have e:=r a h.head.1;have N:=h.hi;refine⟨h.lo,?_,by rw[e];exact h.sz,fun x l o=> ?_⟩
  ·rw[e];show _<s.hl+q;omega
  ·rw[e]at o
   rw[A x (by omega)];exact h.bs x l o
 have C:∀x,x<n->SD n s' g' x:=fun x f=>by
  have B:=I.d x f;have e:=r _ B.ar.head.1;exact⟨by rw[t1 x f];exact B.t1,by rw[t1 x f];exact B.le,by rw[t1 x f,t3 x f,e];exact B.rm,B.eb,by rw[t3 x f];exact H _ B.ar,by rw[t3 x f,z _ B.ar.head.1];exact B.pb,by rw[t3 x f,E _ B.ar.head.1];exact B.ow,fun i l o=>by rw[t1 x f]at l;rw[t3 x f,e,r _ (B.ar.cell i).2.1];exact B.ce i l o,fun i l o=>by rw[t1 x f]at l;exact B.dq i l o⟩
 refine⟨g',⟨⟨I.n0,I.n1,I.nb,K,I.l1,?_,fun d D e=>by rw[t1 d D];exact I.em d D e,I.nc,C⟩,?_,IG.of fun k u O=>⟨?_,I.d k u,C k u⟩⟩,⟨M,?_,fun x l o=>if_pos l,B2 _ _ _,B2 _ _ _⟩,rfl,rfl⟩
 ·show _<=s.hl+q;omega
 ·exact(L.same (s':=s') (g':=g') rfl rfl (fun x d i l o F G=>⟨by rw[t1 d l];exact o,F,G⟩)).put hw J
 ·exact {
   nb:=Nat.le_refl _,nx:=Nat.le_add_right _ _,b:=t2 k u,a:=t3 k u,eb:=rfl,it:=rfl,t:=fun x f=>by show _<=tp s' x;rw[t1 x f];exact Nat.le_refl _,
   ow:=fun x f=>⟨A x f,E x f,fun e=>by rw[z x f];exact e,fun _=>z x f⟩,ce:=fun x _ h _=>r x h,hc:=fun a y _=>r a y.head.1,
   lr:=fun _ _ e=>e,LV:=fun _ h e=>⟨h,e⟩,th:=fun x f l o=>⟨o,rfl,fun a y _ _=>r _ (y.cell _).2.1⟩}
 ·show s.hl+2*s'.c (ra s' j)<s.hl+q
  rw[t3 j hj,r _ (I.d j hj).ar.head.1];omega
theorem NN(I:SI ok n s g)(L:LI n s g rl wk)(hj:j<n)(hw:wk[j]?=some w)(P:w'.hand=w.hand)(C:I6 ok n s g j w)(E:Pf s g j w (g.eb j)):
 ∃g',Mh ok n j s g (s.wr (17+3*j+2) (w.r 25)) g' rl (wk.set j w')/\g'.eb=g.eb/\g'.lc=g.lc:=by
 have D:=I.d j hj;let g':Gh:={g with pb:=F1 g.pb (w.r 25) true}
 let s':=s.wr (17+3*j+2) (w.r 25)
 have t1:∀x,tp s' x=tp s x:=fun x=>cQ _ _ (by omega)
 have t2:∀x,dK s' x=dK s x:=fun x=>cQ _ _ (by omega)
 have t3:∀x,x≠j->ra s' x=ra s x:=fun x h=>cQ _ _ (by omega)
 have t5:ra s' j=w.r 25:=Fy _ _ _;have t4:∀x,17+3*n<=x->s'.c x=s.c x:=fun x h=>cQ _ _ (by omega)
 have H:∀x,g.pb x=true->g'.pb x=true:=fun x h=>by
  show F1 _ _ _ x=true
  by_cases c:x=w.r 25
  ·rw[c,B2]
  ·rw[FF _ _ c];exact h
 have M:∀a,Ie n s g a->Ie n s' g' a:=fun a h=>⟨h.lo,by rw[t4 _ h.lo];exact h.hi,by rw[t4 _ h.lo];exact h.sz,by rw[t4 _ h.lo];exact h.bs⟩
 have N:=C.na;have o:s'.c (w.r 25)=2*s.c (ra s j):=by rw[t4 _ N.lo];exact E.1
 have Q:=Hr D.ar;have A:∀x,x<n->SD n s' g' x:=fun x r=>by
  have B:=I.d x r;by_cases c:x=j
  ·subst c
   refine⟨by rw[t1];exact B.t1,by rw[t1];exact B.le,by rw[t1,t5,o];have:=B.rm;show g.eb x<=_;omega,B.eb,⟨by rw[t5];exact N.lo,by rw[t5,o];exact N.hi,?_,fun y f l=> ?_⟩,by rw[t5];exact B2 _ _ _,by rw[t5];exact N.ow,fun i f l=> ?_,fun i f l=>by rw[t1]at f;exact B.dq i f l⟩
   ·rw[t5,o]
    have:=C.sm;rcases B.ar.sz with e|e|e<;>omega
   ·rw[t5]at f⊢
    rw[t5,o]at l;exact N.bs y f l
   ·rw[t1]at f
    rw[t5,o,t4 _ (by have:=N.lo;omega)];exact E.2 i f l
  ·have e:=t4 _ B.ar.lo
   exact⟨by rw[t1];exact B.t1,by rw[t1];exact B.le,by rw[t1,t3 x c,e];exact B.rm,B.eb,by rw[t3 x c];exact M _ B.ar,by rw[t3 x c];exact H _ B.pb,by rw[t3 x c];exact B.ow,fun i f l=>by rw[t1]at f;rw[t3 x c,e,t4 _ (B.ar.cell i).1];exact B.ce i f l,fun i f l=>by rw[t1]at f;exact B.dq i f l⟩
 refine⟨g',⟨{I with d:=A,em:=fun d O e=>by rw[t1];exact I.em d O e},?_,IG.of fun k F G=>⟨?_,I.d k F,A k F⟩⟩,rfl,rfl⟩
 ·exact(L.same (s':=s') (g':=g') rfl rfl (fun x d i f l J K=>⟨by rw[t1];exact l,J,K⟩)).put hw P
 ·exact {
   nb:=Nat.le_refl _,nx:=Nat.le_refl _,b:=t2 k,a:=t3 k G,eb:=rfl,it:=rfl,t:=fun x r=>by show _<=tp s' x;rw[t1];exact Nat.le_refl _,
   ow:=fun x r=>⟨rfl,rfl,H x,fun e=>FF _ _ (fun z=>by rw[z,N.ow]at e;exact G e.symm)⟩,ce:=fun x h _ _=>t4 x h,hc:=fun a u _=>t4 a u.lo,
   lr:=fun _ _ e=>e,LV:=fun _ h e=>⟨h,e⟩,th:=fun x r f l=>⟨l,rfl,fun a u _ _=>t4 _ (u.cell _).1⟩}
theorem NO(I:SI ok n s g)(L:LI n s g rl wk)(hj:j<n)(hw:wk[j]?=some w)(R:w.hand=0)(N:w'.hand=64+s.nb)(T:s.hl+1<=s.Gx)(hb:s.nb<64)(Y:∃dr,ok.ok j dr/\dr&&&3=0):
 ∃g',Mh ok n j s g {s with hl:=s.hl+1,nb:=s.nb+1,c:=cf s.c s.hl 0} g' rl (wk.set j w')/\g'.eb=g.eb/\(I9 s g j->I9 {s with hl:=s.hl+1,nb:=s.nb+1,c:=cf s.c s.hl 0} g' j):=by
 let s':Sh:={s with hl:=s.hl+1,nb:=s.nb+1,c:=cf s.c s.hl 0}
 let g':=g.mv (64+s.nb) (.hand j)
 have V:=I.lo;have l:∀x,x<s.hl->s'.c x=s.c x:=fun x h=>cQ _ _ (by omega)
 have t1:∀x,x<n->tp s' x=tp s x:=fun x h=>l _ (by omega)
 have t2:∀x,x<n->dK s' x=dK s x:=fun x h=>l _ (by omega)
 have t3:∀x,x<n->ra s' x=ra s x:=fun x h=>l _ (by omega)
 have o:∀x,x≠64+s.nb->g'.lc x=g.lc x:=fun x h=>Ii h
 have r:g'.lc (64+s.nb)=.hand j:=HH;have H:∀x,val s x->x≠64+s.nb:=fun x h e=>by have:=h.2;omega
 have J:∀x,val s x->val s' x:=fun x h=>⟨h.1,by have:=h.2;show _<64+(s.nb+1);omega⟩
 have u:∀x,val s' x->x≠64+s.nb->val s x:=fun x h e=>⟨h.1,by have D:x<64+(s.nb+1):=h.2;omega⟩
 have S:∀a,Ie n s g a->Ie n s' g' a:=fun a h=>by
  have e:=l a h.head.1;have Z:=h.hi;exact⟨h.lo,by rw[e];show _<s.hl+1;omega,by rw[e];exact h.sz,by rw[e];exact h.bs⟩
 have K:∀x,x<n->SD n s' g' x:=fun x f=>by
  have B:=I.d x f;have e:=l _ B.ar.head.1;exact⟨by rw[t1 x f];exact B.t1,by rw[t1 x f];exact B.le,by rw[t1 x f,t3 x f,e];exact B.rm,by have:=B.eb;show g.eb x<=s.nb+1;omega,by rw[t3 x f];exact S _ B.ar,by rw[t3 x f];exact B.pb,by rw[t3 x f];exact B.ow,fun i C D=>by rw[t1 x f]at C;rw[t3 x f,e,l _ (B.ar.cell i).2.1];exact B.ce i C D,fun i C D=>by
   rw[t1 x f]at C;have:=B.dq i C D;exact⟨J _ this.1,by show g'.lc (g.it x i)=_;rw[o _ (H _ this.1)];exact this.2⟩⟩
 refine⟨g',⟨⟨I.n0,I.n1,hb,T,I.l1,Nat.le_succ_of_le V,fun d M e=>by rw[t1 d M];exact I.em d M e,fun q=>by obtain⟨dr,W,X⟩:=Y;exact absurd X (q j dr W),K⟩,?_,IG.of fun k E O=>⟨?_,I.d k E,K k E⟩⟩,rfl,fun h x f e=> ?_⟩
 ·refine⟨L.r0,L.rn,fun x=> ?_,fun x d i h e=> ?_,Jv (If hw) (P:=fun k h=>val s' h/\g'.lc h=.hand k) (fun _=>by rw[N];exact⟨⟨by omega,by show _<64+(s.nb+1);omega⟩,r⟩) (fun k x E f O=> ?_),fun x k h e=> ?_,fun x k h e=> ?_⟩
  ·rw[L.rg x]
   by_cases c:x=64+s.nb
   ·rw[c,r]
    exact⟨fun h=>by have:=h.1.2;omega,fun h=>(by cases h.2)⟩
   ·rw[o x c]
    exact⟨fun h=>⟨J x h.1,h.2⟩,fun h=>⟨u x h.1 c,h.2⟩⟩
  ·by_cases c:x=64+s.nb
   ·rw[c,r]at e;cases e
   ·rw[o x c]at e
    have z:=L.dq x d i (u x h c) e;show _/\tp s' d<=i/\_
    rw[t1 d z.1];exact z
  ·obtain⟨A,F⟩:=L.hd k x f O
   exact⟨J _ A,by rw[o _ (H _ A)];exact F⟩
  ·by_cases c:x=64+s.nb
   ·rw[c,r]at e
    injection e with e
    subst e;exact⟨w',HU (If hw),by rw[N,c]⟩
   ·rw[o x c]at e
    obtain⟨y,A,F⟩:=L.ND x k (u x h c) e;have Q:k≠j:=fun q=>by
     subst q;rw[hw]at A;obtain rfl:=Option.some.inj A;exact((u x h c).Qm) (by rw[<-F,R])
    exact⟨y,by rw[HM Q];exact A,F⟩
  ·by_cases c:x=64+s.nb
   ·rw[c,r]at e;cases e
   ·rw[o x c]at e
    exact L.rc x k (u x h c) e
 ·exact {
   nb:=Nat.le_succ _,nx:=Nat.le_succ _,b:=t2 k E,a:=t3 k E,eb:=rfl,it:=rfl,t:=fun x f=>by show _<=tp s' x;rw[t1 x f];exact Nat.le_refl _,
   ow:=fun _ _=>⟨rfl,rfl,fun e=>e,fun _=>rfl⟩,ce:=fun x _ h _=>l x h,hc:=fun a G _=>l a G.head.1,
   lr:=fun x U e=>by rw[o x (H x U)];exact e
   LV:=fun x h e=>by
    by_cases c:x=64+s.nb
    ·rw[c,r]at e;cases e
    ·rw[o x c]at e;exact⟨u x h c,e⟩
   th:=fun x f C D=>⟨D,rfl,fun a G _ _=>l _ (G.cell _).2.1⟩}
 ·by_cases c:x=64+s.nb
  ·rw[c,r]at e;cases e
  ·rw[o x c]at e
   exact h x (u x f c) e
end
end
section
section
variable{x:aV}{b c:Nat}
theorem PS(h:x.op=1):F2 x b c=x.v.toNat:=by simp[F2,h]
theorem Rl(h:x.op=2):F2 x b c=b:=by simp[F2,h]
theorem Mi(h:x.op=3):F2 x b c=(b+c)%qO:=by simp[F2,h]
theorem O5(h:x.op=4):F2 x b c=(b+(qO-c))%qO:=by simp[F2,h]
theorem PT(h:x.op=5):F2 x b c=b&&&c:=by simp[F2,h]
theorem Sa(h:x.op=9):F2 x b c=b>>>(c&&&63):=by simp[F2,h]
theorem Mj(h:x.op=10):F2 x b c=if b=c then 1 else 0:=by simp[F2,h]
theorem NP(h:x.op=11):F2 x b c=if b<c then 1 else 0:=by simp[F2,h]
end
section
variable{n j m d h k V:Nat}{r:Nat->Nat}{bk:List Nat}{P:Nat->AW->Prop}{s:AS}{x:aV}
theorem B3(i:dF[k]?=some x)(g:1<=x.op/\x.op<=11)(a:x.op=9->dH x r<64)(f:F2 x (cX x r) (dH x r)=V)(l:1<=m)(H:At n j P (m-1) ⟨k+1,cf r x.a.toNat V,bk,h⟩):At n j P m ⟨k,r,bk,h⟩:=by
 refine At.loc (m':=m-1) i ?_ ⟨a,fun e=>by omega,fun e=>by omega⟩ (by omega) ?_
 ·unfold JT
  rw[decide_eq_true (show 1<=x.op/\x.op<=16 by omega)];rfl
 ·rw[<-f]at H
  unfold F0;dsimp only;rw[if_pos g];exact H
theorem Qn(a:1<=m)(H:At n j P (m-1) ⟨1,cf r 16 h,bk,h⟩):At n j P m ⟨0,r,bk,h⟩:=At.loc (x:=⟨29,16,0,0,0,0,0⟩) (m':=m-1) rfl rfl ⟨fun e=>absurd e (by decide),fun e=>absurd e (by decide),fun e=>absurd e (by decide)⟩ (by omega) H
theorem Oh(f:1<=m)(a:r 16≠0)(H:At n j P (m-1) ⟨2,r,bk,h⟩):At n j P m ⟨1,r,bk,h⟩:=At.loc (x:=⟨13,16,0,0,18,0,0⟩) (m':=m-1) rfl rfl ⟨fun e=>absurd e (by decide),fun e=>absurd e (by decide),fun e=>absurd e (by decide)⟩ (by omega) (by have e:F0 ⟨13,16,0,0,18,0,0⟩ n j ⟨1,r,bk,h⟩=⟨2,r,bk,h⟩:=if_neg a;rw[e];exact H)
theorem Qo(a:1<=m)(H:At n j P (m-1) ⟨3,cf r 17 (17+3*j),bk,h⟩):At n j P m ⟨2,r,bk,h⟩:=At.loc (x:=⟨38,17,0,0,0,0,0⟩) (m':=m-1) rfl rfl ⟨fun e=>absurd e (by decide),fun e=>absurd e (by decide),fun e=>absurd e (by decide)⟩ (by omega) H
theorem R1:ck ⟨17,18,17,0,1,0,0⟩ s j d ⟨3,r,bk,h⟩=s.put j ⟨4,cf r 18 (s.c ((r 17+1)%qO)),bk,h⟩:=rfl
theorem R2:ck ⟨17,19,17,0,0,0,0⟩ s j d ⟨4,r,bk,h⟩=s.put j ⟨5,cf r 19 (s.c ((r 17+0)%qO)),bk,h⟩:=rfl
theorem R3:ck ⟨17,20,17,0,2,0,0⟩ s j d ⟨5,r,bk,h⟩=s.put j ⟨6,cf r 20 (s.c ((r 17+2)%qO)),bk,h⟩:=rfl
theorem R4:ck ⟨17,21,20,0,0,0,0⟩ s j d ⟨6,r,bk,h⟩=s.put j ⟨7,cf r 21 (s.c ((r 20+0)%qO)),bk,h⟩:=rfl
theorem Lp(a:1<=m)(f:(((r 18)+(qO-(r 19)))%qO)=V)(H:At n j P (m-1) ⟨8,cf r 22 V,bk,h⟩):At n j P m ⟨7,r,bk,h⟩:=B3 (x:=⟨4,22,18,19,0,0,0⟩) rfl (by decide) (fun e=>absurd e (by decide)) (by rw[O5 rfl,show cX (⟨4,22,18,19,0,0,0⟩:aV) r=(r 18)from rfl,show dH (⟨4,22,18,19,0,0,0⟩:aV) r=(r 19)from rfl];exact f) a H
theorem Lq(a:1<=m)(f:(if(r 22)<(r 21)then 1 else 0)=V)(H:At n j P (m-1) ⟨9,cf r 22 V,bk,h⟩):At n j P m ⟨8,r,bk,h⟩:=B3 (x:=⟨11,22,22,21,0,0,0⟩) rfl (by decide) (fun e=>absurd e (by decide)) (by rw[NP rfl,show cX (⟨11,22,22,21,0,0,0⟩:aV) r=(r 22)from rfl,show dH (⟨11,22,22,21,0,0,0⟩:aV) r=(r 21)from rfl];exact f) a H
theorem KR(f:1<=m)(a:r 22=0)(H:At n j P (m-1) ⟨19,r,bk,h⟩):At n j P m ⟨9,r,bk,h⟩:=At.loc (x:=⟨13,22,0,0,19,0,0⟩) (m':=m-1) rfl rfl ⟨fun e=>absurd e (by decide),fun e=>absurd e (by decide),fun e=>absurd e (by decide)⟩ (by omega) (by have e:F0 ⟨13,22,0,0,19,0,0⟩ n j ⟨9,r,bk,h⟩=⟨19,r,bk,h⟩:=if_pos a;rw[e];exact H)
theorem Oi(f:1<=m)(a:r 22≠0)(H:At n j P (m-1) ⟨10,r,bk,h⟩):At n j P m ⟨9,r,bk,h⟩:=At.loc (x:=⟨13,22,0,0,19,0,0⟩) (m':=m-1) rfl rfl ⟨fun e=>absurd e (by decide),fun e=>absurd e (by decide),fun e=>absurd e (by decide)⟩ (by omega) (by have e:F0 ⟨13,22,0,0,19,0,0⟩ n j ⟨9,r,bk,h⟩=⟨10,r,bk,h⟩:=if_neg a;rw[e];exact H)
theorem KT(a:1<=m)(f:(((r 21)+(qO-1))%qO)=V)(H:At n j P (m-1) ⟨11,cf r 21 V,bk,h⟩):At n j P m ⟨10,r,bk,h⟩:=B3 (x:=⟨4,21,21,-1,1,0,0⟩) rfl (by decide) (fun e=>absurd e (by decide)) (by rw[O5 rfl,show cX (⟨4,21,21,-1,1,0,0⟩:aV) r=(r 21)from rfl,show dH (⟨4,21,21,-1,1,0,0⟩:aV) r=1 from rfl];exact f) a H
theorem KU(a:1<=m)(f:((r 18)&&&(r 21))=V)(H:At n j P (m-1) ⟨12,cf r 21 V,bk,h⟩):At n j P m ⟨11,r,bk,h⟩:=B3 (x:=⟨5,21,18,21,0,0,0⟩) rfl (by decide) (fun e=>absurd e (by decide)) (by rw[PT rfl,show cX (⟨5,21,18,21,0,0,0⟩:aV) r=(r 18)from rfl,show dH (⟨5,21,18,21,0,0,0⟩:aV) r=(r 21)from rfl];exact f) a H
theorem KV(a:1<=m)(f:(((r 20)+(r 21))%qO)=V)(H:At n j P (m-1) ⟨13,cf r 21 V,bk,h⟩):At n j P m ⟨12,r,bk,h⟩:=B3 (x:=⟨3,21,20,21,0,0,0⟩) rfl (by decide) (fun e=>absurd e (by decide)) (by rw[Mi rfl,show cX (⟨3,21,20,21,0,0,0⟩:aV) r=(r 20)from rfl,show dH (⟨3,21,20,21,0,0,0⟩:aV) r=(r 21)from rfl];exact f) a H
theorem Qp:ck ⟨18,16,21,0,1,0,0⟩ s j d ⟨13,r,bk,h⟩=({s with c:=cf s.c ((r 21+1)%qO) (r 16)}:AS).put j ⟨14,r,bk,h⟩:=rfl
theorem Oj(a:1<=m)(f:(((r 18)+1)%qO)=V)(H:At n j P (m-1) ⟨15,cf r 18 V,bk,h⟩):At n j P m ⟨14,r,bk,h⟩:=B3 (x:=⟨3,18,18,-1,1,0,0⟩) rfl (by decide) (fun e=>absurd e (by decide)) (by rw[Mi rfl,show cX (⟨3,18,18,-1,1,0,0⟩:aV) r=(r 18)from rfl,show dH (⟨3,18,18,-1,1,0,0⟩:aV) r=1 from rfl];exact f) a H
theorem Qq:ck ⟨31,18,17,0,1,0,0⟩ s j d ⟨15,r,bk,h⟩=({s with c:=cf s.c ((r 17+1)%qO) (r 18)}:AS).put j ⟨16,r,bk,0⟩:=rfl
theorem Ol(a:1<=m)(H:At n j P (m-1) ⟨17,cf r 23 (1:Nat),bk,h⟩):At n j P m ⟨16,r,bk,h⟩:=B3 (x:=⟨1,23,0,0,1,0,0⟩) rfl (by decide) (fun e=>absurd e (by decide)) (PS rfl) a H
theorem Qr:ck ⟨20,23,-1,0,0,0,0⟩ s j d ⟨17,r,bk,h⟩=({s with c:=cf s.c 0 ((s.c 0+r 23)%qO)}:AS).put j ⟨18,cf r 23 (s.c 0),bk,h⟩:=rfl
theorem Om{p:Nat}(f:1<=m)(a:bk=[p])(H:At n j P (m-1) ⟨p,r,[],h⟩):At n j P m ⟨18,r,bk,h⟩:=by subst a;exact At.loc (x:=⟨16,0,0,0,0,0,0⟩) (m':=m-1) rfl rfl ⟨fun e=>absurd e (by decide),fun e=>absurd e (by decide),fun _ e=>by cases e⟩ (by omega) H
theorem KW(a:1<=m)(H:At n j P (m-1) ⟨20,cf r 22 (16:Nat),bk,h⟩):At n j P m ⟨19,r,bk,h⟩:=B3 (x:=⟨1,22,0,0,16,0,0⟩) rfl (by decide) (fun e=>absurd e (by decide)) (PS rfl) a H
theorem KX(a:1<=m)(f:(if(r 21)<(r 22)then 1 else 0)=V)(H:At n j P (m-1) ⟨21,cf r 22 V,bk,h⟩):At n j P m ⟨20,r,bk,h⟩:=B3 (x:=⟨11,22,21,22,0,0,0⟩) rfl (by decide) (fun e=>absurd e (by decide)) (by rw[NP rfl,show cX (⟨11,22,21,22,0,0,0⟩:aV) r=(r 21)from rfl,show dH (⟨11,22,21,22,0,0,0⟩:aV) r=(r 22)from rfl];exact f) a H
theorem Mk(f:1<=m)(a:r 22=0)(H:At n j P (m-1) ⟨43,r,bk,h⟩):At n j P m ⟨21,r,bk,h⟩:=At.loc (x:=⟨13,22,0,0,43,0,0⟩) (m':=m-1) rfl rfl ⟨fun e=>absurd e (by decide),fun e=>absurd e (by decide),fun e=>absurd e (by decide)⟩ (by omega) (by have e:F0 ⟨13,22,0,0,43,0,0⟩ n j ⟨21,r,bk,h⟩=⟨43,r,bk,h⟩:=if_pos a;rw[e];exact H)
theorem Ml(f:1<=m)(a:r 22≠0)(H:At n j P (m-1) ⟨22,r,bk,h⟩):At n j P m ⟨21,r,bk,h⟩:=At.loc (x:=⟨13,22,0,0,43,0,0⟩) (m':=m-1) rfl rfl ⟨fun e=>absurd e (by decide),fun e=>absurd e (by decide),fun e=>absurd e (by decide)⟩ (by omega) (by have e:F0 ⟨13,22,0,0,43,0,0⟩ n j ⟨21,r,bk,h⟩=⟨22,r,bk,h⟩:=if_neg a;rw[e];exact H)
theorem On(a:1<=m)(f:(((r 21)+(r 21))%qO)=V)(H:At n j P (m-1) ⟨23,cf r 24 V,bk,h⟩):At n j P m ⟨22,r,bk,h⟩:=B3 (x:=⟨3,24,21,21,0,0,0⟩) rfl (by decide) (fun e=>absurd e (by decide)) (by rw[Mi rfl,show cX (⟨3,24,21,21,0,0,0⟩:aV) r=(r 21)from rfl,show dH (⟨3,24,21,21,0,0,0⟩:aV) r=(r 21)from rfl];exact f) a H
theorem Oo(a:1<=m)(f:(((r 24)+1)%qO)=V)(H:At n j P (m-1) ⟨24,cf r 25 V,bk,h⟩):At n j P m ⟨23,r,bk,h⟩:=B3 (x:=⟨3,25,24,-1,1,0,0⟩) rfl (by decide) (fun e=>absurd e (by decide)) (by rw[Mi rfl,show cX (⟨3,25,24,-1,1,0,0⟩:aV) r=(r 24)from rfl,show dH (⟨3,25,24,-1,1,0,0⟩:aV) r=1 from rfl];exact f) a H
theorem Qs:ck ⟨43,25,25,0,0,0,0⟩ s j d ⟨24,r,bk,h⟩=if 1<=r 25/\r 25<=4096/\s.hl+r 25<=s.Gx then({s with hl:=s.hl+r 25,c:=fun q=>if s.hl<=q/\q<s.hl+r 25 then 0 else s.c q}:AS).put j ⟨25,cf r 25 s.hl,bk,h⟩else s.put j ⟨25,cf r 25 0,bk,h⟩:=rfl
theorem O6(f:1<=m)(a:r 25=0)(H:At n j P (m-1) ⟨43,r,bk,h⟩):At n j P m ⟨25,r,bk,h⟩:=At.loc (x:=⟨13,25,0,0,43,0,0⟩) (m':=m-1) rfl rfl ⟨fun e=>absurd e (by decide),fun e=>absurd e (by decide),fun e=>absurd e (by decide)⟩ (by omega) (by have e:F0 ⟨13,25,0,0,43,0,0⟩ n j ⟨25,r,bk,h⟩=⟨43,r,bk,h⟩:=if_pos a;rw[e];exact H)
theorem Mm(f:1<=m)(a:r 25≠0)(H:At n j P (m-1) ⟨26,r,bk,h⟩):At n j P m ⟨25,r,bk,h⟩:=At.loc (x:=⟨13,25,0,0,43,0,0⟩) (m':=m-1) rfl rfl ⟨fun e=>absurd e (by decide),fun e=>absurd e (by decide),fun e=>absurd e (by decide)⟩ (by omega) (by have e:F0 ⟨13,25,0,0,43,0,0⟩ n j ⟨25,r,bk,h⟩=⟨26,r,bk,h⟩:=if_neg a;rw[e];exact H)
theorem Qu:ck ⟨18,24,25,0,0,0,0⟩ s j d ⟨26,r,bk,h⟩=({s with c:=cf s.c ((r 25+0)%qO) (r 24)}:AS).put j ⟨27,r,bk,h⟩:=rfl
theorem KY(a:1<=m)(f:(if(r 19)=(r 18)then 1 else 0)=V)(H:At n j P (m-1) ⟨28,cf r 22 V,bk,h⟩):At n j P m ⟨27,r,bk,h⟩:=B3 (x:=⟨10,22,19,18,0,0,0⟩) rfl (by decide) (fun e=>absurd e (by decide)) (by rw[Mj rfl,show cX (⟨10,22,19,18,0,0,0⟩:aV) r=(r 19)from rfl,show dH (⟨10,22,19,18,0,0,0⟩:aV) r=(r 18)from rfl];exact f) a H
theorem Mn(f:1<=m)(a:r 22=0)(H:At n j P (m-1) ⟨29,r,bk,h⟩):At n j P m ⟨28,r,bk,h⟩:=At.loc (x:=⟨14,22,0,0,39,0,0⟩) (m':=m-1) rfl rfl ⟨fun e=>absurd e (by decide),fun e=>absurd e (by decide),fun e=>absurd e (by decide)⟩ (by omega) (by have e:F0 ⟨14,22,0,0,39,0,0⟩ n j ⟨28,r,bk,h⟩=⟨29,r,bk,h⟩:=if_pos a;rw[e];exact H)
theorem Mo(f:1<=m)(a:r 22≠0)(H:At n j P (m-1) ⟨39,r,bk,h⟩):At n j P m ⟨28,r,bk,h⟩:=At.loc (x:=⟨14,22,0,0,39,0,0⟩) (m':=m-1) rfl rfl ⟨fun e=>absurd e (by decide),fun e=>absurd e (by decide),fun e=>absurd e (by decide)⟩ (by omega) (by have e:F0 ⟨14,22,0,0,39,0,0⟩ n j ⟨28,r,bk,h⟩=⟨39,r,bk,h⟩:=if_neg a;rw[e];exact H)
theorem Oq(a:1<=m)(f:(((r 21)+(qO-1))%qO)=V)(H:At n j P (m-1) ⟨30,cf r 22 V,bk,h⟩):At n j P m ⟨29,r,bk,h⟩:=B3 (x:=⟨4,22,21,-1,1,0,0⟩) rfl (by decide) (fun e=>absurd e (by decide)) (by rw[O5 rfl,show cX (⟨4,22,21,-1,1,0,0⟩:aV) r=(r 21)from rfl,show dH (⟨4,22,21,-1,1,0,0⟩:aV) r=1 from rfl];exact f) a H
theorem Ot(a:1<=m)(f:((r 19)&&&(r 22))=V)(H:At n j P (m-1) ⟨31,cf r 22 V,bk,h⟩):At n j P m ⟨30,r,bk,h⟩:=B3 (x:=⟨5,22,19,22,0,0,0⟩) rfl (by decide) (fun e=>absurd e (by decide)) (by rw[PT rfl,show cX (⟨5,22,19,22,0,0,0⟩:aV) r=(r 19)from rfl,show dH (⟨5,22,19,22,0,0,0⟩:aV) r=(r 22)from rfl];exact f) a H
theorem Ou(a:1<=m)(f:(((r 20)+(r 22))%qO)=V)(H:At n j P (m-1) ⟨32,cf r 22 V,bk,h⟩):At n j P m ⟨31,r,bk,h⟩:=B3 (x:=⟨3,22,20,22,0,0,0⟩) rfl (by decide) (fun e=>absurd e (by decide)) (by rw[Mi rfl,show cX (⟨3,22,20,22,0,0,0⟩:aV) r=(r 20)from rfl,show dH (⟨3,22,20,22,0,0,0⟩:aV) r=(r 22)from rfl];exact f) a H
theorem Qv:ck ⟨17,23,22,0,1,0,0⟩ s j d ⟨32,r,bk,h⟩=s.put j ⟨33,cf r 23 (s.c ((r 22+1)%qO)),bk,h⟩:=rfl
theorem Ov(a:1<=m)(f:(((r 24)+(qO-1))%qO)=V)(H:At n j P (m-1) ⟨34,cf r 22 V,bk,h⟩):At n j P m ⟨33,r,bk,h⟩:=B3 (x:=⟨4,22,24,-1,1,0,0⟩) rfl (by decide) (fun e=>absurd e (by decide)) (by rw[O5 rfl,show cX (⟨4,22,24,-1,1,0,0⟩:aV) r=(r 24)from rfl,show dH (⟨4,22,24,-1,1,0,0⟩:aV) r=1 from rfl];exact f) a H
theorem Ow(a:1<=m)(f:((r 19)&&&(r 22))=V)(H:At n j P (m-1) ⟨35,cf r 22 V,bk,h⟩):At n j P m ⟨34,r,bk,h⟩:=B3 (x:=⟨5,22,19,22,0,0,0⟩) rfl (by decide) (fun e=>absurd e (by decide)) (by rw[PT rfl,show cX (⟨5,22,19,22,0,0,0⟩:aV) r=(r 19)from rfl,show dH (⟨5,22,19,22,0,0,0⟩:aV) r=(r 22)from rfl];exact f) a H
theorem Ox(a:1<=m)(f:(((r 25)+(r 22))%qO)=V)(H:At n j P (m-1) ⟨36,cf r 22 V,bk,h⟩):At n j P m ⟨35,r,bk,h⟩:=B3 (x:=⟨3,22,25,22,0,0,0⟩) rfl (by decide) (fun e=>absurd e (by decide)) (by rw[Mi rfl,show cX (⟨3,22,25,22,0,0,0⟩:aV) r=(r 25)from rfl,show dH (⟨3,22,25,22,0,0,0⟩:aV) r=(r 22)from rfl];exact f) a H
theorem Qw:ck ⟨18,23,22,0,1,0,0⟩ s j d ⟨36,r,bk,h⟩=({s with c:=cf s.c ((r 22+1)%qO) (r 23)}:AS).put j ⟨37,r,bk,h⟩:=rfl
theorem Oy(a:1<=m)(f:(((r 19)+1)%qO)=V)(H:At n j P (m-1) ⟨38,cf r 19 V,bk,h⟩):At n j P m ⟨37,r,bk,h⟩:=B3 (x:=⟨3,19,19,-1,1,0,0⟩) rfl (by decide) (fun e=>absurd e (by decide)) (by rw[Mi rfl,show cX (⟨3,19,19,-1,1,0,0⟩:aV) r=(r 19)from rfl,show dH (⟨3,19,19,-1,1,0,0⟩:aV) r=1 from rfl];exact f) a H
theorem Oz(a:1<=m)(H:At n j P (m-1) ⟨27,r,bk,h⟩):At n j P m ⟨38,r,bk,h⟩:=At.loc (x:=⟨12,0,0,0,27,0,0⟩) (m':=m-1) rfl rfl ⟨fun e=>absurd e (by decide),fun e=>absurd e (by decide),fun e=>absurd e (by decide)⟩ (by omega) H
theorem Qx:ck ⟨18,25,17,0,2,0,0⟩ s j d ⟨39,r,bk,h⟩=({s with c:=cf s.c ((r 17+2)%qO) (r 25)}:AS).put j ⟨40,r,bk,h⟩:=rfl
theorem OA(a:1<=m)(f:(r 25)=V)(H:At n j P (m-1) ⟨41,cf r 20 V,bk,h⟩):At n j P m ⟨40,r,bk,h⟩:=B3 (x:=⟨2,20,25,0,0,0,0⟩) rfl (by decide) (fun e=>absurd e (by decide)) ((Rl rfl).trans f) a H
theorem OB(a:1<=m)(f:(r 24)=V)(H:At n j P (m-1) ⟨42,cf r 21 V,bk,h⟩):At n j P m ⟨41,r,bk,h⟩:=B3 (x:=⟨2,21,24,0,0,0,0⟩) rfl (by decide) (fun e=>absurd e (by decide)) ((Rl rfl).trans f) a H
theorem OC(a:1<=m)(H:At n j P (m-1) ⟨10,r,bk,h⟩):At n j P m ⟨42,r,bk,h⟩:=At.loc (x:=⟨12,0,0,0,10,0,0⟩) (m':=m-1) rfl rfl ⟨fun e=>absurd e (by decide),fun e=>absurd e (by decide),fun e=>absurd e (by decide)⟩ (by omega) H
theorem Qy:ck ⟨33,0,0,0,0,0,0⟩ s j d ⟨43,r,bk,h⟩=if h=0 then s.put j ⟨44,r,bk,h⟩else(s.lay h).put j ⟨44,r,bk,0⟩:=rfl
theorem OD{p:Nat}(f:1<=m)(a:bk=[p])(H:At n j P (m-1) ⟨p,r,[],h⟩):At n j P m ⟨44,r,bk,h⟩:=by subst a;exact At.loc (x:=⟨16,0,0,0,0,0,0⟩) (m':=m-1) rfl rfl ⟨fun e=>absurd e (by decide),fun e=>absurd e (by decide),fun _ e=>by cases e⟩ (by omega) H
theorem Qz(a:1<=m)(H:At n j P (m-1) ⟨46,cf r 17 (17+3*j),bk,h⟩):At n j P m ⟨45,r,bk,h⟩:=At.loc (x:=⟨38,17,0,0,0,0,0⟩) (m':=m-1) rfl rfl ⟨fun e=>absurd e (by decide),fun e=>absurd e (by decide),fun e=>absurd e (by decide)⟩ (by omega) H
theorem Ro:ck ⟨17,18,17,0,1,0,0⟩ s j d ⟨46,r,bk,h⟩=s.put j ⟨47,cf r 18 (s.c ((r 17+1)%qO)),bk,h⟩:=rfl
theorem QA(a:1<=m)(f:(((r 18)+(qO-1))%qO)=V)(H:At n j P (m-1) ⟨48,cf r 18 V,bk,h⟩):At n j P m ⟨47,r,bk,h⟩:=B3 (x:=⟨4,18,18,-1,1,0,0⟩) rfl (by decide) (fun e=>absurd e (by decide)) (by rw[O5 rfl,show cX (⟨4,18,18,-1,1,0,0⟩:aV) r=(r 18)from rfl,show dH (⟨4,18,18,-1,1,0,0⟩:aV) r=1 from rfl];exact f) a H
theorem Rp:ck ⟨18,18,17,0,1,0,0⟩ s j d ⟨48,r,bk,h⟩=({s with c:=cf s.c ((r 17+1)%qO) (r 18)}:AS).put j ⟨49,r,bk,h⟩:=rfl
theorem Rq:ck ⟨17,19,17,0,0,0,0⟩ s j d ⟨49,r,bk,h⟩=s.put j ⟨50,cf r 19 (s.c ((r 17+0)%qO)),bk,h⟩:=rfl
theorem Mp(a:1<=m)(f:(if(r 18)<(r 19)then 1 else 0)=V)(H:At n j P (m-1) ⟨51,cf r 22 V,bk,h⟩):At n j P m ⟨50,r,bk,h⟩:=B3 (x:=⟨11,22,18,19,0,0,0⟩) rfl (by decide) (fun e=>absurd e (by decide)) (by rw[NP rfl,show cX (⟨11,22,18,19,0,0,0⟩:aV) r=(r 18)from rfl,show dH (⟨11,22,18,19,0,0,0⟩:aV) r=(r 19)from rfl];exact f) a H
theorem Mq(f:1<=m)(a:r 22=0)(H:At n j P (m-1) ⟨52,r,bk,h⟩):At n j P m ⟨51,r,bk,h⟩:=At.loc (x:=⟨14,22,0,0,70,0,0⟩) (m':=m-1) rfl rfl ⟨fun e=>absurd e (by decide),fun e=>absurd e (by decide),fun e=>absurd e (by decide)⟩ (by omega) (by have e:F0 ⟨14,22,0,0,70,0,0⟩ n j ⟨51,r,bk,h⟩=⟨52,r,bk,h⟩:=if_pos a;rw[e];exact H)
theorem O7(f:1<=m)(a:r 22≠0)(H:At n j P (m-1) ⟨70,r,bk,h⟩):At n j P m ⟨51,r,bk,h⟩:=At.loc (x:=⟨14,22,0,0,70,0,0⟩) (m':=m-1) rfl rfl ⟨fun e=>absurd e (by decide),fun e=>absurd e (by decide),fun e=>absurd e (by decide)⟩ (by omega) (by have e:F0 ⟨14,22,0,0,70,0,0⟩ n j ⟨51,r,bk,h⟩=⟨70,r,bk,h⟩:=if_neg a;rw[e];exact H)
theorem Rr:ck ⟨17,20,17,0,2,0,0⟩ s j d ⟨52,r,bk,h⟩=s.put j ⟨53,cf r 20 (s.c ((r 17+2)%qO)),bk,h⟩:=rfl
theorem Rs:ck ⟨17,21,20,0,0,0,0⟩ s j d ⟨53,r,bk,h⟩=s.put j ⟨54,cf r 21 (s.c ((r 20+0)%qO)),bk,h⟩:=rfl
theorem QE(a:1<=m)(f:(((r 21)+(qO-1))%qO)=V)(H:At n j P (m-1) ⟨55,cf r 21 V,bk,h⟩):At n j P m ⟨54,r,bk,h⟩:=B3 (x:=⟨4,21,21,-1,1,0,0⟩) rfl (by decide) (fun e=>absurd e (by decide)) (by rw[O5 rfl,show cX (⟨4,21,21,-1,1,0,0⟩:aV) r=(r 21)from rfl,show dH (⟨4,21,21,-1,1,0,0⟩:aV) r=1 from rfl];exact f) a H
theorem QF(a:1<=m)(f:((r 18)&&&(r 21))=V)(H:At n j P (m-1) ⟨56,cf r 21 V,bk,h⟩):At n j P m ⟨55,r,bk,h⟩:=B3 (x:=⟨5,21,18,21,0,0,0⟩) rfl (by decide) (fun e=>absurd e (by decide)) (by rw[PT rfl,show cX (⟨5,21,18,21,0,0,0⟩:aV) r=(r 18)from rfl,show dH (⟨5,21,18,21,0,0,0⟩:aV) r=(r 21)from rfl];exact f) a H
theorem QG(a:1<=m)(f:(((r 20)+(r 21))%qO)=V)(H:At n j P (m-1) ⟨57,cf r 21 V,bk,h⟩):At n j P m ⟨56,r,bk,h⟩:=B3 (x:=⟨3,21,20,21,0,0,0⟩) rfl (by decide) (fun e=>absurd e (by decide)) (by rw[Mi rfl,show cX (⟨3,21,20,21,0,0,0⟩:aV) r=(r 20)from rfl,show dH (⟨3,21,20,21,0,0,0⟩:aV) r=(r 21)from rfl];exact f) a H
theorem Rt:ck ⟨17,16,21,0,1,0,0⟩ s j d ⟨57,r,bk,h⟩=s.put j ⟨58,cf r 16 (s.c ((r 21+1)%qO)),bk,h⟩:=rfl
theorem OE(a:1<=m)(f:(if(r 18)=(r 19)then 1 else 0)=V)(H:At n j P (m-1) ⟨59,cf r 22 V,bk,h⟩):At n j P m ⟨58,r,bk,h⟩:=B3 (x:=⟨10,22,18,19,0,0,0⟩) rfl (by decide) (fun e=>absurd e (by decide)) (by rw[Mj rfl,show cX (⟨10,22,18,19,0,0,0⟩:aV) r=(r 18)from rfl,show dH (⟨10,22,18,19,0,0,0⟩:aV) r=(r 19)from rfl];exact f) a H
theorem O8(f:1<=m)(a:r 22=0)(H:At n j P (m-1) ⟨60,r,bk,h⟩):At n j P m ⟨59,r,bk,h⟩:=At.loc (x:=⟨14,22,0,0,62,0,0⟩) (m':=m-1) rfl rfl ⟨fun e=>absurd e (by decide),fun e=>absurd e (by decide),fun e=>absurd e (by decide)⟩ (by omega) (by have e:F0 ⟨14,22,0,0,62,0,0⟩ n j ⟨59,r,bk,h⟩=⟨60,r,bk,h⟩:=if_pos a;rw[e];exact H)
theorem O9(f:1<=m)(a:r 22≠0)(H:At n j P (m-1) ⟨62,r,bk,h⟩):At n j P m ⟨59,r,bk,h⟩:=At.loc (x:=⟨14,22,0,0,62,0,0⟩) (m':=m-1) rfl rfl ⟨fun e=>absurd e (by decide),fun e=>absurd e (by decide),fun e=>absurd e (by decide)⟩ (by omega) (by have e:F0 ⟨14,22,0,0,62,0,0⟩ n j ⟨59,r,bk,h⟩=⟨62,r,bk,h⟩:=if_neg a;rw[e];exact H)
theorem Ru:ck ⟨30,16,0,0,0,0,0⟩ s j d ⟨60,r,bk,h⟩=s.put j (if h=0/\s.may (r 16)=true then⟨61,r,bk,r 16⟩else⟨61,r,bk,h⟩):=rfl
theorem QH{p:Nat}(f:1<=m)(a:bk=[p])(H:At n j P (m-1) ⟨p,r,[],h⟩):At n j P m ⟨61,r,bk,h⟩:=by subst a;exact At.loc (x:=⟨16,0,0,0,0,0,0⟩) (m':=m-1) rfl rfl ⟨fun e=>absurd e (by decide),fun e=>absurd e (by decide),fun _ e=>by cases e⟩ (by omega) H
theorem QI(a:1<=m)(f:(r 19)=V)(H:At n j P (m-1) ⟨63,cf r 22 V,bk,h⟩):At n j P m ⟨62,r,bk,h⟩:=B3 (x:=⟨2,22,19,0,0,0,0⟩) rfl (by decide) (fun e=>absurd e (by decide)) ((Rl rfl).trans f) a H
theorem QJ(a:1<=m)(f:(((r 19)+1)%qO)=V)(H:At n j P (m-1) ⟨64,cf r 23 V,bk,h⟩):At n j P m ⟨63,r,bk,h⟩:=B3 (x:=⟨3,23,19,-1,1,0,0⟩) rfl (by decide) (fun e=>absurd e (by decide)) (by rw[Mi rfl,show cX (⟨3,23,19,-1,1,0,0⟩:aV) r=(r 19)from rfl,show dH (⟨3,23,19,-1,1,0,0⟩:aV) r=1 from rfl];exact f) a H
theorem Rv:ck ⟨32,22,17,23,0,0,0⟩ s j d ⟨64,r,bk,h⟩=if s.c ((r 17+0)%qO)=r 22 then({s with c:=cf s.c ((r 17+0)%qO) (r 23)}:AS).put j (if h=0/\s.may (cf r 22 (s.c ((r 17+0)%qO)) 16)=true then⟨65,cf r 22 (s.c ((r 17+0)%qO)),bk,cf r 22 (s.c ((r 17+0)%qO)) 16⟩else⟨65,cf r 22 (s.c ((r 17+0)%qO)),bk,h⟩)else s.put j ⟨65,cf r 22 (s.c ((r 17+0)%qO)),bk,h⟩:=rfl
theorem Rw:ck ⟨18,23,17,0,1,0,0⟩ s j d ⟨65,r,bk,h⟩=({s with c:=cf s.c ((r 17+1)%qO) (r 23)}:AS).put j ⟨66,r,bk,h⟩:=rfl
theorem OF(a:1<=m)(f:(if(r 22)=(r 19)then 1 else 0)=V)(H:At n j P (m-1) ⟨67,cf r 22 V,bk,h⟩):At n j P m ⟨66,r,bk,h⟩:=B3 (x:=⟨10,22,22,19,0,0,0⟩) rfl (by decide) (fun e=>absurd e (by decide)) (by rw[Mj rfl,show cX (⟨10,22,22,19,0,0,0⟩:aV) r=(r 22)from rfl,show dH (⟨10,22,22,19,0,0,0⟩:aV) r=(r 19)from rfl];exact f) a H
theorem O'(f:1<=m)(a:r 22=0)(H:At n j P (m-1) ⟨68,r,bk,h⟩):At n j P m ⟨67,r,bk,h⟩:=At.loc (x:=⟨14,22,0,0,69,0,0⟩) (m':=m-1) rfl rfl ⟨fun e=>absurd e (by decide),fun e=>absurd e (by decide),fun e=>absurd e (by decide)⟩ (by omega) (by have e:F0 ⟨14,22,0,0,69,0,0⟩ n j ⟨67,r,bk,h⟩=⟨68,r,bk,h⟩:=if_pos a;rw[e];exact H)
theorem Pa(f:1<=m)(a:r 22≠0)(H:At n j P (m-1) ⟨69,r,bk,h⟩):At n j P m ⟨67,r,bk,h⟩:=At.loc (x:=⟨14,22,0,0,69,0,0⟩) (m':=m-1) rfl rfl ⟨fun e=>absurd e (by decide),fun e=>absurd e (by decide),fun e=>absurd e (by decide)⟩ (by omega) (by have e:F0 ⟨14,22,0,0,69,0,0⟩ n j ⟨67,r,bk,h⟩=⟨69,r,bk,h⟩:=if_neg a;rw[e];exact H)
theorem QK(a:1<=m)(H:At n j P (m-1) ⟨69,cf r 16 (0:Nat),bk,h⟩):At n j P m ⟨68,r,bk,h⟩:=B3 (x:=⟨1,16,0,0,0,0,0⟩) rfl (by decide) (fun e=>absurd e (by decide)) (PS rfl) a H
theorem OG{p:Nat}(f:1<=m)(a:bk=[p])(H:At n j P (m-1) ⟨p,r,[],h⟩):At n j P m ⟨69,r,bk,h⟩:=by subst a;exact At.loc (x:=⟨16,0,0,0,0,0,0⟩) (m':=m-1) rfl rfl ⟨fun e=>absurd e (by decide),fun e=>absurd e (by decide),fun _ e=>by cases e⟩ (by omega) H
theorem Rx:ck ⟨18,19,17,0,1,0,0⟩ s j d ⟨70,r,bk,h⟩=({s with c:=cf s.c ((r 17+1)%qO) (r 19)}:AS).put j ⟨71,r,bk,h⟩:=rfl
theorem QL(a:1<=m)(H:At n j P (m-1) ⟨72,cf r 16 (0:Nat),bk,h⟩):At n j P m ⟨71,r,bk,h⟩:=B3 (x:=⟨1,16,0,0,0,0,0⟩) rfl (by decide) (fun e=>absurd e (by decide)) (PS rfl) a H
theorem QM{p:Nat}(f:1<=m)(a:bk=[p])(H:At n j P (m-1) ⟨p,r,[],h⟩):At n j P m ⟨72,r,bk,h⟩:=by subst a;exact At.loc (x:=⟨16,0,0,0,0,0,0⟩) (m':=m-1) rfl rfl ⟨fun e=>absurd e (by decide),fun e=>absurd e (by decide),fun _ e=>by cases e⟩ (by omega) H
theorem Pb:ck ⟨17,19,17,0,0,0,0⟩ s j d ⟨73,r,bk,h⟩=s.put j ⟨74,cf r 19 (s.c ((r 17+0)%qO)),bk,h⟩:=rfl
theorem Pc:ck ⟨17,18,17,0,1,0,0⟩ s j d ⟨74,r,bk,h⟩=s.put j ⟨75,cf r 18 (s.c ((r 17+1)%qO)),bk,h⟩:=rfl
theorem KZ(a:1<=m)(f:(if(r 19)<(r 18)then 1 else 0)=V)(H:At n j P (m-1) ⟨76,cf r 22 V,bk,h⟩):At n j P m ⟨75,r,bk,h⟩:=B3 (x:=⟨11,22,19,18,0,0,0⟩) rfl (by decide) (fun e=>absurd e (by decide)) (by rw[NP rfl,show cX (⟨11,22,19,18,0,0,0⟩:aV) r=(r 19)from rfl,show dH (⟨11,22,19,18,0,0,0⟩:aV) r=(r 18)from rfl];exact f) a H
theorem Mr(f:1<=m)(a:r 22=0)(H:At n j P (m-1) ⟨88,r,bk,h⟩):At n j P m ⟨76,r,bk,h⟩:=At.loc (x:=⟨13,22,0,0,88,0,0⟩) (m':=m-1) rfl rfl ⟨fun e=>absurd e (by decide),fun e=>absurd e (by decide),fun e=>absurd e (by decide)⟩ (by omega) (by have e:F0 ⟨13,22,0,0,88,0,0⟩ n j ⟨76,r,bk,h⟩=⟨88,r,bk,h⟩:=if_pos a;rw[e];exact H)
theorem Ms(f:1<=m)(a:r 22≠0)(H:At n j P (m-1) ⟨77,r,bk,h⟩):At n j P m ⟨76,r,bk,h⟩:=At.loc (x:=⟨13,22,0,0,88,0,0⟩) (m':=m-1) rfl rfl ⟨fun e=>absurd e (by decide),fun e=>absurd e (by decide),fun e=>absurd e (by decide)⟩ (by omega) (by have e:F0 ⟨13,22,0,0,88,0,0⟩ n j ⟨76,r,bk,h⟩=⟨77,r,bk,h⟩:=if_neg a;rw[e];exact H)
theorem QN:ck ⟨17,20,17,0,2,0,0⟩ s j d ⟨77,r,bk,h⟩=s.put j ⟨78,cf r 20 (s.c ((r 17+2)%qO)),bk,h⟩:=rfl
theorem QO:ck ⟨17,21,20,0,0,0,0⟩ s j d ⟨78,r,bk,h⟩=s.put j ⟨79,cf r 21 (s.c ((r 20+0)%qO)),bk,h⟩:=rfl
theorem OH(a:1<=m)(f:(((r 21)+(qO-1))%qO)=V)(H:At n j P (m-1) ⟨80,cf r 21 V,bk,h⟩):At n j P m ⟨79,r,bk,h⟩:=B3 (x:=⟨4,21,21,-1,1,0,0⟩) rfl (by decide) (fun e=>absurd e (by decide)) (by rw[O5 rfl,show cX (⟨4,21,21,-1,1,0,0⟩:aV) r=(r 21)from rfl,show dH (⟨4,21,21,-1,1,0,0⟩:aV) r=1 from rfl];exact f) a H
theorem OI(a:1<=m)(f:((r 19)&&&(r 21))=V)(H:At n j P (m-1) ⟨81,cf r 21 V,bk,h⟩):At n j P m ⟨80,r,bk,h⟩:=B3 (x:=⟨5,21,19,21,0,0,0⟩) rfl (by decide) (fun e=>absurd e (by decide)) (by rw[PT rfl,show cX (⟨5,21,19,21,0,0,0⟩:aV) r=(r 19)from rfl,show dH (⟨5,21,19,21,0,0,0⟩:aV) r=(r 21)from rfl];exact f) a H
theorem OJ(a:1<=m)(f:(((r 20)+(r 21))%qO)=V)(H:At n j P (m-1) ⟨82,cf r 21 V,bk,h⟩):At n j P m ⟨81,r,bk,h⟩:=B3 (x:=⟨3,21,20,21,0,0,0⟩) rfl (by decide) (fun e=>absurd e (by decide)) (by rw[Mi rfl,show cX (⟨3,21,20,21,0,0,0⟩:aV) r=(r 20)from rfl,show dH (⟨3,21,20,21,0,0,0⟩:aV) r=(r 21)from rfl];exact f) a H
theorem QP:ck ⟨17,16,21,0,1,0,0⟩ s j d ⟨82,r,bk,h⟩=s.put j ⟨83,cf r 16 (s.c ((r 21+1)%qO)),bk,h⟩:=rfl
theorem OK(a:1<=m)(f:(r 19)=V)(H:At n j P (m-1) ⟨84,cf r 22 V,bk,h⟩):At n j P m ⟨83,r,bk,h⟩:=B3 (x:=⟨2,22,19,0,0,0,0⟩) rfl (by decide) (fun e=>absurd e (by decide)) ((Rl rfl).trans f) a H
theorem OL(a:1<=m)(f:(((r 19)+1)%qO)=V)(H:At n j P (m-1) ⟨85,cf r 23 V,bk,h⟩):At n j P m ⟨84,r,bk,h⟩:=B3 (x:=⟨3,23,19,-1,1,0,0⟩) rfl (by decide) (fun e=>absurd e (by decide)) (by rw[Mi rfl,show cX (⟨3,23,19,-1,1,0,0⟩:aV) r=(r 19)from rfl,show dH (⟨3,23,19,-1,1,0,0⟩:aV) r=1 from rfl];exact f) a H
theorem QQ:ck ⟨32,22,17,23,0,0,0⟩ s j d ⟨85,r,bk,h⟩=if s.c ((r 17+0)%qO)=r 22 then({s with c:=cf s.c ((r 17+0)%qO) (r 23)}:AS).put j (if h=0/\s.may (cf r 22 (s.c ((r 17+0)%qO)) 16)=true then⟨86,cf r 22 (s.c ((r 17+0)%qO)),bk,cf r 22 (s.c ((r 17+0)%qO)) 16⟩else⟨86,cf r 22 (s.c ((r 17+0)%qO)),bk,h⟩)else s.put j ⟨86,cf r 22 (s.c ((r 17+0)%qO)),bk,h⟩:=rfl
theorem Mt(a:1<=m)(f:(if(r 22)=(r 19)then 1 else 0)=V)(H:At n j P (m-1) ⟨87,cf r 22 V,bk,h⟩):At n j P m ⟨86,r,bk,h⟩:=B3 (x:=⟨10,22,22,19,0,0,0⟩) rfl (by decide) (fun e=>absurd e (by decide)) (by rw[Mj rfl,show cX (⟨10,22,22,19,0,0,0⟩:aV) r=(r 22)from rfl,show dH (⟨10,22,22,19,0,0,0⟩:aV) r=(r 19)from rfl];exact f) a H
theorem Pd(f:1<=m)(a:r 22=0)(H:At n j P (m-1) ⟨88,r,bk,h⟩):At n j P m ⟨87,r,bk,h⟩:=At.loc (x:=⟨14,22,0,0,89,0,0⟩) (m':=m-1) rfl rfl ⟨fun e=>absurd e (by decide),fun e=>absurd e (by decide),fun e=>absurd e (by decide)⟩ (by omega) (by have e:F0 ⟨14,22,0,0,89,0,0⟩ n j ⟨87,r,bk,h⟩=⟨88,r,bk,h⟩:=if_pos a;rw[e];exact H)
theorem Mu(f:1<=m)(a:r 22≠0)(H:At n j P (m-1) ⟨89,r,bk,h⟩):At n j P m ⟨87,r,bk,h⟩:=At.loc (x:=⟨14,22,0,0,89,0,0⟩) (m':=m-1) rfl rfl ⟨fun e=>absurd e (by decide),fun e=>absurd e (by decide),fun e=>absurd e (by decide)⟩ (by omega) (by have e:F0 ⟨14,22,0,0,89,0,0⟩ n j ⟨87,r,bk,h⟩=⟨89,r,bk,h⟩:=if_neg a;rw[e];exact H)
theorem OM(a:1<=m)(H:At n j P (m-1) ⟨89,cf r 16 (0:Nat),bk,h⟩):At n j P m ⟨88,r,bk,h⟩:=B3 (x:=⟨1,16,0,0,0,0,0⟩) rfl (by decide) (fun e=>absurd e (by decide)) (PS rfl) a H
theorem K0{p:Nat}(f:1<=m)(a:bk=[p])(H:At n j P (m-1) ⟨p,r,[],h⟩):At n j P m ⟨89,r,bk,h⟩:=by subst a;exact At.loc (x:=⟨16,0,0,0,0,0,0⟩) (m':=m-1) rfl rfl ⟨fun e=>absurd e (by decide),fun e=>absurd e (by decide),fun _ e=>by cases e⟩ (by omega) H
theorem QR:ck ⟨42,0,0,0,0,0,0⟩ s j d ⟨90,r,bk,h⟩=s.put j ⟨91,cf r 0 d,bk,h⟩:=rfl
theorem JU(a:1<=m)(f:((r 0)&&&3)=V)(H:At n j P (m-1) ⟨92,cf r 1 V,bk,h⟩):At n j P m ⟨91,r,bk,h⟩:=B3 (x:=⟨5,1,0,-1,3,0,0⟩) rfl (by decide) (fun e=>absurd e (by decide)) (by rw[PT rfl,show cX (⟨5,1,0,-1,3,0,0⟩:aV) r=(r 0)from rfl,show dH (⟨5,1,0,-1,3,0,0⟩:aV) r=3 from rfl];exact f) a H
theorem JV(a:1<=m)(e:((r 0)>>>(2&&&63))=V)(H:At n j P (m-1) ⟨93,cf r 2 V,bk,h⟩):At n j P m ⟨92,r,bk,h⟩:=B3 (x:=⟨9,2,0,-1,2,0,0⟩) rfl (by decide) (fun _=>by show(2:Nat)<64;decide) (by rw[Sa rfl,show cX (⟨9,2,0,-1,2,0,0⟩:aV) r=(r 0)from rfl,show dH (⟨9,2,0,-1,2,0,0⟩:aV) r=2 from rfl];exact e) a H
theorem Mv(f:1<=m)(a:r 1=0)(H:At n j P (m-1) ⟨102,r,bk,h⟩):At n j P m ⟨93,r,bk,h⟩:=At.loc (x:=⟨13,1,0,0,102,0,0⟩) (m':=m-1) rfl rfl ⟨fun e=>absurd e (by decide),fun e=>absurd e (by decide),fun e=>absurd e (by decide)⟩ (by omega) (by have e:F0 ⟨13,1,0,0,102,0,0⟩ n j ⟨93,r,bk,h⟩=⟨102,r,bk,h⟩:=if_pos a;rw[e];exact H)
theorem Kt(f:1<=m)(a:r 1≠0)(H:At n j P (m-1) ⟨94,r,bk,h⟩):At n j P m ⟨93,r,bk,h⟩:=At.loc (x:=⟨13,1,0,0,102,0,0⟩) (m':=m-1) rfl rfl ⟨fun e=>absurd e (by decide),fun e=>absurd e (by decide),fun e=>absurd e (by decide)⟩ (by omega) (by have e:F0 ⟨13,1,0,0,102,0,0⟩ n j ⟨93,r,bk,h⟩=⟨94,r,bk,h⟩:=if_neg a;rw[e];exact H)
theorem Mw(a:1<=m)(f:(if(r 1)=1 then 1 else 0)=V)(H:At n j P (m-1) ⟨95,cf r 3 V,bk,h⟩):At n j P m ⟨94,r,bk,h⟩:=B3 (x:=⟨10,3,1,-1,1,0,0⟩) rfl (by decide) (fun e=>absurd e (by decide)) (by rw[Mj rfl,show cX (⟨10,3,1,-1,1,0,0⟩:aV) r=(r 1)from rfl,show dH (⟨10,3,1,-1,1,0,0⟩:aV) r=1 from rfl];exact f) a H
theorem Mx(f:1<=m)(a:r 3=0)(H:At n j P (m-1) ⟨96,r,bk,h⟩):At n j P m ⟨95,r,bk,h⟩:=At.loc (x:=⟨14,3,0,0,99,0,0⟩) (m':=m-1) rfl rfl ⟨fun e=>absurd e (by decide),fun e=>absurd e (by decide),fun e=>absurd e (by decide)⟩ (by omega) (by have e:F0 ⟨14,3,0,0,99,0,0⟩ n j ⟨95,r,bk,h⟩=⟨96,r,bk,h⟩:=if_pos a;rw[e];exact H)
theorem Pe(f:1<=m)(a:r 3≠0)(H:At n j P (m-1) ⟨99,r,bk,h⟩):At n j P m ⟨95,r,bk,h⟩:=At.loc (x:=⟨14,3,0,0,99,0,0⟩) (m':=m-1) rfl rfl ⟨fun e=>absurd e (by decide),fun e=>absurd e (by decide),fun e=>absurd e (by decide)⟩ (by omega) (by have e:F0 ⟨14,3,0,0,99,0,0⟩ n j ⟨95,r,bk,h⟩=⟨99,r,bk,h⟩:=if_neg a;rw[e];exact H)
theorem ON(f:1<=m)(a:(17+3*((r 2)%n))=V)(H:At n j P (m-1) ⟨97,cf r 17 V,bk,h⟩):At n j P m ⟨96,r,bk,h⟩:=by subst a;exact At.loc (x:=⟨39,17,2,0,0,0,0⟩) (m':=m-1) rfl rfl ⟨fun e=>absurd e (by decide),fun e=>absurd e (by decide),fun e=>absurd e (by decide)⟩ (by omega) H
theorem OO(f:1<=m)(a:bk=[])(H:At n j P (m-1) ⟨73,r,[98],h⟩):At n j P m ⟨97,r,bk,h⟩:=by subst a;exact At.loc (x:=⟨15,0,0,0,73,0,0⟩) (m':=m-1) rfl rfl ⟨fun e=>absurd e (by decide),fun _=>by show(0:Nat)<8;decide,fun e=>absurd e (by decide)⟩ (by omega) H
theorem K3(a:1<=m)(H:At n j P (m-1) ⟨100,r,bk,h⟩):At n j P m ⟨98,r,bk,h⟩:=At.loc (x:=⟨12,0,0,0,100,0,0⟩) (m':=m-1) rfl rfl ⟨fun e=>absurd e (by decide),fun e=>absurd e (by decide),fun e=>absurd e (by decide)⟩ (by omega) H
theorem QS(f:1<=m)(a:bk=[])(H:At n j P (m-1) ⟨45,r,[100],h⟩):At n j P m ⟨99,r,bk,h⟩:=by subst a;exact At.loc (x:=⟨15,0,0,0,45,0,0⟩) (m':=m-1) rfl rfl ⟨fun e=>absurd e (by decide),fun _=>by show(0:Nat)<8;decide,fun e=>absurd e (by decide)⟩ (by omega) H
theorem My:ck ⟨33,0,0,0,0,0,0⟩ s j d ⟨100,r,bk,h⟩=if h=0 then s.put j ⟨101,r,bk,h⟩else(s.lay h).put j ⟨101,r,bk,0⟩:=rfl
theorem Ku(a:1<=m)(H:At n j P (m-1) ⟨90,r,bk,h⟩):At n j P m ⟨101,r,bk,h⟩:=At.loc (x:=⟨12,0,0,0,90,0,0⟩) (m':=m-1) rfl rfl ⟨fun e=>absurd e (by decide),fun e=>absurd e (by decide),fun e=>absurd e (by decide)⟩ (by omega) H
theorem Mz(a:1<=m)(H:At n j P (m-1) ⟨103,cf r 4 (0:Nat),bk,h⟩):At n j P m ⟨102,r,bk,h⟩:=B3 (x:=⟨1,4,0,0,0,0,0⟩) rfl (by decide) (fun e=>absurd e (by decide)) (PS rfl) a H
theorem OP:ck ⟨48,16,4,4,0,1,0⟩ s j d ⟨103,r,bk,h⟩=if s.hl+1<=s.Gx/\s.nb<64 then({s with hl:=s.hl+1,nb:=s.nb+1,c:=cf s.c s.hl 0}:AS).put j ⟨104,cf r 16 (64+s.nb),bk,64+s.nb⟩else s.put j ⟨104,cf r 16 0,bk,h⟩:=rfl
theorem NQ(f:1<=m)(a:r 16=0)(H:At n j P (m-1) ⟨90,r,bk,h⟩):At n j P m ⟨104,r,bk,h⟩:=At.loc (x:=⟨13,16,0,0,90,0,0⟩) (m':=m-1) rfl rfl ⟨fun e=>absurd e (by decide),fun e=>absurd e (by decide),fun e=>absurd e (by decide)⟩ (by omega) (by have e:F0 ⟨13,16,0,0,90,0,0⟩ n j ⟨104,r,bk,h⟩=⟨90,r,bk,h⟩:=if_pos a;rw[e];exact H)
theorem K4(f:1<=m)(a:r 16≠0)(H:At n j P (m-1) ⟨105,r,bk,h⟩):At n j P m ⟨104,r,bk,h⟩:=At.loc (x:=⟨13,16,0,0,90,0,0⟩) (m':=m-1) rfl rfl ⟨fun e=>absurd e (by decide),fun e=>absurd e (by decide),fun e=>absurd e (by decide)⟩ (by omega) (by have e:F0 ⟨13,16,0,0,90,0,0⟩ n j ⟨104,r,bk,h⟩=⟨105,r,bk,h⟩:=if_neg a;rw[e];exact H)
theorem MA(f:1<=m)(a:bk=[])(H:At n j P (m-1) ⟨0,r,[106],h⟩):At n j P m ⟨105,r,bk,h⟩:=by subst a;exact At.loc (x:=⟨15,0,0,0,0,0,0⟩) (m':=m-1) rfl rfl ⟨fun e=>absurd e (by decide),fun _=>by show(0:Nat)<8;decide,fun e=>absurd e (by decide)⟩ (by omega) H
theorem Jw(a:1<=m)(H:At n j P (m-1) ⟨90,r,bk,h⟩):At n j P m ⟨106,r,bk,h⟩:=At.loc (x:=⟨12,0,0,0,90,0,0⟩) (m':=m-1) rfl rfl ⟨fun e=>absurd e (by decide),fun e=>absurd e (by decide),fun e=>absurd e (by decide)⟩ (by omega) H
end
end
section
theorem m64{x:Nat}(h:x<1000000):x%qO=x:=Nat.mod_eq_of_lt (by unfold qO;omega)
theorem K5{b c:Nat}(h:c<=b)(hb:b<1000000):(b+(qO-c))%qO=b-c:=by
 have a:qO=18446744073709551616:=rfl;rw[show b+(qO-c)=(b-c)+qO by omega,Nat.add_mod_right];exact m64 (by omega)
theorem HN{z:Nat}(i:Nat)(h:z=4∨z=8∨z=16):i&&&(z-1)=i%z:=by
 rcases h with e|e|e<;>subst e
 ·exact Nat.and_two_pow_sub_one_eq_mod i 2
 ·exact Nat.and_two_pow_sub_one_eq_mod i 3
 ·exact Nat.and_two_pow_sub_one_eq_mod i 4
theorem Jx{z:Nat}(i:Nat)(h:z=4∨z=8∨z=16):i&&&(2*z-1)=i%(2*z):=by
 rcases h with e|e|e<;>subst e
 ·exact Nat.and_two_pow_sub_one_eq_mod i 3
 ·exact Nat.and_two_pow_sub_one_eq_mod i 4
 ·exact Nat.and_two_pow_sub_one_eq_mod i 5
structure FB(ok:Hy)(n:Nat)(s:AS)(g:Gh)(m:Nat->Nat):Prop where
 nw:s.wk.length=n
 si:SI ok n s.sh g
 li:LI n s.sh g s.ring s.wk
 wk:∀(k:Nat) w,s.wk[k]?=some w->At n k (F7 ok n s.sh g k) (m k) w
section
variable{ok:Hy}{n j d mj q v:Nat}{s s1:AS}{g g':Gh}{m:Nat->Nat}{w w':AW}{x:aV}{pc h:Nat}{r r':Nat->Nat}{bk:List Nat}
theorem FB.next(I:FB ok n s g m)(hw:s.wk[j]?=some w)(b:s1.wk=s.wk.set j w')(E:Mh ok n j s.sh g s1.sh g' s1.ring (s.wk.set j w'))(e:At n j (F7 ok n s1.sh g' j) mj w'):FB ok n s1 g' (F1 m j mj):=by
 refine⟨by rw[b,List.length_set];exact I.nw,E.si,by rw[b];exact E.li,fun k x a=> ?_⟩;rw[b]at a;by_cases c:k=j
 ·subst c
  rw[HU (If hw)]at a;rw[B2,<-Option.some.inj a];exact e
 ·rw[HM c]at a
  rw[FF _ _ c];exact(I.wk k x a).mono (E.ot k (by rw[<-I.nw];exact If a) c)
theorem FO(I:FB ok n s g m)(hw:s.wk[j]?=some w)(b:w'.hand=w.hand)(a:At n j (F7 ok n s.sh g j) mj w'):∃g',FB ok n (s.put j w') g' (F1 m j mj):=
 ⟨g,I.next hw rfl (NH (g:=g) I.si I.li hw b) a⟩
theorem Ij(I:FB ok n s g m)(hw:s.wk[j]?=some w)(b:w'.hand=w.hand)(e:Ja n s.sh g j q)(a:At n j (F7 ok n (s.sh.wr q v) g j) mj w'):∃g',FB ok n (({s with c:=cf s.c q v}:AS).put j w') g' (F1 m j mj):=by
 have hj:j<n:=by rw[<-I.nw];exact If hw
 exact⟨g,I.next hw rfl (O4 I.si I.li hj hw b e) a⟩
theorem Hp.oD{S:Sh}{c:Nat}(H:Hp ok S g j ⟨pc,r,bk,h⟩)(a:r' 16=r 16)(b:r' 17=r 17):Hp ok S g j ⟨c,r',bk,h⟩:=⟨H.q,H.lt,H.h0,a.trans H.Lh,b.trans H.G1,H.bk,H.po⟩
theorem Po.oD{b:Nat}(H:Po ok j ⟨pc,r,bk,h⟩)(a:r' 17=r 17):Po ok j ⟨b,r',bk,h⟩:=⟨H.h0,a.trans H.G1,H.bk,H.po⟩
theorem Th.oD{S:Sh}{b:Nat}(H:Th ok n S g j ⟨pc,r,bk,h⟩ d)(a:r' 17=r 17):Th ok n S g j ⟨b,r',bk,h⟩ d:=⟨H.dn,H.q,H.h0,H.bk,a.trans H.G1,H.po⟩
theorem T2.oD{S:Sh}{b:Nat}(H:T2 S g ⟨pc,r,bk,h⟩ d)(a:r' 19=r 19):T2 S g ⟨b,r',bk,h⟩ d:=⟨by show r' 19<=_;rw[a];exact H.le,by show _=r' 19->r' 19<_;rw[a];exact H.lt⟩
theorem HA.oD{S:Sh}{c a:Nat}(H:HA n S g ⟨pc,r,bk,h⟩ d a)(b:r' 19=r 19):HA n S g ⟨c,r',bk,h⟩ d a:=⟨H.ar,H.pb,H.ow,by show _=r' 19->S.c (_+1+r' 19%_)=g.it d (r' 19);rw[b];exact H.ce⟩
theorem I6.oD{S:Sh}{o:Nat}(H:I6 ok n S g j ⟨pc,r,bk,h⟩)(b:r' 16=r 16)(c:r' 17=r 17)(e:r' 18=r 18)(a:r' 19=r 19)(f:r' 20=r 20)(i:r' 21=r 21)(k:r' 24=r 24)(l:r' 25=r 25):I6 ok n S g j ⟨o,r',bk,h⟩:=
 ⟨H.h.oD b c,e.trans H.KO,by show r' 19<=_;rw[a];exact H.Rk,by show _<=r' 19+_;rw[a];exact H.NF,f.trans H.Md,i.trans H.Me,H.sm,k.trans H.KP,by show NA n S g j (r' 25);rw[l];exact H.na⟩
theorem Pf.oD{S:Sh}{b e:Nat}(H:Pf S g j ⟨pc,r,bk,h⟩ e)(a:r' 25=r 25):Pf S g j ⟨b,r',bk,h⟩ e:=by
 unfold Pf at*;show S.c (r' 25)=_/\∀i,_->_->S.c (r' 25+1+_)=_
 rw[a];exact H
theorem Wn.oD{S:Sh}{p:Nat}(H:Wn ok S g j ⟨pc,r,bk,h⟩)(i:r' 17=r 17)(l:r' 18=r 18)(o:r' 19=r 19):Wn ok S g j ⟨p,r',bk,h⟩:=by
 obtain⟨a,b,c,d,e,f,k⟩:=H;dsimp only at b c d e f k;rw[<-l]at b c e f k;rw[<-o]at c d k;exact⟨a.oD i,b,c,d,e,f,k⟩
structure dM(n:Nat)(s:Sh)(g:Gh)(j:Nat):Prop where
 jn:17+3*j+2<s.hl
 x:s.hl<=65536
 e:g.eb j<=64
 t:tp s j<=64
 a:ra s j+s.c (ra s j)<s.hl
 z:s.c (ra s j)<=16
 p:0<s.c (ra s j)
theorem FB.bd(I:FB ok n s g m)(hj:j<n):dM n s.sh g j:=by
 have D:=I.si.d j hj;have a:=I.si.nb;have b:=I.si.lo;have c:=I.si.li;have f:=I.si.l1;have i:=D.eb;have k:=D.le;exact⟨by omega,by omega,by omega,by omega,D.ar.hi,by rcases D.ar.sz with e|e|e<;>omega,Hr D.ar⟩
theorem Jy(a:r 17=17+3*d)(b:17+3*d+2<65536):s.c ((r 17+0)%qO)=tp s.sh d/\s.c ((r 17+1)%qO)=dK s.sh d/\s.c ((r 17+2)%qO)=ra s.sh d:=by
 rw[a,m64 (by omega),m64 (by omega),m64 (by omega)];exact⟨rfl,rfl,rfl⟩
theorem Qt.wr{S:Sh}(H:Qt S g j)(a:q≠17+3*j+1):Qt (S.wr q v) g j:=⟨(cQ _ _ (fun e=>a e.symm)).trans H.1,H.2⟩
theorem Hp.wr{S:Sh}(H:Hp ok S g j w)(a:q≠17+3*j+1):Hp ok (S.wr q v) g j w:=⟨H.q.wr a,H.lt,H.h0,H.Lh,H.G1,H.bk,H.po⟩
theorem I6.wr{S:Sh}(H:I6 ok n S g j w)(c:q≠17+3*j+1)(a:ra (S.wr q v) j=ra S j)(b:(S.wr q v).c (ra S j)=S.c (ra S j)):I6 ok n (S.wr q v) g j w:=
 ⟨H.h.wr c,H.KO,H.Rk,by rw[a,b];exact H.NF,by rw[a];exact H.Md,by rw[a,b];exact H.Me,by rw[a,b];exact H.sm,by rw[a,b];exact H.KP,⟨H.na.lo,by rw[a,b];exact H.na.hi,by rw[a,b];exact H.na.bs,H.na.ow,H.na.pb⟩⟩
theorem Hp.to{S S':Sh}(H:Hp ok S g j ⟨pc,r,bk,h⟩){k:Nat}(b:dK S' j=dK S j)(nb:S'.nb=S.nb)(a:g'.eb=g.eb)(e:g'.lc=g.lc)(f:r' 16=r 16)(i:r' 17=r 17):Hp ok S' g' j ⟨k,r',bk,h⟩:=
 ⟨⟨by rw[b,a];exact H.q.1,fun id c=>by rw[e];exact H.q.2 id ⟨c.1,nb▸c.2⟩⟩,by rw[a,nb];exact H.lt,H.h0,f.trans H.Lh,i.trans H.G1,H.bk,H.po⟩
theorem At.get{n j:Nat}{P:Nat->AW->Prop}{Q:Prop}{m:Nat}{w:AW}(a:At n j P m w)(h:∀m w,P m w->Q):Q:=by
 induction a with
 |here p=>exact h _ _ p
 |loc _ _ _ _ _ ih=>exact ih
theorem F7.be{S:Sh}{M:Nat}(b:F7 ok n S g j M w):dK S j<=g.eb j:=by
 cases b with
 |p90 a b c d=>exact Nat.le_of_eq d.1
 |p103 a b c d f i=>exact Nat.le_of_eq f.1
 |p100 a b c d=>exact Nat.le_of_eq c.1
 |p3 a b c=>exact Nat.le_of_eq b.q.1
 |p4 a b c d=>exact Nat.le_of_eq b.q.1
 |p5 a b c d f i=>exact Nat.le_of_eq b.q.1
 |p6 a b c d f i j=>exact Nat.le_of_eq b.q.1
 |p13 a b c d f i=>exact Nat.le_of_eq b.q.1
 |p15 a b c d f i=>exact Nat.le_of_eq b.q.1
 |p17 a b c d f i=>exact Nat.le_of_eq d.1
 |p24 a b c d f i j l e p q=>exact Nat.le_of_eq b.q.1
 |p26 a b c d=>exact Nat.le_of_eq b.h.q.1
 |p32 a b c d f i=>exact Nat.le_of_eq b.h.q.1
 |p36 a b c d f i j=>exact Nat.le_of_eq b.h.q.1
 |p39 a b c d f=>exact Nat.le_of_eq b.h.q.1
 |p43 a b c=>exact Nat.le_of_eq b.q.1
 |p46 a b c d=>exact Nat.le_of_eq c.1
 |p48 a b c d f=>exact Nat.le_of_eq c.1
 |p49 a b c d f i=>omega
 |p52 a b c=>rcases b.eb with z|z<;>(have:=b.b;omega)
 |p53 a b c d=>rcases b.eb with z|z<;>(have:=b.b;omega)
 |p57 a b c d=>rcases b.eb with z|z<;>(have:=b.b;omega)
 |p60 a b c d f i j=>omega
 |p64 a b c d f i j l e p q=>omega
 |p65 a b c d f i j l e=>omega
 |p70 a b c d f i=>omega
 |p73 d a b c=>exact Nat.le_of_eq b.q.1
 |p74 d a b c i=>exact Nat.le_of_eq b.q.1
 |p77 d a b c i=>exact Nat.le_of_eq b.q.1
 |p78 d a b c i j=>exact Nat.le_of_eq b.q.1
 |p82 d x a b c i j l=>exact Nat.le_of_eq b.q.1
 |p85 d a b c i j l e=>exact Nat.le_of_eq b.q.1
theorem FB.be(I:FB ok n s g m){d:Nat}(a:d<n):dK s.sh d<=g.eb d:=by
 have c:d<s.wk.length:=by rw[I.nw];exact a
 exact(I.wk d _ (List.getElem?_eq_getElem c)).get fun _ _ b=>b.be
theorem Jz(L:LI n s.sh g s.ring s.wk){id:Nat}(b:val s.sh id)(p:g.lc id≠ .ring)(o:∀k,g.lc id≠ .hand k):s.may id=true:=by
 unfold AS.may;rw[decide_eq_true (show 64<=id/\id<64+s.nb from b)];have c:(s.wk.any fun w=>w.hand==id)=false:=by
  rw[List.any_eq_false];intro x a e;obtain⟨k,i⟩:=List.getElem?_of_mem a;have e:x.hand=id:=by simpa using e
  have l:x.hand≠0:=by rw[e];exact b.Qm
  have:=(L.hd k x i l).2;rw[e]at this;exact o k this
 have f:(s.ring.any fun r=>r==id)=false:=by
  rw[List.any_eq_false];intro x a e;have e:x=id:=by simpa using e
  rw[e]at a;exact p ((L.rg id).1 a).2
 rw[c,f];rfl
section
variable(I:FB ok n s g m)(hw:s.wk[j]?=some ⟨pc,r,bk,h⟩)(hj:j<n)
include I hw hj
theorem Sb(hb:Hp ok s.sh g j ⟨pc,r,bk,h⟩)(c:143<=m j)(a:pc=3):∃g',FB ok n (ck ⟨17,18,17,0,1,0,0⟩ s j d ⟨3,r,bk,h⟩) g' (F1 m j (m j-1)):=by
 subst a;have B:=I.bd hj;have e:=B.jn;have b:=B.x;rw[R1,(Jy hb.G1 (by omega)).2.1];exact FO I hw rfl (.here (.p4 rfl (hb.oD rfl rfl) hb.q.1 (by omega)))
theorem Sc(hb:Hp ok s.sh g j ⟨pc,r,bk,h⟩)(a:r 18=g.eb j)(e:142<=m j)(b:pc=4):∃g',FB ok n (ck ⟨17,19,17,0,0,0,0⟩ s j d ⟨4,r,bk,h⟩) g' (F1 m j (m j-1)):=by
 subst b;have B:=I.bd hj;have f:=B.jn;have c:=B.x;rw[R2,(Jy hb.G1 (by omega)).1];exact FO I hw rfl (.here (.p5 rfl (hb.oD rfl rfl) a (Nat.le_refl _) (I.si.d j hj).rm (by omega)))
theorem Sd(hb:Hp ok s.sh g j ⟨pc,r,bk,h⟩)(a:r 18=g.eb j)(b:r 19<=tp s.sh j)(c:g.eb j<=r 19+s.sh.c (ra s.sh j))(i:141<=m j)(e:pc=5):∃g',FB ok n (ck ⟨17,20,17,0,2,0,0⟩ s j d ⟨5,r,bk,h⟩) g' (F1 m j (m j-1)):=by
 subst e;have B:=I.bd hj;have k:=B.jn;have f:=B.x;rw[R3,(Jy hb.G1 (by omega)).2.2];exact FO I hw rfl (.here (.p6 rfl (hb.oD rfl rfl) a b c rfl (by omega)))
theorem Se(hb:Hp ok s.sh g j ⟨pc,r,bk,h⟩)(b:r 18=g.eb j)(A:r 19<=tp s.sh j)(C:g.eb j<=r 19+s.sh.c (ra s.sh j))(k:r 20=ra s.sh j)(L:140<=m j)(E:pc=6):∃g',FB ok n (ck ⟨17,21,20,0,0,0,0⟩ s j d ⟨6,r,bk,h⟩) g' (F1 m j (m j-1)):=by
 subst E;have B:=I.bd hj;have D:=I.si.d j hj;have N:=B.jn;have J:=B.x;have G:=B.e;have F:=B.a;have H:=B.t;have K:=B.z;have l:=B.p;have dl:=D.le;have e:s.c ((r 20+0)%qO)=s.sh.c (ra s.sh j):=by rw[k,m64 (by omega)];rfl
 rw[R4,e];generalize a:s.sh.c (ra s.sh j)=z at*;have i:(r 18+(qO-r 19))%qO=g.eb j-r 19:=by rw[b];exact K5 (by omega) (by omega)
 by_cases c:g.eb j-r 19<z
 ·have t:(r 20+g.eb j%z)%qO=ra s.sh j+g.eb j%z:=by
   have:=Nat.mod_lt (g.eb j) l;rw[k,m64 (by omega)]
  have p:r 18&&&(z-1)=g.eb j%z:=by rw[b];exact HN _ (a▸D.ar.sz)
  have o:(z+(qO-1))%qO=z-1:=K5 (by omega) (by omega);exact FO I hw rfl (Lp (by omega) i (Lq (by omega) (if_pos c) (Oi (by omega) Nat.one_ne_zero (KT (by omega) o (KU (by omega) p (KV (by omega) t (.here (.p13 rfl (hb.oD rfl rfl) b (by rw[a];omega) (by rw[a];rfl) (by omega)))))))))
 ·by_cases f:z<16
  ·have u:(z+z)%qO=2*z:=by rw[m64 (by omega)];omega
   have y:(2*z+1)%qO=2*z+1:=m64 (by omega);have M:z<=8:=(by have:=a▸D.ar.sz;omega);exact FO I hw rfl (Lp (by omega) i (Lq (by omega) (if_neg c) (KR (by omega) rfl (KW (by omega) (KX (by omega) (if_pos f) (Ml (by omega) Nat.one_ne_zero (On (by omega) u (Oo (by omega) y (.here (.p24 rfl (hb.oD rfl rfl) b A (by rw[a];exact C) k a.symm (by rw[a];exact f) (by rw[a];rfl) (by rw[a];rfl) (by show 12*(_-r 19)+24<=_;omega)))))))))))
  ·exact FO I hw rfl (Lp (by omega) i (Lq (by omega) (if_neg c) (KR (by omega) rfl (KW (by omega) (KX (by omega) (if_neg f) (Mk (by omega) rfl (.here (.p43 rfl (hb.oD rfl rfl) (by omega)))))))))
theorem Ry(hb:Hp ok s.sh g j ⟨pc,r,bk,h⟩)(o:r 18=g.eb j)(i:g.eb j<tp s.sh j+s.sh.c (ra s.sh j))(p:r 21=ra s.sh j+g.eb j%s.sh.c (ra s.sh j))(A:7<=m j)(t:pc=13):∃g',FB ok n (ck ⟨18,16,21,0,1,0,0⟩ s j d ⟨13,r,bk,h⟩) g' (F1 m j (m j-1)):=by
 subst t;have B:=I.bd hj;have D:=I.si.d j hj;have C:=B.jn;have z:=B.x;have y:=B.e;have u:=B.a;have a:=D.ar.cell (g.eb j);have:=Nat.mod_lt (g.eb j) B.p;have e:(r 21+1)%qO=ra s.sh j+1+g.eb j%s.sh.c (ra s.sh j):=by rw[p,m64 (by omega)];omega
 have b:Ja n s.sh g j (ra s.sh j+1+g.eb j%s.sh.c (ra s.sh j)):=Or.inr (Or.inr ⟨a.1,a.2.1,by rw[a.2.2];exact D.ow,Or.inr ⟨a.2.2,rfl,i⟩⟩);have l:=b.tp (v:=r 16) hj;have c:=b.ra (v:=r 16) hj;have f:=b.hc (v:=r 16) hj D.ar D.pb;rw[Qp,e];have k:ra s.sh j+1+g.eb j%s.sh.c (ra s.sh j)≠17+3*j+1:=by have:=a.1;omega
 have k:ra s.sh j+1+g.eb j%s.sh.c (ra s.sh j)≠17+3*j+1:=by have:=a.1;omega
 refine Ij I hw rfl b (Oj (by omega) (show(r 18+1)%qO=g.eb j+1 by rw[o,m64 (by omega)]) (.here (.p15 rfl (Hp.wr (hb.oD rfl rfl:Hp ok s.sh g j ⟨15,cf r 18 (g.eb j+1),bk,h⟩) k) rfl (by rw[l,c,f];exact i) ?_ (by omega))));rw[c,f];exact(Fy _ _ _).trans hb.Lh
theorem Rz(hb:Hp ok s.sh g j ⟨pc,r,bk,h⟩)(b:r 18=g.eb j+1)(i:g.eb j<tp s.sh j+s.sh.c (ra s.sh j))(c:s.sh.c (ra s.sh j+1+g.eb j%s.sh.c (ra s.sh j))=h)(l:5<=m j)(f:pc=15):∃g',FB ok n (ck ⟨31,18,17,0,1,0,0⟩ s j d ⟨15,r,bk,h⟩) g' (F1 m j (m j-1)):=by
 subst f;have B:=I.bd hj;have o:=B.jn;have k:=B.x;have a:r 17=17+3*j:=hb.G1;have e:(r 17+1)%qO=17+3*j+1:=by rw[a,m64 (by omega)]
 obtain⟨g',E,Q⟩:=NI (w':=⟨16,r,bk,0⟩) I.si I.li hj hw hb i c rfl;rw[Qq,e,b];exact⟨g',I.next hw rfl E (Ol (by omega) (.here (.p17 rfl hb.bk rfl Q hb.po (by omega))))⟩
theorem RA(b:bk=[106])(a:h=0)(hb:Qt s.sh g j)(e:3<=m j)(c:pc=17):∃g',FB ok n (ck ⟨20,23,-1,0,0,0,0⟩ s j d ⟨17,r,bk,h⟩) g' (F1 m j (m j-1)):=by
 subst c;rw[Qr];exact Ij I hw rfl (Or.inl rfl) (Om (by omega) b (Jw (by omega) (.here (.p90 rfl rfl a (hb.wr (by omega))))))
theorem RB(hb:Hp ok s.sh g j ⟨pc,r,bk,h⟩)(o:r 18=g.eb j)(p:r 19<=tp s.sh j)(t:g.eb j<=r 19+s.sh.c (ra s.sh j))(u:r 20=ra s.sh j)(y:r 21=s.sh.c (ra s.sh j))(G:s.sh.c (ra s.sh j)<16)(z:r 24=2*s.sh.c (ra s.sh j))(A:r 25=2*s.sh.c (ra s.sh j)+1)(K:12*(g.eb j-r 19)+24<=m j)(F:pc=24):∃g',FB ok n (ck ⟨43,25,25,0,0,0,0⟩ s j d ⟨24,r,bk,h⟩) g' (F1 m j (m j-1)):=by
 subst F;have B:=I.bd hj;have D:=I.si.d j hj;have O:=B.jn;have J:=B.x;have H:=B.a;rw[Qs];split
 ·rename_i c
  rw[A]at c⊢;obtain⟨g',E,N,a,i⟩:=NL (ok:=ok) (w':=⟨25,cf r 25 s.hl,bk,h⟩) (q:=2*s.sh.c (ra s.sh j)+1) I.si I.li hj hw rfl rfl c.2.2;have f:∀x,x<s.hl->(if s.hl<=x/\x<s.hl+(2*s.sh.c (ra s.sh j)+1)then 0 else s.c x)=s.c x:=fun x M=>if_neg (by omega)
  have L:s.sh.hl=s.hl:=rfl;have f1:=f (17+3*j) (by omega);have f2:=f (17+3*j+1) (by omega);have f3:=f (17+3*j+2) (by omega);have f4:=f (ra s.sh j) (by omega);let S:Sh:={s.sh with hl:=s.hl+(2*s.sh.c (ra s.sh j)+1),c:=fun q=>if s.hl<=q/\q<s.hl+(2*s.sh.c (ra s.sh j)+1)then 0 else s.c q}
  have k:tp S j=tp s.sh j:=f1;have l:dK S j=dK s.sh j:=f2;have b:ra S j=ra s.sh j:=f3;have e:S.c (ra s.sh j)=s.sh.c (ra s.sh j):=f4;have C:I6 ok n S g' j ⟨26,cf r 25 s.hl,bk,h⟩:=⟨hb.to l rfl a i rfl rfl,by rw[a];exact o,by rw[a];show r 19<=_;have:=D.le;omega,by rw[a,b,e];exact t,by rw[b];exact u,by rw[b,e];exact y,by rw[b,e];exact G,by rw[b,e];exact z,N⟩;exact⟨g',I.next hw rfl E (Mm (by omega) (show s.hl≠0 by omega) (.here (.p26 rfl C (by show r 19<=tp S j;rw[k];exact p) (by rw[a];show 12*(_-r 19)+20<=_;omega))))⟩
 ·exact FO I hw rfl (O6 (by omega) rfl (.here (.p43 rfl (hb.oD rfl rfl) (by omega))))
end
theorem QT{S:Sh}{M:Nat}{a:Gh}(b:I6 ok n S a j ⟨27,r,bk,h⟩)(i:Pf S a j ⟨27,r,bk,h⟩ (r 19))(f:Ie n S a (ra S j))(B:S.hl<=65536)(u:a.eb j<=64)(z:12*(a.eb j-r 19)+19<=M):At n j (F7 ok n S a j) M ⟨27,r,bk,h⟩:=by
 have p:r 18=a.eb j:=b.KO;have t:r 19<=a.eb j:=b.Rk;have k:r 20=ra S j:=b.Md;have l:r 21=S.c (ra S j):=b.Me;have y:=f.hi;have C:=f.lo;have o:=Hr f;have D:S.c (ra S j)<=16:=by rcases f.sz with e|e|e<;>omega
 have A:=Nat.mod_lt (r 19) o;by_cases c:r 19=a.eb j
 ·refine KY (by omega) (if_pos (show r 19=r 18 by omega)) (Mo (by omega) Nat.one_ne_zero (.here (.p39 rfl (b.oD rfl rfl rfl rfl rfl rfl rfl rfl) (i.oD rfl) c (by omega))))
 ·refine KY (by omega) (if_neg (show¬r 19=r 18 by omega)) (Mn (by omega) rfl (Oq (by omega) (show(r 21+(qO-1))%qO=S.c (ra S j)-1 by rw[l];exact K5 (by omega) (by omega)) (Ot (by omega) (show r 19&&&(S.c (ra S j)-1)=r 19%S.c (ra S j)from HN _ f.sz) (Ou (by omega) (show(r 20+r 19%S.c (ra S j))%qO=ra S j+r 19%S.c (ra S j)by rw[k,m64 (by omega)]) (.here (.p32 rfl (b.oD rfl rfl rfl rfl rfl rfl rfl rfl) (i.oD rfl) (by show r 19<_;omega) rfl (by show 12*(_-r 19)+14<=_;omega)))))))
section
variable(I:FB ok n s g m)(hw:s.wk[j]?=some ⟨pc,r,bk,h⟩)(hj:j<n)
include I hw hj
theorem RC(b:I6 ok n s.sh g j ⟨pc,r,bk,h⟩)(z:r 19<=tp s.sh j)(C:12*(g.eb j-r 19)+20<=m j)(u:pc=26):∃g',FB ok n (ck ⟨18,24,25,0,0,0,0⟩ s j d ⟨26,r,bk,h⟩) g' (F1 m j (m j-1)):=by
 subst u;have B:=I.bd hj;have D:=I.si.d j hj;have E:=B.jn;have o:=B.x;have y:=B.a;have l:=B.e;have N:NA n s.sh g j (r 25):=b.na;have G:=N.lo;have F:=N.hi;have e:(r 25+0)%qO=r 25:=m64 (by omega);have a:Ja n s.sh g j (r 25):=Or.inr (Or.inr ⟨N.lo,by omega,by rw[N.bs _ (Nat.le_refl _) (by omega)];exact N.ow,Or.inl (by rw[N.bs _ (Nat.le_refl _) (by omega)];exact N.pb)⟩);have p:=a.tp (v:=r 24) hj;have c:=a.ra (v:=r 24) hj;have f:=a.hc (v:=r 24) hj D.ar D.pb;have k:=(I.si.wr (v:=r 24) hj a).d j hj;rw[Qu,e];refine Ij I hw rfl a (QT (((b.oD rfl rfl rfl rfl rfl rfl rfl rfl).wr (by omega) c f)) ⟨?_,fun i t A=> ?_⟩ k.ar o l (by omega))
 ·rw[c,f]
  exact(Fy _ _ _).trans b.KP
 ·rw[p]at t;omega
theorem RD(a:I6 ok n s.sh g j ⟨pc,r,bk,h⟩)(k:Pf s.sh g j ⟨pc,r,bk,h⟩ (r 19))(b:r 19<g.eb j)(f:r 22=ra s.sh j+r 19%s.sh.c (ra s.sh j))(y:12*(g.eb j-r 19)+14<=m j)(l:pc=32):∃g',FB ok n (ck ⟨17,23,22,0,1,0,0⟩ s j d ⟨32,r,bk,h⟩) g' (F1 m j (m j-1)):=by
 subst l;have B:=I.bd hj;have D:=I.si.d j hj;have C:=B.jn;have t:=B.x;have o:=B.a;have p:=B.e;have u:=B.z;have c:=B.p;have i:r 24=2*s.sh.c (ra s.sh j):=a.KP;have z:=Nat.mod_lt (r 19) c;have A:=Nat.mod_lt (r 19) (show 0<2*s.sh.c (ra s.sh j)by omega);have N:NA n s.sh g j (r 25):=a.na;have E:=N.hi;have e:(r 22+1)%qO=ra s.sh j+1+r 19%s.sh.c (ra s.sh j):=by rw[f,m64 (by omega)];omega
 rw[Qv,e];exact FO I hw rfl (Ov (by omega) (show(r 24+(qO-1))%qO=2*s.sh.c (ra s.sh j)-1 by rw[i];exact K5 (by omega) (by omega)) (Ow (by omega) (show r 19&&&(2*s.sh.c (ra s.sh j)-1)=r 19%(2*s.sh.c (ra s.sh j))from Jx _ D.ar.sz) (Ox (by omega) (show(r 25+r 19%(2*s.sh.c (ra s.sh j)))%qO=r 25+r 19%(2*s.sh.c (ra s.sh j))from m64 (by omega)) (.here (.p36 rfl (a.oD rfl rfl rfl rfl rfl rfl rfl rfl) (k.oD rfl) b rfl (fun q=>D.ce _ q b) (by show 12*(_-r 19)+10<=_;omega))))))
theorem RE(a:I6 ok n s.sh g j ⟨pc,r,bk,h⟩)(p:Pf s.sh g j ⟨pc,r,bk,h⟩ (r 19))(O:r 19<g.eb j)(E:r 22=r 25+r 19%(2*s.sh.c (ra s.sh j)))(F:tp s.sh j<=r 19->r 23=g.it j (r 19))(P:12*(g.eb j-r 19)+10<=m j)(H:pc=36):∃g',FB ok n (ck ⟨18,23,22,0,1,0,0⟩ s j d ⟨36,r,bk,h⟩) g' (F1 m j (m j-1)):=by
 subst H;have B:=I.bd hj;have D:=I.si.d j hj;have R:=B.jn;have y:=B.x;have K:=B.a;have u:=B.e;have M:=B.z;have L:=B.p;have Q:=Nat.mod_lt (r 19) (show 0<2*s.sh.c (ra s.sh j)by omega);have N:NA n s.sh g j (r 25):=a.na;have S:=N.hi;have T:=N.lo;have e:(r 22+1)%qO=r 25+1+r 19%(2*s.sh.c (ra s.sh j)):=by rw[E,m64 (by omega)];omega
 have nb:=N.bs (r 25+1+r 19%(2*s.sh.c (ra s.sh j))) (by omega) (by omega);have b:Ja n s.sh g j (r 25+1+r 19%(2*s.sh.c (ra s.sh j))):=Or.inr (Or.inr ⟨by omega,by omega,by rw[nb];exact N.ow,Or.inl (by rw[nb];exact N.pb)⟩);have A:=b.tp (v:=r 23) hj;have f:=b.ra (v:=r 23) hj;have k:=b.hc (v:=r 23) hj D.ar D.pb;have t:=(I.si.wr (v:=r 23) hj b).d j hj;have U:=D.rm;have J:r 25+1+r 19%(2*s.sh.c (ra s.sh j))≠17+3*j+1:=by omega
 rw[Qw,e];have C:(r 19+1)%qO=r 19+1:=m64 (by omega);have G:I6 ok n (s.sh.wr (r 25+1+r 19%(2*s.sh.c (ra s.sh j))) (r 23)) g j ⟨27,cf r 19 (r 19+1),bk,h⟩:=by
  refine I6.wr ⟨a.h.oD rfl rfl,a.KO,?_,?_,a.Md,a.Me,a.sm,a.KP,a.na⟩ J f k
  ·show r 19+1<=_;omega
  ·show _<=r 19+1+_;have:g.eb j<=r 19+s.sh.c (ra s.sh j):=a.NF;omega
 refine Ij I hw rfl b (Oy (by omega) C (Oz (by omega) (QT G ⟨?_,fun i l o=> ?_⟩ t.ar y u (by show 12*(_-(r 19+1))+19<=_;omega))))
 ·rw[f,k]
  exact(cQ _ _ (by show r 25≠_;omega)).trans p.1
 ·have o:i<r 19+1:=o
  rw[A]at l;rw[f,k];show cf s.c _ _ (r 25+1+i%(2*s.sh.c (ra s.sh j)))=_
  by_cases c:i=r 19
  ·rw[c,Fy]
   exact F (by omega)
  ·rw[cQ _ _ (by have:=IF (z:=2*s.sh.c (ra s.sh j)) (show i<r 19 by omega) (by omega);omega)]
   exact p.2 i l (by omega)
theorem RF(a:I6 ok n s.sh g j ⟨pc,r,bk,h⟩)(c:Pf s.sh g j ⟨pc,r,bk,h⟩ (r 19))(u:r 19=g.eb j)(K:14<=m j)(A:pc=39):∃g',FB ok n (ck ⟨18,25,17,0,2,0,0⟩ s j d ⟨39,r,bk,h⟩) g' (F1 m j (m j-1)):=by
 subst A;have B:=I.bd hj;have D:=I.si.d j hj;have M:=B.jn;have H:=B.x;have C:=B.a;have F:=B.e;have J:=B.z;have G:=B.p;have t:r 17=17+3*j:=a.h.G1;have k:r 18=g.eb j:=a.KO;have y:r 24=2*s.sh.c (ra s.sh j):=a.KP;have N:NA n s.sh g j (r 25):=a.na;have O:=N.hi;have P:=N.lo;have L:=Nat.mod_lt (g.eb j) (show 0<2*s.sh.c (ra s.sh j)by omega);have e:(r 17+2)%qO=17+3*j+2:=by rw[t,m64 (by omega)]
 have c:Pf s.sh g j ⟨39,r,bk,h⟩ (g.eb j):=u▸c;obtain⟨g',E,b,l⟩:=NN (w':=⟨40,r,bk,h⟩) I.si I.li hj hw rfl a c;let S:=s.sh.wr (17+3*j+2) (r 25)
 have o:tp S j=tp s.sh j:=cQ _ _ (by omega);have p:dK S j=dK s.sh j:=cQ _ _ (by omega);have f:ra S j=r 25:=Fy _ _ _;have i:S.c (r 25)=2*s.sh.c (ra s.sh j):=(cQ _ _ (by omega)).trans c.1;have Q:=D.rm;have z:Hp ok S g' j ⟨13,cf (cf (cf (cf (cf r 20 (r 25)) 21 (r 24)) 21 (2*s.sh.c (ra s.sh j)-1)) 21 (g.eb j%(2*s.sh.c (ra s.sh j)))) 21 (r 25+g.eb j%(2*s.sh.c (ra s.sh j))),bk,h⟩:=a.h.to p rfl b l rfl rfl;rw[Qx,e];exact⟨g',I.next hw rfl E (OA (by omega) rfl (OB (by omega) rfl (OC (by omega) (KT (by omega) (show(r 24+(qO-1))%qO=2*s.sh.c (ra s.sh j)-1 by rw[y];exact K5 (by omega) (by omega)) (KU (by omega) (show r 18&&&(2*s.sh.c (ra s.sh j)-1)=g.eb j%(2*s.sh.c (ra s.sh j))by rw[k];exact Jx _ D.ar.sz) (KV (by omega) (show(r 25+g.eb j%(2*s.sh.c (ra s.sh j)))%qO=r 25+g.eb j%(2*s.sh.c (ra s.sh j))from m64 (by omega)) (.here (.p13 rfl z (by rw[b];exact k) (by rw[b];show _<tp S j+S.c (ra S j);rw[o,f,i];omega) (by rw[b];show _=ra S j+_%S.c (ra S j);rw[f,i];rfl) (by omega)))))))))⟩
theorem K6{p a:Nat}(c:Qt s.sh g j){M:Nat}(i:∀S e f,Qt S e j->f=0->At n j (F7 ok n S e j) M ⟨a,r,bk,f⟩):∃g',FB ok n (if h=0 then s.put j ⟨a,r,bk,h⟩else(s.lay h).put j ⟨a,r,bk,0⟩) g' (F1 m j M):=by
 split
 ·rename_i b
  exact FO I hw rfl (i _ _ _ c b)
 ·rename_i b
  obtain⟨E,k⟩:=NJ (ok:=ok) (v:=(s.c 0+1)%qO) (w':=⟨a,r,bk,0⟩) I.si I.li hj hw b rfl;exact⟨_,I.next hw rfl E (i _ _ _ ⟨(show cf s.c 0 ((s.c 0+1)%qO) (17+3*j+1)=s.c (17+3*j+1)from cQ _ _ (by omega)).trans c.1,k c.2⟩ rfl)⟩
theorem RG(hb:Hp ok s.sh g j ⟨pc,r,bk,h⟩)(i:3<=m j)(c:pc=43):∃g',FB ok n (ck ⟨33,0,0,0,0,0,0⟩ s j d ⟨43,r,bk,h⟩) g' (F1 m j (m j-1)):=by
 subst c;rw[Qy];exact K6 I hw hj (p:=43) hb.q (fun S e f b a=>OD (by omega) hb.bk (Jw (by omega) (.here (.p90 rfl rfl a b))))
theorem QU(c:bk=[])(a:Qt s.sh g j)(k:2<=m j)(e:pc=100):∃g',FB ok n (ck ⟨33,0,0,0,0,0,0⟩ s j d ⟨100,r,bk,h⟩) g' (F1 m j (m j-1)):=by
 subst e;rw[My];exact K6 I hw hj (p:=100) a (fun S f i a b=>Ku (by omega) (.here (.p90 rfl c b a)))
theorem RH(hb:Po ok j ⟨pc,r,bk,h⟩)(a:Qt s.sh g j)(f:24<=m j)(b:pc=46):∃g',FB ok n (ck ⟨17,18,17,0,1,0,0⟩ s j d ⟨46,r,bk,h⟩) g' (F1 m j (m j-1)):=by
 subst b;have B:=I.bd hj;have i:=B.jn;have e:=B.x;have c:=B.e;have D:=I.si.d j hj;have t1:=D.t1;have dl:=D.le;rw[Ro,(Jy hb.G1 (by omega)).2.1,a.1];exact FO I hw rfl (QA (by omega) (show(g.eb j+(qO-1))%qO=g.eb j-1 from K5 (by omega) (by omega)) (.here (.p48 rfl (hb.oD rfl) a (by show g.eb j-1+1=_;omega) (by omega))))
theorem RI(hb:Po ok j ⟨pc,r,bk,h⟩)(c:Qt s.sh g j)(b:r 18+1=g.eb j)(k:22<=m j)(f:pc=48):∃g',FB ok n (ck ⟨18,18,17,0,1,0,0⟩ s j d ⟨48,r,bk,h⟩) g' (F1 m j (m j-1)):=by
 subst f;have B:=I.bd hj;have l:=B.jn;have i:=B.x;have a:r 17=17+3*j:=hb.G1;have e:(r 17+1)%qO=17+3*j+1:=by rw[a,m64 (by omega)]
 rw[Rp,e];exact Ij I hw rfl (Or.inr (Or.inl rfl)) (.here (.p49 rfl (hb.oD rfl) (Fy _ _ _) b c.2 (by omega)))
theorem RJ(hb:Po ok j ⟨pc,r,bk,h⟩)(e:dK s.sh j=r 18)(b:r 18+1=g.eb j)(a:I9 s.sh g j)(t:21<=m j)(l:pc=49):∃g',FB ok n (ck ⟨17,19,17,0,0,0,0⟩ s j d ⟨49,r,bk,h⟩) g' (F1 m j (m j-1)):=by
 subst l;have B:=I.bd hj;have D:=I.si.d j hj;have u:=B.jn;have o:=B.x;have dl:=D.le;have p:=D.eb;rw[Rq,(Jy hb.G1 (by omega)).1];rcases Nat.lt_trichotomy (r 18) (tp s.sh j)with c|c|c
 ·exact FO I hw rfl (Mp (by omega) (if_pos c) (O7 (by omega) Nat.one_ne_zero (.here (.p70 rfl (hb.oD rfl) (by omega) (by show tp s.sh j=_;omega) a (by omega)))))
 ·exact FO I hw rfl (Mp (by omega) (if_neg (show¬r 18<tp s.sh j by omega)) (Mq (by omega) rfl (.here (.p52 rfl ⟨hb.oD rfl,e,by show tp s.sh j<=r 18;omega,Nat.le_refl _,by show r 18<s.sh.nb;omega,D.ce (r 18) (by omega) (by omega),Or.inr ⟨c.symm,b.symm,a⟩⟩ (by omega)))))
 ·obtain⟨g',E,f,i,k⟩:=Lo (ok:=ok) (w':=⟨50,cf r 19 (tp s.sh j),bk,h⟩) I.si I.li hj hw rfl b c a
  exact⟨g',I.next hw rfl E (Mp (by omega) (if_neg (show¬r 18<tp s.sh j by omega)) (Mq (by omega) rfl (.here (.p52 rfl ⟨hb.oD rfl,e,by show tp s.sh j<=r 18;omega,Nat.le_refl _,by show r 18<s.sh.nb;omega,by rw[f];exact D.ce (r 18) (by omega) (by omega),Or.inl ⟨c,i,k⟩⟩ (by omega)))))⟩
theorem RL(a:Wn ok s.sh g j ⟨pc,r,bk,h⟩)(e:18<=m j)(b:pc=52):∃g',FB ok n (ck ⟨17,20,17,0,2,0,0⟩ s j d ⟨52,r,bk,h⟩) g' (F1 m j (m j-1)):=by
 subst b;have B:=I.bd hj;have f:=B.jn;have c:=B.x;rw[Rr,(Jy a.p.G1 (by omega)).2.2];exact FO I hw rfl (.here (.p53 rfl (a.oD rfl rfl rfl) rfl (by omega)))
theorem RM(c:Wn ok s.sh g j ⟨pc,r,bk,h⟩)(a:r 20=ra s.sh j)(o:17<=m j)(f:pc=53):∃g',FB ok n (ck ⟨17,21,20,0,0,0,0⟩ s j d ⟨53,r,bk,h⟩) g' (F1 m j (m j-1)):=by
 subst f;have B:=I.bd hj;have D:=I.si.d j hj;have t:=B.jn;have k:=B.x;have i:=B.a;have l:=B.z;have b:=B.p;have p:=Nat.mod_lt (r 18) b;have e:s.c ((r 20+0)%qO)=s.sh.c (ra s.sh j):=by rw[a,m64 (by omega)];rfl
 rw[Rs,e];exact FO I hw rfl (QE (by omega) (show(s.sh.c (ra s.sh j)+(qO-1))%qO=s.sh.c (ra s.sh j)-1 from K5 (by omega) (by omega)) (QF (by omega) (show r 18&&&(s.sh.c (ra s.sh j)-1)=r 18%s.sh.c (ra s.sh j)from HN _ D.ar.sz) (QG (by omega) (show(r 20+r 18%s.sh.c (ra s.sh j))%qO=ra s.sh j+r 18%s.sh.c (ra s.sh j)by rw[a,m64 (by omega)]) (.here (.p57 rfl (c.oD rfl rfl rfl) rfl (by omega))))))
theorem RN(a:Wn ok s.sh g j ⟨pc,r,bk,h⟩)(k:r 21=ra s.sh j+r 18%s.sh.c (ra s.sh j))(z:13<=m j)(o:pc=57):∃g',FB ok n (ck ⟨17,16,21,0,1,0,0⟩ s j d ⟨57,r,bk,h⟩) g' (F1 m j (m j-1)):=by
 subst o;have B:=I.bd hj;have D:=I.si.d j hj;have C:=B.jn;have u:=B.x;have t:=B.a;have y:=B.z;have i:=B.p;have A:=Nat.mod_lt (r 18) i;have e:(r 21+1)%qO=ra s.sh j+1+r 18%s.sh.c (ra s.sh j):=by rw[k,m64 (by omega)];omega
 have l:s.c (ra s.sh j+1+r 18%s.sh.c (ra s.sh j))=g.it j (r 18):=a.ce;have nb:r 18<s.sh.nb:=a.nb;have E:=I.si.nb;have p:r 19<=tp s.sh j:=a.t;rw[Rt,e,l];rcases a.eb with⟨b,c,f⟩|⟨b,c,f⟩
 ·have b:r 19<r 18:=b
  exact FO I hw rfl (OE (by omega) (if_neg (show¬r 18=r 19 by omega)) (O8 (by omega) rfl (.here (.p60 rfl (a.p.oD rfl) a.b c f rfl (by omega)))))
 ·have b:r 19=r 18:=b
  exact FO I hw rfl (OE (by omega) (if_pos b.symm) (O9 (by omega) Nat.one_ne_zero (QI (by omega) rfl (QJ (by omega) (show(r 19+1)%qO=r 19+1 from m64 (by omega)) (.here (.p64 rfl (a.p.oD rfl) a.b c b rfl rfl p rfl f (by omega)))))))
theorem RO(hb:Po ok j ⟨pc,r,bk,h⟩)(f:dK s.sh j=r 18)(i:g.eb j=r 18)(a:Rc s.sh g j (r 18))(c:r 16=g.it j (r 18))(t:4<=m j)(o:pc=60):∃g',FB ok n (ck ⟨30,16,0,0,0,0,0⟩ s j d ⟨60,r,bk,h⟩) g' (F1 m j (m j-1)):=by
 subst o;have b:h=0:=hb.h0;have l:=Jz I.li a.1 (by rw[a.2.1];intro e;cases e) (fun k=>by rw[a.2.1];intro e;cases e);obtain⟨E,p⟩:=NK (ok:=ok) (w':=⟨61,r,bk,g.it j (r 18)⟩) I.si I.li hj hw b a rfl;rw[Ru,c,if_pos ⟨b,l⟩];exact⟨_,I.next hw rfl E (QH (by omega) hb.bk (.here (.p100 rfl rfl ⟨f.trans i.symm,p⟩ (by omega))))⟩
theorem RP(hb:Po ok j ⟨pc,r,bk,h⟩)(y:dK s.sh j=r 18)(z:g.eb j=r 18+1)(u:r 19=r 18)(o:r 22=r 19)(J:r 23=r 19+1)(L:r 19<=tp s.sh j)(t:r 16=g.it j (r 18))(p:I9 s.sh g j)(K:8<=m j)(F:pc=64):∃g',FB ok n (ck ⟨32,22,17,23,0,0,0⟩ s j d ⟨64,r,bk,h⟩) g' (F1 m j (m j-1)):=by
 subst F;have B:=I.bd hj;have D:=I.si.d j hj;have M:=B.jn;have H:=B.x;have dl:=D.le;have l:h=0:=hb.h0;have b:r 17=17+3*j:=hb.G1;have e:(r 17+0)%qO=17+3*j:=by rw[b,m64 (by omega)];rfl
 rw[Rv,e];by_cases c:tp s.sh j=r 19
 ·have f:s.c (17+3*j)=r 22:=by rw[o];exact c
  have i:=D.dq (tp s.sh j) (Nat.le_refl _) (by omega);have A:r 16=g.it j (tp s.sh j):=by rw[t,c,u]
  have C:=Jz I.li i.1 (by rw[i.2];intro e;cases e) (fun k=>by rw[i.2];intro e;cases e);obtain⟨g',E,a,G⟩:=KQ (ok:=ok) (w':=⟨65,cf r 22 (s.c (17+3*j)),bk,g.it j (tp s.sh j)⟩) I.si I.li hj hj hw l (by omega) rfl;rw[if_pos f,show cf r 22 (s.c (17+3*j)) 16=r 16 from rfl,A,if_pos ⟨l,C⟩,show r 23=tp s.sh j+1 by omega];exact⟨g',I.next hw rfl E (.here (.p65 rfl hb.bk b (by rw[a];exact(congrArg (·+1) ((show cf s.c (17+3*j) (tp s.sh j+1) (17+3*j+1)=s.c (17+3*j+1)from cQ _ _ (by omega)).trans y)).trans z.symm) (by rw[a];show r 23=_;omega) (by rw[a];exact(Fy _ _ _).trans (by omega)) (G p) hb.po (by omega)))⟩
 ·have f:¬s.c (17+3*j)=r 22:=by rw[o];exact c
  rw[if_neg f];exact FO I hw rfl (.here (.p65 rfl hb.bk b (by omega) (by show r 23=_;omega) (by omega) p hb.po (by omega)))
theorem RQ(b:bk=[100])(f:r 17=17+3*j)(p:dK s.sh j+1=g.eb j)(i:r 23=g.eb j)(u:tp s.sh j=g.eb j)(l:I9 s.sh g j)(t:7<=m j)(k:pc=65):∃g',FB ok n (ck ⟨18,23,17,0,1,0,0⟩ s j d ⟨65,r,bk,h⟩) g' (F1 m j (m j-1)):=by
 subst k;have B:=I.bd hj;have y:=B.jn;have o:=B.x;have e:(r 17+1)%qO=17+3*j+1:=by rw[f,m64 (by omega)]
 have a:Qt (s.sh.wr (17+3*j+1) (r 23)) g j:=⟨(Fy _ _ _).trans i,l⟩;rw[Rw,e];by_cases c:r 22=r 19
 ·exact Ij I hw rfl (Or.inr (Or.inl rfl)) (OF (by omega) (if_pos c) (Pa (by omega) Nat.one_ne_zero (OG (by omega) b (.here (.p100 rfl rfl a (by omega))))))
 ·exact Ij I hw rfl (Or.inr (Or.inl rfl)) (OF (by omega) (if_neg c) (O' (by omega) rfl (QK (by omega) (OG (by omega) b (.here (.p100 rfl rfl a (by omega)))))))
theorem RR(hb:Po ok j ⟨pc,r,bk,h⟩)(l:dK s.sh j+1=g.eb j)(b:r 19=g.eb j)(i:I9 s.sh g j)(o:5<=m j)(f:pc=70):∃g',FB ok n (ck ⟨18,19,17,0,1,0,0⟩ s j d ⟨70,r,bk,h⟩) g' (F1 m j (m j-1)):=by
 subst f;have B:=I.bd hj;have p:=B.jn;have k:=B.x;have a:r 17=17+3*j:=hb.G1;have e:(r 17+1)%qO=17+3*j+1:=by rw[a,m64 (by omega)]
 have c:Qt (s.sh.wr (17+3*j+1) (r 19)) g j:=⟨(Fy _ _ _).trans b,i⟩;rw[Rx,e];exact Ij I hw rfl (Or.inr (Or.inl rfl)) (QL (by omega) (QM (by omega) hb.bk (.here (.p100 rfl rfl c (by omega)))))
end
end
end
section
section
variable{ok:Hy}{n j d mj q v:Nat}{s s1:AS}{g g':Gh}{m:Nat->Nat}{w w':AW}{x:aV}{pc h dr:Nat}{r r':Nat->Nat}{bk:List Nat}
theorem QV{S:Sh}{a:Gh}{M:Nat}(c:bk=[98])(b:Qt S a j)(e:5<=M):At n j (F7 ok n S a j) M ⟨88,r,bk,h⟩:=
 OM (by omega) (K0 (by omega) c (K3 (by omega) (.here (.p100 rfl rfl b (by omega)))))
section
variable(I:FB ok n s g m)(hw:s.wk[j]?=some ⟨pc,r,bk,h⟩)(hj:j<n)
include I hw hj
theorem RS(a:Th ok n s.sh g j ⟨pc,r,bk,h⟩ d)(e:20<=m j)(b:pc=73):∃g',FB ok n (ck ⟨17,19,17,0,0,0,0⟩ s j dr ⟨73,r,bk,h⟩) g' (F1 m j (m j-1)):=by
 subst b;have B:=I.bd a.dn;have f:=B.jn;have c:=B.x;rw[Pb,(Jy a.G1 (by omega)).1];exact FO I hw rfl (.here (.p74 d rfl (a.oD rfl) (Nat.le_refl _) (by omega)))
theorem RT(a:Th ok n s.sh g j ⟨pc,r,bk,h⟩ d)(b:r 19<=tp s.sh d)(k:19<=m j)(e:pc=74):∃g',FB ok n (ck ⟨17,18,17,0,1,0,0⟩ s j dr ⟨74,r,bk,h⟩) g' (F1 m j (m j-1)):=by
 subst e;have B:=I.bd a.dn;have l:=B.jn;have i:=B.x;have f:=I.be a.dn;rw[Pc,(Jy a.G1 (by omega)).2.1];by_cases c:r 19<dK s.sh d
 ·exact FO I hw rfl (KZ (by omega) (if_pos c) (Ms (by omega) Nat.one_ne_zero (.here (.p77 d rfl (a.oD rfl) ⟨b,fun _=>by show r 19<_;omega⟩ (by omega)))))
 ·exact FO I hw rfl (KZ (by omega) (if_neg c) (Mr (by omega) rfl (QV a.bk a.q (by omega))))
theorem RU(a:Th ok n s.sh g j ⟨pc,r,bk,h⟩ d)(b:T2 s.sh g ⟨pc,r,bk,h⟩ d)(i:16<=m j)(c:pc=77):∃g',FB ok n (ck ⟨17,20,17,0,2,0,0⟩ s j dr ⟨77,r,bk,h⟩) g' (F1 m j (m j-1)):=by
 subst c;have B:=I.bd a.dn;have D:=I.si.d d a.dn;have k:=B.jn;have f:=B.x;rw[QN,(Jy a.G1 (by omega)).2.2];exact FO I hw rfl (.here (.p78 d rfl (a.oD rfl) (b.oD rfl) ⟨D.ar,D.pb,D.ow,fun e=>D.ce _ (Nat.le_of_eq e) (b.lt e)⟩ (by omega)))
theorem RV(b:Th ok n s.sh g j ⟨pc,r,bk,h⟩ d)(c:T2 s.sh g ⟨pc,r,bk,h⟩ d)(a:HA n s.sh g ⟨pc,r,bk,h⟩ d (r 20))(o:15<=m j)(f:pc=78):∃g',FB ok n (ck ⟨17,21,20,0,0,0,0⟩ s j dr ⟨78,r,bk,h⟩) g' (F1 m j (m j-1)):=by
 subst f;have B:=I.bd b.dn;have t:=B.jn;have k:=B.x;have l:=a.ar.hi;have i:=Hr a.ar;have u:s.sh.c (r 20)<=16:=by rcases a.ar.sz with e|e|e<;>omega
 have p:=Nat.mod_lt (r 19) i;have e:s.c ((r 20+0)%qO)=s.sh.c (r 20):=by rw[m64 (by omega)];rfl
 rw[QO,e];exact FO I hw rfl (OH (by omega) (show(s.sh.c (r 20)+(qO-1))%qO=s.sh.c (r 20)-1 from K5 (by omega) (by omega)) (OI (by omega) (show r 19&&&(s.sh.c (r 20)-1)=r 19%s.sh.c (r 20)from HN _ a.ar.sz) (OJ (by omega) (show(r 20+r 19%s.sh.c (r 20))%qO=r 20+r 19%s.sh.c (r 20)from m64 (by omega)) (.here (.p82 d (r 20) rfl (b.oD rfl) (c.oD rfl) (a.oD rfl) rfl (by omega))))))
theorem RW{a:Nat}(f:Th ok n s.sh g j ⟨pc,r,bk,h⟩ d)(c:T2 s.sh g ⟨pc,r,bk,h⟩ d)(b:HA n s.sh g ⟨pc,r,bk,h⟩ d a)(i:r 21=a+r 19%s.sh.c a)(u:11<=m j)(k:pc=82):∃g',FB ok n (ck ⟨17,16,21,0,1,0,0⟩ s j dr ⟨82,r,bk,h⟩) g' (F1 m j (m j-1)):=by
 subst k;have B:=I.bd f.dn;have z:=B.jn;have o:=B.x;have l:=B.t;have p:=b.ar.hi;have y:=Nat.mod_lt (r 19) (Hr b.ar);have t:r 19<=tp s.sh d:=c.le;have e:(r 21+1)%qO=a+1+r 19%s.sh.c a:=by rw[i,m64 (by omega)];omega
 rw[QP,e];exact FO I hw rfl (OK (by omega) rfl (OL (by omega) (show(r 19+1)%qO=r 19+1 from m64 (by omega)) (.here (.p85 d rfl (f.oD rfl) (c.oD rfl) b.ce rfl rfl (by omega)))))
theorem RX(a:Th ok n s.sh g j ⟨pc,r,bk,h⟩ d)(u:T2 s.sh g ⟨pc,r,bk,h⟩ d)(p:tp s.sh d=r 19->r 16=g.it d (r 19))(l:r 22=r 19)(H:r 23=r 19+1)(K:8<=m j)(C:pc=85):∃g',FB ok n (ck ⟨32,22,17,23,0,0,0⟩ s j dr ⟨85,r,bk,h⟩) g' (F1 m j (m j-1)):=by
 subst C;have B:=I.bd a.dn;have D:=I.si.d d a.dn;have L:=B.jn;have G:=B.x;have i:h=0:=a.h0;have t:r 17=17+3*d:=a.G1;have e:(r 17+0)%qO=17+3*d:=by rw[t,m64 (by omega)];rfl
 rw[QQ,e];by_cases c:tp s.sh d=r 19
 ·have b:s.c (17+3*d)=r 22:=by rw[l];exact c
  have J:r 19<g.eb d:=u.lt c;have f:=D.dq (tp s.sh d) (Nat.le_refl _) (by omega);have z:r 16=g.it d (tp s.sh d):=by rw[p c,c]
  have A:=Jz I.li f.1 (by rw[f.2];intro e;cases e) (fun k=>by rw[f.2];intro e;cases e);obtain⟨g',E,o,F⟩:=KQ (ok:=ok) (w':=⟨86,cf r 22 (s.c (17+3*d)),bk,g.it d (tp s.sh d)⟩) I.si I.li hj a.dn hw i (by omega) rfl;have y:Qt (s.sh.wr (17+3*d) (tp s.sh d+1)) g' j:=⟨by rw[o];exact(cQ _ _ (by omega)).trans a.q.1,F a.q.2⟩;rw[if_pos b,show cf r 22 (s.c (17+3*d)) 16=r 16 from rfl,z,if_pos ⟨i,A⟩,show r 23=tp s.sh d+1 by omega];exact⟨g',I.next hw rfl E (Mt (by omega) (if_pos (show s.c (17+3*d)=r 19 from c)) (Mu (by omega) Nat.one_ne_zero (K0 (by omega) a.bk (K3 (by omega) (.here (.p100 rfl rfl y (by omega)))))))⟩
 ·have b:¬s.c (17+3*d)=r 22:=by rw[l];exact c
  rw[if_neg b];exact FO I hw rfl (Mt (by omega) (if_neg (show¬s.c (17+3*d)=r 19 from c)) (Pd (by omega) rfl (QV a.bk a.q (by omega))))
theorem RY(f:bk=[])(c:h=0)(e:Qt s.sh g j)(i:ok.ok j dr)(l:pc=90):∃g',FB ok n (ck ⟨42,0,0,0,0,0,0⟩ s j dr ⟨90,r,bk,h⟩) g' (F1 m j 399):=by
 subst l;rw[QR];have o:dr>>>(2&&&63)=dr>>>2:=rfl;by_cases a:dr&&&3=0
 ·exact FO I hw rfl (JU (by omega) (show dr&&&3=0 from a) (JV (by omega) rfl (Mv (by omega) rfl (Mz (by omega) (.here (.p103 rfl f c rfl e ⟨dr,i,a⟩ (by omega)))))))
 ·by_cases b:dr&&&3=1
  ·exact FO I hw rfl (JU (by omega) (show dr&&&3=1 from b) (JV (by omega) rfl (Kt (by omega) Nat.one_ne_zero (Mw (by omega) (if_pos (show(1:Nat)=1 from rfl)) (Pe (by omega) Nat.one_ne_zero (QS (by omega) f (Qz (by omega) (.here (.p46 rfl ⟨c,rfl,rfl,dr,i,b⟩ e (by omega))))))))))
  ·have k:(dr>>>2)%n<n:=Nat.mod_lt _ I.si.n0
   exact FO I hw rfl (JU (by omega) (V:=dr&&&3) rfl (JV (by omega) rfl (Kt (by omega) a (Mw (by omega) (if_neg (show¬dr&&&3=1 from b)) (Mx (by omega) rfl (ON (by omega) (V:=17+3*((dr>>>2)%n)) rfl (OO (by omega) f (.here (.p73 ((dr>>>2)%n) rfl ⟨k,e,c,rfl,rfl,dr,i,rfl⟩ (by omega))))))))))
theorem QW(f:bk=[])(e:h=0)(a:Qt s.sh g j)(i:∃dr,ok.ok j dr/\dr&&&3=0)(t:150<=m j)(l:pc=103):∃g',FB ok n (ck ⟨48,16,4,4,0,1,0⟩ s j dr ⟨103,r,bk,h⟩) g' (F1 m j (m j-1)):=by
 subst l;have B:=I.bd hj;have D:=I.si.d j hj;have y:=B.jn;have p:=D.eb;rw[OP];split
 ·rename_i c
  obtain⟨g',E,b,o⟩:=NO (ok:=ok) (w':=⟨104,cf r 16 (64+s.nb),bk,64+s.nb⟩) I.si I.li hj hw e rfl c.1 c.2 i;let S:Sh:={s.sh with hl:=s.hl+1,nb:=s.nb+1,c:=cf s.c s.hl 0}
  have u:s.sh.hl=s.hl:=rfl;have k:Qt S g' j:=⟨by rw[b];exact(cQ _ _ (by omega)).trans a.1,o a.2⟩;refine⟨g',I.next hw rfl E (K4 (by omega) (show 64+s.nb≠0 by omega) (MA (by omega) f (Qn (by omega) (Oh (by omega) (show 64+s.nb≠0 by omega) (Qo (by omega) (.here (.p3 rfl ⟨k,?_,?_,rfl,rfl,rfl,i⟩ (by omega))))))))⟩
  ·rw[b];show _<s.sh.nb+1;omega
  ·show 64+s.nb≠0;omega
 ·exact FO I hw rfl (NQ (by omega) rfl (.here (.p90 rfl f e a)))
end
def Sf(x:aV)(a:AS)(w:AW):Prop:=
 (x.op=9->dH x w.r<64)/\(x.op=15->w.back.length<8)/\(x.op=16->w.back≠[])/\
 ((x.op=17∨x.op=18∨x.op=20∨x.op=31∨x.op=32)->GK x w.r<a.hl)/\(x.op=33->w.hand≠0->a.ring.length<64)/\(x.op=48->w.hand=0/\cX x w.r=0)
end
end
section
theorem Jf:∀(k:Nat) (l:List Nat),l.Nodup->(∀x∈l,x<k)->l.length<=k
 |0,[],_,_=>Nat.le_refl _
 |0,x::l,_,h=>absurd (h x (by simp)) (by omega)
 |k+1,l,c,h=>by
  have e:=Jf k (l.erase k) (c.erase k) (fun x b=>by
   have b:=(c.mem_erase_iff).1 b;have:=h x b.2;have:=b.1;omega)
  have:=List.length_erase (l:=l) (a:=k);split at this<;>omega
section
variable{ok:Hy}{n j d mj q v:Nat}{s s1:AS}{g g':Gh}{m:Nat->Nat}{w w':AW}{x:aV}{pc h dr:Nat}{r r':Nat->Nat}{bk:List Nat}
theorem Jg(I:FB ok n s g m)(hw:s.wk[j]?=some w)(o:w.hand≠0):s.ring.length<64:=by
 obtain⟨k,t⟩:=I.li.hd j w hw o;have y:(w.hand::s.ring).Nodup:=List.nodup_cons.2 ⟨fun h=>by have:=((I.li.rg _).1 h).2;rw[t]at this;exact(by cases this),I.li.rn⟩;have e:((w.hand::s.ring).map (·-64)).Nodup:=by
  have p:∀x∈w.hand::s.ring,val s.sh x:=fun x c=>by
   rcases List.mem_cons.1 c with rfl|c
   ·exact k
   ·exact((I.li.rg x).1 c).1
  have gen:∀l:List Nat,l.Nodup->(∀x∈l,64<=x)->(l.map (·-64)).Nodup:=fun l=>by
   induction l with
   |nil=>intro _ _;simp
   |cons a l ih=>
    intro f i;have f:=List.nodup_cons.1 f;rw[List.map_cons,List.nodup_cons];refine⟨fun u=> ?_,ih f.2 (fun x c=>i x (by simp[c]))⟩;obtain⟨b,hb,e⟩:=List.mem_map.1 u;have a1:=i a (by simp);have a2:=i b (by simp[hb]);have:a=b:=(by omega);exact f.1 (this▸hb)
  exact gen _ y (fun x c=>(p x c).1)
 have:=Jf s.sh.nb _ e (fun x c=>by
  obtain⟨b,hb,rfl⟩:=List.mem_map.1 c;have hb:val s.sh b:=by
   rcases List.mem_cons.1 hb with rfl|hb
   ·exact k
   ·exact((I.li.rg b).1 hb).1
  have:=hb.1;have:=hb.2;omega)
 rw[List.length_map,List.length_cons]at this;have:=I.si.nb;omega
theorem FH(b:x.op=17∨x.op=18∨x.op=20∨x.op=31∨x.op=32)(a:GK x w.r<s.hl):Sf x s w:=⟨fun e=>by omega,fun e=>by omega,fun e=>by omega,fun _=>a,fun e=>by omega,fun e=>by omega⟩
theorem MC(a:x.op=42∨x.op=43∨x.op=30):Sf x s w:=⟨fun e=>by omega,fun e=>by omega,fun e=>by omega,fun e=>by omega,fun e=>by omega,fun e=>by omega⟩
theorem JW(I:FB ok n s g m)(hw:s.wk[j]?=some w)(Q:ok.ok j dr):∃x,dF[w.pc]?=some x/\Sf x s w/\∃g' mj,FB ok n (ck x s j dr w) g' (F1 m j mj)/\(w.pc=90/\mj=399∨mj<m j):=by
 have hj:j<n:=by rw[<-I.nw];exact If hw
 have J:=I.wk j w hw;generalize O:m j=M at J;cases J with
 | @loc _ m' _ x K G H T L=>
   refine⟨x,K,?_,?_⟩
   ·unfold JT at G
    simp only[Bool.or_eq_true,decide_eq_true_eq]at G;exact⟨H.1,H.2.1,H.2.2,fun e=>by omega,fun e=>by omega,fun e=>by omega⟩
   ·rw[Je G,I.nw]
    have P:(F0 x n j w).hand=w.hand:=by
     unfold F0;dsimp only
     repeat' split
     all_goals rfl
    obtain⟨g',N⟩:=FO I hw P L;exact⟨g',m',N,Or.inr (by omega)⟩
 |here b=>
  subst O;have B:=I.bd hj;have u:=B.jn;have S:=B.x;have R:=B.a;have E:=B.p;have D:=I.si.d j hj;obtain⟨pc,r,bk,h⟩:=w;have o:∀{d k:Nat},r 17=17+3*d->17+3*d+2<s.sh.hl->k<=2->(r 17+k)%qO<s.hl:=fun {d k} e h U=>by
   rw[e,m64 (by omega)];show _<s.sh.hl
   omega
  have A:∀{d},d<n->17+3*d+2<s.sh.hl:=fun {d} h=>(I.bd h).jn
  cases b with
  |p90 a b c d=>obtain rfl:pc=90:=a;exact⟨_,rfl,MC (Or.inl rfl),(RY I hw hj b c d Q rfl).imp fun g' h=>⟨_,h,Or.inl ⟨rfl,rfl⟩⟩⟩
  |p103 a b c d f i l=>obtain rfl:pc=103:=a;exact⟨_,rfl,⟨fun e=>absurd e (by decide),fun e=>absurd e (by decide),fun e=>absurd e (by decide),fun e=>absurd e (by decide),fun e=>absurd e (by decide),fun _=>⟨c,d⟩⟩,(QW I hw hj b c f i l rfl).imp fun g' h=>⟨_,h,Or.inr (by omega)⟩⟩
  |p100 a b c d=>obtain rfl:pc=100:=a;exact⟨_,rfl,⟨fun e=>absurd e (by decide),fun e=>absurd e (by decide),fun e=>absurd e (by decide),fun e=>absurd e (by decide),fun _ F=>Jg I hw F,fun e=>absurd e (by decide)⟩,(QU I hw hj b c d rfl).imp fun g' h=>⟨_,h,Or.inr (by omega)⟩⟩
  |p3 a b c=>obtain rfl:pc=3:=a;exact⟨_,rfl,FH (by decide) (o b.G1 u (by decide)),(Sb I hw hj b c rfl).imp fun g' h=>⟨_,h,Or.inr (by omega)⟩⟩
  |p4 a b c d=>obtain rfl:pc=4:=a;exact⟨_,rfl,FH (by decide) (o b.G1 u (by decide)),(Sc I hw hj b c d rfl).imp fun g' h=>⟨_,h,Or.inr (by omega)⟩⟩
  |p5 a b c d f i=>obtain rfl:pc=5:=a;exact⟨_,rfl,FH (by decide) (o b.G1 u (by decide)),(Sd I hw hj b c d f i rfl).imp fun g' h=>⟨_,h,Or.inr (by omega)⟩⟩
  |p6 a b c d f i l=>obtain rfl:pc=6:=a;exact⟨_,rfl,FH (by decide) (show(r 20+0)%qO<s.sh.hl by rw[show r 20=_ from i,m64 (by omega)];omega),(Se I hw hj b c d f i l rfl).imp fun g' h=>⟨_,h,Or.inr (by omega)⟩⟩
  |p13 a b c d f i=>
   have C:=Nat.mod_lt (g.eb j) E;obtain rfl:pc=13:=a;exact⟨_,rfl,FH (by decide) (show(r 21+1)%qO<s.sh.hl by rw[show r 21=_ from f,m64 (by omega)];omega),(Ry I hw hj b c d f i rfl).imp fun g' h=>⟨_,h,Or.inr (by omega)⟩⟩
  |p15 a b c d f i=>obtain rfl:pc=15:=a;exact⟨_,rfl,FH (by decide) (o b.G1 u (by decide)),(Rz I hw hj b c d f i rfl).imp fun g' h=>⟨_,h,Or.inr (by omega)⟩⟩
  |p17 a b c d f i=>obtain rfl:pc=17:=a;exact⟨_,rfl,FH (by decide) (show(0:Nat)<s.sh.hl by omega),(RA I hw hj b c d i rfl).imp fun g' h=>⟨_,h,Or.inr (by omega)⟩⟩
  |p24 a b c d f i l y p q t=>obtain rfl:pc=24:=a;exact⟨_,rfl,MC (Or.inr (Or.inl rfl)),(RB I hw hj b c d f i l y p q t rfl).imp fun g' h=>⟨_,h,Or.inr (by omega)⟩⟩
  |p26 a b c d=>
   have z:=b.na.hi;obtain rfl:pc=26:=a;exact⟨_,rfl,FH (by decide) (show(r 25+0)%qO<s.sh.hl by dsimp only at z;rw[m64 (by omega)];omega),(RC I hw hj b c d rfl).imp fun g' h=>⟨_,h,Or.inr (by omega)⟩⟩
  |p32 a b c d f i=>
   have C:=Nat.mod_lt (r 19) E;obtain rfl:pc=32:=a;exact⟨_,rfl,FH (by decide) (show(r 22+1)%qO<s.sh.hl by rw[show r 22=_ from f];dsimp only;rw[m64 (by omega)];omega),(RD I hw hj b c d f i rfl).imp fun g' h=>⟨_,h,Or.inr (by omega)⟩⟩
  |p36 a b c d f i l=>
   have C:=Nat.mod_lt (r 19) (show 0<2*s.sh.c (ra s.sh j)by omega);have z:=b.na.hi;obtain rfl:pc=36:=a;exact⟨_,rfl,FH (by decide) (show(r 22+1)%qO<s.sh.hl by dsimp only at z;rw[show r 22=_ from f];dsimp only;rw[m64 (by omega)];omega),(RE I hw hj b c d f i l rfl).imp fun g' h=>⟨_,h,Or.inr (by omega)⟩⟩
  |p39 a b c d f=>obtain rfl:pc=39:=a;exact⟨_,rfl,FH (by decide) (o b.h.G1 u (by decide)),(RF I hw hj b c d f rfl).imp fun g' h=>⟨_,h,Or.inr (by omega)⟩⟩
  |p43 a b c=>obtain rfl:pc=43:=a;exact⟨_,rfl,⟨fun e=>absurd e (by decide),fun e=>absurd e (by decide),fun e=>absurd e (by decide),fun e=>absurd e (by decide),fun _ F=>Jg I hw F,fun e=>absurd e (by decide)⟩,(RG I hw hj b c rfl).imp fun g' h=>⟨_,h,Or.inr (by omega)⟩⟩
  |p46 a b c d=>obtain rfl:pc=46:=a;exact⟨_,rfl,FH (by decide) (o b.G1 u (by decide)),(RH I hw hj b c d rfl).imp fun g' h=>⟨_,h,Or.inr (by omega)⟩⟩
  |p48 a b c d f=>obtain rfl:pc=48:=a;exact⟨_,rfl,FH (by decide) (o b.G1 u (by decide)),(RI I hw hj b c d f rfl).imp fun g' h=>⟨_,h,Or.inr (by omega)⟩⟩
  |p49 a b c d f i=>obtain rfl:pc=49:=a;exact⟨_,rfl,FH (by decide) (o b.G1 u (by decide)),(RJ I hw hj b c d f i rfl).imp fun g' h=>⟨_,h,Or.inr (by omega)⟩⟩
  |p52 a b c=>obtain rfl:pc=52:=a;exact⟨_,rfl,FH (by decide) (o b.p.G1 u (by decide)),(RL I hw hj b c rfl).imp fun g' h=>⟨_,h,Or.inr (by omega)⟩⟩
  |p53 a b c d=>obtain rfl:pc=53:=a;exact⟨_,rfl,FH (by decide) (show(r 20+0)%qO<s.sh.hl by rw[show r 20=_ from c,m64 (by omega)];omega),(RM I hw hj b c d rfl).imp fun g' h=>⟨_,h,Or.inr (by omega)⟩⟩
  |p57 a b c d=>
   have C:=Nat.mod_lt (r 18) E;obtain rfl:pc=57:=a;exact⟨_,rfl,FH (by decide) (show(r 21+1)%qO<s.sh.hl by rw[show r 21=_ from c];dsimp only;rw[m64 (by omega)];omega),(RN I hw hj b c d rfl).imp fun g' h=>⟨_,h,Or.inr (by omega)⟩⟩
  |p60 a b c d f i l=>obtain rfl:pc=60:=a;exact⟨_,rfl,MC (Or.inr (Or.inr rfl)),(RO I hw hj b c d f i l rfl).imp fun g' h=>⟨_,h,Or.inr (by omega)⟩⟩
  |p64 a b c d f i l y p q t=>obtain rfl:pc=64:=a;exact⟨_,rfl,FH (by decide) (o b.G1 u (by decide)),(RP I hw hj b c d f i l y p q t rfl).imp fun g' h=>⟨_,h,Or.inr (by omega)⟩⟩
  |p65 a b c d f i l y p=>obtain rfl:pc=65:=a;exact⟨_,rfl,FH (by decide) (o c u (by decide)),(RQ I hw hj b c d f i l p rfl).imp fun g' h=>⟨_,h,Or.inr (by omega)⟩⟩
  |p70 a b c d f i=>obtain rfl:pc=70:=a;exact⟨_,rfl,FH (by decide) (o b.G1 u (by decide)),(RR I hw hj b c d f i rfl).imp fun g' h=>⟨_,h,Or.inr (by omega)⟩⟩
  |p73 d a b c=>obtain rfl:pc=73:=a;exact⟨_,rfl,FH (by decide) (o b.G1 (A b.dn) (by decide)),(RS I hw hj b c rfl).imp fun g' h=>⟨_,h,Or.inr (by omega)⟩⟩
  |p74 d a b c i=>obtain rfl:pc=74:=a;exact⟨_,rfl,FH (by decide) (o b.G1 (A b.dn) (by decide)),(RT I hw hj b c i rfl).imp fun g' h=>⟨_,h,Or.inr (by omega)⟩⟩
  |p77 d a b c i=>obtain rfl:pc=77:=a;exact⟨_,rfl,FH (by decide) (o b.G1 (A b.dn) (by decide)),(RU I hw hj b c i rfl).imp fun g' h=>⟨_,h,Or.inr (by omega)⟩⟩
  |p78 d a b c i l=>
   have z:=i.ar.hi;obtain rfl:pc=78:=a;exact⟨_,rfl,FH (by decide) (show(r 20+0)%qO<s.sh.hl by dsimp only at z;rw[m64 (by omega)];omega),(RV I hw hj b c i l rfl).imp fun g' h=>⟨_,h,Or.inr (by omega)⟩⟩
  |p82 d x a b c i l y=>
   have C:=Nat.mod_lt (r 19) (Hr i.ar);have z:=i.ar.hi;obtain rfl:pc=82:=a;exact⟨_,rfl,FH (by decide) (show(r 21+1)%qO<s.sh.hl by rw[show r 21=_ from l];dsimp only;rw[m64 (by omega)];omega),(RW I hw hj b c i l y rfl).imp fun g' h=>⟨_,h,Or.inr (by omega)⟩⟩
  |p85 d a b c i l y p=>obtain rfl:pc=85:=a;exact⟨_,rfl,FH (by decide) (o b.G1 (A b.dn) (by decide)),(RX I hw hj b c i l y p rfl).imp fun g' h=>⟨_,h,Or.inr (by omega)⟩⟩
end
end
section
theorem Iw(n:Nat):∀k d,k<=n->d<k->HS n k (17+3*d)=1/\HS n k (17+3*d+1)=1/\HS n k (17+3*d+2)=17+3*n+5*d/\HS n k (17+3*n+5*d)=4
 |0,d,_,h=>absurd h (by omega)
 |k+1,d,i,h=>by
  unfold HS;by_cases c:d=k
  ·subst c
   refine⟨?_,?_,?_,?_⟩
   ·rw[cQ _ _ (by omega),cQ _ _ (by omega),cQ _ _ (by omega),Fy]
   ·rw[cQ _ _ (by omega),cQ _ _ (by omega),Fy]
   ·rw[cQ _ _ (by omega),Fy]
   ·rw[Fy]
  ·obtain⟨a,b,e,f⟩:=Iw n k d (by omega) (by omega)
   refine⟨?_,?_,?_,?_⟩
   ·rw[cQ _ _ (by omega),cQ _ _ (by omega),cQ _ _ (by omega),cQ _ _ (by omega)];exact a
   ·rw[cQ _ _ (by omega),cQ _ _ (by omega),cQ _ _ (by omega),cQ _ _ (by omega)];exact b
   ·rw[cQ _ _ (by omega),cQ _ _ (by omega),cQ _ _ (by omega),cQ _ _ (by omega)];exact e
   ·rw[cQ _ _ (by omega),cQ _ _ (by omega),cQ _ _ (by omega),cQ _ _ (by omega)];exact f
def F9(n tt:Nat):AS:={Kr n tt 90 0 with hl:=17+8*n+0+1,nb:=1,ring:=[64]}
def MD(n:Nat):Gh:=⟨fun _=>1,fun _ _=>0,fun _=> .ring,fun q=>17+3*n+5*((q-(17+3*n))/5),fun a=>(a-(17+3*n))/5,fun _=>true⟩
theorem Lr(ok:Hy){n tt:Nat}(t:0<n)(f:n<=64)(z:17+8*n+1<=tt)(y:tt<=65536)(hb:ok.nb=1):FB ok n (F9 n tt) (MD n) (fun _=>0):=by
 have T:∀d,d<n->tp (F9 n tt).sh d=1/\dK (F9 n tt).sh d=1/\ra (F9 n tt).sh d=17+3*n+5*d/\(F9 n tt).sh.c (17+3*n+5*d)=4:=fun d o=>Iw n n d (Nat.le_refl _) o
 have V:∀id,val (F9 n tt).sh id↔id=64:=fun id=>by
  show 64<=id/\id<64+1↔_
  omega
 have W:∀k w,(F9 n tt).wk[k]?=some w->k<n/\w=⟨90,fun _=>0,[],0⟩:=fun k w h=>by
  have h:(List.replicate n (⟨90,fun _=>0,[],0⟩:AW))[k]?=some w:=h;rw[List.getElem?_replicate]at h;split at h
  ·exact⟨by assumption,(Option.some.inj h).symm⟩
  ·cases h
 refine⟨List.length_replicate,⟨t,f,by show 1<=64;omega,z,y,by show _<=17+8*n+0+1;omega,fun d o _=>(T d o).1,fun _=>hb.symm,fun d o=> ?_⟩,⟨⟨[],rfl⟩,by show [64].Nodup;simp,fun id=> ?_,fun id d i _ e=>(by cases e),fun k w h p=> ?_,fun id k _ e=>(by cases e),fun id k _ e=>(by cases e)⟩,fun k w h=> ?_⟩
 ·obtain⟨a,b,c,e⟩:=T d o
  refine⟨by rw[a];exact Nat.le_refl _,by rw[a];exact Nat.le_refl _,by rw[a,c,e];show 1<=1+4;omega,by show 1<=1;omega,⟨by rw[c];omega,?_,by rw[c,e];exact Or.inl rfl,fun q f l=> ?_⟩,rfl,?_,fun i f l=> ?_,fun i f l=> ?_⟩
  ·rw[c,e];show _<17+8*n+0+1;omega
  ·rw[c]at f⊢
   rw[c,e]at l;show 17+3*n+5*((q-(17+3*n))/5)=_
   omega
  ·rw[c];show(17+3*n+5*d-(17+3*n))/5=d;omega
  ·rw[a]at f;have l:i<1:=l;omega
  ·rw[a]at f;have l:i<1:=l;omega
 ·rw[V]
  show id∈[64]↔_
  simp[MD]
 ·rw[(W k w h).2]at p;exact absurd rfl p
 ·obtain⟨u,rfl⟩:=W k w h
  obtain⟨a,b,c,e⟩:=T k u;exact .here (.p90 rfl rfl rfl ⟨b,fun id _ e=>by cases e⟩)
def aaq(s:AS)(j d:Nat):AS:=
 match s.wk[j]? with
 |none=>s
 |some w=>match dF[w.pc]? with
  |none=>s
  |some x=>ck x s j d w
def Ia(s:AS)(j:Nat):Nat:=match s.wk[j]? with|none=>0|some w=>w.pc
section
variable{ok:Hy}{n j d mj q v:Nat}{s s1:AS}{g g':Gh}{m:Nat->Nat}{w w':AW}{x:aV}{pc h dr:Nat}{r r':Nat->Nat}{bk:List Nat}
theorem HV(hw:s.wk[j]?=some w)(a:dF[w.pc]?=some x):aaq s j d=ck x s j d w:=by
 unfold aaq;rw[hw];dsimp only;rw[a]
theorem JA(I:FB ok n s g m)(hj:j<n)(f:ok.ok j dr):∃g' mj,FB ok n (aaq s j dr) g' (F1 m j mj)/\(Ia s j=90/\mj=399∨mj<m j):=by
 have e:j<s.wk.length:=by rw[I.nw];exact hj
 have hw:s.wk[j]?=some (s.wk[j]):=List.getElem?_eq_getElem e;obtain⟨x,a,_,g',mj,b,c⟩:=JW I hw f;refine⟨g',mj,by rw[HV hw a];exact b,?_⟩;unfold Ia;rw[hw];exact c
theorem quiet(I:FB ok n s g m)(hw:s.wk[j]?=some w)(k:w.pc=90):w.back=[]/\w.hand=0/\Qt s.sh g j:=by
 have e:=I.wk j w hw;generalize m j=M at e;cases e with
 |loc f i=>
  rw[k]at f;obtain rfl:=Option.some.inj f;cases i
 |here b=>
  cases b with
  |p90 a b c d=>exact⟨b,c,d⟩
  |_=>omega
def cont(s:Sh)(d:Nat):List Nat:=(List.range (dK s d-tp s d)).map fun i=>s.c (ra s d+1+(tp s d+i)%s.c (ra s d))
theorem JX(I:FB ok n s g m)(hj:j<n)(a:Qt s.sh g j)(id:Nat):id∈cont s.sh j↔∃i,val s.sh id/\g.lc id=.deq j i:=by
 have D:=I.si.d j hj;unfold cont;rw[List.mem_map]
 constructor
 ·rintro⟨i,k,rfl⟩
  rw[List.mem_range,a.1]at k;rw[D.ce _ (by omega) (by omega)];exact⟨_,D.dq _ (by omega) (by omega)⟩
 ·rintro⟨i,l,e⟩
  obtain⟨_,b,c,f⟩:=I.li.dq id j i l e;refine⟨i-tp s.sh j,by rw[List.mem_range,a.1];omega,?_⟩;rw[show tp s.sh j+(i-tp s.sh j)=i by omega,D.ce _ b c,f]
theorem IH(I:FB ok n s g m)(hj:j<n)(l:Qt s.sh g j):(cont s.sh j).Nodup:=by
 have D:=I.si.d j hj;have f:∀i,i<dK s.sh j-tp s.sh j->g.lc (s.sh.c (ra s.sh j+1+(tp s.sh j+i)%s.sh.c (ra s.sh j)))=.deq j (tp s.sh j+i):=fun i c=>by
  rw[l.1]at c;rw[D.ce _ (by omega) (by omega)];exact(D.dq _ (by omega) (by omega)).2
 have gen:∀k,k<=dK s.sh j-tp s.sh j->((List.range k).map fun i=>s.sh.c (ra s.sh j+1+(tp s.sh j+i)%s.sh.c (ra s.sh j))).Nodup:=fun k=>by
  induction k with
  |zero=>intro _;simp
  |succ k ih=>
   intro p;rw[List.range_succ,List.map_append,List.nodup_append];refine⟨ih (by omega),by simp,fun a o b hb e=> ?_⟩;obtain⟨i,c,rfl⟩:=List.mem_map.1 o;rw[List.mem_range]at c;simp only[List.map_cons,List.map_nil,List.mem_singleton]at hb;subst hb;have a1:=f i (by omega);have a2:=f k (by omega);rw[e,a2]at a1;injection a1 with _ a1
   omega
 exact gen _ (Nat.le_refl _)
end
end
section
inductive GH(j d:Nat):Nat->AS->AS->Prop where
 |nil {K s}:GH j d K s s
 |cons {K s s'}:Ia s j≠90->GH j d K (aaq s j d) s'->GH j d (K+1) s s'
section
variable{ok:Hy}{n j d K M q v:Nat}{s s1 s2 s':AS}{g g':Gh}{m:Nat->Nat}{w w1 w' wf:AW}{x:aV}{pc h dr:Nat}{r r':Nat->Nat}{bk:List Nat}
theorem GH.mono(h:GH j d K s s'){L:Nat}(e:K<=L):GH j d L s s':=by
 induction h generalizing L with
 |nil=>exact .nil
 |cons a b ih=>
  obtain⟨L,rfl⟩:∃c,L=c+1:=⟨L-1,by omega⟩;exact .cons a (ih (by omega))
theorem GH.trans{L:Nat}(h:GH j d K s s1)(c:GH j d L s1 s'):GH j d (K+L) s s':=by
 induction h with
 |nil=>exact c.mono (by omega)
 |cons a b ih=>
  rename_i K' _ _;exact GH.mono (.cons a (ih c)) (by omega)
theorem G2:(s.put j w).put j w'=s.put j w':=by
 unfold AS.put;dsimp only;rw[List.set_set]
theorem ME(c:j<s.wk.length):(s.put j w).wk[j]?=some w:=HU c
theorem HO(c:j<s.wk.length):Ia (s.put j w) j=w.pc:=by
 unfold Ia;rw[ME c]
theorem Kv(c:j<s.wk.length)(e:dF[w.pc]?=some x):aaq (s.put j w) j d=ck x (s.put j w) j d w:=HV (ME c) e
theorem G3(i:j<s.wk.length)(l:s.wk.length=n)(k:At n j (fun _ w=>w=wf) M w):GH j d M (s.put j w) (s.put j wf):=by
 induction k with
 |here p=>rw[p];exact .nil
 | @loc u y w x c f A B _ ih=>
   have o:Ia (s.put j w) j≠90:=by
    rw[HO i];intro e;rw[e]at c;obtain rfl:=Option.some.inj c;cases f
   have e:aaq (s.put j w) j d=s.put j (F0 x n j w):=by
    rw[Kv i c,Je f,G2];show s.put j (F0 x (s.wk.set j w).length j w)=_
    rw[List.length_set,l]
   exact GH.mono (.cons o (by rw[e];exact ih)) (show y+1<=u by omega)
theorem Gf{w:AW}(e:ck x (s.put j w) j d w=s1.put j w1)(c:j<s.wk.length)(k:s.wk.length=n)(hw:s1.wk=s.wk)(l:dF[w.pc]?=some x)(i:w.pc≠90)(f:At n j (fun _ w=>w=wf) M w1)(S:GH j d K (s1.put j wf) s'):GH j d (K+M+1) (s.put j w) s':=by
 refine .cons (by rw[HO c];exact i) ?_;rw[Kv c l,e];exact((G3 (by rw[hw];exact c) (by rw[hw];exact k) f).trans S).mono (by omega)
theorem JY{w:AW}(e:ck x (s.put j w) j d w=s1.put j w1)(c:j<s.wk.length)(hw:s1.wk=s.wk)(i:dF[w.pc]?=some x)(f:w.pc≠90)(S:GH j d K (s1.put j w1) s'):GH j d (K+1) (s.put j w) s':=by
 refine .cons (by rw[HO c];exact f) ?_;rw[Kv c i,e];exact S
theorem II(C:Nat->Nat):({s.put j w with c:=C}:AS).put j w'=({s with c:=C}:AS).put j w':=by
 unfold AS.put;dsimp only;rw[List.set_set]
end
structure Fd(n:Nat)(s:AS)(d t b a z:Nat):Prop where
 ct:s.c (17+3*d)=t
 cb:s.c (17+3*d+1)=b
 ca:s.c (17+3*d+2)=a
 cz:s.c a=z
 x:17+3*d+2<a
 l:a+z<s.hl
 m:s.hl<=65536
 tb:t<=b
 b1:b<=64
 t1:1<=t
 zs:z=4∨z=8∨z=16
 bz:b<=t+z
section
variable{n j d K M q v t b a z:Nat}{s s1 s2 s':AS}{w w1 w' wf:AW}{x:aV}{pc h dr:Nat}{r r':Nat->Nat}{bk:List Nat}
theorem IJ{k:Nat}(c:r 17=17+3*d)(f:17+3*d+2<65536)(e:k<=2):(r 17+k)%qO=17+3*d+k:=by rw[c,m64 (by omega)]
theorem Ls(F:Fd n s j t b a z)(k:j<s.wk.length)(B:s.wk.length=n)(H:r 4=0)(C:s.hl+1<=s.Gx/\s.nb<64):
 ∃i:Nat->Nat,i 16=64+s.nb/\i 17=17+3*j/\i 18=b/\i 19=t/\i 20=a/\i 21=z/\GH j d 10 (s.put j ⟨103,r,[],0⟩) (({s with hl:=s.hl+1,nb:=s.nb+1,c:=cf s.c s.hl 0}:AS).put j ⟨7,i,[106],64+s.nb⟩):=by
 have G:=F.x;have D:=F.l;have E:=F.m;let e:AS:={s with hl:=s.hl+1,nb:=s.nb+1,c:=cf s.c s.hl 0}
 have l:∀q,q<s.hl->e.c q=s.c q:=fun q I=>cQ _ _ (by omega)
 have o:ck ⟨48,16,4,4,0,1,0⟩ (s.put j ⟨103,r,[],0⟩) j d ⟨103,r,[],0⟩=e.put j ⟨104,cf r 16 (64+s.nb),[],64+s.nb⟩:=by
  rw[OP,show(s.put j ⟨103,r,[],0⟩).hl=s.hl from rfl,show(s.put j ⟨103,r,[],0⟩).Gx=s.Gx from rfl,show(s.put j ⟨103,r,[],0⟩).nb=s.nb from rfl,if_pos C];unfold AS.put;dsimp only;rw[List.set_set]
 let f:=cf (cf (cf r 16 (64+s.nb)) 16 (64+s.nb)) 17 (17+3*j)
 have p:ck ⟨17,18,17,0,1,0,0⟩ (e.put j ⟨3,f,[106],64+s.nb⟩) j d ⟨3,f,[106],64+s.nb⟩=e.put j ⟨4,cf f 18 b,[106],64+s.nb⟩:=by
  rw[R1,G2,IJ rfl (by omega) (by decide)];show e.put j ⟨4,cf f 18 (e.c _),_,_⟩=_
  rw[l _ (by omega),F.cb]
 have u:ck ⟨17,19,17,0,0,0,0⟩ (e.put j ⟨4,cf f 18 b,[106],64+s.nb⟩) j d ⟨4,cf f 18 b,[106],64+s.nb⟩=e.put j ⟨5,cf (cf f 18 b) 19 t,[106],64+s.nb⟩:=by
  rw[R2,G2,IJ rfl (by omega) (by decide)];show e.put j ⟨5,cf (cf f 18 b) 19 (e.c (17+3*j)),_,_⟩=_
  rw[l _ (by omega),F.ct]
 have y:ck ⟨17,20,17,0,2,0,0⟩ (e.put j ⟨5,cf (cf f 18 b) 19 t,[106],64+s.nb⟩) j d ⟨5,cf (cf f 18 b) 19 t,[106],64+s.nb⟩=e.put j ⟨6,cf (cf (cf f 18 b) 19 t) 20 a,[106],64+s.nb⟩:=by
  rw[R3,G2,IJ rfl (by omega) (by decide)];show e.put j ⟨6,cf (cf (cf f 18 b) 19 t) 20 (e.c _),_,_⟩=_
  rw[l _ (by omega),F.ca]
 have A:ck ⟨17,21,20,0,0,0,0⟩ (e.put j ⟨6,cf (cf (cf f 18 b) 19 t) 20 a,[106],64+s.nb⟩) j d ⟨6,cf (cf (cf f 18 b) 19 t) 20 a,[106],64+s.nb⟩=e.put j ⟨7,cf (cf (cf (cf f 18 b) 19 t) 20 a) 21 z,[106],64+s.nb⟩:=by
  rw[R4,G2,show(cf (cf (cf f 18 b) 19 t) 20 a) 20=a from rfl,m64 (by omega)];show e.put j ⟨7,cf (cf (cf (cf f 18 b) 19 t) 20 a) 21 (e.c a),_,_⟩=_
  rw[l _ (by omega),F.cz]
 exact⟨_,rfl,rfl,rfl,rfl,rfl,rfl,(Gf (n:=n) o k B rfl rfl (show(103:Nat)≠90 by decide) (M:=5) (K4 (by decide) (show 64+s.nb≠0 by omega) (MA (by decide) rfl (Qn (by decide) (Oh (by decide) (show 64+s.nb≠0 by omega) (Qo (by decide) (.here rfl))))))
  (JY p k rfl rfl (show(3:Nat)≠90 by decide) (JY u k rfl rfl (show(4:Nat)≠90 by decide) (JY y k rfl rfl (show(5:Nat)≠90 by decide) (JY (K:=0) A k rfl rfl (show(6:Nat)≠90 by decide) .nil))))).mono (by omega)⟩
theorem Jh(e:j<s.wk.length)(f:s.wk.length=n)(p:r 17=17+3*j)(A:17+3*j+2<65536)(o:r 16=v)(u:r 18=b)(hb:b<65536)(y:r 21=q)(B:q<65536):
 ∃r',GH j d 10 (s.put j ⟨13,r,[106],h⟩) (({s with c:=cf (cf (cf s.c (q+1) v) (17+3*j+1) (b+1)) 0 ((cf (cf s.c (q+1) v) (17+3*j+1) (b+1) 0+1)%qO)}:AS).put j ⟨90,r',[],0⟩):=by
 let s1:AS:={s with c:=cf s.c (q+1) v}
 let s2:AS:={s with c:=cf (cf s.c (q+1) v) (17+3*j+1) (b+1)}
 have i:ck ⟨18,16,21,0,1,0,0⟩ (s.put j ⟨13,r,[106],h⟩) j d ⟨13,r,[106],h⟩=s1.put j ⟨14,r,[106],h⟩:=by
  rw[Qp,II,y,o,m64 (by omega)];rfl
 have k:ck ⟨31,18,17,0,1,0,0⟩ (s1.put j ⟨15,cf r 18 (b+1),[106],h⟩) j d ⟨15,cf r 18 (b+1),[106],h⟩=s2.put j ⟨16,cf r 18 (b+1),[106],0⟩:=by
  rw[Qq,II,IJ (r:=cf r 18 (b+1)) p A (by decide)];rfl
 have l:ck ⟨20,23,-1,0,0,0,0⟩ (s2.put j ⟨17,cf (cf r 18 (b+1)) 23 1,[106],0⟩) j d ⟨17,cf (cf r 18 (b+1)) 23 1,[106],0⟩=({s2 with c:=cf s2.c 0 ((s2.c 0+1)%qO)}:AS).put j ⟨18,cf (cf (cf r 18 (b+1)) 23 1) 23 (s2.c 0),[106],0⟩:=by
  rw[Qr,II];rfl
 exact⟨_,(Gf (n:=n) i e f rfl rfl (show(13:Nat)≠90 by decide) (M:=1) (Oj (by decide) (show(r 18+1)%qO=b+1 by rw[u,m64 (by omega)]) (.here rfl))
  (Gf (n:=n) k e f rfl rfl (show(15:Nat)≠90 by decide) (M:=1) (Ol (by decide) (.here rfl))
   (Gf (n:=n) l e f rfl rfl (show(17:Nat)≠90 by decide) (M:=2) (Om (by decide) rfl (Jw (by decide) (.here rfl))) .nil (K:=0)))).mono (by omega)⟩
end
end
section
section
variable{n j d e K M q v t b a z id:Nat}{s s1 s2 s':AS}{w w1 w' wf:AW}{x:aV}{pc h dr:Nat}{r r':Nat->Nat}{bk:List Nat}
theorem NS(f:s.may id=true)(g:id≠0)(hw:w.hand=0):(s.put j w).may id=true:=by
 unfold AS.may at*;simp only[Bool.and_eq_true,Bool.not_eq_true']at f⊢;refine⟨⟨f.1.1,?_⟩,f.2⟩;rw[List.any_eq_false]at*;intro y c e;have c:y∈s.wk.set j w:=c;rcases List.mem_or_eq_of_mem_set c with c|rfl
 ·exact f.1.2 y c e
 ·have:y.hand=id:=by simpa using e
  omega
theorem Lt(f:j<s.wk.length)(g:s.wk.length=n):GH j d 2 (s.put j ⟨100,r,[],0⟩) (s.put j ⟨90,r,[],0⟩):=by
 have c:ck ⟨33,0,0,0,0,0,0⟩ (s.put j ⟨100,r,[],0⟩) j d ⟨100,r,[],0⟩=s.put j ⟨101,r,[],0⟩:=by
  rw[My,if_pos rfl,G2]
 exact(Gf (n:=n) c f g rfl rfl (show(100:Nat)≠90 by decide) (M:=1) (Ku (by decide) (.here rfl)) .nil (K:=0)).mono (by omega)
theorem Lu(i:j<s.wk.length)(k:s.wk.length=n)(g:h≠0):GH j d 2 (s.put j ⟨100,r,[],h⟩) (({s with ring:=s.ring++[h],c:=cf s.c 0 ((s.c 0+1)%qO)}:AS).put j ⟨90,r,[],0⟩):=by
 let s1:AS:={s with ring:=s.ring++[h],c:=cf s.c 0 ((s.c 0+1)%qO)}
 have f:ck ⟨33,0,0,0,0,0,0⟩ (s.put j ⟨100,r,[],h⟩) j d ⟨100,r,[],h⟩=s1.put j ⟨101,r,[],0⟩:=by
  rw[My,if_neg g];unfold AS.lay AS.put;dsimp only;rw[List.set_set]
 exact(Gf (n:=n) f i k rfl rfl (show(100:Nat)≠90 by decide) (M:=1) (Ku (by decide) (.here rfl)) .nil (K:=0)).mono (by omega)
theorem oF(F:Fd n s j t b a z)(i:j<s.wk.length)(o:s.wk.length=n)(g:r 17=17+3*j):
 ∃r':Nat->Nat,r' 17=17+3*j/\r' 18=b-1/\r' 19=t/\GH j d 4 (s.put j ⟨46,r,[100],0⟩) (({s with c:=cf s.c (17+3*j+1) (b-1)}:AS).put j ⟨50,r',[100],0⟩):=by
 have A:=F.x;have u:=F.l;have y:=F.m;have p:=F.b1;have t1:=F.t1;have tb:=F.tb;let s1:AS:={s with c:=cf s.c (17+3*j+1) (b-1)}
 let f:=cf (cf r 18 b) 18 (b-1)
 have k:ck ⟨17,18,17,0,1,0,0⟩ (s.put j ⟨46,r,[100],0⟩) j d ⟨46,r,[100],0⟩=s.put j ⟨47,cf r 18 b,[100],0⟩:=by
  rw[Ro,G2,IJ g (by omega) (by decide)];show s.put j ⟨47,cf r 18 (s.c _),_,_⟩=_
  rw[F.cb]
 have l:ck ⟨18,18,17,0,1,0,0⟩ (s.put j ⟨48,f,[100],0⟩) j d ⟨48,f,[100],0⟩=s1.put j ⟨49,f,[100],0⟩:=by
  rw[Rp,II,IJ (r:=f) g (by omega) (by decide)];rfl
 have m:ck ⟨17,19,17,0,0,0,0⟩ (s1.put j ⟨49,f,[100],0⟩) j d ⟨49,f,[100],0⟩=s1.put j ⟨50,cf f 19 t,[100],0⟩:=by
  rw[Rq,G2,IJ (r:=f) g (by omega) (by decide)];show s1.put j ⟨50,cf f 19 (cf s.c _ _ (17+3*j)),_,_⟩=_
  rw[cQ _ _ (by omega),F.ct]
 exact⟨cf f 19 t,g,rfl,rfl,(Gf (n:=n) k i o rfl rfl (show(46:Nat)≠90 by decide) (M:=1) (QA (by decide) (show(b+(qO-1))%qO=b-1 from K5 (by omega) (by omega)) (.here rfl))
  (JY l i rfl rfl (show(48:Nat)≠90 by decide) (JY (K:=0) m i rfl rfl (show(49:Nat)≠90 by decide) .nil))).mono (by omega)⟩
theorem nv(f:j<s.wk.length)(g:s.wk.length=n)(k:r 17=17+3*j)(o:17+3*j+2<65536)(m:r 18<t)(l:r 19=t):
 ∃r',GH j d 8 (s.put j ⟨50,r,[100],0⟩) (({s with c:=cf s.c (17+3*j+1) t}:AS).put j ⟨90,r',[],0⟩):=by
 let s1:AS:={s with c:=cf s.c (17+3*j+1) t}
 have i:ck ⟨18,19,17,0,1,0,0⟩ (s.put j ⟨70,cf r 22 1,[100],0⟩) j d ⟨70,cf r 22 1,[100],0⟩=s1.put j ⟨71,cf r 22 1,[100],0⟩:=by
  rw[Rx,II,IJ (r:=cf r 22 1) k (by omega) (by decide),show cf r 22 1 19=t from l];rfl
 exact⟨_,((G3 f g (M:=2) (Mp (by decide) (if_pos (show r 18<r 19 by omega)) (O7 (by decide) Nat.one_ne_zero (.here rfl)))).trans
  (Gf (n:=n) i f g rfl rfl (show(70:Nat)≠90 by decide) (M:=2) (QL (by decide) (QM (by decide) rfl (.here rfl))) (Lt (s:=s1) f g))).mono (by omega)⟩
theorem ny(i:j<s.wk.length)(m:s.wk.length=n)(k:r 17=17+3*j)(G:17+3*j+2<65536)(l:r 18=b)(D:r 19=t)(hb:t<=b)
 (p:s.c (17+3*j+2)=a) (y:s.c a=z) (o:z=4∨z=8∨z=16) (F:a+z<65536) (u:s.c (a+1+b%z)=id):
 ∃r':Nat->Nat,r' 17=17+3*j/\r' 18=b/\r' 19=t/\r' 16=id/\GH j d 8 (s.put j ⟨50,r,[100],0⟩) (s.put j ⟨58,r',[100],0⟩):=by
 have E:0<z:=by rcases o with e|e|e<;>omega
 have H:=Nat.mod_lt b E;let g:=cf r 22 0
 let c:=cf g 20 a
 let f:=cf (cf (cf (cf c 21 z) 21 (z-1)) 21 (b%z)) 21 (a+b%z)
 have A:ck ⟨17,20,17,0,2,0,0⟩ (s.put j ⟨52,g,[100],0⟩) j d ⟨52,g,[100],0⟩=s.put j ⟨53,c,[100],0⟩:=by
  rw[Rr,G2,IJ (r:=g) k (by omega) (by decide)];show s.put j ⟨53,cf g 20 (s.c _),_,_⟩=_
  rw[p]
 have B:ck ⟨17,21,20,0,0,0,0⟩ (s.put j ⟨53,c,[100],0⟩) j d ⟨53,c,[100],0⟩=s.put j ⟨54,cf c 21 z,[100],0⟩:=by
  rw[Rs,G2,show c 20=a from rfl,m64 (by omega)];show s.put j ⟨54,cf c 21 (s.c a),_,_⟩=_
  rw[y]
 have C:ck ⟨17,16,21,0,1,0,0⟩ (s.put j ⟨57,f,[100],0⟩) j d ⟨57,f,[100],0⟩=s.put j ⟨58,cf f 16 id,[100],0⟩:=by
  rw[Rt,G2,show f 21=a+b%z from rfl,m64 (by omega)];show s.put j ⟨58,cf f 16 (s.c (a+b%z+1)),_,_⟩=_
  rw[show a+b%z+1=a+1+b%z by omega,u]
 exact⟨cf f 16 id,k,l,D,rfl,((G3 i m (M:=2) (Mp (by decide) (if_neg (show¬r 18<r 19 by omega)) (Mq (by decide) rfl (.here rfl)))).trans
  (JY A i rfl rfl (show(52:Nat)≠90 by decide) (Gf (n:=n) B i m rfl rfl (show(53:Nat)≠90 by decide) (M:=3)
   (QE (by decide) (show(z+(qO-1))%qO=z-1 from K5 (by omega) (by omega)) (QF (by decide) (show r 18&&&(z-1)=b%z by rw[l];exact HN _ o) (QG (by decide) (show(a+b%z)%qO=a+b%z from m64 (by omega)) (.here rfl))))
   (JY (K:=0) C i rfl rfl (show(57:Nat)≠90 by decide) .nil)))).mono (by omega)⟩
theorem nA(f:j<s.wk.length)(g:s.wk.length=n)(m:r 18≠r 19)(l:r 16=id)(i:id≠0)(o:s.may id=true):
 ∃r',GH j d 6 (s.put j ⟨58,r,[100],0⟩) (({s with ring:=s.ring++[id],c:=cf s.c 0 ((s.c 0+1)%qO)}:AS).put j ⟨90,r',[],0⟩):=by
 have k:ck ⟨30,16,0,0,0,0,0⟩ (s.put j ⟨60,cf r 22 0,[100],0⟩) j d ⟨60,cf r 22 0,[100],0⟩=s.put j ⟨61,cf r 22 0,[100],id⟩:=by
  rw[Ru,show cf r 22 0 16=id from l,if_pos ⟨rfl,NS o i rfl⟩,G2]
 exact⟨_,((G3 f g (M:=2) (OE (by decide) (if_neg (show¬r 18=r 19 from m)) (O8 (by decide) rfl (.here rfl)))).trans
  (Gf (n:=n) k f g rfl rfl (show(60:Nat)≠90 by decide) (M:=1) (QH (by decide) rfl (.here rfl)) (Lu f g i))).mono (by omega)⟩
theorem nR(g:j<s.wk.length)(k:s.wk.length=n)(m:r 17=17+3*j)(o:17+3*j+2<65536)(C:r 18=t)(i:r 19=t)(D:t<65536)(p:s.c (17+3*j)=t)(A:r 16=id)(l:id≠0)(B:s.may id=true):
 ∃r',GH j d 13 (s.put j ⟨58,r,[100],0⟩) (({s with ring:=s.ring++[id],c:=cf (cf (cf s.c (17+3*j) (t+1)) (17+3*j+1) (t+1)) 0 ((cf (cf s.c (17+3*j) (t+1)) (17+3*j+1) (t+1) 0+1)%qO)}:AS).put j ⟨90,r',[],0⟩):=by
 let f:=cf (cf (cf r 22 1) 22 t) 23 (t+1)
 let s1:AS:={s with c:=cf s.c (17+3*j) (t+1)}
 let s2:AS:={s with c:=cf (cf s.c (17+3*j) (t+1)) (17+3*j+1) (t+1)}
 have u:ck ⟨32,22,17,23,0,0,0⟩ (s.put j ⟨64,f,[100],0⟩) j d ⟨64,f,[100],0⟩=s1.put j ⟨65,cf f 22 t,[100],id⟩:=by
  rw[Rv,IJ (r:=f) m o (by decide),show(s.put j ⟨64,f,[100],0⟩).c (17+3*j+0)=t from p,if_pos (show t=f 22 from rfl),show cf f 22 t 16=id from A,if_pos ⟨rfl,NS B l rfl⟩,II];rfl
 have y:ck ⟨18,23,17,0,1,0,0⟩ (s1.put j ⟨65,cf f 22 t,[100],id⟩) j d ⟨65,cf f 22 t,[100],id⟩=s2.put j ⟨66,cf f 22 t,[100],id⟩:=by
  rw[Rw,II,IJ (r:=cf f 22 t) m o (by decide)];rfl
 exact⟨_,((G3 g k (M:=4) (OE (by decide) (if_pos (show r 18=r 19 by omega)) (O9 (by decide) Nat.one_ne_zero (QI (by decide) (show r 19=t from i) (QJ (by decide) (show(r 19+1)%qO=t+1 by rw[i,m64 (by omega)]) (.here rfl)))))).trans
  (JY u g rfl rfl (show(64:Nat)≠90 by decide) (Gf (n:=n) y g k rfl rfl (show(65:Nat)≠90 by decide) (M:=3)
   (OF (by decide) (if_pos (show t=r 19 from i.symm)) (Pa (by decide) Nat.one_ne_zero (OG (by decide) rfl (.here rfl)))) (Lu (s:=s2) g k l)))).mono (by omega)⟩
theorem MF(c:j<s.wk.length)(g:s.wk.length=n)(f:r 17=17+3*e)(o:17+3*e+2<65536)(k:s.c (17+3*e)=t)(i:s.c (17+3*e+1)=b)(hb:¬t<b):
 ∃r',GH j d 10 (s.put j ⟨73,r,[98],0⟩) (s.put j ⟨90,r',[],0⟩):=by
 have l:ck ⟨17,19,17,0,0,0,0⟩ (s.put j ⟨73,r,[98],0⟩) j d ⟨73,r,[98],0⟩=s.put j ⟨74,cf r 19 t,[98],0⟩:=by
  rw[Pb,G2,IJ f (by omega) (by decide)];show s.put j ⟨74,cf r 19 (s.c (17+3*e)),_,_⟩=_
  rw[k]
 have m:ck ⟨17,18,17,0,1,0,0⟩ (s.put j ⟨74,cf r 19 t,[98],0⟩) j d ⟨74,cf r 19 t,[98],0⟩=s.put j ⟨75,cf (cf r 19 t) 18 b,[98],0⟩:=by
  rw[Pc,G2,IJ (r:=cf r 19 t) f (by omega) (by decide)];show s.put j ⟨75,cf (cf r 19 t) 18 (s.c _),_,_⟩=_
  rw[i]
 exact⟨_,(JY l c rfl rfl (show(73:Nat)≠90 by decide) (Gf (n:=n) m c g rfl rfl (show(74:Nat)≠90 by decide) (M:=5)
  (KZ (by decide) (if_neg (show¬t<b from hb)) (Mr (by decide) rfl (OM (by decide) (K0 (by decide) rfl (K3 (by decide) (.here rfl)))))) (Lt c g))).mono (by omega)⟩
theorem MG(F:Fd n s e t b a z)(f:j<s.wk.length)(m:s.wk.length=n)(o:r 17=17+3*e)(hb:t<b)(y:s.c (a+1+t%z)=id)(p:id≠0)(H:s.may id=true):
 ∃r',GH j d 22 (s.put j ⟨73,r,[98],0⟩) (({s with ring:=s.ring++[id],c:=cf (cf s.c (17+3*e) (t+1)) 0 ((cf s.c (17+3*e) (t+1) 0+1)%qO)}:AS).put j ⟨90,r',[],0⟩):=by
 have O:=F.x;have L:=F.l;have N:=F.m;have J:=F.b1;have u:=F.zs;have I:0<z:=by rcases u with e|e|e<;>omega
 have P:=Nat.mod_lt t I;let k:=cf (cf r 19 t) 18 b
 let g:=cf (cf k 22 1) 20 a
 let l:=cf (cf (cf (cf g 21 z) 21 (z-1)) 21 (t%z)) 21 (a+t%z)
 let i:=cf (cf (cf l 16 id) 22 t) 23 (t+1)
 let s1:AS:={s with c:=cf s.c (17+3*e) (t+1)}
 have A:ck ⟨17,19,17,0,0,0,0⟩ (s.put j ⟨73,r,[98],0⟩) j d ⟨73,r,[98],0⟩=s.put j ⟨74,cf r 19 t,[98],0⟩:=by
  rw[Pb,G2,IJ o (by omega) (by decide)];show s.put j ⟨74,cf r 19 (s.c (17+3*e)),_,_⟩=_
  rw[F.ct]
 have B:ck ⟨17,18,17,0,1,0,0⟩ (s.put j ⟨74,cf r 19 t,[98],0⟩) j d ⟨74,cf r 19 t,[98],0⟩=s.put j ⟨75,k,[98],0⟩:=by
  rw[Pc,G2,IJ (r:=cf r 19 t) o (by omega) (by decide)];show s.put j ⟨75,cf (cf r 19 t) 18 (s.c _),_,_⟩=_
  rw[F.cb]
 have C:ck ⟨17,20,17,0,2,0,0⟩ (s.put j ⟨77,cf k 22 1,[98],0⟩) j d ⟨77,cf k 22 1,[98],0⟩=s.put j ⟨78,g,[98],0⟩:=by
  rw[QN,G2,IJ (r:=cf k 22 1) o (by omega) (by decide)];show s.put j ⟨78,cf (cf k 22 1) 20 (s.c _),_,_⟩=_
  rw[F.ca]
 have D:ck ⟨17,21,20,0,0,0,0⟩ (s.put j ⟨78,g,[98],0⟩) j d ⟨78,g,[98],0⟩=s.put j ⟨79,cf g 21 z,[98],0⟩:=by
  rw[QO,G2,show g 20=a from rfl,m64 (by omega)];show s.put j ⟨79,cf g 21 (s.c a),_,_⟩=_
  rw[F.cz]
 have E:ck ⟨17,16,21,0,1,0,0⟩ (s.put j ⟨82,l,[98],0⟩) j d ⟨82,l,[98],0⟩=s.put j ⟨83,cf l 16 id,[98],0⟩:=by
  rw[QP,G2,show l 21=a+t%z from rfl,m64 (by omega)];show s.put j ⟨83,cf l 16 (s.c (a+t%z+1)),_,_⟩=_
  rw[show a+t%z+1=a+1+t%z by omega,y]
 have G:ck ⟨32,22,17,23,0,0,0⟩ (s.put j ⟨85,i,[98],0⟩) j d ⟨85,i,[98],0⟩=s1.put j ⟨86,cf i 22 t,[98],id⟩:=by
  rw[QQ,IJ (r:=i) o (by omega) (by decide),show(s.put j ⟨85,i,[98],0⟩).c (17+3*e+0)=t from F.ct,if_pos (show t=i 22 from rfl),show cf i 22 t 16=id from rfl,if_pos ⟨rfl,NS H p rfl⟩,II];rfl
 have Q:=F.tb;exact⟨_,(JY A f rfl rfl (show(73:Nat)≠90 by decide) (Gf (n:=n) B f m rfl rfl (show(74:Nat)≠90 by decide) (M:=2)
  (KZ (by decide) (if_pos (show t<b from hb)) (Ms (by decide) Nat.one_ne_zero (.here rfl)))
  (JY C f rfl rfl (show(77:Nat)≠90 by decide) (Gf (n:=n) D f m rfl rfl (show(78:Nat)≠90 by decide) (M:=3)
   (OH (by decide) (show(z+(qO-1))%qO=z-1 from K5 (by omega) (by omega)) (OI (by decide) (show t&&&(z-1)=t%z from HN _ u) (OJ (by decide) (show(a+t%z)%qO=a+t%z from m64 (by omega)) (.here rfl))))
   (Gf (n:=n) E f m rfl rfl (show(82:Nat)≠90 by decide) (M:=2) (OK (by decide) rfl (OL (by decide) (show(t+1)%qO=t+1 from m64 (by omega)) (.here rfl)))
    (Gf (n:=n) G f m rfl rfl (show(85:Nat)≠90 by decide) (M:=4) (Mt (by decide) (if_pos (show t=t from rfl)) (Mu (by decide) Nat.one_ne_zero (K0 (by decide) rfl (K3 (by decide) (.here rfl))))) (Lu (s:=s1) f m p))))))).mono (by omega)⟩
end
end
section
section
variable{n j d e K M q v t b a z id i a' f:Nat}{s s1 s2 s':AS}{w w1 w' wf:AW}{x:aV}{pc h dr:Nat}{r r':Nat->Nat}{bk:List Nat}{C C0:Nat->Nat}
structure Cp(C0 C:Nat->Nat)(t a z a' i:Nat):Prop where
 o:∀q,q<=a'∨a'+2*z<q->C q=C0 q
 n:∀k,t<=k->k<i->C (a'+1+k%(2*z))=C0 (a+1+k%z)
structure Rg(r:Nat->Nat)(j id b a z a':Nat):Prop where
 Lh:r 16=id
 G1:r 17=17+3*j
 KO:r 18=b
 Md:r 20=a
 Me:r 21=z
 KP:r 24=2*z
 Pg:r 25=a'
theorem Lv(y:j<s.wk.length)(A:s.wk.length=n)(B:z=4∨z=8∨z=16)(X:a+z<a')(hb:b<=64)(Y:b<=t+z)(a0:a'+2*z<65536):∀(f i:Nat) (r C:Nat->Nat),Rg r j id b a z a'->r 19=i->t<=i->i<=b->f=b-i->Cp C0 C t a z a' i->
 ∃r' u,Rg r' j id b a z a'/\Cp C0 u t a z a' b/\GH j d (12*f+2) (({s with c:=C}:AS).put j ⟨27,r,[106],h⟩) (({s with c:=u}:AS).put j ⟨39,r',[106],h⟩):=by
 have W:0<z:=by rcases B with e|e|e<;>omega
 have ab:z<=16:=by rcases B with e|e|e<;>omega
 intro f
 induction f with
 |zero=>
  intro i r C g m P L J o;obtain rfl:i=b:=by omega
  exact⟨cf r 22 1,C,⟨g.Lh,g.G1,g.KO,g.Md,g.Me,g.KP,g.Pg⟩,o,G3 (s:={s with c:=C}) y A (M:=2) (KY (by decide) (if_pos (show r 19=r 18 by rw[m,g.KO])) (Mo (by decide) Nat.one_ne_zero (.here rfl)))⟩
 |succ f ih=>
  intro i r C g m P L J o;have a1:=Nat.mod_lt i W;have a2:=Nat.mod_lt i (show 0<2*z by omega);have a3:=g.KO;have Q:=g.Md;have R:=g.Me;have T:=g.KP;have U:=g.Pg;let v:=C0 (a+1+i%z)
  let l:=cf (cf (cf (cf r 22 0) 22 (z-1)) 22 (i%z)) 22 (a+i%z)
  let p:=cf (cf (cf (cf l 23 v) 22 (2*z-1)) 22 (i%(2*z))) 22 (a'+i%(2*z))
  let V:=cf p 19 (i+1)
  let D:=cf C (a'+1+i%(2*z)) v
  have F:ck ⟨17,23,22,0,1,0,0⟩ (({s with c:=C}:AS).put j ⟨32,l,[106],h⟩) j d ⟨32,l,[106],h⟩=({s with c:=C}:AS).put j ⟨33,cf l 23 v,[106],h⟩:=by
   rw[Qv,G2,show l 22=a+i%z from rfl,m64 (by omega)];show({s with c:=C}:AS).put j ⟨33,cf l 23 (C (a+i%z+1)),_,_⟩=_
   rw[o.o _ (by omega),show a+i%z+1=a+1+i%z by omega]
  have G:ck ⟨18,23,22,0,1,0,0⟩ (({s with c:=C}:AS).put j ⟨36,p,[106],h⟩) j d ⟨36,p,[106],h⟩=({s with c:=D}:AS).put j ⟨37,p,[106],h⟩:=by
   rw[Qw,II,show p 22=a'+i%(2*z)from rfl,m64 (by omega),show a'+i%(2*z)+1=a'+1+i%(2*z)by omega];rfl
  have I:Cp C0 D t a z a' (i+1):=by
   refine⟨fun q O=> ?_,fun k N Z=> ?_⟩
   ·show cf _ _ _ q=_
    rw[cQ _ _ (by omega)];exact o.o q O
   ·show cf _ _ _ _=_
    by_cases c:k=i
    ·rw[c,Fy]
    ·rw[cQ _ _ (by have:=IF (z:=2*z) (show k<i by omega) (by omega);omega)]
     exact o.n k N (by omega)
  obtain⟨r',u,E,H,S⟩:=ih (i+1) V D ⟨g.Lh,g.G1,g.KO,g.Md,g.Me,g.KP,g.Pg⟩ rfl (by omega) (by omega) (by omega) I;refine⟨r',u,E,H,((G3 (s:={s with c:=C}) y A (M:=5) (KY (by decide) (if_neg (show¬r 19=r 18 by omega)) (Mn (by decide) rfl (Oq (by decide) (show(r 21+(qO-1))%qO=z-1 by rw[R];exact K5 (by omega) (by omega)) (Ot (by decide) (show r 19&&&(z-1)=i%z by rw[m];exact HN _ B) (Ou (by decide) (show(r 20+i%z)%qO=a+i%z by rw[Q,m64 (by omega)]) (.here rfl))))))).trans
   (Gf (n:=n) F y A rfl rfl (show(32:Nat)≠90 by decide) (M:=3) (Ov (by decide) (show(r 24+(qO-1))%qO=2*z-1 by rw[T];exact K5 (by omega) (by omega)) (Ow (by decide) (show r 19&&&(2*z-1)=i%(2*z)by rw[m];exact Jx _ B) (Ox (by decide) (show(r 25+i%(2*z))%qO=a'+i%(2*z)by rw[U,m64 (by omega)]) (.here rfl))))
    (Gf (n:=n) G y A rfl rfl (show(36:Nat)≠90 by decide) (M:=2) (Oy (by decide) (show(r 19+1)%qO=i+1 by rw[m,m64 (by omega)]) (Oz (by decide) (.here rfl))) S))).mono (by omega)⟩
theorem QX{F:Nat->Nat}{p:Nat}(c:F p=q)(g:F q=v):F (F p)=v:=by rw[c,g]
structure Ps(c c':Nat->Nat)(n j t b a z id:Nat):Prop where
 o:∀q,q<17+3*n->q≠0->q≠17+3*j+1->q≠17+3*j+2->c' q=c q
 cb:c' (17+3*j+1)=b+1
 ca:∃a' z',c' (17+3*j+2)=a'/\c' a'=z'/\(z'=z∨b=t+z/\z'=2*z)/\(∀k,t<=k->k<b->c' (a'+1+k%z')=c (a+1+k%z))/\c' (a'+1+b%z')=id
theorem Lw(F:Fd n s j t b a z)(c7:17+3*n<=a)(hj:j<n)(g:j<s.wk.length)(m:s.wk.length=n)(Q:r 16=id)(R:r 17=17+3*j)(H:r 18=b)(U:r 19=t)(V:r 20=a)(J:r 21=z)(bv:h=id)(c8:id≠0)(room:z<16->s.hl+(2*z+1)<=s.Gx)(c6:s.Gx<=65536):
 ∃(s':AS) (r':Nat->Nat),GH j d 200 (s.put j ⟨7,r,[106],h⟩) (s'.put j ⟨90,r',[],0⟩)/\s'.wk=s.wk/\s'.Gx=s.Gx/\s'.nb=s.nb/\
  (b-t<16/\s'.ring=s.ring/\Ps s.c s'.c n j t b a z id/\(b<t+z/\s'.hl=s.hl∨b=t+z/\z<16/\s'.hl=s.hl+(2*z+1)/\s'.c (s'.c (17+3*j+2))=2*z)∨
   b-t=16/\s'.ring=s.ring++[id]/\s'.hl=s.hl/\(∀q,q≠0->s'.c q=s.c q)):=by
 have c5:=F.x;have c3:=F.l;have c4:=F.m;have a3:=F.b1;have E:=F.zs;have tb:=F.tb;have ab:=F.bz;have O:0<z:=by rcases E with e|e|e<;>omega
 have cd:z<=16:=by rcases E with e|e|e<;>omega
 have c9:=Nat.mod_lt b O;have L:(r 18+(qO-r 19))%qO=b-t:=by rw[H,U];exact K5 (by omega) (by omega)
 have ad:(z+(qO-1))%qO=z-1:=K5 (by omega) (by omega);by_cases c2:b-t<z
 ·have al:(r 20+b%z)%qO=a+b%z:=by rw[V,m64 (by omega)]
  have A:=G3 (s:=s) (j:=j) (d:=d) g m (M:=6) (Lp (h:=h) (bk:=[106]) (r:=r) (by decide) L (Lq (by decide) (if_pos (show b-t<r 21 by omega)) (Oi (by decide) Nat.one_ne_zero (KT (by decide) (show(r 21+(qO-1))%qO=z-1 by rw[J];exact ad) (KU (by decide) (show r 18&&&(z-1)=b%z by rw[H];exact HN _ E) (KV (by decide) al (.here rfl)))))));obtain⟨r',S⟩:=Jh (s:=s) (d:=d) (h:=h) (r:=cf (cf (cf (cf (cf r 22 (b-t)) 22 1) 21 (z-1)) 21 (b%z)) 21 (a+b%z)) (v:=id) (b:=b) (q:=a+b%z) g m R (by omega) Q H (by omega) rfl (by omega);refine⟨_,r',(A.trans S).mono (by omega),rfl,rfl,rfl,Or.inl ⟨by omega,rfl,⟨fun q B u D I=> ?_,?_,a,z,?_,?_,Or.inl rfl,fun k Z a0=> ?_,?_⟩,Or.inl ⟨by omega,rfl⟩⟩⟩
  ·dsimp only
   rw[cQ _ _ u,cQ _ _ D,cQ _ _ (by omega)]
  ·dsimp only
   rw[cQ _ _ (by omega),Fy]
  ·dsimp only
   rw[cQ _ _ (by omega),cQ _ _ (by omega),cQ _ _ (by omega),F.ca]
  ·dsimp only
   rw[cQ _ _ (by omega),cQ _ _ (by omega),cQ _ _ (by omega),F.cz]
  ·have:=IF (z:=z) (show k<b by omega) (by omega)
   have:=Nat.mod_lt k O;dsimp only;rw[cQ _ _ (by omega),cQ _ _ (by omega),cQ _ _ (by omega)]
  ·dsimp only
   rw[cQ _ _ (by omega),cQ _ _ (by omega),show a+1+b%z=a+b%z+1 by omega,Fy]
 ·by_cases W:z<16
  ·have bw:=room W
   have cb:=Nat.mod_lt b (show 0<2*z by omega);let l:=cf (cf (cf (cf (cf (cf r 22 (b-t)) 22 0) 22 16) 22 1) 24 (2*z)) 25 (2*z+1)
   let a':=s.hl
   let C:=fun q=>if s.hl<=q/\q<s.hl+(2*z+1)then 0 else s.c q
   let s1:AS:={s with hl:=s.hl+(2*z+1),c:=C}
   let y:=cf l 25 s.hl
   let G:=cf C s.hl (2*z)
   have A:=G3 (s:=s) (j:=j) (d:=d) g m (M:=8) (Lp (h:=h) (bk:=[106]) (r:=r) (by decide) L (Lq (by decide) (if_neg (show¬b-t<r 21 by omega)) (KR (by decide) rfl (KW (by decide) (KX (by decide) (if_pos (show r 21<16 by omega)) (Ml (by decide) Nat.one_ne_zero (On (by decide) (show(r 21+r 21)%qO=2*z by rw[J,m64 (by omega)];omega) (Oo (by decide) (show(2*z+1)%qO=2*z+1 from m64 (by omega)) (.here rfl)))))))));have am:ck ⟨43,25,25,0,0,0,0⟩ (s.put j ⟨24,l,[106],h⟩) j d ⟨24,l,[106],h⟩=s1.put j ⟨25,y,[106],h⟩:=by
    rw[Qs,show l 25=2*z+1 from rfl,show(s.put j ⟨24,l,[106],h⟩).hl=s.hl from rfl,show(s.put j ⟨24,l,[106],h⟩).Gx=s.Gx from rfl,if_pos ⟨by omega,by omega,bw⟩];unfold AS.put;dsimp only;rw[List.set_set]
   have ap:ck ⟨18,24,25,0,0,0,0⟩ (s1.put j ⟨26,y,[106],h⟩) j d ⟨26,y,[106],h⟩=({s1 with c:=G}:AS).put j ⟨27,y,[106],h⟩:=by
    rw[Qu,II,show y 25=s.hl from rfl,m64 (by omega)];rfl
   have X:∀q,q<s.hl->G q=s.c q:=fun q a1=>by
    show cf _ _ _ q=_
    rw[cQ _ _ (by omega)];exact if_neg (by omega)
   obtain⟨r',P,p,N,S⟩:=Lv (s:=s1) (C0:=G) (d:=d) (h:=h) (id:=id) (b:=b) (t:=t) (a:=a) (z:=z) (a':=s.hl) g m E (by omega) a3 ab (by omega) (b-t) t y G ⟨Q,R,H,V,J,rfl,rfl⟩ U (Nat.le_refl _) tb rfl ⟨fun _ _=>rfl,fun k B u=>absurd B (by omega)⟩;let o:=cf P (17+3*j+2) s.hl
   let c0:=cf (cf (cf (cf (cf r' 20 s.hl) 21 (2*z)) 21 (2*z-1)) 21 (b%(2*z))) 21 (s.hl+b%(2*z))
   have av:ck ⟨18,25,17,0,2,0,0⟩ (({s1 with c:=P}:AS).put j ⟨39,r',[106],h⟩) j d ⟨39,r',[106],h⟩=({s1 with c:=o}:AS).put j ⟨40,r',[106],h⟩:=by
    rw[Qx,II,IJ p.G1 (by omega) (by decide),p.Pg];rfl
   obtain⟨c1,T⟩:=Jh (s:={s1 with c:=o}) (d:=d) (h:=h) (r:=c0) (v:=id) (b:=b) (q:=s.hl+b%(2*z)) g m p.G1 (by omega) p.Lh p.KO (by omega) rfl (by omega);have fin:∀q,q<s.hl->q≠0->q≠17+3*j+1->q≠17+3*j+2->cf (cf (cf o (s.hl+b%(2*z)+1) id) (17+3*j+1) (b+1)) 0 ((cf (cf o (s.hl+b%(2*z)+1) id) (17+3*j+1) (b+1) 0+1)%qO) q=s.c q:=fun q B u D I=>by
    rw[cQ _ _ u,cQ _ _ D,cQ _ _ (by omega)];show cf _ _ _ q=_
    rw[cQ _ _ I,N.o q (by omega),X q B]
   have a2:cf (cf (cf o (s.hl+b%(2*z)+1) id) (17+3*j+1) (b+1)) 0 ((cf (cf o (s.hl+b%(2*z)+1) id) (17+3*j+1) (b+1) 0+1)%qO) s.hl=2*z:=by
    rw[cQ _ _ (by omega),cQ _ _ (by omega),cQ _ _ (by omega)];show cf _ _ _ s.hl=_
    rw[cQ _ _ (by omega),N.o _ (by omega)];exact Fy _ _ _
   have Y:cf (cf (cf o (s.hl+b%(2*z)+1) id) (17+3*j+1) (b+1)) 0 ((cf (cf o (s.hl+b%(2*z)+1) id) (17+3*j+1) (b+1) 0+1)%qO) (17+3*j+2)=s.hl:=by
    rw[cQ _ _ (by omega),cQ _ _ (by omega),cQ _ _ (by omega)];exact Fy _ _ _
   refine⟨_,c1,(A.trans (Gf (n:=n) am g m rfl rfl (show(24:Nat)≠90 by decide) (M:=1) (Mm (by decide) (show s.hl≠0 by omega) (.here rfl))
    (JY ap g rfl rfl (show(26:Nat)≠90 by decide) (S.trans (Gf (n:=n) av g m rfl rfl (show(39:Nat)≠90 by decide) (M:=6)
     (OA (by decide) (show r' 25=s.hl from p.Pg) (OB (by decide) (show r' 24=2*z from p.KP) (OC (by decide) (KT (by decide) (show(2*z+(qO-1))%qO=2*z-1 from K5 (by omega) (by omega)) (KU (by decide) (show r' 18&&&(2*z-1)=b%(2*z)by rw[p.KO];exact Jx _ E) (KV (by decide) (show(s.hl+b%(2*z))%qO=s.hl+b%(2*z)from m64 (by omega)) (.here rfl))))))) T))))).mono (by omega),rfl,rfl,rfl,
    Or.inl ⟨by omega,rfl,⟨fun q B u D I=>fin q (by omega) u D I,?_,s.hl,2*z,Y,a2,Or.inr ⟨by omega,rfl⟩,fun k Z a0=> ?_,?_⟩,Or.inr ⟨by omega,W,rfl,QX Y a2⟩⟩⟩
   ·dsimp only
    rw[cQ _ _ (by omega),Fy]
   ·have:=IF (z:=2*z) (show k<b by omega) (by omega)
    have:=Nat.mod_lt k O;dsimp only;rw[cQ _ _ (by omega),cQ _ _ (by omega),cQ _ _ (by omega)];show cf _ _ _ _=_
    rw[cQ _ _ (by omega),N.n k Z a0,X _ (by omega)]
   ·dsimp only
    rw[cQ _ _ (by omega),cQ _ _ (by omega),show s.hl+1+b%(2*z)=s.hl+b%(2*z)+1 by omega,Fy]
  ·have A:=G3 (s:=s) (j:=j) (d:=d) g m (M:=6) (Lp (h:=h) (bk:=[106]) (r:=r) (by decide) L (Lq (by decide) (if_neg (show¬b-t<r 21 by omega)) (KR (by decide) rfl (KW (by decide) (KX (by decide) (if_neg (show¬r 21<16 by omega)) (Mk (by decide) rfl (.here rfl)))))))
   let s1:AS:={s with ring:=s.ring++[h],c:=cf s.c 0 ((s.c 0+1)%qO)}
   let l:=cf (cf (cf (cf r 22 (b-t)) 22 0) 22 16) 22 0
   have bi:ck ⟨33,0,0,0,0,0,0⟩ (s.put j ⟨43,l,[106],h⟩) j d ⟨43,l,[106],h⟩=s1.put j ⟨44,l,[106],0⟩:=by
    rw[Qy,if_neg (by omega)];unfold AS.lay AS.put;dsimp only;rw[List.set_set]
   refine⟨s1,_,(A.trans (Gf (n:=n) bi g m rfl rfl (show(43:Nat)≠90 by decide) (M:=2) (OD (by decide) rfl (Jw (by decide) (.here rfl))) .nil (K:=0))).mono (by omega),rfl,rfl,rfl,Or.inr ⟨by omega,by rw[<-bv],rfl,fun q a1=>cQ _ _ a1⟩⟩
end
end
end Go.Proofs.YtlihkblppjgebaaGreatDoor
