import Derived.RangeFuncNested
import Derived.RangeFuncBound
import Derived.RangeFuncCalls
import Derived.RangeFuncLeaves
import Derived.Shelf.Abstract
import Derived.Shelf.RegionOpen
import Derived.OwnWalkIn
import Derived.TacticsInMore
import Derived.LoopNIn
import Derived.LoopIn
import Derived.Test.YtfnilkpkogipfaaGreatDoorZAj
set_option linter.all false
set_option maxRecDepth 100000
set_option maxHeartbeats 8000000
namespace Go.Proofs.YtfnilkpkogipfaaGreatDoor
open Go.RowKit Go.Proofs.Tryz
structure Fr(K K':KS):Prop where
 De:K'.entries=K.entries
 at_:K'.at_=K.at_
 now:K'.clock.now=K.clock.now
 w:K'.w=K.w
 wl:K'.wk.length=K.wk.length
 out:∀e∈K'.out,e∈K.out∨e.at_=K.at_
theorem Fr.refl(K:KS):Fr K K:=⟨rfl,rfl,rfl,rfl,rfl,fun e h=>Or.inl h⟩
theorem Fr.trans{a b c:KS}(h:Fr a b)(g:Fr b c):Fr a c:=⟨g.De.trans h.De,g.at_.trans h.at_,g.now.trans h.now,g.w.trans h.w,g.wl.trans h.wl,fun e f=>by
 rcases g.out e f with d|d
 ·exact h.out e d
 ·exact Or.inr (d.trans h.at_)⟩
theorem Fr.th{a b c:KS}(g:Fr b c)(h:Fr a b):Fr a c:=h.trans g
theorem Fr.of{K K':KS}(a:K'.entries=K.entries)(b:K'.at_=K.at_)(c:K'.w=K.w)(d:K'.out=K.out)(f:K'.clock.now=K.clock.now)(g:K'.wk.length=K.wk.length):Fr K K':=⟨a,b,f,c,g,fun e h=>Or.inl (d▸h)⟩
theorem kL(K:KS)(e:Ev):Fr K (tell K e):=⟨rfl,rfl,rfl,rfl,rfl,fun x a=>by
 rcases List.mem_append.1 a with h|h
 ·exact Or.inl h
 ·exact Or.inr (by rw[List.mem_singleton.1 h])⟩
theorem eF(K:KS)(i:Nat)(x:ay):Fr K (K.be i x):=Fr.of rfl rfl rfl rfl rfl (by simp[KS.be])
theorem jK(K:KS)(id:Int)(t:Thread):Fr K (K.cn id t):=Fr.of rfl rfl rfl rfl rfl rfl
theorem m0(K:KS)(c:bN)(f:cu):Fr K (K.cJ c f):=by
 cases c
 ·exact eF _ _ _
 ·exact jK _ _ _
theorem bW(K:KS)(c:bN)(k:Nat)(x:Int):Fr K (K.az c k x):=m0 _ _ _
theorem qy(K:KS)(c:bN):Fr K (K.fB c):=m0 _ _ _
theorem jL(K:KS)(id:Int):Fr K (cv K id):=Fr.of rfl rfl rfl rfl rfl rfl
theorem rO(C:KC)(K:KS)(i:Nat):Fr K (gJ C K i):=eF _ _ _
theorem kM(C:KC)(K:KS)(i:Nat):Fr K (dA C K i):=(eF _ _ _).trans (rO _ _ _)
theorem vB(K:KS)(a:Int):Fr K (hA K a).2:=Fr.of rfl rfl rfl rfl rfl rfl
theorem tW(K:KS)(a:Int):Fr K (jc K a):=Fr.of rfl rfl rfl rfl rfl rfl
theorem bd{K A B:KS}{p:Prop} [Decidable p](a:Fr K A)(b:Fr K B):Fr K (if p then A else B):=by
 split
 ·exact a
 ·exact b
theorem qz(K:KS)(id a:Int):Fr K (ek K id a):=bd (tW _ _) (Fr.refl _)
theorem kg(S:aO)(id:Int):(S.bp id).2.now=S.now:=by
 unfold aO.bp
 split<;>rfl
theorem BU(S:aO)(id dl:Int):(S.arm id dl).2.now=S.now:=by
 unfold aO.arm;split
 ·rfl
 ·split
  ·rfl
  ·split<;>rfl
theorem zj(C:KC)(K:KS)(i:Nat)(id:Int):Fr K (mQ C K i id):=by
 unfold mQ;refine Fr.trans ?_ (qz _ _ _);have a:∀A:KS,Fr K A->Fr K ({dA C A i with ai:=ft (dA C A i).ai id}:KS):=fun A h=>(h.trans (kM C A i)).trans (Fr.of rfl rfl rfl rfl rfl rfl)
 refine a _ ?_;refine Fr.trans ?_ (kL _ _);exact Fr.of rfl rfl rfl rfl (kg _ _) rfl
theorem mu(K:KS)(id num code v:Int):Fr K (dn K id num code v):=by
 unfold dn;refine Fr.trans ?_ (kL _ _);exact(bW _ _ _ _).trans (bW _ _ _ _)
theorem ps(K:KS)(id code v:Int):Fr K (eD K id code v):=(jK _ _ _).trans (mu _ _ _ _ _)
theorem vC(K:KS)(id:Int)(c:bN)(x:aR):Fr K (da K id c x):=by
 unfold da;exact bd (Fr.refl _) (bd (kL _ _) (Fr.refl _))
theorem vD(C:KC)(K:KS)(id:Int)(k:Nat)(num:Int):Fr K (g9 C K id k num):=by
 unfold g9;dsimp only;exact(kL _ _).trans (bd (mu _ _ _ _ _) (jK _ _ _))
theorem vE(C:KC)(K:KS)(i:Nat)(id:Int)(k:Nat)(v:Int):Fr K (eX C K i id k v):=by
 unfold eX;dsimp only;refine((bW _ _ _ _).trans (qy _ _)).trans (bd (vD _ _ _ _ _) ?_);refine Fr.trans ?_ (zj _ _ _ _);exact Fr.of rfl rfl rfl rfl rfl rfl
theorem vF(K:KS)(i:Nat)(id:Int):Fr K (eK K i id):=by
 unfold eK;exact bd (Fr.refl _) (bd (Fr.refl _) (bd (Fr.refl _) (eF _ _ _)))
theorem vG(K:KS)(i:Nat)(id:Int):Fr K (eo K i id):=by
 unfold eo;refine bd (jL _ _) ?_;exact Fr.th (eF _ _ _) (Fr.of rfl rfl rfl rfl rfl rfl)
theorem qA(K:KS)(p r:Int):Fr K (bL K p r).2:=by
 unfold bL;split
 ·exact Fr.of rfl rfl rfl rfl rfl rfl
 ·dsimp only
  split
  ·exact Fr.th (tW _ _) (Fr.of rfl rfl rfl rfl rfl rfl)
  ·exact Fr.of rfl rfl rfl rfl rfl rfl
theorem cw{K:KS}{A B:Int×KS}{p:Prop} [Decidable p](a:Fr K A.2)(b:Fr K B.2):Fr K (if p then A else B).2:=by
 split
 ·exact a
 ·exact b
theorem rP(C:KC)(K:KS)(i:Nat)(id:Int)(c:bN)(x:aR):Fr K (aD C K i id c x).2:=by
 unfold aD;dsimp only;refine cw (cw (Fr.of rfl rfl rfl rfl (BU _ _ _) rfl) (Fr.of rfl rfl rfl rfl rfl rfl)) (cw ?_ (cw (Fr.of rfl rfl rfl rfl rfl rfl) (cw (Fr.of rfl rfl rfl rfl rfl rfl) (cw (zj _ _ _ _) (cw ?_ (cw (cw (jK _ _ _) (Fr.refl _)) (cw (ps _ _ _ _) (Fr.refl _))))))))
 ·split
  ·exact Fr.th (kM _ _ _) (Fr.of rfl rfl rfl rfl rfl rfl)
  ·exact bW _ _ _ _
 ·exact(jL _ _).trans (kM _ _ _)
theorem rQ(K:KS)(i:Nat)(c:bN)(x:aR):Fr K (bf K i c x).2:=by
 unfold bf;dsimp only;refine cw ?_ ?_
 ·refine cw (Fr.of rfl rfl rfl rfl rfl rfl) ?_
  exact Fr.th (eF _ _ _) (Fr.of rfl rfl rfl rfl rfl rfl)
 ·split
  ·exact Fr.of rfl rfl rfl rfl rfl rfl
  ·refine cw ?_ ?_
   ·exact Fr.th (vF _ _ _) (Fr.th (bW _ _ _ _) (Fr.of rfl rfl rfl rfl rfl rfl))
   ·exact Fr.th (bW _ _ _ _) (Fr.of rfl rfl rfl rfl rfl rfl)
theorem zk(K:KS)(i:Nat)(c:bN)(x:aR):Fr K (bY K i c x):=by
 unfold bY;dsimp only;refine bd (vF _ _ _) (bd (bd ((jL _ _).trans (eF _ _ _)) (Fr.refl _)) (bd ?_ (bd (bd ?_ (Fr.refl _)) (Fr.refl _))))
 ·refine(bW _ _ _ _).trans (bd ?_ (Fr.refl _))
  exact Fr.th (bW _ _ _ _) (Fr.th (eF _ _ _) (Fr.of rfl rfl rfl rfl rfl rfl))
 ·exact(eF _ _ _).trans (Fr.of rfl rfl rfl rfl rfl rfl)
theorem wZ(K:KS)(c:bN)(x:aR):Fr K (bh K c x):=by
 unfold bh;dsimp only;refine bd ?_ (bd (bd (tW _ _) (Fr.refl _)) (bd (bd ?_ (bW _ _ _ _)) (bd (Fr.of rfl rfl rfl rfl rfl rfl) (Fr.refl _))))
 ·refine(bW _ _ _ _).trans (bd ?_ (Fr.refl _))
  exact Fr.th (bW _ _ _ _) (Fr.of rfl rfl rfl rfl rfl rfl)
 ·exact Fr.th (bW _ _ _ _) (Fr.of rfl rfl rfl rfl rfl rfl)
theorem w5(C:KC)(K:KS)(i:Nat)(c:bN)(x:aR):Fr K (bA C K i c x):=by
 unfold bA;dsimp only;refine bd (bd ?_ (bW _ _ _ _)) (bd ?_ (bd ?_ (bd (bW _ _ _ _) (bd (bW _ _ _ _) (bW _ _ _ _)))))
 ·refine Fr.trans ?_ (bW _ _ _ _)
  exact bd ((qA _ _ _).trans (vG _ _ _)) (qA _ _ _)
 ·refine Fr.trans ?_ (bW _ _ _ _)
  exact bd (Fr.th (qz _ _ _) (Fr.of rfl rfl rfl rfl rfl rfl)) (Fr.of rfl rfl rfl rfl rfl rfl)
 ·refine Fr.trans ?_ (bW _ _ _ _)
  exact bd (Fr.th (qz _ _ _) (Fr.of rfl rfl rfl rfl rfl rfl)) (Fr.of rfl rfl rfl rfl rfl rfl)
theorem rR(K:KS)(i:Nat)(c:bN)(x:aR):Fr K (bk K i c x):=by
 unfold bk;dsimp only;refine bd (bd ?_ ?_) (bd ?_ (bd (bW _ _ _ _) (bW _ _ _ _)))
 ·refine Fr.trans ?_ (bW _ _ _ _)
  have h:∀A:KS,Fr K A->Fr K (if cE A (eJ K.q ((K.F c).r x.b.toNat) ((K.F c).r x.c.toNat)).1=3 then eo A i (eJ K.q ((K.F c).r x.b.toNat) ((K.F c).r x.c.toNat)).1 else A):=fun A a=>bd (a.trans (vG _ _ _)) a
  refine h _ (bd ?_ ?_)
  ·exact Fr.th (jK _ _ _) (Fr.of rfl rfl rfl rfl (kg _ _) rfl)
  ·exact Fr.of rfl rfl rfl rfl (kg _ _) rfl
 ·exact Fr.th (bW _ _ _ _) (Fr.of rfl rfl rfl rfl rfl rfl)
 ·exact Fr.th (bW _ _ _ _) (Fr.of rfl rfl rfl rfl rfl rfl)
theorem tX(C:KC)(K:KS)(i:Nat)(id:Option Int)(c:bN)(x:aR):Fr K (aB C K i id c x).2:=by
 unfold aB;refine cw ?_ (cw (rQ _ _ _ _) (cw ?_ (cw (zk _ _ _ _) (cw (wZ _ _ _) (cw (w5 _ _ _ _ _) (cw (rR _ _ _ _) (cw (Fr.refl _) (bW _ _ _ _))))))))
 ·split
  ·exact Fr.refl _
  ·exact rP _ _ _ _ _ _
 ·dsimp only
  exact cw ((vB _ _).trans (eF _ _ _)) ((vB _ _).trans (eF _ _ _))
theorem zl(C:KC)(K:KS)(c:bN):Fr K (cF C K c).2.2:=by
 unfold cF;exact Fr.th (m0 _ _ _) (Fr.of rfl rfl rfl rfl rfl rfl)
theorem zm(C:KC)(K:KS)(i:Nat)(id:Option Int)(c:bN):Fr K (eE C K i id c).2.2:=by
 unfold eE;dsimp only;have h:=zl C K c;have g:=fun x=>tX C (cF C K c).2.2 i id c x
 split
 ·split
  ·exact(h.trans (g _)).trans (qy _ _)
  ·split
   ·exact h.trans (g _)
   ·exact h.trans (g _)
 ·exact h
theorem D0(C:KC)(K:KS)(i:Nat):Fr K (ke C K i):=by
 unfold ke;dsimp only;refine(eF K i {K.W i with parked:=false}).trans ?_;have h:=zm C (K.be i {K.W i with parked:=false}) i none (.own i);exact bd (h.trans (vC _ _ _ _)) (bd (h.trans (rO _ _ _)) h)
theorem tY(C:KC)(K:KS)(i:Nat)(id:Int)(k:Nat):Fr K (cG C K i id k):=by
 unfold cG;dsimp only;have h:=zm C K i (some id) (.ai id k);exact bd (h.trans (vC _ _ _ _)) (bd (h.trans (ps _ _ _ _)) h)
theorem w6{c:Type}(P:c->Prop)(acc:c->Int->Int->Int->Int->Option Int×c)(d:∀S k a g v,P S->P (acc S k a g v).2)(l:List aR)(f:cu)(S:c)(b:P S):P (a' acc l f S).2.2:=by
 have e:∀x r,P (bQ acc S x r).2:=fun x r=>by
  unfold bQ;dsimp only
  repeat' split
  all_goals first|exact b|exact d _ _ _ _ _ b
 unfold a';split
 ·exact b
 ·split
  ·exact b
  ·split
   ·exact b
   ·split
    ·exact b
    ·split
     ·rename_i x _ _ _ _
      have h:=e x f.r;split
      ·rename_i q;rw[q]at h;exact h
      ·rename_i q;rw[q]at h;exact h
     ·split
      ·exact b
      ·exact b
theorem w7(C:KC)(K:KS)(i:Nat)(id:Int)(k:Nat):Fr K (bV C K i id k):=by
 unfold bV;dsimp only;obtain⟨s,d⟩:=nm (a' (bE C K id (ff C.a8 (K.F (.ai id k)).pc).op) C.a8 (K.F (.ai id k)) (K.mem,K.out));have j:∀e∈s.2.2.2,e∈K.out∨e.at_=K.at_:=by
  rw[<-d];refine w6 (fun S:aA×List Ev=>∀e∈S.2,e∈K.out∨e.at_=K.at_) _ (fun S q a l v c=> ?_) _ _ _ (fun e h=>Or.inl h);unfold bE;split
  ·exact c
  ·dsimp only
   split
   ·exact c
   ·intro e g
    rcases List.mem_append.1 g with h|h
    ·exact c e h
    ·exact Or.inr (by rw[List.mem_singleton.1 h])
 rw[d];have f:Fr K ({K with mem:=s.2.2.1,out:=s.2.2.2}:KS):=⟨rfl,rfl,rfl,rfl,rfl,j⟩;have b:=f.trans (m0 _ (.ai id k) s.2.1);refine bd (b.trans ((qy _ _).trans (vD _ _ _ _ _))) (bd (bd (b.trans (jK _ _ _)) (b.trans (vE _ _ _ _ _ _))) (bd (b.trans ((kL _ _).trans (vE _ _ _ _ _ _))) b))
theorem BV(C:KC)(K:KS)(i:Nat):Fr K (eY C K i):=by
 unfold eY;dsimp only;refine bd (D0 _ _ _) (bd ((jL _ _).trans (kM _ _ _)) ?_);exact(eF _ _ _).trans (bd (tY _ _ _ _ _) (w7 _ _ _ _ _))
theorem qB(K:KS)(id:Int):(cD K id).entries=K.entries/\(cD K id).at_=K.at_/\(cD K id).clock=K.clock/\(cD K id).w=K.w/\(cD K id).out=K.out/\(cD K id).wk=K.wk:=by
 unfold cD;dsimp only
 repeat' split
 all_goals exact⟨rfl,rfl,rfl,rfl,rfl,rfl⟩
theorem nF:∀(l:List Int) (K:KS),(l.foldl cD K).entries=K.entries/\(l.foldl cD K).at_=K.at_/\(l.foldl cD K).clock=K.clock/\(l.foldl cD K).w=K.w/\(l.foldl cD K).out=K.out/\(l.foldl cD K).wk=K.wk
 |[],K=>⟨rfl,rfl,rfl,rfl,rfl,rfl⟩
 |id::l,K=>by
  obtain⟨a1,a2,a3,a,b,c⟩:=nF l (cD K id);obtain⟨d,e,f,g,h,i⟩:=qB K id;exact⟨a1.trans d,a2.trans e,a3.trans f,a.trans g,b.trans h,c.trans i⟩
theorem nG:∀(n:Nat) (S:aO) (l:List Int),(ei n S l).1.now=S.now
 |0,S,l=>by unfold ei;rfl
 |n+1,S,l=>by
  unfold ei
  repeat' split
  all_goals first|rfl|exact nG n _ _
theorem vH(C:KC)(K:KS)(wk draw:Int)(h:K.out=[]):
 (fk C K 2 wk draw).1=[⟨6,K.entries,-1,0,0,0,0,0,0,IntKind.u64.wrap (K.clock.now+1),0⟩]/\(fk C K 2 wk draw).2.entries=wrap64 (K.entries+1)/\(fk C K 2 wk draw).2.clock.now=IntKind.u64.wrap (K.clock.now+1)/\(fk C K 2 wk draw).2.out=[]/\(fk C K 2 wk draw).2.wk.length=K.wk.length:=by
 have a:(K.clock.tick).1.now=IntKind.u64.wrap (K.clock.now+1):=nG _ _ _;unfold fk;dsimp only;rw[if_pos rfl];unfold ha;dsimp only;obtain⟨a1,a2,a3,d,b,c⟩:=nF (K.clock.tick).2 (tell ({K with at_:=K.entries,w:=-1,draw:=draw,entries:=wrap64 (K.entries+1),clock:=(K.clock.tick).1}:KS) ⟨6,0,0,0,0,0,0,0,0,(K.clock.tick).1.now,0⟩);refine⟨?_,?_,?_,rfl,?_⟩
 ·rw[b]
  show K.out++[_]=_
  rw[h,a];rfl
 ·rw[a1];rfl
 ·rw[a3];exact a
 ·rw[c];rfl
theorem Df(C:KC)(K:KS)(kind wk draw:Int)(h:K.out=[])(d:kind≠2):
 (∀e∈(fk C K kind wk draw).1,e.at_=K.entries)/\(fk C K kind wk draw).2.entries=wrap64 (K.entries+1)/\(fk C K kind wk draw).2.clock.now=K.clock.now/\(fk C K kind wk draw).2.out=[]/\(fk C K kind wk draw).2.wk.length=K.wk.length:=by
 unfold fk;dsimp only;rw[if_neg d];split
 ·split
  ·have f:=BV C ({K with at_:=K.entries,w:=wk,draw:=draw,entries:=wrap64 (K.entries+1)}:KS) wk.toNat
   refine⟨fun e b=> ?_,f.De,f.now,rfl,f.wl⟩;rcases f.out e b with c|c
   ·have a:e∈K.out:=c
    rw[h]at a;cases a
   ·exact c
  ·refine⟨fun e b=> ?_,rfl,rfl,rfl,rfl⟩
   have a:e∈K.out:=b;rw[h]at a;cases a
 ·refine⟨fun e b=> ?_,rfl,rfl,rfl,rfl⟩
  have a:e∈K.out:=b;rw[h]at a;cases a
def GC(ok:Bool)(qb lb mb:Nat)(a:List (List Sl))(b:List (List fO))(w:World)(e:Ending)(w':World):Prop:=∃v,(if ok then v=.nilIface else ar v)/\zn v qb lb mb a b w e w'
theorem zL(qb lb mb:Nat)(c:List (List Sl))(id o mask:Int)(w:World)(h:im w qb lb mb c):
 Calls prog 186 #[(qb,0),.int .u64 id,.int .u64 o,.int .u64 mask] w (GC (kK (bZ c) id o mask).1 qb lb mb c (kK (bZ c) id o mask).2 w):=by
 have H:=Z h;obtain⟨m,N,bv,O⟩:=h.map;have c9:=h.head.k 1 rfl;have C:=fu (P:=prog) (w:=w) (T:=212) (K:=56) (E:=252) (z:=.pointer none) underlying212 underlying56 (by kernel_rfl) N id;rw[O]at C;obtain⟨r,v⟩:=nm (c.flatten.find? (fun s=>s.id==id));rw[v]at C;have J:=Z (jd c id);rw[v]at J;have p:=Z (And.intro N (And.intro bv O));have c7:=Z v;clear h N bv O v;cases G:id==0
 ·have ck:(id !=0)=true:=by simpa using G
  cases r with
  |some s=>
   have E:Hid (kK (bZ c) id o mask=(false,bZ c)):=Z (by unfold kK;rw[G,J];rfl);simp only[Option.map_some,Option.getD_some,bj]at C;go_in
   go_wp2_with (go_at_call 92;refine(pw _ _ _).mono ?_;rintro e w' ⟨rfl,rfl⟩)
   go_ret;rw[E];exact⟨_,ar.mk _ _,rfl,c,H.af ((Ch.refl _ _).alloc _),rfl,(Ch.refl _ _).alloc _,fun s d=>Or.inl ⟨s,d,rfl⟩,fun x a=>(H.af ((Ch.refl _ _).alloc _)).Bm a⟩
  |none=>
   simp only[Option.map_none,Option.getD_none]at C;obtain⟨k,hb,bi,al⟩:=kh o;obtain⟨l,n⟩:∃l,c[k]?=some l:=⟨_,List.getElem?_eq_getElem (by rw[H.len];exact bi)⟩;obtain⟨s,d⟩:∃s:Sl,s=⟨id,o,mask,w.heap.size⟩:=⟨_,rfl⟩;have E:Hid (kK (bZ c) id o mask=(true,bZ (c.set k (l++[s])))):=Z (by
    unfold kK;rw[G,J];simp only[Option.map_none];rw[px c k l s n (by rw[d];exact al),d];rfl)
   obtain⟨X,Y,a3,ab⟩:=vI (s:=s) n;have S:∀x∈c.flatten,x.b≠w.heap.size:=(fun x a=>Nat.ne_of_lt (H.apart a).2.2.2);have c0:∀x∈c.flatten,x.id≠id:=fun x a e=>by
    have:=List.find?_eq_none.1 c7 x a;simp[e]at this
   have bx:((l++[s]).map Sl.b).Nodup:=by
    have cb:(l.map Sl.b).Nodup:=by
     refine List.Nodup.sublist ?_ H.nd;rw[(er n).1];exact List.Sublist.map _ ((List.sublist_append_right _ _).trans (List.sublist_append_left _ _))
    have:=py (X:=l) (Y:=[]) (s:=s) (f:=Sl.b) (by simpa using cb) (fun x a=>by rw[d];exact S x (br n (by simpa using a)));simpa using this
   have c4:=Z (fun w pv ci cf ce cd v=>rU qb lb k (.map (some mb)) pv ci c l s w cf ce H.len n cd (by rw[d];exact hb) v bx);have b:=Z (And.intro n (And.intro a3 (And.intro ab (And.intro S (And.intro c0 (And.intro d hb))))));obtain⟨w1,W⟩:=nm (w.alloc (.cells #[.int .u64 id,.int .u64 o,.int .u64 mask,.pointer none,.pointer none] 256));have I:=Z (Ch.al (D:=ag) W);have c6:=Z (Row.al W);have F:=Z (H.af I);have d1:=F.head.k 1 rfl;obtain⟨w2,c2,a2,a1⟩:=fv (P:=prog) (T:=212) (K:=56) (E:=252) (enc:=bj) underlying212 underlying56 (p.1.ch I (fun h=>h)) id w.heap.size;simp only[bj]at c2;have c5:=Z a2;have A:=Z a1;clear n hb al bi d a3 ab S c0 bx a2 a1;go_in
   go_wp2_with fail
   have B:∀x∈c.flatten,x.b≠qb/\x.b≠lb/\x.b≠mb:=(fun x a=>⟨(H.apart a).1,(H.apart a).2.1,(H.apart a).2.2.1⟩);have bw:mb≠qb:=p.1.ne H.head;have Q:mb≠lb:=p.1.ne H.ends;have V:=F.head.ch A (fun e=>bw (show mb=qb from Eq.symm e));have ap:=F.ends.ch A (fun e=>Q (show mb=lb from Eq.symm e));have L:∀k l,c[k]?=some l->bJ w2 none none l:=(fun k l n=>(F.chain k l n).ch A (fun x a e=>(B x (br n a)).2.2 e));have R:mb<w.heap.size:=p.1.lt;have c1:=c6.ch A (fun e=>Nat.ne_of_lt R (show w.heap.size=mb from e).symm);have d:=b.2.2.2.2.2.1;have M:=c4 w2 (.pointer none) (.pointer none) V ap (L k _ b.1) (by rw[d];exact c1);rw[show s.b=w.heap.size from by rw[d]]at M;refine M.mono ?_;rintro e w3 ⟨rfl,av,am,q⟩;rw[show s.b=w.heap.size from by rw[d]]at q;have ad:Ch (QD qb lb mb c) w w3:=by
    refine((I.af.trans (A.mono ?_)).join q ?_)
    ·intro i t;exact Or.inr (Or.inr (Or.inl t))
    ·rintro i t (e|e|⟨x,a,e⟩)
     ·exact Or.inr (Or.inl e)
     ·omega
     ·exact Or.inr (Or.inr (Or.inr ⟨x,br b.1 a,e⟩))
   have U:∀x∈c.flatten,¬(x.b=w.heap.size):=b.2.2.2.1;have a0:Hid (im w3 qb lb mb (c.set k (l++[s]))):=Z {
    head:=V.ch q (by
     rintro(e|e|⟨x,a,e⟩)
     ·exact H.head.ne H.ends (by decide) e
     ·exact Nat.ne_of_lt H.head.lt e
     ·exact(B x (br b.1 a)).1 e)
    ends:=av
    len:=by rw[List.length_set];exact H.len
    chain:=fun j mm g=>by
     by_cases u:k=j
     ·subst u
      rw[List.getElem?_set_self (List.getElem?_eq_some_iff.1 b.1).1]at g;rw[<-Option.some.inj g];exact am
     ·rw[List.getElem?_set_ne u]at g
      refine(L j mm g).ch q (fun x a=> ?_);rintro(e|e|⟨y,ch,e⟩)
      ·exact(B x (br g a)).2.1 e
      ·exact U x (br g a) e
      ·exact kO H.nd b.1 g (fun e=>u e.symm) ch a e
    map:=by
     refine⟨_,c5.ch q ?_,p.2.1.put _ _,fun i=> ?_⟩
     ·rintro(e|e|⟨x,a,e⟩)
      ·exact Q e
      ·exact Nat.ne_of_lt R e
      ·exact(B x (br b.1 a)).2.2 e
     ·rw[aV,b.2.2.1]
      have ax:=p.2.2 i;rw[b.2.1]at ax;by_cases t:i=id
      ·subst t
       rw[if_pos rfl,List.find?_append];have:X.find? (fun x=>x.id==i)=none:=List.find?_eq_none.2 fun x a=>by
        have:=b.2.2.2.2.1 x (by rw[b.2.1];simp[a]);simpa using this
       rw[this];simp[d]
      ·rw[if_neg t,ax,List.find?_append,List.find?_append,List.find?_cons]
       have:(s.id==i)=false:=(by rw[d];simpa using fun e:id=i=>t e.symm);rw[this]
    nd:=by rw[b.2.2.1];exact py (b.2.1▸H.nd) (fun x a=>by rw[d];exact U x (by rw[b.2.1];exact a))
    yR:=by rw[b.2.2.1];exact py (b.2.1▸H.yR) (fun x a=>by rw[d];exact b.2.2.2.2.1 x (by rw[b.2.1];exact a))
    at_:=fun j mm g x a=>by
     by_cases u:k=j
     ·subst u
      rw[List.getElem?_set_self (List.getElem?_eq_some_iff.1 b.1).1]at g;rw[<-Option.some.inj g]at a;rcases List.mem_append.1 a with a|a
      ·exact H.at_ k _ b.1 x a
      ·have:x=s:=by simpa using a
       rw[this,d];exact b.2.2.2.2.2.2
     ·rw[List.getElem?_set_ne u]at g
      exact H.at_ j mm g x a}
   have c3:=Z ad;have c8:=Z d;clear B bw Q V ap L R c1 d M av am q ad U c2 C d1 W c9;go_wp2
   go_ret;rw[E];refine⟨_,rfl,rfl,_,a0,rfl,c3,fun x a=> ?_,fun x a=>a0.Bm ?_⟩
   ·rw[b.2.2.1]at a
    rcases List.mem_append.1 a with a|a
    ·exact Or.inl ⟨x,by rw[b.2.1];simp[a],rfl⟩
    ·rcases List.mem_cons.1 a with rfl|a
     ·exact Or.inr (by rw[c8];exact Nat.le_refl _)
     ·exact Or.inl ⟨x,by rw[b.2.1];simp[a],rfl⟩
   ·rw[b.2.1]at a
    rw[b.2.2.1];simp at a⊢;rcases a with a|a<;>simp[a]
 ·have E:Hid (kK (bZ c) id o mask=(false,bZ c)):=Z (by unfold kK;rw[G];rfl)
  go_in
  go_wp2_with (go_at_call 92;refine(pw _ _ _).mono ?_;rintro e w' ⟨rfl,rfl⟩)
  go_ret;rw[E];exact⟨_,ar.mk _ _,rfl,c,H.af ((Ch.refl _ _).alloc _),rfl,(Ch.refl _ _).alloc _,fun s d=>Or.inl ⟨s,d,rfl⟩,fun x a=>(H.af ((Ch.refl _ _).alloc _)).Bm a⟩
section
theorem sk(l:List (Int×Thread))(k:Int)(v:Thread)(g:Int->Nat)(b:Nat)(h:aw l k=none):b8 (l.map fun x=>(x.1,g x.1)) k b=(b8 l k v).map fun x=>(x.1,if x.1=k then b else g x.1):=by
 induction l with
 |nil=>simp[kD]
 |cons x l ih=>
  rw[cX]at h;have a:k≠x.1:=fun e=>by rw[if_pos e]at h;cases h
  rw[if_neg a]at h;rw[List.map_cons,dW,dW,if_neg a,if_neg a,ih h,List.map_cons,if_neg (fun e=>a e.symm)]
def Dr:Nat->Int:=fun _=>0
section
variable{w w':World}{χ:Nat->aX}{L:cz}{Y:Var}{C:KC}{K:KS}
theorem ae.GD(h:ae w χ L Y C K){id:Int}(E:aw K.ai id=none){f:Frame}{bv:Value}{fb g tb:Nat}(H:aJ w fb 0 179 [] f.post bv f.f)(G:bv.ownBlock=none)
 (I:w.ownsRow 0 177 1 (.slice (some (g,0)) 1 1) 1 [bj fb]) (J:Row w tb 176 [.int .u64 id,.slice (some (g,0)) 1 1,.int .u64 0]) (o:χ fb=.no) (p:χ g=.no) (r:χ tb=.no) (P:g≠fb) (T:tb≠fb) (Q:g≠tb)
 (R:bR w' L.tm .u64 bj (b8 (K.ai.map fun x=>(x.1,Y.bH x.1)) id tb)) (c:Ch (aL L.tm) w w'):
 ∃aY Y',ae w' aY L Y' C {K with ai:=b8 K.ai id ⟨id,[f],0⟩}/\(∀i,i<w.heap.size->χ i≠ .no->aY i=χ i)/\(∀i,aY i≠ .no->χ i≠ .no∨i=fb∨i=g∨i=tb)/\Yk K Y Y':=by
 have B:=h.tm (by simp);have s:eQ [.tm] χ χ (aL L.tm) w w':=eQ.one c (fun i d=>by rw[show i=L.tm from d];simp[B.k]) h.small;have base:=h.step s (by simp);obtain⟨aY,A⟩:∃aY:Nat->aX,aY=fun i=>if i=fb then .fr id 0 else if i=g then .tl id else if i=tb then .th id else χ i:=⟨_,rfl⟩
 have a:∀{i:Nat} {k:aX},χ i=k->k≠ .no->aY i=k:=fun {i k} d y=>by
  rw[A];dsimp only;rw[if_neg (fun e=>y (by rw[<-d,e,o])),if_neg (fun e=>y (by rw[<-d,e,p])),if_neg (fun e=>y (by rw[<-d,e,r]))];exact d
 have F:∀{i},χ i=.no->i≠L.tm:=fun {i} d e=>by rw[e,B.k]at d;cases d
 have M:MB [.tm] w' aY L Y C K:={
  head:=fun m=>⟨(base.head (by simp)).row,(base.head (by simp)).rows,a (base.head (by simp)).k (by simp)⟩
  mem:=fun m=>⟨(base.mem (by simp)).is,a (base.mem (by simp)).k1 (by simp),a (base.mem (by simp)).k2 (by simp),a (base.mem (by simp)).k3 (by simp)⟩
  al:=fun m=>⟨(base.al (by simp)).is,a (base.al (by simp)).k1 (by simp),fun q l=>a ((base.al (by simp)).k2 q l) (by simp)⟩
  b0:=fun m=>⟨(base.b0 (by simp)).is,a (base.b0 (by simp)).k1 (by simp),a (base.b0 (by simp)).k2 (by simp),a (base.b0 (by simp)).k3 (by simp),a (base.b0 (by simp)).k4 (by simp),fun q l=>a ((base.b0 (by simp)).k5 q l) (by simp)⟩
  ring:=fun m=>⟨(base.ring (by simp)).is,a (base.ring (by simp)).k1 (by simp),a (base.ring (by simp)).k2 (by simp)⟩
  q:=fun m=>⟨(base.q (by simp)).is,(base.q (by simp)).bZ,fun i d=>a ((base.q (by simp)).k i d) (by simp)⟩
  cU:=fun m=>⟨(base.cU (by simp)).is,a (base.cU (by simp)).k1 (by simp),a (base.cU (by simp)).k2 (by simp)⟩
  obj:=fun m=>⟨(base.obj (by simp)).is,a (base.obj (by simp)).k1 (by simp),a (base.obj (by simp)).k2 (by simp)⟩
  tm:=fun m=>absurd (by simp) m
  th:=fun j u n m=>⟨(base.th j u n (by simp)).is,a (base.th j u n (by simp)).k (by simp)⟩
  tl:=fun j u n m=>⟨(base.tl j u n (by simp)).is,fun q l=>a ((base.tl j u n (by simp)).k q l) (by simp)⟩
  fr:=fun j u k D n y m=>⟨(base.fr j u k D n y (by simp)).is,a (base.fr j u k D n y (by simp)).kf (by simp),fun q l=>a ((base.fr j u k D n y (by simp)).kb q l) (by simp)⟩
  wk:=fun m=>⟨(base.wk (by simp)).is,a (base.wk (by simp)).k (by simp),(base.wk (by simp)).back,fun i x z q l=>a ((base.wk (by simp)).kb i x z q l) (by simp),(base.wk (by simp)).n⟩
  out:=fun m=>⟨(base.out (by simp)).is,fun q l=>a ((base.out (by simp)).k q l) (by simp)⟩
  code:=fun m=>{
   mR:=(base.code (by simp)).mR
   je:=(base.code (by simp)).je
   mT:=(base.code (by simp)).mT
   b7:=fun z=>by obtain⟨q,o,p,r⟩:=(base.code (by simp)).b7 z;exact⟨q,o,p,a r (by simp)⟩
   prog:=fun z=>by obtain⟨q,o,p,r⟩:=(base.code (by simp)).prog z;exact⟨q,o,p,a r (by simp)⟩
   calls:=fun z=>by obtain⟨q,j,o,p,r⟩:=(base.code (by simp)).calls z;exact⟨q,j,o,p,a r (by simp)⟩}
  small:=fun i d=>by
   rw[A]at d;dsimp only at d;split at d
   ·rename_i e;rw[e];exact Nat.lt_of_lt_of_le H.row.lt c.size
   ·split at d
    ·rename_i e;rw[e];exact Nat.lt_of_lt_of_le (cH I (g:=g) rfl) c.size
    ·split at d
     ·rename_i e;rw[e];exact Nat.lt_of_lt_of_le J.lt c.size
     ·exact base.small i d}
 have N:=H.ch c (fun e=>F o e) (fun q l=>by rw[G]at l;cases l);have O:=aj I c (fun q l e=>F p (by
  have:g=q:=by simpa[Value.ownBlock]using l
  rw[this];exact e))
 have S:=J.ch c (fun e=>F r e);refine⟨aY,_,M.Fj (t:=⟨id,[f],0⟩) (f:=f) (v:=.slice (some (g,0)) 1 1) (bv':=bv) (b:=tb) (fbk:=fb) E rfl ⟨?_,a B.k (by simp),B.nd.put _ _⟩ ⟨S,?_⟩ ⟨by simpa using O,?_⟩ ⟨N,?_,fun q l=>by rw[G]at l;cases l⟩,fun i d m=>a rfl m,?_,?_⟩
 ·rw[<-sk _ _ _ _ _ E];exact R
 ·rw[A];dsimp only;rw[if_neg T,if_neg (fun e=>Q e.symm),if_pos rfl]
 ·intro q l
  have:g=q:=by simpa[Value.ownBlock]using l
  rw[<-this,A];dsimp only;rw[if_neg P,if_pos rfl]
 ·rw[A];dsimp only;rw[if_pos rfl]
 ·intro i d
  rw[A]at d;dsimp only at d;split at d
  ·rename_i e;exact Or.inr (Or.inl e)
  ·split at d
   ·rename_i e;exact Or.inr (Or.inr (Or.inl e))
   ·split at d
    ·rename_i e;exact Or.inr (Or.inr (Or.inr e))
    ·exact Or.inl d
 ·intro j u n
  have e:j≠id:=fun e=>by rw[e,E]at n;cases n
  exact⟨if_neg e,fun k _=>if_neg e⟩
theorem m1{S:a6}{M:aA}{n a:Nat}(b:S.Ok)(h:(dd S M n).1=some a):a<=140000:=by
 unfold dd at h;split at h
 ·cases h
 ·split at h
  ·cases h
  ·rename_i i d
   split at h
   ·have:S.ej i=a:=by simpa using h
    rw[<-this];unfold a6.ej;split
    ·have:=b.from_;omega
    ·split
     ·rename_i x c;have:=b.l x (List.mem_of_getElem? c);omega
     ·omega
   ·cases h
def iQ(place a:Int):Frame:=⟨⟨place,fun j=>if j=0 then a else 0,[]⟩,false,0⟩
theorem xn(place c:Int)(a0:K.blocks.Ok)(a1:(dd K.blocks K.mem 1).2.1.Ok)(bx:∀M id,(df K.table M).1=some id->aw K.ai id=none)(h:ae w χ L Y C K):
 Calls prog 58 #[(L.mb,0),place,.int .u64 c] w (dj (.int .u64 (bL K place c).1) χ L Y C K (bL K place c).2 w):=by
 have H:=Z h;have A:=h.o4;have J:=Z (r2 1 (by omega) a0 h);obtain⟨p,N⟩:=nm (dd K.blocks K.mem 1);have hle:∀a,p.1=some a->a<=140000:=fun a bw=>m1 a0 (by rw[N];exact bw)
 rw[N]at J a1;obtain⟨cq,B1,ap⟩:=p;have R:=Z N;have c8:=Z a1;have ce:=Z bx;clear h N a0 a1 bx;cases cq with
 |none=>
  have E:Hid (bL K place c=(0,{K with blocks:=B1,mem:=ap})):=Z (by unfold bL;rw[R]);clear hle;go_in
  go_wp2_with fail
  refine J.mono ?_;rintro e w1 ⟨⟨u,rfl,a3⟩,ab,S,b⟩;obtain⟨tt,cS,rfl⟩:=a3;have y:=Z b;clear b A;go_wp2
  go_ret;rw[E];exact⟨rfl,ab,S,y⟩
 |some a=>
  have bw:=hle a rfl;have dN:IntKind.u64.wrap (a:Int)=a:=by unfold IntKind.wrap IntKind.bits IntKind.signed;simp;omega
  obtain⟨K1,X⟩:=mn (({K with blocks:=B1,mem:=ap}:KS));have j:=Z X;have dC:(a:Int)<=140000:=by omega
  obtain⟨q,c1⟩:=nm (df K1.table (a:Int));obtain⟨cm,r⟩:=q;have z:=Z c1;have c9:Hid (K1.blocks.Ok):=Z (by rw[X];exact c8);clear hle X c1;cases cm with
  |none=>
   have E:Hid (bL K place c=(0,jc {K1 with table:=r} a)):=Z (by
    have:=z.out;rw[j]at this⊢;unfold bL;rw[R];dsimp only;rw[show df K.table (a:Int)=(none,r)from this])
   go_in
   go_wp2_with fail
   refine J.mono ?_;rintro e w1 ⟨rfl,ab,S,b⟩;rw[<-j]at b;have y:=Z b;have U:=b.at_.ea;have n:=r1 (a:Int) b.at_;rw[z]at n;have O:=Z n;clear b A n;go_wp2_with fail
   refine O.mono ?_;rintro e w2 ⟨⟨u,rfl,a3⟩,x,av,m⟩;obtain⟨tt,cS,rfl⟩:=a3;have k:=Z (y.trans (Gr.of_eq (by rw[j])) m);have A:=m.at_.o4;clear m U;go_wp2_with fail
   refine(zF (a:Int) (by exact c9) k.at_).mono ?_;rintro e w3 ⟨⟨v,rfl,_⟩,cW,cl,ax⟩;have c7:=Z (k.trans (Gr.of_eq (by rw[j])) ax);clear ax A;go_wp2
   go_ret;rw[E];exact⟨rfl,cW,cl,c7⟩
  |some id=>
   have c0:aw K.ai id=none:=ce (a:Int) id (by have:=z.out;rw[j]at this;rw[show df K.table (a:Int)=(some id,r)from this]);have cf:=Z c0;have E:Hid (bL K place c=(id,{K1 with table:=r,ai:=b8 K.ai id ⟨id,[iQ place c],0⟩})):=Z (by
    have:=z.out;rw[j]at this⊢;unfold bL;rw[R];dsimp only;rw[show df K.table (a:Int)=(some id,r)from this];rfl)
   clear c0;go_in
   go_wp2_with fail
   refine J.mono ?_;rintro e w1 ⟨rfl,ab,S,b⟩;rw[<-j]at b;have y:=Z b;have U:=b.at_.ea;have n:=r1 (a:Int) b.at_;rw[z]at n;have O:=Z n;clear b A n;go_wp2_with fail
   refine O.mono ?_;rintro e w2 ⟨rfl,x,av,m⟩;have k:=Z (y.trans (Gr.of_eq (by rw[j])) m);have V:=m.at_.hZ;have c6:=Z V;clear V;go_upto_region 11 with fail
   obtain⟨d,I⟩:=nm (w2.alloc (.cells #[place,.int .u64 c,.int .u64 0,.int .u64 0,.int .u64 0,.int .u64 0,.int .u64 0,.int .u64 0,.int .u64 0,.int .u64 0,.int .u64 0,.int .u64 0,.int .u64 0,.int .u64 0,.int .u64 0,.int .u64 0,.int .u64 0,.int .u64 0,.int .u64 0,.int .u64 0,.int .u64 0,.int .u64 0,.int .u64 0,.int .u64 0,.int .u64 0,.int .u64 0,.int .u64 0,.int .u64 0,.int .u64 0,.int .u64 0,.int .u64 0,.int .u64 0,.int .u64 0,.slice none 0 0,.bool false,.int .i64 0] 179));have al:=Z (Ch.al (D:=ag) I);have am:Hid (aJ d w2.heap.size 0 179 [] (iQ place c).post (.slice none 0 0) (iQ place c).f):=Z ⟨by
    have c2:=Row.new w2 #[place,.int .u64 c,.int .u64 0,.int .u64 0,.int .u64 0,.int .u64 0,.int .u64 0,.int .u64 0,.int .u64 0,.int .u64 0,.int .u64 0,.int .u64 0,.int .u64 0,.int .u64 0,.int .u64 0,.int .u64 0,.int .u64 0,.int .u64 0,.int .u64 0,.int .u64 0,.int .u64 0,.int .u64 0,.int .u64 0,.int .u64 0,.int .u64 0,.int .u64 0,.int .u64 0,.int .u64 0,.int .u64 0,.int .u64 0,.int .u64 0,.int .u64 0,.int .u64 0,.slice none 0 0,.bool false,.int .i64 0] 179;rw[I]at c2;exact c2,rfl,ct.nil _⟩
   have l:Hid (d.heap.size=w2.heap.size+1):=Z (by rw[<-I];simp);rw[I];clear I m U;have V:=(al.cell (aP c6.out) (fun h=>h)).trans c6.out;obtain⟨fb,a2⟩:=mn w2.heap.size;rw[<-a2]at am l⊢;have o:=Z a2;clear a2;obtain⟨w4,t⟩:=nm ((d.alloc (.cells #[(fb,0)] 177)).alloc (.cells #[.int .u64 id,.slice (some (d.heap.size,0)) 1 1,.int .u64 0] 176));have ad:Hid (Ch ag w2 w4):=Z (by rw[<-t];exact(al.alloc _).alloc _);have Q:Hid (ae w4 x L av C {K1 with table:=r}):=Z (k.at_.af ad);have ch:Hid (Row w4 d.heap.size 177 [bj fb]):=Z (by rw[<-t];exact(Row.new d _ _).alloc _);have ci:Hid (Row w4 (d.heap.size+1) 176 [.int .u64 id,.slice (some (d.heap.size,0)) 1 1,.int .u64 0]):=Z (by
    rw[<-t];have:=Row.new (d.alloc (.cells #[(fb,0)] 177)) #[.int .u64 id,.slice (some (d.heap.size,0)) 1 1,.int .u64 0] 176;rw[World.size_alloc]at this;exact this)
   have cd:Hid (aJ w4 fb 0 179 [] (iQ place c).post (.slice none 0 0) (iQ place c).f):=Z (by
    rw[<-t];exact am.ch (((Ch.refl ag _).alloc _).alloc _) (fun h=>h) (fun _ _ h=>h))
   obtain⟨cQ,c4,bi,W⟩:=fv (P:=prog) (T:=126) (K:=56) (E:=173) (enc:=bj) underlying126 underlying56 (Q.tm (by simp)).is id (d.heap.size+1);have G:∀i,w2.heap.size<=i->x i=.no:=fun i s=>by
    cases B:x i with
    |no=>rfl
    |_=>exact absurd (k.at_.small i (by rw[B];simp)) (by omega)
   have dr:=Z G;have c3:=Q.GD (id:=id) (f:=iQ place c) (bv:=.slice none 0 0) (fb:=fb) (g:=d.heap.size) (tb:=d.heap.size+1) (w':=cQ) (by rw[j];exact cf) cd rfl
    ⟨rfl,Or.inr ⟨d.heap.size,1,#[bj fb],rfl,Nat.zero_le _,ch,Nat.le_refl _,by unfold maxLen;omega,rfl,rfl⟩⟩ ci (G _ (by rw[o];exact Nat.le_refl _)) (G _ (by rw[l,o];omega)) (G _ (by rw[l,o];omega)) (by rw[l];omega) (by rw[l];omega) (by omega) bi W
   have ck:=Z c3;have cb:=Z W;simp only[bj]at c4;rw[<-t]at c4;clear c3 bi W t G;go_wp2
   go_ret;rw[E];obtain⟨aY,Y',M,cC,cA,cL⟩:=ck.out;have c5:K1.ai=K.ai:=(by rw[j]);simp only[c5]at M;refine⟨rfl,aY,Y',M,?_,?_⟩
   ·have F:Nx χ x w w4:=k.nx.trans (Nx.af ad)
    have cr:=(Q.tm (by simp)).k;have ec:w.heap.size<=w2.heap.size:=k.nx.ch.size;refine⟨F.ch.join cb (fun i s e=>by rw[<-F.same i s,show i=L.tm from e,cr];simp),fun i s=> ?_⟩;cases B:x i with
    |no=>
     rw[<-F.same i s,B];cases cs:aY i with
     |no=>rfl
     |_=>
      exfalso;rcases cA i (by rw[cs];simp)with e|e|e|e
      ·exact e B
      ·rw[o]at e;omega
      ·rw[l,o]at e;omega
      ·rw[l,o]at e;omega
    |_=>rw[cC i (Nat.lt_of_lt_of_le s F.ch.size) (by rw[B];simp),F.same i s]
   ·exact k.yk.trans (Gr.of_eq c5) cL
end
end
section
section
variable{K:KS}
theorem zN(c:bN)(f:cu):(K.cJ c f).mem=K.mem:=by cases c<;>rfl
theorem sm(c:bN)(f:cu):(K.cJ c f).blocks=K.blocks:=by cases c<;>rfl
theorem xo(c:bN)(f:cu):(K.cJ c f).ring=K.ring:=by cases c<;>rfl
theorem sn(c:bN)(f:cu):(K.cJ c f).out=K.out:=by cases c<;>rfl
theorem gw(c:bN)(k:Nat)(x:Int):(K.az c k x).mem=K.mem:=zN _ _
theorem cp(c:bN)(k:Nat)(x:Int):(K.az c k x).blocks=K.blocks:=sm _ _
theorem nU(l:List aE)(id:Int):0<=d' l id/\d' l id<=4:=by
 unfold d'
 repeat' split
 all_goals omega
theorem g0(K:KS)(id a:Int):(ek K id a).ai=K.ai:=by unfold ek jc;split<;>rfl
theorem kW(K:KS)(id a:Int):(ek K id a).wk=K.wk:=by unfold ek jc;split<;>rfl
theorem so(K:KS)(id:Int):(cv K id).ai=K.ai:=rfl
theorem kX(place f:Int)(b:∀c id,(df K.table c).1=some id->aw K.ai id=none):Gr K (bL K place f).2:=by
 unfold bL;split
 ·exact Gr.of_eq rfl
 ·dsimp only
  split
  ·exact Gr.of_eq rfl
  ·rename_i id t hb
   intro j u a;have d:=b _ id (by rw[hb]);refine⟨u,?_,Nat.le_refl _⟩;show aw (b8 K.ai id _) j=some u
   rw[aV,if_neg (fun e=>by rw[e,d]at a;cases a)];exact a
theorem nV(place a:Int):(bL K place a).2.wk=K.wk:=by
 unfold bL;split
 ·rfl
 ·dsimp only
  split<;>rfl
theorem dT(K:KS)(i:Nat)(id:Int):Gr K (eo K i id):=by
 unfold eo;split
 ·exact Gr.of_eq rfl
 ·exact Gr.of_eq rfl
theorem fE(K:KS)(i:Nat)(id:Int):(eo K i id).wk.length=K.wk.length:=by
 unfold eo;split
 ·rfl
 ·simp[KS.be]
end
end
section
attribute [local go_sem] Oper.semAt_some
def gx(q:List Int)(k:Nat):List (Nat×Int):=(List.range k).map fun j=>(j,q[j]?.getD 0)
theorem nW(q:List Int)(k:Nat):gx q (k+1)=gx q k++[(k,q[k]?.getD 0)]:=by simp[gx,List.range_succ]
theorem pB(q:List Int)(k:Nat):(gx q k).length=k:=by simp[gx]
theorem lQ(q:List Int){k:Nat}(b:k<=q.length):(gx q k).map Prod.snd=q.take k:=by
 apply List.ext_getElem
 ·simp[gx,b]
 ·intro i a c
  have:i<q.length:=by simp[gx]at a;omega
  simp[gx,this]
def iR(A B:World):Prop:=∀(k:Nat) (a:Obj),A.heap[k]?=some a->a.isCells=true->B.heap[k]?=some a
def GF(A:World)(k:Nat):Prop:=∃a,A.heap[k]?=some a/\a.isCells=true
theorem iR.refl(A:World):iR A A:=fun _ _ h _=>h
theorem iR.trans{A B C:World}(h:iR A B)(k:iR B C):iR A C:=fun i b c a=>k i b (h i b c a) a
theorem iR.put(a:World)(l:Nat)(d g:Obj)(h:a.heap[l]?=some d)(f:d.isCells=false):iR a (a.putObj l g):=fun k i b c=>by
 by_cases e:k=l
 ·subst e;rw[h]at b;cases b;rw[f]at c;cases c
 ·exact(World.putObj_heap_other e).trans b
theorem nX(a:World){D:Nat}{p:Addr}(c:Obj)(v:Value)(h:D≠p.block):(a.setCell p v).putObj D c=(a.putObj D c).setCell p v:=by
 unfold World.setCell World.putObj
 congr 1
 apply Array.ext_getElem?;intro i;simp only[Array.getElem?_modify,Array.getElem?_setIfInBounds,Array.size_modify];by_cases b:D=i
 ·subst b
  have d:¬p.block=D:=fun e=>h e.symm
  simp[d]
 ·simp[b]
structure Ca(Kp:World->World->Prop)(Sep:World->Nat->Prop):Prop where
 keep:∀{A B:World} {k:Nat},Kp A B->Sep A k->k<A.heap.size->B.heap[k]?=A.heap[k]?/\Sep B k
theorem Fy:Ca iR GF:=⟨fun {A B k} h ⟨c,a,b⟩ _=>⟨(h k c a b).trans a.symm,c,h k c a b,b⟩⟩
theorem mz(a:Nat)(w:World):
 Calls prog 64 #[(a,0)] w (fun e w'=>e=.returned (.func (.func 114) #[] #[(w.heap.size,0)])/\w.alloc (.cells #[(a,0)] 132)=w'):=by
 go_wp2
 go_ret;exact⟨rfl,rfl⟩
theorem ui(n:Nat)(hd:1<=n)(l K b g:Nat)(q:List Int){U:World->World->Prop}{Sep:World->Nat->Prop}(a2:Ca U Sep)(o T:List (Nat×Int)->World->Prop)(a:World)
 (ab:∀w k r,Ch ag a w->a.heap.size<=k->w.heap[k]?=some r->r.isCells=true->Sep w k) (X:∀w,Ch ag a w->o [] a->o [] w)
 (ad:∀pre x a,o pre a->pre.length<q.length->YieldAt Fence.wide (n-1) prog l #[.int .i64 (x.1:Nat),.int .u64 x.2] a fun e s=>
  (e=.returned (.bool true)/\o (pre++[x]) s/\U a s)∨(e=.returned (.bool false)/\T (pre++[x]) s))
 (es:a.cell? (K,0)=some (.pointer (some (b,0)))) (A:eO a b g q) (W:o [] a):
 Calls prog 114 #[.func (.yield l) #[] #[],(K,0)] a fun e s=>(∃v,e=.returned v)/\
  ((∃c6,c6=gx q q.length/\o c6 s)∨(∃pre,(∃k,k<=q.length/\pre=gx q k)/\T pre s)):=by
 obtain⟨cs,fr,B,bw⟩:=A;have M:=Z B;have ck:=Z bw;have cq:=Z ab;have ce:=Z X;have cC:=Z ad;have c7:=Z W;have L:=Z es;have ch:=Z a2;have cL:=B.head.k 2 rfl;obtain⟨N,G⟩:=mn q.length;have D:=Z G;have fb:=B.hn;rw[<-G]at cL fb⊢;have cd:=Z (info_parts ix);obtain⟨gc,av,fd,fn,fz⟩:=cd.out;have cb:=Z av;clear B bw ab X ad W a2 G av;go_wp2
 go_loopg [3,11] (N+1) (fun gk u i wr=>∃k:Nat,k<=N/\gk=N-k+1/\i=.int .i64 k/\Hid (Ch ag a wr/\wr.ownsRow a.heap.size 56 1 u k ((q.take k).map (Value.int .u64))))
 case atStart=>exact⟨0,by omega,by omega,rfl,Ch.refl _ _,⟨by simp,Or.inl ⟨rfl,rfl⟩⟩⟩
 case round=>
  obtain⟨k,gt,rfl,rfl,d⟩:=hrel;have c8:=Z ((d.1.cell (aP L) id).trans L);obtain⟨E,F,rfl⟩:=ao d.2;by_cases H:k<N
  ·have j:q[k]?=some (q[k]?.getD 0):=by rw[List.getElem?_eq_getElem (by rw[<-D];exact H)];rfl
   have cA:=Z j;obtain⟨x,c2⟩:=nm (q[k]?.getD 0);rw[c2]at j;have S:=Z j;have V:wr.cell? ⟨g,(fr+k)%64,none⟩=some (.int .u64 x):=(M.rows.ch d.1 id).cell (by rw[List.getElem?_map,ck k (by rw[<-D];exact H),S];rfl);have ex:=c8.out;have eA:=Z (M.ch d.1 id id);clear j c2;go_wp2_with fail
   refine(kc b g cs fr q.length k (by omega) wr eA.out).mono ?_;rintro e w2 ⟨rfl,c4,rfl⟩;obtain⟨w2,J⟩:=nm (wr.drewN c4);have z:Hid (Ch ag wr w2):=Z (by rw[<-J];exact(Ch.refl _ _).drewN c4);have cS:=z.k V;have Q:=Z (aj d.2 z (fun _ _ h=>h));rw[J];clear J V ex;go_wp2_with (at_builtin;refine wpList_append_lies _ rfl _ _ _ rfl a.heap.size 56 gc _ 1 8 underlying29 cb fd fn fz rfl (by omega) _ k ((q.take k).map (Value.int .u64)) rfl (Q.alloc _) ⟨w2.heap.size,0,none⟩ 1 1 [.int .u64 x] rfl rfl (World.news_of_block (cs:=#[.int .u64 x]) (t:=56) (fr:=(0,0)) (heap_alloc_new w2 _)) (by simp[Value.oneCell']) (by omega) (by unfold maxLen;omega) (by omega) (by simp;have:=d.1.size;have:=z.size;omega) (w2.heap.size+1) (by simp) ?_)
   intro gr cap w4 bv ap et eW;have am:=au ap;have ci:=Z bv;have c9:=Z (gq (d.1.trans z) Q (Nat.le_refl _) am);clear ap am bv et eW cS;go_wp2
   go_roundg (N-(k+1)+1)
   case measure=>omega
   case rel=>
    refine⟨k+1,H,rfl,?_,c9,?_⟩
    ·congr 1
    ·rw[List.take_add_one,S,List.map_append,List.map_take]
     exact ci
  ·obtain rfl:k=N:=by omega
   have P:=Z d.2;have R:=Z d.1;have Y:=ce wr R c7;have cf:=Z Y;clear Y;have a3:=P.out;have c1:∀c,(Value.slice E k F).ownBlock=some c->a.heap.size<=c/\∃r,wr.heap[c]?=some r/\r.isCells=true:=fun c f=>by
    rcases a3.2 with⟨e,_⟩|⟨cW,cap,cur,e,ec,eC,_⟩
    ·rw[e]at f;cases f
    ·rw[e]at f
     have:cW=c:=(by simpa[Value.ownBlock]using f);subst this;exact⟨ec,_,eC,rfl⟩
   have cr:=Z c1;clear a3 c1;obtain⟨c5,rfl⟩:=mn wr;go_upto_block 2 with fail
   refine(wpIn_wide (n:=n)).1 ?_
   gi_wp2_with fail
   gi_loopw [25] (fun i wq=>∃m:Nat,m<=k/\i=.int .i64 m/\Hid (o (gx q m) wq/\∀c,(Value.slice E k F).ownBlock=some c->wq.heap[c]?=c5.heap[c]?/\Sep wq c)) (fun i _=>k-(intOf i).toNat)
   case atStart=>exact⟨0,by omega,rfl,cf,fun c f=>by obtain⟨dr,r,dC,dN⟩:=cr c f;exact⟨rfl,cq c5 c r R dr dC dN⟩⟩
   case round=>
    obtain⟨m,hb,rfl,y⟩:=hrel;by_cases eS:m<k
    ·obtain⟨p,cQ,ge,c0,en,he,gs,bx,_⟩:=aF P (by omega)
     obtain⟨rfl,rfl⟩:E=some ⟨p,0,none⟩/\F=cQ:=by simpa using c0
     have ax:=y.2 p rfl;have I:Row wr p 56 ((q.take k).map (Value.int .u64)++ge):=ax.1.trans bx;have eL:k<=q.length:=(by rw[<-D];exact Nat.le_refl _);have al:wr.cell? (p,m)=some (Value.int .u64 (q[m]?.getD 0)):=I.cell (i:=m) (by
      rw[List.getElem?_append_left (by simp;omega),List.getElem?_map,List.getElem?_take,if_pos eS,List.getElem?_eq_getElem (by omega)];rfl)
     obtain⟨go,tmps,assign,body,c3,A⟩:=cC _ (m,q[m]?.getD 0) wr y.1 (by rw[pB];omega);have cl:=Z A;have cm:=Z I;dsimp only at c3 al;clear A bx I c0 en ax eL;obtain⟨x,j⟩:=nm (q[m]?.getD 0);rw[j]at c3 al;have cA:=Z j;clear j
     gi_wp2_with fail
     refine cl.mono ?_;rintro e gf (⟨rfl,a0,bi⟩|⟨rfl,a1⟩)
     ·have C:=Z a0
      have O:=Z (ch.keep bi (y.2 p rfl).2 cm.lt);clear a0 bi
      gi_wp2_with fail
      go_roundw
      case rel=>
       refine⟨m+1,by omega,by simp,?_,fun c f=> ?_⟩
       ·rw[nW];exact C
       ·obtain rfl:p=c:=by simpa[Value.ownBlock]using f
        exact⟨O.1.trans (y.2 p rfl).1,O.2⟩
      case measure=>simp[intOf];omega
     ·have C:=Z a1
      clear a1
      gi_wp2_with fail
      refine bodyPost_ret (results_none rfl _ _ _) rfl ?_;exact⟨⟨_,rfl⟩,.inr ⟨_,⟨m+1,by omega,(nW _ _).symm⟩,C⟩⟩
    ·obtain rfl:m=k:=by omega
     gi_wp2_with fail
     go_end0
     exact⟨⟨_,rfl⟩,.inl ⟨_,rfl,y.1⟩⟩
theorem Ch.grown{w w':World}(h:Ch ag w w'):w.grownBy w' none:=⟨h.os,h.tape,h.output,h.size,fun k a _=>h.same k a id⟩
theorem kY(n:Nat)(D:1<=n)(f b g:Nat)(q:List Int){j:World->World->Prop}{Sep:World->Nat->Prop}(z:Ca j Sep)(w:World)
 (m:w.cell? (f,0)=some (.pointer (some (b,0)))) (A:eO w b g q) (B:∀a c k d,Below w.heap.size w a->Ch ag a c->a.heap.size<=k->c.heap[k]?=some d->d.isCells=true->Sep c k):
 SeqStopsK Fence.wide n prog 114 #[(f,0)] (fun x:Nat×Int=>#[Value.int .i64 (x.1:Int),Value.int .u64 x.2]) j (fun E=>E=gx q q.length) (fun pre=>∃k,k<=q.length/\pre=gx q k) q.length w:=fun l r s a o y F C t=>by
 have p:=Ch.b4 o;exact callsIn_wide.2 (ui n D l f b g q z r s a (fun c k d h i u v=>B a c k d o h i u v) (fun c h i=>y [] a c none i h.grown (fun _ e=>by cases e)) C ((p.cell (aP m) id).trans m) (A.ch p id id) t)
end
section
attribute [local go_sem] Oper.semAt_some
theorem eb{P:Program}{f:FuncId}{a:Func}{c:Code}{args:Array Value}{w:World}{R:Ending->World->Prop}
 (b:P.funcs[f]?=some a) (hb:a.body=some c)
 (h:c.wp P (bodyPostM Fence.wide 5 P a R) {tmps:=args++Array.replicate (a.ntmps-args.size) undef,defers:=[]} w):Calls P f args w R:=
 callsIn_wide.1 (callsIn_of_wp_marks (F:=Fence.wide) (n:=5) b hb trivial (wpIn_wide.2 h))
section
variable{w:World}{χ:Nat->aX}{L:cz}{Y:Var}{C:KC}{K:KS}
theorem pC(i:Nat)(X:i<K.wk.length)(id:Int)(hid:aI id)(h:ae w χ L Y C K):Calls prog 190 #[(L.mb,0),(L.wb,i*38),.int .u64 id] w (dj (.tuple #[]) χ L Y C K (eK K i id) w):=by
 have H:=Z h;have c2:=Z X;have c3:=Z hid;obtain⟨en,o⟩:=nm (w.alloc (.cells #[.int .u64 id] 56));have ch:=Z (Ch.al (D:=ag) o);have m:=Z (h.hC ch);have bv:=Z (Row.al o);obtain⟨c6,V⟩:=nm ((K.W i).hand);have c0:=Z V;obtain⟨st,cb⟩:=nm (cE K id);have J:=Z cb;have P:=m.at_.fD X;rw[V]at P;have R:=bv.c1;clear h X hid V cb;by_cases al:c6=0
 ·subst al
  by_cases b:st=1
  ·subst b
   obtain⟨N,U⟩:=nm K.wk.length;have v:=Z U;have cr:=(m.at_.wk (by simp)).n;rw[U]at cr;have ax:Hid (eK K i id=if K.wk.any (fun x=>x.hand==id)then K else if K.ring.any (fun r=>r==id)then K else K.be i {K.W i with hand:=id}):=Z (by unfold eK;rw[if_neg (by rw[c0.out,J];simp)]);clear U;refine eb func190 rfl ?_;simp only[ntmps190,List.size_toArray,List.length_cons,List.length_nil,Nat.reduceAdd,Nat.reduceSub,Array.replicate_succ,Array.replicate_zero,List.push_toArray,List.append_toArray,List.nil_append,List.cons_append];go_wp2_with fail
   try rw[o]
   refine(db id c3 m.at_).mono ?_;rintro e w1 ⟨rfl,s⟩;rw[J];have M:=Z (m.af s);have cf:=Z (bv.ch s (fun h=>h));clear s P R o;have am:=M.at_.r0;rw[v]at am;go_wp2
   go_loopg [25] (N+1) (fun gk u wr=>∃k:Nat,k<=N/\gk=N-k+1/\u=.int .i64 k/\Hid (Ch ag w1 wr/\∀j,j<k->(K.W j).hand≠id))
   case atStart=>exact⟨0,by omega,by omega,rfl,Ch.refl _ _,fun j h=>absurd h (by omega)⟩
   case round=>
    obtain⟨k,dN,rfl,rfl,y⟩:=hrel;have z:=Z (M.af y.1);have bw:=Z (cf.ch y.1 (fun h=>h));have ce:=z.at_.r0;rw[v]at ce;have ck:=bw.c1;by_cases a1:k<N
    ·obtain⟨c8,W⟩:=nm ((K.W k).hand)
     have c1:=Z W;have cS:=z.at_.fD (i:=k) (by rw[v];exact a1);rw[W]at cS;clear W am;by_cases g:c8=id
     ·have E:Hid (eK K i id=K):=Z (by
       rw[ax,if_pos];rw[List.any_eq_true];refine⟨K.W k,List.mem_of_getElem? (KS.gY (by rw[v];exact a1)),?_⟩;rw[c1,g];simp)
      subst g;go_wp2
      go_quiet (fail)
      obtain⟨w3,q⟩:=nm (wr.drewN nq);have Q:Hid (Ch ag wr w3):=Z (by rw[<-q];exact(Ch.refl _ _).drewN nq);rw[q];clear q;go_wp2_with fail
      refine⟨_,results_none rfl _ _ _,?_⟩;rw[E];exact⟨rfl,_,_,z.af Q⟩
     ·have hb:(c8==id)=false:=by rw[beq_eq_false_iff_ne];exact g
      go_wp2
      go_quiet (fail)
      obtain⟨w3,q⟩:=nm (wr.drewN nq);have Q:Hid (Ch ag wr w3):=Z (by rw[<-q];exact(Ch.refl _ _).drewN nq);rw[q];clear q;go_wp2
      go_roundg (N-(k+1)+1)
      case measure=>omega
      case rel=>
       refine⟨k+1,a1,rfl,by congr 1,y.1.trans Q,fun j a0=> ?_⟩;by_cases e:j=k
       ·subst e;rw[c1];exact g
       ·exact y.2 j (by omega)
    ·obtain rfl:k=N:=by omega
     have bi:Hid (eK K i id=if K.ring.any (fun r=>r==id)then K else K.be i {K.W i with hand:=id}):=Z (by
      rw[ax,if_neg];rw[List.any_eq_true];rintro⟨x,ab,ad⟩;obtain⟨j,a0⟩:=List.getElem?_of_mem ab;have c7:=(List.getElem?_eq_some_iff.1 a0).1;rw[v]at c7;refine y.2 j c7 ?_;rw[KS.B6 a0];simpa using ad)
     have cL:=z.at_.nN;clear am;go_wp2_with fail
     refine(mz L.rb wr).mono ?_;rintro e w4 ⟨rfl,a3⟩;have bx:=Z (Ch.al (D:=ag) a3);have ci:=Z (Row.al a3);have A:=Z (z.af bx);have G:=Z (bw.ch bx (fun h=>h));clear a3 cL ce ck;go_wp2_with fail
     have a2:=kY (5-1) (by omega) wr.heap.size L.rb L.rg K.ring Fy w4 (ci.cell (i:=0) rfl) (A.at_.ring (by simp)).is (fun a dr k ap _ _ _ b S=>⟨ap,b,S⟩);refine(wpIn_wide (n:=5)).1 ?_;apply wpIn_rangeFunc_ownG (F:=Fence.wide) (n:=5) rfl (by omega) (gf:=114) (lb:=#[.pointer (some ⟨wr.heap.size,0,none⟩)]) rfl trivial (enters_of func114 (by kernel_rfl) rfl) a2 (fun h k=>iR.trans h k) (fun a l ap cQ _ b S _=>iR.put a l ap cQ b S) (Below.refl _ _) (fun _=>rfl)
      (fun pre a=>(∀p∈pre,p.2≠id)/\Below w4.heap.size w4 a) (fun c pre a=>(c=.ret/\∃p∈pre,p.2=id)/\Below w4.heap.size w4 a)
      (OwnFrom.and (ownFrom_pure _ (fun pre:List (Nat×Int)=>∀p∈pre,p.2≠id)) (ownFrom_below (Nat.le_refl _) (Nat.le_refl _)))
      (fun c=>OwnFrom.and (ownFrom_pure _ (fun pre:List (Nat×Int)=>c=.ret/\∃p∈pre,p.2=id)) (ownFrom_below (Nat.le_refl _) (Nat.le_refl _)))
      ⟨by simp,Below.refl _ _⟩
     ·intro l x a K f
      gi_wp2
      exact f
     ·rintro l pre ⟨cW,av⟩ a ⟨t,d⟩ _
      have cl:=(d.cell (p:=⟨w.heap.size,0,none⟩) G.lt).trans (G.cell (i:=0) rfl);by_cases g:av=id
      ·subst g
       gi_wp2_with fail
       exact⟨KeepsFrom.refl _ _,⟨rfl,(cW,av),List.mem_append_right _ (List.mem_singleton.2 rfl),rfl⟩,d⟩
      ·have hb:(av==id)=false:=by rw[beq_eq_false_iff_ne];exact g
       gi_wp2_with fail
       exact⟨KeepsFrom.refl _ _,iR.refl _,⟨fun p cs=>(List.mem_append.1 cs).elim (t p) (fun e=>by rw[List.mem_singleton.1 e];exact g),d⟩⟩
     ·rintro D es a T rfl ⟨c9,d⟩ f
      have E:Hid (eK K i id=K.be i {K.W i with hand:=id}):=Z (by
       rw[bi,if_neg];rw[List.any_eq_true];rintro⟨x,ab,ad⟩;have b:x∈(gx K.ring K.ring.length).map Prod.snd:=(by rw[lQ _ (Nat.le_refl _),List.take_length];exact ab);obtain⟨p,t,rfl⟩:=List.mem_map.1 b;exact c9 p t (by simpa using ad))
      have cl:=(d.cell (p:=⟨w.heap.size,0,none⟩) G.lt).trans (G.cell (i:=0) rfl);have c4:=Z (A.af (Ch.b4 d));have B:=d.trans (belowK_b (w:=w4) (Nat.le_refl _) a D (.deferred (some [])) (.deferred none) T f rfl rfl);have O:=Z (A.af (Ch.b4 B));have ec:=c4.at_.fD (i:=i) c2;have dC:=c4.at_.uf (i*38+1);have cd:D≠L.wb:=(fun e=>by have:=(A.at_.wk (by simp)).is.lt;omega);have c5:=(KeepsOthers.setCell a ⟨L.wb,i*38+1,none⟩ (.int .u64 id)).same D _ f rfl;have I:=Z (And.intro c5 cd);clear a2 c9 d f B c5 cd;go_wp2_with fail
      refine⟨by simp,.inl ⟨_,_,rfl,run_takeDeferred I.1,?_⟩⟩;refine⟨_,results_none rfl _ _ _,?_⟩;rw[E,nX _ _ _ I.2];obtain⟨aY,Y',cq⟩:=O.at_.jM c2 id;exact⟨rfl,aY,Y',O.trans (Gr.refl _) cq⟩
     ·rintro D c pre a T ⟨cC,cm,rfl⟩ ⟨⟨rfl,p,t,cA⟩,d⟩ f
      have E:Hid (eK K i id=K):=Z (by
       rw[bi,if_pos];rw[List.any_eq_true];have b:p.2∈(gx K.ring cC).map Prod.snd:=List.mem_map.2 ⟨p,t,rfl⟩;rw[lQ _ cm]at b;exact⟨p.2,List.mem_of_mem_take b,by simp[cA]⟩)
      have B:=d.trans (belowK_b (w:=w4) (Nat.le_refl _) a D (.deferred (some [])) (.deferred none) T f rfl rfl);have O:=Z (A.af (Ch.b4 B));have I:=Z f;clear a2 t d f B
      gi_wp2_with fail
      refine⟨by simp,.inl ⟨_,_,rfl,run_takeDeferred I,?_⟩⟩;refine⟨_,results_none rfl _ _ _,?_⟩;rw[E];exact⟨rfl,_,_,O⟩
  ·have E:Hid (eK K i id=K):=Z (by unfold eK;rw[if_pos (Or.inr (by rw[J.out];exact b))])
   have hb:(st==1)=false:=(by rw[beq_eq_false_iff_ne];exact b);refine eb func190 rfl ?_;simp only[ntmps190,List.size_toArray,List.length_cons,List.length_nil,Nat.reduceAdd,Nat.reduceSub,Array.replicate_succ,Array.replicate_zero,List.push_toArray,List.append_toArray,List.nil_append,List.cons_append];go_wp2_with fail
   try rw[o]
   refine(db id c3 m.at_).mono ?_;rintro e w1 ⟨rfl,s⟩;rw[J];have M:=Z (m.af s);clear s P R o;go_wp2_with fail
   refine⟨_,results_none rfl _ _ _,?_⟩;rw[E];exact⟨rfl,_,_,M⟩
 ·have E:Hid (eK K i id=K):=Z (by unfold eK;rw[if_pos (Or.inl (by rw[c0.out];exact al))])
  have hb:(c6==0)=false:=by rw[beq_eq_false_iff_ne];exact al
  refine eb func190 rfl ?_;simp only[ntmps190,List.size_toArray,List.length_cons,List.length_nil,Nat.reduceAdd,Nat.reduceSub,Array.replicate_succ,Array.replicate_zero,List.push_toArray,List.append_toArray,List.nil_append,List.cons_append];go_wp2_with fail
  try rw[o]
  clear P R;refine⟨_,results_none rfl _ _ _,?_⟩;rw[E];exact⟨rfl,_,_,m⟩
end
end
section
section
variable{w w1 w2:World}{χ aY:Nat->aX}{L:cz}{Y Y':Var}{C:KC}{K K':KS}
theorem ae.plain(h:ae w1 χ L Y C K){b:Nat}(hb:χ b=.no)(c:Ch (aL b) w1 w2):ae w2 χ L Y C K:=by
 have s:eQ [.no] χ χ (aL b) w1 w2:=eQ.one c (fun i e=>by rw[show i=b from e];simp[hb]) h.small;have k:=h.step s (by simp);exact {head:=fun _=>k.head (by simp),mem:=fun _=>k.mem (by simp),al:=fun _=>k.al (by simp),b0:=fun _=>k.b0 (by simp),ring:=fun _=>k.ring (by simp),q:=fun _=>k.q (by simp),cU:=fun _=>k.cU (by simp),obj:=fun _=>k.obj (by simp),wk:=fun _=>k.wk (by simp),tm:=fun _=>k.tm (by simp),th:=fun i t h _=>k.th i t h (by simp),tl:=fun i t h _=>k.tl i t h (by simp),fr:=fun i t j f a d _=>k.fr i t j f a d (by simp),out:=fun _=>k.out (by simp),code:=fun _=>k.code (by simp),small:=k.small}
theorem dJ.plain(m:dJ χ L Y C K K' w aY Y' w1){b:Nat}(hb:aY b=.no)(f:w.heap.size<=b)(c:Ch (aL b) w1 w2):dJ χ L Y C K K' w aY Y' w2:=
 ⟨m.at_.plain hb c,⟨⟨c.os.trans m.nx.ch.os,c.tape.trans m.nx.ch.tape,c.output.trans m.nx.ch.output,Nat.le_trans m.nx.ch.size c.size,fun k a d=>(c.same k (Nat.lt_of_lt_of_le a m.nx.ch.size) (fun e=>by rw[show k=b from e]at a;omega)).trans (m.nx.ch.same k a d)⟩,m.nx.same⟩,m.yk⟩
end
end
section
structure fi(f:cu):Prop where
 r:∀k,k<32->aI (f.r k)
 back:f.back.length<=8
structure e6(l:List Frame):Prop where
 n0:0<l.length
 n8:l.length<=8
 b7:∀k f,l[k]?=some f->f.b7=(k%2==1)
 lS:∀f∈l,fi f.f
structure nZ(id:Int)(t:Thread):Prop where
 id:t.id=id
 eU:aI t.eU
 l:e6 t.l
structure hM(x:ay):Prop where
 f:fi x.f
 l0:0<=x.left
 l1:x.left<=24
def eG(l:List aE)(id:Int):Option aE:=match l[(id%64).toNat]? with|none=>none|some r=>if r.taken&&r.t.id==id then some r else none
def st(l:List aE)(id:Int):Int:=match eG l id with|none=>0|some r=>r.t.state
theorem fj{l:List aE}{id:Int}:(dX l id=none/\eG l id=none)∨∃r,dX l id=some (id%64).toNat/\l[(id%64).toNat]?=some r/\eG l id=some r:=by
 unfold dX eG;cases h:l[(id%64).toNat]? with
 |none=>exact Or.inl ⟨rfl,rfl⟩
 |some r=>
  dsimp only;by_cases a:(r.taken&&r.t.id==id)=true
  ·rw[if_pos a,if_pos a];exact Or.inr ⟨r,rfl,rfl,rfl⟩
  ·rw[if_neg a,if_neg a];exact Or.inl ⟨rfl,rfl⟩
theorem uu{l:List aE}{id:Int}{r:aE}(h:eG l id=some r):l[(id%64).toNat]?=some r/\r.taken=true/\r.t.id=id:=by
 unfold eG at h;split at h
 ·cases h
 ·rename_i r' b
  split at h
  ·rename_i a
   rw[Bool.and_eq_true,beq_iff_eq]at a;have:r'=r:=Option.some.inj h;subst this;exact⟨b,a.1,a.2⟩
  ·cases h
theorem m3{l:List aE}{p:Nat}(a:p<l.length)(r':aE)(id:Int):eG (l.set p r') id=if(id%64).toNat=p then(if r'.taken&&r'.t.id==id then some r' else none)else eG l id:=by
 unfold eG;by_cases e:(id%64).toNat=p
 ·rw[if_pos e,e,List.getElem?_set_self a]
 ·rw[if_neg e,List.getElem?_set_ne (fun h=>e h.symm)]
theorem Cc{l:List aE}{id:Int}{r:aE}(h:eG l id=some r)(r':aE)(b:r'.taken=true->r'.t.id=id):
 (∀j,j≠id->eG (l.set (id%64).toNat r') j=eG l j)/\eG (l.set (id%64).toNat r') id=if r'.taken then some r' else none:=by
 obtain⟨c,k,g⟩:=uu h;have f:=(List.getElem?_eq_some_iff.1 c).1;refine⟨fun j d=> ?_,?_⟩
 ·rw[m3 f]
  split
  ·rename_i e
   rw[if_neg]
   ·unfold eG;rw[e,c];dsimp only;rw[if_neg]
    rw[Bool.and_eq_true,beq_iff_eq];exact fun a=>d (by rw[<-a.2,g])
   ·rw[Bool.and_eq_true,beq_iff_eq]
    exact fun a=>d (by rw[<-a.2,b a.1])
  ·rfl
 ·rw[m3 f,if_pos rfl]
  cases i:r'.taken with
  |false=>rfl
  |true=>simp[b i]
theorem lT(K:KS)(id:Int):cE K id=st K.table id:=by
 unfold cE fy st;rcases fj (l:=K.table) (id:=id)with⟨a,b⟩|⟨r,a,b,c⟩
 ·rw[a,b];rfl
 ·rw[a,c];dsimp only;rw[b]
structure pF(N p:Nat)(r:aE):Prop where
 t0:0<=r.times
 t1:r.times<=N
 id:r.taken=true->r.t.id%64=p/\64<=r.t.id/\r.t.id<=64*N+63
 home:aI r.t.home
 value:aI r.t.value
structure eZ(N:Nat)(l:List aE):Prop where
 len:l.length=64
 row:∀p r,l[p]?=some r->pF N p r
theorem pF.more{N N' p:Nat}{r:aE}(h:pF N p r)(b:N<=N'):pF N' p r:=⟨h.t0,by have:=h.t1;omega,fun a=>by have:=h.id a;omega,h.home,h.value⟩
theorem eZ.more{N N':Nat}{l:List aE}(h:eZ N l)(a:N<=N'):eZ N' l:=⟨h.len,fun p r b=>(h.row p r b).more a⟩
theorem eZ.set{N:Nat}{l:List aE}(h:eZ N l){p:Nat}{r:aE}(c:pF N p r):eZ N (l.set p r):=by
 refine⟨by rw[List.length_set,h.len],fun q x a=> ?_⟩;by_cases e:p=q
 ·subst e
  have b:p<l.length:=by have:=(List.getElem?_eq_some_iff.1 a).1;simpa using this
  rw[List.getElem?_set_self b]at a;rw[<-Option.some.inj a];exact c
 ·rw[List.getElem?_set_ne e]at a;exact h.row q x a
theorem eZ.at{N:Nat}{l:List aE}(h:eZ N l){id:Int}{r:aE}(d:eG l id=some r):pF N (id%64).toNat r/\r.taken=true/\r.t.id=id/\64<=id/\id<=64*N+63:=by
 obtain⟨b,a,c⟩:=uu d;have:=h.row _ _ b;have e:=this.id a;exact⟨this,a,c,by omega,by omega⟩
def iD(wk:List ay)(id:Int):Nat:=wk.countP fun x=>x.slot==id
def qN(wk:List ay)(id:Int):Nat:=wk.countP fun x=>x.hand==id
def n3(ring:List Int)(id:Int):Nat:=ring.countP fun x=>x==id
def eu(wk:List ay)(ring:List Int)(id:Int):Nat:=iD wk id+qN wk id+n3 ring id
theorem mB{α:Type}(p:α->Bool)(l:List α)(i:Nat)(x y:α)(h:l[i]?=some x):(l.set i y).countP p+(if p x then 1 else 0)=l.countP p+(if p y then 1 else 0):=by
 induction l generalizing i with
 |nil=>cases h
 |cons z l ih=>
  cases i with
  |zero=>
   have:z=x:=Option.some.inj h;subst this;rw[List.set_cons_zero,List.countP_cons,List.countP_cons];omega
  |succ i=>
   rw[List.set_cons_succ,List.countP_cons,List.countP_cons];have:=ih i h;omega
structure Core(N:Nat)(tb:List aE)(th:List (Int×Thread))(ws:List ay)(ring:List Int):Prop where
 cU:eZ N tb
 al:∀id r,eG tb id=some r->fS r.t.state=true->(aw th id).isSome=true
 ai:∀id t,aw th id=some t->nZ id t/\∃r,eG tb id=some r/\(r.t.state=4->r.t.aH=true)
 one:∀id,id≠0->eu ws ring id<=1
 sy:∀id,id≠0->0<eu ws ring id->(aw th id).isSome=true/\st tb id≠3
 slt:∀id,id≠0->0<iD ws id->st tb id≠1
 wk:∀x∈ws,hM x
section
variable{N N':Nat}{tb lA:List aE}{ai xN:List (Int×Thread)}{wk uv:List ay}{ring kZ:List Int}
theorem Ds{l l':List aE}{id:Int}(h:eG l' id=eG l id):st l' id=st l id:=by unfold st;rw[h]
theorem Core.fU(c:Core N tb ai wk ring)(id:Int)(m:eZ N' lA)
 (b:∀j,j≠id->eG lA j=eG tb j) (g:∀j,j≠id->aw xN j=aw ai j)
 (d:∀j,j≠id->j≠0->iD uv j<=iD wk j/\eu uv kZ j<=eu wk ring j)
 (s:∀x∈uv,hM x)
 (n:∀r,eG lA id=some r->fS r.t.state=true->(aw xN id).isSome=true)
 (q:∀t,aw xN id=some t->nZ id t/\∃r,eG lA id=some r/\(r.t.state=4->r.t.aH=true))
 (l:id≠0->eu uv kZ id<=1)
 (o:id≠0->0<eu uv kZ id->(aw xN id).isSome=true/\st lA id≠3)
 (p:id≠0->0<iD uv id->st lA id≠1):Core N' lA xN uv kZ where
 cU:=m
 al:=fun j r i k=>by
  by_cases e:j=id
  ·subst e;exact n r i k
  ·rw[b j e]at i;rw[g j e];exact c.al j r i k
 ai:=fun j t h=>by
  by_cases e:j=id
  ·subst e;exact q t h
  ·rw[g j e]at h;rw[b j e];exact c.ai j t h
 one:=fun j a=>by
  by_cases e:j=id
  ·subst e;exact l a
  ·have:=(d j e a).2;have:=c.one j a;omega
 sy:=fun j a f=>by
  by_cases e:j=id
  ·subst e;exact o a f
  ·rw[g j e,Ds (b j e)];exact c.sy j a (by have:=(d j e a).2;omega)
 slt:=fun j a f=>by
  by_cases e:j=id
  ·subst e;exact p a f
  ·rw[Ds (b j e)];exact c.slt j a (by have:=(d j e a).1;omega)
 wk:=s
theorem Core.more(c:Core N tb ai wk ring)(a:N<=N'):Core N' tb ai wk ring:=⟨c.cU.more a,c.al,c.ai,c.one,c.sy,c.slt,c.wk⟩
theorem Core.row(c:Core N tb ai wk ring){id:Int}{t:Thread}(h:aw ai id=some t):∃r,eG tb id=some r/\(r.t.state=4->r.t.aH=true)/\64<=id/\id<=64*N+63:=by
 obtain⟨_,r,a,b⟩:=c.ai id t h;have:=c.cU.at a;exact⟨r,a,b,this.2.2.2⟩
theorem Core.cn(c:Core N tb ai wk ring){id:Int}{t b:Thread}(h:aw ai id=some t)(d:nZ id b):Core N tb (b8 ai id b) wk ring:=
 c.fU id c.cU (fun _ _=>rfl) (fun j f=>by rw[aV,if_neg f]) (fun _ _ _=>⟨Nat.le_refl _,Nat.le_refl _⟩) c.wk
  (fun r k i=>by rw[aV,if_pos rfl];rfl)
  (fun u a=>by rw[aV,if_pos rfl]at a;rw[<-Option.some.inj a];exact⟨d,(c.ai id t h).2⟩)
  (c.one id) (fun e g=>⟨by rw[aV,if_pos rfl];rfl,(c.sy id e g).2⟩) (c.slt id)
theorem e0{i:Nat}{x y:ay}(h:wk[i]?=some x)(id:Int):iD (wk.set i y) id+(if x.slot==id then 1 else 0)=iD wk id+(if y.slot==id then 1 else 0):=mB _ _ _ _ _ h
theorem e1{i:Nat}{x y:ay}(h:wk[i]?=some x)(id:Int):qN (wk.set i y) id+(if x.hand==id then 1 else 0)=qN wk id+(if y.hand==id then 1 else 0):=mB _ _ _ _ _ h
theorem hN{P:ay->Prop}{i:Nat}{y:ay}(h:∀x∈wk,P x)(c:P y):∀x∈wk.set i y,P x:=fun x b=>by
 rcases List.mem_or_eq_of_mem_set b with a|rfl
 ·exact h x a
 ·exact c
theorem Core.be(c:Core N tb ai wk ring){i:Nat}{x y:ay}(h:wk[i]?=some x)(k:y.slot=x.slot)(g:y.hand=x.hand)(l:hM y):Core N tb ai (wk.set i y) ring:=by
 have d:∀j,iD (wk.set i y) j=iD wk j:=fun j=>by have:=e0 (y:=y) h j;rw[k]at this;omega
 have f:∀j,qN (wk.set i y) j=qN wk j:=fun j=>by have:=e1 (y:=y) h j;rw[g]at this;omega
 have e:∀j,eu (wk.set i y) ring j=eu wk ring j:=fun j=>by unfold eu;rw[d,f]
 exact⟨c.cU,c.al,c.ai,fun id a=>by rw[e];exact c.one id a,fun id a b=>c.sy id a (by rwa [e]at b),fun id a b=>c.slt id a (by rwa [d]at b),hN c.wk l⟩
theorem Ee(l:List aE)(id s:Int):(j3 l id s).2=match eG l id with|none=>l|some r=>if fS s=true/\r.t.state≠4 then l.set (id%64).toNat {r with t:={r.t with state:=s}}else l:=by
 unfold j3;rcases fj (l:=l) (id:=id)with⟨a,b⟩|⟨r,a,b,e⟩
 ·rw[a,b]
 ·rw[a,e];dsimp only;rw[b];dsimp only
  by_cases c:fS s=true
  ·by_cases d:r.t.state=4
   ·simp[c,d]
   ·simp[c,d]
  ·simp[c]
theorem Cd(l:List aE)(id v:Int):(gj l id v).2=match eG l id with|none=>l|some r=>if r.t.state≠4 then l.set (id%64).toNat {r with t:={r.t with state:=4,value:=v,aH:=true}}else l:=by
 unfold gj;rcases fj (l:=l) (id:=id)with⟨a,b⟩|⟨r,a,b,d⟩
 ·rw[a,b]
 ·rw[a,d];dsimp only;rw[b];dsimp only
  by_cases c:r.t.state=4
  ·simp[c]
  ·simp[c]
theorem zU(l:List aE)(id a:Int):(hs l id a).2=match eG l id with|none=>l|some r=>if a≠0/\r.t.bG=0/\r.t.loose=false then l.set (id%64).toNat {r with t:={r.t with bG:=a}}else l:=by
 unfold hs;rcases fj (l:=l) (id:=id)with⟨b,c⟩|⟨r,b,c,e⟩
 ·rw[b,c]
 ·rw[b,e];dsimp only;rw[c];dsimp only
  by_cases d:a=0
  ·simp[d]
  ·by_cases f:r.t.bG=0<;>cases g:r.t.loose<;>simp[d,f,g]
theorem xO(l:List aE)(id:Int):(e8 l id).2=match eG l id with|none=>l|some r=>if r.t.bG=0/\r.t.loose=false then(if r.t.state=4/\r.t.aH=false then l.set (id%64).toNat r.gone else l.set (id%64).toNat {r with t:={r.t with loose:=true}})else l:=by
 unfold e8;rcases fj (l:=l) (id:=id)with⟨a,b⟩|⟨r,a,b,c⟩
 ·rw[a,b]
 ·rw[a,c];dsimp only;rw[b];dsimp only
  by_cases e:r.t.bG=0<;>cases f:r.t.loose<;>by_cases d:r.t.state=4<;>cases g:r.t.aH<;>simp[e,f,d,g]
theorem xP(l:List aE)(id:Int):(eM l id).2=match eG l id with|none=>l|some r=>if r.t.aH=true then(if r.t.loose=true∨r.bI=true then l.set (id%64).toNat r.gone else l.set (id%64).toNat {r with t:={r.t with aH:=false}})else l:=by
 unfold eM;rcases fj (l:=l) (id:=id)with⟨a,b⟩|⟨r,a,b,c⟩
 ·rw[a,b]
 ·rw[a,c];dsimp only;rw[b];dsimp only
  cases e:r.t.loose<;>cases d:r.bI<;>cases f:r.t.aH<;>simp[e,d,f]
theorem zV(l:List aE)(id:Int):(fA l id).2.2.2.2=(match eG l id with|none=>l|some r=>if r.t.state=4/\r.t.loose=false/\r.bI=false then(if r.t.aH=true then l.set (id%64).toNat {r with bI:=true}else l.set (id%64).toNat r.gone)else l)/\
 ((fA l id).2.1=0∨∃r,eG l id=some r/\(fA l id).2.1=r.t.value)/\((fA l id).2.2.1=0∨∃r,eG l id=some r/\(fA l id).2.2.1=r.t.home):=by
 unfold fA;rcases fj (l:=l) (id:=id)with⟨a,b⟩|⟨r,a,b,c⟩
 ·rw[a,b];exact⟨rfl,Or.inl rfl,Or.inl rfl⟩
 ·rw[a,c];dsimp only;rw[b];dsimp only
  by_cases d:r.t.state=4<;>cases e:r.t.loose<;>cases f:r.bI<;>cases g:r.t.aH<;>simp[d,e,f,g]
structure ef(N:Nat)(tb lA:List aE)(id:Int):Prop where
 ok:eZ N lA
 E7:∀j,j≠id->eG lA j=eG tb j
theorem ef.refl(h:eZ N tb)(id:Int):ef N tb tb id:=⟨h,fun _ _=>rfl⟩
theorem ef.set(h:eZ N tb){id:Int}{r:aE}(c:eG tb id=some r){r':aE}(d:r'.times=r.times)(b:r'.taken=true->r'.t.id=id)(j:aI r'.t.home)(k:aI r'.t.value):ef N tb (tb.set (id%64).toNat r') id/\eG (tb.set (id%64).toNat r') id=if r'.taken then some r' else none:=by
 obtain⟨a,l,m,g,i⟩:=h.at c;have f:=Cc c r' b;refine⟨⟨h.set ⟨by rw[d];exact a.t0,by rw[d];exact a.t1,fun e=> ?_,j,k⟩,f.1⟩,f.2⟩;rw[b e];exact⟨by omega,g,i⟩
theorem ef.trans{b:List aE}{id:Int}(h:ef N tb lA id)(k:ef N lA b id):ef N tb b id:=⟨k.ok,fun j a=>(k.E7 j a).trans (h.E7 j a)⟩
theorem bm:aI (0:Int):=⟨by decide,by decide⟩
theorem Ce(h:eZ N tb)(id s:Int)(f:fS s=true):ef N tb (j3 tb id s).2 id/\(eG tb id=none->eG (j3 tb id s).2 id=none)/\
 ∀r,eG tb id=some r->∃r',eG (j3 tb id s).2 id=some r'/\((r.t.state=4/\r'=r)∨(r.t.state≠4/\r'.t.state=s)):=by
 rw[Ee];cases c:eG tb id with
 |none=>dsimp only;exact⟨ef.refl h id,fun _=>c,fun r e=>by cases e⟩
 |some r=>
  dsimp only;by_cases b:r.t.state=4
  ·rw[if_neg (by rintro⟨_,e⟩;exact e b)]
   refine⟨ef.refl h id,(fun e=>by cases e),fun x d=> ?_⟩;have:r=x:=Option.some.inj d;subst this;exact⟨r,c,Or.inl ⟨b,rfl⟩⟩
  ·rw[if_pos ⟨f,b⟩]
   have a:=h.at c;have:=ef.set h c (r':={r with t:={r.t with state:=s}}) rfl (fun _=>a.2.2.1) a.1.home a.1.value;refine⟨this.1,(fun e=>by cases e),fun x d=> ?_⟩;have e:r=x:=Option.some.inj d;subst e;refine⟨_,by rw[this.2,if_pos a.2.1],Or.inr ⟨b,rfl⟩⟩
theorem sA(h:eZ N tb)(id v:Int)(g:aI v):ef N tb (gj tb id v).2 id/\(eG tb id=none->eG (gj tb id v).2 id=none)/\
 ∀r,eG tb id=some r->(r.t.state=4->r.t.aH=true)->∃r',eG (gj tb id v).2 id=some r'/\r'.t.state=4/\r'.t.aH=true:=by
 rw[Cd];cases b:eG tb id with
 |none=>dsimp only;exact⟨ef.refl h id,fun _=>b,fun r e=>by cases e⟩
 |some r=>
  dsimp only;by_cases a:r.t.state=4
  ·rw[if_neg (by intro e;exact e a)]
   refine⟨ef.refl h id,(fun e=>by cases e),fun x d f=> ?_⟩;have:r=x:=Option.some.inj d;subst this;exact⟨r,b,a,f a⟩
  ·rw[if_pos a]
   have c:=h.at b;have:=ef.set h b (r':={r with t:={r.t with state:=4,value:=v,aH:=true}}) rfl (fun _=>c.2.2.1) c.1.home g;refine⟨this.1,(fun e=>by cases e),fun x d _=> ?_⟩;exact⟨_,by rw[this.2,if_pos c.2.1],rfl,rfl⟩
theorem uw(h:eZ N tb)(id:Int):ef N tb (eM tb id).2 id/\
 ∀r,eG tb id=some r->r.t.state=4->∀r',eG (eM tb id).2 id=some r'->r'.t.state=4:=by
 rw[xP];cases d:eG tb id with
 |none=>dsimp only;exact⟨ef.refl h id,fun r e=>by cases e⟩
 |some r=>
  dsimp only;have b:=h.at d;split
  ·split
   ·have:=ef.set h d (r':=r.gone) rfl (fun e=>by cases e) bm bm
    refine⟨this.1,fun x f c r' a=> ?_⟩;rw[this.2,if_neg (by simp[aE.gone])]at a;cases a
   ·have:=ef.set h d (r':={r with t:={r.t with aH:=false}}) rfl (fun _=>b.2.2.1) b.1.home b.1.value
    refine⟨this.1,fun x f c r' a=> ?_⟩;rw[this.2,if_pos b.2.1]at a;rw[<-Option.some.inj a,Option.some.inj f];exact c
  ·refine⟨ef.refl h id,fun x f c r' a=> ?_⟩
   rw[d]at a;rw[<-Option.some.inj a,Option.some.inj f];exact c
def vR(tb lA:List aE)(id:Int):Prop:=(eG tb id=none->eG lA id=none)/\∀r,eG tb id=some r->(∃r',eG lA id=some r'/\r'.t.state=r.t.state/\r'.t.aH=r.t.aH)∨(eG lA id=none/\r.t.state=4/\r.t.aH=false)
theorem xQ(h:eZ N tb)(id d:Int):ef N tb (hs tb id d).2 id/\vR tb (hs tb id d).2 id:=by
 rw[zU];cases a:eG tb id with
 |none=>dsimp only;exact⟨ef.refl h id,fun _=>a,fun r e=>by rw[a]at e;cases e⟩
 |some r=>
  dsimp only;have c:=h.at a;split
  ·have:=ef.set h a (r':={r with t:={r.t with bG:=d}}) rfl (fun _=>c.2.2.1) c.1.home c.1.value
   refine⟨this.1,(fun e=>by rw[a]at e;cases e),fun x b=>Or.inl ?_⟩;rw[a]at b;exact⟨_,by rw[this.2,if_pos c.2.1],by rw[<-Option.some.inj b],by rw[<-Option.some.inj b]⟩
  ·exact⟨ef.refl h id,fun e=>e,fun x b=>Or.inl ⟨x,b,rfl,rfl⟩⟩
theorem ux(h:eZ N tb)(id:Int):ef N tb (e8 tb id).2 id/\vR tb (e8 tb id).2 id:=by
 rw[xO];cases a:eG tb id with
 |none=>dsimp only;exact⟨ef.refl h id,fun _=>a,fun r e=>by rw[a]at e;cases e⟩
 |some r=>
  dsimp only;have c:=h.at a;split
  ·split
   ·rename_i d
    have:=ef.set h a (r':=r.gone) rfl (fun e=>by cases e) bm bm;refine⟨this.1,(fun e=>by rw[a]at e;cases e),fun x b=>Or.inr ?_⟩;rw[a]at b;rw[<-Option.some.inj b];exact⟨by rw[this.2,if_neg (by simp[aE.gone])],d.1,d.2⟩
   ·have:=ef.set h a (r':={r with t:={r.t with loose:=true}}) rfl (fun _=>c.2.2.1) c.1.home c.1.value
    refine⟨this.1,(fun e=>by rw[a]at e;cases e),fun x b=>Or.inl ?_⟩;rw[a]at b;exact⟨_,by rw[this.2,if_pos c.2.1],by rw[<-Option.some.inj b],by rw[<-Option.some.inj b]⟩
  ·exact⟨ef.refl h id,fun e=>e,fun x b=>Or.inl ⟨x,b,rfl,rfl⟩⟩
theorem xR(h:eZ N tb)(id:Int):ef N tb (fA tb id).2.2.2.2 id/\vR tb (fA tb id).2.2.2.2 id/\aI (fA tb id).2.1:=by
 obtain⟨g,c,_⟩:=zV tb id;have f:aI (fA tb id).2.1:=by
  rcases c with c|⟨r,a,c⟩
  ·rw[c];exact bm
  ·rw[c];exact(h.at a).1.value
 rw[g];cases a:eG tb id with
 |none=>dsimp only;exact⟨ef.refl h id,⟨fun _=>a,fun r e=>by rw[a]at e;cases e⟩,f⟩
 |some r=>
  dsimp only;have d:=h.at a;split
  ·rename_i i
   split
   ·have:=ef.set h a (r':={r with bI:=true}) rfl (fun _=>d.2.2.1) d.1.home d.1.value
    refine⟨this.1,⟨(fun e=>by rw[a]at e;cases e),fun x b=>Or.inl ?_⟩,f⟩;rw[a]at b;exact⟨_,by rw[this.2,if_pos d.2.1],by rw[<-Option.some.inj b],by rw[<-Option.some.inj b]⟩
   ·rename_i j
    have:=ef.set h a (r':=r.gone) rfl (fun e=>by cases e) bm bm;refine⟨this.1,⟨(fun e=>by rw[a]at e;cases e),fun x b=>Or.inr ?_⟩,f⟩;rw[a]at b;rw[<-Option.some.inj b];exact⟨by rw[this.2,if_neg (by simp[aE.gone])],i.1,by simpa using j⟩
  ·exact⟨ef.refl h id,⟨fun e=>e,fun x b=>Or.inl ⟨x,b,rfl,rfl⟩⟩,f⟩
theorem sB{s:Int}:fS s=true↔s=1∨s=2∨s=3:=by unfold fS;simp[or_assoc]
theorem Core.same(c:Core N tb ai wk ring){id:Int}(o:ef N tb lA id)(k:vR tb lA id):Core N lA ai wk ring:=by
 have n:(aw ai id).isSome=true->st lA id=st tb id:=fun p=>by
  obtain⟨t,l⟩:=Option.isSome_iff_exists.1 p;obtain⟨_,r,b,j⟩:=c.ai id t l;rcases k.2 r b with⟨r',d,a,_⟩|⟨_,a,f⟩
  ·unfold st;rw[d,b];exact a
  ·rw[j a]at f;cases f
 refine c.fU id o.ok o.E7 (fun _ _=>rfl) (fun _ _ _=>⟨Nat.le_refl _,Nat.le_refl _⟩) c.wk (fun r' h m=> ?_) (fun t l=>⟨(c.ai id t l).1,?_⟩) (c.one id) (fun g i=>⟨(c.sy id g i).1,?_⟩) (fun g i=> ?_)
 ·cases b:eG tb id with
  |none=>rw[k.1 b]at h;cases h
  |some r=>
   rcases k.2 r b with⟨q,d,a,_⟩|⟨d,_⟩
   ·rw[d]at h
    rw[<-Option.some.inj h,a]at m;exact c.al id r b m
   ·rw[d]at h;cases h
 ·obtain⟨_,r,b,j⟩:=c.ai id t l
  rcases k.2 r b with⟨r',d,a,f⟩|⟨_,a,f⟩
  ·exact⟨r',d,fun e=>by rw[f];exact j (by rw[<-a];exact e)⟩
  ·rw[j a]at f;cases f
 ·rw[n (c.sy id g i).1];exact(c.sy id g i).2
 ·rw[n (c.sy id g (by unfold eu;omega)).1];exact c.slt id g i
theorem Core.ended(c:Core N tb ai wk ring){id:Int}{t:Thread}(a:aw ai id=some t)(v:Int)(l:aI v):Core N (gj tb id v).2 ai wk ring:=by
 obtain⟨r,j,g,_⟩:=c.row a;obtain⟨b,_,f⟩:=sA c.cU id v l;obtain⟨r',d,h,i⟩:=f r j g;have e:st (gj tb id v).2 id=4:=by unfold st;rw[d];exact h
 exact c.fU id b.ok b.E7 (fun _ _=>rfl) (fun _ _ _=>⟨Nat.le_refl _,Nat.le_refl _⟩) c.wk (fun _ _ _=>by rw[a];rfl) (fun u k=>⟨(c.ai id u k).1,r',d,fun _=>i⟩) (c.one id)
  (fun m n=>⟨by rw[a];rfl,by rw[e];decide⟩) (fun _ _=>by rw[e];decide)
theorem Cf{i:Nat}{x:ay}(h:wk[i]?=some x){id:Int}(a:x.slot=id):0<iD wk id:=List.countP_pos_iff.2 ⟨x,List.mem_of_getElem? h,by simp[a]⟩
theorem Cg{i:Nat}{x:ay}(h:wk[i]?=some x){id:Int}(a:x.hand=id):0<qN wk id:=List.countP_pos_iff.2 ⟨x,List.mem_of_getElem? h,by simp[a]⟩
theorem Core.k6(c:Core N tb ai wk ring){i:Nat}{x:ay}(h:wk[i]?=some x)(a:x.slot≠0):∃t,aw ai x.slot=some t:=Option.isSome_iff_exists.1 (c.sy _ a (by have:=Cf h (id:=x.slot) rfl;unfold eu;omega)).1
theorem Core.qO(c:Core N tb ai wk ring){i:Nat}{x:ay}(h:wk[i]?=some x)(a:x.hand≠0):∃t,aw ai x.hand=some t:=Option.isSome_iff_exists.1 (c.sy _ a (by have:=Cg h (id:=x.hand) rfl;unfold eu;omega)).1
theorem gy(ring:List Int)(id j:Int):n3 (hp ring id).2 j<=n3 ring j+(if id=j then 1 else 0)/\(j≠id->n3 (hp ring id).2 j=n3 ring j):=by
 unfold hp;split
 ·exact⟨Nat.le_add_right _ _,fun _=>rfl⟩
 ·unfold n3
  dsimp only;rw[List.countP_append,List.countP_cons,List.countP_nil];by_cases e:id=j
  ·subst e;simp
  ·have a:(id==j)=false:=by simpa using e
   simp[e,a]
theorem Core.move(c:Core N tb ai wk ring){id:Int}{t:Thread}(d:aw ai id=some t)(s:Int)(b:fS s=true)(y:∀x∈uv,hM x)
 (n:∀j,j≠id->j≠0->iD uv j<=iD wk j/\eu uv kZ j<=eu wk ring j) (k:eu uv kZ id<=1)
 (o:s=3->eu uv kZ id=0) (v:s=1->iD uv id=0):Core N (j3 tb id s).2 ai uv kZ:=by
 obtain⟨r,q,m,_⟩:=c.row d;obtain⟨i,_,l⟩:=Ce c.cU id s b;obtain⟨r',f,a⟩:=l r q;have g:st (j3 tb id s).2 id=4∨st (j3 tb id s).2 id=s:=by
  unfold st;rw[f];rcases a with⟨a,rfl⟩|⟨_,a⟩
  ·exact Or.inl a
  ·exact Or.inr a
 refine c.fU id i.ok i.E7 (fun _ _=>rfl) n y (fun _ _ _=>by rw[d];rfl) (fun u w=>⟨(c.ai id u w).1,r',f,fun e=> ?_⟩) (fun _=>k) (fun _ p=>⟨by rw[d];rfl,?_⟩) (fun _ p=> ?_)
 ·rcases a with⟨a,rfl⟩|⟨_,a⟩
  ·exact m a
  ·rw[a]at e;rw[e]at b;exact absurd b (by decide)
 ·rcases g with h|h<;>rw[h]
  ·decide
  ·intro e;have:=o e;omega
 ·rcases g with h|h<;>rw[h]
  ·decide
  ·intro e;have:=v e;omega
end
end
section
section
variable{N N':Nat}{tb lA:List aE}{ai xN:List (Int×Thread)}{wk uv:List ay}{ring kZ:List Int}
theorem Core.Gf(c:Core N tb ai wk ring){id:Int}{t:Thread}(a:aw ai id=some t):id≠0:=by
 obtain⟨_,_,_,h,_⟩:=c.row a;omega
theorem iE{a b:Int}:(if(a==b)=true then 1 else 0:Nat)=if a=b then 1 else 0:=by simp
theorem Core.k7(c:Core N tb ai wk ring){i:Nat}{x y:ay}(h:wk[i]?=some x)(d:x.slot≠0)(r:hM y)(p:y.slot=0)(n:y.hand=x.hand):
 Core N (j3 tb x.slot 1).2 ai (wk.set i y) (hp ring x.slot).2:=by
 obtain⟨t,q⟩:=c.k6 h d;have l:=c.one _ d;have f:=fun j=>e0 (y:=y) h j
 have g:=fun j=>e1 (y:=y) h j
 simp only[iE,p,n]at f g;refine c.move q 1 (by decide) (hN c.wk r) (fun j m o=> ?_) ?_ (fun e=>absurd e (by decide)) (fun _=> ?_)
 ·have a:=f j;have b:=g j;have k:=(gy ring x.slot j).2 m
  rw[if_neg (Ne.symm m),if_neg (Ne.symm o)]at a;unfold eu;omega
 ·have a:=f x.slot;have b:=g x.slot;have k:=(gy ring x.slot x.slot).1
  rw[if_pos rfl,if_neg (Ne.symm d)]at a;rw[if_pos rfl]at k;unfold eu at l⊢;omega
 ·have a:=f x.slot
  rw[if_pos rfl,if_neg (Ne.symm d)]at a;unfold eu at l;omega
theorem Core.lU(c:Core N tb ai wk ring){i:Nat}{x y:ay}(h:wk[i]?=some x)(d:x.slot≠0)(q:hM y)(o:y.slot=0)(l:y.hand=x.hand):
 Core N (j3 tb x.slot 3).2 ai (wk.set i y) ring:=by
 obtain⟨t,p⟩:=c.k6 h d;have k:=c.one _ d;have g:=fun j=>e0 (y:=y) h j
 have f:=fun j=>e1 (y:=y) h j
 simp only[iE,o,l]at g f;have r:eu (wk.set i y) ring x.slot=0:=by
  have a:=g x.slot;have b:=f x.slot;rw[if_pos rfl,if_neg (Ne.symm d)]at a;unfold eu at k⊢;omega
 refine c.move p 3 (by decide) (hN c.wk q) (fun j m n=> ?_) (by omega) (fun _=>r) (fun e=>absurd e (by decide));have a:=g j;have b:=f j;rw[if_neg (Ne.symm m),if_neg (Ne.symm n)]at a;unfold eu;omega
theorem Core.n4(c:Core N tb ai wk ring){i:Nat}{x y:ay}(h:wk[i]?=some x)(d:x.hand≠0)(r:hM y)(p:y.slot=x.slot)(n:y.hand=0):
 Core N (j3 tb x.hand 1).2 ai (wk.set i y) (hp ring x.hand).2:=by
 obtain⟨t,q⟩:=c.qO h d;have l:=c.one _ d;have g:=fun j=>e0 (y:=y) h j
 have f:=fun j=>e1 (y:=y) h j
 simp only[iE,p,n]at g f;refine c.move q 1 (by decide) (hN c.wk r) (fun j m o=> ?_) ?_ (fun e=>absurd e (by decide)) (fun _=> ?_)
 ·have a:=g j;have b:=f j;have k:=(gy ring x.hand j).2 m
  rw[if_neg (Ne.symm m),if_neg (Ne.symm o)]at b;unfold eu;omega
 ·have a:=g x.hand;have b:=f x.hand;have k:=(gy ring x.hand x.hand).1
  rw[if_pos rfl,if_neg (Ne.symm d)]at b;rw[if_pos rfl]at k;unfold eu at l⊢;omega
 ·have a:=g x.hand;have b:=f x.hand
  rw[if_pos rfl,if_neg (Ne.symm d)]at b;unfold eu at l;omega
theorem Core.zW(c:Core N tb ai wk ring){i:Nat}{x y:ay}(h:wk[i]?=some x)(d:x.hand≠0)(q:x.slot=0)(r:hM y)(o:y.slot=x.hand)(n:y.hand=0):
 Core N (j3 tb x.hand 2).2 ai (wk.set i y) ring:=by
 obtain⟨t,p⟩:=c.qO h d;have m:=c.one _ d;have g:=fun j=>e0 (y:=y) h j
 have f:=fun j=>e1 (y:=y) h j
 simp only[iE,o,n,q]at g f;refine c.move p 2 (by decide) (hN c.wk r) (fun j k l=> ?_) ?_ (fun e=>absurd e (by decide)) (fun e=>absurd e (by decide))
 ·have a:=g j;have b:=f j
  rw[if_neg (Ne.symm k),if_neg (Ne.symm l)]at a;rw[if_neg (Ne.symm k),if_neg (Ne.symm l)]at b;unfold eu;omega
 ·have a:=g x.hand;have b:=f x.hand
  rw[if_pos rfl,if_neg (Ne.symm d)]at a;rw[if_pos rfl,if_neg (Ne.symm d)]at b;unfold eu at m⊢;omega
theorem Core.Ef(c:Core N tb ai wk ring){id:Int}{t:Thread}(g:aw ai id=some t)(k:eu wk ring id=0){i:Nat}{x y:ay}(h:wk[i]?=some x)(l:x.hand=0)(r:hM y)(q:y.slot=x.slot)(m:y.hand=id):
 Core N (j3 tb id 1).2 ai (wk.set i y) ring:=by
 have d:=fun j=>e0 (y:=y) h j
 have f:=fun j=>e1 (y:=y) h j
 simp only[iE,q,m,l]at d f;have n:=c.Gf g;refine c.move g 1 (by decide) (hN c.wk r) (fun j o p=> ?_) ?_ (fun e=>absurd e (by decide)) (fun _=> ?_)
 ·have a:=d j;have b:=f j
  rw[if_neg (Ne.symm o),if_neg (Ne.symm p)]at b;unfold eu;omega
 ·have a:=d id;have b:=f id
  rw[if_pos rfl,if_neg (Ne.symm n)]at b;unfold eu at k⊢;omega
 ·have a:=d id
  unfold eu at k;omega
theorem Core.toRing(c:Core N tb ai wk ring){id:Int}{t:Thread}(f:aw ai id=some t)(b:eu wk ring id=0):Core N (j3 tb id 1).2 ai wk (hp ring id).2:=by
 refine c.move f 1 (by decide) c.wk (fun j d g=> ?_) ?_ (fun e=>absurd e (by decide)) (fun _=> ?_)
 ·have a:=(gy ring id j).2 d
  unfold eu;omega
 ·have a:=(gy ring id id).1
  rw[if_pos rfl]at a;unfold eu at b⊢;omega
 ·unfold eu at b;omega
theorem Core.zX(c:Core N tb ai wk ring){id:Int}(h:st tb id=3):(∃t,aw ai id=some t)/\eu wk ring id=0:=by
 have d:(aw ai id).isSome=true:=by
  unfold st at h;cases a:eG tb id with
  |none=>rw[a]at h;cases h
  |some r=>rw[a]at h;exact c.al id r a (sB.2 (Or.inr (Or.inr h)))
 obtain⟨t,b⟩:=Option.isSome_iff_exists.1 d;refine⟨⟨t,b⟩,?_⟩;exact Nat.eq_zero_of_not_pos fun e=>(c.sy id (c.Gf b) e).2 h
theorem Core.Ci(c:Core N tb ai wk ring){id:Int}(h:st tb id=1)(j:∀x∈wk,x.hand≠id)(k:id∉ring):(∃t,aw ai id=some t)/\eu wk ring id=0:=by
 have l:(aw ai id).isSome=true:=by
  unfold st at h;cases d:eG tb id with
  |none=>rw[d]at h;cases h
  |some r=>rw[d]at h;exact c.al id r d (sB.2 (Or.inl h))
 obtain⟨t,g⟩:=Option.isSome_iff_exists.1 l;refine⟨⟨t,g⟩,?_⟩;have a:iD wk id=0:=Nat.eq_zero_of_not_pos fun m=>c.slt id (c.Gf g) m h
 have b:qN wk id=0:=List.countP_eq_zero.2 fun x f=>by simpa using j x f
 have n:n3 ring id=0:=List.countP_eq_zero.2 fun x f e=>k (by
  have i:x=id:=by simpa using e
  rw[<-i];exact f)
 unfold eu;omega
theorem Core.take(c:Core N tb ai wk ring){id:Int}(h:st tb id=1)(m:∀x∈wk,x.hand≠id)(n:id∉ring){i:Nat}{x y:ay}(g:wk[i]?=some x)(l:x.hand=0)(u:hM y)(s:y.slot=x.slot)(o:y.hand=id):
 Core N tb ai (wk.set i y) ring:=by
 obtain⟨⟨t,f⟩,k⟩:=c.Ci h m n;have d:=fun j=>e0 (y:=y) g j
 have e:=fun j=>e1 (y:=y) g j
 simp only[iE,s,o,l]at d e;have p:=c.Gf f;refine c.fU id c.cU (fun _ _=>rfl) (fun _ _=>rfl) (fun j q r=> ?_) (hN c.wk u) (fun _ _ _=>by rw[f];rfl) (c.ai id) (fun _=> ?_) (fun _ _=>⟨by rw[f];rfl,by rw[h];decide⟩) (fun _ v=> ?_)
 ·have a:=d j;have b:=e j
  rw[if_neg (Ne.symm q),if_neg (Ne.symm r)]at b;unfold eu;omega
 ·have a:=d id;have b:=e id
  rw[if_pos rfl,if_neg (Ne.symm p)]at b;unfold eu at k⊢;omega
 ·have a:=d id
  unfold eu at k;omega
theorem Core.zY(c:Core N tb ai wk ring){i:Nat}{x y:ay}(m:wk[i]?=some x)(n:x.hand=0)(q:hM y)(p:y.slot=x.slot)(l:y.hand=(gU ring).1):
 Core N tb ai (wk.set i y) (gU ring).2.2:=by
 cases ring with
 |nil=>exact c.be m p (by rw[l,n];rfl) q
 |cons id ring=>
  change y.hand=id at l;show Core N tb ai (wk.set i y) ring
  have g:=fun j=>e0 (y:=y) m j
  have h:=fun j=>e1 (y:=y) m j
  simp only[iE,p,l,n]at g h;have k:∀j,n3 (id::ring) j=n3 ring j+if id=j then 1 else 0:=fun j=>by
   unfold n3;rw[List.countP_cons];simp
  refine c.fU id c.cU (fun _ _=>rfl) (fun _ _=>rfl) (fun j o r=> ?_) (hN c.wk q) (c.al id) (c.ai id) (fun d=> ?_) (fun d s=>c.sy id d ?_) (fun d s=>c.slt id d ?_)
  ·have a:=g j;have b:=h j;have f:=k j
   rw[if_neg (Ne.symm o),if_neg (Ne.symm r)]at b;rw[if_neg (Ne.symm o)]at f;unfold eu;omega
  ·have a:=g id;have b:=h id;have f:=k id;have e:=c.one id d
   rw[if_pos rfl,if_neg (Ne.symm d)]at b;rw[if_pos rfl]at f;unfold eu at e⊢;omega
  ·have f:=k id
   rw[if_pos rfl]at f;unfold eu;omega
  ·have a:=g id
   omega
theorem Core.gone(c:Core N tb ai wk ring){i:Nat}{x y:ay}(k:wk[i]?=some x)(e:x.slot≠0)(D:hM y)(C:y.slot=0)(s:y.hand=x.hand)(v:gp ai):
 Core N (eM (gj tb x.slot 0).2 x.slot).2 (ft ai x.slot) (wk.set i y) ring:=by
 obtain⟨t,d⟩:=c.k6 k e;obtain⟨r,z,p,_⟩:=c.row d;obtain⟨u1,_,u3⟩:=sA c.cU x.slot 0 bm;obtain⟨F,B,n,G⟩:=u3 r z p;obtain⟨u4,u5⟩:=uw u1.ok x.slot;have g:=fun j=>e0 (y:=y) k j
 have f:=fun j=>e1 (y:=y) k j
 simp only[iE,C,s]at g f;have o:=c.one _ e;have E:eu (wk.set i y) ring x.slot=0:=by
  have a:=g x.slot;have b:=f x.slot;rw[if_pos rfl,if_neg (Ne.symm e)]at a;unfold eu at o⊢;omega
 have q:=(v.del x.slot).2;have m:=u1.trans u4;refine c.fU x.slot m.ok m.E7 (fun j h=>gn _ _ _ h) (fun j h u=> ?_) (hN c.wk D) (fun r' A l=> ?_) (fun t d=>by rw[q]at d;cases d) (fun _=>by omega) (fun _ w=>by omega) (fun _ w=>by unfold eu at E;omega)
 ·have a:=g j;have b:=f j
  rw[if_neg (Ne.symm h),if_neg (Ne.symm u)]at a;unfold eu;omega
 ·rw[u5 F B n r' A]at l;exact absurd l (by decide)
theorem n5:∀(l:List aE) (k p:Nat),iL l k=some p->k<=p/\∃r,l[p-k]?=some r/\r.taken=false
 |[],_,_,h=>by cases h
 |r::l,k,p,h=>by
  unfold iL at h;split at h
  ·obtain⟨d,r',a,b⟩:=n5 l (k+1) p h
   refine⟨by omega,r',?_,b⟩;rw[show p-k=(p-(k+1))+1 by omega,List.getElem?_cons_succ];exact a
  ·rename_i c
   have:k=p:=Option.some.inj h;subst this;exact⟨Nat.le_refl _,r,by rw[Nat.sub_self];rfl,by simpa using c⟩
theorem Core.born(c:Core N tb ai wk ring)(E:N<=1000000)(home:Int)(y:aI home){id:Int}{lA:List aE}(hb:df tb home=(some id,lA)){t:Thread}(D:nZ id t):
 aw ai id=none/\Core (N+1) lA (b8 ai id t) wk ring/\eu wk ring id=0/\64<=id/\id<=64*(N+1)+63/\st lA id=1:=by
 unfold df at hb;cases g:iL tb 0 with
 |none=>rw[g]at hb;cases hb
 |some p=>
  obtain⟨_,r,a,s⟩:=n5 tb 0 p g;rw[Nat.sub_zero]at a;rw[g]at hb;dsimp only at hb;rw[a]at hb;dsimp only at hb;have o:=c.cU.row p r a;have b:p<64:=by have:=(List.getElem?_eq_some_iff.1 a).1;rw[c.cU.len]at this;exact this
  have l:p<tb.length:=(List.getElem?_eq_some_iff.1 a).1;have t0:=o.t0;have t1:=o.t1;have w1:IntKind.u64.wrap (r.times+1)=r.times+1:=by unfold IntKind.wrap IntKind.bits IntKind.signed;simp;omega
  have w2:IntKind.u64.wrap (64*(r.times+1))=64*(r.times+1):=by unfold IntKind.wrap IntKind.bits IntKind.signed;simp;omega
  have w3:IntKind.u64.wrap ((p:Int)+64*(r.times+1))=(p:Int)+64*(r.times+1):=by unfold IntKind.wrap IntKind.bits IntKind.signed;simp;omega
  rw[w1,w2,w3]at hb;injection hb with d f
  injection d with d
  have hid:id%64=p:=by omega
  have k:(id%64).toNat=p:=by omega
  have A:eG tb id=none:=by
   unfold eG;rw[k,a];simp[s]
  have m:aw ai id=none:=by
   cases z:aw ai id with
   |none=>rfl
   |some u=>obtain⟨_,r',i,_⟩:=c.ai id u z;rw[A]at i;cases i
  have w:eu wk ring id=0:=by
   have:=(fun b=>(c.sy id (by omega) b).1);rw[m]at this;have:¬0<eu wk ring id:=(fun b=>by cases this b);omega
  have x:eZ (N+1) lA:=by
   rw[<-f];refine eZ.set (c.cU.more (Nat.le_succ _)) ⟨?_,?_,fun _=> ?_,y,bm⟩
   ·show 0<=r.times+1;omega
   ·show r.times+1<=((N+1:Nat):Int);omega
   ·show((p:Int)+64*(r.times+1))%64=p/\64<=(p:Int)+64*(r.times+1)/\(p:Int)+64*(r.times+1)<=64*((N+1:Nat):Int)+63
    omega
  have B:∃r',eG lA id=some r'/\r'.t.state=1:=by
   rw[<-f,m3 l,if_pos k];exact⟨_,if_pos (by simp[d]),rfl⟩
  have C:∀j,j≠id->eG lA j=eG tb j:=fun j h=>by
   rw[<-f,m3 l];split
   ·rename_i e
    rw[if_neg (by simp[d,Ne.symm h])];unfold eG;rw[e,a];simp[s]
   ·rfl
  obtain⟨r',n,q⟩:=B;refine⟨m,?_,w,by omega,by omega,by unfold st;rw[n];exact q⟩;refine c.fU id x C (fun j h=>by rw[aV,if_neg h]) (fun _ _ _=>⟨Nat.le_refl _,Nat.le_refl _⟩) c.wk (fun _ _ _=>by rw[aV,if_pos rfl];rfl)
   (fun u v=>by
    rw[aV,if_pos rfl]at v;rw[<-Option.some.inj v];exact⟨D,r',n,fun e=>by rw[q]at e;cases e⟩)
   (fun _=>by omega) (fun _ b=>by omega) (fun _ b=>by unfold eu at w;omega)
end
end
section
section
variable{w w':World}{χ:Nat->aX}{L:cz}{Y:Var}{C:KC}{K:KS}
def FI(l:List Value)(w:World)(p:Value)(wc:World):Prop:=∃a,p=.pointer (some ⟨a,0,none⟩)/\Row wc a 62 l/\Ch ag w wc/\w.heap.size<=a
theorem jP(id:Int)(c:bN)(b S:Nat)(H:ak K c)(a2:aS L Y c b S)(g f m n o d a:Int)(ap:iN g=true->0<=f/\f<32)(hb:K.out.length<=900000)(h:ae w χ L Y C K):
 Calls prog 143 #[(L.mb,0),.int .u64 id,(b,S),.agg #[g,f,m,n,.int .u64 o,d,a]] w (dj (.tuple #[]) χ L Y C K (da K id c ⟨g,f,m,n,o,d,a⟩) w):=by
 have bx:=Z H;have c3:=Z a2;have I:=Z hb;obtain⟨F,D,c0,Q,N⟩:=h.r8 g f m n o d a;obtain⟨t0,t1⟩:=N.c2;have t5:=N.k 5 rfl;have t6:=N.k 6 rfl;have bw:=Z ap;obtain⟨l,a3⟩:∃y,(K.F c).r 0=y:=⟨_,rfl⟩;have z:=Z a3;have M:=Q.at_.aC H a2 0 (by omega);rw[a3]at M;clear h H a2 hb ap a3;by_cases q:d=0
 ·have E:Hid (da K id c ⟨g,f,m,n,o,d,a⟩=K):=Z (by unfold da;rw[if_pos q])
  subst q;go_in
  go_wp2
  try rw[D]
  refine bodyPost_ret (results_none rfl _ _ _) rfl ?_;rw[E];exact⟨rfl,_,_,Q⟩
 ·have cr:(d==0)=false:=by rw[beq_eq_false_iff_ne];exact q
  go_in
  go_wp2
  try rw[D]
  clear D;go_cut [8] (fun p wc=>FI [.int .i64 5,.int .i64 0,.int .i64 0,.int .u64 id,d,.int .u64 0,.int .u64 0,.int .u64 0,.int .u64 0,.int .u64 l,.int .u64 0] F p wc)
  case first=>
   have cA:=World.new_ne F ⟨w.heap.size,5,none⟩ t5;have cC:=World.new_ne F ⟨b,S+1+0,none⟩ M;have cL:b≠F.heap.size:=Nat.ne_of_lt (aP M);have cQ:w.heap.size≠F.heap.size:=Nat.ne_of_lt (aP t5);go_region_held3 (fun w'=>w'.cell? (w.heap.size,5)=some (.int .i64 d)/\w'.cell? (b,S+1+0)=some (.int .u64 l)) (go_keep) (fail)
   all_goals(go_wp2_with fail;go_meet)
   all_goals exact⟨F.heap.size,rfl,(Row.new F _ _).drew,((Ch.refl _ _).alloc _).drew,Nat.le_refl _⟩
  case rest=>
   obtain⟨B,rfl,ax,H,hle⟩:=hcut;have P:=Z ax;have al:=Z H;have X:=Z (Q.af al);have O:=Z (N.ch al (fun h=>h));have av:w.heap.size<=B:=Nat.le_trans c0.size hle;have c1:=Z av;have cs:b≠B:=(fun e=>by have a1:=aP M;dsimp only at a1;omega);have ci:w.heap.size≠B:=(fun e=>by have a1:=aP t0;dsimp only at a1;omega);have c2:Hid (χ B=.no):=Z (Q.at_.fresh hle);clear t0 t1 t5 t6 M ax H hle av;have t0:=O.c1;have W:=Z (zI g wc);obtain⟨cm,ab⟩:=nm (iN g);rw[ab]at W;have V:=Z ab;obtain⟨bi,u⟩:∃p,(a==0)=p:=⟨_,rfl⟩;obtain⟨p1,ck⟩:∃p,(a==1)=p:=⟨_,rfl⟩;have cq:=Z u;have G:=Z ck;clear ab;cases cm
   ·have r:Hid ((if iN g=true then(K.F c).r f.toNat else 0)=0):=Z (by rw[if_neg (by rw[V.out];simp)])
    go_wp2_with fail
    refine W.mono ?_;rintro e w2 ⟨rfl,rfl⟩;go_upto_region 5 with fail
    have j:=X;have U:=P;have T:=O;clear t0;have A:Hid (((0:Int)==0)=true):=Z rfl;obtain⟨c4,c5,c6,c7,c8,c9,cb,cd,ce,cf,a0⟩:=U.Bl;have t6:=T.k 6 rfl;cases bi
    ·cases p1
     ·have J:¬(a=0∨((a==1)=(0==(0:Int)))):=fun e=>e.elim (fun e=>by rw[beq_eq_false_iff_ne]at u;exact u e) (fun e=>by rw[G,A]at e;cases e)
      have E:Hid (da K id c ⟨g,f,m,n,o,d,a⟩=K):=Z (by unfold da;dsimp only;rw[if_neg q,r,z,if_neg (J)]);go_wp2
      go_end0
      rw[E];exact⟨rfl,_,_,j⟩
     ·have v:a=0∨((a==1)=(0==(0:Int))):=Or.inr (by rw[G,A])
      have E:Hid (da K id c ⟨g,f,m,n,o,d,a⟩=tell K ⟨5,0,0,id,d,0,0,0,0,l,0⟩):=Z (by unfold da;dsimp only;rw[if_neg q,r,z,if_pos (v)]);go_wp2_with fail
      refine(dH 5 0 0 id d 0 0 0 0 l 0 I j.at_).mono ?_;rintro e w4 ⟨rfl,x,t,k⟩;have s:=Z (j.trans (Gr.refl _) k);clear k;go_wp2
      go_end0
      rw[E];exact⟨rfl,x,t,s⟩
    ·have D:a=0:=by simpa using u
     have v:a=0∨((a==1)=(0==(0:Int))):=Or.inl D;have E:Hid (da K id c ⟨g,f,m,n,o,d,a⟩=tell K ⟨5,0,0,id,d,0,0,0,0,l,0⟩):=Z (by unfold da;dsimp only;rw[if_neg q,r,z,if_pos (v)]);go_wp2_with fail
     refine(dH 5 0 0 id d 0 0 0 0 l 0 I j.at_).mono ?_;rintro e w4 ⟨rfl,x,t,k⟩;have s:=Z (j.trans (Gr.refl _) k);clear k;go_wp2
     go_end0
     rw[E];exact⟨rfl,x,t,s⟩
   ·obtain⟨cS,cW⟩:=bw V
    obtain⟨i,ad⟩:∃y,(K.F c).r f.toNat=y:=⟨_,rfl⟩;have r:Hid ((if iN g=true then(K.F c).r f.toNat else 0)=i):=Z (by rw[if_pos V.out];exact ad);have bv:=X.at_.aC bx c3 f.toNat (by omega);rw[ad]at bv;clear ad;have t1:=O.k 1 rfl;have a0:=P.k 10 rfl;have ch:=P.free 10;go_wp2_with fail
    refine W.mono ?_;rintro e w2 ⟨rfl,rfl⟩;go_wp2
    go_still_tail 8,(by kernel_rfl)
    change wpList _ _ _ _ _ wc.drew;go_upto_region 5 with fail
    obtain⟨w3,R⟩:=nm ((wc.setCell (B,10) (.int .u64 i)).drew);have am:Hid (Ch (aL B) wc w3):=Z (by rw[<-R];exact((Ch.refl _ _).only _ _).drew);have U:Hid (Row w3 B 62 [.int .i64 5,.int .i64 0,.int .i64 0,.int .u64 id,d,.int .u64 0,.int .u64 0,.int .u64 0,.int .u64 0,.int .u64 l,.int .u64 i]):=Z (by rw[<-R];exact(P.set 10 _).drew);have j:=Z (X.plain c2 c1 am);have T:=Z (O.ch am (fun e=>ci e));rw[R];clear R t0 t1 a0 ch bv;obtain⟨p2,cl⟩:∃p,(i==(0:Int))=p:=⟨_,rfl⟩;have A:=Z cl;obtain⟨c4,c5,c6,c7,c8,c9,cb,cd,ce,cf,a0⟩:=U.Bl;have t6:=T.k 6 rfl;cases bi
    ·cases p1<;>cases p2
     ·have v:a=0∨((a==1)=(i==(0:Int))):=Or.inr (by rw[G,A])
      have E:Hid (da K id c ⟨g,f,m,n,o,d,a⟩=tell K ⟨5,0,0,id,d,0,0,0,0,l,i⟩):=Z (by unfold da;dsimp only;rw[if_neg q,r,z,if_pos (v)]);go_wp2_with fail
      refine(dH 5 0 0 id d 0 0 0 0 l i I j.at_).mono ?_;rintro e w4 ⟨rfl,x,t,k⟩;have s:=Z (j.trans (Gr.refl _) k);clear k;go_wp2
      go_end0
      rw[E];exact⟨rfl,x,t,s⟩
     ·have J:¬(a=0∨((a==1)=(i==(0:Int)))):=fun e=>e.elim (fun e=>by rw[beq_eq_false_iff_ne]at u;exact u e) (fun e=>by rw[G,A]at e;cases e)
      have E:Hid (da K id c ⟨g,f,m,n,o,d,a⟩=K):=Z (by unfold da;dsimp only;rw[if_neg q,r,z,if_neg (J)]);go_wp2
      go_end0
      rw[E];exact⟨rfl,_,_,j⟩
     ·have J:¬(a=0∨((a==1)=(i==(0:Int)))):=fun e=>e.elim (fun e=>by rw[beq_eq_false_iff_ne]at u;exact u e) (fun e=>by rw[G,A]at e;cases e)
      have E:Hid (da K id c ⟨g,f,m,n,o,d,a⟩=K):=Z (by unfold da;dsimp only;rw[if_neg q,r,z,if_neg (J)]);go_wp2
      go_end0
      rw[E];exact⟨rfl,_,_,j⟩
     ·have v:a=0∨((a==1)=(i==(0:Int))):=Or.inr (by rw[G,A])
      have E:Hid (da K id c ⟨g,f,m,n,o,d,a⟩=tell K ⟨5,0,0,id,d,0,0,0,0,l,i⟩):=Z (by unfold da;dsimp only;rw[if_neg q,r,z,if_pos (v)]);go_wp2_with fail
      refine(dH 5 0 0 id d 0 0 0 0 l i I j.at_).mono ?_;rintro e w4 ⟨rfl,x,t,k⟩;have s:=Z (j.trans (Gr.refl _) k);clear k;go_wp2
      go_end0
      rw[E];exact⟨rfl,x,t,s⟩
    ·have D:a=0:=by simpa using u
     have v:a=0∨((a==1)=(i==(0:Int))):=Or.inl D;have E:Hid (da K id c ⟨g,f,m,n,o,d,a⟩=tell K ⟨5,0,0,id,d,0,0,0,0,l,i⟩):=Z (by unfold da;dsimp only;rw[if_neg q,r,z,if_pos (v)]);go_wp2_with fail
     refine(dH 5 0 0 id d 0 0 0 0 l i I j.at_).mono ?_;rintro e w4 ⟨rfl,x,t,k⟩;have s:=Z (j.trans (Gr.refl _) k);clear k;go_wp2
     go_end0
     rw[E];exact⟨rfl,x,t,s⟩
end
end
theorem uG(N:Nat)(a:Option Addr)(c:Nat)(d:Bool)(b:2048<N)(w:World):
 Calls prog 115 #[.slice a N c,.bool d] w (fun e w'=>∃t x,e=.returned (.iface 197 (.pointer (some (w.heap.size,0))))/\w.alloc (.cells #[.string ⟨#[99,111,100,101]⟩,.int .i64 0,.iface t x] 199)=w'):=by
 have f:(2048:Int)<(N:Int):=by omega
 clear b;go_in
 go_wp2_with (go_at_call 88;refine(bo _ _ _ _).mono ?_;rintro e w' ⟨rfl,rfl⟩)
 go_ret;exact⟨_,_,rfl,rfl⟩
theorem q2(N:Nat)(a:Option Addr)(c:Nat)(u:Bool)(q:2048<N)(w:World)
 (n:w.cell? (0,0)=some (.iface 335 (.agg #[(1,40)]))):
 Calls prog 89 #[.slice a N c,.bool u] w (sU false w):=by
 obtain⟨w1,r⟩:=nm (w.alloc (.cells #[.pointer none] 197));have d:=Z (Ch.al (D:=ag) r);have g:=Z (Row.al r);have l:Hid (w1.cell? (0,0)=some (.iface 335 (.agg #[(1,40)]))):=Z (d.k n);have v:=Z (uG N a c u q w1);clear n q;go_in
 go_wp2_with (first|(go_at_call 115;refine v.mono ?_;rintro e w2 ⟨t,x,rfl,s⟩;have m:=Z s;clear s))
 have b:Hid (Ch ag w1 w2):=Z (by rw[<-m];exact(Ch.refl _ _).alloc _);have k:Hid (Row w2 w1.heap.size 199 [.string ⟨#[99,111,100,101]⟩,.int .i64 0,.iface t x]):=Z (by rw[<-m];exact Row.new w1 _ _);refine(vV ⟨w1.heap.size,0,none⟩ w.heap.size (.pointer none) w2 ((b.cell (aP l) id).trans l) ((g.ch b id).cell (i:=0) rfl) ((g.ch b id).free 0)).mono ?_;rintro e w3 ⟨rfl,A,h⟩;have f:=Z h;have B:w.heap.size<w1.heap.size:=g.lt;have z:w3.cell? (w1.heap.size,1)=some (.int .i64 0):=(h.cell (p:=⟨w1.heap.size,1,none⟩) k.lt (fun e=>by have:w1.heap.size=w.heap.size:=e;omega)).trans (k.cell (i:=1) rfl);clear h;go_wp2_with (go_at_call 88;refine(bo _ _ _ _).mono ?_;rintro e w' ⟨rfl,rfl⟩)
 go_ret;refine⟨⟨_,rfl,ar.mk _ _⟩,Ch.alloc ?_ _⟩;exact⟨f.os.trans (d.trans b).os,f.tape.trans (d.trans b).tape,f.out.output.trans (d.trans b).output,Nat.le_trans (d.trans b).size f.size,fun j o y=>(f.same j (Nat.lt_of_lt_of_le o (d.trans b).size) (fun e=>by have:j=w.heap.size:=e;omega)).trans ((d.trans b).same j o y)⟩
theorem Ch.fresh{D:Nat->Prop}{w a b:World}(c:Ch ag w a)(d:Ch D a b)(f:∀i,i<w.heap.size->¬D i):Ch ag w b:=
 ⟨d.os.trans c.os,d.tape.trans c.tape,d.output.trans c.output,Nat.le_trans c.size d.size,fun j e g=>(d.same j (Nat.lt_of_lt_of_le e c.size) (f j e)).trans (c.same j e g)⟩
def jm(l:List aR)(a:Bool):Bool:=decide (l.length<=2048)&&(gS l.length a l 0).isNone
theorem ld(l:List aR)(a:Option Addr)(c:Nat)(b:Bool)(f:l.length<=c)(w:World)(h:l≠[]->∃g,a=some ⟨g,0,none⟩/\fo w g l)
 (e:w.cell? (0,0)=some (.iface 335 (.agg #[(1,40)]))):
 Calls prog 89 #[.slice a l.length c,.bool b] w (sU (jm l b) w):=by
 unfold jm;by_cases d:l.length<=2048
 ·rw[decide_eq_true d,Bool.true_and];exact sV l a c b d f w h e
 ·rw[decide_eq_false d,Bool.false_and];exact q2 _ a c b (by omega) w e
def iW(k:Int):Bool:=decide (0<=k/\k<=7)
def gB(n:Int)(s:List Bool)(r:bB):Bool:=(decide (1<=r.num/\r.num<=999)&& !(s.getD r.num.toNat false)&&decide (0<=r.at_/\r.at_<n))&&(iW r.k0&&iW r.k1&&iW r.k2&&iW r.k3)
def jn(n:Int):List bB->List Bool->Bool
 |[],_=>true
 |r::l,s=>gB n s r&&jn n l (s.set r.num.toNat true)
def fF(l:List aR)(loop:Int)(calls:List bB):Bool:=decide (l.length≠0)&&jm l true&&decide (0<=loop/\loop<l.length)&&jn l.length calls (List.replicate 1000 false)
def fG(n:Int)(calls:List bB)(k:Nat)(s:List Bool)(r:Bool):Prop:=s.length=1000/\jn n (calls.drop k) s=r
theorem fG.next{n:Int}{calls:List bB}{k:Nat}{s:List Bool}{r:Bool}{X:bB}(h:fG n calls k s r)(a:calls[k]?=some X)(d:gB n s X=true):fG n calls (k+1) (s.set X.num.toNat true) r:=by
 refine⟨by simpa using h.1,?_⟩;obtain⟨c,b⟩:=List.getElem?_eq_some_iff.1 a;rw[<-h.2,List.drop_eq_getElem_cons c,b,jn,d,Bool.true_and]
theorem fG.bad{n:Int}{calls:List bB}{k:Nat}{s:List Bool}{r:Bool}{X:bB}(h:fG n calls k s r)(a:calls[k]?=some X)(d:gB n s X=false):r=false:=by
 obtain⟨c,b⟩:=List.getElem?_eq_some_iff.1 a;rw[<-h.2,List.drop_eq_getElem_cons c,b,jn,d,Bool.false_and]
theorem fG.all{n:Int}{calls:List bB}{k:Nat}{s:List Bool}{r:Bool}(h:fG n calls k s r)(a:calls.length<=k):r=true:=by
 rw[<-h.2,List.drop_eq_nil_of_le a];rfl
theorem GI(a b c d:Int):([a,b,c,d].drop 0).all iW=(iW a&&([a,b,c,d].drop 1).all iW):=rfl
theorem GJ(a b c d:Int):([a,b,c,d].drop 1).all iW=(iW b&&([a,b,c,d].drop 2).all iW):=rfl
theorem GK(a b c d:Int):([a,b,c,d].drop 2).all iW=(iW c&&([a,b,c,d].drop 3).all iW):=rfl
theorem GL(a b c d:Int):([a,b,c,d].drop 3).all iW=(iW d&&([a,b,c,d].drop 4).all iW):=rfl
theorem Ez(a b c e:Int)(d:World):(Instr.index 47 (.agg #[a,b,c,e]) (.int .i64 0)).run prog d=.ok (.int .i64 a) d:=by kernel_rfl
theorem EA(a b c e:Int)(d:World):(Instr.index 47 (.agg #[a,b,c,e]) (.int .i64 1)).run prog d=.ok (.int .i64 b) d:=by kernel_rfl
theorem EB(a b c e:Int)(d:World):(Instr.index 47 (.agg #[a,b,c,e]) (.int .i64 2)).run prog d=.ok (.int .i64 c) d:=by kernel_rfl
theorem EC(a b c e:Int)(d:World):(Instr.index 47 (.agg #[a,b,c,e]) (.int .i64 3)).run prog d=.ok (.int .i64 e) d:=by kernel_rfl
theorem mE(l:List aR)(R:Option Addr)(a2:Nat)(loop:Int)(calls:List bB)(bv:Option Addr)(ce:Nat)(cC:l.length<=a2)(gf:calls.length<=100000)(w:World)(a0:l≠[]->∃g,R=some ⟨g,0,none⟩/\fo w g l)
 (cQ:calls≠[]->∃g Q,bv=some ⟨g,0,none⟩/\Row w g 49 (calls.flatMap bB.cells++Q))
 (Y:w.cell? (0,0)=some (.iface 335 (.agg #[(1,40)]))):
 Calls prog 50 #[.agg #[.slice R l.length a2,loop,.slice bv calls.length ce]] w (sU (fF l loop calls) w):=by
 obtain⟨w1,cd⟩:=nm (w.alloc (.cells #[.slice R l.length a2,loop,.slice bv calls.length ce] 33));have I:=Z (Ch.al (D:=ag) cd);have eS:Hid (l≠[]->∃g,R=some ⟨g,0,none⟩/\fo w1 g l):=Z (fun h=>by obtain⟨g,e,Y⟩:=a0 h;exact⟨g,e,Y.ch I id⟩);have eL:Hid (calls≠[]->∃g Q,bv=some ⟨g,0,none⟩/\Row w1 g 49 (calls.flatMap bB.cells++Q)):=Z (fun h=>by obtain⟨g,Q,e,Y⟩:=cQ h;exact⟨g,Q,e,Y.ch I id⟩);have ck:Hid (w1.cell? (0,0)=some (.iface 335 (.agg #[(1,40)]))):=Z (I.k Y);have T:=Z (ld l R a2 true cC w1 eS ck);have al:=Z (Row.al cd);obtain⟨N,ap⟩:=mn l.length;obtain⟨M,bw⟩:=mn calls.length;obtain⟨n,c5⟩:=nm (fF l loop calls);obtain⟨u,cb⟩:=nm (jm l true);obtain⟨q,c6⟩:=nm (jn N calls (List.replicate 1000 false));have K:Hid (n=(decide (N≠0)&&u&&decide (0<=loop/\loop<N)&&q)):=Z (by rw[<-c5,ap,<-cb,<-c6,ap];rfl);have eA:Hid (fG N calls 0 (List.replicate 1000 false) q):=Z ⟨by simp,by rw[List.drop_zero];exact c6⟩;have c2:=Z bw;rw[cb]at T;rw[c5];rw[<-ap,<-bw]at al cd⊢;rw[<-ap]at T;rw[<-bw]at gf;clear a0 cQ Y cC ap bw c5 cb c6;obtain⟨t0,t1,t2⟩:=al.c3;by_cases cs:N=0
 ·have E:Hid (n=false):=Z (by rw[K.out,decide_eq_false (by omega)];rfl)
  subst cs;go_in
  go_wp2_with (go_at_call 88;refine(bo _ _ _ _).mono ?_;rintro e w' ⟨rfl,rfl⟩)
  go_ret;rw[E];exact⟨⟨_,rfl,ar.mk _ _⟩,I.alloc _⟩
 have he:(N==0)=false:=by simpa using cs
 cases u
 ·have E:Hid (n=false):=Z (by rw[K.out,Bool.and_false];rfl)
  go_in
  go_wp2_with (go_at_call 89;refine T.mono ?_;rintro e w2 ⟨⟨y,rfl,C⟩,A⟩;obtain⟨tt,hd,rfl⟩:ar y:=C;have J:=Z A;clear A)
  go_ret;rw[E];exact⟨⟨_,rfl,ar.mk _ _⟩,I.trans J⟩
 by_cases H:¬(0<=loop/\loop<(N:Int))
 ·have E:Hid (n=false):=Z (by rw[K.out,decide_eq_false H,Bool.and_false];rfl)
  have ax:decide (0<=loop/\loop<(N:Int))=false:=decide_eq_false H;have U:=Z (fun w=>lY loop N w);rw[ax]at U;clear ax H;go_in
  go_wp2_with (first|(go_at_call 89;refine T.mono ?_;rintro e w2 ⟨⟨y,rfl,C⟩,A⟩;obtain rfl:y=.nilIface:=C;have J:=Z A;have V:=al.ch A id;obtain⟨en,es⟩:=V.c2;clear A V t0 t1 t2)|(go_at_call 90;refine(U _).mono ?_;rintro e w3 ⟨⟨y,rfl,C⟩,W⟩;have a3:=Z W;obtain⟨tt,hd,rfl⟩:ar y:=C;clear W))
  go_ret;rw[E];exact⟨⟨_,rfl,ar.mk _ _⟩,(I.trans J).trans a3⟩
 have H:=Decidable.not_not.1 H;have E:Hid (n=q):=Z (by rw[K.out,decide_eq_true (by omega),decide_eq_true H];simp);have ax:decide (0<=loop/\loop<(N:Int))=true:=decide_eq_true H;have U:=Z (fun w=>lY loop N w);rw[ax]at U;clear ax H K;go_in
 go_wp2_with (first|(go_at_call 89;refine T.mono ?_;rintro e w2 ⟨⟨y,rfl,C⟩,A⟩;obtain rfl:y=.nilIface:=C;have J:=Z A;have V:=Z (al.ch A id);obtain⟨en,es,gt⟩:=V.c3;clear A t0 t1 t2)|(go_at_call 90;refine(U _).mono ?_;rintro e w3 ⟨⟨y,rfl,C⟩,W⟩;have a3:=Z W;obtain rfl:y=.nilIface:=C;have c3:=Z (V.ch W id);have cm:=Z (c3.alloc (.cells Tryz.zeroCells202 202));obtain⟨dC,dN,ec⟩:=cm.c3;clear W en es gt))
 have et:Hid (Tryz.zeroCells202.toList=(List.replicate 1000 false).map Value.bool):=Z (by kernel_rfl);obtain⟨w4,a1⟩:=nm (w3.alloc (.cells Tryz.zeroCells202 202));obtain⟨o,bi⟩:=nm w3.heap.size;have cl:Hid (Row w4 o 202 ((List.replicate 1000 false).map Value.bool)):=Z (by rw[<-a1,<-bi,<-et];exact Row.new _ _ _);have c1:Hid (Ch ag w w4):=Z (by rw[<-a1];exact((I.trans J).trans a3).alloc _);have S:Hid (w.heap.size<o/\w1.heap.size<=o/\o<w4.heap.size):=Z (by
  refine⟨by rw[<-bi];exact c3.lt,by rw[<-bi];exact(J.trans a3).size,cl.lt⟩)
 have ch:Hid (Ch ag w1 w4):=Z (by rw[<-a1];exact(J.trans a3).alloc _);have cq:Hid (Row w4 w.heap.size 33 [.slice R N a2,loop,.slice bv M ce]):=Z (al.ch ch id);rw[a1,bi];rw[a1]at dC dN ec;clear cm c3 V U T ck a1 bi dC dN ec;go_loopg [34] (M+1) (fun gk i wr=>∃(k:Nat) (s:List Bool),k<=M/\gk=M-k+1/\i=.int .i64 k/\Hid (fG N calls k s q)/\Hid (Row wr o 202 (s.map Value.bool))/\Hid (Ch (aL o) w4 wr))
 case atStart=>exact⟨0,_,by omega,by omega,rfl,eA,cl,Z (Ch.refl _ _)⟩
 case round=>
  obtain⟨k,s,cL,rfl,rfl,t,ad,CR⟩:=hrel;by_cases cS:k<M
  ·obtain⟨X,av⟩:∃X,calls[k]?=some X:=⟨_,List.getElem?_eq_getElem (by rw[<-c2];exact cS)⟩
   have d:=Z av;obtain⟨g,Q,rfl,c9⟩:=eL (by intro e;rw[e]at av;cases av);have dr:=c9.ch (ch) id;have cW:Hid (Row wr g 49 (calls.flatMap bB.cells++Q)):=Z (dr.ch CR (fun e=>by have O:g=o:=e;have cA:=c9.lt;have am:=S.2.1;omega));have P:∀j v,j<6->X.cells[j]?=some v->wr.cell? ⟨g,k*6+j,none⟩=some v:=fun j v bx gr=>cW.out.cell (by
    rw[List.getElem?_append_left (by
     have O:=List.length_flatMap (f:=bB.cells) (l:=calls);have cA:(calls.flatMap bB.cells).length=calls.length*6:=by
      rw[O];simp only[bB.len];rw[List.map_const',List.sum_replicate_nat]
     rw[cA,<-c2];have:(k+1)*6<=M*6:=Nat.mul_le_mul_right _ cS;omega)]
    exact(bD bB.len av bx).trans gr)
   obtain⟨num,at_,k0,k1,k2,k3⟩:=X;have cr:=P 0 _ (by omega) rfl;have fd:=P 1 _ (by omega) rfl;have fn:=P 2 _ (by omega) rfl;have fr:=P 3 _ (by omega) rfl;have fz:=P 4 _ (by omega) rfl;have gc:=P 5 _ (by omega) rfl;rw[Nat.add_zero]at cr;have gs:wr.cell? ⟨w.heap.size,0,none⟩=some (.slice R N a2):=(cq.ch CR (fun e=>by have O:w.heap.size=o:=e;have am:=S.1;omega)).cell (i:=0) rfl;have cL:(k:Int)<M:=(by omega);have go:g<wr.heap.size/\w.heap.size<wr.heap.size/\o<wr.heap.size:=⟨cW.out.lt,(cq.ch CR (fun e=>by have O:w.heap.size=o:=e;have am:=S.1;omega)).lt,ad.lt⟩;obtain⟨hn,hu,hv⟩:=go;clear P av c9 dr;have F:Hid (Ch ag w wr):=Z (c1.fresh CR (fun b hb e=>by have O:b=o:=e;have am:=S.1;omega));by_cases hw:num<1
   ·have B:Hid (gB N s ⟨num,at_,k0,k1,k2,k3⟩=false):=Z (by unfold gB;dsimp only;rw[decide_eq_false (by omega)];rfl)
    have a:Hid (n=false):=Z (E.trans (t.bad d B));clear d;go_wp2_with (go_at_call 88;refine(bo _ _ _ _).mono ?_;rintro e w' ⟨rfl,rfl⟩)
    go_ret;rw[a];exact⟨⟨_,rfl,ar.mk _ _⟩,(F.alloc _).alloc _⟩
   by_cases hB:999<num
   ·have B:Hid (gB N s ⟨num,at_,k0,k1,k2,k3⟩=false):=Z (by unfold gB;dsimp only;rw[decide_eq_false (by omega)];rfl)
    have a:Hid (n=false):=Z (E.trans (t.bad d B));clear d;go_wp2_with (go_at_call 88;refine(bo _ _ _ _).mono ?_;rintro e w' ⟨rfl,rfl⟩)
    go_ret;rw[a];exact⟨⟨_,rfl,ar.mk _ _⟩,(F.alloc _).alloc _⟩
   obtain⟨m,rfl⟩:∃m:Nat,num=m:=⟨num.toNat,by omega⟩;have hm:(m:Int)<1000:=(by omega);have hl:m<1000:=(by omega);have hi:(0:Int)<=m:=(by omega);obtain⟨b,hb⟩:∃b,s[m]?=some b:=⟨_,List.getElem?_eq_getElem (by rw[t.1];omega)⟩;have ge:wr.cell? (o,m)=some (.bool b):=ad.cell (by rw[List.getElem?_map,hb];rfl);have ab:Hid (s.getD (m:Int).toNat false=b):=Z (by rw[Int.toNat_natCast,List.getD_eq_getElem?_getD,hb];rfl);clear hb;have bx:decide (1<=(m:Int)/\(m:Int)<=999)=true:=decide_eq_true (by omega);have c:=Z bx;clear bx;cases b
   rotate_left
   ·have B:Hid (gB N s ⟨m,at_,k0,k1,k2,k3⟩=false):=Z (by unfold gB;dsimp only;rw[c,ab];rfl)
    have a:Hid (n=false):=Z (E.trans (t.bad d B));clear d;go_wp2_with (go_at_call 88;refine(bo _ _ _ _).mono ?_;rintro e w' ⟨rfl,rfl⟩)
    go_ret;rw[a];exact⟨⟨_,rfl,ar.mk _ _⟩,(F.alloc _).alloc _⟩
   by_cases hF:at_<0
   ·have B:Hid (gB N s ⟨m,at_,k0,k1,k2,k3⟩=false):=Z (by unfold gB;dsimp only;rw[c,ab,decide_eq_false (p:=0<=at_/\at_<(N:Int)) (by omega)];rfl)
    have a:Hid (n=false):=Z (E.trans (t.bad d B));clear d;go_wp2_with (go_at_call 88;refine(bo _ _ _ _).mono ?_;rintro e w' ⟨rfl,rfl⟩)
    go_ret;rw[a];exact⟨⟨_,rfl,ar.mk _ _⟩,(F.alloc _).alloc _⟩
   by_cases i0:(N:Int)<=at_
   ·have B:Hid (gB N s ⟨m,at_,k0,k1,k2,k3⟩=false):=Z (by unfold gB;dsimp only;rw[c,ab,decide_eq_false (p:=0<=at_/\at_<(N:Int)) (by omega)];rfl)
    have a:Hid (n=false):=Z (E.trans (t.bad d B));clear d;go_wp2_with (go_at_call 88;refine(bo _ _ _ _).mono ?_;rintro e w' ⟨rfl,rfl⟩)
    go_ret;rw[a];exact⟨⟨_,rfl,ar.mk _ _⟩,(F.alloc _).alloc _⟩
   have z:Hid (gB N s ⟨m,at_,k0,k1,k2,k3⟩=[k0,k1,k2,k3].all iW):=Z (by unfold gB;dsimp only;rw[c,ab,decide_eq_true (p:=0<=at_/\at_<(N:Int)) (by omega)];simp[Bool.and_assoc]);clear c ab;have fb:=ad.free m;go_wp2
   obtain⟨cf,c0⟩:=mn (((wr.setCell (o,m) (.bool true)).alloc (.cells #[.int .i64 m,at_,k0,k1,k2,k3] 49)));have ci:Hid (Ch (aL o) w4 cf):=Z (by rw[c0];exact(CR.only _ _).alloc _);have eW:Hid (Row cf o 202 ((s.set m true).map Value.bool)):=Z (by rw[c0,List.map_set];exact(ad.set _ _).alloc _);have G:Hid (Ch ag w cf):=Z (c1.fresh ci (fun b hb e=>by have O:b=o:=e;have am:=S.1;omega));rw[<-c0];clear c0 cr fd fn fr fz gc gs ge fb ad CR F;obtain⟨r,a0⟩:=nm ([k0,k1,k2,k3].all iW);rw[a0]at z;have eC:Hid (([k0,k1,k2,k3].drop 0).all iW=r):=Z a0;clear a0;go_loop [74] (fun s=>∃j:Nat,s=.int .i64 j/\j<=4/\Hid (([k0,k1,k2,k3].drop j).all iW=r)) (fun s=>4-(intOf s).toNat)
   case atStart=>exact⟨0,rfl,by omega,eC⟩
   case round=>
    obtain⟨j,rfl,hf,c⟩:=hrel;obtain rfl|rfl|rfl|rfl|rfl:j=0∨j=1∨j=2∨j=3∨j=4:=by omega
    ·have c4:=Ez k0 k1 k2 k3
     by_cases c7:k0<0
     ·have x:Hid (r=false):=Z (by rw[<-c,GI,show iW k0=false from decide_eq_false (show¬(0<=k0/\k0<=7)by omega)];rfl)
      have a:Hid (n=false):=Z (E.trans (t.bad d (z.trans x)));go_wp2_with (go_at_call 88;refine(bo _ _ _ _).mono ?_;rintro e w' ⟨rfl,rfl⟩)
      go_ret;rw[a];exact⟨⟨_,rfl,ar.mk _ _⟩,G.alloc _⟩
     by_cases c8:7<k0
     ·have x:Hid (r=false):=Z (by rw[<-c,GI,show iW k0=false from decide_eq_false (show¬(0<=k0/\k0<=7)by omega)];rfl)
      have a:Hid (n=false):=Z (E.trans (t.bad d (z.trans x)));go_wp2_with (go_at_call 88;refine(bo _ _ _ _).mono ?_;rintro e w' ⟨rfl,rfl⟩)
      go_ret;rw[a];exact⟨⟨_,rfl,ar.mk _ _⟩,G.alloc _⟩
     have L:Hid (([k0,k1,k2,k3].drop 1).all iW=r):=Z (by rw[<-c,GI,show iW k0=true from decide_eq_true (show(0<=k0/\k0<=7)by omega)];rfl);go_wp2
     go_round
     case rel=>exact⟨1,rfl,by omega,L⟩
     case measure=>simp[intOf]
    ·have c4:=EA k0 k1 k2 k3
     by_cases c7:k1<0
     ·have x:Hid (r=false):=Z (by rw[<-c,GJ,show iW k1=false from decide_eq_false (show¬(0<=k1/\k1<=7)by omega)];rfl)
      have a:Hid (n=false):=Z (E.trans (t.bad d (z.trans x)));go_wp2_with (go_at_call 88;refine(bo _ _ _ _).mono ?_;rintro e w' ⟨rfl,rfl⟩)
      go_ret;rw[a];exact⟨⟨_,rfl,ar.mk _ _⟩,G.alloc _⟩
     by_cases c8:7<k1
     ·have x:Hid (r=false):=Z (by rw[<-c,GJ,show iW k1=false from decide_eq_false (show¬(0<=k1/\k1<=7)by omega)];rfl)
      have a:Hid (n=false):=Z (E.trans (t.bad d (z.trans x)));go_wp2_with (go_at_call 88;refine(bo _ _ _ _).mono ?_;rintro e w' ⟨rfl,rfl⟩)
      go_ret;rw[a];exact⟨⟨_,rfl,ar.mk _ _⟩,G.alloc _⟩
     have L:Hid (([k0,k1,k2,k3].drop 2).all iW=r):=Z (by rw[<-c,GJ,show iW k1=true from decide_eq_true (show(0<=k1/\k1<=7)by omega)];rfl);go_wp2
     go_round
     case rel=>exact⟨2,rfl,by omega,L⟩
     case measure=>simp[intOf]
    ·have c4:=EB k0 k1 k2 k3
     by_cases c7:k2<0
     ·have x:Hid (r=false):=Z (by rw[<-c,GK,show iW k2=false from decide_eq_false (show¬(0<=k2/\k2<=7)by omega)];rfl)
      have a:Hid (n=false):=Z (E.trans (t.bad d (z.trans x)));go_wp2_with (go_at_call 88;refine(bo _ _ _ _).mono ?_;rintro e w' ⟨rfl,rfl⟩)
      go_ret;rw[a];exact⟨⟨_,rfl,ar.mk _ _⟩,G.alloc _⟩
     by_cases c8:7<k2
     ·have x:Hid (r=false):=Z (by rw[<-c,GK,show iW k2=false from decide_eq_false (show¬(0<=k2/\k2<=7)by omega)];rfl)
      have a:Hid (n=false):=Z (E.trans (t.bad d (z.trans x)));go_wp2_with (go_at_call 88;refine(bo _ _ _ _).mono ?_;rintro e w' ⟨rfl,rfl⟩)
      go_ret;rw[a];exact⟨⟨_,rfl,ar.mk _ _⟩,G.alloc _⟩
     have L:Hid (([k0,k1,k2,k3].drop 3).all iW=r):=Z (by rw[<-c,GK,show iW k2=true from decide_eq_true (show(0<=k2/\k2<=7)by omega)];rfl);go_wp2
     go_round
     case rel=>exact⟨3,rfl,by omega,L⟩
     case measure=>simp[intOf]
    ·have c4:=EC k0 k1 k2 k3
     by_cases c7:k3<0
     ·have x:Hid (r=false):=Z (by rw[<-c,GL,show iW k3=false from decide_eq_false (show¬(0<=k3/\k3<=7)by omega)];rfl)
      have a:Hid (n=false):=Z (E.trans (t.bad d (z.trans x)));go_wp2_with (go_at_call 88;refine(bo _ _ _ _).mono ?_;rintro e w' ⟨rfl,rfl⟩)
      go_ret;rw[a];exact⟨⟨_,rfl,ar.mk _ _⟩,G.alloc _⟩
     by_cases c8:7<k3
     ·have x:Hid (r=false):=Z (by rw[<-c,GL,show iW k3=false from decide_eq_false (show¬(0<=k3/\k3<=7)by omega)];rfl)
      have a:Hid (n=false):=Z (E.trans (t.bad d (z.trans x)));go_wp2_with (go_at_call 88;refine(bo _ _ _ _).mono ?_;rintro e w' ⟨rfl,rfl⟩)
      go_ret;rw[a];exact⟨⟨_,rfl,ar.mk _ _⟩,G.alloc _⟩
     have L:Hid (([k0,k1,k2,k3].drop 4).all iW=r):=Z (by rw[<-c,GL,show iW k3=true from decide_eq_true (show(0<=k3/\k3<=7)by omega)];rfl);go_wp2
     go_round
     case rel=>exact⟨4,rfl,by omega,L⟩
     case measure=>simp[intOf]
    ·have ex:Hid (gB N s ⟨m,at_,k0,k1,k2,k3⟩=true):=Z (z.trans c.symm)
     go_wp2
     go_roundg (M-k)
     case measure=>omega
     case rel=>exact⟨k+1,_,by omega,by omega,by go_num,Z (t.next d ex),eW,ci⟩
  ·skip
   have a:Hid (n=true):=Z (E.trans (t.all (by rw[<-c2];omega)));have F:Hid (Ch ag w wr):=Z (c1.fresh CR (fun b hb e=>by have O:b=o:=e;have am:=S.1;omega));have cL:¬(k:Int)<M:=(by omega);go_wp2
   go_ret;rw[a];exact⟨⟨_,rfl,rfl⟩,F⟩
def dB(l:List aR)(en a b:Int):Bool:=
 decide (0<=a/\0<=b/\a<=256/\b<=256-a/\l.length≠0)&&jm l false&&decide (0<=en/\en<l.length)
theorem mF(l:List aR)(a:Option Addr)(c:Nat)(en b d:Int)(G:l.length<=c)(w:World)(J:l≠[]->∃g,a=some ⟨g,0,none⟩/\fo w g l)
 (p:w.cell? (0,0)=some (.iface 335 (.agg #[(1,40)]))):
 Calls prog 51 #[.agg #[.slice a l.length c,en,b,d]] w (sU (dB l en b d) w):=by
 obtain⟨w1,B⟩:=nm (w.alloc (.cells #[.slice a l.length c,en,b,d] 36));have f:=Z (Ch.al (D:=ag) B);have P:Hid (l≠[]->∃g,a=some ⟨g,0,none⟩/\fo w1 g l):=Z (fun h=>by obtain⟨g,e,p⟩:=J h;exact⟨g,e,p.ch f id⟩);have O:Hid (w1.cell? (0,0)=some (.iface 335 (.agg #[(1,40)]))):=Z (f.k p);have n:=Z (ld l a c false G w1 P O);have s:=Z (Row.al B);obtain⟨N,x⟩:=mn l.length;obtain⟨k,z⟩:=nm (dB l en b d);obtain⟨u,A⟩:=nm (jm l false);have I:k=(decide (0<=b/\0<=d/\b<=256/\d<=256-b/\N≠0)&&u&&decide (0<=en/\en<N)):=by rw[<-z,x,<-A];rfl
 rw[A]at n;rw[z];rw[<-x]at n s B⊢;clear J p G x z A;obtain⟨t0,t1,t2,t3⟩:=s.c4;have K:Hid (k=(decide (0<=b/\0<=d/\b<=256/\d<=256-b/\N≠0)&&u&&decide (0<=en/\en<N))):=Z I;clear I;have R:b<0∨(¬b<0/\d<0)∨(¬b<0/\¬d<0/\256<b)∨(¬b<0/\¬d<0/\¬256<b/\256-b<d)∨(¬b<0/\¬d<0/\¬256<b/\¬256-b<d/\N=0)∨(¬b<0/\¬d<0/\¬256<b/\¬256-b<d/\N≠0):=by omega
 rcases R with m|⟨m,o⟩|⟨m,o,t⟩|⟨m,o,t,F⟩|⟨m,o,t,F,v⟩|⟨m,o,t,F,v⟩
 ·have E:Hid (k=false):=Z (by rw[K.out,decide_eq_false (by omega)];rfl)
  go_in
  go_wp2_with (go_at_call 88;refine(bo _ _ _ _).mono ?_;rintro e w' ⟨rfl,rfl⟩)
  go_ret;rw[E];exact⟨⟨_,rfl,ar.mk _ _⟩,f.alloc _⟩
 ·have E:Hid (k=false):=Z (by rw[K.out,decide_eq_false (by omega)];rfl)
  go_in
  go_wp2_with (go_at_call 88;refine(bo _ _ _ _).mono ?_;rintro e w' ⟨rfl,rfl⟩)
  go_ret;rw[E];exact⟨⟨_,rfl,ar.mk _ _⟩,f.alloc _⟩
 ·have E:Hid (k=false):=Z (by rw[K.out,decide_eq_false (by omega)];rfl)
  go_in
  go_wp2_with (go_at_call 88;refine(bo _ _ _ _).mono ?_;rintro e w' ⟨rfl,rfl⟩)
  go_ret;rw[E];exact⟨⟨_,rfl,ar.mk _ _⟩,f.alloc _⟩
 ·have E:Hid (k=false):=Z (by rw[K.out,decide_eq_false (by omega)];rfl)
  have L:IntKind.i64.wrap (256-b)=256-b:=IntWalk.i64_in _ (by omega);go_in
  go_wp2_with (go_at_call 88;refine(bo _ _ _ _).mono ?_;rintro e w' ⟨rfl,rfl⟩)
  go_ret;rw[E];exact⟨⟨_,rfl,ar.mk _ _⟩,f.alloc _⟩
 ·have E:Hid (k=false):=Z (by rw[K.out,decide_eq_false (by omega)];rfl)
  have L:IntKind.i64.wrap (256-b)=256-b:=IntWalk.i64_in _ (by omega);subst v;go_in
  go_wp2_with (go_at_call 88;refine(bo _ _ _ _).mono ?_;rintro e w' ⟨rfl,rfl⟩)
  go_ret;rw[E];exact⟨⟨_,rfl,ar.mk _ _⟩,f.alloc _⟩
 ·have L:IntKind.i64.wrap (256-b)=256-b:=IntWalk.i64_in _ (by omega)
  have E:Hid (k=(u&&decide (0<=en/\en<N))):=Z (by rw[K.out,decide_eq_true (by omega),Bool.true_and]);have S:(N==0)=false:=by simpa using v
  cases u
  ·have r:Hid (k=false):=Z (by rw[E];rfl)
   go_in
   go_wp2_with (go_at_call 89;refine n.mono ?_;rintro e w2 ⟨⟨y,rfl,j⟩,i⟩;obtain⟨tt,V,rfl⟩:ar y:=j;have q:=Z i;clear i)
   go_ret;rw[r];exact⟨⟨_,rfl,ar.mk _ _⟩,f.trans q⟩
  ·have r:Hid (k=decide (0<=en/\en<N)):=Z (by rw[E,Bool.true_and])
   go_in
   go_wp2_with (first|(go_at_call 89;refine n.mono ?_;rintro e w2 ⟨⟨y,rfl,j⟩,i⟩;obtain rfl:y=.nilIface:=j;have q:=Z i;have C:=s.ch i id;obtain⟨T,U⟩:=C.c2;clear i C t0 t1 t2 t3)|(go_at_call 90;refine(lY _ _ _).mono ?_;rintro e w3 ⟨⟨y,rfl,j⟩,H⟩;have M:=Z H;have Q:=Z j;clear H j))
   go_ret;rw[r];exact⟨⟨_,rfl,Q⟩,(f.trans q).trans M⟩
section
def ho(χ:Nat->aX):Prop:=∀i,χ i≠ .out
section
variable{w w':World}{χ:Nat->aX}{L:cz}{Y:Var}{C:KC}{K:KS}
theorem ae.FT(h:ae w χ L Y C K){id:Int}(E:aw K.ai id=none){f:Frame}{bv:Value}{fb g tb:Nat}(H:aJ w fb 0 179 [] f.post bv f.f)(G:bv.ownBlock=none)
 (I:w.ownsRow 0 177 1 (.slice (some (g,0)) 1 1) 1 [bj fb]) (J:Row w tb 176 [.int .u64 id,.slice (some (g,0)) 1 1,.int .u64 0]) (o:χ fb=.no) (p:χ g=.no) (r:χ tb=.no) (R:g≠fb) (V:tb≠fb) (S:g≠tb)
 (T:bR w' L.tm .u64 bj (b8 (K.ai.map fun x=>(x.1,Y.bH x.1)) id tb)) (c:Ch (aL L.tm) w w'):
 ∃aY Y',ae w' aY L Y' C {K with ai:=b8 K.ai id ⟨id,[f],0⟩}/\(∀i,i<w.heap.size->χ i≠ .no->aY i=χ i)/\(∀i,aY i≠ .no->χ i≠ .no∨i=fb∨i=g∨i=tb)/\Yk K Y Y'/\(ho χ->ho aY):=by
 have B:=h.tm (by simp);have s:eQ [.tm] χ χ (aL L.tm) w w':=eQ.one c (fun i d=>by rw[show i=L.tm from d];simp[B.k]) h.small;have base:=h.step s (by simp);obtain⟨aY,A⟩:∃aY:Nat->aX,aY=fun i=>if i=fb then .fr id 0 else if i=g then .tl id else if i=tb then .th id else χ i:=⟨_,rfl⟩
 have a:∀{i:Nat} {k:aX},χ i=k->k≠ .no->aY i=k:=fun {i k} d y=>by
  rw[A];dsimp only;rw[if_neg (fun e=>y (by rw[<-d,e,o])),if_neg (fun e=>y (by rw[<-d,e,p])),if_neg (fun e=>y (by rw[<-d,e,r]))];exact d
 have F:∀{i},χ i=.no->i≠L.tm:=fun {i} d e=>by rw[e,B.k]at d;cases d
 have M:MB [.tm] w' aY L Y C K:={
  head:=fun m=>⟨(base.head (by simp)).row,(base.head (by simp)).rows,a (base.head (by simp)).k (by simp)⟩
  mem:=fun m=>⟨(base.mem (by simp)).is,a (base.mem (by simp)).k1 (by simp),a (base.mem (by simp)).k2 (by simp),a (base.mem (by simp)).k3 (by simp)⟩
  al:=fun m=>⟨(base.al (by simp)).is,a (base.al (by simp)).k1 (by simp),fun q l=>a ((base.al (by simp)).k2 q l) (by simp)⟩
  b0:=fun m=>⟨(base.b0 (by simp)).is,a (base.b0 (by simp)).k1 (by simp),a (base.b0 (by simp)).k2 (by simp),a (base.b0 (by simp)).k3 (by simp),a (base.b0 (by simp)).k4 (by simp),fun q l=>a ((base.b0 (by simp)).k5 q l) (by simp)⟩
  ring:=fun m=>⟨(base.ring (by simp)).is,a (base.ring (by simp)).k1 (by simp),a (base.ring (by simp)).k2 (by simp)⟩
  q:=fun m=>⟨(base.q (by simp)).is,(base.q (by simp)).bZ,fun i d=>a ((base.q (by simp)).k i d) (by simp)⟩
  cU:=fun m=>⟨(base.cU (by simp)).is,a (base.cU (by simp)).k1 (by simp),a (base.cU (by simp)).k2 (by simp)⟩
  obj:=fun m=>⟨(base.obj (by simp)).is,a (base.obj (by simp)).k1 (by simp),a (base.obj (by simp)).k2 (by simp)⟩
  tm:=fun m=>absurd (by simp) m
  th:=fun j u n m=>⟨(base.th j u n (by simp)).is,a (base.th j u n (by simp)).k (by simp)⟩
  tl:=fun j u n m=>⟨(base.tl j u n (by simp)).is,fun q l=>a ((base.tl j u n (by simp)).k q l) (by simp)⟩
  fr:=fun j u k D n y m=>⟨(base.fr j u k D n y (by simp)).is,a (base.fr j u k D n y (by simp)).kf (by simp),fun q l=>a ((base.fr j u k D n y (by simp)).kb q l) (by simp)⟩
  wk:=fun m=>⟨(base.wk (by simp)).is,a (base.wk (by simp)).k (by simp),(base.wk (by simp)).back,fun i x z q l=>a ((base.wk (by simp)).kb i x z q l) (by simp),(base.wk (by simp)).n⟩
  out:=fun m=>⟨(base.out (by simp)).is,fun q l=>a ((base.out (by simp)).k q l) (by simp)⟩
  code:=fun m=>{
   mR:=(base.code (by simp)).mR
   je:=(base.code (by simp)).je
   mT:=(base.code (by simp)).mT
   b7:=fun z=>by obtain⟨q,o,p,r⟩:=(base.code (by simp)).b7 z;exact⟨q,o,p,a r (by simp)⟩
   prog:=fun z=>by obtain⟨q,o,p,r⟩:=(base.code (by simp)).prog z;exact⟨q,o,p,a r (by simp)⟩
   calls:=fun z=>by obtain⟨q,j,o,p,r⟩:=(base.code (by simp)).calls z;exact⟨q,j,o,p,a r (by simp)⟩}
  small:=fun i d=>by
   rw[A]at d;dsimp only at d;split at d
   ·rename_i e;rw[e];exact Nat.lt_of_lt_of_le H.row.lt c.size
   ·split at d
    ·rename_i e;rw[e];exact Nat.lt_of_lt_of_le (cH I (g:=g) rfl) c.size
    ·split at d
     ·rename_i e;rw[e];exact Nat.lt_of_lt_of_le J.lt c.size
     ·exact base.small i d}
 have P:=H.ch c (fun e=>F o e) (fun q l=>by rw[G]at l;cases l);have Q:=aj I c (fun q l e=>F p (by
  have:g=q:=by simpa[Value.ownBlock]using l
  rw[this];exact e))
 have U:=J.ch c (fun e=>F r e);have O:ho χ->ho aY:=fun N i=>by
  rw[A];dsimp only;split
  ·intro e;cases e
  ·split
   ·intro e;cases e
   ·split
    ·intro e;cases e
    ·exact N i
 refine⟨aY,_,M.Fj (t:=⟨id,[f],0⟩) (f:=f) (v:=.slice (some (g,0)) 1 1) (bv':=bv) (b:=tb) (fbk:=fb) E rfl ⟨?_,a B.k (by simp),B.nd.put _ _⟩ ⟨U,?_⟩ ⟨by simpa using Q,?_⟩ ⟨P,?_,fun q l=>by rw[G]at l;cases l⟩,fun i d m=>a rfl m,?_,?_,O⟩
 ·rw[<-sk _ _ _ _ _ E];exact T
 ·rw[A];dsimp only;rw[if_neg V,if_neg (fun e=>S e.symm),if_pos rfl]
 ·intro q l
  have:g=q:=by simpa[Value.ownBlock]using l
  rw[<-this,A];dsimp only;rw[if_neg R,if_pos rfl]
 ·rw[A];dsimp only;rw[if_pos rfl]
 ·intro i d
  rw[A]at d;dsimp only at d;split at d
  ·rename_i e;exact Or.inr (Or.inl e)
  ·split at d
   ·rename_i e;exact Or.inr (Or.inr (Or.inl e))
   ·split at d
    ·rename_i e;exact Or.inr (Or.inr (Or.inr e))
    ·exact Or.inl d
 ·intro j u n
  have e:j≠id:=fun e=>by rw[e,E]at n;cases n
  exact⟨if_neg e,fun k _=>if_neg e⟩
def FU(x:Option Nat)(χ:Nat->aX)(L:cz)(Y:Var)(C:KC)(K K':KS)(w:World)(e:Ending)(w':World):Prop:=
 (match x with
  |some a=>e=.returned (.tuple #[.int .i64 a,.nilIface])
  |none=>∃u,e=.returned (.tuple #[.int .i64 0,u])/\ar u)/\∃aY Y',dJ χ L Y C K K' w aY Y' w'/\(ho χ->ho aY)
def FV(x:Option Int)(χ:Nat->aX)(L:cz)(Y:Var)(C:KC)(K K':KS)(w:World)(e:Ending)(w':World):Prop:=
 (match x with
  |some a=>e=.returned (.tuple #[.int .u64 a,.nilIface])
  |none=>∃v,e=.returned (.tuple #[.int .u64 0,v])/\ar v)/\∃aY Y',dJ χ L Y C K K' w aY Y' w'/\(ho χ->ho aY)
def Dx(ok:Bool)(χ:Nat->aX)(L:cz)(Y:Var)(C:KC)(K K':KS)(w:World)(e:Ending)(w':World):Prop:=(∃v,e=.returned v/\(if ok then v=.nilIface else ar v))/\∃aY Y',dJ χ L Y C K K' w aY Y' w'/\(ho χ->ho aY)
def FX(v:Value)(χ:Nat->aX)(L:cz)(Y:Var)(C:KC)(K K':KS)(w:World)(e:Ending)(w':World):Prop:=e=.returned v/\∃aY Y',dJ χ L Y C K K' w aY Y' w'/\(ho χ->ho aY)
theorem pW{χ:Nat->aX}{a:Option Nat}:ho χ->ho (cO χ a .al):=fun h i=>by
 unfold cO;split
 ·intro e;cases e
 ·exact h i
theorem EJ(n:Nat)(f:n<=1000000)(g:K.blocks.Ok)(h:ae w χ L Y C K):Calls prog 98 #[(L.ab,0),.int .i64 n,.int .i64 64] w (FU (dd K.blocks K.mem n).1 χ L Y C K {K with blocks:=(dd K.blocks K.mem n).2.1,mem:=(dd K.blocks K.mem n).2.2} w):=
 (kG L.ab L.m L.c L.d Y.av K.blocks K.mem g n f w (h.al (by simp)).is (h.mem (by simp)).is).mono fun _ _ ⟨a,⟨v,b,c⟩,d,e⟩=>⟨a,_,_,h.B0 b c d e,pW⟩
theorem EK(a:Int)(g:K.blocks.Ok)(h:ae w χ L Y C K):Calls prog 100 #[(L.ab,0),a] w (Dx (mO K.blocks K.mem a).1 χ L Y C K (jc K a) w):=
 (kH L.ab L.m L.c L.d Y.av K.blocks K.mem g a w (h.al (by simp)).is (h.mem (by simp)).is).mono fun _ _ ⟨b,⟨v,c,d⟩,e,f⟩=>⟨b,_,_,h.B0 c d e f,pW⟩
theorem pX(home:Int)(h:ae w χ L Y C K):Calls prog 99 #[(L.tb,0),.int .u64 home] w (FV (df K.table home).1 χ L Y C K {K with table:=(df K.table home).2} w):=
 (mq L.tb L.tg K.table home w (h.cU (by simp)).is).mono fun _ _ ⟨a,b,c⟩=>⟨a,_,_,h.mv b c,fun h=>h⟩
theorem yr(v:Int)(h:ae w χ L Y C K):Calls prog 59 #[(L.rb,0),.int .u64 v] w (Dx (hp K.ring v).1 χ L Y C K {K with ring:=(hp K.ring v).2} w):=
 (mr L.rb L.rg K.ring v w (h.ring (by simp)).is).mono fun _ _ ⟨a,b,c⟩=>⟨a,_,_,h.ub b c,fun h=>h⟩
theorem uU(place c:Int)(a3:K.blocks.Ok)(ab:(dd K.blocks K.mem 1).2.1.Ok)(c3:∀O id,(df K.table O).1=some id->aw K.ai id=none)(h:ae w χ L Y C K):
 Calls prog 58 #[(L.mb,0),place,.int .u64 c] w (FX (.int .u64 (bL K place c).1) χ L Y C K (bL K place c).2 w):=by
 have H:=Z h;have B:=h.o4;have N:=Z (EJ 1 (by omega) a3 h);obtain⟨p,Q⟩:=nm (dd K.blocks K.mem 1);have hle:∀a,p.1=some a->a<=140000:=fun a c2=>m1 a3 (by rw[Q];exact c2)
 rw[Q]at N ab;obtain⟨cL,B1,bw⟩:=p;have U:=Z Q;have ce:=Z ab;have ck:=Z c3;clear h Q a3 ab c3;cases cL with
 |none=>
  have E:Hid (bL K place c=(0,{K with blocks:=B1,mem:=bw})):=Z (by unfold bL;rw[U]);clear hle;go_in
  go_wp2_with fail
  refine N.mono ?_;rintro e w1 ⟨⟨u,rfl,al⟩,ap,W,b,M⟩;have A:=Z M;obtain⟨tt,es,rfl⟩:=al;have y:=Z b;clear b B;go_wp2
  go_ret;rw[E];exact⟨rfl,ap,W,y,A⟩
 |some a=>
  have c2:=hle a rfl;have eC:IntKind.u64.wrap (a:Int)=a:=by unfold IntKind.wrap IntKind.bits IntKind.signed;simp;omega
  obtain⟨K1,a2⟩:=mn (({K with blocks:=B1,mem:=bw}:KS));have j:=Z a2;have eA:(a:Int)<=140000:=by omega
  obtain⟨q,c5⟩:=nm (df K1.table (a:Int));obtain⟨cC,r⟩:=q;have z:=Z c5;have cf:Hid (K1.blocks.Ok):=Z (by rw[a2];exact ce);clear hle a2 c5;cases cC with
  |none=>
   have E:Hid (bL K place c=(0,jc {K1 with table:=r} a)):=Z (by
    have:=z.out;rw[j]at this⊢;unfold bL;rw[U];dsimp only;rw[show df K.table (a:Int)=(none,r)from this])
   go_in
   go_wp2_with fail
   refine N.mono ?_;rintro e w1 ⟨rfl,ap,W,b,M⟩;have A:=Z M;rw[<-j]at b;have y:=Z b;have X:=b.at_.ea;have n:=pX (a:Int) b.at_;rw[z]at n;have R:=Z n;clear b B n;go_wp2_with fail
   refine R.mono ?_;rintro e w2 ⟨⟨u,rfl,al⟩,x,bx,m,am⟩;have V:=Z am;obtain⟨tt,es,rfl⟩:=al;have k:=Z (y.trans (Gr.of_eq (by rw[j])) m);have B:=m.at_.o4;clear m X;go_wp2_with fail
   refine(EK (a:Int) (by exact cf) k.at_).mono ?_;rintro e w3 ⟨⟨v,rfl,_⟩,et,cA,c0,ec⟩;have cs:=Z ec;have cd:=Z (k.trans (Gr.of_eq (by rw[j])) c0);clear c0 B;go_wp2
   go_ret;rw[E];exact⟨rfl,et,cA,cd,fun h=>cs (V (A h))⟩
  |some id=>
   have c4:aw K.ai id=none:=ck (a:Int) id (by have:=z.out;rw[j]at this;rw[show df K.table (a:Int)=(some id,r)from this]);have cl:=Z c4;have E:Hid (bL K place c=(id,{K1 with table:=r,ai:=b8 K.ai id ⟨id,[iQ place c],0⟩})):=Z (by
    have:=z.out;rw[j]at this⊢;unfold bL;rw[U];dsimp only;rw[show df K.table (a:Int)=(some id,r)from this];rfl)
   clear c4;go_in
   go_wp2_with fail
   refine N.mono ?_;rintro e w1 ⟨rfl,ap,W,b,M⟩;have A:=Z M;rw[<-j]at b;have y:=Z b;have X:=b.at_.ea;have n:=pX (a:Int) b.at_;rw[z]at n;have R:=Z n;clear b B n;go_wp2_with fail
   refine R.mono ?_;rintro e w2 ⟨rfl,x,bx,m,am⟩;have V:=Z am;have k:=Z (y.trans (Gr.of_eq (by rw[j])) m);have a0:=m.at_.hZ;have cb:=Z a0;clear a0;go_upto_region 11 with fail
   obtain⟨d,J⟩:=nm (w2.alloc (.cells #[place,.int .u64 c,.int .u64 0,.int .u64 0,.int .u64 0,.int .u64 0,.int .u64 0,.int .u64 0,.int .u64 0,.int .u64 0,.int .u64 0,.int .u64 0,.int .u64 0,.int .u64 0,.int .u64 0,.int .u64 0,.int .u64 0,.int .u64 0,.int .u64 0,.int .u64 0,.int .u64 0,.int .u64 0,.int .u64 0,.int .u64 0,.int .u64 0,.int .u64 0,.int .u64 0,.int .u64 0,.int .u64 0,.int .u64 0,.int .u64 0,.int .u64 0,.int .u64 0,.slice none 0 0,.bool false,.int .i64 0] 179));have ax:=Z (Ch.al (D:=ag) J);have bi:Hid (aJ d w2.heap.size 0 179 [] (iQ place c).post (.slice none 0 0) (iQ place c).f):=Z ⟨by
    have c6:=Row.new w2 #[place,.int .u64 c,.int .u64 0,.int .u64 0,.int .u64 0,.int .u64 0,.int .u64 0,.int .u64 0,.int .u64 0,.int .u64 0,.int .u64 0,.int .u64 0,.int .u64 0,.int .u64 0,.int .u64 0,.int .u64 0,.int .u64 0,.int .u64 0,.int .u64 0,.int .u64 0,.int .u64 0,.int .u64 0,.int .u64 0,.int .u64 0,.int .u64 0,.int .u64 0,.int .u64 0,.int .u64 0,.int .u64 0,.int .u64 0,.int .u64 0,.int .u64 0,.int .u64 0,.slice none 0 0,.bool false,.int .i64 0] 179;rw[J]at c6;exact c6,rfl,ct.nil _⟩
   have l:Hid (d.heap.size=w2.heap.size+1):=Z (by rw[<-J];simp);rw[J];clear J m X;have a0:=(ax.cell (aP cb.out) (fun h=>h)).trans cb.out;obtain⟨fb,ad⟩:=mn w2.heap.size;rw[<-ad]at bi l⊢;have o:=Z ad;clear ad;obtain⟨w4,t⟩:=nm ((d.alloc (.cells #[(fb,0)] 177)).alloc (.cells #[.int .u64 id,.slice (some (d.heap.size,0)) 1 1,.int .u64 0] 176));have av:Hid (Ch ag w2 w4):=Z (by rw[<-t];exact(ax.alloc _).alloc _);have S:Hid (ae w4 x L bx C {K1 with table:=r}):=Z (k.at_.af av);have cm:Hid (Row w4 d.heap.size 177 [bj fb]):=Z (by rw[<-t];exact(Row.new d _ _).alloc _);have cq:Hid (Row w4 (d.heap.size+1) 176 [.int .u64 id,.slice (some (d.heap.size,0)) 1 1,.int .u64 0]):=Z (by
    rw[<-t];have:=Row.new (d.alloc (.cells #[(fb,0)] 177)) #[.int .u64 id,.slice (some (d.heap.size,0)) 1 1,.int .u64 0] 176;rw[World.size_alloc]at this;exact this)
   have ci:Hid (aJ w4 fb 0 179 [] (iQ place c).post (.slice none 0 0) (iQ place c).f):=Z (by
    rw[<-t];exact bi.ch (((Ch.refl ag _).alloc _).alloc _) (fun h=>h) (fun _ _ h=>h))
   obtain⟨en,c8,c1,a1⟩:=fv (P:=prog) (T:=126) (K:=56) (E:=173) (enc:=bj) underlying126 underlying56 (S.tm (by simp)).is id (d.heap.size+1);have I:∀i,w2.heap.size<=i->x i=.no:=fun i s=>by
    cases F:x i with
    |no=>rfl
    |_=>exact absurd (k.at_.small i (by rw[F];simp)) (by omega)
   have ex:=Z I;have c7:=S.FT (id:=id) (f:=iQ place c) (bv:=.slice none 0 0) (fb:=fb) (g:=d.heap.size) (tb:=d.heap.size+1) (w':=en) (by rw[j];exact cl) ci rfl
    ⟨rfl,Or.inr ⟨d.heap.size,1,#[bj fb],rfl,Nat.zero_le _,cm,Nat.le_refl _,by unfold maxLen;omega,rfl,rfl⟩⟩ cq (I _ (by rw[o];exact Nat.le_refl _)) (I _ (by rw[l,o];omega)) (I _ (by rw[l,o];omega)) (by rw[l];omega) (by rw[l];omega) (by omega) c1 a1
   have cr:=Z c7;have ch:=Z a1;simp only[bj]at c8;rw[<-t]at c8;clear c7 c1 a1 t I;go_wp2
   go_ret;rw[E];obtain⟨aY,Y',O,dC,cW,dN,dr⟩:=cr.out;have c9:K1.ai=K.ai:=(by rw[j]);simp only[c9]at O;refine⟨rfl,aY,Y',⟨O,?_,?_⟩,fun h=>dr (V (A h))⟩
   ·have G:Nx χ x w w4:=k.nx.trans (Nx.af av)
    have cQ:=(S.tm (by simp)).k;have eL:w.heap.size<=w2.heap.size:=k.nx.ch.size;refine⟨G.ch.join ch (fun i s e=>by rw[<-G.same i s,show i=L.tm from e,cQ];simp),fun i s=> ?_⟩;cases F:x i with
    |no=>
     rw[<-G.same i s,F];cases cS:aY i with
     |no=>rfl
     |_=>
      exfalso;rcases cW i (by rw[cS];simp)with e|e|e|e
      ·exact e F
      ·rw[o]at e;omega
      ·rw[l,o]at e;omega
      ·rw[l,o]at e;omega
    |_=>rw[dC i (Nat.lt_of_lt_of_le s G.ch.size) (by rw[F];simp),G.same i s]
   ·exact k.yk.trans (Gr.of_eq c9) dN
end
end
def AG(w:World)(e:Ending)(w':World):Prop:=(∃v,e=.returned (.tuple #[.pointer none,v])/\ar v)/\Ch ag w w'
theorem oH(n tt:Int)(l:List aR)(m:Option Addr)(o:Nat)(loop:Int)(calls:List bB)(k:Option Addr)(r:Nat)(p:List aR)(pa:Option Addr)(pc:Nat)(en j f:Int)
 (P:l.length<=o) (R:p.length<=pc) (M:calls.length<=100000) (w:World) (O:l≠[]->∃g,m=some ⟨g,0,none⟩/\fo w g l) (Q:p≠[]->∃g,pa=some ⟨g,0,none⟩/\fo w g p)
 (N:calls≠[]->∃g F,k=some ⟨g,0,none⟩/\Row w g 49 (calls.flatMap bB.cells++F))
 (d:¬(1<=n/\n<=64/\1<=tt/\tt<=65536/\fF l loop calls=true/\dB p en j f=true))
 (L:w.cell? (0,0)=some (.iface 335 (.agg #[(1,40)]))):
 Calls prog 11 #[.agg #[n,tt],.agg #[.slice m l.length o,loop,.slice k calls.length r],.agg #[.slice pa p.length pc,en,j,f]] w (AG w):=by
 obtain⟨w1,u⟩:=nm (((w.alloc (.cells #[n,tt] 43)).alloc (.cells #[.slice m l.length o,loop,.slice k calls.length r] 33)).alloc (.cells #[.slice pa p.length pc,en,j,f] 36));have a:Hid (Ch ag w w1):=Z (by rw[<-u];exact(((Ch.refl _ _).alloc _).alloc _).alloc _);have T:Hid (Row w1 w.heap.size 43 [n,tt]):=Z (by rw[<-u];exact((Row.new w _ _).alloc _).alloc _);have H:Hid (Row w1 (w.heap.size+1) 33 [.slice m l.length o,loop,.slice k calls.length r]):=Z (by
  rw[<-u];have:=Row.new (w.alloc (.cells #[n,tt] 43)) #[.slice m l.length o,loop,.slice k calls.length r] 33;rw[World.size_alloc]at this;exact this.alloc _)
 have s:Hid (Row w1 (w.heap.size+2) 36 [.slice pa p.length pc,en,j,f]):=Z (by
  rw[<-u];have:=Row.new ((w.alloc (.cells #[n,tt] 43)).alloc (.cells #[.slice m l.length o,loop,.slice k calls.length r] 33)) #[.slice pa p.length pc,en,j,f] 36;rw[World.size_alloc,World.size_alloc]at this;exact this)
 have z:Hid (w1.cell? (0,0)=some (.iface 335 (.agg #[(1,40)]))):=Z (a.k L);have q:=mE l m o loop calls k r P M w1 (fun h=>by obtain⟨g,e,t⟩:=O h;exact⟨g,e,t.ch a id⟩) (fun h=>by obtain⟨g,F,e,t⟩:=N h;exact⟨g,F,e,t.ch a id⟩) z;obtain⟨U,D⟩:∃b,fF l loop calls=b:=⟨_,rfl⟩;obtain⟨I,E⟩:∃b,dB p en j f=b:=⟨_,rfl⟩;rw[D]at q;have q:=Z q;have G:Hid (∀w2,Ch ag w1 w2->Calls prog 51 #[.agg #[.slice pa p.length pc,en,j,f]] w2 (sU I w2)):=Z (fun w2 J=>by
  have:=mF p pa pc en j f R w2 (fun h=>by obtain⟨g,e,t⟩:=Q h;exact⟨g,e,(t.ch a id).ch J id⟩) ((J.cell (aP z) id).trans z)
  rwa [E]at this)
 rw[D,E]at d;obtain⟨X,B⟩:=mn l.length;obtain⟨W,A⟩:=mn calls.length;obtain⟨Y,C⟩:=mn p.length;rw[<-B,<-A]at H q;rw[<-C]at s G;rw[<-B,<-A,<-C]at u⊢;obtain⟨a2,a3⟩:=T.c2;obtain⟨t10,t11,t12⟩:=H.c3;clear B A C P R M O Q N L D E;by_cases i1:n<1
 ·clear d
  go_in
  go_wp2_with (go_at_call 49;refine(fg _ _ _ _).mono ?_;rintro e w' ⟨rfl,rfl⟩)
  go_ret2;exact⟨⟨_,rfl,ar.mk _ _⟩,a.alloc _⟩
 by_cases i2:64<n
 ·clear d
  go_in
  go_wp2_with (go_at_call 49;refine(fg _ _ _ _).mono ?_;rintro e w' ⟨rfl,rfl⟩)
  go_ret2;exact⟨⟨_,rfl,ar.mk _ _⟩,a.alloc _⟩
 by_cases a0:tt<1
 ·clear d
  go_in
  go_wp2_with (go_at_call 49;refine(fg _ _ _ _).mono ?_;rintro e w' ⟨rfl,rfl⟩)
  go_ret2;exact⟨⟨_,rfl,ar.mk _ _⟩,a.alloc _⟩
 by_cases a1:65536<tt
 ·clear d
  go_in
  go_wp2_with (go_at_call 49;refine(fg _ _ _ _).mono ?_;rintro e w' ⟨rfl,rfl⟩)
  go_ret2;exact⟨⟨_,rfl,ar.mk _ _⟩,a.alloc _⟩
 cases U
 ·clear d
  go_in
  go_wp2_with (first|(go_at_call 50;refine q.mono ?_;rintro e w2 ⟨⟨y,rfl,v⟩,c⟩;obtain⟨ty,V,rfl⟩:ar y:=v;have x:=Z c;clear c)|(go_at_call 49;refine(fg _ _ _ _).mono ?_;rintro e w' ⟨rfl,rfl⟩))
  go_ret2;exact⟨⟨_,rfl,ar.mk _ _⟩,(a.trans x).alloc _⟩
 cases I
 ·clear d
  go_in
  go_wp2_with (first|(go_at_call 50;refine q.mono ?_;rintro e w2 ⟨⟨y,rfl,v⟩,c⟩;obtain rfl:y=.nilIface:=v;have x:=Z c;have u20:=(s.ch c id).cell (i:=0) rfl;have u21:=(s.ch c id).cell (i:=1) rfl;have u22:=(s.ch c id).cell (i:=2) rfl;have u23:=(s.ch c id).cell (i:=3) rfl;clear c)|(go_at_call 51;refine(G _ x).mono ?_;rintro e w3 ⟨⟨y,rfl,v⟩,K⟩;obtain⟨ty,V,rfl⟩:ar y:=v;have S:=Z (x.trans K);clear K)|(go_at_call 49;refine(fg _ _ _ _).mono ?_;rintro e w' ⟨rfl,rfl⟩))
  go_ret2;exact⟨⟨_,rfl,ar.mk _ _⟩,(a.trans S).alloc _⟩
 exact absurd ⟨by omega,by omega,by omega,by omega,rfl,rfl⟩ d
end Go.Proofs.YtfnilkpkogipfaaGreatDoor
