import Derived.Test.YtlihkblppjgebaaGreatDoorZBf
import Derived.Test.YtlihkblppjgebaaGreatDoorZBg
import Derived.Test.YtlihkblppjgebaaGreatDoorZBh
import Derived.Test.YtlihkblppjgebaaGreatDoorZBi
set_option linter.all false
set_option maxRecDepth 100000
set_option maxHeartbeats 8000000
namespace Go.Proofs.YtlihkblppjgebaaGreatDoor
open Go.RowKit Go.Proofs.Tryz
section
structure fx(f:cE):Prop where
 r:∀k,k<32->aH (f.r k)
 back:f.back.length<=8
structure eX(l:List Frame):Prop where
 n0:0<l.length
 n8:l.length<=8
 ca:∀k f,l[k]?=some f->f.ca=(k%2==1)
 lz:∀f∈l,fx f.f
structure nG(id:Int)(t:Thread):Prop where
 id:t.id=id
 eM:aH t.eM
 l:eX t.l
structure hy(x:ak):Prop where
 f:fx x.f
 l0:0<=x.left
 l1:x.left<=24
def ew(l:List aD)(id:Int):Option aD:=match l[(id%64).toNat]? with|none=>none|some r=>if r.taken&&r.t.id==id then some r else none
def st(l:List aD)(id:Int):Int:=match ew l id with|none=>0|some r=>r.t.state
theorem e'{l:List aD}{id:Int}:(dS l id=none/\ew l id=none)∨∃r,dS l id=some (id%64).toNat/\l[(id%64).toNat]?=some r/\ew l id=some r:=by
 unfold dS ew;cases h:l[(id%64).toNat]? with
 |none=>exact Or.inl ⟨rfl,rfl⟩
 |some r=>
  dsimp only;by_cases a:(r.taken&&r.t.id==id)=true
  ·rw[if_pos a,if_pos a];exact Or.inr ⟨r,rfl,rfl,rfl⟩
  ·rw[if_neg a,if_neg a];exact Or.inl ⟨rfl,rfl⟩
theorem tB{l:List aD}{id:Int}{r:aD}(h:ew l id=some r):l[(id%64).toNat]?=some r/\r.taken=true/\r.t.id=id:=by
 unfold ew at h;split at h
 ·cases h
 ·rename_i r' b
  split at h
  ·rename_i a
   rw[Bool.and_eq_true,beq_iff_eq]at a;have:r'=r:=Option.some.inj h;subst this;exact⟨b,a.1,a.2⟩
  ·cases h
theorem mI{l:List aD}{p:Nat}(a:p<l.length)(r':aD)(id:Int):ew (l.set p r') id=if(id%64).toNat=p then(if r'.taken&&r'.t.id==id then some r' else none)else ew l id:=by
 unfold ew;by_cases e:(id%64).toNat=p
 ·rw[if_pos e,e,List.getElem?_set_self a]
 ·rw[if_neg e,List.getElem?_set_ne (fun h=>e h.symm)]
theorem Ba{l:List aD}{id:Int}{r:aD}(h:ew l id=some r)(r':aD)(b:r'.taken=true->r'.t.id=id):
 (∀j,j≠id->ew (l.set (id%64).toNat r') j=ew l j)/\ew (l.set (id%64).toNat r') id=if r'.taken then some r' else none:=by
 obtain⟨c,i,f⟩:=tB h;have d:=(List.getElem?_eq_some_iff.1 c).1;refine⟨fun j hj=> ?_,?_⟩
 ·rw[mI d]
  split
  ·rename_i e
   rw[if_neg]
   ·unfold ew;rw[e,c];dsimp only;rw[if_neg]
    rw[Bool.and_eq_true,beq_iff_eq];exact fun a=>hj (by rw[<-a.2,f])
   ·rw[Bool.and_eq_true,beq_iff_eq]
    exact fun a=>hj (by rw[<-a.2,b a.1])
  ·rfl
 ·rw[mI d,if_pos rfl]
  cases g:r'.taken with
  |false=>rfl
  |true=>simp[b g]
theorem lA(K:KS)(id:Int):cx K id=st K.table id:=by
 unfold cx fq st;rcases e' (l:=K.table) (id:=id)with⟨a,b⟩|⟨r,a,b,c⟩
 ·rw[a,b];rfl
 ·rw[a,c];dsimp only;rw[b]
structure o'(N p:Nat)(r:aD):Prop where
 t0:0<=r.times
 t1:r.times<=N
 id:r.taken=true->r.t.id%64=p/\64<=r.t.id/\r.t.id<=64*N+63
 home:aH r.t.home
 value:aH r.t.value
structure eP(N:Nat)(l:List aD):Prop where
 len:l.length=64
 row:∀p r,l[p]?=some r->o' N p r
theorem o'.more{N N' p:Nat}{r:aD}(h:o' N p r)(b:N<=N'):o' N' p r:=⟨h.t0,by have:=h.t1;omega,fun a=>by have:=h.id a;omega,h.home,h.value⟩
theorem eP.more{N N':Nat}{l:List aD}(h:eP N l)(a:N<=N'):eP N' l:=⟨h.len,fun p r b=>(h.row p r b).more a⟩
theorem eP.set{N:Nat}{l:List aD}(h:eP N l){p:Nat}{r:aD}(c:o' N p r):eP N (l.set p r):=by
 refine⟨by rw[List.length_set,h.len],fun q x a=> ?_⟩;by_cases e:p=q
 ·subst e
  have b:p<l.length:=by have:=(List.getElem?_eq_some_iff.1 a).1;simpa using this
  rw[List.getElem?_set_self b]at a;rw[<-Option.some.inj a];exact c
 ·rw[List.getElem?_set_ne e]at a;exact h.row q x a
theorem eP.at{N:Nat}{l:List aD}(h:eP N l){id:Int}{r:aD}(d:ew l id=some r):o' N (id%64).toNat r/\r.taken=true/\r.t.id=id/\64<=id/\id<=64*N+63:=by
 obtain⟨b,a,c⟩:=tB d;have:=h.row _ _ b;have e:=this.id a;exact⟨this,a,c,by omega,by omega⟩
def hz(wk:List ak)(id:Int):Nat:=wk.countP fun x=>x.slot==id
def nH(wk:List ak)(id:Int):Nat:=wk.countP fun x=>x.hand==id
def nI(ring:List Int)(id:Int):Nat:=ring.countP fun x=>x==id
def ea(wk:List ak)(ring:List Int)(id:Int):Nat:=hz wk id+nH wk id+nI ring id
theorem mf{α:Type}(p:α->Bool)(l:List α)(i:Nat)(x y:α)(h:l[i]?=some x):(l.set i y).countP p+(if p x then 1 else 0)=l.countP p+(if p y then 1 else 0):=by
 induction l generalizing i with
 |nil=>cases h
 |cons z l ih=>
  cases i with
  |zero=>
   have:z=x:=Option.some.inj h;subst this;rw[List.set_cons_zero,List.countP_cons,List.countP_cons];omega
  |succ i=>
   rw[List.set_cons_succ,List.countP_cons,List.countP_cons];have:=ih i h;omega
structure Core(N:Nat)(tb:List aD)(th:List (Int×Thread))(ws:List ak)(ring:List Int):Prop where
 tab:eP N tb
 al:∀id r,ew tb id=some r->fM r.t.state=true->(aw th id).isSome=true
 ai:∀id t,aw th id=some t->nG id t/\∃r,ew tb id=some r/\(r.t.state=4->r.t.aJ=true)
 one:∀id,id≠0->ea ws ring id<=1
 rV:∀id,id≠0->0<ea ws ring id->(aw th id).isSome=true/\st tb id≠3
 slt:∀id,id≠0->0<hz ws id->st tb id≠1
 wk:∀x∈ws,hy x
section
variable{N N':Nat}{tb kZ:List aD}{ai wR:List (Int×Thread)}{wk tC:List ak}{ring kE:List Int}
theorem B5{l l':List aD}{id:Int}(h:ew l' id=ew l id):st l' id=st l id:=by unfold st;rw[h]
theorem Core.fO(c:Core N tb ai wk ring)(id:Int)(m:eP N' kZ)
 (b:∀j,j≠id->ew kZ j=ew tb j) (g:∀j,j≠id->aw wR j=aw ai j)
 (d:∀j,j≠id->j≠0->hz tC j<=hz wk j/\ea tC kE j<=ea wk ring j)
 (hw:∀x∈tC,hy x)
 (n:∀r,ew kZ id=some r->fM r.t.state=true->(aw wR id).isSome=true)
 (q:∀t,aw wR id=some t->nG id t/\∃r,ew kZ id=some r/\(r.t.state=4->r.t.aJ=true))
 (l:id≠0->ea tC kE id<=1)
 (o:id≠0->0<ea tC kE id->(aw wR id).isSome=true/\st kZ id≠3)
 (p:id≠0->0<hz tC id->st kZ id≠1):Core N' kZ wR tC kE where
 tab:=m
 al:=fun j r i k=>by
  by_cases e:j=id
  ·subst e;exact n r i k
  ·rw[b j e]at i;rw[g j e];exact c.al j r i k
 ai:=fun j t h=>by
  by_cases e:j=id
  ·subst e;exact q t h
  ·rw[g j e]at h;rw[b j e];exact c.ai j t h
 one:=fun j a=>by
  by_cases e:j=id
  ·subst e;exact l a
  ·have:=(d j e a).2;have:=c.one j a;omega
 rV:=fun j a f=>by
  by_cases e:j=id
  ·subst e;exact o a f
  ·rw[g j e,B5 (b j e)];exact c.rV j a (by have:=(d j e a).2;omega)
 slt:=fun j a f=>by
  by_cases e:j=id
  ·subst e;exact p a f
  ·rw[B5 (b j e)];exact c.slt j a (by have:=(d j e a).1;omega)
 wk:=hw
theorem Core.more(c:Core N tb ai wk ring)(a:N<=N'):Core N' tb ai wk ring:=⟨c.tab.more a,c.al,c.ai,c.one,c.rV,c.slt,c.wk⟩
theorem Core.row(c:Core N tb ai wk ring){id:Int}{t:Thread}(h:aw ai id=some t):∃r,ew tb id=some r/\(r.t.state=4->r.t.aJ=true)/\64<=id/\id<=64*N+63:=by
 obtain⟨_,r,a,b⟩:=c.ai id t h;have:=c.tab.at a;exact⟨r,a,b,this.2.2.2⟩
theorem Core.b9(c:Core N tb ai wk ring){id:Int}{t b:Thread}(h:aw ai id=some t)(d:nG id b):Core N tb (b8 ai id b) wk ring:=
 c.fO id c.tab (fun _ _=>rfl) (fun j hj=>by rw[aT,if_neg hj]) (fun _ _ _=>⟨Nat.le_refl _,Nat.le_refl _⟩) c.wk
  (fun r i g=>by rw[aT,if_pos rfl];rfl)
  (fun u a=>by rw[aT,if_pos rfl]at a;rw[<-Option.some.inj a];exact⟨d,(c.ai id t h).2⟩)
  (c.one id) (fun e f=>⟨by rw[aT,if_pos rfl];rfl,(c.rV id e f).2⟩) (c.slt id)
theorem eQ{i:Nat}{x y:ak}(h:wk[i]?=some x)(id:Int):hz (wk.set i y) id+(if x.slot==id then 1 else 0)=hz wk id+(if y.slot==id then 1 else 0):=mf _ _ _ _ _ h
theorem eR{i:Nat}{x y:ak}(h:wk[i]?=some x)(id:Int):nH (wk.set i y) id+(if x.hand==id then 1 else 0)=nH wk id+(if y.hand==id then 1 else 0):=mf _ _ _ _ _ h
theorem hA{P:ak->Prop}{i:Nat}{y:ak}(h:∀x∈wk,P x)(c:P y):∀x∈wk.set i y,P x:=fun x b=>by
 rcases List.mem_or_eq_of_mem_set b with a|rfl
 ·exact h x a
 ·exact c
theorem Core.be(c:Core N tb ai wk ring){i:Nat}{x y:ak}(h:wk[i]?=some x)(k:y.slot=x.slot)(g:y.hand=x.hand)(l:hy y):Core N tb ai (wk.set i y) ring:=by
 have d:∀j,hz (wk.set i y) j=hz wk j:=fun j=>by have:=eQ (y:=y) h j;rw[k]at this;omega
 have f:∀j,nH (wk.set i y) j=nH wk j:=fun j=>by have:=eR (y:=y) h j;rw[g]at this;omega
 have e:∀j,ea (wk.set i y) ring j=ea wk ring j:=fun j=>by unfold ea;rw[d,f]
 exact⟨c.tab,c.al,c.ai,fun id a=>by rw[e];exact c.one id a,fun id a b=>c.rV id a (by rwa [e]at b),fun id a b=>c.slt id a (by rwa [d]at b),hA c.wk l⟩
theorem CQ(l:List aD)(id s:Int):(jJ l id s).2=match ew l id with|none=>l|some r=>if fM s=true/\r.t.state≠4 then l.set (id%64).toNat {r with t:={r.t with state:=s}}else l:=by
 unfold jJ;rcases e' (l:=l) (id:=id)with⟨a,b⟩|⟨r,a,b,e⟩
 ·rw[a,b]
 ·rw[a,e];dsimp only;rw[b];dsimp only
  by_cases c:fM s=true
  ·by_cases d:r.t.state=4
   ·simp[c,d]
   ·simp[c,d]
  ·simp[c]
theorem Bb(l:List aD)(id v:Int):(fW l id v).2=match ew l id with|none=>l|some r=>if r.t.state≠4 then l.set (id%64).toNat {r with t:={r.t with state:=4,value:=v,aJ:=true}}else l:=by
 unfold fW;rcases e' (l:=l) (id:=id)with⟨a,b⟩|⟨r,a,b,d⟩
 ·rw[a,b]
 ·rw[a,d];dsimp only;rw[b];dsimp only
  by_cases c:r.t.state=4
  ·simp[c]
  ·simp[c]
theorem wS(l:List aD)(id:Int):(eZ l id).2=match ew l id with|none=>l|some r=>if r.t.bI=0/\r.t.loose=false then(if r.t.state=4/\r.t.aJ=false then l.set (id%64).toNat r.gone else l.set (id%64).toNat {r with t:={r.t with loose:=true}})else l:=by
 unfold eZ;rcases e' (l:=l) (id:=id)with⟨a,b⟩|⟨r,a,b,c⟩
 ·rw[a,b]
 ·rw[a,c];dsimp only;rw[b];dsimp only
  by_cases hj:r.t.bI=0<;>cases e:r.t.loose<;>by_cases d:r.t.state=4<;>cases f:r.t.aJ<;>simp[hj,e,d,f]
theorem wT(l:List aD)(id:Int):(eF l id).2=match ew l id with|none=>l|some r=>if r.t.aJ=true then(if r.t.loose=true∨r.bE=true then l.set (id%64).toNat r.gone else l.set (id%64).toNat {r with t:={r.t with aJ:=false}})else l:=by
 unfold eF;rcases e' (l:=l) (id:=id)with⟨a,b⟩|⟨r,a,b,c⟩
 ·rw[a,b]
 ·rw[a,c];dsimp only;rw[b];dsimp only
  cases e:r.t.loose<;>cases d:r.bE<;>cases f:r.t.aJ<;>simp[e,d,f]
theorem y4(l:List aD)(id:Int):(fs l id).2.2.2.2=(match ew l id with|none=>l|some r=>if r.t.state=4/\r.t.loose=false/\r.bE=false then(if r.t.aJ=true then l.set (id%64).toNat {r with bE:=true}else l.set (id%64).toNat r.gone)else l)/\
 ((fs l id).2.1=0∨∃r,ew l id=some r/\(fs l id).2.1=r.t.value)/\((fs l id).2.2.1=0∨∃r,ew l id=some r/\(fs l id).2.2.1=r.t.home):=by
 unfold fs;rcases e' (l:=l) (id:=id)with⟨a,b⟩|⟨r,a,b,c⟩
 ·rw[a,b];exact⟨rfl,Or.inl rfl,Or.inl rfl⟩
 ·rw[a,c];dsimp only;rw[b];dsimp only
  by_cases d:r.t.state=4<;>cases e:r.t.loose<;>cases f:r.bE<;>cases g:r.t.aJ<;>simp[d,e,f,g]
structure dZ(N:Nat)(tb kZ:List aD)(id:Int):Prop where
 ok:eP N kZ
 Dz:∀j,j≠id->ew kZ j=ew tb j
theorem dZ.refl(h:eP N tb)(id:Int):dZ N tb tb id:=⟨h,fun _ _=>rfl⟩
theorem dZ.set(h:eP N tb){id:Int}{r:aD}(c:ew tb id=some r){r':aD}(d:r'.times=r.times)(b:r'.taken=true->r'.t.id=id)(j:aH r'.t.home)(k:aH r'.t.value):dZ N tb (tb.set (id%64).toNat r') id/\ew (tb.set (id%64).toNat r') id=if r'.taken then some r' else none:=by
 obtain⟨a,l,m,g,i⟩:=h.at c;have f:=Ba c r' b;refine⟨⟨h.set ⟨by rw[d];exact a.t0,by rw[d];exact a.t1,fun e=> ?_,j,k⟩,f.1⟩,f.2⟩;rw[b e];exact⟨by omega,g,i⟩
theorem dZ.trans{a:List aD}{id:Int}(h:dZ N tb kZ id)(k:dZ N kZ a id):dZ N tb a id:=⟨k.ok,fun j hj=>(k.Dz j hj).trans (h.Dz j hj)⟩
theorem bx:aH (0:Int):=⟨by decide,by decide⟩
theorem Bc(h:eP N tb)(id s:Int)(f:fM s=true):dZ N tb (jJ tb id s).2 id/\(ew tb id=none->ew (jJ tb id s).2 id=none)/\
 ∀r,ew tb id=some r->∃r',ew (jJ tb id s).2 id=some r'/\((r.t.state=4/\r'=r)∨(r.t.state≠4/\r'.t.state=s)):=by
 rw[CQ];cases c:ew tb id with
 |none=>dsimp only;exact⟨dZ.refl h id,fun _=>c,fun r e=>by cases e⟩
 |some r=>
  dsimp only;by_cases b:r.t.state=4
  ·rw[if_neg (by rintro⟨_,e⟩;exact e b)]
   refine⟨dZ.refl h id,(fun e=>by cases e),fun x d=> ?_⟩;have:r=x:=Option.some.inj d;subst this;exact⟨r,c,Or.inl ⟨b,rfl⟩⟩
  ·rw[if_pos ⟨f,b⟩]
   have a:=h.at c;have:=dZ.set h c (r':={r with t:={r.t with state:=s}}) rfl (fun _=>a.2.2.1) a.1.home a.1.value;refine⟨this.1,(fun e=>by cases e),fun x d=> ?_⟩;have e:r=x:=Option.some.inj d;subst e;refine⟨_,by rw[this.2,if_pos a.2.1],Or.inr ⟨b,rfl⟩⟩
theorem rW(h:eP N tb)(id v:Int)(g:aH v):dZ N tb (fW tb id v).2 id/\(ew tb id=none->ew (fW tb id v).2 id=none)/\
 ∀r,ew tb id=some r->(r.t.state=4->r.t.aJ=true)->∃r',ew (fW tb id v).2 id=some r'/\r'.t.state=4/\r'.t.aJ=true:=by
 rw[Bb];cases b:ew tb id with
 |none=>dsimp only;exact⟨dZ.refl h id,fun _=>b,fun r e=>by cases e⟩
 |some r=>
  dsimp only;by_cases a:r.t.state=4
  ·rw[if_neg (by intro e;exact e a)]
   refine⟨dZ.refl h id,(fun e=>by cases e),fun x d f=> ?_⟩;have:r=x:=Option.some.inj d;subst this;exact⟨r,b,a,f a⟩
  ·rw[if_pos a]
   have c:=h.at b;have:=dZ.set h b (r':={r with t:={r.t with state:=4,value:=v,aJ:=true}}) rfl (fun _=>c.2.2.1) c.1.home g;refine⟨this.1,(fun e=>by cases e),fun x d _=> ?_⟩;exact⟨_,by rw[this.2,if_pos c.2.1],rfl,rfl⟩
theorem tD(h:eP N tb)(id:Int):dZ N tb (eF tb id).2 id/\
 ∀r,ew tb id=some r->r.t.state=4->∀r',ew (eF tb id).2 id=some r'->r'.t.state=4:=by
 rw[wT];cases d:ew tb id with
 |none=>dsimp only;exact⟨dZ.refl h id,fun r e=>by cases e⟩
 |some r=>
  dsimp only;have b:=h.at d;split
  ·split
   ·have:=dZ.set h d (r':=r.gone) rfl (fun e=>by cases e) bx bx
    refine⟨this.1,fun x f c r' a=> ?_⟩;rw[this.2,if_neg (by simp[aD.gone])]at a;cases a
   ·have:=dZ.set h d (r':={r with t:={r.t with aJ:=false}}) rfl (fun _=>b.2.2.1) b.1.home b.1.value
    refine⟨this.1,fun x f c r' a=> ?_⟩;rw[this.2,if_pos b.2.1]at a;rw[<-Option.some.inj a,Option.some.inj f];exact c
  ·refine⟨dZ.refl h id,fun x f c r' a=> ?_⟩
   rw[d]at a;rw[<-Option.some.inj a,Option.some.inj f];exact c
def uY(tb kZ:List aD)(id:Int):Prop:=(ew tb id=none->ew kZ id=none)/\∀r,ew tb id=some r->(∃r',ew kZ id=some r'/\r'.t.state=r.t.state/\r'.t.aJ=r.t.aJ)∨(ew kZ id=none/\r.t.state=4/\r.t.aJ=false)
theorem tE(h:eP N tb)(id:Int):dZ N tb (eZ tb id).2 id/\uY tb (eZ tb id).2 id:=by
 rw[wS];cases a:ew tb id with
 |none=>dsimp only;exact⟨dZ.refl h id,fun _=>a,fun r e=>by rw[a]at e;cases e⟩
 |some r=>
  dsimp only;have c:=h.at a;split
  ·split
   ·rename_i d
    have:=dZ.set h a (r':=r.gone) rfl (fun e=>by cases e) bx bx;refine⟨this.1,(fun e=>by rw[a]at e;cases e),fun x b=>Or.inr ?_⟩;rw[a]at b;rw[<-Option.some.inj b];exact⟨by rw[this.2,if_neg (by simp[aD.gone])],d.1,d.2⟩
   ·have:=dZ.set h a (r':={r with t:={r.t with loose:=true}}) rfl (fun _=>c.2.2.1) c.1.home c.1.value
    refine⟨this.1,(fun e=>by rw[a]at e;cases e),fun x b=>Or.inl ?_⟩;rw[a]at b;exact⟨_,by rw[this.2,if_pos c.2.1],by rw[<-Option.some.inj b],by rw[<-Option.some.inj b]⟩
  ·exact⟨dZ.refl h id,fun e=>e,fun x b=>Or.inl ⟨x,b,rfl,rfl⟩⟩
theorem wV(h:eP N tb)(id:Int):dZ N tb (fs tb id).2.2.2.2 id/\uY tb (fs tb id).2.2.2.2 id/\aH (fs tb id).2.1:=by
 obtain⟨g,c,_⟩:=y4 tb id;have f:aH (fs tb id).2.1:=by
  rcases c with c|⟨r,a,c⟩
  ·rw[c];exact bx
  ·rw[c];exact(h.at a).1.value
 rw[g];cases a:ew tb id with
 |none=>dsimp only;exact⟨dZ.refl h id,⟨fun _=>a,fun r e=>by rw[a]at e;cases e⟩,f⟩
 |some r=>
  dsimp only;have d:=h.at a;split
  ·rename_i i
   split
   ·have:=dZ.set h a (r':={r with bE:=true}) rfl (fun _=>d.2.2.1) d.1.home d.1.value
    refine⟨this.1,⟨(fun e=>by rw[a]at e;cases e),fun x b=>Or.inl ?_⟩,f⟩;rw[a]at b;exact⟨_,by rw[this.2,if_pos d.2.1],by rw[<-Option.some.inj b],by rw[<-Option.some.inj b]⟩
   ·rename_i j
    have:=dZ.set h a (r':=r.gone) rfl (fun e=>by cases e) bx bx;refine⟨this.1,⟨(fun e=>by rw[a]at e;cases e),fun x b=>Or.inr ?_⟩,f⟩;rw[a]at b;rw[<-Option.some.inj b];exact⟨by rw[this.2,if_neg (by simp[aD.gone])],i.1,by simpa using j⟩
  ·exact⟨dZ.refl h id,⟨fun e=>e,fun x b=>Or.inl ⟨x,b,rfl,rfl⟩⟩,f⟩
theorem rX{s:Int}:fM s=true↔s=1∨s=2∨s=3:=by unfold fM;simp[or_assoc]
theorem Core.same(c:Core N tb ai wk ring){id:Int}(o:dZ N tb kZ id)(k:uY tb kZ id):Core N kZ ai wk ring:=by
 have n:(aw ai id).isSome=true->st kZ id=st tb id:=fun p=>by
  obtain⟨t,l⟩:=Option.isSome_iff_exists.1 p;obtain⟨_,r,b,j⟩:=c.ai id t l;rcases k.2 r b with⟨r',d,a,_⟩|⟨_,a,f⟩
  ·unfold st;rw[d,b];exact a
  ·rw[j a]at f;cases f
 refine c.fO id o.ok o.Dz (fun _ _=>rfl) (fun _ _ _=>⟨Nat.le_refl _,Nat.le_refl _⟩) c.wk (fun r' h m=> ?_) (fun t l=>⟨(c.ai id t l).1,?_⟩) (c.one id) (fun g i=>⟨(c.rV id g i).1,?_⟩) (fun g i=> ?_)
 ·cases b:ew tb id with
  |none=>rw[k.1 b]at h;cases h
  |some r=>
   rcases k.2 r b with⟨q,d,a,_⟩|⟨d,_⟩
   ·rw[d]at h
    rw[<-Option.some.inj h,a]at m;exact c.al id r b m
   ·rw[d]at h;cases h
 ·obtain⟨_,r,b,j⟩:=c.ai id t l
  rcases k.2 r b with⟨r',d,a,f⟩|⟨_,a,f⟩
  ·exact⟨r',d,fun e=>by rw[f];exact j (by rw[<-a];exact e)⟩
  ·rw[j a]at f;cases f
 ·rw[n (c.rV id g i).1];exact(c.rV id g i).2
 ·rw[n (c.rV id g (by unfold ea;omega)).1];exact c.slt id g i
theorem Bd{i:Nat}{x:ak}(h:wk[i]?=some x){id:Int}(a:x.slot=id):0<hz wk id:=List.countP_pos_iff.2 ⟨x,List.mem_of_getElem? h,by simp[a]⟩
theorem Be{i:Nat}{x:ak}(h:wk[i]?=some x){id:Int}(a:x.hand=id):0<nH wk id:=List.countP_pos_iff.2 ⟨x,List.mem_of_getElem? h,by simp[a]⟩
theorem Core.kF(c:Core N tb ai wk ring){i:Nat}{x:ak}(h:wk[i]?=some x)(a:x.slot≠0):∃t,aw ai x.slot=some t:=Option.isSome_iff_exists.1 (c.rV _ a (by have:=Bd h (id:=x.slot) rfl;unfold ea;omega)).1
theorem Core.qi(c:Core N tb ai wk ring){i:Nat}{x:ak}(h:wk[i]?=some x)(a:x.hand≠0):∃t,aw ai x.hand=some t:=Option.isSome_iff_exists.1 (c.rV _ a (by have:=Be h (id:=x.hand) rfl;unfold ea;omega)).1
theorem gh(ring:List Int)(id j:Int):nI (g6 ring id).2 j<=nI ring j+(if id=j then 1 else 0)/\(j≠id->nI (g6 ring id).2 j=nI ring j):=by
 unfold g6;split
 ·exact⟨Nat.le_add_right _ _,fun _=>rfl⟩
 ·unfold nI
  dsimp only;rw[List.countP_append,List.countP_cons,List.countP_nil];by_cases e:id=j
  ·subst e;simp
  ·have a:(id==j)=false:=by simpa using e
   simp[e,a]
theorem Core.move(c:Core N tb ai wk ring){id:Int}{t:Thread}(d:aw ai id=some t)(s:Int)(b:fM s=true)(hw:∀x∈tC,hy x)
 (n:∀j,j≠id->j≠0->hz tC j<=hz wk j/\ea tC kE j<=ea wk ring j) (k:ea tC kE id<=1)
 (o:s=3->ea tC kE id=0) (v:s=1->hz tC id=0):Core N (jJ tb id s).2 ai tC kE:=by
 obtain⟨r,q,m,_⟩:=c.row d;obtain⟨i,_,l⟩:=Bc c.tab id s b;obtain⟨r',f,a⟩:=l r q;have g:st (jJ tb id s).2 id=4∨st (jJ tb id s).2 id=s:=by
  unfold st;rw[f];rcases a with⟨a,rfl⟩|⟨_,a⟩
  ·exact Or.inl a
  ·exact Or.inr a
 refine c.fO id i.ok i.Dz (fun _ _=>rfl) n hw (fun _ _ _=>by rw[d];rfl) (fun u w=>⟨(c.ai id u w).1,r',f,fun e=> ?_⟩) (fun _=>k) (fun _ p=>⟨by rw[d];rfl,?_⟩) (fun _ p=> ?_)
 ·rcases a with⟨a,rfl⟩|⟨_,a⟩
  ·exact m a
  ·rw[a]at e;rw[e]at b;exact absurd b (by decide)
 ·rcases g with h|h<;>rw[h]
  ·decide
  ·intro e;have:=o e;omega
 ·rcases g with h|h<;>rw[h]
  ·decide
  ·intro e;have:=v e;omega
end
end
section
section
variable{N N':Nat}{tb kZ:List aD}{ai wR:List (Int×Thread)}{wk tC:List ak}{ring kE:List Int}
theorem Core.Ex(c:Core N tb ai wk ring){id:Int}{t:Thread}(a:aw ai id=some t):id≠0:=by
 obtain⟨_,_,_,h,_⟩:=c.row a;omega
theorem il{a b:Int}:(if(a==b)=true then 1 else 0:Nat)=if a=b then 1 else 0:=by simp
theorem Core.nJ(c:Core N tb ai wk ring){i:Nat}{x y:ak}(k:wk[i]?=some x)(f:x.hand≠0)(q:hy y)(o:y.slot=x.slot)(m:y.hand=0):
 Core N (jJ tb x.hand 1).2 ai (wk.set i y) (g6 ring x.hand).2:=by
 obtain⟨t,p⟩:=c.qi k f;have l:=c.one _ f;have h:=fun j=>eQ (y:=y) k j
 have g:=fun j=>eR (y:=y) k j
 simp only[il,o,m]at h g;refine c.move p 1 (by decide) (hA c.wk q) (fun j hj n=> ?_) ?_ (fun e=>absurd e (by decide)) (fun _=> ?_)
 ·have a:=h j;have b:=g j;have d:=(gh ring x.hand j).2 hj
  rw[if_neg (Ne.symm hj),if_neg (Ne.symm n)]at b;unfold ea;omega
 ·have a:=h x.hand;have b:=g x.hand;have d:=(gh ring x.hand x.hand).1
  rw[if_pos rfl,if_neg (Ne.symm f)]at b;rw[if_pos rfl]at d;unfold ea at l⊢;omega
 ·have a:=h x.hand;have b:=g x.hand
  rw[if_pos rfl,if_neg (Ne.symm f)]at b;unfold ea at l;omega
theorem Core.y5(c:Core N tb ai wk ring){i:Nat}{x y:ak}(h:wk[i]?=some x)(d:x.hand≠0)(p:x.slot=0)(q:hy y)(n:y.slot=x.hand)(m:y.hand=0):
 Core N (jJ tb x.hand 2).2 ai (wk.set i y) ring:=by
 obtain⟨t,o⟩:=c.qi h d;have l:=c.one _ d;have g:=fun j=>eQ (y:=y) h j
 have f:=fun j=>eR (y:=y) h j
 simp only[il,n,m,p]at g f;refine c.move o 2 (by decide) (hA c.wk q) (fun j hj k=> ?_) ?_ (fun e=>absurd e (by decide)) (fun e=>absurd e (by decide))
 ·have a:=g j;have b:=f j
  rw[if_neg (Ne.symm hj),if_neg (Ne.symm k)]at a;rw[if_neg (Ne.symm hj),if_neg (Ne.symm k)]at b;unfold ea;omega
 ·have a:=g x.hand;have b:=f x.hand
  rw[if_pos rfl,if_neg (Ne.symm d)]at a;rw[if_pos rfl,if_neg (Ne.symm d)]at b;unfold ea at l⊢;omega
theorem Core.CR(c:Core N tb ai wk ring){id:Int}{t:Thread}(g:aw ai id=some t)(k:ea wk ring id=0){i:Nat}{x y:ak}(h:wk[i]?=some x)(l:x.hand=0)(q:hy y)(p:y.slot=x.slot)(m:y.hand=id):
 Core N (jJ tb id 1).2 ai (wk.set i y) ring:=by
 have d:=fun j=>eQ (y:=y) h j
 have f:=fun j=>eR (y:=y) h j
 simp only[il,p,m,l]at d f;have n:=c.Ex g;refine c.move g 1 (by decide) (hA c.wk q) (fun j hj o=> ?_) ?_ (fun e=>absurd e (by decide)) (fun _=> ?_)
 ·have a:=d j;have b:=f j
  rw[if_neg (Ne.symm hj),if_neg (Ne.symm o)]at b;unfold ea;omega
 ·have a:=d id;have b:=f id
  rw[if_pos rfl,if_neg (Ne.symm n)]at b;unfold ea at k⊢;omega
 ·have a:=d id
  unfold ea at k;omega
theorem Core.toRing(c:Core N tb ai wk ring){id:Int}{t:Thread}(b:aw ai id=some t)(a:ea wk ring id=0):Core N (jJ tb id 1).2 ai wk (g6 ring id).2:=by
 refine c.move b 1 (by decide) c.wk (fun j hj f=> ?_) ?_ (fun e=>absurd e (by decide)) (fun _=> ?_)
 ·have d:=(gh ring id j).2 hj
  unfold ea;omega
 ·have d:=(gh ring id id).1
  rw[if_pos rfl]at d;unfold ea at a⊢;omega
 ·unfold ea at a;omega
theorem Core.pX(c:Core N tb ai wk ring){id:Int}(h:st tb id=3):(∃t,aw ai id=some t)/\ea wk ring id=0:=by
 have d:(aw ai id).isSome=true:=by
  unfold st at h;cases a:ew tb id with
  |none=>rw[a]at h;cases h
  |some r=>rw[a]at h;exact c.al id r a (rX.2 (Or.inr (Or.inr h)))
 obtain⟨t,b⟩:=Option.isSome_iff_exists.1 d;refine⟨⟨t,b⟩,?_⟩;exact Nat.eq_zero_of_not_pos fun e=>(c.rV id (c.Ex b) e).2 h
theorem Core.Bf(c:Core N tb ai wk ring){id:Int}(h:st tb id=1)(k:∀x∈wk,x.hand≠id)(l:id∉ring):(∃t,aw ai id=some t)/\ea wk ring id=0:=by
 have m:(aw ai id).isSome=true:=by
  unfold st at h;cases f:ew tb id with
  |none=>rw[f]at h;cases h
  |some r=>rw[f]at h;exact c.al id r f (rX.2 (Or.inl h))
 obtain⟨t,i⟩:=Option.isSome_iff_exists.1 m;refine⟨⟨t,i⟩,?_⟩;have a:hz wk id=0:=Nat.eq_zero_of_not_pos fun n=>c.slt id (c.Ex i) n h
 have b:nH wk id=0:=List.countP_eq_zero.2 fun x g=>by simpa using k x g
 have d:nI ring id=0:=List.countP_eq_zero.2 fun x g e=>l (by
  have j:x=id:=by simpa using e
  rw[<-j];exact g)
 unfold ea;omega
theorem Core.take(c:Core N tb ai wk ring){id:Int}(h:st tb id=1)(m:∀x∈wk,x.hand≠id)(n:id∉ring){i:Nat}{x y:ak}(g:wk[i]?=some x)(l:x.hand=0)(s:hy y)(r:y.slot=x.slot)(o:y.hand=id):
 Core N tb ai (wk.set i y) ring:=by
 obtain⟨⟨t,f⟩,k⟩:=c.Bf h m n;have d:=fun j=>eQ (y:=y) g j
 have e:=fun j=>eR (y:=y) g j
 simp only[il,r,o,l]at d e;have p:=c.Ex f;refine c.fO id c.tab (fun _ _=>rfl) (fun _ _=>rfl) (fun j hj q=> ?_) (hA c.wk s) (fun _ _ _=>by rw[f];rfl) (c.ai id) (fun _=> ?_) (fun _ _=>⟨by rw[f];rfl,by rw[h];decide⟩) (fun _ u=> ?_)
 ·have a:=d j;have b:=e j
  rw[if_neg (Ne.symm hj),if_neg (Ne.symm q)]at b;unfold ea;omega
 ·have a:=d id;have b:=e id
  rw[if_pos rfl,if_neg (Ne.symm p)]at b;unfold ea at k⊢;omega
 ·have a:=d id
  unfold ea at k;omega
theorem Core.y7(c:Core N tb ai wk ring){i:Nat}{x y:ak}(m:wk[i]?=some x)(n:x.hand=0)(p:hy y)(o:y.slot=x.slot)(l:y.hand=(gG ring).1):
 Core N tb ai (wk.set i y) (gG ring).2.2:=by
 cases ring with
 |nil=>exact c.be m o (by rw[l,n];rfl) p
 |cons id ring=>
  change y.hand=id at l;show Core N tb ai (wk.set i y) ring
  have g:=fun j=>eQ (y:=y) m j
  have h:=fun j=>eR (y:=y) m j
  simp only[il,o,l,n]at g h;have k:∀j,nI (id::ring) j=nI ring j+if id=j then 1 else 0:=fun j=>by
   unfold nI;rw[List.countP_cons];simp
  refine c.fO id c.tab (fun _ _=>rfl) (fun _ _=>rfl) (fun j hj q=> ?_) (hA c.wk p) (c.al id) (c.ai id) (fun f=> ?_) (fun f r=>c.rV id f ?_) (fun f r=>c.slt id f ?_)
  ·have a:=g j;have b:=h j;have d:=k j
   rw[if_neg (Ne.symm hj),if_neg (Ne.symm q)]at b;rw[if_neg (Ne.symm hj)]at d;unfold ea;omega
  ·have a:=g id;have b:=h id;have d:=k id;have e:=c.one id f
   rw[if_pos rfl,if_neg (Ne.symm f)]at b;rw[if_pos rfl]at d;unfold ea at e⊢;omega
  ·have d:=k id
   rw[if_pos rfl]at d;unfold ea;omega
  ·have a:=g id
   omega
theorem Core.gone(c:Core N tb ai wk ring){i:Nat}{x y:ak}(h:wk[i]?=some x)(e:x.slot≠0)(C:hy y)(B:y.slot=0)(q:y.hand=x.hand)(u:f' ai):
 Core N (eF (fW tb x.slot 0).2 x.slot).2 (fk ai x.slot) (wk.set i y) ring:=by
 obtain⟨t,d⟩:=c.kF h e;obtain⟨r,w,o,_⟩:=c.row d;obtain⟨u1,_,u3⟩:=rW c.tab x.slot 0 bx;obtain⟨E,A,m,F⟩:=u3 r w o;obtain⟨u4,u5⟩:=tD u1.ok x.slot;have g:=fun j=>eQ (y:=y) h j
 have f:=fun j=>eR (y:=y) h j
 simp only[il,B,q]at g f;have n:=c.one _ e;have D:ea (wk.set i y) ring x.slot=0:=by
  have a:=g x.slot;have b:=f x.slot;rw[if_pos rfl,if_neg (Ne.symm e)]at a;unfold ea at n⊢;omega
 have p:=(u.del x.slot).2;have l:=u1.trans u4;refine c.fO x.slot l.ok l.Dz (fun j hj=>fZ _ _ _ hj) (fun j hj s=> ?_) (hA c.wk C) (fun r' z k=> ?_) (fun t d=>by rw[p]at d;cases d) (fun _=>by omega) (fun _ v=>by omega) (fun _ v=>by unfold ea at D;omega)
 ·have a:=g j;have b:=f j
  rw[if_neg (Ne.symm hj),if_neg (Ne.symm s)]at a;unfold ea;omega
 ·rw[u5 E A m r' z]at k;exact absurd k (by decide)
theorem nK:∀(l:List aD) (k p:Nat),iB l k=some p->k<=p/\∃r,l[p-k]?=some r/\r.taken=false
 |[],_,_,h=>by cases h
 |r::l,k,p,h=>by
  unfold iB at h;split at h
  ·obtain⟨d,r',a,b⟩:=nK l (k+1) p h
   refine⟨by omega,r',?_,b⟩;rw[show p-k=(p-(k+1))+1 by omega,List.getElem?_cons_succ];exact a
  ·rename_i c
   have:k=p:=Option.some.inj h;subst this;exact⟨Nat.le_refl _,r,by rw[Nat.sub_self];rfl,by simpa using c⟩
theorem Core.born(c:Core N tb ai wk ring)(E:N<=1000000)(home:Int)(x:aH home){id:Int}{kZ:List aD}(hb:db tb home=(some id,kZ)){t:Thread}(C:nG id t):
 aw ai id=none/\Core (N+1) kZ (b8 ai id t) wk ring/\ea wk ring id=0/\64<=id/\id<=64*(N+1)+63/\st kZ id=1:=by
 unfold db at hb;cases g:iB tb 0 with
 |none=>rw[g]at hb;cases hb
 |some p=>
  obtain⟨_,r,a,q⟩:=nK tb 0 p g;rw[Nat.sub_zero]at a;rw[g]at hb;dsimp only at hb;rw[a]at hb;dsimp only at hb;have n:=c.tab.row p r a;have b:p<64:=by have:=(List.getElem?_eq_some_iff.1 a).1;rw[c.tab.len]at this;exact this
  have k:p<tb.length:=(List.getElem?_eq_some_iff.1 a).1;have t0:=n.t0;have t1:=n.t1;have w1:IntKind.u64.wrap (r.times+1)=r.times+1:=by unfold IntKind.wrap IntKind.bits IntKind.signed;simp;omega
  have w2:IntKind.u64.wrap (64*(r.times+1))=64*(r.times+1):=by unfold IntKind.wrap IntKind.bits IntKind.signed;simp;omega
  have D:IntKind.u64.wrap ((p:Int)+64*(r.times+1))=(p:Int)+64*(r.times+1):=by unfold IntKind.wrap IntKind.bits IntKind.signed;simp;omega
  rw[w1,w2,D]at hb;injection hb with d f
  injection d with d
  have hid:id%64=p:=by omega
  have i:(id%64).toNat=p:=by omega
  have z:ew tb id=none:=by
   unfold ew;rw[i,a];simp[q]
  have l:aw ai id=none:=by
   cases y:aw ai id with
   |none=>rfl
   |some u=>obtain⟨_,r',h,_⟩:=c.ai id u y;rw[z]at h;cases h
  have v:ea wk ring id=0:=by
   have:=(fun b=>(c.rV id (by omega) b).1);rw[l]at this;have:¬0<ea wk ring id:=(fun b=>by cases this b);omega
  have w:eP (N+1) kZ:=by
   rw[<-f];refine eP.set (c.tab.more (Nat.le_succ _)) ⟨?_,?_,fun _=> ?_,x,bx⟩
   ·show 0<=r.times+1;omega
   ·show r.times+1<=((N+1:Nat):Int);omega
   ·show((p:Int)+64*(r.times+1))%64=p/\64<=(p:Int)+64*(r.times+1)/\(p:Int)+64*(r.times+1)<=64*((N+1:Nat):Int)+63
    omega
  have A:∃r',ew kZ id=some r'/\r'.t.state=1:=by
   rw[<-f,mI k,if_pos i];exact⟨_,if_pos (by simp[d]),rfl⟩
  have B:∀j,j≠id->ew kZ j=ew tb j:=fun j hj=>by
   rw[<-f,mI k];split
   ·rename_i e
    rw[if_neg (by simp[d,Ne.symm hj])];unfold ew;rw[e,a];simp[q]
   ·rfl
  obtain⟨r',m,o⟩:=A;refine⟨l,?_,v,by omega,by omega,by unfold st;rw[m];exact o⟩;refine c.fO id w B (fun j hj=>by rw[aT,if_neg hj]) (fun _ _ _=>⟨Nat.le_refl _,Nat.le_refl _⟩) c.wk (fun _ _ _=>by rw[aT,if_pos rfl];rfl)
   (fun u s=>by
    rw[aT,if_pos rfl]at s;rw[<-Option.some.inj s];exact⟨C,r',m,fun e=>by rw[o]at e;cases e⟩)
   (fun _=>by omega) (fun _ b=>by omega) (fun _ b=>by unfold ea at v;omega)
end
end
section
def oH(N:Nat)(q:List (List hx)):Prop:=(∀s∈q.flatten,aH s.id)/\q.flatten.length<=N
section
variable{N:Nat}{q:List (List hx)}
theorem oH.more{N':Nat}(h:oH N q)(a:N<=N'):oH N' q:=⟨h.1,Nat.le_trans h.2 a⟩
theorem oH.find(h:oH N q){id:Int}{s:hx}(a:hJ q id=some s):aH s.id:=h.1 s (List.mem_of_find?_eq_some a)
theorem HK(q:List (List hx))(id:Int):(dy q id).2.flatten=q.flatten.filter fun s=>s.id !=id:=by
 unfold dy;split
 ·rename_i a
  rw[List.filter_eq_self.2];intro s b;have:=List.find?_eq_none.1 a s b;simpa using this
 ·rw[List.filter_flatten]
theorem oH.drop(h:oH N q)(id:Int):oH N (dy q id).2:=
 ⟨fun s a=>h.1 s (by rw[HK]at a;exact(List.mem_filter.1 a).1),by rw[HK];exact Nat.le_trans (List.length_filter_le _ _) h.2⟩
theorem IA(s:hx):∀(q:List (List hx)) (k:Nat),(q.modify k (·++[s])).flatten.length<=q.flatten.length+1
 |[],k=>by cases k<;>simp
 |l::q,0=>by simp;omega
 |l::q,k+1=>by
  have:=IA s q k;rw[List.modify_succ_cons,List.flatten_cons,List.flatten_cons,List.length_append,List.length_append];omega
theorem oH.link(h:oH N q)(s:hx)(j:aH s.id):oH (N+1) (oX q s):=by
 refine⟨?_,Nat.le_trans (IA _ _ _) (Nat.succ_le_succ h.2)⟩;intro x m;obtain⟨l,i,b⟩:=List.mem_flatten.1 m;obtain⟨k,a⟩:=List.getElem?_of_mem i;unfold oX at a;rw[List.getElem?_modify]at a;cases e:q[k]? with
 |none=>rw[e]at a;cases a
 |some c=>
  rw[e]at a;have g:(if(bc s.ad 8).toNat=k then c++[s]else c)=l:=by simpa using a
  have f:∀y∈c,aH y.id:=fun y n=>h.1 y (List.mem_flatten.2 ⟨c,List.mem_of_getElem? e,n⟩)
  rw[<-g]at b;split at b
  ·rcases List.mem_append.1 b with d|d
   ·exact f x d
   ·rw[List.mem_singleton.1 d];exact j
  ·exact f x b
theorem IB{c mask:Int}{each:Bool}{s:hx}(d:lh q c mask each=some s):s∈q.flatten:=by
 have a:=List.mem_of_find?_eq_some d;rw[List.getD_eq_getElem?_getD]at a;cases b:q[(bc c 8).toNat]? with
 |none=>rw[b]at a;cases a
 |some l=>rw[b]at a;exact List.mem_flatten.2 ⟨l,List.mem_of_getElem? b,a⟩
theorem oH.put(h:oH N q)(id a mask:Int)(hid:aH id):oH (N+1) (kn q id a mask).2:=by
 unfold kn;split
 ·exact h.more (Nat.le_succ _)
 ·split
  ·exact h.more (Nat.le_succ _)
  ·exact h.link _ hid
theorem oH.take(h:oH N q)(a mask:Int):oH N (ez q a mask).2.2/\aH (ez q a mask).1:=by
 unfold ez;split
 ·exact⟨h,bx⟩
 ·rename_i s b;exact⟨h.drop _,h.1 s (IB b)⟩
theorem oH.move(h:oH N q)(fr tt:Int):oH N (hK q fr tt).2.2/\aH (hK q fr tt).1:=by
 unfold hK;split
 ·exact⟨h,bx⟩
 ·rename_i s c
  have a:=IB c;have d:(q.flatten.filter fun x=>x.id !=s.id).length<q.flatten.length:=by
   rw[List.length_filter_lt_length_iff_exists];exact⟨s,a,by simp⟩
  have b:oH (N-1) (dy q s.id).2:=⟨(h.drop _).1,by rw[HK];have:=h.2;omega⟩;exact⟨(b.link {s with ad:=tt} (h.1 s a)).more (by have:=h.2;omega),h.1 s a⟩
end
section
variable{P:a8->Prop}
theorem kH{S:ah}(h:∀x∈S.l,P x)(i:Nat){t:a8}(b:P t):∀x∈(S.lay i t).l,P x:=fun x c=>by
 rcases List.mem_or_eq_of_mem_set (show x∈S.l.set i t from c)with a|rfl
 ·exact h x a
 ·exact b
theorem rY:∀(f:Nat) (S:ah) (i:Nat) (t:a8),(∀x∈S.l,P x)->(∀x∈(gK f S i t).1.l,P x)/\(gK f S i t).1.l.length=S.l.length
 |0,S,i,t,h=>⟨h,rfl⟩
 |f+1,S,i,t,h=>by
  unfold gK;split
  ·exact⟨h,rfl⟩
  ·split
   ·exact⟨h,rfl⟩
   ·rename_i p a
    split
    ·have:=rY f (S.lay i p) ((i-1)/2) t (kH h i (h p (List.mem_of_getElem? a)))
     exact⟨this.1,this.2.trans (S.b1 i p)⟩
    ·exact⟨h,rfl⟩
theorem nL:∀(f:Nat) (S:ah) (i:Nat) (t:a8),(∀x∈S.l,P x)->(∀x∈(bN f S i t).1.l,P x)/\(bN f S i t).1.l.length=S.l.length
 |0,S,i,t,h=>⟨h,rfl⟩
 |f+1,S,i,t,h=>by
  unfold bN;split
  ·exact⟨h,rfl⟩
  ·split
   ·exact⟨h,rfl⟩
   ·rename_i c _ _ x a
    split
    ·have:=nL f (S.lay i x) (jE S i c) t (kH h i (h x (List.mem_of_getElem? a)))
     exact⟨this.1,this.2.trans (S.b1 i x)⟩
    ·exact⟨h,rfl⟩
theorem y8{S:ah}(h:∀x∈S.l,P x)(i:Nat):(∀x∈(S.up i).l,P x)/\(S.up i).l.length=S.l.length:=by
 unfold ah.up;split
 ·exact⟨h,rfl⟩
 ·rename_i t a
  have:=rY (i+1) S i t h;exact⟨kH this.1 _ (h t (List.mem_of_getElem? a)),((gK (i+1) S i t).1.b1 _ t).trans this.2⟩
theorem y9{S:ah}(h:∀x∈S.l,P x)(i:Nat):(∀x∈(S.down i).l,P x)/\(S.down i).l.length=S.l.length:=by
 unfold ah.down;split
 ·exact⟨h,rfl⟩
 ·rename_i t a
  have:=nL (S.l.length+1) S i t h;exact⟨kH this.1 _ (h t (List.mem_of_getElem? a)),((bN (S.l.length+1) S i t).1.b1 _ t).trans this.2⟩
theorem Bg{S:ah}(h:∀x∈S.l,P x)(d a:Int)(c:∀n,P ⟨d,a,n⟩):(∀x∈(S.put d a).2.l,P x)/\(S.put d a).2.l.length=S.l.length+1:=by
 unfold ah.put;have:=y8 (P:=P) (S:={S with last:=wrap64 (S.last+1),l:=S.l++[⟨d,a,wrap64 (S.last+1)⟩]}) (fun x e=>by
  rcases List.mem_append.1 e with b|b
  ·exact h x b
  ·rw[List.mem_singleton.1 b];exact c _) S.l.length
 exact⟨this.1,this.2.trans (by simp)⟩
theorem Bh{S:ah}(h:∀x∈S.l,P x)(k:Int):(∀x∈(S.cut k).l,P x)/\(S.cut k).l.length<=S.l.length:=⟨fun x a=>h x (List.mem_of_mem_take a),by unfold ah.cut;simp⟩
theorem rZ{S:ah}(h:∀x∈S.l,P x)(k:Int):(∀x∈(S.drop k).2.2.l,P x)/\(S.drop k).2.2.l.length<=S.l.length/\((S.drop k).2.1=true->∃x∈S.l,(S.drop k).1=x.bS):=by
 unfold ah.drop;cases g:aw S.at_ k with
 |none=>exact⟨h,Nat.le_refl _,fun e=>by cases e⟩
 |some i=>
  dsimp only;cases a:S.l[i.toNat]? with
  |none=>exact⟨h,Nat.le_refl _,fun e=>by cases e⟩
  |some t=>
   cases b:S.l[S.l.length-1]? with
   |none=>exact⟨h,Nat.le_refl _,fun e=>by cases e⟩
   |some last=>
    dsimp only;have c:=Bh h k;split
    ·have f:=kH c.1 i.toNat (h last (List.mem_of_getElem? b))
     have u:=y8 f i.toNat;have d:=y9 u.1 ((aw (((S.cut k).lay i.toNat last).up i.toNat).at_ last.h).getD 0).toNat;refine⟨d.1,?_,fun _=>⟨t,List.mem_of_getElem? a,rfl⟩⟩;dsimp only;rw[d.2,u.2,ah.b1];exact c.2
    ·exact⟨c.1,c.2,fun _=>⟨t,List.mem_of_getElem? a,rfl⟩⟩
theorem Bi{S:ah}(h:∀x∈S.l,P x)(now:Int):(∀x∈(S.pop now).2.2.l,P x)/\(S.pop now).2.2.l.length<=S.l.length/\((S.pop now).2.1=true->∃x∈S.l,(S.pop now).1=x.bS):=by
 unfold ah.pop;split
 ·rename_i b;exact⟨fun x a=>h x a,Nat.le_refl _,fun e=>by cases e⟩
 ·split
  ·exact⟨fun x a=>h x a,Nat.le_refl _,fun e=>by cases e⟩
  ·exact rZ h _
end
structure fJ(N:Nat)(S:aN):Prop where
 wf:S.heap.WF
 len:S.heap.l.length<=N
 bS:∀t∈S.heap.l,aH t.bS
 now:aH S.now
theorem fJ.more{N N':Nat}{S:aN}(h:fJ N S)(a:N<=N'):fJ N' S:=⟨h.wf,Nat.le_trans h.len a,h.bS,h.now⟩
theorem fJ.ok{N:Nat}{S:aN}(h:fJ N S)(a:N<=900000):S.Ok:=⟨h.wf,Nat.le_trans h.len a⟩
theorem fJ.bl{N:Nat}{S:aN}(h:fJ N S)(id:Int):fJ N (S.bl id).2:=by
 unfold aN.bl;split
 ·exact h
 ·rename_i x _
  have:=rZ h.bS x.1;exact⟨h.wf.drop _,Nat.le_trans this.2.1 h.len,this.1,h.now⟩
theorem fJ.arm{N:Nat}{S:aN}(h:fJ N S)(id dl:Int)(hid:aH id):fJ (N+1) (S.arm id dl).2:=by
 unfold aN.arm;split
 ·exact h.more (Nat.le_succ _)
 ·split
  ·exact h.more (Nat.le_succ _)
  ·split
   ·have:=Bg h.bS dl id (fun _=>hid)
    exact⟨h.wf.put _ _,by rw[this.2];have:=h.len;omega,this.1,h.now⟩
   ·exact h.more (Nat.le_succ _)
theorem pb{N:Nat}:∀(f:Nat) (S:aN) (acc:List Int),fJ N S->(∀x∈acc,aH x)->fJ N (ed f S acc).1/\(∀x∈(ed f S acc).2,aH x)/\(ed f S acc).2.length<=acc.length+f
 |0,S,acc,h,a=>⟨h,a,Nat.le_refl _⟩
 |f+1,S,acc,h,a=>by
  unfold ed;split
  ·rename_i d
   have p:=Bi h.bS S.now;have g:aH (S.heap.pop S.now).1:=(by obtain⟨x,c,e⟩:=p.2.2 d;rw[e];exact h.bS x c);have:=pb (N:=N) f {S with heap:=(S.heap.pop S.now).2.2,ff:=fk S.ff (S.heap.pop S.now).1} (acc++[(S.heap.pop S.now).1]) ⟨h.wf.pop _,Nat.le_trans p.2.1 h.len,p.1,h.now⟩ (fun x c=>by
    rcases List.mem_append.1 c with b|b
    ·exact a x b
    ·rw[List.mem_singleton.1 b];exact g)
   refine⟨this.1,this.2.1,Nat.le_trans this.2.2 ?_⟩;rw[List.length_append,List.length_singleton];omega
  ·exact⟨h,a,by show acc.length<=acc.length+(f+1);omega⟩
theorem fJ.tick{N:Nat}{S:aN}(h:fJ N S):fJ N S.tick.1/\(∀x∈S.tick.2,aH x)/\S.tick.2.length<=N+1:=by
 unfold aN.tick;have:=pb (N:=N) (S.heap.l.length+1) {S with now:=IntKind.u64.wrap (S.now+1)} [] ⟨h.wf,h.len,h.bS,cj _⟩ (fun x a=>by cases a);refine⟨this.1,this.2.1,Nat.le_trans this.2.2 ?_⟩;have:=h.len
 simp;omega
structure bX(M:aF):Prop where
 u:∀x∈M.cells,aH x
 oP:M.cells.length<=65536
theorem bX.set{M:aF}(h:bX M)(i:Nat)(v:Int)(b:aH v):bX {M with cells:=M.cells.set i v}:=
 ⟨fun x c=>by
  rcases List.mem_or_eq_of_mem_set (show x∈M.cells.set i v from c)with a|rfl
  ·exact h.u x a
  ·exact b,by show(M.cells.set i v).length<=65536;rw[List.length_set];exact h.oP⟩
theorem bX.get{M:aF}(h:bX M)(i:Nat):aH (M.cells.getD i 0):=by
 rw[List.getD_eq_getElem?_getD];cases a:M.cells[i]? with
 |none=>exact bx
 |some x=>exact h.u x (List.mem_of_getElem? a)
theorem bX.acc{M:aF}(h:bX M)(kind a c v:Int)(b:aH v):bX (M.acc kind a c v).2/\∀x,(M.acc kind a c v).1=some x->aH x:=by
 unfold aF.acc;dsimp only;have g:∀x,some (M.cells.getD a.toNat 0)=some x->aH x:=fun x e=>by rw[<-Option.some.inj e];exact h.get _
 split
 ·exact⟨h,fun x e=>by cases e⟩
 ·split
  ·exact⟨h.set _ _ (mD _ _ _),g⟩
  ·split
   ·split
    ·exact⟨h.set _ _ (hX _ _ b),g⟩
    ·exact⟨h,g⟩
   ·split
    ·exact⟨h.set _ _ (hX _ _ b),g⟩
    ·exact⟨h,g⟩
theorem r0{P:Int->Prop}{l:List Int}(h:∀x∈l,P x)(a:Nat){v:Int}(b:P v):∀k,∀x∈au l a v k,P x
 |0=>h
 |k+1=>fun x d=>by
  rcases List.mem_or_eq_of_mem_set (show x∈(au l a v k).set (a+k) v from d)with c|rfl
  ·exact r0 h a b k x c
  ·exact b
theorem bX.laid{M:aF}(h:bX M)(a n:Nat)(wd:Int):bX (M.laid a n wd):=
 ⟨r0 h.u a bx n,by show(au M.cells a 0 n).length<=65536;rw[dj];exact h.oP⟩
theorem bX.map{M:aF}(h:bX M)(a n:Nat)(wd:Int):bX (M.map a n wd).2:=by
 unfold aF.map;split
 ·exact h.laid _ _ _
 ·exact h
theorem bX.fX{M:aF}(h:bX M)(a n:Nat):bX (M.fX a n).2:=by
 unfold aF.fX;split
 ·exact h.laid _ _ _
 ·exact h
structure iX(N:Nat)(S:aZ):Prop where
 from_:S.from_<=70000
 xK:S.xK<=70000
 l:∀x∈S.l,x.at_+x.n<=65536
 len:S.l.length<=N
theorem iX.more{N N':Nat}{S:aZ}(h:iX N S)(a:N<=N'):iX N' S:=⟨h.from_,h.xK,h.l,Nat.le_trans h.len a⟩
theorem iX.ok{N:Nat}{S:aZ}(h:iX N S)(a:N<=900000):S.Ok:=⟨h.from_,h.xK,fun x b=>by have:=h.l x b;omega,Nat.le_trans h.len a⟩
theorem mJ{N:Nat}{S:aZ}{M:aF}(h:iX N S)(c:bX M)(n:Nat):iX (N+1) (c' S M n).2.1/\bX (c' S M n).2.2/\∀a,(c' S M n).1=some a->aH (a:Int):=by
 unfold c';split
 ·exact⟨h.more (Nat.le_succ _),c,fun a e=>by cases e⟩
 ·split
  ·exact⟨h.more (Nat.le_succ _),c,fun a e=>by cases e⟩
  ·rename_i i g
   split
   ·rename_i d
    have j:S.ee i+n<=M.cells.length:=by
     unfold aF.map at d;split at d
     ·rename_i f;exact(jq f.2).1
     ·cases d
    have hb:=c.oP;refine⟨⟨h.from_,h.xK,fun x b=> ?_,?_⟩,c.map _ _ _,fun a e=> ?_⟩
    ·rcases List.mem_append.1 b with b|b
     ·rcases List.mem_append.1 b with b|b
      ·exact h.l x (List.mem_of_mem_take b)
      ·rw[List.mem_singleton.1 b];show S.ee i+n<=65536;omega
     ·exact h.l x (List.mem_of_mem_drop b)
    ·have:=h.len
     simp only[List.length_append,List.length_take,List.length_drop,List.length_singleton];omega
    ·have:S.ee i=a:=Option.some.inj e
     exact⟨by omega,by omega⟩
   ·exact⟨h.more (Nat.le_succ _),c,fun a e=>by cases e⟩
theorem Bj{N:Nat}{S:aZ}{M:aF}(h:iX N S)(b:bX M)(a:Int):iX N (mr S M a).2.1/\bX (mr S M a).2.2:=by
 unfold mr;split
 ·exact⟨h,b⟩
 ·split
  ·exact⟨h,b⟩
  ·refine⟨⟨h.from_,h.xK,fun x c=>h.l x (List.mem_of_mem_eraseIdx c),?_⟩,b.fX _ _⟩
   exact Nat.le_trans (List.length_eraseIdx_le _ _) h.len
def hO(l:List bC):Prop:=∀r∈l,aH r.addr
theorem hO.set{l:List bC}(h:hO l)(p:Nat)(r:bC)(b:aH r.addr):hO (l.set p r):=fun x c=>by
 rcases List.mem_or_eq_of_mem_set c with a|rfl
 ·exact h x a
 ·exact b
theorem hO.find{l:List bC}(h:hO l)(a k:Int):∀x,ga l a k=some x->aH x:=fun x b=>by
 unfold ga at b;split at b
 ·cases b
 ·split at b
  ·cases b
  ·rename_i r c
   split at b
   ·cases b
   ·rw[<-Option.some.inj b];exact h r (List.mem_of_getElem? c)
theorem hO.make{l:List bC}(h:hO l)(k a:Int)(b:aH a):hO (fH l k a).2/\∀x,(fH l k a).1=some x->aH x:=by
 unfold fH;split
 ·exact⟨h,fun x e=>by cases e⟩
 ·split
  ·exact⟨h,fun x e=>by cases e⟩
  ·split
   ·exact⟨h,fun x e=>by cases e⟩
   ·exact⟨h.set _ _ b,fun x e=>by rw[<-Option.some.inj e];exact cj _⟩
theorem hO.gone{l:List bC}(h:hO l)(a:Int):hO (iC l a).2:=by
 unfold iC;split
 ·exact h
 ·split
  ·exact h
  ·exact h.set _ _ bx
structure Inv(N M:Nat)(K:KS):Prop where
 core:Core N K.table K.ai K.wk K.ring
 nd:f' K.ai
 q:oH N K.q
 bW:fJ N K.clock
 bB:iX N K.blocks
 mem:bX K.mem
 obj:hO K.cV
 draw:aH K.draw
 w0:1<=K.wk.length
 w1:K.wk.length<=64
 out:K.out.length<=M
theorem Inv.more{N N' M b:Nat}{K:KS}(h:Inv N M K)(a:N<=N')(c:M<=b):Inv N' b K:=⟨h.core.more a,h.nd,h.q.more a,h.bW.more a,h.bB.more a,h.mem,h.obj,h.draw,h.w0,h.w1,Nat.le_trans h.out c⟩
section
variable{N M:Nat}{K:KS}
theorem fx.au{f:cE}(h:fx f)(k:Nat)(x:Int)(a:aH x):fx {f with r:=fO f.r k x}:=⟨fun j hj=>by
 show aH (fO f.r k x j)
 unfold fO;split
 ·exact a
 ·exact h.r j hj,h.back⟩
theorem fx.pc{f:cE}(h:fx f)(p:Int):fx {f with pc:=p}:=⟨h.r,h.back⟩
theorem eX.get{l:List Frame}(h:eX l){k:Nat}{f:Frame}(a:l[k]?=some f):fx f.f:=h.lz f (List.mem_of_getElem? a)
theorem eX.cH{l:List Frame}(h:eX l)(k:Nat)(f:cE)(c:fx f):eX (l.set k {l.getD k default with f:=f}):=by
 refine⟨by rw[List.length_set];exact h.n0,by rw[List.length_set];exact h.n8,fun j g hj=> ?_,fun g d=> ?_⟩
 ·by_cases e:k=j
  ·subst e
   have a:k<l.length:=(by have:=(List.getElem?_eq_some_iff.1 hj).1;simpa using this);rw[List.getElem?_set_self a]at hj;rw[<-Option.some.inj hj];show(l.getD k default).ca=_
   rw[List.getD_eq_getElem?_getD,List.getElem?_eq_getElem a];exact h.ca k _ (List.getElem?_eq_getElem a)
  ·rw[List.getElem?_set_ne e]at hj;exact h.ca j g hj
 ·rcases List.mem_or_eq_of_mem_set d with b|rfl
  ·exact h.lz g b
  ·exact c
theorem eX.take{l:List Frame}(h:eX l)(n:Nat)(c:0<n):eX (l.take n):=by
 refine⟨by rw[List.length_take];have:=h.n0;omega,by rw[List.length_take];have:=h.n8;omega,fun k f a=> ?_,fun f b=>h.lz f (List.mem_of_mem_take b)⟩;rw[List.getElem?_take]at a;split at a
 ·exact h.ca k f a
 ·cases a
theorem eX.push{l:List Frame}(h:eX l)(f:Frame)(j:l.length<8)(c:fx f.f)(hb:f.ca=(l.length%2==1)):eX (l++[f]):=by
 refine⟨by simp,by simp;omega,fun k g a=> ?_,fun g d=> ?_⟩
 ·by_cases e:k<l.length
  ·rw[List.getElem?_append_left e]at a;exact h.ca k g a
  ·have i:k=l.length:=by
    have:=(List.getElem?_eq_some_iff.1 a).1;simp at this;omega
   subst i;rw[List.getElem?_concat_length]at a;rw[<-Option.some.inj a];exact hb
 ·rcases List.mem_append.1 d with b|b
  ·exact h.lz g b
  ·rw[List.mem_singleton.1 b];exact c
theorem Inv.gi(h:Inv N M K){i:Nat}(a:i<K.wk.length):hy (K.W i):=h.core.wk _ (List.mem_of_getElem? (KS.gy a))
theorem Inv.dc(h:Inv N M K){id:Int}{t:Thread}(a:aw K.ai id=some t):nG id t:=(h.core.ai id t a).1
theorem Inv.lz(h:Inv N M K){c:bK}(a:aj K c):fx (K.F c):=by
 cases c with
 |own i=>exact(h.gi a).f
 |ai id k=>
  obtain⟨t,d,b⟩:=a;show fx ((K.T id).l.getD k default).f
  rw[KS.df d,List.getD_eq_getElem?_getD,List.getElem?_eq_getElem b];exact(h.dc d).l.get (List.getElem?_eq_getElem b)
theorem Inv.oD(h:Inv N M K){c:bK}(a:aj K c){x:Int}(b:0<=x/\x<32):aH ((K.F c).r x.toNat):=(h.lz a).r _ (by omega)
theorem Inv.b9(h:Inv N M K){id:Int}{t a:Thread}(c:aw K.ai id=some t)(b:nG id a):Inv N M (K.b9 id a):=
 ⟨h.core.b9 c b,h.nd.put _ _,h.q,h.bW,h.bB,h.mem,h.obj,h.draw,h.w0,h.w1,h.out⟩
theorem Inv.be(h:Inv N M K){i:Nat}(b:i<K.wk.length){y:ak}(c:y.slot=(K.W i).slot)(a:y.hand=(K.W i).hand)(d:hy y):Inv N M (K.be i y):=
 ⟨h.core.be (KS.gy b) c a d,h.nd,h.q,h.bW,h.bB,h.mem,h.obj,h.draw,by show 1<=(K.wk.set i y).length;rw[List.length_set];exact h.w0,by show(K.wk.set i y).length<=64;rw[List.length_set];exact h.w1,h.out⟩
theorem Inv.cH(h:Inv N M K){c:bK}(a:aj K c){f:cE}(d:fx f):Inv N M (K.cH c f):=by
 cases c with
 |own i=>exact h.be a rfl rfl ⟨d,(h.gi a).l0,(h.gi a).l1⟩
 |ai id k=>
  obtain⟨t,b,e⟩:=a;have:=h.dc b;refine h.b9 b ?_;rw[KS.df b];exact⟨this.id,this.eM,this.l.cH k f d⟩
theorem Inv.au(h:Inv N M K){c:bK}(a:aj K c)(k:Nat)(x:Int)(b:aH x):Inv N M (K.au c k x):=h.cH a ((h.lz a).au k x b)
theorem Inv.tell(h:Inv N M K)(e:Ev):Inv N (M+1) (tell K e):=
 ⟨h.core,h.nd,h.q,h.bW,h.bB,h.mem,h.obj,h.draw,h.w0,h.w1,by show(K.out++[_]).length<=M+1;rw[List.length_append];have:=h.out;simp;omega⟩
theorem Inv.qj(h:Inv N M K){S:aF}(a:bX S):Inv N M {K with mem:=S}:=⟨h.core,h.nd,h.q,h.bW,h.bB,a,h.obj,h.draw,h.w0,h.w1,h.out⟩
theorem Inv.jZ(h:Inv N M K){q:List (List hx)}(a:oH N q):Inv N M {K with q:=q}:=⟨h.core,h.nd,a,h.bW,h.bB,h.mem,h.obj,h.draw,h.w0,h.w1,h.out⟩
theorem Inv.pY(h:Inv N M K){S:aN}(a:fJ N S):Inv N M {K with clock:=S}:=⟨h.core,h.nd,h.q,a,h.bB,h.mem,h.obj,h.draw,h.w0,h.w1,h.out⟩
theorem Inv.setObj(h:Inv N M K){l:List bC}(a:hO l):Inv N M {K with cV:=l}:=⟨h.core,h.nd,h.q,h.bW,h.bB,h.mem,a,h.draw,h.w0,h.w1,h.out⟩
theorem Inv.tG(h:Inv N M K){a:aZ}{S:aF}(b:iX N a)(c:bX S):Inv N M {K with blocks:=a,mem:=S}:=⟨h.core,h.nd,h.q,h.bW,b,c,h.obj,h.draw,h.w0,h.w1,h.out⟩
theorem Inv.nM(h:Inv N M K){l:List aD}(a:Core N l K.ai K.wk K.ring):Inv N M {K with table:=l}:=⟨a,h.nd,h.q,h.bW,h.bB,h.mem,h.obj,h.draw,h.w0,h.w1,h.out⟩
theorem Inv.iS(h:Inv N M K)(a:Int):Inv N M (iS K a):=by
 have:=Bj h.bB h.mem a;exact h.tG this.1 this.2
theorem Inv.home(h:Inv N M K)(id a:Int):Inv N M (ef K id a):=by
 unfold ef;split
 ·exact h.iS _
 ·exact h
theorem hy.left{x:ak}(h:hy x)(s:Int)(p:Int):hy {x with slot:=s,f:={x.f with pc:=p,back:=[]}}:=⟨⟨h.f.r,by simp⟩,h.l0,h.l1⟩
end
end
section
section
variable{N M:Nat}{K:KS}{C:KC}
theorem y':aH (1:Int):=⟨by decide,by decide⟩
theorem pd{x:Int}(a:0<=x)(b:x<=100000000):aH x:=⟨a,by omega⟩
theorem Inv.CS(h:Inv N M K)(d:N<=900000){id:Int}{t:Thread}(a:aw K.ai id=some t):aH id/\id≠0:=by
 obtain⟨_,_,_,b,c⟩:=h.core.row a;exact⟨pd (by omega) (by omega),by omega⟩
theorem Inv.za(h:Inv N M K)(b:N<=900000){i:Nat}(c:i<K.wk.length):aH (K.W i).hand:=by
 by_cases a:(K.W i).hand=0
 ·rw[a];exact bx
 ·obtain⟨t,d⟩:=h.core.qi (KS.gy c) a
  exact(h.CS b d).1
theorem Inv.D1(h:Inv N M K)(b:N<=900000){id:Int}(c:id∈K.ring):aH id:=by
 by_cases a:id=0
 ·rw[a];exact bx
 ·have:0<nI K.ring id:=List.countP_pos_iff.2 ⟨id,c,by simp⟩
  obtain⟨t,d⟩:=Option.isSome_iff_exists.1 (h.core.rV id a (by unfold ea;omega)).1;exact(h.CS b d).1
theorem Inv.D2(h:Inv N M K)(a:N<=900000):aH (gG K.ring).1:=by
 cases b:K.ring with
 |nil=>exact bx
 |cons x l=>exact h.D1 a (by rw[b];exact List.mem_cons_self)
theorem j0(h:Inv N M K):bX (K.mem.acc 3 0 0 1).2:=(h.mem.acc 3 0 0 1 y').1
theorem Inv.toRing(h:Inv N M K){id:Int}{t:Thread}(a:aw K.ai id=some t)(b:ea K.wk K.ring id=0):Inv N M (cc K id):=
 ⟨h.core.toRing a b,h.nd,h.q,h.bW,h.bB,j0 h,h.obj,h.draw,h.w0,h.w1,h.out⟩
theorem hy.iY{x:ak}(h:hy x)(v:Int):hy {x with hand:=v}:=⟨h.f,h.l0,h.l1⟩
theorem Inv.nJ(h:Inv N M K){i:Nat}(a:i<K.wk.length)(b:(K.W i).hand≠0):Inv N M ((cc K (K.W i).hand).be i {(cc K (K.W i).hand).W i with hand:=0}):=
 ⟨h.core.nJ (KS.gy a) b ((h.gi a).iY 0) rfl rfl,h.nd,h.q,h.bW,h.bB,j0 h,h.obj,h.draw,by show 1<=(K.wk.set i _).length;rw[List.length_set];exact h.w0,by show(K.wk.set i _).length<=64;rw[List.length_set];exact h.w1,h.out⟩
theorem Inv.D3(h:Inv N M K){i:Nat}(b:i<K.wk.length){id:Int}{t:Thread}(c:aw K.ai id=some t)(d:ea K.wk K.ring id=0):Inv N M (eg K i id):=by
 unfold eg;split
 ·exact h.toRing c d
 ·rename_i a
  have a:(K.W i).hand=0:=Classical.not_not.1 a;exact⟨h.core.CR c d (KS.gy b) a ((h.gi b).iY id) rfl rfl,h.nd,h.q,h.bW,h.bB,h.mem,h.obj,h.draw,by show 1<=(K.wk.set i _).length;rw[List.length_set];exact h.w0,by show(K.wk.set i _).length<=64;rw[List.length_set];exact h.w1,h.out⟩
theorem Inv.take(h:Inv N M K){i:Nat}(b:i<K.wk.length)(id:Int):Inv N M (eB K i id):=by
 unfold eB;split
 ·exact h
 ·rename_i a
  split
  ·exact h
  ·rename_i c
   split
   ·exact h
   ·rename_i d
    have f:(K.W i).hand=0:=(Classical.not_not.1 fun e=>a (Or.inl e));have g:st K.table id=1:=(by rw[<-lA];exact Classical.not_not.1 fun e=>a (Or.inr e));have j:∀x∈K.wk,x.hand≠id:=(fun x m e=>c (List.any_eq_true.2 ⟨x,m,by simp[e]⟩));have k:id∉K.ring:=(fun l=>d (List.any_eq_true.2 ⟨id,l,by simp⟩));exact⟨h.core.take g j k (KS.gy b) f ((h.gi b).iY id) rfl rfl,h.nd,h.q,h.bW,h.bB,h.mem,h.obj,h.draw,by show 1<=(K.wk.set i _).length;rw[List.length_set];exact h.w0,by show(K.wk.set i _).length<=64;rw[List.length_set];exact h.w1,h.out⟩
theorem Core.qk{tb:List aD}{ai:List (Int×Thread)}{wk:List ak}{ring:List Int}(c:Core N tb ai wk ring){i:Nat}{x y:ak}(h:wk[i]?=some x)(n:hy y)(m:y.slot=x.slot)(k:y.hand=0):Core N tb ai (wk.set i y) ring:=by
 have f:=fun j=>eQ (y:=y) h j
 have g:=fun j=>eR (y:=y) h j
 simp only[il,m,k]at f g;have e:∀j,j≠0->ea (wk.set i y) ring j<=ea wk ring j:=fun j hj=>by
  have a:=f j;have b:=g j;rw[if_neg (Ne.symm hj)]at b;unfold ea;omega
 exact⟨c.tab,c.al,c.ai,fun id d=>by have:=e id d;have:=c.one id d;omega,fun id d l=>c.rV id d (by have:=e id d;omega),fun id d l=>c.slt id d (by have:=f id;omega),hA c.wk n⟩
theorem Inv.qk(h:Inv N M K){i:Nat}(a:i<K.wk.length):Inv N M (K.be i {K.W i with hand:=0}):=
 ⟨h.core.qk (KS.gy a) ((h.gi a).iY 0) rfl rfl,h.nd,h.q,h.bW,h.bB,h.mem,h.obj,h.draw,by show 1<=(K.wk.set i _).length;rw[List.length_set];exact h.w0,by show(K.wk.set i _).length<=64;rw[List.length_set];exact h.w1,h.out⟩
theorem Inv.born(h:Inv N M K)(B:N<=900000)(place a:Int)(v:aH a):Inv (N+1) M (bF K place a).2/\aH (bF K place a).1/\
 ((bF K place a).1≠0->∃t,aw (bF K place a).2.ai (bF K place a).1=some t/\ea (bF K place a).2.wk (bF K place a).2.ring (bF K place a).1=0):=by
 unfold bF;have c:=mJ h.bB h.mem 1;cases u:c' K.blocks K.mem 1 with
 |mk w p=>
  obtain⟨b,m⟩:=p;rw[u]at c;have g:Inv (N+1) M {K with blocks:=b,mem:=m}:=(h.more (Nat.le_succ _) (Nat.le_refl _)).tG c.1 c.2.1;cases w with
  |none=>exact⟨g,bx,fun e=>absurd rfl e⟩
  |some d=>
   dsimp only;cases hb:db K.table d with
   |mk x t2=>
    cases x with
    |none=>
     dsimp only;have o:t2=K.table:=by
      unfold db at hb;split at hb
      ·injection hb with _ e;exact e.symm
      ·split at hb
       ·injection hb with _ e;exact e.symm
       ·injection hb with e;cases e
     subst o;exact⟨(show Inv (N+1) M ({K with blocks:=b,mem:=m}:KS)from g).iS _,bx,fun e=>absurd rfl e⟩
    |some id=>
     dsimp only;have q:nG id ⟨id,[⟨⟨place,fun j=>if j=0 then a else 0,[]⟩,false,0⟩],0⟩:=⟨rfl,bx,by simp,by simp,fun k f i=>by
      have s:k=0:=(by have:=(List.getElem?_eq_some_iff.1 i).1;simpa using this);subst s;rw[<-Option.some.inj i];rfl,fun f r=>by
      rw[List.mem_singleton.1 r];exact⟨fun k _=>by
       show aH (if k=0 then a else 0)
       split
       ·exact v
       ·exact bx,by simp⟩⟩
     obtain⟨y,l,n,z,A,_⟩:=h.core.born (by omega) d (c.2.2 d rfl) hb q;refine⟨⟨l,h.nd.put _ _,h.q.more (Nat.le_succ _),h.bW.more (Nat.le_succ _),c.1,c.2.1,h.obj,h.draw,h.w0,h.w1,h.out⟩,pd (by omega) (by omega),fun _=>⟨_,by show aw (b8 K.ai id _) id=_;rw[aT,if_pos rfl],n⟩⟩
theorem Inv.jA(h:Inv N M K){id:Int}(v:Int)(c:aH v):Inv N M (iz K id v):=by
 unfold iz;split
 ·rename_i b
  obtain⟨t,a⟩:=Option.isSome_iff_exists.1 b;have:=h.dc a;rw[KS.df a];exact h.b9 a ⟨this.id,c,this.l⟩
 ·exact h
theorem Inv.returned(h:Inv N M K){id:Int}{t:Thread}(b:aw K.ai id=some t)(num:Int){code v:Int}(d:aH code)(i:aH v):Inv N (M+1) (dh K id num code v):=by
 unfold dh;dsimp only;have a:aj K (.ai id (K.top id)):=⟨t,b,by unfold KS.top;rw[KS.df b];have:=(h.dc b).l.n0;omega⟩;have c:=h.au a 0 code d;have g:∀n,(K.au (.ai id n) 0 code).top id=K.top id:=fun n=>by
  unfold KS.top
  congr 1
  have:aw (K.au (.ai id n) 0 code).ai id=some {K.T id with l:=(K.T id).l.set n {(K.T id).l.getD n default with f:={K.F (.ai id n)with r:=fO (K.F (.ai id n)).r 0 code}}}:=by
   show aw (b8 K.ai id _) id=_
   rw[aT,if_pos rfl]
  rw[KS.df this,List.length_set]
 have e:aj (K.au (.ai id (K.top id)) 0 code) (.ai id (K.top id)):=a.gr (bs a _) (bm _ _);rw[g];exact(c.au e 1 v i).tell _
structure iI(x:aV):Prop where
 a:x.a.toNat<32
 b:x.b.toNat<32
 c:x.c.toNat<32
 v:aH x.v
theorem qo(h:Inv N M K){i:Nat}(g:i<K.wk.length){c:bK}(e:aj K c){x:aV}(j:iI x):Inv N M (bb K i c x).2:=by
 have f:=h.lz e;have k:=f.r _ j.a;have m:=f.r _ j.c;unfold bb;dsimp only;split
 ·have a:=h.qj (h.mem.acc 1 (du (K.F c).r x) 0 _ k).1
  split
  ·exact a
  ·exact a.qk g
 ·have b:=h.mem.acc 4 (du (K.F c).r x) ((K.F c).r x.a.toNat) _ m
  have a:=h.qj b.1;split
  ·exact a
  ·rename_i held n
   have l:aj ({K with mem:=(K.mem.acc 4 (du (K.F c).r x) ((K.F c).r x.a.toNat) ((K.F c).r x.c.toNat)).2}:KS) c:=(by cases c<;>exact e);have d:=a.au l x.a.toNat held (b.2 held n);split
   ·exact d.take (Nat.lt_of_lt_of_eq (show i<({K with mem:=(K.mem.acc 4 (du (K.F c).r x) ((K.F c).r x.a.toNat) ((K.F c).r x.c.toNat)).2}:KS).wk.length from g) (bm _ _).symm) _
   ·exact d
theorem wW(h:Inv N M K)(m:N<=900000){i:Nat}(d:i<K.wk.length){c:bK}(f:aj K c){x:aV}(o:iI x):Inv N M (bU K i c x):=by
 unfold bU;dsimp only;split
 ·exact h.take d _
 split
 ·split
  ·rename_i b;exact h.nJ d b
  ·exact h
 split
 ·have a:=h.au f x.a.toNat 0 bx
  have hlen:(K.au c x.a.toNat 0).wk.length=K.wk.length:=bm _ _;have g:i<(K.au c x.a.toNat 0).wk.length:=by rw[hlen];exact d
  have k:aj (K.au c x.a.toNat 0) c:=f.gr (bs f _) hlen;split
  ·rename_i b
   have n:=a.D2 m;have l:Inv N M (({K.au c x.a.toNat 0 with ring:=(gG (K.au c x.a.toNat 0).ring).2.2}:KS).be i {(({K.au c x.a.toNat 0 with ring:=(gG (K.au c x.a.toNat 0).ring).2.2}:KS).W i)with hand:=(gG (K.au c x.a.toNat 0).ring).1}):=
    ⟨a.core.y7 (KS.gy g) b ((a.gi g).iY _) rfl rfl,a.nd,a.q,a.bW,a.bB,a.mem,a.obj,a.draw,by show 1<=(List.set _ i _).length;rw[List.length_set];exact a.w0,by show(List.set _ i _).length<=64;rw[List.length_set];exact a.w1,a.out⟩
   refine l.au ?_ _ _ ?_
   ·cases c with
    |own j=>show j<(List.set _ i _).length;rw[List.length_set];exact k
    |ai _ _=>exact k
   ·rw[gz (by exact g)];exact n
  ·exact a
 split
 ·split
  ·rename_i b
   have e:((K.be i {K.W i with slot:=(K.W i).hand,hand:=0,left:=24}).W i).slot=(K.W i).hand:=(by rw[gz d]);rw[e];exact⟨h.core.y5 (KS.gy d) b.1 b.2.2 ⟨(h.gi d).f,show(0:Int)<=24 by decide,show(24:Int)<=24 by decide⟩ rfl rfl,h.nd,h.q,h.bW,h.bB,h.mem,h.obj,h.draw,by show 1<=(K.wk.set i _).length;rw[List.length_set];exact h.w0,by show(K.wk.set i _).length<=64;rw[List.length_set];exact h.w1,h.out⟩
  ·exact h
 ·exact h
theorem dn{K':KS}{c:bK}(a:aj K c)(e:K'.ai=K.ai)(hw:K'.wk=K.wk):aj K' c:=by
 cases c with
 |own i=>show i<_;rw[hw];exact a
 |ai id k=>obtain⟨t,b,d⟩:=a;exact⟨t,by rw[e];exact b,d⟩
theorem tH(h:Inv N M K){c:bK}(b:aj K c){x:aV}(j:iI x):Inv (N+1) M (bd K c x):=by
 have g:=h.lz b;have m:=g.r _ j.a;have hb:=g.r _ j.b;have up:∀{K':KS},Inv N M K'->Inv (N+1) M K':=fun h=>h.more (Nat.le_succ _) (Nat.le_refl _)
 unfold bd;dsimp only;split
 ·have d:=h.au b x.a.toNat 0 bx
  have hlen:(K.au c x.a.toNat 0).wk.length=K.wk.length:=bm _ _;have k:aj (K.au c x.a.toNat 0) c:=b.gr (bs b _) hlen;have key:∀n:Int,Inv (N+1) M (if n<=4096 then({K.au c x.a.toNat 0 with blocks:=(c' (K.au c x.a.toNat 0).blocks (K.au c x.a.toNat 0).mem n.toNat).2.1,mem:=(c' (K.au c x.a.toNat 0).blocks (K.au c x.a.toNat 0).mem n.toNat).2.2}:KS).au c x.a.toNat (match(c' (K.au c x.a.toNat 0).blocks (K.au c x.a.toNat 0).mem n.toNat).1 with|some h=>(h:Int)|none=>0)else K.au c x.a.toNat 0):=fun n=>by
   split
   ·have f:=mJ d.bB d.mem n.toNat
    refine((up d).tG f.1 f.2.1).au (dn k rfl rfl) _ _ ?_;split
    ·rename_i a e;exact f.2.2 a e
    ·exact bx
   ·exact up d
  exact key _
 split
 ·split
  ·exact up (h.iS _)
  ·exact up h
 split
 ·split
  ·have i:=h.obj.make x.v ((K.F c).r x.b.toNat) hb
   refine up ((h.setObj i.1).au (dn b rfl rfl) _ _ ?_);cases l:(fH K.cV x.v ((K.F c).r x.b.toNat)).1 with
   |none=>exact bx
   |some y=>exact i.2 y l
  ·exact up (h.au b _ _ bx)
 split
 ·exact up (h.setObj (h.obj.gone _))
 ·exact up h
theorem Inv.fresh(h:Inv N M K)(o:N<=900000):∀d id,(db K.table d).1=some id->aw K.ai id=none:=fun d id hb=>by
 cases k:aw K.ai id with
 |none=>rfl
 |some t=>
  cases a:db K.table d with
  |mk m t2=>
   rw[a]at hb;have hb:m=some id:=hb;subst hb;unfold db at a;cases c:iB K.table 0 with
   |none=>rw[c]at a;cases a
   |some p=>
    obtain⟨_,r,b,l⟩:=nK K.table 0 p c;rw[Nat.sub_zero]at b;rw[c]at a;dsimp only at a;rw[b]at a;dsimp only at a;injection a with f _
    injection f with f
    obtain⟨_,r',j,_⟩:=h.core.ai id t k;have i:=h.core.tab.row p r b;have q:p<64:=(by have:=(List.getElem?_eq_some_iff.1 b).1;rw[h.core.tab.len]at this;exact this);have t0:=i.t0;have t1:=i.t1;have w1:IntKind.u64.wrap (r.times+1)=r.times+1:=(by unfold IntKind.wrap IntKind.bits IntKind.signed;simp;omega);have w2:IntKind.u64.wrap (64*(r.times+1))=64*(r.times+1):=(by unfold IntKind.wrap IntKind.bits IntKind.signed;simp;omega);have n:IntKind.u64.wrap ((p:Int)+64*(r.times+1))=(p:Int)+64*(r.times+1):=(by unfold IntKind.wrap IntKind.bits IntKind.signed;simp;omega);rw[w1,w2,n]at f;have:=(tB j);have e:(id%64).toNat=p:=(by omega);rw[e,b]at this;have g:=this.2.1;rw[<-Option.some.inj this.1,l]at g;cases g
theorem pe{c:bK}(b:aj K c)(id a:Int):aj (ef K id a) c:=dn b (gO K id a) (kB K id a)
theorem tI(h:Inv N M K)(m:N<=900000){i:Nat}(y:i<K.wk.length){c:bK}(a:aj K c){x:aV}(g:iI x):Inv (N+1) M (bu C K i c x):=by
 have f:=h.lz a;have e:=f.r _ g.a;have hb:=f.r _ g.b;have v:=f.r _ g.c;have up:∀{K':KS},Inv N M K'->Inv (N+1) M K':=fun h=>h.more (Nat.le_succ _) (Nat.le_refl _)
 unfold bu;dsimp only;split
 ·split
  ·obtain⟨j,k,p⟩:=h.born m (wrap64 ((K.F c).r x.b.toNat)) ((K.F c).r x.c.toNat) v
   have w:=kC (K:=K) (wrap64 ((K.F c).r x.b.toNat)) ((K.F c).r x.c.toNat) (h.fresh m);have o:(bF K (wrap64 ((K.F c).r x.b.toNat)) ((K.F c).r x.c.toNat)).2.wk=K.wk:=nB _ _;have n:aj (bF K (wrap64 ((K.F c).r x.b.toNat)) ((K.F c).r x.c.toNat)).2 c:=a.gr w (by rw[o]);split
   ·rename_i q
    obtain⟨t,A,B⟩:=p q;have z:i<(bF K (wrap64 ((K.F c).r x.b.toNat)) ((K.F c).r x.c.toNat)).2.wk.length:=(by rw[o];exact y);exact(j.D3 z A B).au (n.gr (dO _ _ _) (fw _ _ _)) _ _ k
   ·exact j.au n _ _ k
  ·exact up (h.au a _ _ bx)
 split
 ·have d:=tE h.core.tab ((K.F c).r x.a.toNat)
  have b:=h.nM (h.core.same d.1 d.2);split
  ·exact up ((b.home _ _).au (pe (K:=({K with table:=(eZ K.table ((K.F c).r x.a.toNat)).2}:KS)) (dn a rfl rfl) _ _) _ _ e)
  ·exact up (b.au (dn a rfl rfl) _ _ e)
 split
 ·have d:=wV h.core.tab ((K.F c).r x.b.toNat)
  have b:=h.nM (h.core.same d.1 d.2.1);split
  ·exact up ((b.home _ _).au (pe (K:=({K with table:=(fs K.table ((K.F c).r x.b.toNat)).2.2.2.2}:KS)) (dn a rfl rfl) _ _) _ _ d.2.2)
  ·exact up (b.au (dn a rfl rfl) _ _ d.2.2)
 split
 ·exact up (h.au a _ _ (cj _))
 split
 ·refine up (h.au a _ _ ?_)
  unfold fq;rcases e' (l:=K.table) (id:=(K.F c).r x.b.toNat)with⟨b,_⟩|⟨r,b,s,u⟩
  ·rw[b];exact bx
  ·rw[b];dsimp only;rw[s];exact(h.core.tab.at u).1.home
 ·exact up (h.au a _ _ e)
theorem zb(h:Inv N M K)(a:N<=900000){i:Nat}(b:i<K.wk.length){id:Int}(hid:aH id)(c:bK)(x:aV):aH (hL C K i id c x):=by
 unfold hL;dsimp only
 repeat' split
 all_goals first|exact cj _|exact h.bW.now|exact hid|exact h.draw|exact h.za a b|exact y'|exact bx
end
theorem nN{n:Int}{used less:Bool}(h:fi n used less=true):(0<=n/\n<32)∨(n=-1/\less=true):=by
 unfold fi at h;split at h
 ·rw[Bool.or_eq_true,Bool.and_eq_true]at h
  rcases h with h|⟨a,b⟩
  ·exact Or.inl (by simpa using h)
  ·exact Or.inr ⟨by simpa using b,a⟩
 ·have:n=0:=by simpa using h
  subst this;exact Or.inl ⟨by decide,by decide⟩
theorem dp{x:aV}{n:Nat}(h:bt x n=true):(0<=x.a/\x.a<32)/\((0<=x.b/\x.b<32)∨(x.b=-1/\m2 x.op=true))/\((0<=x.c/\x.c<32)∨(x.c=-1/\lY x.op=true))/\1<=x.op/\x.op<=58:=by
 obtain⟨y,c,d,e,f,b⟩:=iQ h;unfold ep jN lZ at b;simp only[Bool.and_eq_true]at b;obtain⟨⟨⟨a,_⟩,⟨⟨g,i⟩,j⟩,_⟩,_⟩:=b;have a:1<=y.op/\y.op<=58:=by simpa using a
 rw[<-c,<-d,<-e,<-f];refine⟨?_,nN i,nN j,a⟩;rcases nN g with h|⟨_,h⟩
 ·exact h
 ·cases h
end
section
section
variable{w:World}{χ:Nat->a4}{L:cw}{Y:Var}{C:KC}{K:KS}
theorem Kq{N M:Nat}(p:Inv N M K)(I:N<=800000)(H:M<=800000)(i:Nat)(s:i<K.wk.length)(c:bK)(b a:Nat)(o:aj K c)(r:aP L Y c b a)
 (x:aV) (n:Nat) (F:bt x n=true) (Gf:Ko x.op) (u:aH x.v) (hw:0<=K.w/\K.w<K.wk.length) (B:C.bn.length<=2048) (h:ae w χ L Y C K):
 Calls prog 133 #[.pointer (some ⟨L.mb,0,none⟩),.pointer (some ⟨L.wb,i*38,none⟩),.pointer none,.pointer (some ⟨b,a,none⟩),aI x] w (dG (ay C K i none c x) χ L Y C K w):=by
 obtain⟨q,v,z,_,D⟩:=dp F;obtain⟨op,g,f,d,k,j,l⟩:=x;unfold Ko at Gf;dsimp only at q v z D Gf u;have A:0<=d/\d<32:=z.elim id fun e=>by have:=e.2;unfold lY at this;simp at this;omega
 have y:(op≠31/\op≠32/\op≠43)->0<=f/\f<32:=fun J=>v.elim id fun e=>by have:=e.2;unfold m2 at this;simp at this;omega
 have E:=(mJ p.bB p.mem 1).1;have m:=(p.lz o).r;have G:(op=31∨op=32)∨(op=30∨op=33)∨op=43∨op=48∨(op=42∨op=29∨op=38∨op=39):=by omega
 rcases G with e|e|rfl|rfl|e
 ·refine wy _ _ i c b a op g f d k j l e rfl (fun w h=> ?_) h
  rcases e with rfl|rfl
  ·exact rS i s c b a o r m g f d k j l q u h
  ·exact rT i s c b a o r m g f d k j l q A u (p.mem.acc 4 _ _ _ (m _ (by omega))).2 h
 ·refine wz _ _ i c b a op g f d k j l (by omega) rfl (fun w h=> ?_) h
  rcases e with rfl|rfl
  ·exact yW i s c b a o r m g f d k j l q h
  ·exact yX i s c b a o r m g f d k j l q (p.za (by omega) s) h
 ·refine wA _ _ i c b a 43 g f d k j l (by decide) rfl (fun w h=> ?_) h
  have t:=p.bB.ok (by omega);rcases v with hb|⟨rfl,_⟩
  ·exact tu c b a o r m g f d k j l q hb t h
  ·exact tv c b a o r m g d k j l q u t h
 ·refine wB _ _ i c b a 48 g f d k j l (by decide) rfl (fun w h=> ?_) h
  have t:=p.bB.ok (by omega);have hb:=y (by decide);exact wL i s c b a o r m g f d k j l q hb A B t (E.ok (by omega)) (p.fresh (by omega)) (p.born (by omega) _ _ (m _ (by omega))).2.1 h
 ·have hb:=y (by omega)
  have e:op=23∨op=41∨op=37∨op=40∨op=42∨op=29∨op=38∨op=39∨op=47:=by omega
  exact wN i c b a o r op g f d k j l q e (fun w h=>y2 i s 0 c b a o r m op g f d k j l e hb hw B h) h
end
end
end Go.Proofs.YtlihkblppjgebaaGreatDoor
