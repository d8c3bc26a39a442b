import Derived.Test.YtfnilkpkogipfaaGreatDoorZAw
set_option linter.all false
set_option maxRecDepth 100000
set_option maxHeartbeats 8000000
namespace Go.Proofs.YtfnilkpkogipfaaGreatDoor
open Go.RowKit Go.Proofs.Tryz
section
section
variable{w w':World}{χ:Nat->a4}{L:cw}{Y:Var}{C:KC}{K:KS}
def CO(l:List Int)(χ:Nat->a4)(L:cw)(Y:Var)(C:KC)(K K':KS)(w:World)(e:Ending)(w':World):Prop:=
 ∃u aW Y',e=.returned u/\w'.ownsRow w.heap.size 56 1 u l.length (l.map (Value.int .u64))/\(∀g,u.ownBlock=some g->w.heap.size<=g/\aW g=.no)/\dB χ L Y C K K' w aW Y' w'
theorem CP(d:K.clock.Ok)(h:ae w χ L Y C K):Calls prog 105 #[(L.cb,0)] w (CO K.clock.tick.2 χ L Y C K {K with clock:=K.clock.tick.1} w):=
 (oE L.cb L.ch L.cm L.cq Y.hv K.clock d.len d.wf w (h.bW (by simp)).is).mono fun _ _ ⟨⟨u,e,a⟩,⟨v,c,f⟩,i⟩=>
  ⟨u,_,_,e,a,fun g b=>⟨yK a g b,by
   have j:χ g=.no:=h.fresh (yK a g b);unfold cJ;rw[if_neg (pO a c.heap.own (by decide) b)];exact j⟩,h.yE c f i⟩
def iW(K:KS)(l:List Int):KS:=l.foldl cv K
theorem jY(K:KS)(id:Int):cv K id=(if cx (bV {K with q:=(dy K.q id).2} id 110) id=3 then cc (bV {K with q:=(dy K.q id).2} id 110) id else bV {K with q:=(dy K.q id).2} id 110):=rfl
theorem jy(K:KS)(id v:Int):Gr K (bV K id v):=by
 cases h:aw K.ai id with
 |none=>rw[hk h];exact Gr.refl _
 |some t=>rw[hj h];exact qh h (Nat.le_refl _)
theorem tA(K:KS)(id:Int):Gr K (cv K id):=by
 rw[jY];have h:=(Gr.of_eq (K:=K) (K':={K with q:=(dy K.q id).2}) rfl).trans (jy _ id 110);split
 ·exact h.trans (Gr.of_eq rfl)
 ·exact h
theorem wP(K:KS)(l:List Int):Gr K (iW K l):=by
 induction l generalizing K with
 |nil=>exact Gr.refl _
 |cons x l ih=>exact(tA K x).trans (ih _)
theorem rU(K:KS)(l:List Int)(x:Int):iW K (l++[x])=cv (iW K l) x:=by unfold iW;rw[List.foldl_append];rfl
theorem wQ(cQ:K.clock.Ok)(cb:∀x∈K.clock.tick.2,aH x)(hlen:K.clock.tick.2.length<=900000)(hb:K.out.length<=900000)(h:ae w χ L Y C K):Calls prog 61 #[(L.mb,0)] w (de (.tuple #[]) χ L Y C K (gZ K) w):=by
 have H:=Z h;have cC:=Z (CP cQ h);obtain⟨p,c8⟩:=nm K.clock.tick;rw[c8]at cC cb hlen;have gt:=Z c8;obtain⟨fn,l⟩:=p;dsimp only at cb hlen;have eL:=Z cb;have gr:=Z hb;obtain⟨N,ch⟩:=nm l.length;have bw:=Z ch;rw[ch]at hlen;obtain⟨K1,a0⟩:=mn (({K with clock:=fn}:KS));have ec:=Z a0;obtain⟨S,c4⟩:=mn (tell K1 ⟨6,0,0,0,0,0,0,0,0,K1.clock.now,0⟩);have en:=Z c4;have cq:Hid (Gr K K1):=Z (by rw[a0];exact Gr.of_eq rfl);have dN:Hid (Gr K S):=Z (by rw[c4];exact cq.trans (Gr.of_eq rfl));have ex:Hid (K1.out.length<=900000):=Z (by rw[a0];exact hb);have E:Hid (gZ K=iW S l):=Z (by unfold gZ;dsimp only;rw[c8,c4,a0];rfl);have k0:=h.jH;clear h cQ c8 cb hb ch a0 c4;go_enter func61,ntmps61
 go_wp2_with fail
 refine cC.mono ?_;rintro e w1 ⟨u,hm,hf,rfl,ck,cS,c3⟩;try dsimp only at c3 ck
 rw[<-ec]at c3;have c1:=Z c3;have c0:=Z ck;have cA:=Z cS;rw[bw]at c0;clear c3 ck cS k0;obtain⟨U,V,rfl⟩:=aA c0;have k1:=c1.at_.jH;have et:=Z (CD c1.at_);go_wp2_with fail
 refine et.mono ?_;rintro e w2 ⟨rfl,rfl⟩;go_wp2_with fail
 refine(dz (K:=K1) 6 0 0 0 0 0 0 0 0 K1.clock.now 0 ex c1.at_).mono ?_;rintro e w2 ⟨rfl,dC,eW,W⟩;rw[<-en]at W;have eS:=Z (c1.trans cq W);have eA:Hid (w2.ownsRow w.heap.size 56 1 (.slice U N V) N (l.map (Value.int .u64))):=Z (ar c0 W.nx.ch (fun g a e=>e (cA g a).2));have es:Hid (∀g,(Value.slice U N V).ownBlock=some g->dC g=.no):=Z (fun g a=>(W.nx.same g (cB c0 a)).trans (cA g a).2);clear W k1;go_wp2_with fail
 go_loopg [21] (N+1) (fun gk i wr=>∃k:Nat,k<=N/\gk=N-k+1/\i=.int .i64 k/\Hid (∃aW Y',dB χ L Y C K (iW S (l.take k)) w aW Y' wr/\wr.ownsRow w.heap.size 56 1 (.slice U N V) N (l.map (Value.int .u64))/\∀g,(Value.slice U N V).ownBlock=some g->aW g=.no))
 case atStart=>exact⟨0,by omega,by omega,rfl,dC,eW,eS,eA,es⟩
 case round=>
  obtain⟨k,hi,rfl,rfl,eC⟩:=hrel;obtain⟨go,fb,X,c7,ci⟩:=eC.out;by_cases Q:k<N
  ·obtain⟨cL,fd,hl,dr,fr,gc,fz,cW,_⟩:=aS c7 (by omega)
   obtain⟨rfl,rfl⟩:U=some ⟨cL,0,none⟩/\V=fd:=by simpa using dr
   obtain⟨x,ad⟩:∃x,l[k]?=some x:=⟨_,List.getElem?_eq_getElem (by rw[bw];exact Q)⟩;have he:=Z ad;have P:Hid (aH x):=Z (eL x (List.mem_of_getElem? ad));have c2:wr.cell? (cL,k)=some (.int .u64 x):=cW.cell (by rw[List.getElem?_append_left (by rw[List.length_map,bw];exact Q),List.getElem?_map,ad];rfl);obtain⟨ce,a1⟩:=nm (iW S (l.take k));rw[a1]at X;have gs:=Z a1;have R:Hid (Gr K ce):=Z (by rw[<-a1];exact dN.trans (wP _ _));have y:=Z X;have B:=Z c7;have A:=Z ci;obtain⟨T,c5⟩:=mn (({ce with q:=(dy ce.q x).2}:KS));have bi:=Z c5;have cd:Hid (Gr K T):=Z (by rw[c5];exact R.trans (Gr.of_eq rfl));obtain⟨n,c6⟩:=mn (bV T x 110);have bv:=Z c6;have cs:Hid (Gr K n):=Z (by rw[c6];exact cd.trans (jy _ _ _));have av:Hid (iW S (l.take (k+1))=if cx n x=3 then cc n x else n):=Z (by rw[List.take_add_one,ad,show(some x).toList=[x]from rfl,rU,a1,jY,<-c5,<-c6]);clear X c7 ci ad cW dr fr gc fz a1 c5 c6;have k3:=y.at_.xM;cases c9:aw T.ai x with
   |none=>
    have j:=Z c9;clear c9;by_cases f:cx n x=3
    ·have s:=Z f
     clear f;go_wp2_with fail
     refine(ns x y.at_).mono ?_;rintro e w4 ⟨rfl,ap,J,c⟩;rw[<-bi]at c;have b:=Z (y.trans R c);have D:=Z c.nx;clear c k3 c2;have O:=b.at_.iG;have d:=b.at_.look x;rw[j]at d;dsimp only[Option.map,Option.getD]at d;go_wp2_with fail
     clear d O;have o:=b;rw[<-hk (K:=T) j 110,<-bv]at o;have F:=D;refine(cZ (K:=n) x P o.at_).mono ?_;rintro e cl ⟨rfl,m⟩;have z:=Z (o.af m);have G:=Z (F.trans (Nx.af m));clear m;have f:=s.out;rw[f];go_wp2_with fail
     refine(e9 (K:=n) x P z.at_).mono ?_;rintro e gf ⟨rfl,cm,cf,M⟩;have I:=Z (z.trans cs M);have v:=Z (G.trans M.nx);clear M f;go_wp2_with fail
     go_roundg (N-(k+1)+1)
     case measure=>omega
     case rel=>
      refine⟨k+1,Q,rfl,by congr 1,cm,cf,?_,ar B v.ch (fun g a e=>e (A g a)),fun g a=>(v.same g (cB B a)).trans (A g a)⟩;rw[av,if_pos s.out];exact I
    ·have s:=Z f
     clear f;go_wp2_with fail
     refine(ns x y.at_).mono ?_;rintro e w4 ⟨rfl,ap,J,c⟩;rw[<-bi]at c;have b:=Z (y.trans R c);have D:=Z c.nx;clear c k3 c2;have O:=b.at_.iG;have d:=b.at_.look x;rw[j]at d;dsimp only[Option.map,Option.getD]at d;go_wp2_with fail
     clear d O;have o:=b;rw[<-hk (K:=T) j 110,<-bv]at o;have F:=D;refine(cZ (K:=n) x P o.at_).mono ?_;rintro e cl ⟨rfl,m⟩;have z:=Z (o.af m);have G:=Z (F.trans (Nx.af m));clear m;have f:=s.out;obtain⟨st,a2⟩:=nm (cx n x);rw[a2]at f⊢;clear a2;go_wp2_with fail
     have I:=z;have v:=G;go_roundg (N-(k+1)+1)
     case measure=>omega
     case rel=>
      refine⟨k+1,Q,rfl,by congr 1,ap,J,?_,ar B v.ch (fun g a e=>e (A g a)),fun g a=>(v.same g (cB B a)).trans (A g a)⟩;rw[av,if_neg s.out];exact I
   |some t=>
    have j:=Z c9;clear c9;by_cases f:cx n x=3
    ·have s:=Z f
     clear f;go_wp2_with fail
     refine(ns x y.at_).mono ?_;rintro e w4 ⟨rfl,ap,J,c⟩;rw[<-bi]at c;have b:=Z (y.trans R c);have D:=Z c.nx;clear c k3 c2;have O:=b.at_.iG;have d:=b.at_.look x;rw[j]at d;dsimp only[Option.map,Option.getD]at d;unfold bf at d;have al:=b.at_.DT (id:=x) (t:=t) j;have am:=b.at_.rz (id:=x) (t:=t) j 2;have r:=Z (b.at_.g2 (id:=x) (t:=t) j 110);obtain⟨tb,a3⟩:=nm (J.bB x);rw[a3]at d al am r;clear a3;go_wp2_with fail
     obtain⟨ge,ab⟩:=nm (w4.setCell (tb,2) (.int .u64 110));rw[ab]at r⊢;clear ab al am d O;rw[<-hj j,<-bv]at r;have o:=Z (b.trans cd r);have F:=Z (D.trans r.nx);clear r;refine(cZ (K:=n) x P o.at_).mono ?_;rintro e cl ⟨rfl,m⟩;have z:=Z (o.af m);have G:=Z (F.trans (Nx.af m));clear m;have f:=s.out;rw[f];go_wp2_with fail
     refine(e9 (K:=n) x P z.at_).mono ?_;rintro e gf ⟨rfl,cm,cf,M⟩;have I:=Z (z.trans cs M);have v:=Z (G.trans M.nx);clear M f;go_wp2_with fail
     go_roundg (N-(k+1)+1)
     case measure=>omega
     case rel=>
      refine⟨k+1,Q,rfl,by congr 1,cm,cf,?_,ar B v.ch (fun g a e=>e (A g a)),fun g a=>(v.same g (cB B a)).trans (A g a)⟩;rw[av,if_pos s.out];exact I
    ·have s:=Z f
     clear f;go_wp2_with fail
     refine(ns x y.at_).mono ?_;rintro e w4 ⟨rfl,ap,J,c⟩;rw[<-bi]at c;have b:=Z (y.trans R c);have D:=Z c.nx;clear c k3 c2;have O:=b.at_.iG;have d:=b.at_.look x;rw[j]at d;dsimp only[Option.map,Option.getD]at d;unfold bf at d;have al:=b.at_.DT (id:=x) (t:=t) j;have am:=b.at_.rz (id:=x) (t:=t) j 2;have r:=Z (b.at_.g2 (id:=x) (t:=t) j 110);obtain⟨tb,a3⟩:=nm (J.bB x);rw[a3]at d al am r;clear a3;go_wp2_with fail
     obtain⟨ge,ab⟩:=nm (w4.setCell (tb,2) (.int .u64 110));rw[ab]at r⊢;clear ab al am d O;rw[<-hj j,<-bv]at r;have o:=Z (b.trans cd r);have F:=Z (D.trans r.nx);clear r;refine(cZ (K:=n) x P o.at_).mono ?_;rintro e cl ⟨rfl,m⟩;have z:=Z (o.af m);have G:=Z (F.trans (Nx.af m));clear m;have f:=s.out;obtain⟨st,a2⟩:=nm (cx n x);rw[a2]at f⊢;clear a2;go_wp2_with fail
     have I:=z;have v:=G;go_roundg (N-(k+1)+1)
     case measure=>omega
     case rel=>
      refine⟨k+1,Q,rfl,by congr 1,ap,J,?_,ar B v.ch (fun g a e=>e (A g a)),fun g a=>(v.same g (cB B a)).trans (A g a)⟩;rw[av,if_neg s.out];exact I
  ·obtain rfl:k=N:=by omega
   have y:=Z X;clear X c7 ci;go_wp2_with fail
   go_end0
   rw[E];have:l.take k=l:=List.take_of_length_le (by rw[bw];exact Nat.le_refl _);rw[<-this];exact⟨rfl,go,fb,y⟩
end
end
section
structure fx(f:cE):Prop where
 r:∀k,k<32->aH (f.r k)
 back:f.back.length<=8
structure eX(l:List Frame):Prop where
 n0:0<l.length
 n8:l.length<=8
 ca:∀k f,l[k]?=some f->f.ca=(k%2==1)
 lz:∀f∈l,fx f.f
structure nG(id:Int)(t:Thread):Prop where
 id:t.id=id
 eM:aH t.eM
 l:eX t.l
structure hy(x:ak):Prop where
 f:fx x.f
 l0:0<=x.left
 l1:x.left<=24
def ew(l:List aD)(id:Int):Option aD:=match l[(id%64).toNat]? with|none=>none|some r=>if r.taken&&r.t.id==id then some r else none
def st(l:List aD)(id:Int):Int:=match ew l id with|none=>0|some r=>r.t.state
theorem e'{l:List aD}{id:Int}:(dS l id=none/\ew l id=none)∨∃r,dS l id=some (id%64).toNat/\l[(id%64).toNat]?=some r/\ew l id=some r:=by
 unfold dS ew;cases h:l[(id%64).toNat]? with
 |none=>exact Or.inl ⟨rfl,rfl⟩
 |some r=>
  dsimp only;by_cases a:(r.taken&&r.t.id==id)=true
  ·rw[if_pos a,if_pos a];exact Or.inr ⟨r,rfl,rfl,rfl⟩
  ·rw[if_neg a,if_neg a];exact Or.inl ⟨rfl,rfl⟩
theorem tB{l:List aD}{id:Int}{r:aD}(h:ew l id=some r):l[(id%64).toNat]?=some r/\r.taken=true/\r.t.id=id:=by
 unfold ew at h;split at h
 ·cases h
 ·rename_i r' b
  split at h
  ·rename_i a
   rw[Bool.and_eq_true,beq_iff_eq]at a;have:r'=r:=Option.some.inj h;subst this;exact⟨b,a.1,a.2⟩
  ·cases h
theorem mI{l:List aD}{p:Nat}(a:p<l.length)(r':aD)(id:Int):ew (l.set p r') id=if(id%64).toNat=p then(if r'.taken&&r'.t.id==id then some r' else none)else ew l id:=by
 unfold ew;by_cases e:(id%64).toNat=p
 ·rw[if_pos e,e,List.getElem?_set_self a]
 ·rw[if_neg e,List.getElem?_set_ne (fun h=>e h.symm)]
theorem Ba{l:List aD}{id:Int}{r:aD}(h:ew l id=some r)(r':aD)(b:r'.taken=true->r'.t.id=id):
 (∀j,j≠id->ew (l.set (id%64).toNat r') j=ew l j)/\ew (l.set (id%64).toNat r') id=if r'.taken then some r' else none:=by
 obtain⟨c,k,g⟩:=tB h;have f:=(List.getElem?_eq_some_iff.1 c).1;refine⟨fun j d=> ?_,?_⟩
 ·rw[mI f]
  split
  ·rename_i e
   rw[if_neg]
   ·unfold ew;rw[e,c];dsimp only;rw[if_neg]
    rw[Bool.and_eq_true,beq_iff_eq];exact fun a=>d (by rw[<-a.2,g])
   ·rw[Bool.and_eq_true,beq_iff_eq]
    exact fun a=>d (by rw[<-a.2,b a.1])
  ·rfl
 ·rw[mI f,if_pos rfl]
  cases i:r'.taken with
  |false=>rfl
  |true=>simp[b i]
theorem lA(K:KS)(id:Int):cx K id=st K.table id:=by
 unfold cx fq st;rcases e' (l:=K.table) (id:=id)with⟨a,b⟩|⟨r,a,b,c⟩
 ·rw[a,b];rfl
 ·rw[a,c];dsimp only;rw[b]
structure o'(N p:Nat)(r:aD):Prop where
 t0:0<=r.times
 t1:r.times<=N
 id:r.taken=true->r.t.id%64=p/\64<=r.t.id/\r.t.id<=64*N+63
 home:aH r.t.home
 value:aH r.t.value
structure eP(N:Nat)(l:List aD):Prop where
 len:l.length=64
 row:∀p r,l[p]?=some r->o' N p r
theorem o'.more{N N' p:Nat}{r:aD}(h:o' N p r)(b:N<=N'):o' N' p r:=⟨h.t0,by have:=h.t1;omega,fun a=>by have:=h.id a;omega,h.home,h.value⟩
theorem eP.more{N N':Nat}{l:List aD}(h:eP N l)(a:N<=N'):eP N' l:=⟨h.len,fun p r b=>(h.row p r b).more a⟩
theorem eP.set{N:Nat}{l:List aD}(h:eP N l){p:Nat}{r:aD}(c:o' N p r):eP N (l.set p r):=by
 refine⟨by rw[List.length_set,h.len],fun q x a=> ?_⟩;by_cases e:p=q
 ·subst e
  have b:p<l.length:=by have:=(List.getElem?_eq_some_iff.1 a).1;simpa using this
  rw[List.getElem?_set_self b]at a;rw[<-Option.some.inj a];exact c
 ·rw[List.getElem?_set_ne e]at a;exact h.row q x a
theorem eP.at{N:Nat}{l:List aD}(h:eP N l){id:Int}{r:aD}(d:ew l id=some r):o' N (id%64).toNat r/\r.taken=true/\r.t.id=id/\64<=id/\id<=64*N+63:=by
 obtain⟨b,a,c⟩:=tB d;have:=h.row _ _ b;have e:=this.id a;exact⟨this,a,c,by omega,by omega⟩
def hz(wk:List ak)(id:Int):Nat:=wk.countP fun x=>x.slot==id
def nH(wk:List ak)(id:Int):Nat:=wk.countP fun x=>x.hand==id
def nI(ring:List Int)(id:Int):Nat:=ring.countP fun x=>x==id
def ea(wk:List ak)(ring:List Int)(id:Int):Nat:=hz wk id+nH wk id+nI ring id
theorem mf{α:Type}(p:α->Bool)(l:List α)(i:Nat)(x y:α)(h:l[i]?=some x):(l.set i y).countP p+(if p x then 1 else 0)=l.countP p+(if p y then 1 else 0):=by
 induction l generalizing i with
 |nil=>cases h
 |cons z l ih=>
  cases i with
  |zero=>
   have:z=x:=Option.some.inj h;subst this;rw[List.set_cons_zero,List.countP_cons,List.countP_cons];omega
  |succ i=>
   rw[List.set_cons_succ,List.countP_cons,List.countP_cons];have:=ih i h;omega
structure Core(N:Nat)(tb:List aD)(th:List (Int×Thread))(ws:List ak)(ring:List Int):Prop where
 cX:eP N tb
 al:∀id r,ew tb id=some r->fM r.t.state=true->(aw th id).isSome=true
 ai:∀id t,aw th id=some t->nG id t/\∃r,ew tb id=some r/\(r.t.state=4->r.t.aJ=true)
 one:∀id,id≠0->ea ws ring id<=1
 rV:∀id,id≠0->0<ea ws ring id->(aw th id).isSome=true/\st tb id≠3
 slt:∀id,id≠0->0<hz ws id->st tb id≠1
 wk:∀x∈ws,hy x
section
variable{N N':Nat}{tb kZ:List aD}{ai wR:List (Int×Thread)}{wk tC:List ak}{ring kE:List Int}
theorem B5{l l':List aD}{id:Int}(h:ew l' id=ew l id):st l' id=st l id:=by unfold st;rw[h]
theorem Core.fO(c:Core N tb ai wk ring)(id:Int)(m:eP N' kZ)
 (b:∀j,j≠id->ew kZ j=ew tb j) (g:∀j,j≠id->aw wR j=aw ai j)
 (d:∀j,j≠id->j≠0->hz tC j<=hz wk j/\ea tC kE j<=ea wk ring j)
 (s:∀x∈tC,hy x)
 (n:∀r,ew kZ id=some r->fM r.t.state=true->(aw wR id).isSome=true)
 (q:∀t,aw wR id=some t->nG id t/\∃r,ew kZ id=some r/\(r.t.state=4->r.t.aJ=true))
 (l:id≠0->ea tC kE id<=1)
 (o:id≠0->0<ea tC kE id->(aw wR id).isSome=true/\st kZ id≠3)
 (p:id≠0->0<hz tC id->st kZ id≠1):Core N' kZ wR tC kE where
 cX:=m
 al:=fun j r i k=>by
  by_cases e:j=id
  ·subst e;exact n r i k
  ·rw[b j e]at i;rw[g j e];exact c.al j r i k
 ai:=fun j t h=>by
  by_cases e:j=id
  ·subst e;exact q t h
  ·rw[g j e]at h;rw[b j e];exact c.ai j t h
 one:=fun j a=>by
  by_cases e:j=id
  ·subst e;exact l a
  ·have:=(d j e a).2;have:=c.one j a;omega
 rV:=fun j a f=>by
  by_cases e:j=id
  ·subst e;exact o a f
  ·rw[g j e,B5 (b j e)];exact c.rV j a (by have:=(d j e a).2;omega)
 slt:=fun j a f=>by
  by_cases e:j=id
  ·subst e;exact p a f
  ·rw[B5 (b j e)];exact c.slt j a (by have:=(d j e a).1;omega)
 wk:=s
theorem Core.more(c:Core N tb ai wk ring)(a:N<=N'):Core N' tb ai wk ring:=⟨c.cX.more a,c.al,c.ai,c.one,c.rV,c.slt,c.wk⟩
theorem Core.row(c:Core N tb ai wk ring){id:Int}{t:Thread}(h:aw ai id=some t):∃r,ew tb id=some r/\(r.t.state=4->r.t.aJ=true)/\64<=id/\id<=64*N+63:=by
 obtain⟨_,r,a,b⟩:=c.ai id t h;have:=c.cX.at a;exact⟨r,a,b,this.2.2.2⟩
theorem Core.b9(c:Core N tb ai wk ring){id:Int}{t b:Thread}(h:aw ai id=some t)(d:nG id b):Core N tb (b8 ai id b) wk ring:=
 c.fO id c.cX (fun _ _=>rfl) (fun j f=>by rw[aT,if_neg f]) (fun _ _ _=>⟨Nat.le_refl _,Nat.le_refl _⟩) c.wk
  (fun r k i=>by rw[aT,if_pos rfl];rfl)
  (fun u a=>by rw[aT,if_pos rfl]at a;rw[<-Option.some.inj a];exact⟨d,(c.ai id t h).2⟩)
  (c.one id) (fun e g=>⟨by rw[aT,if_pos rfl];rfl,(c.rV id e g).2⟩) (c.slt id)
theorem eQ{i:Nat}{x y:ak}(h:wk[i]?=some x)(id:Int):hz (wk.set i y) id+(if x.slot==id then 1 else 0)=hz wk id+(if y.slot==id then 1 else 0):=mf _ _ _ _ _ h
theorem eR{i:Nat}{x y:ak}(h:wk[i]?=some x)(id:Int):nH (wk.set i y) id+(if x.hand==id then 1 else 0)=nH wk id+(if y.hand==id then 1 else 0):=mf _ _ _ _ _ h
theorem hA{P:ak->Prop}{i:Nat}{y:ak}(h:∀x∈wk,P x)(c:P y):∀x∈wk.set i y,P x:=fun x b=>by
 rcases List.mem_or_eq_of_mem_set b with a|rfl
 ·exact h x a
 ·exact c
theorem Core.be(c:Core N tb ai wk ring){i:Nat}{x y:ak}(h:wk[i]?=some x)(k:y.slot=x.slot)(g:y.hand=x.hand)(l:hy y):Core N tb ai (wk.set i y) ring:=by
 have d:∀j,hz (wk.set i y) j=hz wk j:=fun j=>by have:=eQ (y:=y) h j;rw[k]at this;omega
 have f:∀j,nH (wk.set i y) j=nH wk j:=fun j=>by have:=eR (y:=y) h j;rw[g]at this;omega
 have e:∀j,ea (wk.set i y) ring j=ea wk ring j:=fun j=>by unfold ea;rw[d,f]
 exact⟨c.cX,c.al,c.ai,fun id a=>by rw[e];exact c.one id a,fun id a b=>c.rV id a (by rwa [e]at b),fun id a b=>c.slt id a (by rwa [d]at b),hA c.wk l⟩
theorem CQ(l:List aD)(id s:Int):(jJ l id s).2=match ew l id with|none=>l|some r=>if fM s=true/\r.t.state≠4 then l.set (id%64).toNat {r with t:={r.t with state:=s}}else l:=by
 unfold jJ;rcases e' (l:=l) (id:=id)with⟨a,b⟩|⟨r,a,b,e⟩
 ·rw[a,b]
 ·rw[a,e];dsimp only;rw[b];dsimp only
  by_cases c:fM s=true
  ·by_cases d:r.t.state=4
   ·simp[c,d]
   ·simp[c,d]
  ·simp[c]
theorem Bb(l:List aD)(id v:Int):(fW l id v).2=match ew l id with|none=>l|some r=>if r.t.state≠4 then l.set (id%64).toNat {r with t:={r.t with state:=4,value:=v,aJ:=true}}else l:=by
 unfold fW;rcases e' (l:=l) (id:=id)with⟨a,b⟩|⟨r,a,b,d⟩
 ·rw[a,b]
 ·rw[a,d];dsimp only;rw[b];dsimp only
  by_cases c:r.t.state=4
  ·simp[c]
  ·simp[c]
theorem y3(l:List aD)(id a:Int):(g9 l id a).2=match ew l id with|none=>l|some r=>if a≠0/\r.t.bI=0/\r.t.loose=false then l.set (id%64).toNat {r with t:={r.t with bI:=a}}else l:=by
 unfold g9;rcases e' (l:=l) (id:=id)with⟨b,c⟩|⟨r,b,c,e⟩
 ·rw[b,c]
 ·rw[b,e];dsimp only;rw[c];dsimp only
  by_cases d:a=0
  ·simp[d]
  ·by_cases f:r.t.bI=0<;>cases g:r.t.loose<;>simp[d,f,g]
theorem wS(l:List aD)(id:Int):(eZ l id).2=match ew l id with|none=>l|some r=>if r.t.bI=0/\r.t.loose=false then(if r.t.state=4/\r.t.aJ=false then l.set (id%64).toNat r.gone else l.set (id%64).toNat {r with t:={r.t with loose:=true}})else l:=by
 unfold eZ;rcases e' (l:=l) (id:=id)with⟨a,b⟩|⟨r,a,b,c⟩
 ·rw[a,b]
 ·rw[a,c];dsimp only;rw[b];dsimp only
  by_cases e:r.t.bI=0<;>cases f:r.t.loose<;>by_cases d:r.t.state=4<;>cases g:r.t.aJ<;>simp[e,f,d,g]
theorem wT(l:List aD)(id:Int):(eF l id).2=match ew l id with|none=>l|some r=>if r.t.aJ=true then(if r.t.loose=true∨r.bE=true then l.set (id%64).toNat r.gone else l.set (id%64).toNat {r with t:={r.t with aJ:=false}})else l:=by
 unfold eF;rcases e' (l:=l) (id:=id)with⟨a,b⟩|⟨r,a,b,c⟩
 ·rw[a,b]
 ·rw[a,c];dsimp only;rw[b];dsimp only
  cases e:r.t.loose<;>cases d:r.bE<;>cases f:r.t.aJ<;>simp[e,d,f]
theorem y4(l:List aD)(id:Int):(fs l id).2.2.2.2=(match ew l id with|none=>l|some r=>if r.t.state=4/\r.t.loose=false/\r.bE=false then(if r.t.aJ=true then l.set (id%64).toNat {r with bE:=true}else l.set (id%64).toNat r.gone)else l)/\
 ((fs l id).2.1=0∨∃r,ew l id=some r/\(fs l id).2.1=r.t.value)/\((fs l id).2.2.1=0∨∃r,ew l id=some r/\(fs l id).2.2.1=r.t.home):=by
 unfold fs;rcases e' (l:=l) (id:=id)with⟨a,b⟩|⟨r,a,b,c⟩
 ·rw[a,b];exact⟨rfl,Or.inl rfl,Or.inl rfl⟩
 ·rw[a,c];dsimp only;rw[b];dsimp only
  by_cases d:r.t.state=4<;>cases e:r.t.loose<;>cases f:r.bE<;>cases g:r.t.aJ<;>simp[d,e,f,g]
structure dZ(N:Nat)(tb kZ:List aD)(id:Int):Prop where
 ok:eP N kZ
 Dz:∀j,j≠id->ew kZ j=ew tb j
theorem dZ.refl(h:eP N tb)(id:Int):dZ N tb tb id:=⟨h,fun _ _=>rfl⟩
theorem dZ.set(h:eP N tb){id:Int}{r:aD}(c:ew tb id=some r){r':aD}(d:r'.times=r.times)(b:r'.taken=true->r'.t.id=id)(j:aH r'.t.home)(k:aH r'.t.value):dZ N tb (tb.set (id%64).toNat r') id/\ew (tb.set (id%64).toNat r') id=if r'.taken then some r' else none:=by
 obtain⟨a,l,m,g,i⟩:=h.at c;have f:=Ba c r' b;refine⟨⟨h.set ⟨by rw[d];exact a.t0,by rw[d];exact a.t1,fun e=> ?_,j,k⟩,f.1⟩,f.2⟩;rw[b e];exact⟨by omega,g,i⟩
theorem dZ.trans{b:List aD}{id:Int}(h:dZ N tb kZ id)(k:dZ N kZ b id):dZ N tb b id:=⟨k.ok,fun j a=>(k.Dz j a).trans (h.Dz j a)⟩
theorem bx:aH (0:Int):=⟨by decide,by decide⟩
theorem Bc(h:eP N tb)(id s:Int)(f:fM s=true):dZ N tb (jJ tb id s).2 id/\(ew tb id=none->ew (jJ tb id s).2 id=none)/\
 ∀r,ew tb id=some r->∃r',ew (jJ tb id s).2 id=some r'/\((r.t.state=4/\r'=r)∨(r.t.state≠4/\r'.t.state=s)):=by
 rw[CQ];cases c:ew tb id with
 |none=>dsimp only;exact⟨dZ.refl h id,fun _=>c,fun r e=>by cases e⟩
 |some r=>
  dsimp only;by_cases b:r.t.state=4
  ·rw[if_neg (by rintro⟨_,e⟩;exact e b)]
   refine⟨dZ.refl h id,(fun e=>by cases e),fun x d=> ?_⟩;have:r=x:=Option.some.inj d;subst this;exact⟨r,c,Or.inl ⟨b,rfl⟩⟩
  ·rw[if_pos ⟨f,b⟩]
   have a:=h.at c;have:=dZ.set h c (r':={r with t:={r.t with state:=s}}) rfl (fun _=>a.2.2.1) a.1.home a.1.value;refine⟨this.1,(fun e=>by cases e),fun x d=> ?_⟩;have e:r=x:=Option.some.inj d;subst e;refine⟨_,by rw[this.2,if_pos a.2.1],Or.inr ⟨b,rfl⟩⟩
theorem rW(h:eP N tb)(id v:Int)(g:aH v):dZ N tb (fW tb id v).2 id/\(ew tb id=none->ew (fW tb id v).2 id=none)/\
 ∀r,ew tb id=some r->(r.t.state=4->r.t.aJ=true)->∃r',ew (fW tb id v).2 id=some r'/\r'.t.state=4/\r'.t.aJ=true:=by
 rw[Bb];cases b:ew tb id with
 |none=>dsimp only;exact⟨dZ.refl h id,fun _=>b,fun r e=>by cases e⟩
 |some r=>
  dsimp only;by_cases a:r.t.state=4
  ·rw[if_neg (by intro e;exact e a)]
   refine⟨dZ.refl h id,(fun e=>by cases e),fun x d f=> ?_⟩;have:r=x:=Option.some.inj d;subst this;exact⟨r,b,a,f a⟩
  ·rw[if_pos a]
   have c:=h.at b;have:=dZ.set h b (r':={r with t:={r.t with state:=4,value:=v,aJ:=true}}) rfl (fun _=>c.2.2.1) c.1.home g;refine⟨this.1,(fun e=>by cases e),fun x d _=> ?_⟩;exact⟨_,by rw[this.2,if_pos c.2.1],rfl,rfl⟩
theorem tD(h:eP N tb)(id:Int):dZ N tb (eF tb id).2 id/\
 ∀r,ew tb id=some r->r.t.state=4->∀r',ew (eF tb id).2 id=some r'->r'.t.state=4:=by
 rw[wT];cases d:ew tb id with
 |none=>dsimp only;exact⟨dZ.refl h id,fun r e=>by cases e⟩
 |some r=>
  dsimp only;have b:=h.at d;split
  ·split
   ·have:=dZ.set h d (r':=r.gone) rfl (fun e=>by cases e) bx bx
    refine⟨this.1,fun x f c r' a=> ?_⟩;rw[this.2,if_neg (by simp[aD.gone])]at a;cases a
   ·have:=dZ.set h d (r':={r with t:={r.t with aJ:=false}}) rfl (fun _=>b.2.2.1) b.1.home b.1.value
    refine⟨this.1,fun x f c r' a=> ?_⟩;rw[this.2,if_pos b.2.1]at a;rw[<-Option.some.inj a,Option.some.inj f];exact c
  ·refine⟨dZ.refl h id,fun x f c r' a=> ?_⟩
   rw[d]at a;rw[<-Option.some.inj a,Option.some.inj f];exact c
def uY(tb kZ:List aD)(id:Int):Prop:=(ew tb id=none->ew kZ id=none)/\∀r,ew tb id=some r->(∃r',ew kZ id=some r'/\r'.t.state=r.t.state/\r'.t.aJ=r.t.aJ)∨(ew kZ id=none/\r.t.state=4/\r.t.aJ=false)
theorem wU(h:eP N tb)(id d:Int):dZ N tb (g9 tb id d).2 id/\uY tb (g9 tb id d).2 id:=by
 rw[y3];cases a:ew tb id with
 |none=>dsimp only;exact⟨dZ.refl h id,fun _=>a,fun r e=>by rw[a]at e;cases e⟩
 |some r=>
  dsimp only;have c:=h.at a;split
  ·have:=dZ.set h a (r':={r with t:={r.t with bI:=d}}) rfl (fun _=>c.2.2.1) c.1.home c.1.value
   refine⟨this.1,(fun e=>by rw[a]at e;cases e),fun x b=>Or.inl ?_⟩;rw[a]at b;exact⟨_,by rw[this.2,if_pos c.2.1],by rw[<-Option.some.inj b],by rw[<-Option.some.inj b]⟩
  ·exact⟨dZ.refl h id,fun e=>e,fun x b=>Or.inl ⟨x,b,rfl,rfl⟩⟩
theorem tE(h:eP N tb)(id:Int):dZ N tb (eZ tb id).2 id/\uY tb (eZ tb id).2 id:=by
 rw[wS];cases a:ew tb id with
 |none=>dsimp only;exact⟨dZ.refl h id,fun _=>a,fun r e=>by rw[a]at e;cases e⟩
 |some r=>
  dsimp only;have c:=h.at a;split
  ·split
   ·rename_i d
    have:=dZ.set h a (r':=r.gone) rfl (fun e=>by cases e) bx bx;refine⟨this.1,(fun e=>by rw[a]at e;cases e),fun x b=>Or.inr ?_⟩;rw[a]at b;rw[<-Option.some.inj b];exact⟨by rw[this.2,if_neg (by simp[aD.gone])],d.1,d.2⟩
   ·have:=dZ.set h a (r':={r with t:={r.t with loose:=true}}) rfl (fun _=>c.2.2.1) c.1.home c.1.value
    refine⟨this.1,(fun e=>by rw[a]at e;cases e),fun x b=>Or.inl ?_⟩;rw[a]at b;exact⟨_,by rw[this.2,if_pos c.2.1],by rw[<-Option.some.inj b],by rw[<-Option.some.inj b]⟩
  ·exact⟨dZ.refl h id,fun e=>e,fun x b=>Or.inl ⟨x,b,rfl,rfl⟩⟩
theorem wV(h:eP N tb)(id:Int):dZ N tb (fs tb id).2.2.2.2 id/\uY tb (fs tb id).2.2.2.2 id/\aH (fs tb id).2.1:=by
 obtain⟨g,c,_⟩:=y4 tb id;have f:aH (fs tb id).2.1:=by
  rcases c with c|⟨r,a,c⟩
  ·rw[c];exact bx
  ·rw[c];exact(h.at a).1.value
 rw[g];cases a:ew tb id with
 |none=>dsimp only;exact⟨dZ.refl h id,⟨fun _=>a,fun r e=>by rw[a]at e;cases e⟩,f⟩
 |some r=>
  dsimp only;have d:=h.at a;split
  ·rename_i i
   split
   ·have:=dZ.set h a (r':={r with bE:=true}) rfl (fun _=>d.2.2.1) d.1.home d.1.value
    refine⟨this.1,⟨(fun e=>by rw[a]at e;cases e),fun x b=>Or.inl ?_⟩,f⟩;rw[a]at b;exact⟨_,by rw[this.2,if_pos d.2.1],by rw[<-Option.some.inj b],by rw[<-Option.some.inj b]⟩
   ·rename_i j
    have:=dZ.set h a (r':=r.gone) rfl (fun e=>by cases e) bx bx;refine⟨this.1,⟨(fun e=>by rw[a]at e;cases e),fun x b=>Or.inr ?_⟩,f⟩;rw[a]at b;rw[<-Option.some.inj b];exact⟨by rw[this.2,if_neg (by simp[aD.gone])],i.1,by simpa using j⟩
  ·exact⟨dZ.refl h id,⟨fun e=>e,fun x b=>Or.inl ⟨x,b,rfl,rfl⟩⟩,f⟩
theorem rX{s:Int}:fM s=true↔s=1∨s=2∨s=3:=by unfold fM;simp[or_assoc]
theorem Core.same(c:Core N tb ai wk ring){id:Int}(o:dZ N tb kZ id)(k:uY tb kZ id):Core N kZ ai wk ring:=by
 have n:(aw ai id).isSome=true->st kZ id=st tb id:=fun p=>by
  obtain⟨t,l⟩:=Option.isSome_iff_exists.1 p;obtain⟨_,r,b,j⟩:=c.ai id t l;rcases k.2 r b with⟨r',d,a,_⟩|⟨_,a,f⟩
  ·unfold st;rw[d,b];exact a
  ·rw[j a]at f;cases f
 refine c.fO id o.ok o.Dz (fun _ _=>rfl) (fun _ _ _=>⟨Nat.le_refl _,Nat.le_refl _⟩) c.wk (fun r' h m=> ?_) (fun t l=>⟨(c.ai id t l).1,?_⟩) (c.one id) (fun g i=>⟨(c.rV id g i).1,?_⟩) (fun g i=> ?_)
 ·cases b:ew tb id with
  |none=>rw[k.1 b]at h;cases h
  |some r=>
   rcases k.2 r b with⟨q,d,a,_⟩|⟨d,_⟩
   ·rw[d]at h
    rw[<-Option.some.inj h,a]at m;exact c.al id r b m
   ·rw[d]at h;cases h
 ·obtain⟨_,r,b,j⟩:=c.ai id t l
  rcases k.2 r b with⟨r',d,a,f⟩|⟨_,a,f⟩
  ·exact⟨r',d,fun e=>by rw[f];exact j (by rw[<-a];exact e)⟩
  ·rw[j a]at f;cases f
 ·rw[n (c.rV id g i).1];exact(c.rV id g i).2
 ·rw[n (c.rV id g (by unfold ea;omega)).1];exact c.slt id g i
theorem Core.ended(c:Core N tb ai wk ring){id:Int}{t:Thread}(a:aw ai id=some t)(v:Int)(l:aH v):Core N (fW tb id v).2 ai wk ring:=by
 obtain⟨r,j,g,_⟩:=c.row a;obtain⟨b,_,f⟩:=rW c.cX id v l;obtain⟨r',d,h,i⟩:=f r j g;have e:st (fW tb id v).2 id=4:=by unfold st;rw[d];exact h
 exact c.fO id b.ok b.Dz (fun _ _=>rfl) (fun _ _ _=>⟨Nat.le_refl _,Nat.le_refl _⟩) c.wk (fun _ _ _=>by rw[a];rfl) (fun u k=>⟨(c.ai id u k).1,r',d,fun _=>i⟩) (c.one id)
  (fun m n=>⟨by rw[a];rfl,by rw[e];decide⟩) (fun _ _=>by rw[e];decide)
theorem Bd{i:Nat}{x:ak}(h:wk[i]?=some x){id:Int}(a:x.slot=id):0<hz wk id:=List.countP_pos_iff.2 ⟨x,List.mem_of_getElem? h,by simp[a]⟩
theorem Be{i:Nat}{x:ak}(h:wk[i]?=some x){id:Int}(a:x.hand=id):0<nH wk id:=List.countP_pos_iff.2 ⟨x,List.mem_of_getElem? h,by simp[a]⟩
theorem Core.kF(c:Core N tb ai wk ring){i:Nat}{x:ak}(h:wk[i]?=some x)(a:x.slot≠0):∃t,aw ai x.slot=some t:=Option.isSome_iff_exists.1 (c.rV _ a (by have:=Bd h (id:=x.slot) rfl;unfold ea;omega)).1
theorem Core.qi(c:Core N tb ai wk ring){i:Nat}{x:ak}(h:wk[i]?=some x)(a:x.hand≠0):∃t,aw ai x.hand=some t:=Option.isSome_iff_exists.1 (c.rV _ a (by have:=Be h (id:=x.hand) rfl;unfold ea;omega)).1
theorem gh(ring:List Int)(id j:Int):nI (g6 ring id).2 j<=nI ring j+(if id=j then 1 else 0)/\(j≠id->nI (g6 ring id).2 j=nI ring j):=by
 unfold g6;split
 ·exact⟨Nat.le_add_right _ _,fun _=>rfl⟩
 ·unfold nI
  dsimp only;rw[List.countP_append,List.countP_cons,List.countP_nil];by_cases e:id=j
  ·subst e;simp
  ·have a:(id==j)=false:=by simpa using e
   simp[e,a]
theorem Core.move(c:Core N tb ai wk ring){id:Int}{t:Thread}(d:aw ai id=some t)(s:Int)(b:fM s=true)(y:∀x∈tC,hy x)
 (n:∀j,j≠id->j≠0->hz tC j<=hz wk j/\ea tC kE j<=ea wk ring j) (k:ea tC kE id<=1)
 (o:s=3->ea tC kE id=0) (v:s=1->hz tC id=0):Core N (jJ tb id s).2 ai tC kE:=by
 obtain⟨r,q,m,_⟩:=c.row d;obtain⟨i,_,l⟩:=Bc c.cX id s b;obtain⟨r',f,a⟩:=l r q;have g:st (jJ tb id s).2 id=4∨st (jJ tb id s).2 id=s:=by
  unfold st;rw[f];rcases a with⟨a,rfl⟩|⟨_,a⟩
  ·exact Or.inl a
  ·exact Or.inr a
 refine c.fO id i.ok i.Dz (fun _ _=>rfl) n y (fun _ _ _=>by rw[d];rfl) (fun u w=>⟨(c.ai id u w).1,r',f,fun e=> ?_⟩) (fun _=>k) (fun _ p=>⟨by rw[d];rfl,?_⟩) (fun _ p=> ?_)
 ·rcases a with⟨a,rfl⟩|⟨_,a⟩
  ·exact m a
  ·rw[a]at e;rw[e]at b;exact absurd b (by decide)
 ·rcases g with h|h<;>rw[h]
  ·decide
  ·intro e;have:=o e;omega
 ·rcases g with h|h<;>rw[h]
  ·decide
  ·intro e;have:=v e;omega
end
end
section
section
variable{N N':Nat}{tb kZ:List aD}{ai wR:List (Int×Thread)}{wk tC:List ak}{ring kE:List Int}
theorem Core.Ex(c:Core N tb ai wk ring){id:Int}{t:Thread}(a:aw ai id=some t):id≠0:=by
 obtain⟨_,_,_,h,_⟩:=c.row a;omega
theorem il{a b:Int}:(if(a==b)=true then 1 else 0:Nat)=if a=b then 1 else 0:=by simp
theorem Core.kG(c:Core N tb ai wk ring){i:Nat}{x y:ak}(h:wk[i]?=some x)(d:x.slot≠0)(r:hy y)(p:y.slot=0)(n:y.hand=x.hand):
 Core N (jJ tb x.slot 1).2 ai (wk.set i y) (g6 ring x.slot).2:=by
 obtain⟨t,q⟩:=c.kF h d;have l:=c.one _ d;have f:=fun j=>eQ (y:=y) h j
 have g:=fun j=>eR (y:=y) h j
 simp only[il,p,n]at f g;refine c.move q 1 (by decide) (hA c.wk r) (fun j m o=> ?_) ?_ (fun e=>absurd e (by decide)) (fun _=> ?_)
 ·have a:=f j;have b:=g j;have k:=(gh ring x.slot j).2 m
  rw[if_neg (Ne.symm m),if_neg (Ne.symm o)]at a;unfold ea;omega
 ·have a:=f x.slot;have b:=g x.slot;have k:=(gh ring x.slot x.slot).1
  rw[if_pos rfl,if_neg (Ne.symm d)]at a;rw[if_pos rfl]at k;unfold ea at l⊢;omega
 ·have a:=f x.slot
  rw[if_pos rfl,if_neg (Ne.symm d)]at a;unfold ea at l;omega
theorem Core.lB(c:Core N tb ai wk ring){i:Nat}{x y:ak}(h:wk[i]?=some x)(d:x.slot≠0)(q:hy y)(o:y.slot=0)(l:y.hand=x.hand):
 Core N (jJ tb x.slot 3).2 ai (wk.set i y) ring:=by
 obtain⟨t,p⟩:=c.kF h d;have k:=c.one _ d;have g:=fun j=>eQ (y:=y) h j
 have f:=fun j=>eR (y:=y) h j
 simp only[il,o,l]at g f;have r:ea (wk.set i y) ring x.slot=0:=by
  have a:=g x.slot;have b:=f x.slot;rw[if_pos rfl,if_neg (Ne.symm d)]at a;unfold ea at k⊢;omega
 refine c.move p 3 (by decide) (hA c.wk q) (fun j m n=> ?_) (by omega) (fun _=>r) (fun e=>absurd e (by decide));have a:=g j;have b:=f j;rw[if_neg (Ne.symm m),if_neg (Ne.symm n)]at a;unfold ea;omega
theorem Core.nJ(c:Core N tb ai wk ring){i:Nat}{x y:ak}(h:wk[i]?=some x)(d:x.hand≠0)(r:hy y)(p:y.slot=x.slot)(n:y.hand=0):
 Core N (jJ tb x.hand 1).2 ai (wk.set i y) (g6 ring x.hand).2:=by
 obtain⟨t,q⟩:=c.qi h d;have l:=c.one _ d;have g:=fun j=>eQ (y:=y) h j
 have f:=fun j=>eR (y:=y) h j
 simp only[il,p,n]at g f;refine c.move q 1 (by decide) (hA c.wk r) (fun j m o=> ?_) ?_ (fun e=>absurd e (by decide)) (fun _=> ?_)
 ·have a:=g j;have b:=f j;have k:=(gh ring x.hand j).2 m
  rw[if_neg (Ne.symm m),if_neg (Ne.symm o)]at b;unfold ea;omega
 ·have a:=g x.hand;have b:=f x.hand;have k:=(gh ring x.hand x.hand).1
  rw[if_pos rfl,if_neg (Ne.symm d)]at b;rw[if_pos rfl]at k;unfold ea at l⊢;omega
 ·have a:=g x.hand;have b:=f x.hand
  rw[if_pos rfl,if_neg (Ne.symm d)]at b;unfold ea at l;omega
theorem Core.y5(c:Core N tb ai wk ring){i:Nat}{x y:ak}(h:wk[i]?=some x)(d:x.hand≠0)(q:x.slot=0)(r:hy y)(o:y.slot=x.hand)(n:y.hand=0):
 Core N (jJ tb x.hand 2).2 ai (wk.set i y) ring:=by
 obtain⟨t,p⟩:=c.qi h d;have m:=c.one _ d;have g:=fun j=>eQ (y:=y) h j
 have f:=fun j=>eR (y:=y) h j
 simp only[il,o,n,q]at g f;refine c.move p 2 (by decide) (hA c.wk r) (fun j k l=> ?_) ?_ (fun e=>absurd e (by decide)) (fun e=>absurd e (by decide))
 ·have a:=g j;have b:=f j
  rw[if_neg (Ne.symm k),if_neg (Ne.symm l)]at a;rw[if_neg (Ne.symm k),if_neg (Ne.symm l)]at b;unfold ea;omega
 ·have a:=g x.hand;have b:=f x.hand
  rw[if_pos rfl,if_neg (Ne.symm d)]at a;rw[if_pos rfl,if_neg (Ne.symm d)]at b;unfold ea at m⊢;omega
theorem Core.CR(c:Core N tb ai wk ring){id:Int}{t:Thread}(g:aw ai id=some t)(k:ea wk ring id=0){i:Nat}{x y:ak}(h:wk[i]?=some x)(l:x.hand=0)(r:hy y)(q:y.slot=x.slot)(m:y.hand=id):
 Core N (jJ tb id 1).2 ai (wk.set i y) ring:=by
 have d:=fun j=>eQ (y:=y) h j
 have f:=fun j=>eR (y:=y) h j
 simp only[il,q,m,l]at d f;have n:=c.Ex g;refine c.move g 1 (by decide) (hA c.wk r) (fun j o p=> ?_) ?_ (fun e=>absurd e (by decide)) (fun _=> ?_)
 ·have a:=d j;have b:=f j
  rw[if_neg (Ne.symm o),if_neg (Ne.symm p)]at b;unfold ea;omega
 ·have a:=d id;have b:=f id
  rw[if_pos rfl,if_neg (Ne.symm n)]at b;unfold ea at k⊢;omega
 ·have a:=d id
  unfold ea at k;omega
theorem Core.toRing(c:Core N tb ai wk ring){id:Int}{t:Thread}(f:aw ai id=some t)(b:ea wk ring id=0):Core N (jJ tb id 1).2 ai wk (g6 ring id).2:=by
 refine c.move f 1 (by decide) c.wk (fun j d g=> ?_) ?_ (fun e=>absurd e (by decide)) (fun _=> ?_)
 ·have a:=(gh ring id j).2 d
  unfold ea;omega
 ·have a:=(gh ring id id).1
  rw[if_pos rfl]at a;unfold ea at b⊢;omega
 ·unfold ea at b;omega
theorem Core.y6(c:Core N tb ai wk ring){id:Int}(h:st tb id=3):(∃t,aw ai id=some t)/\ea wk ring id=0:=by
 have d:(aw ai id).isSome=true:=by
  unfold st at h;cases a:ew tb id with
  |none=>rw[a]at h;cases h
  |some r=>rw[a]at h;exact c.al id r a (rX.2 (Or.inr (Or.inr h)))
 obtain⟨t,b⟩:=Option.isSome_iff_exists.1 d;refine⟨⟨t,b⟩,?_⟩;exact Nat.eq_zero_of_not_pos fun e=>(c.rV id (c.Ex b) e).2 h
theorem Core.Bf(c:Core N tb ai wk ring){id:Int}(h:st tb id=1)(j:∀x∈wk,x.hand≠id)(k:id∉ring):(∃t,aw ai id=some t)/\ea wk ring id=0:=by
 have l:(aw ai id).isSome=true:=by
  unfold st at h;cases d:ew tb id with
  |none=>rw[d]at h;cases h
  |some r=>rw[d]at h;exact c.al id r d (rX.2 (Or.inl h))
 obtain⟨t,g⟩:=Option.isSome_iff_exists.1 l;refine⟨⟨t,g⟩,?_⟩;have a:hz wk id=0:=Nat.eq_zero_of_not_pos fun m=>c.slt id (c.Ex g) m h
 have b:nH wk id=0:=List.countP_eq_zero.2 fun x f=>by simpa using j x f
 have n:nI ring id=0:=List.countP_eq_zero.2 fun x f e=>k (by
  have i:x=id:=by simpa using e
  rw[<-i];exact f)
 unfold ea;omega
theorem Core.take(c:Core N tb ai wk ring){id:Int}(h:st tb id=1)(m:∀x∈wk,x.hand≠id)(n:id∉ring){i:Nat}{x y:ak}(g:wk[i]?=some x)(l:x.hand=0)(u:hy y)(s:y.slot=x.slot)(o:y.hand=id):
 Core N tb ai (wk.set i y) ring:=by
 obtain⟨⟨t,f⟩,k⟩:=c.Bf h m n;have d:=fun j=>eQ (y:=y) g j
 have e:=fun j=>eR (y:=y) g j
 simp only[il,s,o,l]at d e;have p:=c.Ex f;refine c.fO id c.cX (fun _ _=>rfl) (fun _ _=>rfl) (fun j q r=> ?_) (hA c.wk u) (fun _ _ _=>by rw[f];rfl) (c.ai id) (fun _=> ?_) (fun _ _=>⟨by rw[f];rfl,by rw[h];decide⟩) (fun _ v=> ?_)
 ·have a:=d j;have b:=e j
  rw[if_neg (Ne.symm q),if_neg (Ne.symm r)]at b;unfold ea;omega
 ·have a:=d id;have b:=e id
  rw[if_pos rfl,if_neg (Ne.symm p)]at b;unfold ea at k⊢;omega
 ·have a:=d id
  unfold ea at k;omega
theorem Core.y7(c:Core N tb ai wk ring){i:Nat}{x y:ak}(m:wk[i]?=some x)(n:x.hand=0)(q:hy y)(p:y.slot=x.slot)(l:y.hand=(gG ring).1):
 Core N tb ai (wk.set i y) (gG ring).2.2:=by
 cases ring with
 |nil=>exact c.be m p (by rw[l,n];rfl) q
 |cons id ring=>
  change y.hand=id at l;show Core N tb ai (wk.set i y) ring
  have g:=fun j=>eQ (y:=y) m j
  have h:=fun j=>eR (y:=y) m j
  simp only[il,p,l,n]at g h;have k:∀j,nI (id::ring) j=nI ring j+if id=j then 1 else 0:=fun j=>by
   unfold nI;rw[List.countP_cons];simp
  refine c.fO id c.cX (fun _ _=>rfl) (fun _ _=>rfl) (fun j o r=> ?_) (hA c.wk q) (c.al id) (c.ai id) (fun d=> ?_) (fun d s=>c.rV id d ?_) (fun d s=>c.slt id d ?_)
  ·have a:=g j;have b:=h j;have f:=k j
   rw[if_neg (Ne.symm o),if_neg (Ne.symm r)]at b;rw[if_neg (Ne.symm o)]at f;unfold ea;omega
  ·have a:=g id;have b:=h id;have f:=k id;have e:=c.one id d
   rw[if_pos rfl,if_neg (Ne.symm d)]at b;rw[if_pos rfl]at f;unfold ea at e⊢;omega
  ·have f:=k id
   rw[if_pos rfl]at f;unfold ea;omega
  ·have a:=g id
   omega
theorem Core.gone(c:Core N tb ai wk ring){i:Nat}{x y:ak}(k:wk[i]?=some x)(e:x.slot≠0)(D:hy y)(C:y.slot=0)(s:y.hand=x.hand)(v:f' ai):
 Core N (eF (fW tb x.slot 0).2 x.slot).2 (fk ai x.slot) (wk.set i y) ring:=by
 obtain⟨t,d⟩:=c.kF k e;obtain⟨r,z,p,_⟩:=c.row d;obtain⟨u1,_,u3⟩:=rW c.cX x.slot 0 bx;obtain⟨F,B,n,G⟩:=u3 r z p;obtain⟨u4,u5⟩:=tD u1.ok x.slot;have g:=fun j=>eQ (y:=y) k j
 have f:=fun j=>eR (y:=y) k j
 simp only[il,C,s]at g f;have o:=c.one _ e;have E:ea (wk.set i y) ring x.slot=0:=by
  have a:=g x.slot;have b:=f x.slot;rw[if_pos rfl,if_neg (Ne.symm e)]at a;unfold ea at o⊢;omega
 have q:=(v.del x.slot).2;have m:=u1.trans u4;refine c.fO x.slot m.ok m.Dz (fun j h=>fZ _ _ _ h) (fun j h u=> ?_) (hA c.wk D) (fun r' A l=> ?_) (fun t d=>by rw[q]at d;cases d) (fun _=>by omega) (fun _ w=>by omega) (fun _ w=>by unfold ea at E;omega)
 ·have a:=g j;have b:=f j
  rw[if_neg (Ne.symm h),if_neg (Ne.symm u)]at a;unfold ea;omega
 ·rw[u5 F B n r' A]at l;exact absurd l (by decide)
theorem nK:∀(l:List aD) (k p:Nat),iB l k=some p->k<=p/\∃r,l[p-k]?=some r/\r.taken=false
 |[],_,_,h=>by cases h
 |r::l,k,p,h=>by
  unfold iB at h;split at h
  ·obtain⟨d,r',a,b⟩:=nK l (k+1) p h
   refine⟨by omega,r',?_,b⟩;rw[show p-k=(p-(k+1))+1 by omega,List.getElem?_cons_succ];exact a
  ·rename_i c
   have:k=p:=Option.some.inj h;subst this;exact⟨Nat.le_refl _,r,by rw[Nat.sub_self];rfl,by simpa using c⟩
theorem Core.born(c:Core N tb ai wk ring)(F:N<=1000000)(home:Int)(y:aH home){id:Int}{kZ:List aD}(hb:db tb home=(some id,kZ)){t:Thread}(D:nG id t):
 aw ai id=none/\Core (N+1) kZ (b8 ai id t) wk ring/\ea wk ring id=0/\64<=id/\id<=64*(N+1)+63/\st kZ id=1:=by
 unfold db at hb;cases g:iB tb 0 with
 |none=>rw[g]at hb;cases hb
 |some p=>
  obtain⟨_,r,a,s⟩:=nK tb 0 p g;rw[Nat.sub_zero]at a;rw[g]at hb;dsimp only at hb;rw[a]at hb;dsimp only at hb;have o:=c.cX.row p r a;have b:p<64:=by have:=(List.getElem?_eq_some_iff.1 a).1;rw[c.cX.len]at this;exact this
  have l:p<tb.length:=(List.getElem?_eq_some_iff.1 a).1;have t0:=o.t0;have t1:=o.t1;have w1:IntKind.u64.wrap (r.times+1)=r.times+1:=by unfold IntKind.wrap IntKind.bits IntKind.signed;simp;omega
  have w2:IntKind.u64.wrap (64*(r.times+1))=64*(r.times+1):=by unfold IntKind.wrap IntKind.bits IntKind.signed;simp;omega
  have E:IntKind.u64.wrap ((p:Int)+64*(r.times+1))=(p:Int)+64*(r.times+1):=by unfold IntKind.wrap IntKind.bits IntKind.signed;simp;omega
  rw[w1,w2,E]at hb;injection hb with d f
  injection d with d
  have hid:id%64=p:=by omega
  have k:(id%64).toNat=p:=by omega
  have A:ew tb id=none:=by
   unfold ew;rw[k,a];simp[s]
  have m:aw ai id=none:=by
   cases z:aw ai id with
   |none=>rfl
   |some u=>obtain⟨_,r',i,_⟩:=c.ai id u z;rw[A]at i;cases i
  have w:ea wk ring id=0:=by
   have:=fun b=>(c.rV id (by omega) b).1
   rw[m]at this;have:¬0<ea wk ring id:=fun b=>by cases this b
   omega
  have x:eP (N+1) kZ:=by
   rw[<-f];refine eP.set (c.cX.more (Nat.le_succ _)) ⟨?_,?_,fun _=> ?_,y,bx⟩
   ·show 0<=r.times+1;omega
   ·show r.times+1<=((N+1:Nat):Int);omega
   ·show((p:Int)+64*(r.times+1))%64=p/\64<=(p:Int)+64*(r.times+1)/\(p:Int)+64*(r.times+1)<=64*((N+1:Nat):Int)+63
    omega
  have B:∃r',ew kZ id=some r'/\r'.t.state=1:=by
   rw[<-f,mI l,if_pos k];exact⟨_,if_pos (by simp[d]),rfl⟩
  have C:∀j,j≠id->ew kZ j=ew tb j:=fun j h=>by
   rw[<-f,mI l];split
   ·rename_i e
    rw[if_neg (by simp[d,Ne.symm h])];unfold ew;rw[e,a];simp[s]
   ·rfl
  obtain⟨r',n,q⟩:=B;refine⟨m,?_,w,by omega,by omega,by unfold st;rw[n];exact q⟩;refine c.fO id x C (fun j h=>by rw[aT,if_neg h]) (fun _ _ _=>⟨Nat.le_refl _,Nat.le_refl _⟩) c.wk (fun _ _ _=>by rw[aT,if_pos rfl];rfl)
   (fun u v=>by
    rw[aT,if_pos rfl]at v;rw[<-Option.some.inj v];exact⟨D,r',n,fun e=>by rw[q]at e;cases e⟩)
   (fun _=>by omega) (fun _ b=>by omega) (fun _ b=>by unfold ea at w;omega)
end
end
section
def oH(q:List (List hx)):Prop:=∀s∈q.flatten,aH s.id
theorem oH.find{q:List (List hx)}(h:oH q){id:Int}{s:hx}(a:hJ q id=some s):aH s.id:=h s (List.mem_of_find?_eq_some a)
theorem oH.drop{q:List (List hx)}(h:oH q)(id:Int):oH (dy q id).2:=by
 unfold dy;split
 ·exact h
 ·intro s c
  obtain⟨l,a,d⟩:=List.mem_flatten.1 c;obtain⟨e,b,rfl⟩:=List.mem_map.1 a;exact h s (List.mem_flatten.2 ⟨e,b,(List.mem_filter.1 d).1⟩)
theorem oH.link{q:List (List hx)}(h:oH q)(s:hx)(j:aH s.id):oH (oX q s):=by
 intro x m;obtain⟨l,i,b⟩:=List.mem_flatten.1 m;obtain⟨k,a⟩:=List.getElem?_of_mem i;unfold oX at a;rw[List.getElem?_modify]at a;cases e:q[k]? with
 |none=>rw[e]at a;cases a
 |some c=>
  rw[e]at a;have g:(if(bc s.ad 8).toNat=k then c++[s]else c)=l:=by simpa using a
  have f:∀y∈c,aH y.id:=fun y n=>h y (List.mem_flatten.2 ⟨c,List.mem_of_getElem? e,n⟩)
  rw[<-g]at b;split at b
  ·rcases List.mem_append.1 b with d|d
   ·exact f x d
   ·rw[List.mem_singleton.1 d];exact j
  ·exact f x b
theorem oH.first{q:List (List hx)}(h:oH q){c mask:Int}{each:Bool}{s:hx}(d:lh q c mask each=some s):aH s.id:=by
 have a:=List.mem_of_find?_eq_some d;rw[List.getD_eq_getElem?_getD]at a;cases b:q[(bc c 8).toNat]? with
 |none=>rw[b]at a;cases a
 |some l=>rw[b]at a;exact h s (List.mem_flatten.2 ⟨l,List.mem_of_getElem? b,a⟩)
theorem oH.put{q:List (List hx)}(h:oH q)(id a mask:Int)(hid:aH id):oH (kn q id a mask).2:=by
 unfold kn;split
 ·exact h
 ·split
  ·exact h
  ·exact h.link _ hid
theorem oH.take{q:List (List hx)}(h:oH q)(a mask:Int):oH (ez q a mask).2.2/\aH (ez q a mask).1:=by
 unfold ez;split
 ·exact⟨h,bx⟩
 ·rename_i s b;exact⟨h.drop _,h.first b⟩
theorem oH.move{q:List (List hx)}(h:oH q)(fr tt:Int):oH (hK q fr tt).2.2/\aH (hK q fr tt).1:=by
 unfold hK;split
 ·exact⟨h,bx⟩
 ·rename_i s a
  have hid:aH s.id:=h.first a;exact⟨(h.drop _).link _ hid,hid⟩
section
variable{P:a8->Prop}
theorem kH{S:ah}(h:∀x∈S.l,P x)(i:Nat){t:a8}(b:P t):∀x∈(S.lay i t).l,P x:=fun x c=>by
 rcases List.mem_or_eq_of_mem_set (show x∈S.l.set i t from c)with a|rfl
 ·exact h x a
 ·exact b
theorem rY:∀(f:Nat) (S:ah) (i:Nat) (t:a8),(∀x∈S.l,P x)->(∀x∈(gK f S i t).1.l,P x)/\(gK f S i t).1.l.length=S.l.length
 |0,S,i,t,h=>⟨h,rfl⟩
 |f+1,S,i,t,h=>by
  unfold gK;split
  ·exact⟨h,rfl⟩
  ·split
   ·exact⟨h,rfl⟩
   ·rename_i p a
    split
    ·have:=rY f (S.lay i p) ((i-1)/2) t (kH h i (h p (List.mem_of_getElem? a)))
     exact⟨this.1,this.2.trans (S.b1 i p)⟩
    ·exact⟨h,rfl⟩
theorem nL:∀(f:Nat) (S:ah) (i:Nat) (t:a8),(∀x∈S.l,P x)->(∀x∈(bN f S i t).1.l,P x)/\(bN f S i t).1.l.length=S.l.length
 |0,S,i,t,h=>⟨h,rfl⟩
 |f+1,S,i,t,h=>by
  unfold bN;split
  ·exact⟨h,rfl⟩
  ·split
   ·exact⟨h,rfl⟩
   ·rename_i c _ _ x a
    split
    ·have:=nL f (S.lay i x) (jE S i c) t (kH h i (h x (List.mem_of_getElem? a)))
     exact⟨this.1,this.2.trans (S.b1 i x)⟩
    ·exact⟨h,rfl⟩
theorem y8{S:ah}(h:∀x∈S.l,P x)(i:Nat):(∀x∈(S.up i).l,P x)/\(S.up i).l.length=S.l.length:=by
 unfold ah.up;split
 ·exact⟨h,rfl⟩
 ·rename_i t a
  have:=rY (i+1) S i t h;exact⟨kH this.1 _ (h t (List.mem_of_getElem? a)),((gK (i+1) S i t).1.b1 _ t).trans this.2⟩
theorem y9{S:ah}(h:∀x∈S.l,P x)(i:Nat):(∀x∈(S.down i).l,P x)/\(S.down i).l.length=S.l.length:=by
 unfold ah.down;split
 ·exact⟨h,rfl⟩
 ·rename_i t a
  have:=nL (S.l.length+1) S i t h;exact⟨kH this.1 _ (h t (List.mem_of_getElem? a)),((bN (S.l.length+1) S i t).1.b1 _ t).trans this.2⟩
theorem Bg{S:ah}(h:∀x∈S.l,P x)(a b:Int)(d:∀n,P ⟨a,b,n⟩):(∀x∈(S.put a b).2.l,P x)/\(S.put a b).2.l.length=S.l.length+1:=by
 unfold ah.put;have:=y8 (P:=P) (S:={S with last:=wrap64 (S.last+1),l:=S.l++[⟨a,b,wrap64 (S.last+1)⟩]}) (fun x e=>by
  rcases List.mem_append.1 e with c|c
  ·exact h x c
  ·rw[List.mem_singleton.1 c];exact d _) S.l.length
 exact⟨this.1,this.2.trans (by simp)⟩
theorem Bh{S:ah}(h:∀x∈S.l,P x)(k:Int):(∀x∈(S.cut k).l,P x)/\(S.cut k).l.length<=S.l.length:=⟨fun x a=>h x (List.mem_of_mem_take a),by unfold ah.cut;simp⟩
theorem rZ{S:ah}(h:∀x∈S.l,P x)(k:Int):(∀x∈(S.drop k).2.2.l,P x)/\(S.drop k).2.2.l.length<=S.l.length/\((S.drop k).2.1=true->∃x∈S.l,(S.drop k).1=x.bS):=by
 unfold ah.drop;cases g:aw S.at_ k with
 |none=>exact⟨h,Nat.le_refl _,fun e=>by cases e⟩
 |some i=>
  dsimp only;cases b:S.l[i.toNat]? with
  |none=>exact⟨h,Nat.le_refl _,fun e=>by cases e⟩
  |some t=>
   cases d:S.l[S.l.length-1]? with
   |none=>exact⟨h,Nat.le_refl _,fun e=>by cases e⟩
   |some last=>
    dsimp only;have c:=Bh h k;split
    ·have f:=kH c.1 i.toNat (h last (List.mem_of_getElem? d))
     have u:=y8 f i.toNat;have a:=y9 u.1 ((aw (((S.cut k).lay i.toNat last).up i.toNat).at_ last.h).getD 0).toNat;refine⟨a.1,?_,fun _=>⟨t,List.mem_of_getElem? b,rfl⟩⟩;dsimp only;rw[a.2,u.2,ah.b1];exact c.2
    ·exact⟨c.1,c.2,fun _=>⟨t,List.mem_of_getElem? b,rfl⟩⟩
theorem Bi{S:ah}(h:∀x∈S.l,P x)(now:Int):(∀x∈(S.pop now).2.2.l,P x)/\(S.pop now).2.2.l.length<=S.l.length/\((S.pop now).2.1=true->∃x∈S.l,(S.pop now).1=x.bS):=by
 unfold ah.pop;split
 ·rename_i b;exact⟨fun x a=>h x a,Nat.le_refl _,fun e=>by cases e⟩
 ·split
  ·exact⟨fun x a=>h x a,Nat.le_refl _,fun e=>by cases e⟩
  ·exact rZ h _
end
structure fJ(N:Nat)(S:aN):Prop where
 wf:S.heap.WF
 len:S.heap.l.length<=N
 bS:∀t∈S.heap.l,aH t.bS
 now:aH S.now
theorem fJ.more{N N':Nat}{S:aN}(h:fJ N S)(a:N<=N'):fJ N' S:=⟨h.wf,Nat.le_trans h.len a,h.bS,h.now⟩
theorem fJ.ok{N:Nat}{S:aN}(h:fJ N S)(a:N<=900000):S.Ok:=⟨h.wf,Nat.le_trans h.len a⟩
theorem fJ.bl{N:Nat}{S:aN}(h:fJ N S)(id:Int):fJ N (S.bl id).2:=by
 unfold aN.bl;split
 ·exact h
 ·rename_i x _
  have:=rZ h.bS x.1;exact⟨h.wf.drop _,Nat.le_trans this.2.1 h.len,this.1,h.now⟩
theorem fJ.arm{N:Nat}{S:aN}(h:fJ N S)(id dl:Int)(hid:aH id):fJ (N+1) (S.arm id dl).2:=by
 unfold aN.arm;split
 ·exact h.more (Nat.le_succ _)
 ·split
  ·exact h.more (Nat.le_succ _)
  ·split
   ·have:=Bg h.bS dl id (fun _=>hid)
    exact⟨h.wf.put _ _,by rw[this.2];have:=h.len;omega,this.1,h.now⟩
   ·exact h.more (Nat.le_succ _)
theorem pb{N:Nat}:∀(f:Nat) (S:aN) (acc:List Int),fJ N S->(∀x∈acc,aH x)->fJ N (ed f S acc).1/\(∀x∈(ed f S acc).2,aH x)/\(ed f S acc).2.length<=acc.length+f
 |0,S,acc,h,a=>⟨h,a,Nat.le_refl _⟩
 |f+1,S,acc,h,a=>by
  unfold ed;split
  ·rename_i d
   have p:=Bi h.bS S.now;have g:aH (S.heap.pop S.now).1:=by obtain⟨x,c,e⟩:=p.2.2 d;rw[e];exact h.bS x c
   have:=pb (N:=N) f {S with heap:=(S.heap.pop S.now).2.2,ff:=fk S.ff (S.heap.pop S.now).1} (acc++[(S.heap.pop S.now).1]) ⟨h.wf.pop _,Nat.le_trans p.2.1 h.len,p.1,h.now⟩ (fun x c=>by
    rcases List.mem_append.1 c with b|b
    ·exact a x b
    ·rw[List.mem_singleton.1 b];exact g)
   refine⟨this.1,this.2.1,Nat.le_trans this.2.2 ?_⟩;rw[List.length_append,List.length_singleton];omega
  ·exact⟨h,a,by show acc.length<=acc.length+(f+1);omega⟩
theorem fJ.tick{N:Nat}{S:aN}(h:fJ N S):fJ N S.tick.1/\(∀x∈S.tick.2,aH x)/\S.tick.2.length<=N+1:=by
 unfold aN.tick;have:=pb (N:=N) (S.heap.l.length+1) {S with now:=IntKind.u64.wrap (S.now+1)} [] ⟨h.wf,h.len,h.bS,cj _⟩ (fun x a=>by cases a);refine⟨this.1,this.2.1,Nat.le_trans this.2.2 ?_⟩;have:=h.len
 simp;omega
structure bX(M:aF):Prop where
 u:∀x∈M.cells,aH x
 oP:M.cells.length<=65536
theorem bX.set{M:aF}(h:bX M)(i:Nat)(v:Int)(b:aH v)(n:Int):bX {M with count:=n,cells:=M.cells.set i v}:=
 ⟨fun x c=>by
  rcases List.mem_or_eq_of_mem_set (show x∈M.cells.set i v from c)with a|rfl
  ·exact h.u x a
  ·exact b,by show(M.cells.set i v).length<=65536;rw[List.length_set];exact h.oP⟩
theorem bX.get{M:aF}(h:bX M)(i:Nat):aH (M.cells.getD i 0):=by
 rw[List.getD_eq_getElem?_getD];cases a:M.cells[i]? with
 |none=>exact bx
 |some x=>exact h.u x (List.mem_of_getElem? a)
theorem bX.acc{M:aF}(h:bX M)(kind a d v:Int)(c:aH v):bX (M.acc kind a d v).2/\∀x,(M.acc kind a d v).1=some x->aH x:=by
 unfold aF.acc;dsimp only;have g:∀x,some (M.cells.getD a.toNat 0)=some x->aH x:=fun x e=>by rw[<-Option.some.inj e];exact h.get _
 have b:bX {M with count:=wrap64 (M.count+1)}:=⟨h.u,h.oP⟩;split
 ·exact⟨h,fun x e=>by cases e⟩
 ·split
  ·exact⟨h.set _ _ (mD _ _ _) _,g⟩
  ·split
   ·split
    ·exact⟨h.set _ _ (hX _ _ c) _,g⟩
    ·exact⟨b,g⟩
   ·split
    ·exact⟨h.set _ _ (hX _ _ c) _,g⟩
    ·exact⟨b,g⟩
theorem r0{P:Int->Prop}{l:List Int}(h:∀x∈l,P x)(a:Nat){v:Int}(b:P v):∀k,∀x∈au l a v k,P x
 |0=>h
 |k+1=>fun x d=>by
  rcases List.mem_or_eq_of_mem_set (show x∈(au l a v k).set (a+k) v from d)with c|rfl
  ·exact r0 h a b k x c
  ·exact b
theorem bX.laid{M:aF}(h:bX M)(a n:Nat)(b t:Int):bX {M.laid a n b with there:=t}:=
 ⟨r0 h.u a bx n,by show(au M.cells a 0 n).length<=65536;rw[dj];exact h.oP⟩
theorem bX.map{M:aF}(h:bX M)(a n:Nat)(b:Int):bX (M.map a n b).2:=by
 unfold aF.map;split
 ·exact h.laid _ _ _ _
 ·exact h
theorem bX.fX{M:aF}(h:bX M)(a n:Nat):bX (M.fX a n).2:=by
 unfold aF.fX;split
 ·exact h.laid _ _ _ _
 ·exact h
structure iX(N:Nat)(S:aZ):Prop where
 from_:S.from_<=70000
 xK:S.xK<=70000
 l:∀x∈S.l,x.at_+x.n<=65536
 len:S.l.length<=N
theorem iX.more{N N':Nat}{S:aZ}(h:iX N S)(a:N<=N'):iX N' S:=⟨h.from_,h.xK,h.l,Nat.le_trans h.len a⟩
theorem iX.ok{N:Nat}{S:aZ}(h:iX N S)(a:N<=900000):S.Ok:=⟨h.from_,h.xK,fun x b=>by have:=h.l x b;omega,Nat.le_trans h.len a⟩
theorem mJ{N:Nat}{S:aZ}{M:aF}(h:iX N S)(c:bX M)(n:Nat):iX (N+1) (c' S M n).2.1/\bX (c' S M n).2.2/\∀a,(c' S M n).1=some a->aH (a:Int):=by
 unfold c';split
 ·exact⟨h.more (Nat.le_succ _),c,fun a e=>by cases e⟩
 ·split
  ·exact⟨h.more (Nat.le_succ _),c,fun a e=>by cases e⟩
  ·rename_i i g
   split
   ·rename_i d
    have j:S.ee i+n<=M.cells.length:=by
     unfold aF.map at d;split at d
     ·rename_i f;exact(jq f.2).1
     ·cases d
    have hb:=c.oP;refine⟨⟨h.from_,h.xK,fun x b=> ?_,?_⟩,c.map _ _ _,fun a e=> ?_⟩
    ·rcases List.mem_append.1 b with b|b
     ·rcases List.mem_append.1 b with b|b
      ·exact h.l x (List.mem_of_mem_take b)
      ·rw[List.mem_singleton.1 b];show S.ee i+n<=65536;omega
     ·exact h.l x (List.mem_of_mem_drop b)
    ·have:=h.len
     simp only[List.length_append,List.length_take,List.length_drop,List.length_singleton];omega
    ·have:S.ee i=a:=Option.some.inj e
     exact⟨by omega,by omega⟩
   ·exact⟨h.more (Nat.le_succ _),c,fun a e=>by cases e⟩
theorem Bj{N:Nat}{S:aZ}{M:aF}(h:iX N S)(b:bX M)(a:Int):iX N (mr S M a).2.1/\bX (mr S M a).2.2:=by
 unfold mr;split
 ·exact⟨h,b⟩
 ·split
  ·exact⟨h,b⟩
  ·refine⟨⟨h.from_,h.xK,fun x c=>h.l x (List.mem_of_mem_eraseIdx c),?_⟩,b.fX _ _⟩
   exact Nat.le_trans (List.length_eraseIdx_le _ _) h.len
def hO(l:List bC):Prop:=∀r∈l,aH r.addr
theorem hO.set{l:List bC}(h:hO l)(p:Nat)(r:bC)(b:aH r.addr):hO (l.set p r):=fun x c=>by
 rcases List.mem_or_eq_of_mem_set c with a|rfl
 ·exact h x a
 ·exact b
theorem hO.find{l:List bC}(h:hO l)(a k:Int):∀x,ga l a k=some x->aH x:=fun x b=>by
 unfold ga at b;split at b
 ·cases b
 ·split at b
  ·cases b
  ·rename_i r c
   split at b
   ·cases b
   ·rw[<-Option.some.inj b];exact h r (List.mem_of_getElem? c)
theorem hO.make{l:List bC}(h:hO l)(k a:Int)(b:aH a):hO (fH l k a).2/\∀x,(fH l k a).1=some x->aH x:=by
 unfold fH;split
 ·exact⟨h,fun x e=>by cases e⟩
 ·split
  ·exact⟨h,fun x e=>by cases e⟩
  ·split
   ·exact⟨h,fun x e=>by cases e⟩
   ·exact⟨h.set _ _ b,fun x e=>by rw[<-Option.some.inj e];exact cj _⟩
theorem hO.gone{l:List bC}(h:hO l)(a:Int):hO (iC l a).2:=by
 unfold iC;split
 ·exact h
 ·split
  ·exact h
  ·exact h.set _ _ bx
structure Inv(N M:Nat)(K:KS):Prop where
 core:Core N K.table K.ai K.wk K.ring
 nd:f' K.ai
 q:oH K.q
 bW:fJ N K.clock
 bB:iX N K.blocks
 mem:bX K.mem
 obj:hO K.cV
 draw:aH K.draw
 w0:1<=K.wk.length
 w1:K.wk.length<=64
 out:K.out.length<=M
theorem Inv.more{N N' M b:Nat}{K:KS}(h:Inv N M K)(a:N<=N')(c:M<=b):Inv N' b K:=⟨h.core.more a,h.nd,h.q,h.bW.more a,h.bB.more a,h.mem,h.obj,h.draw,h.w0,h.w1,Nat.le_trans h.out c⟩
section
variable{N M:Nat}{K:KS}
theorem fx.au{f:cE}(h:fx f)(k:Nat)(x:Int)(b:aH x):fx {f with r:=fO f.r k x}:=⟨fun j a=>by
 show aH (fO f.r k x j)
 unfold fO;split
 ·exact b
 ·exact h.r j a,h.back⟩
theorem fx.pc{f:cE}(h:fx f)(p:Int):fx {f with pc:=p}:=⟨h.r,h.back⟩
theorem eX.get{l:List Frame}(h:eX l){k:Nat}{f:Frame}(a:l[k]?=some f):fx f.f:=h.lz f (List.mem_of_getElem? a)
theorem eX.cH{l:List Frame}(h:eX l)(k:Nat)(f:cE)(d:fx f):eX (l.set k {l.getD k default with f:=f}):=by
 refine⟨by rw[List.length_set];exact h.n0,by rw[List.length_set];exact h.n8,fun j g a=> ?_,fun g i=> ?_⟩
 ·by_cases e:k=j
  ·subst e
   have b:k<l.length:=by have:=(List.getElem?_eq_some_iff.1 a).1;simpa using this
   rw[List.getElem?_set_self b]at a;rw[<-Option.some.inj a];show(l.getD k default).ca=_
   rw[List.getD_eq_getElem?_getD,List.getElem?_eq_getElem b];exact h.ca k _ (List.getElem?_eq_getElem b)
  ·rw[List.getElem?_set_ne e]at a;exact h.ca j g a
 ·rcases List.mem_or_eq_of_mem_set i with c|rfl
  ·exact h.lz g c
  ·exact d
theorem eX.take{l:List Frame}(h:eX l)(n:Nat)(c:0<n):eX (l.take n):=by
 refine⟨by rw[List.length_take];have:=h.n0;omega,by rw[List.length_take];have:=h.n8;omega,fun k f a=> ?_,fun f b=>h.lz f (List.mem_of_mem_take b)⟩;rw[List.getElem?_take]at a;split at a
 ·exact h.ca k f a
 ·cases a
theorem eX.push{l:List Frame}(h:eX l)(f:Frame)(j:l.length<8)(c:fx f.f)(hb:f.ca=(l.length%2==1)):eX (l++[f]):=by
 refine⟨by simp,by simp;omega,fun k g a=> ?_,fun g d=> ?_⟩
 ·by_cases e:k<l.length
  ·rw[List.getElem?_append_left e]at a;exact h.ca k g a
  ·have i:k=l.length:=by
    have:=(List.getElem?_eq_some_iff.1 a).1;simp at this;omega
   subst i;rw[List.getElem?_concat_length]at a;rw[<-Option.some.inj a];exact hb
 ·rcases List.mem_append.1 d with b|b
  ·exact h.lz g b
  ·rw[List.mem_singleton.1 b];exact c
theorem Inv.gi(h:Inv N M K){i:Nat}(a:i<K.wk.length):hy (K.W i):=h.core.wk _ (List.mem_of_getElem? (KS.gy a))
theorem Inv.dc(h:Inv N M K){id:Int}{t:Thread}(a:aw K.ai id=some t):nG id t:=(h.core.ai id t a).1
theorem Inv.lz(h:Inv N M K){c:bK}(a:aj K c):fx (K.F c):=by
 cases c with
 |own i=>exact(h.gi a).f
 |ai id k=>
  obtain⟨t,d,b⟩:=a;show fx ((K.T id).l.getD k default).f
  rw[KS.df d,List.getD_eq_getElem?_getD,List.getElem?_eq_getElem b];exact(h.dc d).l.get (List.getElem?_eq_getElem b)
theorem Inv.oD(h:Inv N M K){c:bK}(a:aj K c){x:Int}(b:0<=x/\x<32):aH ((K.F c).r x.toNat):=(h.lz a).r _ (by omega)
theorem Inv.b9(h:Inv N M K){id:Int}{t a:Thread}(c:aw K.ai id=some t)(b:nG id a):Inv N M (K.b9 id a):=
 ⟨h.core.b9 c b,h.nd.put _ _,h.q,h.bW,h.bB,h.mem,h.obj,h.draw,h.w0,h.w1,h.out⟩
theorem Inv.be(h:Inv N M K){i:Nat}(b:i<K.wk.length){y:ak}(c:y.slot=(K.W i).slot)(a:y.hand=(K.W i).hand)(d:hy y):Inv N M (K.be i y):=
 ⟨h.core.be (KS.gy b) c a d,h.nd,h.q,h.bW,h.bB,h.mem,h.obj,h.draw,by show 1<=(K.wk.set i y).length;rw[List.length_set];exact h.w0,by show(K.wk.set i y).length<=64;rw[List.length_set];exact h.w1,h.out⟩
theorem Inv.cH(h:Inv N M K){c:bK}(a:aj K c){f:cE}(d:fx f):Inv N M (K.cH c f):=by
 cases c with
 |own i=>exact h.be a rfl rfl ⟨d,(h.gi a).l0,(h.gi a).l1⟩
 |ai id k=>
  obtain⟨t,b,e⟩:=a;have:=h.dc b;refine h.b9 b ?_;rw[KS.df b];exact⟨this.id,this.eM,this.l.cH k f d⟩
theorem Inv.au(h:Inv N M K){c:bK}(a:aj K c)(k:Nat)(x:Int)(b:aH x):Inv N M (K.au c k x):=h.cH a ((h.lz a).au k x b)
theorem Inv.tell(h:Inv N M K)(e:Ev):Inv N (M+1) (tell K e):=
 ⟨h.core,h.nd,h.q,h.bW,h.bB,h.mem,h.obj,h.draw,h.w0,h.w1,by show(K.out++[_]).length<=M+1;rw[List.length_append];have:=h.out;simp;omega⟩
theorem Inv.qj(h:Inv N M K){S:aF}(a:bX S):Inv N M {K with mem:=S}:=⟨h.core,h.nd,h.q,h.bW,h.bB,a,h.obj,h.draw,h.w0,h.w1,h.out⟩
theorem Inv.jZ(h:Inv N M K){q:List (List hx)}(a:oH q):Inv N M {K with q:=q}:=⟨h.core,h.nd,a,h.bW,h.bB,h.mem,h.obj,h.draw,h.w0,h.w1,h.out⟩
theorem Inv.tF(h:Inv N M K){S:aN}(a:fJ N S):Inv N M {K with clock:=S}:=⟨h.core,h.nd,h.q,a,h.bB,h.mem,h.obj,h.draw,h.w0,h.w1,h.out⟩
theorem Inv.setObj(h:Inv N M K){l:List bC}(a:hO l):Inv N M {K with cV:=l}:=⟨h.core,h.nd,h.q,h.bW,h.bB,h.mem,a,h.draw,h.w0,h.w1,h.out⟩
theorem Inv.tG(h:Inv N M K){a:aZ}{S:aF}(b:iX N a)(c:bX S):Inv N M {K with blocks:=a,mem:=S}:=⟨h.core,h.nd,h.q,h.bW,b,c,h.obj,h.draw,h.w0,h.w1,h.out⟩
theorem Inv.nM(h:Inv N M K){l:List aD}(a:Core N l K.ai K.wk K.ring):Inv N M {K with table:=l}:=⟨a,h.nd,h.q,h.bW,h.bB,h.mem,h.obj,h.draw,h.w0,h.w1,h.out⟩
theorem Inv.iS(h:Inv N M K)(a:Int):Inv N M (iS K a):=by
 have:=Bj h.bB h.mem a;exact h.tG this.1 this.2
theorem Inv.home(h:Inv N M K)(id a:Int):Inv N M (ef K id a):=by
 unfold ef;split
 ·exact h.iS _
 ·exact h
theorem lC(C:KC){i:Nat}(a:i<K.wk.length):ds C K i={K with wk:=K.wk.set i {K.W i with slot:=0,f:={(K.W i).f with pc:=C.loop,back:=[]}}}:=by
 unfold ds gv;rw[gz a];unfold KS.be;simp only[List.set_set]
theorem hy.left{x:ak}(h:hy x)(s:Int)(p:Int):hy {x with slot:=s,f:={x.f with pc:=p,back:=[]}}:=⟨⟨h.f.r,by simp⟩,h.l0,h.l1⟩
end
end
section
section
variable{N M:Nat}{K:KS}{C:KC}
theorem y':aH (1:Int):=⟨by decide,by decide⟩
theorem pd{x:Int}(a:0<=x)(b:x<=100000000):aH x:=⟨a,by omega⟩
theorem Inv.CS(h:Inv N M K)(d:N<=900000){id:Int}{t:Thread}(a:aw K.ai id=some t):aH id/\id≠0:=by
 obtain⟨_,_,_,b,c⟩:=h.core.row a;exact⟨pd (by omega) (by omega),by omega⟩
theorem Inv.za(h:Inv N M K)(b:N<=900000){i:Nat}(c:i<K.wk.length):aH (K.W i).hand:=by
 by_cases a:(K.W i).hand=0
 ·rw[a];exact bx
 ·obtain⟨t,d⟩:=h.core.qi (KS.gy c) a
  exact(h.CS b d).1
theorem Inv.D1(h:Inv N M K)(b:N<=900000){id:Int}(c:id∈K.ring):aH id:=by
 by_cases a:id=0
 ·rw[a];exact bx
 ·have:0<nI K.ring id:=List.countP_pos_iff.2 ⟨id,c,by simp⟩
  obtain⟨t,d⟩:=Option.isSome_iff_exists.1 (h.core.rV id a (by unfold ea;omega)).1;exact(h.CS b d).1
theorem Inv.D2(h:Inv N M K)(a:N<=900000):aH (gG K.ring).1:=by
 cases b:K.ring with
 |nil=>exact bx
 |cons x l=>exact h.D1 a (by rw[b];exact List.mem_cons_self)
theorem j0(h:Inv N M K):bX (K.mem.acc 3 0 0 1).2:=(h.mem.acc 3 0 0 1 y').1
theorem Inv.toRing(h:Inv N M K){id:Int}{t:Thread}(a:aw K.ai id=some t)(b:ea K.wk K.ring id=0):Inv N M (cc K id):=
 ⟨h.core.toRing a b,h.nd,h.q,h.bW,h.bB,j0 h,h.obj,h.draw,h.w0,h.w1,h.out⟩
theorem Inv.kG(h:Inv N M K){i:Nat}(a:i<K.wk.length)(b:(K.W i).slot≠0):Inv N M (ds C (cc K (K.W i).slot) i):=by
 rw[lC C (K:=cc K (K.W i).slot) a];exact⟨h.core.kG (KS.gy a) b ((h.gi a).left 0 C.loop) rfl rfl,h.nd,h.q,h.bW,h.bB,j0 h,h.obj,h.draw,by show 1<=(K.wk.set i _).length;rw[List.length_set];exact h.w0,by show(K.wk.set i _).length<=64;rw[List.length_set];exact h.w1,h.out⟩
theorem Inv.lB(h:Inv N M K){i:Nat}(a:i<K.wk.length)(b:(K.W i).slot≠0):Inv N M (ds C {K with table:=(jJ K.table (K.W i).slot 3).2} i):=by
 rw[lC C (K:={K with table:=(jJ K.table (K.W i).slot 3).2}) a];exact⟨h.core.lB (KS.gy a) b ((h.gi a).left 0 C.loop) rfl rfl,h.nd,h.q,h.bW,h.bB,h.mem,h.obj,h.draw,by show 1<=(K.wk.set i _).length;rw[List.length_set];exact h.w0,by show(K.wk.set i _).length<=64;rw[List.length_set];exact h.w1,h.out⟩
theorem hy.iY{x:ak}(h:hy x)(v:Int):hy {x with hand:=v}:=⟨h.f,h.l0,h.l1⟩
theorem Inv.nJ(h:Inv N M K){i:Nat}(a:i<K.wk.length)(b:(K.W i).hand≠0):Inv N M ((cc K (K.W i).hand).be i {(cc K (K.W i).hand).W i with hand:=0}):=
 ⟨h.core.nJ (KS.gy a) b ((h.gi a).iY 0) rfl rfl,h.nd,h.q,h.bW,h.bB,j0 h,h.obj,h.draw,by show 1<=(K.wk.set i _).length;rw[List.length_set];exact h.w0,by show(K.wk.set i _).length<=64;rw[List.length_set];exact h.w1,h.out⟩
theorem Inv.D3(h:Inv N M K){i:Nat}(b:i<K.wk.length){id:Int}{t:Thread}(c:aw K.ai id=some t)(d:ea K.wk K.ring id=0):Inv N M (eg K i id):=by
 unfold eg;split
 ·exact h.toRing c d
 ·rename_i a
  have a:(K.W i).hand=0:=Classical.not_not.1 a;exact⟨h.core.CR c d (KS.gy b) a ((h.gi b).iY id) rfl rfl,h.nd,h.q,h.bW,h.bB,h.mem,h.obj,h.draw,by show 1<=(K.wk.set i _).length;rw[List.length_set];exact h.w0,by show(K.wk.set i _).length<=64;rw[List.length_set];exact h.w1,h.out⟩
theorem Inv.take(h:Inv N M K){i:Nat}(b:i<K.wk.length)(id:Int):Inv N M (eB K i id):=by
 unfold eB;split
 ·exact h
 ·rename_i a
  split
  ·exact h
  ·rename_i c
   split
   ·exact h
   ·rename_i d
    have f:(K.W i).hand=0:=Classical.not_not.1 fun e=>a (Or.inl e)
    have g:st K.table id=1:=by rw[<-lA];exact Classical.not_not.1 fun e=>a (Or.inr e)
    have j:∀x∈K.wk,x.hand≠id:=fun x m e=>c (List.any_eq_true.2 ⟨x,m,by simp[e]⟩)
    have k:id∉K.ring:=fun l=>d (List.any_eq_true.2 ⟨id,l,by simp⟩)
    exact⟨h.core.take g j k (KS.gy b) f ((h.gi b).iY id) rfl rfl,h.nd,h.q,h.bW,h.bB,h.mem,h.obj,h.draw,by show 1<=(K.wk.set i _).length;rw[List.length_set];exact h.w0,by show(K.wk.set i _).length<=64;rw[List.length_set];exact h.w1,h.out⟩
theorem Core.qk{tb:List aD}{ai:List (Int×Thread)}{wk:List ak}{ring:List Int}(c:Core N tb ai wk ring){i:Nat}{x y:ak}(h:wk[i]?=some x)(o:hy y)(n:y.slot=x.slot)(k:y.hand=0):Core N tb ai (wk.set i y) ring:=by
 have f:=fun j=>eQ (y:=y) h j
 have g:=fun j=>eR (y:=y) h j
 simp only[il,n,k]at f g;have e:∀j,j≠0->ea (wk.set i y) ring j<=ea wk ring j:=fun j l=>by
  have a:=f j;have b:=g j;rw[if_neg (Ne.symm l)]at b;unfold ea;omega
 exact⟨c.cX,c.al,c.ai,fun id d=>by have:=e id d;have:=c.one id d;omega,fun id d m=>c.rV id d (by have:=e id d;omega),fun id d m=>c.slt id d (by have:=f id;omega),hA c.wk o⟩
theorem Inv.qk(h:Inv N M K){i:Nat}(a:i<K.wk.length):Inv N M (K.be i {K.W i with hand:=0}):=
 ⟨h.core.qk (KS.gy a) ((h.gi a).iY 0) rfl rfl,h.nd,h.q,h.bW,h.bB,h.mem,h.obj,h.draw,by show 1<=(K.wk.set i _).length;rw[List.length_set];exact h.w0,by show(K.wk.set i _).length<=64;rw[List.length_set];exact h.w1,h.out⟩
theorem Inv.born(h:Inv N M K)(B:N<=900000)(place a:Int)(v:aH a):Inv (N+1) M (bF K place a).2/\aH (bF K place a).1/\
 ((bF K place a).1≠0->∃t,aw (bF K place a).2.ai (bF K place a).1=some t/\ea (bF K place a).2.wk (bF K place a).2.ring (bF K place a).1=0):=by
 unfold bF;have c:=mJ h.bB h.mem 1;cases u:c' K.blocks K.mem 1 with
 |mk w p=>
  obtain⟨b,m⟩:=p;rw[u]at c;have g:Inv (N+1) M {K with blocks:=b,mem:=m}:=(h.more (Nat.le_succ _) (Nat.le_refl _)).tG c.1 c.2.1;cases w with
  |none=>exact⟨g,bx,fun e=>absurd rfl e⟩
  |some d=>
   dsimp only;cases hb:db K.table d with
   |mk x t2=>
    cases x with
    |none=>
     dsimp only;have o:t2=K.table:=by
      unfold db at hb;split at hb
      ·injection hb with _ e;exact e.symm
      ·split at hb
       ·injection hb with _ e;exact e.symm
       ·injection hb with e;cases e
     subst o;exact⟨(show Inv (N+1) M ({K with blocks:=b,mem:=m}:KS)from g).iS _,bx,fun e=>absurd rfl e⟩
    |some id=>
     dsimp only;have q:nG id ⟨id,[⟨⟨place,fun j=>if j=0 then a else 0,[]⟩,false,0⟩],0⟩:=⟨rfl,bx,by simp,by simp,fun k f i=>by
      have s:k=0:=by have:=(List.getElem?_eq_some_iff.1 i).1;simpa using this
      subst s;rw[<-Option.some.inj i];rfl,fun f r=>by
      rw[List.mem_singleton.1 r];exact⟨fun k _=>by
       show aH (if k=0 then a else 0)
       split
       ·exact v
       ·exact bx,by simp⟩⟩
     obtain⟨y,l,n,z,A,_⟩:=h.core.born (by omega) d (c.2.2 d rfl) hb q;refine⟨⟨l,h.nd.put _ _,h.q,h.bW.more (Nat.le_succ _),c.1,c.2.1,h.obj,h.draw,h.w0,h.w1,h.out⟩,pd (by omega) (by omega),fun _=>⟨_,by show aw (b8 K.ai id _) id=_;rw[aT,if_pos rfl],n⟩⟩
theorem Inv.g2(h:Inv N M K){id:Int}(v:Int)(c:aH v):Inv N M (bV K id v):=by
 unfold bV;split
 ·rename_i b
  obtain⟨t,a⟩:=Option.isSome_iff_exists.1 b;have:=h.dc a;rw[KS.df a];exact h.b9 a ⟨this.id,c,this.l⟩
 ·exact h
theorem Inv.ended(h:Inv N M K)(c:N<=900000){i:Nat}(a:i<K.wk.length)(b:(K.W i).slot≠0):Inv N (M+1) (mw C K i (K.W i).slot):=by
 unfold mw;dsimp only;refine Inv.home ?_ _ _;rw[lC C (by exact a)];exact⟨h.core.gone (KS.gy a) b ((h.gi a).left 0 C.loop) rfl rfl h.nd,(h.nd.del _).1,h.q.drop _,h.bW.bl _,h.bB,h.mem,h.obj,h.draw,by show 1<=(K.wk.set i _).length;rw[List.length_set];exact h.w0,by show(K.wk.set i _).length<=64;rw[List.length_set];exact h.w1,by show(K.out++[_]).length<=M+1;rw[List.length_append];have:=h.out;simp;omega⟩
theorem Inv.returned(h:Inv N M K){id:Int}{t:Thread}(b:aw K.ai id=some t)(num:Int){code v:Int}(d:aH code)(i:aH v):Inv N (M+1) (dh K id num code v):=by
 unfold dh;dsimp only;have a:aj K (.ai id (K.top id)):=⟨t,b,by unfold KS.top;rw[KS.df b];have:=(h.dc b).l.n0;omega⟩;have c:=h.au a 0 code d;have g:∀n,(K.au (.ai id n) 0 code).top id=K.top id:=fun n=>by
  unfold KS.top
  congr 1
  have:aw (K.au (.ai id n) 0 code).ai id=some {K.T id with l:=(K.T id).l.set n {(K.T id).l.getD n default with f:={K.F (.ai id n)with r:=fO (K.F (.ai id n)).r 0 code}}}:=by
   show aw (b8 K.ai id _) id=_
   rw[aT,if_pos rfl]
  rw[KS.df this,List.length_set]
 have e:aj (K.au (.ai id (K.top id)) 0 code) (.ai id (K.top id)):=a.gr (bs a _) (bm _ _);rw[g];exact(c.au e 1 v i).tell _
theorem Inv.answer(h:Inv N M K){id:Int}{t:Thread}(a:aw K.ai id=some t)(f:1<t.l.length){code v:Int}(c:aH code)(e:aH v):Inv N (M+1) (er K id code v):=by
 unfold er;dsimp only;have b:=h.dc a;have d:K.top id=t.l.length-1:=by unfold KS.top;rw[KS.df a]
 refine Inv.returned (t:={K.T id with l:=(K.T id).l.take (K.top id)}) (h.b9 a ?_) (by show aw (b8 K.ai id _) id=_;rw[aT,if_pos rfl]) _ c e;rw[KS.df a,d];exact⟨b.id,b.eM,b.l.take _ (by omega)⟩
structure iI(x:aV):Prop where
 a:x.a.toNat<32
 b:x.b.toNat<32
 c:x.c.toNat<32
 v:aH x.v
theorem qn(h:Inv N M K)(k:N<=900000){i:Nat}(f:i<K.wk.length){id:Int}(g:(K.W i).slot=id)(e:id≠0){t:Thread}(a:aw K.ai id=some t)(q:t.l.length%2=0){c:bK}(l:aj K c){x:aV}(j:iI x):
 Inv (N+1) (M+1) (aB C K i id c x).2:=by
 have d:=h.lz l;have o:=d.r _ j.a;have hb:=d.r _ j.b;have r:=d.r _ j.c;have hid:=(h.CS k a).1;have b:=h.dc a;have up:∀{K':KS},Inv N M K'->Inv (N+1) (M+1) K':=fun h=>h.more (Nat.le_succ _) (Nat.le_succ _)
 have n:∀{K':KS},Inv N (M+1) K'->Inv (N+1) (M+1) K':=fun h=>h.more (Nat.le_succ _) (Nat.le_refl _)
 have s:t.l.length≠1:=by omega
 have p:1<t.l.length:=by have:=b.l.n0;omega
 unfold aB;dsimp only;split
 ·split
  ·exact((up h).jZ (h.q.put _ _ _ hid)).tF (h.bW.arm _ _ hid)
  ·exact(up h).jZ (h.q.put _ _ _ hid)
 split
 ·split
  ·subst g;exact up (h.lB f e)
  ·rw[KS.df a];exact up (h.au l _ _ b.eM)
 split
 ·have:=wU h.core.cX ((K.F c).r x.a.toNat) id
  exact up (h.nM (h.core.same this.1 this.2))
 split
 ·exact up (h.nM (h.core.ended a _ o))
 split
 ·subst g;exact n (h.ended k f e)
 split
 ·subst g;exact up (h.kG f e)
 split
 ·split
  ·rename_i m
   rw[KS.df a]at m⊢;refine up (h.b9 a ⟨b.id,b.eM,b.l.push _ m.2 ⟨fun _ _=>bx,by simp⟩ ?_⟩);simp[q]
  ·exact up h
 split
 ·exact n (h.answer a p (d.r 0 (by omega)) (d.r 1 (by omega)))
 ·exact up h
theorem qo(h:Inv N M K){i:Nat}(g:i<K.wk.length){c:bK}(e:aj K c){x:aV}(j:iI x):Inv N M (bb K i c x).2:=by
 have f:=h.lz e;have k:=f.r _ j.a;have m:=f.r _ j.c;unfold bb;dsimp only;split
 ·have a:=h.qj (h.mem.acc 1 (du (K.F c).r x) 0 _ k).1
  split
  ·exact a
  ·exact a.qk g
 ·have b:=h.mem.acc 4 (du (K.F c).r x) ((K.F c).r x.a.toNat) _ m
  have a:=h.qj b.1;split
  ·exact a
  ·rename_i held n
   have l:aj ({K with mem:=(K.mem.acc 4 (du (K.F c).r x) ((K.F c).r x.a.toNat) ((K.F c).r x.c.toNat)).2}:KS) c:=by cases c<;>exact e
   have d:=a.au l x.a.toNat held (b.2 held n);split
   ·exact d.take (Nat.lt_of_lt_of_eq (show i<({K with mem:=(K.mem.acc 4 (du (K.F c).r x) ((K.F c).r x.a.toNat) ((K.F c).r x.c.toNat)).2}:KS).wk.length from g) (bm _ _).symm) _
   ·exact d
theorem wW(h:Inv N M K)(m:N<=900000){i:Nat}(d:i<K.wk.length){c:bK}(f:aj K c){x:aV}(o:iI x):Inv N M (bU K i c x):=by
 unfold bU;dsimp only;split
 ·exact h.take d _
 split
 ·split
  ·rename_i b;exact h.nJ d b
  ·exact h
 split
 ·have a:=h.au f x.a.toNat 0 bx
  have hlen:(K.au c x.a.toNat 0).wk.length=K.wk.length:=bm _ _;have g:i<(K.au c x.a.toNat 0).wk.length:=by rw[hlen];exact d
  have k:aj (K.au c x.a.toNat 0) c:=f.gr (bs f _) hlen;split
  ·rename_i b
   have n:=a.D2 m;have l:Inv N M (({K.au c x.a.toNat 0 with ring:=(gG (K.au c x.a.toNat 0).ring).2.2}:KS).be i {(({K.au c x.a.toNat 0 with ring:=(gG (K.au c x.a.toNat 0).ring).2.2}:KS).W i)with hand:=(gG (K.au c x.a.toNat 0).ring).1}):=
    ⟨a.core.y7 (KS.gy g) b ((a.gi g).iY _) rfl rfl,a.nd,a.q,a.bW,a.bB,a.mem,a.obj,a.draw,by show 1<=(List.set _ i _).length;rw[List.length_set];exact a.w0,by show(List.set _ i _).length<=64;rw[List.length_set];exact a.w1,a.out⟩
   refine l.au ?_ _ _ ?_
   ·cases c with
    |own j=>show j<(List.set _ i _).length;rw[List.length_set];exact k
    |ai _ _=>exact k
   ·rw[gz (by exact g)];exact n
  ·exact a
 split
 ·split
  ·rename_i b
   have e:((K.be i {K.W i with slot:=(K.W i).hand,hand:=0,left:=24}).W i).slot=(K.W i).hand:=by rw[gz d]
   rw[e];exact⟨h.core.y5 (KS.gy d) b.1 b.2.2 ⟨(h.gi d).f,show(0:Int)<=24 by decide,show(24:Int)<=24 by decide⟩ rfl rfl,h.nd,h.q,h.bW,h.bB,h.mem,h.obj,h.draw,by show 1<=(K.wk.set i _).length;rw[List.length_set];exact h.w0,by show(K.wk.set i _).length<=64;rw[List.length_set];exact h.w1,h.out⟩
  ·exact h
 ·exact h
theorem dn{K':KS}{c:bK}(a:aj K c)(e:K'.ai=K.ai)(f:K'.wk=K.wk):aj K' c:=by
 cases c with
 |own i=>show i<_;rw[f];exact a
 |ai id k=>obtain⟨t,b,d⟩:=a;exact⟨t,by rw[e];exact b,d⟩
theorem tH(h:Inv N M K){c:bK}(b:aj K c){x:aV}(j:iI x):Inv (N+1) M (bd K c x):=by
 have g:=h.lz b;have m:=g.r _ j.a;have hb:=g.r _ j.b;have up:∀{K':KS},Inv N M K'->Inv (N+1) M K':=fun h=>h.more (Nat.le_succ _) (Nat.le_refl _)
 unfold bd;dsimp only;split
 ·have d:=h.au b x.a.toNat 0 bx
  have hlen:(K.au c x.a.toNat 0).wk.length=K.wk.length:=bm _ _;have k:aj (K.au c x.a.toNat 0) c:=b.gr (bs b _) hlen;have key:∀n:Int,Inv (N+1) M (if n<=4096 then({K.au c x.a.toNat 0 with blocks:=(c' (K.au c x.a.toNat 0).blocks (K.au c x.a.toNat 0).mem n.toNat).2.1,mem:=(c' (K.au c x.a.toNat 0).blocks (K.au c x.a.toNat 0).mem n.toNat).2.2}:KS).au c x.a.toNat (match(c' (K.au c x.a.toNat 0).blocks (K.au c x.a.toNat 0).mem n.toNat).1 with|some h=>(h:Int)|none=>0)else K.au c x.a.toNat 0):=fun n=>by
   split
   ·have f:=mJ d.bB d.mem n.toNat
    refine((up d).tG f.1 f.2.1).au (dn k rfl rfl) _ _ ?_;split
    ·rename_i a e;exact f.2.2 a e
    ·exact bx
   ·exact up d
  exact key _
 split
 ·split
  ·exact up (h.iS _)
  ·exact up h
 split
 ·split
  ·have i:=h.obj.make x.v ((K.F c).r x.b.toNat) hb
   refine up ((h.setObj i.1).au (dn b rfl rfl) _ _ ?_);cases l:(fH K.cV x.v ((K.F c).r x.b.toNat)).1 with
   |none=>exact bx
   |some y=>exact i.2 y l
  ·exact up (h.au b _ _ bx)
 split
 ·exact up (h.setObj (h.obj.gone _))
 ·exact up h
theorem Inv.fresh(h:Inv N M K)(o:N<=900000):∀d id,(db K.table d).1=some id->aw K.ai id=none:=fun d id hb=>by
 cases k:aw K.ai id with
 |none=>rfl
 |some t=>
  cases a:db K.table d with
  |mk m t2=>
   rw[a]at hb;have hb:m=some id:=hb;subst hb;unfold db at a;cases c:iB K.table 0 with
   |none=>rw[c]at a;cases a
   |some p=>
    obtain⟨_,r,b,l⟩:=nK K.table 0 p c;rw[Nat.sub_zero]at b;rw[c]at a;dsimp only at a;rw[b]at a;dsimp only at a;injection a with f _
    injection f with f
    obtain⟨_,r',j,_⟩:=h.core.ai id t k;have i:=h.core.cX.row p r b;have q:p<64:=by have:=(List.getElem?_eq_some_iff.1 b).1;rw[h.core.cX.len]at this;exact this
    have t0:=i.t0;have t1:=i.t1;have w1:IntKind.u64.wrap (r.times+1)=r.times+1:=by unfold IntKind.wrap IntKind.bits IntKind.signed;simp;omega
    have w2:IntKind.u64.wrap (64*(r.times+1))=64*(r.times+1):=by unfold IntKind.wrap IntKind.bits IntKind.signed;simp;omega
    have n:IntKind.u64.wrap ((p:Int)+64*(r.times+1))=(p:Int)+64*(r.times+1):=by unfold IntKind.wrap IntKind.bits IntKind.signed;simp;omega
    rw[w1,w2,n]at f;have:=(tB j);have e:(id%64).toNat=p:=by omega
    rw[e,b]at this;have g:=this.2.1;rw[<-Option.some.inj this.1,l]at g;cases g
theorem pe{c:bK}(b:aj K c)(id a:Int):aj (ef K id a) c:=dn b (gO K id a) (kB K id a)
theorem tI(h:Inv N M K)(m:N<=900000){i:Nat}(y:i<K.wk.length){c:bK}(a:aj K c){x:aV}(g:iI x):Inv (N+1) M (bu C K i c x):=by
 have f:=h.lz a;have e:=f.r _ g.a;have hb:=f.r _ g.b;have v:=f.r _ g.c;have up:∀{K':KS},Inv N M K'->Inv (N+1) M K':=fun h=>h.more (Nat.le_succ _) (Nat.le_refl _)
 unfold bu;dsimp only;split
 ·split
  ·obtain⟨j,k,p⟩:=h.born m (wrap64 ((K.F c).r x.b.toNat)) ((K.F c).r x.c.toNat) v
   have w:=kC (K:=K) (wrap64 ((K.F c).r x.b.toNat)) ((K.F c).r x.c.toNat) (h.fresh m);have o:(bF K (wrap64 ((K.F c).r x.b.toNat)) ((K.F c).r x.c.toNat)).2.wk=K.wk:=nB _ _;have n:aj (bF K (wrap64 ((K.F c).r x.b.toNat)) ((K.F c).r x.c.toNat)).2 c:=a.gr w (by rw[o]);split
   ·rename_i q
    obtain⟨t,A,B⟩:=p q;have z:i<(bF K (wrap64 ((K.F c).r x.b.toNat)) ((K.F c).r x.c.toNat)).2.wk.length:=by rw[o];exact y
    exact(j.D3 z A B).au (n.gr (dO _ _ _) (fw _ _ _)) _ _ k
   ·exact j.au n _ _ k
  ·exact up (h.au a _ _ bx)
 split
 ·have d:=tE h.core.cX ((K.F c).r x.a.toNat)
  have b:=h.nM (h.core.same d.1 d.2);split
  ·exact up ((b.home _ _).au (pe (K:=({K with table:=(eZ K.table ((K.F c).r x.a.toNat)).2}:KS)) (dn a rfl rfl) _ _) _ _ e)
  ·exact up (b.au (dn a rfl rfl) _ _ e)
 split
 ·have d:=wV h.core.cX ((K.F c).r x.b.toNat)
  have b:=h.nM (h.core.same d.1 d.2.1);split
  ·exact up ((b.home _ _).au (pe (K:=({K with table:=(fs K.table ((K.F c).r x.b.toNat)).2.2.2.2}:KS)) (dn a rfl rfl) _ _) _ _ d.2.2)
  ·exact up (b.au (dn a rfl rfl) _ _ d.2.2)
 split
 ·exact up (h.au a _ _ (cj _))
 split
 ·refine up (h.au a _ _ ?_)
  unfold fq;rcases e' (l:=K.table) (id:=(K.F c).r x.b.toNat)with⟨b,_⟩|⟨r,b,s,u⟩
  ·rw[b];exact bx
  ·rw[b];dsimp only;rw[s];exact(h.core.cX.at u).1.home
 ·exact up (h.au a _ _ e)
theorem pf(K:KS)(pid v:Int):(bV K pid v).wk=K.wk/\(bV K pid v).ring=K.ring/\(bV K pid v).table=K.table:=by unfold bV;split<;>exact⟨rfl,rfl,rfl⟩
theorem qp(h:Inv N M K){i:Nat}(o:i<K.wk.length){c:bK}(d:aj K c){x:aV}(v:iI x):Inv N M (bg K i c x):=by
 unfold bg;dsimp only;split
 ·have a:=h.q.take ((K.F c).r x.b.toNat) ((K.F c).r x.c.toNat)
  obtain⟨p,r⟩:=nm (ez K.q ((K.F c).r x.b.toNat) ((K.F c).r x.c.toNat));rw[r]at a⊢;have g:=h.jZ a.1;split
  ·have m:=g.tF (g.bW.bl p.1)
   have b:=m.g2 (id:=p.1) 0 bx;obtain⟨e,f⟩:=nm (bV ({K with q:=p.2.2,clock:=(K.clock.bl p.1).2}:KS) p.1 0);have n:Gr K e:=by rw[<-f];exact(Gr.of_eq (K':=({K with q:=p.2.2,clock:=(K.clock.bl p.1).2}:KS)) rfl).trans (jy _ _ _)
   have l:e.wk=K.wk:=by rw[<-f];exact(pf _ _ _).1
   have b:Inv N M e:=by rw[<-f];exact b
   show Inv N M (KS.au (if cx (bV ({K with q:=p.2.2,clock:=(K.clock.bl p.1).2}:KS) p.1 0) p.1=3 then eg (bV ({K with q:=p.2.2,clock:=(K.clock.bl p.1).2}:KS) p.1 0) i p.1 else bV ({K with q:=p.2.2,clock:=(K.clock.bl p.1).2}:KS) p.1 0) c x.a.toNat p.1)
   rw[f];have j:aj e c:=d.gr n (by rw[l]);split
   ·rename_i k
    rw[lA]at k;obtain⟨⟨t,s⟩,u⟩:=b.core.y6 k;exact(b.D3 (by rw[l];exact o) s u).au (j.gr (dO _ _ _) (fw _ _ _)) _ _ a.2
   ·exact b.au j _ _ a.2
  ·exact g.au (dn d rfl rfl) _ _ bx
 split
 ·have a:=h.q.move ((K.F c).r x.b.toNat) ((K.F c).r x.c.toNat)
  exact(h.jZ a.1).au (dn d rfl rfl) _ _ a.2
 split
 ·refine h.au d _ _ ?_
  split
  ·exact y'
  ·exact bx
 ·exact h.au d _ _ bx
theorem zb(h:Inv N M K)(a:N<=900000){i:Nat}(b:i<K.wk.length){id:Int}(hid:aH id)(c:bK)(x:aV):aH (hL C K i id c x):=by
 unfold hL;dsimp only
 repeat' split
 all_goals first|exact cj _|exact h.bW.now|exact hid|exact h.draw|exact h.za a b|exact y'|exact bx
theorem iZ(h:Inv N M K)(g:N<=900000){i:Nat}(a:i<K.wk.length){idO:Option Int}{c:bK}(d:aj K c){x:aV}(f:iI x)
 (l:∀id,idO=some id->(K.W i).slot=id/\id≠0/\∃t,aw K.ai id=some t/\t.l.length%2=0):Inv (N+1) (M+1) (ay C K i idO c x).2:=by
 have up:∀{K':KS},Inv N M K'->Inv (N+1) (M+1) K':=fun h=>h.more (Nat.le_succ _) (Nat.le_succ _)
 have m:∀{K':KS},Inv (N+1) M K'->Inv (N+1) (M+1) K':=fun h=>h.more (Nat.le_refl _) (Nat.le_succ _)
 unfold ay;dsimp only;split
 ·cases idO with
  |none=>exact up h
  |some id=>
   obtain⟨e,j,t,k,n⟩:=l id rfl;exact qn h g a e j k n d f
 split
 ·exact up (qo h a d f)
 split
 ·have e:Inv N M (hd K 0).2:=h.qj (h.mem.acc 0 0 0 0 bx).1
  have j:∀b,Inv N M ((hd K 0).2.be i {(hd K 0).2.W i with parked:=b}):=fun b=>e.be (by exact a) rfl rfl ⟨(e.gi (by exact a)).f,(e.gi (by exact a)).l0,(e.gi (by exact a)).l1⟩
  split
  ·exact up (j _)
  ·exact up (j _)
 split
 ·exact up (wW h g a d f)
 split
 ·exact m (tH h d f)
 split
 ·exact m (tI h g a d f)
 split
 ·exact up (qp h a d f)
 split
 ·exact up h
 ·refine up (h.au d _ _ (zb h g a ?_ c x))
  cases idO with
  |none=>exact bx
  |some id=>
   obtain⟨_,_,t,k,_⟩:=l id rfl;exact(h.CS g k).1
end
end
section
theorem nN{n:Int}{used less:Bool}(h:fi n used less=true):(0<=n/\n<32)∨(n=-1/\less=true):=by
 unfold fi at h;split at h
 ·rw[Bool.or_eq_true,Bool.and_eq_true]at h
  rcases h with h|⟨a,b⟩
  ·exact Or.inl (by simpa using h)
  ·exact Or.inr ⟨by simpa using b,a⟩
 ·have:n=0:=by simpa using h
  subst this;exact Or.inl ⟨by decide,by decide⟩
theorem dp{x:aV}{n:Nat}(h:bt x n=true):(0<=x.a/\x.a<32)/\((0<=x.b/\x.b<32)∨(x.b=-1/\m2 x.op=true))/\((0<=x.c/\x.c<32)∨(x.c=-1/\lY x.op=true))/\1<=x.op/\x.op<=58:=by
 obtain⟨y,c,d,e,f,b⟩:=iQ h;unfold ep jN lZ at b;simp only[Bool.and_eq_true]at b;obtain⟨⟨⟨a,_⟩,⟨⟨g,i⟩,j⟩,_⟩,_⟩:=b;have a:1<=y.op/\y.op<=58:=by simpa using a
 rw[<-c,<-d,<-e,<-f];refine⟨?_,nN i,nN j,a⟩;rcases nN g with h|⟨_,h⟩
 ·exact h
 ·cases h
section
variable{w:World}{χ:Nat->a4}{L:cw}{Y:Var}{C:KC}{K:KS}
def EX(Y:Var):Option Int->Value
 |none=> .pointer none
 |some id=> .pointer (some (Y.bB id,0))
theorem mg{N M:Nat}(s:Inv N M K)(a0:N<=800000)(I:M<=800000)(i:Nat)(r:i<K.wk.length)(idO:Option Int)
 (J:∀id,idO=some id->(K.W i).slot=id/\id≠0/\∃t,aw K.ai id=some t/\t.l.length%2=0) (c:bK) (b d:Nat) (m:aj K c) (o:aP L Y c b d)
 (x:aV) (n:Nat) (U:bt x n=true) (V:22<=x.op) (B:aH x.v) (Z:0<=K.w/\K.w<K.wk.length) (E:C.bn.length<=2048) (h:ae w χ L Y C K):
 Calls prog 142 #[(L.mb,0),(L.wb,i*38),EX Y idO,(b,d),aI x] w (dG (ay C K i idO c x) χ L Y C K w):=by
 obtain⟨q,D,O,_,R⟩:=dp U;obtain⟨op,g,f,a,k,j,l⟩:=x;dsimp only at q D O R V B;have z:0<=a/\a<32:=O.elim id fun e=>by have:=e.2;unfold lY at this;simp at this;omega
 have A:(op≠31/\op≠32/\op≠43)->0<=f/\f<32:=fun a1=>D.elim id fun e=>by have:=e.2;unfold m2 at this;simp at this;omega
 have S:=(mJ s.bB s.mem 1).1;have p:=(s.lz m).r;have W:(op=22∨op=36)∨(op=24∨op=28∨op=51∨op=53∨op=55∨op=56∨op=57∨op=58)∨(op=31∨op=32)∨(op=30∨op=33∨op=34∨op=35)∨(op=43∨op=44∨op=45∨op=46)∨(op=48∨op=52∨op=54∨op=49∨op=50)∨(op=25∨op=26∨op=27)∨(op=23∨op=41∨op=37∨op=40∨op=42∨op=29∨op=38∨op=39∨op=47):=by omega
 rcases W with(rfl|rfl)|e|e|e|e|e|e|e
 ·exact tx _ _ i c b d g f a k j l h
 ·exact tz _ _ i r c b d m o g f a k j l q h
 ·cases idO with
  |none=>exact wD i c b d op g f a k j l e h
  |some id=>
   obtain⟨X,Q,t,u,T⟩:=J id rfl;have v:=(s.dc u).id;have G:=(s.dc u).l;have F:=G.n8;have P:1<t.l.length:=by have:=G.n0;omega
   have y:=(s.CS (by omega) u).1;have hb:=A (by omega);refine wx id i c b d op g f a k j l e rfl (fun w h=> ?_) h;rcases e with rfl|rfl|rfl|rfl|rfl|rfl|rfl|rfl
   ·exact rI i r id t u v y c b d m o p g f a k j l q hb z (s.bW.ok (by omega)) h
   ·exact rJ i r id t u v y c b d m o p g f a k j l q h
   ·exact rD i r id t u v y c b d m o p g f a k j l q h
   ·exact rE i r id t u v y c b d m o p g f a k j l q h
   ·exact rF i r id t u v y c b d m o p g f a k j l (s.bW.ok (by omega)) (s.bB.ok (by omega)) (Nat.le_trans s.out I) h
   ·exact rG i r id t u v y c b d m o p g f a k j l h
   ·exact rK i r id t u v y c b d m o p g f a k j l q (by omega) F E h
   ·exact rH i r id t u v y c b d m o p g f a k j l P F (Nat.le_trans s.out I) h
 ·refine wy _ _ i c b d op g f a k j l e rfl (fun w h=> ?_) h
  rcases e with rfl|rfl
  ·exact rS i r c b d m o p g f a k j l q B h
  ·exact rT i r c b d m o p g f a k j l q z B (s.mem.acc 4 _ _ _ (p _ (by omega))).2 h
 ·refine wz _ _ i c b d op g f a k j l e rfl (fun w h=> ?_) h
  rcases e with rfl|rfl|rfl|rfl
  ·exact yW i r c b d m o p g f a k j l q h
  ·exact yX i r c b d m o p g f a k j l q (s.za (by omega) r) h
  ·exact yY i r c b d m o p g f a k j l q h
  ·exact yZ i r c b d m o p g f a k j l q (s.za (by omega) r) h
 ·refine wA _ _ i c b d op g f a k j l e rfl (fun w h=> ?_) h
  have B1:=s.bB.ok (by omega);rcases e with rfl|rfl|rfl|rfl
  ·rcases D with hb|⟨rfl,_⟩
   ·exact tu c b d m o p g f a k j l q hb B1 h
   ·exact tv c b d m o p g a k j l q B B1 h
  ·exact wE c b d m o p g f a k j l q B1 h
  ·exact wG c b d m o p g f a k j l q (A (by decide)) B h
  ·exact wF c b d m o p g f a k j l q h
 ·refine wB _ _ i c b d op g f a k j l e rfl (fun w h=> ?_) h
  have B1:=s.bB.ok (by omega);have hb:=A (by omega);rcases e with rfl|rfl|rfl|rfl|rfl
  ·exact wL i r c b d m o p g f a k j l q hb z E B1 (S.ok (by omega)) (s.fresh (by omega)) (s.born (by omega) _ _ (p _ (by omega))).2.1 h
  ·exact wK i r c b d m o p g f a k j l q hb B1 h
  ·exact wJ i r c b d m o p g f a k j l q hb B1 h
  ·exact wH i r c b d m o p g f a k j l q hb h
  ·exact wI i r c b d m o p g f a k j l q hb h
 ·refine wC _ _ i c b d op g f a k j l e rfl (fun w h=> ?_) h
  have hb:=A (by omega);rcases e with rfl|rfl|rfl
  ·exact rP i r c b d m o p g f a k j l q hb z (s.bW.ok (by omega)) (s.q.take _ _).2 h
  ·exact rR i r c b d m o p g f a k j l q hb z h
  ·exact rQ i r c b d m o p g f a k j l q hb z h
 ·have hb:=A (by omega)
  have H:∀id w,ae w χ L Y C K->Calls prog 168 #[(L.mb,0),(L.wb,i*38),.int .u64 id,(b,d),aI ⟨op,g,f,a,k,j,l⟩] w (mH (hL C K i id c ⟨op,g,f,a,k,j,l⟩) w):=fun id w h=>y2 i r id c b d m o p op g f a k j l e hb Z E h
  cases idO with
  |none=>exact wN i c b d m o op g f a k j l q e (H 0) h
  |some id=>
   obtain⟨X,Q,t,u,T⟩:=J id rfl;exact wO id t u (s.dc u).id i c b d m o op g f a k j l q e (H id) h
end
end
end Go.Proofs.YtfnilkpkogipfaaGreatDoor
