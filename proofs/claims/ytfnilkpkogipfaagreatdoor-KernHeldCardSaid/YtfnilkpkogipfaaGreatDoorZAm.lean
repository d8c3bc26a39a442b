import Derived.Deep.LoopGhost
import Derived.Test.YtfnilkpkogipfaaGreatDoorZAl
set_option linter.unusedVariables false
set_option linter.unusedSimpArgs false
set_option maxRecDepth 100000
set_option maxHeartbeats 8000000
namespace Go.Proofs.YtfnilkpkogipfaaGreatDoor
open Go.RowKit Go.Proofs.Tryz
theorem gw{a c:List Sl}{x:Sl}(h:((a++x::c).map Sl.b).Nodup):∀y,y∈a∨y∈c->y.b≠x.b:=by
 rw[List.map_append,List.map_cons,List.nodup_append,List.nodup_cons]at h;obtain⟨_,⟨d,_⟩,f⟩:=h;rintro y (b|b) e
 ·exact f _ (List.mem_map_of_mem b) _ List.mem_cons_self e
 ·exact d (e▸List.mem_map_of_mem b)
theorem vX{a:List (List Sl)}{k:Nat}{x y:List Sl}(h:a[k]?=some x)(b:bO x=bO y):(a.set k y).flatMap bO=a.flatMap bO:=by
 rw[List.flatMap_def,List.flatMap_def,List.map_set,<-b,jL (by rw[List.getElem?_map,h];rfl)]
theorem jG(a:List (List Sl)):(a.flatMap bO).length=a.length*2:=a7 eO a
def vY(lb k:Nat)(a:List (List Sl))(l':List Sl)(w:World)(e:Ending)(w':World):Prop:=
 e=.returned (.tuple #[])/\Row w' lb 254 ((a.set k l').flatMap bO)/\bM w' none none l'/\Ch (fun i=>i=lb∨∃x∈l',x.b=i) w w'
theorem nj(qb lb k:Nat)(q:Value)(p:List (List Sl))(pre post:List Sl)(s:Sl)(w:World)(C:Row w qb 214 [.slice (some (lb,0)) (8:Nat) (8:Nat),q])
 (m:Row w lb 254 (p.flatMap bO)) (hlen:p.length=8) (o:p[k]?=some (pre++s::post)) (I:bM w none none (pre++s::post)) (hb:bc s.ad (8:Nat)=k)
 (l:((pre++s::post).map Sl.b).Nodup):Calls prog 137 #[bf qb,bf s.b] w (vY lb k p (pre++post) w):=by
 have B:k<8:=by rw[<-hlen];exact(List.getElem?_eq_some_iff.1 o).1
 have A:(p.flatMap bO).length=8*2:=by rw[jG,hlen]
 obtain⟨N,n,H⟩:=bM.mid.1 I;have K:=gw l;have E:∀y:Sl,y∈pre++s::post->y.b≠lb:=fun y U=>by
  obtain⟨a,b,Q⟩:=I.mem y U;exact Q.ne m (by decide)
 rcases List.eq_nil_or_concat pre with rfl|⟨g,x,rfl⟩
 ·cases post with
  |nil=>
   refine(ri qb lb 8 8 k s.b q _ s.id s.ad s.mask (by omega) (by omega) hb B w C m A n).mono ?_;rintro e w' ⟨rfl,h,c⟩;refine⟨rfl,?_,trivial,c.mono fun i f=>Or.inl f⟩;have:=lk (y:=[]) (a:=.pointer none) (b:=.pointer none) o rfl;rw[this]at h;exact h
  |cons y r=>
   obtain⟨t,u⟩:=fP.1 H;refine(p5 qb lb 8 8 k s.b y.b q _ s.id s.ad s.mask y.id y.ad y.mask _ _ (by omega) (by omega) hb B w C m A n t (K y (by simp)).symm).mono ?_;rintro e w' ⟨rfl,h,G,c⟩;have D:∀z∈r,z.b≠y.b:=fun z d=>gw (a:=[s]) (x:=y) (c:=r) (by simpa using l) z (Or.inr d)
   refine⟨rfl,?_,⟨G,u.ch c ?_⟩,c.mono fun i f=>f.imp id fun f=>⟨y,by simp,f.symm⟩⟩
   ·have:=fg (enc:=bO) (k:=2) eO o (y:=y::r) (j:=0) (v:=bf y.b) (by omega) (by simp[bO,List.getLast?_cons_cons,ptrTo,bf])
    rw[Nat.add_zero]at this;rw[show(.pointer (some ⟨y.b,0,none⟩):Value)=bf y.b from rfl,this]at h;exact h
   ·rintro z d (e|e)
    ·exact E z (by simp[d]) e
    ·exact D z d e
 ·rw[List.concat_eq_append]at*
  obtain⟨t,u⟩:=bM.snoc.1 N;have L:∀z∈g,z.b≠x.b:=fun z d=>gw (a:=g) (x:=x) (c:=s::post) (by simpa using l) z (Or.inl d)
  have M:s.b≠x.b:=gw (a:=g) (x:=x) (c:=s::post) (by simpa using l) s (Or.inr (by simp));have J:((g++[x]).getLast?.map Sl.b).or none=some x.b:=by simp
  rw[J]at n;cases post with
  |nil=>
   refine(rj qb lb 8 8 k s.b x.b q _ s.id s.ad s.mask x.id x.ad x.mask _ _ (by omega) (by omega) hb B w C m A n u M).mono ?_;rintro e w' ⟨rfl,h,F,c⟩;rw[List.append_nil];refine⟨rfl,?_,bM.snoc.2 ⟨t.ch c ?_,F⟩,c.mono fun i f=>f.imp id fun f=>⟨x,by simp,f.symm⟩⟩
   ·have:=fg (enc:=bO) (k:=2) eO o (y:=g++[x]) (j:=1) (v:=bf x.b) (by omega) (by simp[bO,ptrTo,bf,List.head?_append,List.getLast?_append])
    rw[show(.pointer (some (x.b,0)):Value)=bf x.b from rfl,this]at h;exact h
   ·rintro z d (e|e)
    ·exact E z (by simp[d]) e
    ·exact L z d e
  |cons y r=>
   obtain⟨O,P⟩:=fP.1 H;have R:s.b≠y.b:=(K y (by simp)).symm;have T:x.b≠y.b:=(gw (a:=g) (x:=x) (c:=s::y::r) (by simpa using l) y (Or.inr (by simp))).symm;have D:∀z,z∈g++[x,s]∨z∈r->z.b≠y.b:=gw (a:=g++[x,s]) (x:=y) (c:=r) (by simpa using l);have S:∀z∈r,z.b≠x.b:=fun z d=>gw (a:=g) (x:=x) (c:=s::y::r) (by simpa using l) z (Or.inr (by simp[d]))
   refine(td qb lb 8 8 k s.b x.b y.b q _ s.id s.ad s.mask x.id x.ad x.mask _ _ _ _ y.id y.ad y.mask (by omega) (by omega) hb B w C m A n u O M R T).mono ?_;rintro e w' ⟨rfl,F,G,c⟩;refine⟨rfl,?_,bM.app.2 ⟨bM.snoc.2 ⟨t.ch c ?_,F⟩,?_⟩,c.mono fun i f=>Or.inr (f.elim (fun f=>⟨x,by simp,f.symm⟩) (fun f=>⟨y,by simp,f.symm⟩))⟩
   ·rw[vX o (by simp[bO,List.head?_append,List.getLast?_append,List.getLast?_cons_cons])]
    exact m.ch c (by rintro(e|e);exact E x (by simp) e.symm;exact E y (by simp) e.symm)
   ·rintro z d (e|e)
    ·exact L z d e
    ·exact D z (Or.inl (by simp[d])) e
   ·rw[J]
    exact⟨G,P.ch c (by rintro z d (e|e);exact S z d e;exact D z (Or.inr d) e)⟩
def AX(lb k:Nat)(a:List (List Sl))(l:List Sl)(s:Sl)(w:World)(e:Ending)(w':World):Prop:=
 e=.returned (.tuple #[])/\Row w' lb 254 ((a.set k (l++[s])).flatMap bO)/\bM w' none none (l++[s])/\Ch (fun i=>i=lb∨i=s.b∨∃x∈l,x.b=i) w w'
theorem rk(qb lb k:Nat)(r pv t:Value)(g:List (List Sl))(l:List Sl)(s:Sl)(w:World)(G:Row w qb 214 [.slice (some (lb,0)) (8:Nat) (8:Nat),r])
 (n:Row w lb 254 (g.flatMap bO)) (hlen:g.length=8) (m:g[k]?=some l) (I:bM w none none l) (hb:bc s.ad (8:Nat)=k)
 (H:Row w s.b 256 [.int .u64 s.id,.int .u64 s.ad,.int .u64 s.mask,pv,t]) (E:((l++[s]).map Sl.b).Nodup):
 Calls prog 207 #[bf qb,bf s.b] w (AX lb k g l s w):=by
 have C:k<8:=by rw[<-hlen];exact(List.getElem?_eq_some_iff.1 m).1
 have B:(g.flatMap bO).length=8*2:=by rw[jG,hlen]
 have F:∀z∈l,z.b≠s.b:=fun z f=>gw (a:=l) (x:=s) (c:=[]) E z (Or.inl f)
 have p:(g.flatMap bO)[k*2+1]?=some (ptrTo (l.getLast?.map Sl.b)):=by rw[bP (enc:=bO) (k:=2) eO m (by omega)];rfl
 rcases List.eq_nil_or_concat l with rfl|⟨o,x,rfl⟩
 ·refine(tc qb lb 8 8 k s.b r _ s.id s.ad s.mask pv t (by omega) (by omega) hb C w G n B p H).mono ?_
  rintro e w' ⟨rfl,h,q,c⟩;refine⟨rfl,?_,⟨q,trivial⟩,c.mono fun i d=>d.imp id fun d=>Or.inl d⟩;have:=lk (y:=[s]) (a:=bf s.b) (b:=bf s.b) m rfl;rw[show(.pointer (some (s.b,0)):Value)=bf s.b from rfl,this]at h;exact h
 ·rw[List.concat_eq_append]at*
  obtain⟨u,A⟩:=bM.snoc.1 I;have L:∀z∈o,z.b≠x.b:=fun z f=>gw (a:=o) (x:=x) (c:=[s]) (by simpa using E) z (Or.inl f)
  have M:x.b≠lb:=A.ne n (by decide);have D:((o++[x]).getLast?.map Sl.b)=some x.b:=by simp
  rw[D]at p;refine(vW qb lb 8 8 k s.b x.b r _ s.id s.ad s.mask pv t _ _ x.id x.ad x.mask (by omega) (by omega) hb C w G n B p H A (F x (by simp)).symm).mono ?_;rintro e w' ⟨rfl,h,q,K,c⟩;refine⟨rfl,?_,bM.app.2 ⟨bM.snoc.2 ⟨u.ch c ?_,K⟩,?_⟩,c.mono ?_⟩
  ·have:=fg (enc:=bO) (k:=2) eO m (y:=o++[x]++[s]) (j:=1) (v:=bf s.b) (by omega) (by simp[bO,ptrTo,bf,List.head?_append,List.getLast?_append])
   rw[show(.pointer (some (s.b,0)):Value)=bf s.b from rfl,this]at h;exact h
  ·rintro z f (e|e|e)
   ·obtain⟨a,b,J⟩:=u.mem z f
    exact J.ne n (by decide) e
   ·exact F z (by simp[f]) e
   ·exact L z f e
  ·rw[D];exact⟨q,trivial⟩
  ·rintro i (d|d|d)
   ·exact Or.inl d
   ·exact Or.inr (Or.inl d)
   ·exact Or.inr (Or.inr ⟨x,by simp,d.symm⟩)
theorem ks{a:List (List Sl)}{k j:Nat}{l m:List Sl}(h:(a.flatten.map Sl.b).Nodup)(g:a[k]?=some l)(b:a[j]?=some m)(o:j≠k){x s:Sl}(d:x∈l)(c:s∈m):x.b≠s.b:=by
 rw[(e1 g).1,List.map_append,List.map_append,List.nodup_append,List.nodup_append]at h;obtain⟨⟨_,_,e⟩,_,f⟩:=h;by_cases n:j<k
 ·have:s∈(a.take k).flatten:=List.mem_flatten.2 ⟨m,List.mem_of_getElem? (by rw[List.getElem?_take,if_pos n];exact b),c⟩
  exact(e _ (List.mem_map_of_mem this) _ (List.mem_map_of_mem d)).symm
 ·have:s∈(a.drop (k+1)).flatten:=List.mem_flatten.2 ⟨m,List.mem_of_getElem? (i:=j-(k+1)) (by rw[List.getElem?_drop,show k+1+(j-(k+1))=j from by omega];exact b),c⟩
  exact f _ (List.mem_append_right _ (List.mem_map_of_mem d)) _ (List.mem_map_of_mem this)
theorem ig.re{w w':World}{qb lb mb:Nat}{b:List (List Sl)}(h:ig w qb lb mb b){k:Nat}{l l':List Sl}(f:b[k]?=some l){D:Nat->Prop}(c:Ch D w w')(q:∀i,i<w.heap.size->D i->i=lb∨i=mb∨∃x∈l,x.b=i)
 (v:Row w' lb 254 ((b.set k l').flatMap bO)) (u:bM w' none none l')
 (o:∃m,bH w' mb .u64 bf m/\f' m/\∀id,aw m id=((b.set k l').flatten.find? (fun s=>s.id==id)).map Sl.b)
 (y:((b.set k l').flatten.map Sl.b).Nodup) (z:((b.set k l').flatten.map Sl.id).Nodup) (t:∀s∈l',bc s.ad (8:Nat)=k):ig w' qb lb mb (b.set k l') where
 head:=h.head.ch c (fun n=>by
  obtain⟨m,o,_⟩:=h.map;rcases q _ h.head.lt n with e|e|⟨x,p,e⟩
  ·exact h.head.ne h.ends (by decide) e
  ·exact o.ne h.head e.symm
  ·exact(h.apart (bo f p)).1 e)
 ends:=v
 len:=by rw[List.length_set];exact h.len
 chain:=fun j m a=>by
  by_cases d:k=j
  ·subst d
   have:m=l':=by
    rw[List.getElem?_set_self (List.getElem?_eq_some_iff.1 f).1]at a;exact(Option.some.inj a).symm
   subst this;exact u
  ·rw[List.getElem?_set_ne d]at a
   refine(h.chain j m a).ch c (fun s r n=> ?_);have g:=h.apart (bo a r);rcases q _ g.2.2.2 n with e|e|⟨x,p,e⟩
   ·exact g.2.1 e
   ·exact g.2.2.1 e
   ·exact ks h.nd f a (fun e=>d e.symm) p r e
 map:=o
 nd:=y
 xL:=z
 at_:=fun j m a=>by
  by_cases d:k=j
  ·subst d
   have:m=l':=by
    rw[List.getElem?_set_self (List.getElem?_eq_some_iff.1 f).1]at a;exact(Option.some.inj a).symm
   subst this;exact t
  ·rw[List.getElem?_set_ne d]at a
   exact h.at_ j m a
theorem vZ(a:List (List Sl)):(b2 a).flatten=a.flatten.map Sl.s:=by unfold b2;rw[List.map_flatten]
theorem iT(a:List (List Sl))(id:Int):hJ (b2 a) id=(a.flatten.find? (fun s=>s.id==id)).map Sl.s:=by
 unfold hJ;rw[vZ,List.find?_map];rfl
def yt(v:Value)(qb lb mb:Nat)(a:List (List Sl))(c:List (List hx))(w:World)(e:Ending)(w':World):Prop:=
 e=.returned v/\∃b,ig w' qb lb mb b/\b2 b=c/\Ch (QD qb lb mb a) w w'/\(∀s∈b.flatten,(∃x∈a.flatten,x.b=s.b)∨w.heap.size<=s.b)/\∀x∈a.flatten,w'.cell? ⟨x.b,0,none⟩=some (.int .u64 x.id)
theorem ig.Ai{w:World}{qb lb mb:Nat}{c:List (List Sl)}(h:ig w qb lb mb c){x:Sl}(f:x∈c.flatten):w.cell? (x.b,0)=some (.int .u64 x.id):=by
 obtain⟨k,pre,post,d⟩:=hM f;obtain⟨a,b,e⟩:=(h.chain k _ d).mem x (by simp);exact e.cell (i:=0) rfl
theorem kt{X Y:List Sl}{s:Sl}(h:((X++s::Y).map Sl.id).Nodup)(j:Int):(X++Y).find? (fun x=>x.id==j)=if j=s.id then none else(X++s::Y).find? (fun x=>x.id==j):=by
 rw[List.map_append,List.map_cons,List.nodup_append,List.nodup_cons]at h;obtain⟨_,⟨b,_⟩,c⟩:=h;split
 ·rename_i e
  subst e;rw[List.find?_eq_none];intro x a;rcases List.mem_append.1 a with a|a
  ·simpa using c _ (List.mem_map_of_mem a) _ List.mem_cons_self
  ·have:s.id≠x.id:=fun e=>b (e▸List.mem_map_of_mem a)
   simpa using this.symm
 ·rename_i e
  have:(s.id==j)=false:=by simpa using fun h=>e h.symm
  rw[List.find?_append,List.find?_append,List.find?_cons,this]
theorem p6{X Y:List Sl}{s:Sl}{α:Type}{f:Sl->α}(h:((X++s::Y).map f).Nodup):((X++Y).map f).Nodup:=by
 refine List.Nodup.sublist ?_ h;exact List.Sublist.map _ (List.Sublist.append (List.Sublist.refl _) (List.sublist_cons_self _ _))
theorem nk{a:List (List Sl)}{k:Nat}{pre post:List Sl}{s:Sl}(d:a[k]?=some (pre++s::post)):∃X Y,a.flatten=X++s::Y/\(a.set k (pre++post)).flatten=X++Y:=by
 obtain⟨b,c⟩:=e1 d;exact⟨(a.take k).flatten++pre,post++(a.drop (k+1)).flatten,by rw[b];simp,by rw[c];simp⟩
theorem rl{b:List (List Sl)}{k:Nat}{pre post:List Sl}{s:Sl}(d:b[k]?=some (pre++s::post))(r:(b.flatten.map Sl.id).Nodup):b2 (b.set k (pre++post))=(b2 b).map fun l=>l.filter fun x=>x.id !=s.id:=by
 obtain⟨X,Y,n,o⟩:=nk d;have g:∀x∈(b.set k (pre++post)).flatten,x.id≠s.id:=by
  intro x i e;rw[o]at i;have:=kt (n▸r) s.id;rw[if_pos rfl,List.find?_eq_none]at this;exact this x i (by simpa using e)
 apply List.ext_getElem?;intro j;unfold b2;rw[List.getElem?_map,List.getElem?_map,List.getElem?_map];by_cases f:k=j
 ·subst f
  rw[List.getElem?_set_self (List.getElem?_eq_some_iff.1 d).1,d];simp only[Option.map_some,List.map_append,List.map_cons,List.filter_append];have h:∀z∈pre++post,z.id≠s.id:=fun z a=>g z (bo (k:=k) (List.getElem?_set_self (List.getElem?_eq_some_iff.1 d).1) a)
  rw[List.filter_cons_of_neg (by simp[Sl.s]),List.filter_eq_self.2,List.filter_eq_self.2]
  ·intro z a
   obtain⟨y,c,rfl⟩:=List.mem_map.1 a;simpa[Sl.s]using h y (by simp[c])
  ·intro z a
   obtain⟨y,c,rfl⟩:=List.mem_map.1 a;simpa[Sl.s]using h y (by simp[c])
 ·rw[List.getElem?_set_ne f]
  cases p:b[j]? with
  |none=>rfl
  |some m=>
   simp only[Option.map_some];rw[List.filter_eq_self.2];intro z a;obtain⟨y,c,rfl⟩:=List.mem_map.1 a;have q:(b.set k (pre++post))[j]?=some m:=by rw[List.getElem?_set_ne f];exact p
   simpa[Sl.s]using g y (bo q c)
theorem oZ(qb lb mb:Nat)(c:List (List Sl))(id:Int)(w:World)(h:ig w qb lb mb c):
 Calls prog 107 #[(qb,0),.int .u64 id] w (yt (.bool (dy (b2 c) id).1) qb lb mb c (dy (b2 c) id).2 w):=by
 have H:=Z h;obtain⟨m,C,W,F⟩:=h.map;have v:=Z C;have J:=Z W;have am:=h.head.k 1 rfl;have o:=fl (P:=prog) (w:=w) (T:=212) (K:=56) (E:=252) (z:=.pointer none) underlying212 underlying56 (by kernel_rfl) C id;have a3:=Z F;rw[F]at o;obtain⟨r,n⟩:=nm (c.flatten.find? (fun s=>s.id==id));rw[n]at o;have u:=Z (iT c id);rw[n]at u;clear h C W F;cases r with
 |none=>
  have E:Hid (dy (b2 c) id=(false,b2 c)):=Z (by unfold dy;rw[u];rfl);clear n;simp only[Option.map_none,Option.getD_none]at o;go_enter func107,ntmps107
  go_wp2
  go_ret;rw[E];exact⟨rfl,c,H,rfl,Ch.refl _ _,fun s t=>Or.inl ⟨s,t,rfl⟩,fun x a=>H.Ai a⟩
 |some s=>
  have t:=List.mem_of_find?_eq_some n;have I:s.id=id:=by have:=List.find?_some n;simpa using this
  obtain⟨k,pre,post,f⟩:=hM t;have hb:=H.at_ k _ f s (by simp);obtain⟨X,Y,Q,R⟩:=nk f;have G:((pre++s::post).map Sl.b).Nodup:=by
   refine List.Nodup.sublist ?_ H.nd;rw[(e1 f).1];exact List.Sublist.map _ ((List.sublist_append_right _ _).trans (List.sublist_append_left _ _))
  have al:=Z (fun w av ap q=>nj qb lb k (.map (some mb)) c pre post s w av ap H.len f q hb G);have E:Hid (dy (b2 c) id=(true,b2 (c.set k (pre++post)))):=Z (by
   unfold dy;rw[u,rl f H.xL,I];rfl)
  have b:=Z (And.intro f (And.intro Q R));have L:=Z I;have bi:=Z hb;have ab:=Z (gw G);clear n t I f hb Q R G;simp only[Option.map_some,Option.getD_some,bf]at o;go_enter func107,ntmps107
  go_wp2_with fail
  refine(al _ H.head H.ends (H.chain k _ b.1)).mono ?_;rintro e w1 ⟨rfl,S,q,l⟩;have N:∀i,(i=lb∨∃x∈pre++post,x.b=i)->QD qb lb mb c i:=fun i d=>by
   rcases d with rfl|⟨x,a,rfl⟩
   ·exact Or.inr (Or.inl rfl)
   ·exact Or.inr (Or.inr (Or.inr ⟨x,bo b.1 (by simp at a⊢;rcases a with a|a<;>simp[a]),rfl⟩))
  have V:¬(mb=lb∨∃x∈pre++post,x.b=mb):=by
   rintro(e|⟨x,a,e⟩)
   ·exact v.ne H.ends e
   ·exact(H.apart (bo b.1 (by simp at a⊢;rcases a with a|a<;>simp[a]))).2.2.1 e
  have a0:¬(qb=lb∨∃x∈pre++post,x.b=qb):=by
   rintro(e|⟨x,a,e⟩)
   ·exact H.head.ne H.ends (by decide) e
   ·exact(H.apart (bo b.1 (by simp at a⊢;rcases a with a|a<;>simp[a]))).1 e
  have U:=v.ch l V;have d1:=(H.head.ch l a0).cell (i:=1) rfl;obtain⟨w2,bv,O,g⟩:=fo (P:=prog) (T:=212) (K:=56) (E:=252) (ty:=0) (kT:=56) underlying212 underlying56 U id;have y:Hid (ig w2 qb lb mb (c.set k (pre++post))/\Ch (QD qb lb mb c) w w2):=Z (by
   refine⟨H.re b.1 (D:=fun i=>(i=lb∨∃x∈pre++post,x.b=i)∨i=mb) ((l.mono fun i d=>Or.inl d).trans (g.mono fun i d=>Or.inr d)) ?_ (S.ch g (fun e=>v.ne H.ends (show mb=lb from Eq.symm e))) (q.ch g ?_) ⟨_,O,(J.del id).1,?_⟩ ?_ ?_ ?_,(l.mono N).trans (g.mono fun i d=>Or.inr (Or.inr (Or.inl d)))⟩
   ·rintro i _ ((d|⟨x,a,d⟩)|d)
    ·exact Or.inl d
    ·exact Or.inr (Or.inr ⟨x,by simp at a⊢;rcases a with a|a<;>simp[a],d⟩)
    ·exact Or.inr (Or.inl d)
   ·intro x a e
    exact(H.apart (bo b.1 (by simp at a⊢;rcases a with a|a<;>simp[a]))).2.2.1 e
   ·intro j
    rw[b.2.2,kt (b.2.1▸H.xL) j,<-b.2.1];by_cases B:j=id
    ·subst B
     rw[(J.del j).2,if_pos L.out.symm];rfl
    ·rw[fZ _ _ _ B,a3,if_neg (by rw[L.out];exact B)]
   ·rw[b.2.2];exact p6 (b.2.1▸H.nd)
   ·rw[b.2.2];exact p6 (b.2.1▸H.xL)
   ·intro x a
    exact H.at_ k _ b.1 x (by simp at a⊢;rcases a with a|a<;>simp[a]))
  have ad:Hid (w2.cell? ⟨s.b,0,none⟩=some (.int .u64 s.id)):=Z (by
   have a1:s∈c.flatten:=bo b.1 (by simp);have A:=H.apart a1;have M:=(l.cell (p:=⟨s.b,0,none⟩) A.2.2.2 (by
    rintro(e|⟨x,a,e⟩)
    ·exact A.2.1 e
    ·exact ab x (by simpa using a) e)).trans (H.Ai a1)
   exact(g.cell (p:=⟨s.b,0,none⟩) (aE M) (fun e=>A.2.2.1 e)).trans M)
  clear S q l N V a0 U O g o am;go_wp2
  go_ret;rw[E];refine⟨rfl,_,y.1,rfl,y.2,fun x a=>Or.inl ⟨x,?_,rfl⟩,fun x a=> ?_⟩
  ·rw[b.2.2]at a
   rw[b.2.1];simp at a⊢;rcases a with a|a<;>simp[a]
  ·rw[b.2.1]at a
   by_cases a2:x=s
   ·rw[a2];exact ad
   ·refine y.1.Ai ?_
    rw[b.2.2];simp at a⊢;rcases a with a|a|a
    ·exact Or.inl a
    ·exact absurd a a2
    ·exact Or.inr a
def rm(s:Option hx)(w:World)(e:Ending)(w':World):Prop:=
 (match s with
  |some s=>e=.returned (.tuple #[.int .u64 s.ad,.int .u64 s.mask,.int .i64 (bc s.ad (8:Nat)),.bool true])
  |none=>e=.returned (.tuple #[.int .u64 0,.int .u64 0,.int .i64 0,.bool false]))/\∃n,w'=w.drewN n
theorem te(qb lb mb:Nat)(e:List (List Sl))(id:Int)(w:World)(h:ig w qb lb mb e):
 Calls prog 77 #[(qb,0),.int .u64 id] w (rm (hJ (b2 e) id) w):=by
 have H:=Z h;obtain⟨m,i,p,j⟩:=h.map;have t:=h.head.k 1 rfl;have q:=h.head.c1;have d:=fl (P:=prog) (w:=w) (T:=212) (K:=56) (E:=252) (z:=.pointer none) underlying212 underlying56 (by kernel_rfl) i id;rw[j]at d;obtain⟨r,c⟩:=nm (e.flatten.find? (fun s=>s.id==id));rw[c]at d;have f:=Z (iT e id);rw[c]at f;clear h i p j;cases r with
 |none=>
  clear c;simp only[Option.map_none,Option.getD_none]at d;go_enter func77,ntmps77
  go_wp2
  refine bodyPost_ret (dk rfl _ _ _) rfl ?_;rw[f];exact⟨rfl,0,rfl⟩
 |some s=>
  have n:=List.mem_of_find?_eq_some c;obtain⟨k,pre,post,g⟩:=hM n;obtain⟨a,b,l⟩:=(H.chain k _ g).mem s (by simp);obtain⟨u,v,x⟩:=l.c3;have o:=Z (fun w h=>dF qb lb (.map (some mb)) s.ad 8 8 (by omega) (by omega) w h);clear c n g l;simp only[Option.map_some,Option.getD_some,bf]at d;go_enter func77,ntmps77
  go_wp2_with fail
  go_quiet ((go_at_call 123;exact Calls.quiet_of_same (bZ (o _ H.head))))
  go_wp2_with fail
  refine bodyPost_ret (dk rfl _ _ _) rfl ?_;rw[f];exact⟨rfl,nq,rfl⟩
def dK(a mask:Int)(each:Bool)(s:Sl):Bool:=s.ad==a&&(each||qR s.mask mask)
def rn(r:Option Sl):Value:=.pointer (r.map fun s=>⟨s.b,0,none⟩)
def yu(r:Option Sl)(w:World)(e:Ending)(w':World):Prop:=e=.returned (rn r)/\∃n,w'=w.drewN n
theorem ln(qb lb mb:Nat)(G:List (List Sl))(l:List Sl)(k:Nat)(b mask:Int)(each:Bool)(y:G[k]?=some l)(hb:bc b (8:Nat)=k)(w:World)(h:ig w qb lb mb G):
 Calls prog 210 #[(qb,0),.int .u64 b,.int .u64 mask,.bool each] w (yu (l.find? (dK b mask each)) w):=by
 have H:=Z h;have J:=h.head.c1;have C:=Z (fun w h=>dF qb lb (.map (some mb)) b 8 8 (by omega) (by omega) w h);rw[hb]at C;have B:w.cell? (lb,k*2)=some (ptrTo (l.head?.map Sl.b)):=h.ends.at (enc:=bO) eO y (j:=0) (by omega) rfl;have N:k<8:=by rw[<-h.len];exact(List.getElem?_eq_some_iff.1 y).1
 have O:(k:Int)<8:=by omega
 have F:ptrTo (l.head?.map Sl.b)=rn l.head?:=by cases l<;>rfl
 rw[F]at B;have I:=Z (h.chain k l y);unfold rn at B;clear F hb y h;have M:Hid (∀mask w,Calls prog 211 #[.int .u64 mask,.int .u64 0] w (d' (.bool (qR mask 0)) w)):=Z fun m w=>qS m 0 w
 cases each
 all_goals
  go_enter func210,ntmps210
  go_wp2_with fail
  go_quiet ((go_at_call 123;exact Calls.quiet_of_same (bZ (C _ H.head))))
  obtain⟨o,z⟩:=nm (w.drewN nq);have t:=Z z;have D:Hid (bM o none none l):=Z (by rw[<-z];exact I.ch ((Ch.refl ag w).drewN nq) (fun _ _ h=>h));rw[z];clear z J B;go_wp2_with fail
 ·go_loopg [9] (l.length+1) (fun gk u wr=>∃(p:Option Addr) (pre r:List Sl),u=.pointer p/\o=wr/\r.length<gk/\Hid (p=(r.head?.map fun s=>⟨s.b,0,none⟩)/\l=pre++r/\pre.find? (dK b mask false)=none))
  case atStart=>exact⟨_,[],l,rfl,rfl,Nat.lt_succ_self _,rfl,rfl,rfl⟩
  case round=>
   obtain⟨p,pre,r,rfl,rfl,x,a⟩:=hrel;cases r with
   |nil=>
    obtain rfl:p=none:=a.1;have E:Hid (l.find? (dK b mask false)=none):=Z (by rw[a.2.1,List.append_nil];exact a.2.2);go_wp2
    go_ret;rw[E];exact⟨rfl,nq,t.symm⟩
   |cons s r=>
    obtain rfl:p=some ⟨s.b,0,none⟩:=a.1;obtain⟨v,rfl⟩:∃A,gk=A+1:=⟨gk-1,by omega⟩;have f:=D.out;rw[a.2.1]at f;have d:=(bM.mid.1 f).2.1;have K:=d.k 1 rfl;have P:=d.k 2 rfl;have L:o.cell? ⟨s.b,4,none⟩=some (.pointer (r.head?.map fun s=>⟨s.b,0,none⟩)):=by
     rw[d.cell (i:=4) rfl];cases r<;>rfl
    clear f d;have q:=Z (qS s.mask mask);cases n:s.ad==b
    ·have c:Hid (l=(pre++[s])++r/\(pre++[s]).find? (dK b mask false)=none):=Z ⟨by rw[a.2.1];simp,by rw[List.find?_append,a.2.2];simp[dK,n]⟩
     go_wp2_with fail
     go_wp2
     go_roundg v
     case measure=>omega
     case rel=>exact⟨_,pre++[s],r,rfl,rfl,by simp at x;omega,rfl,c.1,c.2⟩
    ·cases g:qR s.mask mask
     ·have c:Hid (l=(pre++[s])++r/\(pre++[s]).find? (dK b mask false)=none):=Z ⟨by rw[a.2.1];simp,by rw[List.find?_append,a.2.2];simp[dK,n,g]⟩
      rw[g]at q;clear g;go_wp2_with (go_at_call 211;refine(q _).mono ?_;rintro e w' ⟨rfl,rfl⟩)
      go_roundg v
      case measure=>omega
      case rel=>exact⟨_,pre++[s],r,rfl,rfl,by simp at x;omega,rfl,c.1,c.2⟩
     ·have E:Hid (l.find? (dK b mask false)=some s):=Z (by rw[a.2.1,List.find?_append,a.2.2];simp[dK,n,g])
      rw[g]at q;clear g;go_wp2_with (go_at_call 211;refine(q _).mono ?_;rintro e w' ⟨rfl,rfl⟩)
      go_ret;rw[E];exact⟨rfl,nq,t.symm⟩
 ·go_loopg [9] (l.length+1) (fun gk u wr=>∃(p:Option Addr) (pre r:List Sl),u=.pointer p/\o=wr/\r.length<gk/\Hid (p=(r.head?.map fun s=>⟨s.b,0,none⟩)/\l=pre++r/\pre.find? (dK b mask true)=none))
  case atStart=>exact⟨_,[],l,rfl,rfl,Nat.lt_succ_self _,rfl,rfl,rfl⟩
  case round=>
   obtain⟨p,pre,r,rfl,rfl,x,a⟩:=hrel;cases r with
   |nil=>
    obtain rfl:p=none:=a.1;have E:Hid (l.find? (dK b mask true)=none):=Z (by rw[a.2.1,List.append_nil];exact a.2.2);go_wp2
    go_ret;rw[E];exact⟨rfl,nq,t.symm⟩
   |cons s r=>
    obtain rfl:p=some ⟨s.b,0,none⟩:=a.1;obtain⟨v,rfl⟩:∃A,gk=A+1:=⟨gk-1,by omega⟩;have f:=D.out;rw[a.2.1]at f;have d:=(bM.mid.1 f).2.1;have K:=d.k 1 rfl;have L:o.cell? ⟨s.b,4,none⟩=some (.pointer (r.head?.map fun s=>⟨s.b,0,none⟩)):=by
     rw[d.cell (i:=4) rfl];cases r<;>rfl
    clear f d;cases n:s.ad==b
    ·have c:Hid (l=(pre++[s])++r/\(pre++[s]).find? (dK b mask true)=none):=Z ⟨by rw[a.2.1];simp,by rw[List.find?_append,a.2.2];simp[dK,n]⟩
     go_wp2
     go_roundg v
     case measure=>omega
     case rel=>exact⟨_,pre++[s],r,rfl,rfl,by simp at x;omega,rfl,c.1,c.2⟩
    ·have E:Hid (l.find? (dK b mask true)=some s):=Z (by rw[a.2.1,List.find?_append,a.2.2];simp[dK,n])
     go_wp2
     go_ret;rw[E];exact⟨rfl,nq,t.symm⟩
theorem jV(a:Int):∃k:Nat,bc a (8:Nat)=k/\k<8/\(bc a 8).toNat=k:=by
 have h:=k6 a 8 (by omega);have e:bc a ((8:Nat):Int)=bc a 8:=rfl;rw[e]at h⊢;exact⟨(bc a 8).toNat,by omega,by omega,rfl⟩
theorem lp(b:List (List Sl))(l:List Sl)(k:Nat)(a mask:Int)(each:Bool)(c:b[k]?=some l)(hb:(bc a 8).toNat=k):lh (b2 b) a mask each=(l.find? (dK a mask each)).map Sl.s:=by
 unfold lh b2;rw[hb,List.getD_eq_getElem?_getD,List.getElem?_map,c];simp only[Option.map_some,Option.getD_some,List.find?_map];rfl
theorem ig.bucket{w:World}{qb lb mb:Nat}{b:List (List Sl)}(h:ig w qb lb mb b)(a:Int):∃(k:Nat) (l:List Sl),b[k]?=some l/\bc a (8:Nat)=k/\(bc a 8).toNat=k:=by
 obtain⟨k,c,d,e⟩:=jV a;exact⟨k,_,List.getElem?_eq_getElem (by rw[h.len];exact d),c,e⟩
theorem ig.drewN{w:World}{qb lb mb:Nat}{a:List (List Sl)}(h:ig w qb lb mb a)(n:Nat):ig (w.drewN n) qb lb mb a:=h.af ((Ch.refl _ _).drewN n)
def yv(b:Bool)(w:World)(e:Ending)(w':World):Prop:=e=.returned (.bool b)/\∃n,w'=w.drewN n
theorem yw(qb lb mb:Nat)(b:List (List Sl))(a mask:Int)(w:World)(h:ig w qb lb mb b):
 Calls prog 202 #[(qb,0),.int .u64 a,.int .u64 mask] w (yv (vR (b2 b) a mask) w):=by
 obtain⟨k,l,c,hb,f⟩:=h.bucket a;have d:=Z (ln qb lb mb b l k a mask false c hb w h);have E:=Z (lp b l k a mask false c f);obtain⟨r,g⟩:=nm (l.find? (dK a mask false));rw[g]at d E;have i:Hid (vR (b2 b) a mask=r.isSome):=Z (by unfold vR;rw[E];cases r<;>rfl);clear c hb f h g;cases r
 all_goals
  go_enter func202,ntmps202
  go_wp2_with (go_at_call 210;refine d.mono ?_;rintro e w' ⟨rfl,n,rfl⟩;simp only[rn,Option.map_none,Option.map_some])
  go_ret;rw[i];exact⟨rfl,n,rfl⟩
def rp(x:Int×Bool×List (List hx))(qb lb mb:Nat)(a:List (List Sl))(w:World)(e:Ending)(w':World):Prop:=yt (.tuple #[.int .u64 x.1,.bool x.2.1]) qb lb mb a x.2.2 w e w'
theorem v3(qb lb mb:Nat)(c:List (List Sl))(d mask:Int)(w:World)(h:ig w qb lb mb c):
 Calls prog 199 #[(qb,0),.int .u64 d,.int .u64 mask] w (rp (ez (b2 c) d mask) qb lb mb c w):=by
 obtain⟨k,l,f,hb,t⟩:=h.bucket d;have H:=Z h;have q:=Z (ln qb lb mb c l k d mask false f hb w h);have E:=Z (lp c l k d mask false f t);obtain⟨r,o⟩:=nm (l.find? (dK d mask false));rw[o]at q E;cases r with
 |none=>
  have p:Hid (ez (b2 c) d mask=(0,false,b2 c)):=Z (by unfold ez;rw[E];rfl);clear f hb t h o;go_enter func199,ntmps199
  go_wp2_with (go_at_call 210;refine q.mono ?_;rintro e w' ⟨rfl,n,rfl⟩;simp only[rn,Option.map_none,Option.map_some])
  go_ret2;rw[p];exact⟨rfl,c,H.drewN n,rfl,(Ch.refl _ _).drewN n,fun s j=>Or.inl ⟨s,j,rfl⟩,fun x A=>(H.drewN n).Ai A⟩
 |some s=>
  have j:=List.mem_of_find?_eq_some o;have v:=bo f j;have F:hJ (b2 c) s.id=some s.s∨∃y,hJ (b2 c) s.id=some y:=by
   right;rw[iT];cases O:c.flatten.find? (fun x=>x.id==s.id)with
   |none=>
    have:=List.find?_eq_none.1 O s v;simp at this
   |some y=>exact⟨_,rfl⟩
  have C:(dy (b2 c) s.id).1=true:=by
   unfold dy;rcases F with h|⟨y,h⟩<;>rw[h]
  have p:Hid (ez (b2 c) d mask=(s.id,true,(dy (b2 c) s.id).2)):=Z (by unfold ez;rw[E];rfl);have L:Hid (∀w,ig w qb lb mb c->Calls prog 107 #[(qb,0),.int .u64 s.id] w (yt (.bool true) qb lb mb c (dy (b2 c) s.id).2 w)):=Z (fun w h=>C▸oZ qb lb mb c s.id w h);obtain⟨a,b,I⟩:=(h.chain k l f).mem s j;have M:=Z I;have N:=Z v;clear f hb t h o j v F C I;go_enter func199,ntmps199
  go_wp2_with (go_at_call 210;refine q.mono ?_;rintro e w' ⟨rfl,n,rfl⟩;simp only[rn,Option.map_none,Option.map_some])
  obtain⟨K,z⟩:=nm (w.drewN n);have m:Hid (Ch ag w K):=Z (by rw[<-z];exact(Ch.refl _ _).drewN n);rw[z];clear z;have Q:=(M.ch m (fun h=>h)).cell (i:=0) rfl;go_region_held3 (fun w'=>w'.cell? ⟨s.b,0,none⟩=some (.int .u64 s.id)) (go_keep) ((go_at_call 107;refine(L K.drew (H.af m.drew)).mono ?_;rintro e w2 ⟨rfl,P,G,J,B,D,u⟩;have g:=Z (And.intro G (And.intro J (And.intro B (And.intro D u))));have d0:=u s N;clear G J B D u))
  all_goals
   go_wp2
   go_ret2;rw[p];exact⟨rfl,P,g.1,g.2.1,(m.drew.af).trans g.2.2.1,fun x A=>(g.2.2.2.1 x A).imp id fun h=>Nat.le_trans m.size h,g.2.2.2.2⟩
theorem o0(t:TypeId)(x:Value)(w:World):Calls prog 92 #[.iface t x] w (fun e w'=>e=.returned (.iface 197 (.pointer (some (w.heap.size,0))))/\w.alloc (.cells #[.string ⟨#[119,97,105,116,113]⟩,.int .i64 0,.iface t x] 199)=w'):=by
 go_enter func92,ntmps92
 go_wp2
 go_ret;exact⟨rfl,rfl⟩
end Go.Proofs.YtfnilkpkogipfaaGreatDoor
