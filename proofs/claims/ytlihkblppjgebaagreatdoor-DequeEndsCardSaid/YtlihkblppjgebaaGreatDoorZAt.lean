import Derived.Deep.LoopGhost
import Derived.Test.YtlihkblppjgebaaGreatDoorZAp
import Derived.Test.YtlihkblppjgebaaGreatDoorZAq
set_option linter.all false
set_option maxRecDepth 100000
set_option maxHeartbeats 8000000
namespace Go.Proofs.YtlihkblppjgebaaGreatDoor
open Go.RowKit Go.Proofs.Tryz
theorem je{a c:List Sl}{x:Sl}(h:((a++x::c).map Sl.b).Nodup):∀y,y∈a∨y∈c->y.b≠x.b:=by
 rw[List.map_append,List.map_cons,List.nodup_append,List.nodup_cons]at h;obtain⟨_,⟨d,_⟩,f⟩:=h;rintro y (b|b) e
 ·exact f _ (List.mem_map_of_mem b) _ List.mem_cons_self e
 ·exact d (e▸List.mem_map_of_mem b)
theorem mT{a:List (List Sl)}{k:Nat}{x y:List Sl}(h:a[k]?=some x)(b:bO x=bO y):(a.set k y).flatMap bO=a.flatMap bO:=by
 rw[List.flatMap_def,List.flatMap_def,List.map_set,<-b,jL (by rw[List.getElem?_map,h];rfl)]
theorem kp(a:List (List Sl)):(a.flatMap bO).length=a.length*2:=a7 iF a
def m9(lb k:Nat)(a:List (List Sl))(l':List Sl)(w:World)(e:Ending)(w':World):Prop:=
 e=.returned (.tuple #[])/\Row w' lb 217 ((a.set k l').flatMap bO)/\bM w' none none l'/\Ch (fun i=>i=lb∨∃x∈l',x.b=i) w w'
theorem lM(qb lb k:Nat)(q:Value)(p:List (List Sl))(pre post:List Sl)(s:Sl)(w:World)(C:Row w qb 214 [.slice (some ⟨lb,0,none⟩) (8:Nat) (8:Nat),q])
 (m:Row w lb 217 (p.flatMap bO)) (hlen:p.length=8) (o:p[k]?=some (pre++s::post)) (I:bM w none none (pre++s::post)) (hb:bc s.ad (8:Nat)=k)
 (l:((pre++s::post).map Sl.b).Nodup):Calls prog 128 #[bf qb,bf s.b] w (m9 lb k p (pre++post) w):=by
 have B:k<8:=by rw[<-hlen];exact(List.getElem?_eq_some_iff.1 o).1
 have A:(p.flatMap bO).length=8*2:=by rw[kp,hlen]
 obtain⟨N,n,H⟩:=bM.mid.1 I;have K:=je l;have E:∀y:Sl,y∈pre++s::post->y.b≠lb:=fun y U=>by
  obtain⟨a,b,Q⟩:=I.mem y U;exact Q.ne m (by decide)
 rcases List.eq_nil_or_concat pre with rfl|⟨g,x,rfl⟩
 ·cases post with
  |nil=>
   refine(kU qb lb 8 8 k s.b q _ s.id s.ad s.mask (by omega) (by omega) hb B w C m A n).mono ?_;rintro e w' ⟨rfl,h,c⟩;refine⟨rfl,?_,trivial,c.mono fun i f=>Or.inl f⟩;have:=kt (y:=[]) (a:=.pointer none) (b:=.pointer none) o rfl;rw[this]at h;exact h
  |cons y r=>
   obtain⟨t,u⟩:=fP.1 H;refine(kN qb lb 8 8 k s.b y.b q _ s.id s.ad s.mask y.id y.ad y.mask _ _ (by omega) (by omega) hb B w C m A n t (K y (by simp)).symm).mono ?_;rintro e w' ⟨rfl,h,G,c⟩;have D:∀z∈r,z.b≠y.b:=(fun z d=>je (a:=[s]) (x:=y) (c:=r) (by simpa using l) z (Or.inr d));refine⟨rfl,?_,⟨G,u.ch c ?_⟩,c.mono fun i f=>f.imp id fun f=>⟨y,by simp,f.symm⟩⟩
   ·have:=fg (enc:=bO) (k:=2) iF o (y:=y::r) (j:=0) (v:=bf y.b) (by omega) (by simp[bO,List.getLast?_cons_cons,ptrTo,bf])
    rw[Nat.add_zero]at this;rw[show(.pointer (some ⟨y.b,0,none⟩):Value)=bf y.b from rfl,this]at h;exact h
   ·rintro z d (e|e)
    ·exact E z (by simp[d]) e
    ·exact D z d e
 ·rw[List.concat_eq_append]at*
  obtain⟨t,u⟩:=bM.snoc.1 N;have L:∀z∈g,z.b≠x.b:=fun z d=>je (a:=g) (x:=x) (c:=s::post) (by simpa using l) z (Or.inl d)
  have M:s.b≠x.b:=je (a:=g) (x:=x) (c:=s::post) (by simpa using l) s (Or.inr (by simp));have J:((g++[x]).getLast?.map Sl.b).or none=some x.b:=by simp
  rw[J]at n;cases post with
  |nil=>
   refine(kW qb lb 8 8 k s.b x.b q _ s.id s.ad s.mask x.id x.ad x.mask _ _ (by omega) (by omega) hb B w C m A n u M).mono ?_;rintro e w' ⟨rfl,h,F,c⟩;rw[List.append_nil];refine⟨rfl,?_,bM.snoc.2 ⟨t.ch c ?_,F⟩,c.mono fun i f=>f.imp id fun f=>⟨x,by simp,f.symm⟩⟩
   ·have:=fg (enc:=bO) (k:=2) iF o (y:=g++[x]) (j:=1) (v:=bf x.b) (by omega) (by simp[bO,ptrTo,bf,List.head?_append,List.getLast?_append])
    rw[show(.pointer (some ⟨x.b,0,none⟩):Value)=bf x.b from rfl,this]at h;exact h
   ·rintro z d (e|e)
    ·exact E z (by simp[d]) e
    ·exact L z d e
  |cons y r=>
   obtain⟨O,P⟩:=fP.1 H;have R:s.b≠y.b:=(K y (by simp)).symm;have T:x.b≠y.b:=(je (a:=g) (x:=x) (c:=s::y::r) (by simpa using l) y (Or.inr (by simp))).symm;have D:∀z,z∈g++[x,s]∨z∈r->z.b≠y.b:=je (a:=g++[x,s]) (x:=y) (c:=r) (by simpa using l);have S:∀z∈r,z.b≠x.b:=(fun z d=>je (a:=g) (x:=x) (c:=s::y::r) (by simpa using l) z (Or.inr (by simp[d])));refine(lL qb lb 8 8 k s.b x.b y.b q _ s.id s.ad s.mask x.id x.ad x.mask _ _ _ _ y.id y.ad y.mask (by omega) (by omega) hb B w C m A n u O M R T).mono ?_;rintro e w' ⟨rfl,F,G,c⟩;refine⟨rfl,?_,bM.app.2 ⟨bM.snoc.2 ⟨t.ch c ?_,F⟩,?_⟩,c.mono fun i f=>Or.inr (f.elim (fun f=>⟨x,by simp,f.symm⟩) (fun f=>⟨y,by simp,f.symm⟩))⟩
   ·rw[mT o (by simp[bO,List.head?_append,List.getLast?_append,List.getLast?_cons_cons])]
    exact m.ch c (by rintro(e|e);exact E x (by simp) e.symm;exact E y (by simp) e.symm)
   ·rintro z d (e|e)
    ·exact L z d e
    ·exact D z (Or.inl (by simp[d])) e
   ·rw[J]
    exact⟨G,P.ch c (by rintro z d (e|e);exact S z d e;exact D z (Or.inr d) e)⟩
theorem n9{a:List (List Sl)}{k j:Nat}{l m:List Sl}(h:(a.flatten.map Sl.b).Nodup)(f:a[k]?=some l)(hj:a[j]?=some m)(n:j≠k){x s:Sl}(c:x∈l)(b:s∈m):x.b≠s.b:=by
 rw[(jw f).1,List.map_append,List.map_append,List.nodup_append,List.nodup_append]at h;obtain⟨⟨_,_,d⟩,_,e⟩:=h;by_cases g:j<k
 ·have:s∈(a.take k).flatten:=List.mem_flatten.2 ⟨m,List.mem_of_getElem? (by rw[List.getElem?_take,if_pos g];exact hj),b⟩
  exact(d _ (List.mem_map_of_mem this) _ (List.mem_map_of_mem c)).symm
 ·have:s∈(a.drop (k+1)).flatten:=List.mem_flatten.2 ⟨m,List.mem_of_getElem? (i:=j-(k+1)) (by rw[List.getElem?_drop,show k+1+(j-(k+1))=j from by omega];exact hj),b⟩
  exact e _ (List.mem_append_right _ (List.mem_map_of_mem c)) _ (List.mem_map_of_mem this)
theorem ig.re{w w':World}{qb lb mb:Nat}{a:List (List Sl)}(h:ig w qb lb mb a){k:Nat}{l l':List Sl}(d:a[k]?=some l){D:Nat->Prop}(c:Ch D w w')(p:∀i,i<w.heap.size->D i->i=lb∨i=mb∨∃x∈l,x.b=i)
 (u:Row w' lb 217 ((a.set k l').flatMap bO)) (t:bM w' none none l')
 (n:∃m,bH w' mb .u64 bf m/\f' m/\∀id,aw m id=((a.set k l').flatten.find? (fun s=>s.id==id)).map Sl.b)
 (v:((a.set k l').flatten.map Sl.b).Nodup) (y:((a.set k l').flatten.map Sl.id).Nodup) (r:∀s∈l',bc s.ad (8:Nat)=k):ig w' qb lb mb (a.set k l') where
 head:=h.head.ch c (fun g=>by
  obtain⟨m,n,_⟩:=h.map;rcases p _ h.head.lt g with e|e|⟨x,o,e⟩
  ·exact h.head.ne h.ends (by decide) e
  ·exact n.ne h.head e.symm
  ·exact(h.apart (bo d o)).1 e)
 ends:=u
 len:=by rw[List.length_set];exact h.len
 chain:=fun j m hj=>by
  by_cases b:k=j
  ·subst b
   have:m=l':=by
    rw[List.getElem?_set_self (List.getElem?_eq_some_iff.1 d).1]at hj;exact(Option.some.inj hj).symm
   subst this;exact t
  ·rw[List.getElem?_set_ne b]at hj
   refine(h.chain j m hj).ch c (fun s q g=> ?_);have f:=h.apart (bo hj q);rcases p _ f.2.2.2 g with e|e|⟨x,o,e⟩
   ·exact f.2.1 e
   ·exact f.2.2.1 e
   ·exact n9 h.nd d hj (fun e=>b e.symm) o q e
 map:=n
 nd:=v
 xL:=y
 at_:=fun j m hj=>by
  by_cases b:k=j
  ·subst b
   have:m=l':=by
    rw[List.getElem?_set_self (List.getElem?_eq_some_iff.1 d).1]at hj;exact(Option.some.inj hj).symm
   subst this;exact r
  ·rw[List.getElem?_set_ne b]at hj
   exact h.at_ j m hj
theorem ng(a:List (List Sl)):(b2 a).flatten=a.flatten.map Sl.s:=by unfold b2;rw[List.map_flatten]
theorem oa(a:List (List Sl))(id:Int):hJ (b2 a) id=(a.flatten.find? (fun s=>s.id==id)).map Sl.s:=by
 unfold hJ;rw[ng,List.find?_map];rfl
def qn(v:Value)(qb lb mb:Nat)(a:List (List Sl))(c:List (List hx))(w:World)(e:Ending)(w':World):Prop:=
 e=.returned v/\∃b,ig w' qb lb mb b/\b2 b=c/\Ch (QD qb lb mb a) w w'/\(∀s∈b.flatten,(∃x∈a.flatten,x.b=s.b)∨w.heap.size<=s.b)/\∀x∈a.flatten,w'.cell? ⟨x.b,0,none⟩=some (.int .u64 x.id)
theorem ig.qt{w:World}{qb lb mb:Nat}{c:List (List Sl)}(h:ig w qb lb mb c){x:Sl}(f:x∈c.flatten):w.cell? ⟨x.b,0,none⟩=some (.int .u64 x.id):=by
 obtain⟨k,pre,post,d⟩:=hM f;obtain⟨a,b,e⟩:=(h.chain k _ d).mem x (by simp);exact e.cell (i:=0) rfl
theorem kX{X Y:List Sl}{s:Sl}(h:((X++s::Y).map Sl.id).Nodup)(j:Int):(X++Y).find? (fun x=>x.id==j)=if j=s.id then none else(X++s::Y).find? (fun x=>x.id==j):=by
 rw[List.map_append,List.map_cons,List.nodup_append,List.nodup_cons]at h;obtain⟨_,⟨b,_⟩,c⟩:=h;split
 ·rename_i e
  subst e;rw[List.find?_eq_none];intro x a;rcases List.mem_append.1 a with a|a
  ·simpa using c _ (List.mem_map_of_mem a) _ List.mem_cons_self
  ·have:s.id≠x.id:=fun e=>b (e▸List.mem_map_of_mem a)
   simpa using this.symm
 ·rename_i e
  have:(s.id==j)=false:=by simpa using fun h=>e h.symm
  rw[List.find?_append,List.find?_append,List.find?_cons,this]
theorem oc{X Y:List Sl}{s:Sl}{α:Type}{f:Sl->α}(h:((X++s::Y).map f).Nodup):((X++Y).map f).Nodup:=by
 refine List.Nodup.sublist ?_ h;exact List.Sublist.map _ (List.Sublist.append (List.Sublist.refl _) (List.sublist_cons_self _ _))
theorem k9{a:List (List Sl)}{k:Nat}{pre post:List Sl}{s:Sl}(d:a[k]?=some (pre++s::post)):∃X Y,a.flatten=X++s::Y/\(a.set k (pre++post)).flatten=X++Y:=by
 obtain⟨b,c⟩:=jw d;exact⟨(a.take k).flatten++pre,post++(a.drop (k+1)).flatten,by rw[b];simp,by rw[c];simp⟩
theorem od{b:List (List Sl)}{k:Nat}{pre post:List Sl}{s:Sl}(d:b[k]?=some (pre++s::post))(q:(b.flatten.map Sl.id).Nodup):b2 (b.set k (pre++post))=(b2 b).map fun l=>l.filter fun x=>x.id !=s.id:=by
 obtain⟨X,Y,i,n⟩:=k9 d;have f:∀x∈(b.set k (pre++post)).flatten,x.id≠s.id:=by
  intro x h e;rw[n]at h;have:=kX (i▸q) s.id;rw[if_pos rfl,List.find?_eq_none]at this;exact this x h (by simpa using e)
 apply List.ext_getElem?;intro j;unfold b2;rw[List.getElem?_map,List.getElem?_map,List.getElem?_map];by_cases hj:k=j
 ·subst hj
  rw[List.getElem?_set_self (List.getElem?_eq_some_iff.1 d).1,d];simp only[Option.map_some,List.map_append,List.map_cons,List.filter_append];have g:∀z∈pre++post,z.id≠s.id:=fun z a=>f z (bo (k:=k) (List.getElem?_set_self (List.getElem?_eq_some_iff.1 d).1) a)
  rw[List.filter_cons_of_neg (by simp[Sl.s]),List.filter_eq_self.2,List.filter_eq_self.2]
  ·intro z a
   obtain⟨y,c,rfl⟩:=List.mem_map.1 a;simpa[Sl.s]using g y (by simp[c])
  ·intro z a
   obtain⟨y,c,rfl⟩:=List.mem_map.1 a;simpa[Sl.s]using g y (by simp[c])
 ·rw[List.getElem?_set_ne hj]
  cases o:b[j]? with
  |none=>rfl
  |some m=>
   simp only[Option.map_some];rw[List.filter_eq_self.2];intro z a;obtain⟨y,c,rfl⟩:=List.mem_map.1 a;have p:(b.set k (pre++post))[j]?=some m:=(by rw[List.getElem?_set_ne hj];exact o);simpa[Sl.s]using f y (bo p c)
theorem nh(qb lb mb:Nat)(c:List (List Sl))(id:Int)(w:World)(h:ig w qb lb mb c):
 Calls prog 85 #[.pointer (some ⟨qb,0,none⟩),.int .u64 id] w (qn (.bool (dy (b2 c) id).1) qb lb mb c (dy (b2 c) id).2 w):=by
 have H:=Z h;obtain⟨m,B,V,C⟩:=h.map;have v:=Z B;have I:=Z V;have al:=h.head.k 1 rfl;have o:=iW (P:=prog) (w:=w) (T:=212) (K:=39) (E:=215) (z:=.pointer none) underlying212 underlying39 (by kernel_rfl) B id;have a2:=Z C;rw[C]at o;obtain⟨r,n⟩:=nm (c.flatten.find? (fun s=>s.id==id));rw[n]at o;have u:=Z (oa c id);rw[n]at u;clear h B V C;cases r with
 |none=>
  have E:Hid (dy (b2 c) id=(false,b2 c)):=Z (by unfold dy;rw[u.out];rfl);clear n;simp only[Option.map_none,Option.getD_none]at o;go_enter func85,ntmps85
  go_wp2
  go_ret;rw[E.out];exact⟨rfl,c,H.out,rfl,Ch.refl _ _,fun s t=>Or.inl ⟨s,t,rfl⟩,fun x a=>H.out.qt a⟩
 |some s=>
  have t:=List.mem_of_find?_eq_some n;have G:s.id=id:=by have:=List.find?_some n;simpa using this
  obtain⟨k,pre,post,f⟩:=hM t;have hb:=H.out.at_ k _ f s (by simp);obtain⟨X,Y,O,Q⟩:=k9 f;have F:((pre++s::post).map Sl.b).Nodup:=by
   refine List.Nodup.sublist ?_ H.out.nd;rw[(jw f).1];exact List.Sublist.map _ ((List.sublist_append_right _ _).trans (List.sublist_append_left _ _))
  have ad:=Z (fun w ap am q=>lM qb lb k (.map (some mb)) c pre post s w ap am H.out.len f q hb F);have E:Hid (dy (b2 c) id=(true,b2 (c.set k (pre++post)))):=Z (by
   unfold dy;rw[u.out,od f H.out.xL,G];rfl)
  have b:=Z (And.intro f (And.intro O Q));have J:=Z G;have av:=Z hb;have a3:=Z (je F);clear n t G f hb O Q F;simp only[Option.map_some,Option.getD_some,bf]at o;go_enter func85,ntmps85
  go_wp2_with fail
  refine(ad.out _ H.out.head H.out.ends (H.out.chain k _ b.out.1)).mono ?_;rintro e w1 ⟨rfl,R,q,l⟩;have M:∀i,(i=lb∨∃x∈pre++post,x.b=i)->QD qb lb mb c i:=fun i d=>by
   rcases d with rfl|⟨x,a,rfl⟩
   ·exact Or.inr (Or.inl rfl)
   ·exact Or.inr (Or.inr (Or.inr ⟨x,bo b.out.1 (by simp at a⊢;rcases a with a|a<;>simp[a]),rfl⟩))
  have U:¬(mb=lb∨∃x∈pre++post,x.b=mb):=by
   rintro(e|⟨x,a,e⟩)
   ·exact v.out.ne H.out.ends e
   ·exact(H.out.apart (bo b.out.1 (by simp at a⊢;rcases a with a|a<;>simp[a]))).2.2.1 e
  have W:¬(qb=lb∨∃x∈pre++post,x.b=qb):=by
   rintro(e|⟨x,a,e⟩)
   ·exact H.out.head.ne H.out.ends (by decide) e
   ·exact(H.out.apart (bo b.out.1 (by simp at a⊢;rcases a with a|a<;>simp[a]))).1 e
  have S:=v.out.ch l U;have d1:=(H.out.head.ch l W).cell (i:=1) rfl;obtain⟨w2,bi,N,g⟩:=iZ (P:=prog) (T:=212) (K:=39) (E:=215) (ty:=0) (kT:=39) underlying212 underlying39 S id;have y:Hid (ig w2 qb lb mb (c.set k (pre++post))/\Ch (QD qb lb mb c) w w2):=Z (by
   refine⟨H.out.re b.out.1 (D:=fun i=>(i=lb∨∃x∈pre++post,x.b=i)∨i=mb) ((l.mono fun i d=>Or.inl d).trans (g.mono fun i d=>Or.inr d)) ?_ (R.ch g (fun e=>v.out.ne H.out.ends (show mb=lb from Eq.symm e))) (q.ch g ?_) ⟨_,N,(I.out.del id).1,?_⟩ ?_ ?_ ?_,(l.mono M).trans (g.mono fun i d=>Or.inr (Or.inr (Or.inl d)))⟩
   ·rintro i _ ((d|⟨x,a,d⟩)|d)
    ·exact Or.inl d
    ·exact Or.inr (Or.inr ⟨x,by simp at a⊢;rcases a with a|a<;>simp[a],d⟩)
    ·exact Or.inr (Or.inl d)
   ·intro x a e
    exact(H.out.apart (bo b.out.1 (by simp at a⊢;rcases a with a|a<;>simp[a]))).2.2.1 e
   ·intro j
    rw[b.out.2.2,kX (b.out.2.1▸H.out.xL) j,<-b.out.2.1];by_cases hj:j=id
    ·subst hj
     rw[(I.out.del j).2,if_pos J.out.symm];rfl
    ·rw[fZ _ _ _ hj,a2.out,if_neg (by rw[J.out];exact hj)]
   ·rw[b.out.2.2];exact oc (b.out.2.1▸H.out.nd)
   ·rw[b.out.2.2];exact oc (b.out.2.1▸H.out.xL)
   ·intro x a
    exact H.out.at_ k _ b.out.1 x (by simp at a⊢;rcases a with a|a<;>simp[a]))
  have ab:Hid (w2.cell? ⟨s.b,0,none⟩=some (.int .u64 s.id)):=Z (by
   have a0:s∈c.flatten:=bo b.out.1 (by simp);have A:=H.out.apart a0;have L:=(l.cell (p:=⟨s.b,0,none⟩) A.2.2.2 (by
    rintro(e|⟨x,a,e⟩)
    ·exact A.2.1 e
    ·exact a3.out x (by simpa using a) e)).trans (H.out.qt a0)
   exact(g.cell (p:=⟨s.b,0,none⟩) (aE L) (fun e=>A.2.2.1 e)).trans L)
  clear R q l M U W S N g o al;go_wp2
  go_ret;rw[E.out];refine⟨rfl,_,y.out.1,rfl,y.out.2,fun x a=>Or.inl ⟨x,?_,rfl⟩,fun x a=> ?_⟩
  ·rw[b.out.2.2]at a
   rw[b.out.2.1];simp at a⊢;rcases a with a|a<;>simp[a]
  ·rw[b.out.2.1]at a
   by_cases a1:x=s
   ·rw[a1];exact ab.out
   ·refine y.out.1.qt ?_
    rw[b.out.2.2];simp at a⊢;rcases a with a|a|a
    ·exact Or.inl a
    ·exact absurd a a1
    ·exact Or.inr a
theorem ig.drewN{w:World}{qb lb mb:Nat}{a:List (List Sl)}(h:ig w qb lb mb a)(n:Nat):ig (w.drewN n) qb lb mb a:=h.af ((Ch.refl _ _).drewN n)
structure iE(w:World)(qb lb:Nat)(mv:Value)(ls:List (List Sl)):Prop where
 head:Row w qb 214 [.slice (some ⟨lb,0,none⟩) (8:Nat) (8:Nat),mv]
 ends:Row w lb 217 (ls.flatMap bO)
 len:ls.length=8
 chain:∀(k:Nat) (l:List Sl),ls[k]?=some l->bM w none none l
 nd:(ls.flatten.map Sl.b).Nodup
theorem ig.core{w:World}{qb lb mb:Nat}{a:List (List Sl)}(h:ig w qb lb mb a):iE w qb lb (.map (some mb)) a:=⟨h.head,h.ends,h.len,h.chain,h.nd⟩
theorem iE.apart{w:World}{qb lb:Nat}{g:Value}{d:List (List Sl)}(h:iE w qb lb g d){s:Sl}(f:s∈d.flatten):s.b≠qb/\s.b≠lb/\s.b<w.heap.size:=by
 obtain⟨k,pre,post,e⟩:=hM f;obtain⟨a,b,c⟩:=(h.chain k _ e).mem s (by simp);exact⟨c.ne h.head (by decide),c.ne h.ends (by decide),c.lt⟩
theorem iE.ch{w w':World}{D:Nat->Prop}{qb lb:Nat}{d:Value}{a:List (List Sl)}(h:iE w qb lb d a)(c:Ch D w w')(e:¬D qb)(f:¬D lb)(g:∀s∈a.flatten,¬D s.b):iE w' qb lb d a:=
 ⟨h.head.ch c e,h.ends.ch c f,h.len,fun k l b=>(h.chain k l b).ch c (fun s i=>g s (bo b i)),h.nd⟩
theorem iE.re{w w':World}{qb lb:Nat}{d:Value}{a:List (List Sl)}(h:iE w qb lb d a){k:Nat}{l l':List Sl}(n:a[k]?=some l){D:Nat->Prop}(c:Ch D w w')(p:¬D qb)(f:∀j m s,a[j]?=some m->j≠k->s∈m->¬D s.b)
 (i:Row w' lb 217 ((a.set k l').flatMap bO)) (g:bM w' none none l') (o:((a.set k l').flatten.map Sl.b).Nodup):iE w' qb lb d (a.set k l') where
 head:=h.head.ch c p
 ends:=i
 len:=by rw[List.length_set];exact h.len
 chain:=fun j m hj=>by
  by_cases b:k=j
  ·subst b
   have:m=l':=by
    rw[List.getElem?_set_self (List.getElem?_eq_some_iff.1 n).1]at hj;exact(Option.some.inj hj).symm
   subst this;exact g
  ·rw[List.getElem?_set_ne b]at hj
   exact(h.chain j m hj).ch c (fun s q=>f j m s hj (fun e=>b e.symm) q)
 nd:=o
section
inductive a4 where
 |no|gx|mem|al|bW|ring|q|tab|obj|tm|wk|out|code|back
 |th (id:Int)|tl (id:Int)|fr (id:Int) (k:Nat)
 deriving DecidableEq
structure cw where
 mb:Nat
 m:Nat
 c:Nat
 d:Nat
 ab:Nat
 cb:Nat
 ch:Nat
 cm:Nat
 cq:Nat
 rb:Nat
 rg:Nat
 qb:Nat
 ql:Nat
 qm:Nat
 tb:Nat
 tg:Nat
 ob:Nat
 og:Nat
 tm:Nat
 wb:Nat
 lc:Option Addr
 BT:Nat
 ll:Option Addr
 Et:Nat
 pc:Option Addr
 AY:Nat
structure Var where
 av:Value
 hv:Value
 ov:Value
 ls:List (List Sl)
 bB:Int->Nat
 lv:Int->Value
 fb:Int->Nat->Nat
 bv:Int->Nat->Value
 wv:Nat->Value
def ku(C:KC)(L:cw):List Value:=[.slice L.lc C.dx.length L.BT,.int .i64 C.loop,.slice L.ll C.calls.length L.Et,.slice L.pc C.bn.length L.AY,.int .i64 C.entry,.int .i64 C.wide,.int .i64 C.narrow]
def g0(L:cw)(ov:Value)(nw:Nat)(en at_ w draw:Int):List Value:=
 [bf L.m,bf L.ab,bf L.cb,bf L.rb,bf L.qb,bf L.tb,bf L.ob,.map (some L.tm),.slice (some ⟨L.wb,0,none⟩) nw nw,.int .i64 en,.int .i64 at_,.int .i64 w,.int .u64 draw,ov]
def cF(L:cw)(ov:Value)(C:KC)(nw:Nat)(en at_ w draw:Int):List Value:=ku C L++(C.rows.map (Value.int .i64)++g0 L ov nw en at_ w draw)
def ak.cells(x:ak)(v:Value):List Value:=[.int .u64 x.slot,.int .u64 x.hand,.bool x.parked,.int .i64 x.left]++x.f.cells v
theorem ak.len(x:ak×Value):(x.1.cells x.2).length=38:=by simp[ak.cells,cE.cU]
def Frame.post(f:Frame):List Value:=[.bool f.ca,.int .i64 f.num]
structure nl(w:World)(χ:Nat->a4)(L:cw)(ov:Value)(C:KC)(nw:Nat)(en at_ wn draw:Int):Prop where
 row:Row w L.mb 113 (cF L ov C nw en at_ wn draw)
 rows:C.rows.length=1000
 k:χ L.mb=.gx
structure v7(w:World)(χ:Nat->a4)(L:cw)(S:aF):Prop where
 is:aO w L.m L.c L.d S
 k1:χ L.m=.mem
 k2:χ L.c=.mem
 k3:χ L.d=.mem
structure DG(w:World)(χ:Nat->a4)(L:cw)(v:Value)(S:aZ):Prop where
 is:aR w L.ab L.m v S
 k1:χ L.ab=.al
 k2:∀g,v.ownBlock=some g->χ g=.al
structure yy(w:World)(χ:Nat->a4)(L:cw)(v:Value)(S:aN):Prop where
 is:aX w L.cb L.ch L.cm L.cq v S
 k1:χ L.cb=.bW
 k2:χ L.ch=.bW
 k3:χ L.cm=.bW
 k4:χ L.cq=.bW
 k5:∀g,v.ownBlock=some g->χ g=.bW
structure nn(w:World)(χ:Nat->a4)(L:cw)(q:List Int):Prop where
 is:eH w L.rb L.rg q
 k1:χ L.rb=.ring
 k2:χ L.rg=.ring
structure QC(w:World)(χ:Nat->a4)(L:cw)(ls:List (List Sl))(q:List (List hx)):Prop where
 is:ig w L.qb L.ql L.qm ls
 b2:b2 ls=q
 k:∀i,QD L.qb L.ql L.qm ls i->χ i=.q
structure yz(w:World)(χ:Nat->a4)(L:cw)(l:List aD):Prop where
 is:aU w L.tb L.tg l
 k1:χ L.tb=.tab
 k2:χ L.tg=.tab
structure yA(w:World)(χ:Nat->a4)(L:cw)(l:List bC):Prop where
 is:bL w L.ob L.og l
 k1:χ L.ob=.obj
 k2:χ L.og=.obj
structure AZ(w:World)(χ:Nat->a4)(L:cw)(bB:Int->Nat)(ai:List (Int×Thread)):Prop where
 is:bH w L.tm .u64 bf (ai.map fun x=>(x.1,bB x.1))
 k:χ L.tm=.tm
 nd:f' ai
structure yB(w:World)(χ:Nat->a4)(b:Nat)(v:Value)(id:Int)(t:Thread):Prop where
 is:Row w b 124 [.int .u64 t.id,v,.int .u64 t.eM]
 k:χ b=.th id
structure Aj(w:World)(χ:Nat->a4)(v:Value)(fb:Nat->Nat)(id:Int)(n:Nat):Prop where
 is:w.ownsRow 0 125 1 v n ((List.range n).map fun k=>bf (fb k))
 k:∀g,v.ownBlock=some g->χ g=.tl id
structure Ak(w:World)(χ:Nat->a4)(b:Nat)(v:Value)(id:Int)(k:Nat)(f:Frame):Prop where
 is:aG w b 0 127 [] f.post v f.f
 kf:χ b=.fr id k
 kb:∀g,v.ownBlock=some g->χ g=.back
def dd(l:List ak)(wv:Nat->Value):List (ak×Value):=l.zipIdx.map fun x=>(x.1,wv x.2)
structure DH(w:World)(χ:Nat->a4)(L:cw)(wv:Nat->Value)(l:List ak):Prop where
 is:Row w L.wb 120 ((dd l wv).flatMap fun x=>x.1.cells x.2)
 k:χ L.wb=.wk
 back:∀i x,l[i]?=some x->cp w (wv i) x.f.back
 kb:∀(i:Nat) (x:ak),l[i]?=some x->∀g,(wv i).ownBlock=some g->χ g=.back
 n:l.length<=64
structure yC(w:World)(χ:Nat->a4)(v:Value)(l:List Ev):Prop where
 is:w.ownsRow 0 82 11 v l.length (l.flatMap Ev.cells)
 k:∀g,v.ownBlock=some g->χ g=.out
structure uR(w:World)(χ:Nat->a4)(L:cw)(C:KC):Prop where
 mx:C.dx.length<=L.BT
 iU:C.calls.length<=L.Et
 my:C.bn.length<=L.AY
 ca:C.dx≠[]->∃g,L.lc=some ⟨g,0,none⟩/\eE w g C.dx/\χ g=.code
 prog:C.bn≠[]->∃g,L.pc=some ⟨g,0,none⟩/\eE w g C.bn/\χ g=.code
 calls:C.calls≠[]->∃g junk,L.ll=some ⟨g,0,none⟩/\Row w g 158 (C.calls.flatMap br.cells++junk)/\χ g=.code
structure MB(X:List a4)(w:World)(χ:Nat->a4)(L:cw)(Y:Var)(C:KC)(K:KS):Prop where
 head:.gx∉X->nl w χ L Y.ov C K.wk.length K.entries K.at_ K.w K.draw
 mem:.mem∉X->v7 w χ L K.mem
 al:.al∉X->DG w χ L Y.av K.blocks
 bW:.bW∉X->yy w χ L Y.hv K.clock
 ring:.ring∉X->nn w χ L K.ring
 q:.q∉X->QC w χ L Y.ls K.q
 tab:.tab∉X->yz w χ L K.table
 obj:.obj∉X->yA w χ L K.cV
 tm:.tm∉X->AZ w χ L Y.bB K.ai
 th:∀id t,aw K.ai id=some t-> .th id∉X->yB w χ (Y.bB id) (Y.lv id) id t
 tl:∀id t,aw K.ai id=some t-> .tl id∉X->Aj w χ (Y.lv id) (Y.fb id) id t.l.length
 fr:∀id t k f,aw K.ai id=some t->t.l[k]?=some f-> .fr id k∉X->Ak w χ (Y.fb id k) (Y.bv id k) id k f
 wk:.wk∉X->DH w χ L Y.wv K.wk
 out:.out∉X->yC w χ Y.ov K.out
 code:.code∉X->uR w χ L C
 small:∀i,χ i≠ .no->i<w.heap.size
def ae(w:World)(χ:Nat->a4)(L:cw)(Y:Var)(C:KC)(K:KS):Prop:=MB [] w χ L Y C K
structure eI(X:List a4)(χ aW:Nat->a4)(D:Nat->Prop)(w w':World):Prop where
 c:Ch D w w'
 Ff:∀i,i<w.heap.size->D i->χ i∈X
 same:∀i,i<w.heap.size->aW i=χ i
 small:∀i,aW i≠ .no->i<w'.heap.size
section
variable{X:List a4}{w w':World}{χ aW:Nat->a4}{D:Nat->Prop}{L:cw}{Y:Var}{C:KC}
theorem eI.nd(s:eI X χ aW D w w'){i:Nat}{c:a4}(e:i<w.heap.size)(b:χ i=c)(a:c∉X):¬D i:=fun d=>a (b▸s.Ff i e d)
theorem nl.tr{ov:Value}{nw:Nat}{en at_ wn draw:Int}(h:nl w χ L ov C nw en at_ wn draw)(s:eI X χ aW D w w')(a:.gx∉X):nl w' aW L ov C nw en at_ wn draw:=
 ⟨h.row.ch s.c (s.nd h.row.lt h.k a),h.rows,(s.same _ h.row.lt).trans h.k⟩
theorem v7.tr{S:aF}(h:v7 w χ L S)(s:eI X χ aW D w w')(a:.mem∉X):v7 w' aW L S:=
 ⟨h.is.ch s.c (s.nd h.is.head.lt h.k1 a) (s.nd h.is.cells.lt h.k2 a) (s.nd h.is.width.lt h.k3 a),(s.same _ h.is.head.lt).trans h.k1,(s.same _ h.is.cells.lt).trans h.k2,(s.same _ h.is.width.lt).trans h.k3⟩
theorem cB{B:Nat}{e:TypeId}{z:Nat}{v:Value}{n:Nat}{c:List Value}(h:w.ownsRow B e z v n c){g:Nat}(a:v.ownBlock=some g):g<w.heap.size:=by
 rcases h.2 with⟨rfl,_⟩|⟨g',cap,cur,rfl,_,b,_⟩
 ·cases a
 ·have:g'=g:=by simpa[Value.ownBlock]using a
  subst this;exact(Array.getElem?_eq_some_iff.1 b).1
theorem DG.tr{v:Value}{S:aZ}(h:DG w χ L v S)(s:eI X χ aW D w w')(b:.al∉X):DG w' aW L v S:=
 ⟨h.is.ch s.c (s.nd h.is.head.lt h.k1 b) (fun g a=>s.nd (cB h.is.own a) (h.k2 g a) b),(s.same _ h.is.head.lt).trans h.k1,fun g a=>(s.same _ (cB h.is.own a)).trans (h.k2 g a)⟩
theorem yy.tr{v:Value}{S:aN}(h:yy w χ L v S)(s:eI X χ aW D w w')(a:.bW∉X):yy w' aW L v S:=
 ⟨h.is.ch s.c (s.nd h.is.head.lt h.k1 a) (s.nd h.is.heap.head.lt h.k2 a) (s.nd h.is.heap.map.lt h.k3 a) (s.nd h.is.ff.lt h.k4 a) (fun g b=>s.nd (cB h.is.heap.own b) (h.k5 g b) a),
  (s.same _ h.is.head.lt).trans h.k1,(s.same _ h.is.heap.head.lt).trans h.k2,(s.same _ h.is.heap.map.lt).trans h.k3,(s.same _ h.is.ff.lt).trans h.k4,fun g b=>(s.same _ (cB h.is.heap.own b)).trans (h.k5 g b)⟩
theorem eH.A0{b g:Nat}{q:List Int}(h:eH w b g q):b<w.heap.size/\g<w.heap.size:=by
 obtain⟨cs,fr,a,_⟩:=h;exact⟨a.head.lt,a.rows.lt⟩
theorem nn.tr{q:List Int}(h:nn w χ L q)(s:eI X χ aW D w w')(a:.ring∉X):nn w' aW L q:=
 ⟨h.is.ch s.c (s.nd h.is.A0.1 h.k1 a) (s.nd h.is.A0.2 h.k2 a),(s.same _ h.is.A0.1).trans h.k1,(s.same _ h.is.A0.2).trans h.k2⟩
theorem ig.A0{qb lb mb:Nat}{a:List (List Sl)}(h:ig w qb lb mb a){i:Nat}(b:QD qb lb mb a i):i<w.heap.size:=by
 rcases b with rfl|rfl|rfl|⟨x,d,rfl⟩
 ·exact h.head.lt
 ·exact h.ends.lt
 ·obtain⟨m,c,_⟩:=h.map;exact c.lt
 ·exact(h.apart d).2.2.2
theorem QC.tr{b:List (List Sl)}{q:List (List hx)}(h:QC w χ L b q)(s:eI X χ aW D w w')(c:.q∉X):QC w' aW L b q:=
 ⟨h.is.ch s.c (fun i a=>s.nd (h.is.A0 a) (h.k i a) c),h.b2,fun i a=>(s.same _ (h.is.A0 a)).trans (h.k i a)⟩
theorem yz.tr{l:List aD}(h:yz w χ L l)(s:eI X χ aW D w w')(a:.tab∉X):yz w' aW L l:=
 ⟨h.is.ch s.c (s.nd h.is.head.lt h.k1 a) (s.nd h.is.rows.lt h.k2 a),(s.same _ h.is.head.lt).trans h.k1,(s.same _ h.is.rows.lt).trans h.k2⟩
theorem yA.tr{l:List bC}(h:yA w χ L l)(s:eI X χ aW D w w')(a:.obj∉X):yA w' aW L l:=
 ⟨h.is.ch s.c (s.nd h.is.head.lt h.k1 a) (s.nd h.is.rows.lt h.k2 a),(s.same _ h.is.head.lt).trans h.k1,(s.same _ h.is.rows.lt).trans h.k2⟩
theorem AZ.tr{a:Int->Nat}{ai:List (Int×Thread)}(h:AZ w χ L a ai)(s:eI X χ aW D w w')(b:.tm∉X):AZ w' aW L a ai:=
 ⟨h.is.ch s.c (s.nd h.is.lt h.k b),(s.same _ h.is.lt).trans h.k,h.nd⟩
theorem yB.tr{b:Nat}{v:Value}{id:Int}{t:Thread}(h:yB w χ b v id t)(s:eI X χ aW D w w')(a:.th id∉X):yB w' aW b v id t:=
 ⟨h.is.ch s.c (s.nd h.is.lt h.k a),(s.same _ h.is.lt).trans h.k⟩
theorem Aj.tr{v:Value}{fb:Nat->Nat}{id:Int}{n:Nat}(h:Aj w χ v fb id n)(s:eI X χ aW D w w')(b:.tl id∉X):Aj w' aW v fb id n:=
 ⟨ar h.is s.c (fun g a=>s.nd (cB h.is a) (h.k g a) b),fun g a=>(s.same _ (cB h.is a)).trans (h.k g a)⟩
theorem Ak.tr{b:Nat}{v:Value}{id:Int}{k:Nat}{f:Frame}(h:Ak w χ b v id k f)(s:eI X χ aW D w w')(c:.fr id k∉X)(hb:.back∉X):Ak w' aW b v id k f:=
 ⟨h.is.ch s.c (s.nd h.is.row.lt h.kf c) (fun g a=>s.nd (cB h.is.back a) (h.kb g a) hb),(s.same _ h.is.row.lt).trans h.kf,fun g a=>(s.same _ (cB h.is.back a)).trans (h.kb g a)⟩
theorem DH.tr{wv:Nat->Value}{l:List ak}(h:DH w χ L wv l)(s:eI X χ aW D w w')(c:.wk∉X)(hb:.back∉X):DH w' aW L wv l:=
 ⟨h.is.ch s.c (s.nd h.is.lt h.k c),(s.same _ h.is.lt).trans h.k,fun i x a=>(h.back i x a).ch s.c (fun g b=>s.nd (cB (h.back i x a) b) (h.kb i x a g b) hb),fun i x a g b=>(s.same _ (cB (h.back i x a) b)).trans (h.kb i x a g b),h.n⟩
theorem yC.tr{v:Value}{l:List Ev}(h:yC w χ v l)(s:eI X χ aW D w w')(b:.out∉X):yC w' aW v l:=
 ⟨ar h.is s.c (fun g a=>s.nd (cB h.is a) (h.k g a) b),fun g a=>(s.same _ (cB h.is a)).trans (h.k g a)⟩
theorem uR.tr(h:uR w χ L C)(s:eI X χ aW D w w')(e:.code∉X):uR w' aW L C where
 mx:=h.mx
 iU:=h.iU
 my:=h.my
 ca:=fun d=>by
  obtain⟨g,c,a,b⟩:=h.ca d;exact⟨g,c,a.ch s.c (s.nd a.lt b e),(s.same _ a.lt).trans b⟩
 prog:=fun d=>by
  obtain⟨g,c,a,b⟩:=h.prog d;exact⟨g,c,a.ch s.c (s.nd a.lt b e),(s.same _ a.lt).trans b⟩
 calls:=fun d=>by
  obtain⟨g,f,c,a,b⟩:=h.calls d;exact⟨g,f,c,a.ch s.c (s.nd a.lt b e),(s.same _ a.lt).trans b⟩
theorem ni{a:a4}{X Z:List a4}(h:a∉X++Z):a∉X/\a∉Z:=by simpa using h
theorem MB.step{K:KS}{Z:List a4}(h:MB Z w χ L Y C K)(s:eI X χ aW D w w')(hb:.back∉X):MB (X++Z) w' aW L Y C K where
 head:=fun a=>(h.head (ni a).2).tr s (ni a).1
 mem:=fun a=>(h.mem (ni a).2).tr s (ni a).1
 al:=fun a=>(h.al (ni a).2).tr s (ni a).1
 bW:=fun a=>(h.bW (ni a).2).tr s (ni a).1
 ring:=fun a=>(h.ring (ni a).2).tr s (ni a).1
 q:=fun a=>(h.q (ni a).2).tr s (ni a).1
 tab:=fun a=>(h.tab (ni a).2).tr s (ni a).1
 obj:=fun a=>(h.obj (ni a).2).tr s (ni a).1
 tm:=fun a=>(h.tm (ni a).2).tr s (ni a).1
 th:=fun id t b a=>(h.th id t b (ni a).2).tr s (ni a).1
 tl:=fun id t b a=>(h.tl id t b (ni a).2).tr s (ni a).1
 fr:=fun id t k f b c a=>(h.fr id t k f b c (ni a).2).tr s (ni a).1 hb
 wk:=fun a=>(h.wk (ni a).2).tr s (ni a).1 hb
 out:=fun a=>(h.out (ni a).2).tr s (ni a).1
 code:=fun a=>(h.code (ni a).2).tr s (ni a).1
 small:=s.small
theorem ae.step{K:KS}(h:ae w χ L Y C K)(s:eI X χ aW D w w')(hb:.back∉X):MB X w' aW L Y C K:=by
 have:=MB.step h s hb
 rwa [List.append_nil]at this
end
theorem eI.af{w w':World}{χ:Nat->a4}(c:Ch ag w w')(b:∀i,χ i≠ .no->i<w.heap.size):eI [] χ χ ag w w':=
 ⟨c,fun _ _ h=>h.elim,fun _ _=>rfl,fun i a=>Nat.lt_of_lt_of_le (b i a) c.size⟩
theorem ae.af{w w':World}{χ:Nat->a4}{L:cw}{Y:Var}{C:KC}{K:KS}(h:ae w χ L Y C K)(c:Ch ag w w'):ae w' χ L Y C K:=h.step (eI.af c h.small) (by simp)
theorem ae.drew{w:World}{χ:Nat->a4}{L:cw}{Y:Var}{C:KC}{K:KS}(h:ae w χ L Y C K):ae w.drew χ L Y C K:=h.af (Ch.refl _ _).drew
theorem ae.drewN{w:World}{χ:Nat->a4}{L:cw}{Y:Var}{C:KC}{K:KS}(h:ae w χ L Y C K)(n:Nat):ae (w.drewN n) χ L Y C K:=h.af ((Ch.refl _ _).drewN n)
theorem ae.alloc{w:World}{χ:Nat->a4}{L:cw}{Y:Var}{C:KC}{K:KS}(h:ae w χ L Y C K)(a:Obj):ae (w.alloc a) χ L Y C K:=h.af ((Ch.refl _ _).alloc a)
theorem eI.one{w w':World}{χ:Nat->a4}{D:Nat->Prop}{X:List a4}(c:Ch D w w')(a:∀i,D i->χ i∈X)(d:∀i,χ i≠ .no->i<w.heap.size):eI X χ χ D w w':=
 ⟨c,fun i _ h=>a i h,fun _ _=>rfl,fun i b=>Nat.lt_of_lt_of_le (d i b) c.size⟩
def cJ(χ:Nat->a4)(a:Option Nat)(c:a4):Nat->a4:=fun i=>if a=some i then c else χ i
theorem eI.cJ{w w':World}{χ:Nat->a4}{D:Nat->Prop}{X:List a4}{v b:Value}{k:a4}(c:Ch D w w')(e:∀i,i<w.heap.size->D i->χ i∈X)(l:∀i,χ i≠ .no->i<w.heap.size)(f:aQ w v b)(m:∀g,v.ownBlock=some g->χ g=k)(j:∀g,b.ownBlock=some g->g<w'.heap.size):
 eI X χ (cJ χ b.ownBlock k) D w w':=by
 refine⟨c,e,fun i a=> ?_,fun i a=> ?_⟩
 ·unfold Go.Proofs.YtlihkblppjgebaaGreatDoor.cJ
  split
  ·rename_i h
   rcases f i h with d|d
   ·exact(m i d).symm
   ·omega
  ·rfl
 ·unfold Go.Proofs.YtlihkblppjgebaaGreatDoor.cJ at a
  split at a
  ·rename_i h;exact j i h
  ·exact Nat.lt_of_lt_of_le (l i a) c.size
theorem hN{χ:Nat->a4}{v:Value}{k:a4}:∀g,v.ownBlock=some g->cJ χ v.ownBlock k g=k:=fun g a=>by unfold cJ;rw[if_pos a]
end
theorem MB.EH{w:World}{χ:Nat->a4}{L:cw}{Y:Var}{C:KC}{K:KS}{S:aF}(h:MB [.mem] w χ L Y C K)(c:v7 w χ L S):ae w χ L Y C {K with mem:=S} where
 head:=fun _=>h.head (by simp)
 mem:=fun _=>c
 al:=fun _=>h.al (by simp)
 bW:=fun _=>h.bW (by simp)
 ring:=fun _=>h.ring (by simp)
 q:=fun _=>h.q (by simp)
 tab:=fun _=>h.tab (by simp)
 obj:=fun _=>h.obj (by simp)
 tm:=fun _=>h.tm (by simp)
 th:=fun id t a _=>h.th id t a (by simp)
 tl:=fun id t a _=>h.tl id t a (by simp)
 fr:=fun id t k f a b _=>h.fr id t k f a b (by simp)
 wk:=fun _=>h.wk (by simp)
 out:=fun _=>h.out (by simp)
 code:=fun _=>h.code (by simp)
 small:=h.small
theorem MB.Fs{w:World}{χ:Nat->a4}{L:cw}{Y:Var}{C:KC}{K:KS}{v:Value}{b:aZ}{S:aF}(h:MB [.al,.mem] w χ L Y C K)(c:DG w χ L v b)(e:v7 w χ L S):ae w χ L {Y with av:=v} C {K with blocks:=b,mem:=S} where
 head:=fun _=>h.head (by simp)
 mem:=fun _=>e
 al:=fun _=>c
 bW:=fun _=>h.bW (by simp)
 ring:=fun _=>h.ring (by simp)
 q:=fun _=>h.q (by simp)
 tab:=fun _=>h.tab (by simp)
 obj:=fun _=>h.obj (by simp)
 tm:=fun _=>h.tm (by simp)
 th:=fun id t a _=>h.th id t a (by simp)
 tl:=fun id t a _=>h.tl id t a (by simp)
 fr:=fun id t k f a d _=>h.fr id t k f a d (by simp)
 wk:=fun _=>h.wk (by simp)
 out:=fun _=>h.out (by simp)
 code:=fun _=>h.code (by simp)
 small:=h.small
theorem MB.qu{w:World}{χ:Nat->a4}{L:cw}{Y:Var}{C:KC}{K:KS}{v:Value}{S:aN}(h:MB [.bW] w χ L Y C K)(b:yy w χ L v S):ae w χ L {Y with hv:=v} C {K with clock:=S} where
 head:=fun _=>h.head (by simp)
 mem:=fun _=>h.mem (by simp)
 al:=fun _=>h.al (by simp)
 bW:=fun _=>b
 ring:=fun _=>h.ring (by simp)
 q:=fun _=>h.q (by simp)
 tab:=fun _=>h.tab (by simp)
 obj:=fun _=>h.obj (by simp)
 tm:=fun _=>h.tm (by simp)
 th:=fun id t a _=>h.th id t a (by simp)
 tl:=fun id t a _=>h.tl id t a (by simp)
 fr:=fun id t k f a c _=>h.fr id t k f a c (by simp)
 wk:=fun _=>h.wk (by simp)
 out:=fun _=>h.out (by simp)
 code:=fun _=>h.code (by simp)
 small:=h.small
theorem MB.DI{w:World}{χ:Nat->a4}{L:cw}{Y:Var}{C:KC}{K:KS}{S:List Int}(h:MB [.ring] w χ L Y C K)(b:nn w χ L S):ae w χ L Y C {K with ring:=S} where
 head:=fun _=>h.head (by simp)
 mem:=fun _=>h.mem (by simp)
 al:=fun _=>h.al (by simp)
 bW:=fun _=>h.bW (by simp)
 ring:=fun _=>b
 q:=fun _=>h.q (by simp)
 tab:=fun _=>h.tab (by simp)
 obj:=fun _=>h.obj (by simp)
 tm:=fun _=>h.tm (by simp)
 th:=fun id t a _=>h.th id t a (by simp)
 tl:=fun id t a _=>h.tl id t a (by simp)
 fr:=fun id t k f a c _=>h.fr id t k f a c (by simp)
 wk:=fun _=>h.wk (by simp)
 out:=fun _=>h.out (by simp)
 code:=fun _=>h.code (by simp)
 small:=h.small
theorem MB.cQ{w:World}{χ:Nat->a4}{L:cw}{Y:Var}{C:KC}{K:KS}{b:List (List Sl)}{S:List (List hx)}(h:MB [.q] w χ L Y C K)(c:QC w χ L b S):ae w χ L {Y with ls:=b} C {K with q:=S} where
 head:=fun _=>h.head (by simp)
 mem:=fun _=>h.mem (by simp)
 al:=fun _=>h.al (by simp)
 bW:=fun _=>h.bW (by simp)
 ring:=fun _=>h.ring (by simp)
 q:=fun _=>c
 tab:=fun _=>h.tab (by simp)
 obj:=fun _=>h.obj (by simp)
 tm:=fun _=>h.tm (by simp)
 th:=fun id t a _=>h.th id t a (by simp)
 tl:=fun id t a _=>h.tl id t a (by simp)
 fr:=fun id t k f a d _=>h.fr id t k f a d (by simp)
 wk:=fun _=>h.wk (by simp)
 out:=fun _=>h.out (by simp)
 code:=fun _=>h.code (by simp)
 small:=h.small
theorem MB.EJ{w:World}{χ:Nat->a4}{L:cw}{Y:Var}{C:KC}{K:KS}{S:List aD}(h:MB [.tab] w χ L Y C K)(b:yz w χ L S):ae w χ L Y C {K with table:=S} where
 head:=fun _=>h.head (by simp)
 mem:=fun _=>h.mem (by simp)
 al:=fun _=>h.al (by simp)
 bW:=fun _=>h.bW (by simp)
 ring:=fun _=>h.ring (by simp)
 q:=fun _=>h.q (by simp)
 tab:=fun _=>b
 obj:=fun _=>h.obj (by simp)
 tm:=fun _=>h.tm (by simp)
 th:=fun id t a _=>h.th id t a (by simp)
 tl:=fun id t a _=>h.tl id t a (by simp)
 fr:=fun id t k f a c _=>h.fr id t k f a c (by simp)
 wk:=fun _=>h.wk (by simp)
 out:=fun _=>h.out (by simp)
 code:=fun _=>h.code (by simp)
 small:=h.small
theorem MB.DJ{w:World}{χ:Nat->a4}{L:cw}{Y:Var}{C:KC}{K:KS}{en at_ wn dr:Int}(h:MB [.gx] w χ L Y C K)(b:nl w χ L Y.ov C K.wk.length en at_ wn dr):ae w χ L Y C {K with entries:=en,at_:=at_,w:=wn,draw:=dr} where
 head:=fun _=>b
 mem:=fun _=>h.mem (by simp)
 al:=fun _=>h.al (by simp)
 bW:=fun _=>h.bW (by simp)
 ring:=fun _=>h.ring (by simp)
 q:=fun _=>h.q (by simp)
 tab:=fun _=>h.tab (by simp)
 obj:=fun _=>h.obj (by simp)
 tm:=fun _=>h.tm (by simp)
 th:=fun id t a _=>h.th id t a (by simp)
 tl:=fun id t a _=>h.tl id t a (by simp)
 fr:=fun id t k f a c _=>h.fr id t k f a c (by simp)
 wk:=fun _=>h.wk (by simp)
 out:=fun _=>h.out (by simp)
 code:=fun _=>h.code (by simp)
 small:=h.small
theorem MB.rr{w:World}{χ:Nat->a4}{L:cw}{Y:Var}{C:KC}{K:KS}{v:Value}{l:List Ev}(h:MB [.gx,.out] w χ L Y C K)(b:nl w χ L v C K.wk.length K.entries K.at_ K.w K.draw)(d:yC w χ v l):ae w χ L {Y with ov:=v} C {K with out:=l} where
 head:=fun _=>b
 mem:=fun _=>h.mem (by simp)
 al:=fun _=>h.al (by simp)
 bW:=fun _=>h.bW (by simp)
 ring:=fun _=>h.ring (by simp)
 q:=fun _=>h.q (by simp)
 tab:=fun _=>h.tab (by simp)
 obj:=fun _=>h.obj (by simp)
 tm:=fun _=>h.tm (by simp)
 th:=fun id t a _=>h.th id t a (by simp)
 tl:=fun id t a _=>h.tl id t a (by simp)
 fr:=fun id t k f a c _=>h.fr id t k f a c (by simp)
 wk:=fun _=>h.wk (by simp)
 out:=fun _=>d
 code:=fun _=>h.code (by simp)
 small:=h.small
theorem MB.Ft{w:World}{χ:Nat->a4}{L:cw}{Y:Var}{C:KC}{K:KS}{wv:Nat->Value}{l:List ak}(h:MB [.wk] w χ L Y C K)(d:l.length=K.wk.length)(b:DH w χ L wv l):ae w χ L {Y with wv:=wv} C {K with wk:=l} where
 head:=fun _=>by show nl w χ L Y.ov C l.length _ _ _ _;rw[d];exact h.head (by simp)
 mem:=fun _=>h.mem (by simp)
 al:=fun _=>h.al (by simp)
 bW:=fun _=>h.bW (by simp)
 ring:=fun _=>h.ring (by simp)
 q:=fun _=>h.q (by simp)
 tab:=fun _=>h.tab (by simp)
 obj:=fun _=>h.obj (by simp)
 tm:=fun _=>h.tm (by simp)
 th:=fun id t a _=>h.th id t a (by simp)
 tl:=fun id t a _=>h.tl id t a (by simp)
 fr:=fun id t k f a c _=>h.fr id t k f a c (by simp)
 wk:=fun _=>b
 out:=fun _=>h.out (by simp)
 code:=fun _=>h.code (by simp)
 small:=h.small
theorem yD{l:List (Int×Thread)}{k:Int}{v:Thread}{g:Int->Nat}(h:(aw l k).isSome):(b8 l k v).map (fun x=>(x.1,g x.1))=l.map (fun x=>(x.1,g x.1)):=by
 induction l with
 |nil=>rw[ya]at h;cases h
 |cons x l ih=>
  rw[dR];by_cases a:k=x.1
  ·rw[if_pos a];simp[a]
  ·rw[if_neg a]
   rw[cT,if_neg a]at h;simp only[List.map_cons,ih h]
theorem AZ.put{w:World}{χ:Nat->a4}{L:cw}{Y:Var}{l:List (Int×Thread)}{k:Int}{v:Thread}(h:AZ w χ L Y.bB l)(a:(aw l k).isSome):AZ w χ L Y.bB (b8 l k v):=
 ⟨by rw[yD (g:=Y.bB) a];exact h.is,h.k,h.nd.put k v⟩
theorem MB.qJ{w:World}{χ:Nat->a4}{L:cw}{Y:Var}{C:KC}{K:KS}{id:Int}{t b:Thread}(h:MB [.th id] w χ L Y C K)(d:aw K.ai id=some t)(g:b.l=t.l)(i:yB w χ (Y.bB id) (Y.lv id) id b):ae w χ L Y C (K.b9 id b) where
 head:=fun _=>h.head (by simp)
 mem:=fun _=>h.mem (by simp)
 al:=fun _=>h.al (by simp)
 bW:=fun _=>h.bW (by simp)
 ring:=fun _=>h.ring (by simp)
 q:=fun _=>h.q (by simp)
 tab:=fun _=>h.tab (by simp)
 obj:=fun _=>h.obj (by simp)
 tm:=fun _=>(h.tm (by simp)).put (by rw[d];rfl)
 th:=fun j u a _=>by
  rw[show(KS.b9 K id b).ai=b8 K.ai id b from rfl,aT]at a;split at a
  ·rename_i e;injection a with a;subst e a;exact i
  ·rename_i e;exact h.th j u a (by simp[e])
 tl:=fun j u a _=>by
  rw[show(KS.b9 K id b).ai=b8 K.ai id b from rfl,aT]at a;split at a
  ·rename_i e;injection a with a;subst e a;rw[g];exact h.tl j t d (by simp)
  ·exact h.tl j u a (by simp)
 fr:=fun j u k f a c _=>by
  rw[show(KS.b9 K id b).ai=b8 K.ai id b from rfl,aT]at a;split at a
  ·rename_i e;injection a with a;subst e a;rw[g]at c;exact h.fr j t k f d c (by simp)
  ·exact h.fr j u k f a c (by simp)
 wk:=fun _=>h.wk (by simp)
 out:=fun _=>h.out (by simp)
 code:=fun _=>h.code (by simp)
 small:=h.small
theorem MB.Fv{w:World}{χ:Nat->a4}{L:cw}{Y:Var}{C:KC}{K:KS}{id:Int}{k:Nat}{t:Thread}{f:Frame}{v:Value}(h:MB [.fr id k] w χ L Y C K)(g:aw K.ai id=some t)(o:k<t.l.length)(n:Ak w χ (Y.fb id k) v id k f):ae w χ L {Y with bv:=fun i j=>if i=id/\j=k then v else Y.bv i j} C (K.b9 id {t with l:=t.l.set k f}) where
 head:=fun _=>h.head (by simp)
 mem:=fun _=>h.mem (by simp)
 al:=fun _=>h.al (by simp)
 bW:=fun _=>h.bW (by simp)
 ring:=fun _=>h.ring (by simp)
 q:=fun _=>h.q (by simp)
 tab:=fun _=>h.tab (by simp)
 obj:=fun _=>h.obj (by simp)
 tm:=fun _=>(h.tm (by simp)).put (by rw[g];rfl)
 th:=fun j u a _=>by
  rw[show(KS.b9 K id {t with l:=t.l.set k f}).ai=b8 K.ai id {t with l:=t.l.set k f}from rfl,aT]at a;split at a
  ·rename_i e;injection a with a;subst e a;have:=h.th j t g (by simp);exact⟨this.is,this.k⟩
  ·exact h.th j u a (by simp)
 tl:=fun j u a _=>by
  rw[show(KS.b9 K id {t with l:=t.l.set k f}).ai=b8 K.ai id {t with l:=t.l.set k f}from rfl,aT]at a;split at a
  ·rename_i e;injection a with a;subst e a;have:=h.tl j t g (by simp);rw[List.length_set];exact this
  ·exact h.tl j u a (by simp)
 fr:=fun j u c m a b _=>by
  rw[show(KS.b9 K id {t with l:=t.l.set k f}).ai=b8 K.ai id {t with l:=t.l.set k f}from rfl,aT]at a;show Ak w χ (Y.fb j c) (if j=id/\c=k then v else Y.bv j c) j c m
  split at a
  ·rename_i e;injection a with a;subst e a
   by_cases d:c=k
   ·subst d
    rw[List.getElem?_set_self o]at b;injection b with b
    subst b;rw[if_pos ⟨rfl,rfl⟩];exact n
   ·rw[List.getElem?_set_ne (fun e=>d e.symm)]at b
    rw[if_neg (fun h=>d h.2)];exact h.fr j t c m g b (by simp[d])
  ·rename_i e
   rw[if_neg (fun h=>e h.1)];exact h.fr j u c m a b (by simp[e])
 wk:=fun _=>h.wk (by simp)
 out:=fun _=>h.out (by simp)
 code:=fun _=>h.code (by simp)
 small:=h.small
theorem MB.DL{w:World}{χ:Nat->a4}{L:cw}{Y:Var}{C:KC}{K:KS}{id:Int}{t:Thread}{f:Frame}{v bv':Value}{b fbk:Nat}(h:MB [.tm] w χ L Y C K)(p:aw K.ai id=none)(g:t.l=[f])(l:AZ w χ L (fun i=>if i=id then b else Y.bB i) (b8 K.ai id t))(n:yB w χ b v id t)(o:Aj w χ v (fun _=>fbk) id 1)(m:Ak w χ fbk bv' id 0 f):ae w χ L {Y with bB:=fun i=>if i=id then b else Y.bB i,lv:=fun i=>if i=id then v else Y.lv i,fb:=fun i j=>if i=id then fbk else Y.fb i j,bv:=fun i j=>if i=id then bv' else Y.bv i j} C {K with ai:=b8 K.ai id t} where
 head:=fun _=>h.head (by simp)
 mem:=fun _=>h.mem (by simp)
 al:=fun _=>h.al (by simp)
 bW:=fun _=>h.bW (by simp)
 ring:=fun _=>h.ring (by simp)
 q:=fun _=>h.q (by simp)
 tab:=fun _=>h.tab (by simp)
 obj:=fun _=>h.obj (by simp)
 tm:=fun _=>l
 th:=fun j u a _=>by
  rw[aT]at a;show yB w χ (if j=id then b else Y.bB j) (if j=id then v else Y.lv j) j u
  split at a
  ·rename_i e;injection a with a;subst e a;rw[if_pos rfl,if_pos rfl];exact n
  ·rename_i e;rw[if_neg e,if_neg e];exact h.th j u a (by simp)
 tl:=fun j u a _=>by
  rw[aT]at a;show Aj w χ (if j=id then v else Y.lv j) (fun k=>if j=id then fbk else Y.fb j k) j u.l.length
  split at a
  ·rename_i e;injection a with a;subst e a;rw[g];simpa using o
  ·rename_i e;simpa[e]using h.tl j u a (by simp)
 fr:=fun j u k d a c _=>by
  rw[aT]at a;show Ak w χ (if j=id then fbk else Y.fb j k) (if j=id then bv' else Y.bv j k) j k d
  split at a
  ·rename_i e;injection a with a;subst e a
   rw[g]at c;cases k with
   |zero=>
    have:f=d:=(by simpa using c);subst this;simpa using m
   |succ k=>simp at c
  ·rename_i e;simpa[e]using h.fr j u k d a c (by simp)
 wk:=fun _=>h.wk (by simp)
 out:=fun _=>h.out (by simp)
 code:=fun _=>h.code (by simp)
 small:=h.small
section
structure Nx(χ aW:Nat->a4)(w w':World):Prop where
 ch:Ch (fun i=>χ i≠ .no) w w'
 same:∀i,i<w.heap.size->aW i=χ i
theorem Nx.refl(χ:Nat->a4)(w:World):Nx χ χ w w:=⟨Ch.refl _ _,fun _ _=>rfl⟩
theorem Nx.trans{χ b c:Nat->a4}{w w1 w2:World}(h:Nx χ b w w1)(k:Nx b c w1 w2):Nx χ c w w2:=
 ⟨h.ch.join k.ch (fun i a d=>by rw[<-h.same i a];exact d),fun i a=>(k.same i (Nat.lt_of_lt_of_le a h.ch.size)).trans (h.same i a)⟩
theorem Nx.af{χ:Nat->a4}{w w':World}(c:Ch ag w w'):Nx χ χ w w':=⟨c.af,fun _ _=>rfl⟩
theorem Nx.of{X:List a4}{χ aW:Nat->a4}{D:Nat->Prop}{w w':World}(s:eI X χ aW D w w')(a:.no∉X):Nx χ aW w w':=
 ⟨⟨s.c.os,s.c.tape,s.c.output,s.c.size,fun b hb d=>s.c.same b hb (fun c=>a (by
  have:=s.Ff b hb c;have e:χ b=.no:=Classical.not_not.1 d
  rwa [e]at this))⟩,s.same⟩
def Yk(K:KS)(Y Y':Var):Prop:=∀id t,aw K.ai id=some t->Y'.bB id=Y.bB id/\∀k,k<t.l.length->Y'.fb id k=Y.fb id k
theorem Yk.refl(K:KS)(Y:Var):Yk K Y Y:=fun _ _ _=>⟨rfl,fun _ _=>rfl⟩
def Gr(K K':KS):Prop:=∀id t,aw K.ai id=some t->∃a,aw K'.ai id=some a/\t.l.length<=a.l.length
theorem Gr.refl(K:KS):Gr K K:=fun _ t h=>⟨t,h,Nat.le_refl _⟩
theorem Gr.of_eq{K K':KS}(h:K'.ai=K.ai):Gr K K':=fun _ t a=>⟨t,by rw[h];exact a,Nat.le_refl _⟩
theorem Gr.trans{K K1 K2:KS}(h:Gr K K1)(k:Gr K1 K2):Gr K K2:=fun id t e=>by
 obtain⟨t1,a,b⟩:=h id t e;obtain⟨t2,c,d⟩:=k id t1 a;exact⟨t2,c,Nat.le_trans b d⟩
theorem Yk.trans{K K1:KS}{Y b c:Var}(h:Yk K Y b)(g:Gr K K1)(k:Yk K1 b c):Yk K Y c:=fun id t a=>by
 obtain⟨t1,d,e⟩:=g id t a;exact⟨(k id t1 d).1.trans (h id t a).1,fun j hj=>((k id t1 d).2 j (by omega)).trans ((h id t a).2 j hj)⟩
structure dB(χ:Nat->a4)(L:cw)(Y:Var)(C:KC)(K K':KS)(w:World)(aW:Nat->a4)(Y':Var)(w':World):Prop where
 at_:ae w' aW L Y' C K'
 nx:Nx χ aW w w'
 yk:Yk K Y Y'
def de(v:Value)(χ:Nat->a4)(L:cw)(Y:Var)(C:KC)(K K':KS)(w:World)(e:Ending)(w':World):Prop:=e=.returned v/\∃aW Y',dB χ L Y C K K' w aW Y' w'
def np(ok:Bool)(χ:Nat->a4)(L:cw)(Y:Var)(C:KC)(K K':KS)(w:World)(e:Ending)(w':World):Prop:=(∃v,e=.returned v/\(if ok then v=.nilIface else aq v))/\∃aW Y',dB χ L Y C K K' w aW Y' w'
def v8(x:Option Int)(χ:Nat->a4)(L:cw)(Y:Var)(C:KC)(K K':KS)(w:World)(e:Ending)(w':World):Prop:=
 (match x with
  |some a=>e=.returned (.tuple #[.int .u64 a,.nilIface])
  |none=>∃v,e=.returned (.tuple #[.int .u64 0,v])/\aq v)/\∃aW Y',dB χ L Y C K K' w aW Y' w'
section
variable{w w':World}{χ:Nat->a4}{L:cw}{Y:Var}{C:KC}{K:KS}
theorem ae.hg(h:ae w χ L Y C K)(c:Ch ag w w'):dB χ L Y C K K w χ Y w':=⟨h.af c,Nx.af c,Yk.refl _ _⟩
theorem ae.o3(h:ae w χ L Y C K){S:aF}{D:Nat->Prop}(e:aO w' L.m L.c L.d S)(c:Ch D w w')(b:∀i,D i->i=L.m∨i=L.c∨i=L.d):dB χ L Y C K {K with mem:=S} w χ Y w':=by
 have a:=h.mem (by simp);have s:eI [.mem] χ χ D w w':=eI.one c (fun i d=>by rcases b i d with rfl|rfl|rfl<;>simp[a.k1,a.k2,a.k3]) h.small;exact⟨(h.step s (by simp)).EH ⟨e,a.k1,a.k2,a.k3⟩,Nx.of s (by simp),Yk.refl _ _⟩
theorem ae.tf(h:ae w χ L Y C K){q:List Int}(d:eH w' L.rb L.rg q)(c:Ch (di L.rb L.rg) w w'):dB χ L Y C K {K with ring:=q} w χ Y w':=by
 have a:=h.ring (by simp);have s:eI [.ring] χ χ (di L.rb L.rg) w w':=eI.one c (fun i b=>by rcases b with rfl|rfl<;>simp[a.k1,a.k2]) h.small;exact⟨(h.step s (by simp)).DI ⟨d,a.k1,a.k2⟩,Nx.of s (by simp),Yk.refl _ _⟩
theorem ae.l8(h:ae w χ L Y C K){l:List aD}(d:aU w' L.tb L.tg l)(c:Ch (aK L.tg) w w'):dB χ L Y C K {K with table:=l} w χ Y w':=by
 have a:=h.tab (by simp);have s:eI [.tab] χ χ (aK L.tg) w w':=eI.one c (fun i b=>by rcases b with rfl;simp[a.k2]) h.small;exact⟨(h.step s (by simp)).EJ ⟨d,a.k1,a.k2⟩,Nx.of s (by simp),Yk.refl _ _⟩
theorem ae.qp(h:ae w χ L Y C K){v:Value}{S:aN}(d:aX w' L.cb L.ch L.cm L.cq v S)(f:aQ w Y.hv v)(c:Ch (e0 L.cb L.ch L.cm L.cq Y.hv) w w'):
 dB χ L Y C K {K with clock:=S} w (cJ χ v.ownBlock .bW) {Y with hv:=v} w':=by
 have a:=h.bW (by simp);have s:eI [.bW] χ (cJ χ v.ownBlock .bW) (e0 L.cb L.ch L.cm L.cq Y.hv) w w':=eI.cJ c (fun i _ b=>by
  rcases b with rfl|rfl|rfl|rfl|b
  ·simp[a.k1]
  ·simp[a.k4]
  ·simp[a.k2]
  ·simp[a.k3]
  ·simp[a.k5 i b]) h.small f a.k5 (fun g e=>cB d.heap.own e)
 refine⟨(h.step s (by simp)).qu ⟨d,?_,?_,?_,?_,hN⟩,Nx.of s (by simp),Yk.refl _ _⟩
 ·exact(s.same _ a.is.head.lt).trans a.k1
 ·exact(s.same _ a.is.heap.head.lt).trans a.k2
 ·exact(s.same _ a.is.heap.map.lt).trans a.k3
 ·exact(s.same _ a.is.ff.lt).trans a.k4
theorem ae.A1(h:ae w χ L Y C K){v:Value}{e:aZ}{S:aF}(f:aR w' L.ab L.m v e)(k:aQ w Y.av v)(l:aO w' L.m L.c L.d S)(c:Ch (lf L.ab Y.av L.m L.c L.d) w w'):
 dB χ L Y C K {K with blocks:=e,mem:=S} w (cJ χ v.ownBlock .al) {Y with av:=v} w':=by
 have b:=h.al (by simp);have a:=h.mem (by simp);have s:eI [.al,.mem] χ (cJ χ v.ownBlock .al) (lf L.ab Y.av L.m L.c L.d) w w':=eI.cJ c (fun i _ d=>by
  rcases d with(rfl|d)|rfl|rfl|rfl
  ·simp[b.k1]
  ·simp[b.k2 i d]
  ·simp[a.k1]
  ·simp[a.k2]
  ·simp[a.k3]) h.small k b.k2 (fun g j=>cB f.own j)
 refine⟨(h.step s (by simp)).Fs ⟨f,?_,hN⟩ ⟨l,?_,?_,?_⟩,Nx.of s (by simp),Yk.refl _ _⟩
 ·exact(s.same _ b.is.head.lt).trans b.k1
 ·exact(s.same _ a.is.head.lt).trans a.k1
 ·exact(s.same _ a.is.cells.lt).trans a.k2
 ·exact(s.same _ a.is.width.lt).trans a.k3
theorem ae.qK(h:ae w χ L Y C K){a:List (List Sl)}(j:ig w' L.qb L.ql L.qm a)(c:Ch (QD L.qb L.ql L.qm Y.ls) w w')(k:∀s∈a.flatten,(∃x∈Y.ls.flatten,x.b=s.b)∨w.heap.size<=s.b):
 ∃aW,dB χ L Y C K {K with q:=b2 a} w aW {Y with ls:=a} w':=by
 have g:=h.q (by simp)
 classical
 refine⟨fun i=>if QD L.qb L.ql L.qm a i then .q else χ i,?_⟩;have m:∀i,i<w.heap.size->(if QD L.qb L.ql L.qm a i then a4.q else χ i)=χ i:=fun i d=>by
  split
  ·rename_i b
   refine(g.k i ?_).symm;rcases b with e|e|e|⟨s,l,e⟩
   ·exact Or.inl e
   ·exact Or.inr (Or.inl e)
   ·exact Or.inr (Or.inr (Or.inl e))
   ·rcases k s l with⟨x,n,f⟩|f
    ·exact Or.inr (Or.inr (Or.inr ⟨x,n,f.trans e⟩))
    ·omega
  ·rfl
 have s:eI [.q] χ (fun i=>if QD L.qb L.ql L.qm a i then .q else χ i) (QD L.qb L.ql L.qm Y.ls) w w':=⟨c,fun i _ b=>by simp[g.k i b],m,fun i d=>by
  split at d
  ·rename_i b;exact j.A0 b
  ·exact Nat.lt_of_lt_of_le (h.small i d) c.size⟩
 exact⟨(h.step s (by simp)).cQ ⟨j,rfl,fun i d=>if_pos d⟩,Nx.of s (by simp),Yk.refl _ _⟩
end
end
section
section
variable{w w':World}{χ:Nat->a4}{L:cw}{Y:Var}{C:KC}{K:KS}
theorem cG{ov:Value}{nw:Nat}{en at_ wn dr:Int}(a:C.rows.length=1000)(j:Nat)(hj:j<14):(cF L ov C nw en at_ wn dr)[1007+j]?=(g0 L ov nw en at_ wn dr)[j]?:=by
 unfold cF;rw[List.getElem?_append_right (by show 7<=_;omega),List.getElem?_append_right (by rw[List.length_map,a];show 1000<=1007+j-7;omega)]
 congr 1
 rw[List.length_map,a];show 1007+j-7-1000=j;omega
theorem ae.fz(h:ae w χ L Y C K)(i:Nat):w.frozen? ⟨L.mb,i,none⟩=false:=(h.head (by simp)).row.free i
theorem ae.EN(h:ae w χ L Y C K):L.mb<w.heap.size:=(h.head (by simp)).row.lt
theorem ae.c0(h:ae w χ L Y C K):w.cell? ⟨L.mb,0,none⟩=some (.slice L.lc C.dx.length L.BT):=(h.head (by simp)).row.cell (by unfold cF;rfl)
theorem ae.c1(h:ae w χ L Y C K):w.cell? ⟨L.mb,1,none⟩=some (.int .i64 C.loop):=(h.head (by simp)).row.cell (by unfold cF;rfl)
theorem ae.c2(h:ae w χ L Y C K):w.cell? ⟨L.mb,2,none⟩=some (.slice L.ll C.calls.length L.Et):=(h.head (by simp)).row.cell (by unfold cF;rfl)
theorem ae.c3(h:ae w χ L Y C K):w.cell? ⟨L.mb,3,none⟩=some (.slice L.pc C.bn.length L.AY):=(h.head (by simp)).row.cell (by unfold cF;rfl)
theorem ae.c4(h:ae w χ L Y C K):w.cell? ⟨L.mb,4,none⟩=some (.int .i64 C.entry):=(h.head (by simp)).row.cell (by unfold cF;rfl)
theorem ae.c5(h:ae w χ L Y C K):w.cell? ⟨L.mb,5,none⟩=some (.int .i64 C.wide):=(h.head (by simp)).row.cell (by unfold cF;rfl)
theorem ae.c6(h:ae w χ L Y C K):w.cell? ⟨L.mb,6,none⟩=some (.int .i64 C.narrow):=(h.head (by simp)).row.cell (by unfold cF;rfl)
theorem ae.cP(h:ae w χ L Y C K):w.cell? ⟨L.mb,1007,none⟩=some (.pointer (some ⟨L.m,0,none⟩)):=(h.head (by simp)).row.cell ((cG (h.head (by simp)).rows 0 (by omega)).trans rfl)
theorem ae.oG(h:ae w χ L Y C K):w.cell? ⟨L.mb,1008,none⟩=some (.pointer (some ⟨L.ab,0,none⟩)):=(h.head (by simp)).row.cell ((cG (h.head (by simp)).rows 1 (by omega)).trans rfl)
theorem ae.jH(h:ae w χ L Y C K):w.cell? ⟨L.mb,1009,none⟩=some (.pointer (some ⟨L.cb,0,none⟩)):=(h.head (by simp)).row.cell ((cG (h.head (by simp)).rows 2 (by omega)).trans rfl)
theorem ae.nr(h:ae w χ L Y C K):w.cell? ⟨L.mb,1010,none⟩=some (.pointer (some ⟨L.rb,0,none⟩)):=(h.head (by simp)).row.cell ((cG (h.head (by simp)).rows 3 (by omega)).trans rfl)
theorem ae.qL(h:ae w χ L Y C K):w.cell? ⟨L.mb,1011,none⟩=some (.pointer (some ⟨L.qb,0,none⟩)):=(h.head (by simp)).row.cell ((cG (h.head (by simp)).rows 4 (by omega)).trans rfl)
theorem ae.eh(h:ae w χ L Y C K):w.cell? ⟨L.mb,1012,none⟩=some (.pointer (some ⟨L.tb,0,none⟩)):=(h.head (by simp)).row.cell ((cG (h.head (by simp)).rows 5 (by omega)).trans rfl)
theorem ae.iG(h:ae w χ L Y C K):w.cell? ⟨L.mb,1014,none⟩=some (.map (some L.tm)):=(h.head (by simp)).row.cell ((cG (h.head (by simp)).rows 7 (by omega)).trans rfl)
theorem ae.p7(h:ae w χ L Y C K):w.cell? ⟨L.mb,1015,none⟩=some (.slice (some ⟨L.wb,0,none⟩) K.wk.length K.wk.length):=(h.head (by simp)).row.cell ((cG (h.head (by simp)).rows 8 (by omega)).trans rfl)
theorem ae.DM(h:ae w χ L Y C K):w.cell? ⟨L.mb,1016,none⟩=some (.int .i64 K.entries):=(h.head (by simp)).row.cell ((cG (h.head (by simp)).rows 9 (by omega)).trans rfl)
theorem ae.Fg(h:ae w χ L Y C K):w.cell? ⟨L.mb,1017,none⟩=some (.int .i64 K.at_):=(h.head (by simp)).row.cell ((cG (h.head (by simp)).rows 10 (by omega)).trans rfl)
theorem ae.Eu(h:ae w χ L Y C K):w.cell? ⟨L.mb,1018,none⟩=some (.int .i64 K.w):=(h.head (by simp)).row.cell ((cG (h.head (by simp)).rows 11 (by omega)).trans rfl)
theorem ae.BV(h:ae w χ L Y C K):w.cell? ⟨L.mb,1019,none⟩=some (.int .u64 K.draw):=(h.head (by simp)).row.cell ((cG (h.head (by simp)).rows 12 (by omega)).trans rfl)
theorem ae.rr(h:ae w χ L Y C K):w.cell? ⟨L.mb,1020,none⟩=some (Y.ov):=(h.head (by simp)).row.cell ((cG (h.head (by simp)).rows 13 (by omega)).trans rfl)
theorem dB.trans{K1 K2:KS}{c d:Nat->a4}{a b:Var}{w1 w2:World}(h:dB χ L Y C K K1 w c a w1)(g:Gr K K1)(k:dB c L a C K1 K2 w1 d b w2):dB χ L Y C K K2 w d b w2:=⟨k.at_,h.nx.trans k.nx,h.yk.trans g k.yk⟩
theorem dB.refl(h:ae w χ L Y C K):dB χ L Y C K K w χ Y w:=⟨h,Nx.refl _ _,Yk.refl _ _⟩
theorem dB.af{K1:KS}{b:Nat->a4}{a:Var}{w1 w2:World}(h:dB χ L Y C K K1 w b a w1)(c:Ch ag w1 w2):dB χ L Y C K K1 w b a w2:=⟨h.at_.af c,h.nx.trans (Nx.af c),h.yk⟩
theorem p9(id s:Int)(hid:aH id)(h:ae w χ L Y C K):Calls prog 130 #[.pointer (some ⟨L.tb,0,none⟩),.int .u64 id,.int .i64 s] w (np (jJ K.table id s).1 χ L Y C K {K with table:=(jJ K.table id s).2} w):=
 (vw L.tb L.tg K.table id s hid w (h.tab (by simp)).is).mono fun _ _ ⟨a,b,c⟩=>⟨a,_,_,h.l8 b c⟩
theorem kv(id:Int)(hid:aH id)(h:ae w χ L Y C K):Calls prog 129 #[.pointer (some ⟨L.tb,0,none⟩),.int .u64 id] w (dt (.tuple #[(fq K.table id).1.val,.bool (fq K.table id).2]) w):=
 q4 L.tb L.tg K.table id hid w (h.tab (by simp)).is
theorem rs(home:Int)(h:ae w χ L Y C K):Calls prog 114 #[.pointer (some ⟨L.tb,0,none⟩),.int .u64 home] w (v8 (db K.table home).1 χ L Y C K {K with table:=(db K.table home).2} w):=
 (l5 L.tb L.tg K.table home w (h.tab (by simp)).is).mono fun _ _ ⟨a,b,c⟩=>⟨a,_,_,h.l8 b c⟩
theorem yH(v:Int)(h:ae w χ L Y C K):Calls prog 69 #[.pointer (some ⟨L.rb,0,none⟩),.int .u64 v] w (np (g6 K.ring v).1 χ L Y C K {K with ring:=(g6 K.ring v).2} w):=
 (l6 L.rb L.rg K.ring v w (h.ring (by simp)).is).mono fun _ _ ⟨a,b,c⟩=>⟨a,_,_,h.tf b c⟩
theorem gN{i:Nat}(h:di L.m L.c i):i=L.m∨i=L.c∨i=L.d:=h.imp id Or.inl
def l9(x:Option Int)(χ:Nat->a4)(L:cw)(Y:Var)(C:KC)(K K':KS)(w:World)(e:Ending)(w':World):Prop:=v8 x χ L Y C K K' w e w'/\Ch (fun i=>χ i=.mem) w w'
theorem ae.A2(h:ae w χ L Y C K)(c:Ch (di L.m L.c) w w'):Ch (fun i=>χ i=.mem) w w':=c.mono fun i b=>by
 have a:=h.mem (by simp);rcases b with rfl|rfl
 ·exact a.k1
 ·exact a.k2
theorem BW(a v:Int)(e:aH a)(g:aH v)(h:ae w χ L Y C K):Calls prog 131 #[.pointer (some ⟨L.m,0,none⟩),.int .u64 a,.int .u64 v] w (l9 (K.mem.acc 3 a 0 v).1 χ L Y C K {K with mem:=(K.mem.acc 3 a 0 v).2} w):=
 (mY L.m L.c L.d K.mem a v e g w (h.mem (by simp)).is).mono fun _ _ ⟨c,d,b⟩=>⟨⟨c,_,_,h.o3 d b fun _ f=>gN f⟩,h.A2 b⟩
theorem EO(a v:Int)(b:aH a)(c:aH v)(h:ae w χ L Y C K):Calls prog 131 #[.pointer (some ⟨L.m,0,none⟩),.int .u64 a,.int .u64 v] w (v8 (K.mem.acc 3 a 0 v).1 χ L Y C K {K with mem:=(K.mem.acc 3 a 0 v).2} w):=
 (BW a v b c h).mono fun _ _ h=>h.1
theorem BX(a b v:Int)(f:aH a)(i:aH v)(h:ae w χ L Y C K):Calls prog 204 #[.pointer (some ⟨L.m,0,none⟩),.int .u64 a,.int .u64 b,.int .u64 v] w (l9 (K.mem.acc 4 a b v).1 χ L Y C K {K with mem:=(K.mem.acc 4 a b v).2} w):=
 (mZ L.m L.c L.d K.mem a b v f i w (h.mem (by simp)).is).mono fun _ _ ⟨d,e,c⟩=>⟨⟨d,_,_,h.o3 e c fun _ g=>gN g⟩,h.A2 c⟩
theorem EP(a b v:Int)(c:aH a)(d:aH v)(h:ae w χ L Y C K):Calls prog 204 #[.pointer (some ⟨L.m,0,none⟩),.int .u64 a,.int .u64 b,.int .u64 v] w (v8 (K.mem.acc 4 a b v).1 χ L Y C K {K with mem:=(K.mem.acc 4 a b v).2} w):=
 (BX a b v c d h).mono fun _ _ h=>h.1
theorem CC(a v:Int)(e:aH a)(g:aH v)(h:ae w χ L Y C K):Calls prog 110 #[.pointer (some ⟨L.m,0,none⟩),.int .u64 a,.int .u64 v] w (np (K.mem.acc 1 a 0 v).1.isSome χ L Y C K {K with mem:=(K.mem.acc 1 a 0 v).2} w):=
 (eo L.m L.c L.d K.mem a v e g w (h.mem (by simp)).is).mono fun _ _ ⟨b,c,d⟩=>⟨b,_,_,h.o3 c d fun _ f=>gN f⟩
theorem yI(a:Int)(b:aH a)(h:ae w χ L Y C K):Calls prog 158 #[.pointer (some ⟨L.m,0,none⟩),.int .u64 a] w (d' (.int .i64 (K.mem.wid a)) w):=
 oQ L.m L.c L.d K.mem a b w (h.mem (by simp)).is
structure aN.Ok(S:aN):Prop where
 wf:S.heap.WF
 len:S.heap.l.length<=900000
theorem CD(h:ae w χ L Y C K):Calls prog 84 #[.pointer (some ⟨L.cb,0,none⟩)] w (d' (.int .u64 K.clock.now) w):=
 pM L.cb L.ch L.cm L.cq Y.hv K.clock w (h.bW (by simp)).is
theorem ou{w:World}{B:Nat}{e:TypeId}{z:Nat}{v:Value}{n:Nat}{b:List Value}(h:w.ownsRow B e z v n b):∀g,v.ownBlock=some g->B<=g:=fun g a=>by
 rcases h.2 with⟨rfl,_⟩|⟨g',cap,cur,rfl,c,_⟩
 ·cases a
 ·have:g'=g:=by simpa[Value.ownBlock]using a
  omega
def ES(x:Option Nat)(χ:Nat->a4)(L:cw)(Y:Var)(C:KC)(K K':KS)(w:World)(e:Ending)(w':World):Prop:=
 (match x with
  |some a=>e=.returned (.tuple #[.int .i64 a,.nilIface])
  |none=>∃u,e=.returned (.tuple #[.int .i64 0,u])/\aq u)/\∃aW Y',dB χ L Y C K K' w aW Y' w'
theorem ru(n:Nat)(f:n<=1000000)(g:K.blocks.Ok)(h:ae w χ L Y C K):Calls prog 113 #[.pointer (some ⟨L.ab,0,none⟩),.int .i64 n,.int .i64 64] w (ES (c' K.blocks K.mem n).1 χ L Y C K {K with blocks:=(c' K.blocks K.mem n).2.1,mem:=(c' K.blocks K.mem n).2.2} w):=
 (kk L.ab L.m L.c L.d Y.av K.blocks K.mem g n f w (h.al (by simp)).is (h.mem (by simp)).is).mono fun _ _ ⟨a,⟨v,b,c⟩,d,e⟩=>⟨a,_,_,h.A1 b c d e⟩
theorem yL(a:Int)(g:K.blocks.Ok)(h:ae w χ L Y C K):Calls prog 115 #[.pointer (some ⟨L.ab,0,none⟩),.int .i64 a] w (np (mr K.blocks K.mem a).1 χ L Y C K (iS K a) w):=
 (kl L.ab L.m L.c L.d Y.av K.blocks K.mem g a w (h.al (by simp)).is (h.mem (by simp)).is).mono fun _ _ ⟨b,⟨v,c,d⟩,e,f⟩=>⟨b,_,_,h.A1 c d e f⟩
theorem ae.qv{v:Value}{a:List (List hx)}{e:Ending}(h:ae w χ L Y C K)(i:qn v L.qb L.ql L.qm Y.ls a w e w'):de v χ L Y C K {K with q:=a} w e w':=by
 obtain⟨b,j,c,rfl,d,f,_⟩:=i;obtain⟨aW,g⟩:=h.qK c d f;exact⟨b,aW,_,g⟩
theorem kO(id:Int)(h:ae w χ L Y C K):Calls prog 85 #[.pointer (some ⟨L.qb,0,none⟩),.int .u64 id] w (de (.bool (dy K.q id).1) χ L Y C K {K with q:=(dy K.q id).2} w):=by
 have a:=h.q (by simp);have:=nh L.qb L.ql L.qm Y.ls id w a.is;rw[a.b2]at this;exact this.mono fun _ _ b=>h.qv b
end
end
end Go.Proofs.YtlihkblppjgebaaGreatDoor
