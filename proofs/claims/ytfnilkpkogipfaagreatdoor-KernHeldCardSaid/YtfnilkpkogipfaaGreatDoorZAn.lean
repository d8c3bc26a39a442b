import Derived.Test.YtfnilkpkogipfaaGreatDoorZAm
set_option linter.unusedVariables false
set_option linter.unusedSimpArgs false
set_option maxRecDepth 100000
set_option maxHeartbeats 8000000
namespace Go.Proofs.YtfnilkpkogipfaaGreatDoor
open Go.RowKit Go.Proofs.Tryz
structure iE(w:World)(qb lb:Nat)(mv:Value)(ls:List (List Sl)):Prop where
 head:Row w qb 214 [.slice (some (lb,0)) (8:Nat) (8:Nat),mv]
 ends:Row w lb 254 (ls.flatMap bO)
 len:ls.length=8
 chain:∀(k:Nat) (l:List Sl),ls[k]?=some l->bM w none none l
 nd:(ls.flatten.map Sl.b).Nodup
theorem ig.core{w:World}{qb lb mb:Nat}{a:List (List Sl)}(h:ig w qb lb mb a):iE w qb lb (.map (some mb)) a:=⟨h.head,h.ends,h.len,h.chain,h.nd⟩
theorem iE.apart{w:World}{qb lb:Nat}{g:Value}{d:List (List Sl)}(h:iE w qb lb g d){s:Sl}(f:s∈d.flatten):s.b≠qb/\s.b≠lb/\s.b<w.heap.size:=by
 obtain⟨k,pre,post,e⟩:=hM f;obtain⟨a,b,c⟩:=(h.chain k _ e).mem s (by simp);exact⟨c.ne h.head (by decide),c.ne h.ends (by decide),c.lt⟩
theorem iE.ch{w w':World}{D:Nat->Prop}{qb lb:Nat}{d:Value}{a:List (List Sl)}(h:iE w qb lb d a)(c:Ch D w w')(e:¬D qb)(f:¬D lb)(g:∀s∈a.flatten,¬D s.b):iE w' qb lb d a:=
 ⟨h.head.ch c e,h.ends.ch c f,h.len,fun k l b=>(h.chain k l b).ch c (fun s i=>g s (bo b i)),h.nd⟩
theorem iE.re{w w':World}{qb lb:Nat}{f:Value}{a:List (List Sl)}(h:iE w qb lb f a){k:Nat}{l l':List Sl}(o:a[k]?=some l){D:Nat->Prop}(c:Ch D w w')(q:¬D qb)(g:∀j m s,a[j]?=some m->j≠k->s∈m->¬D s.b)
 (n:Row w' lb 254 ((a.set k l').flatMap bO)) (i:bM w' none none l') (p:((a.set k l').flatten.map Sl.b).Nodup):iE w' qb lb f (a.set k l') where
 head:=h.head.ch c q
 ends:=n
 len:=by rw[List.length_set];exact h.len
 chain:=fun j m b=>by
  by_cases d:k=j
  ·subst d
   have:m=l':=by
    rw[List.getElem?_set_self (List.getElem?_eq_some_iff.1 o).1]at b;exact(Option.some.inj b).symm
   subst this;exact i
  ·rw[List.getElem?_set_ne d]at b
   exact(h.chain j m b).ch c (fun s r=>g j m s b (fun e=>d e.symm) r)
 nd:=p
theorem o1(b:List (List Sl))(k:Nat)(l:List Sl)(s:Sl)(c:b[k]?=some l)(hb:(bc s.ad 8).toNat=k):b2 (b.set k (l++[s]))=oX (b2 b) s.s:=by
 unfold b2 oX;apply List.ext_getElem?;intro j;rw[show s.s.ad=s.ad from rfl,hb,List.getElem?_modify,List.getElem?_map,List.getElem?_map];by_cases a:k=j
 ·subst a
  rw[List.getElem?_set_self (List.getElem?_eq_some_iff.1 c).1,c];simp
 ·rw[List.getElem?_set_ne a]
  simp[a]
theorem yx{a:List (List Sl)}{k:Nat}{pre post:List Sl}{s:Sl}(b:a[k]?=some (pre++s::post))(d:(a.flatten.map Sl.id).Nodup):dy (b2 a) s.id=(true,b2 (a.set k (pre++post))):=by
 have e:s∈a.flatten:=bo b (by simp);unfold dy;rw[iT];cases c:a.flatten.find? (fun x=>x.id==s.id)with
 |none=>have:=List.find?_eq_none.1 c s e;simp at this
 |some y=>simp only[Option.map_some];rw[rl b d]
theorem rq{L:List Sl}(h:(L.map Sl.id).Nodup){i:Int}{s:Sl}(c:s∈L)(b:s.id=i):L.find? (fun x=>x.id==i)=some s:=by
 obtain⟨X,Y,rfl⟩:=List.append_of_mem c;have a:=kt h s.id;rw[if_pos rfl,List.find?_eq_none]at a;rw[List.find?_append];have:X.find? (fun x=>x.id==i)=none:=List.find?_eq_none.2 fun x d=>by
  have:=a x (by simp[d]);rwa [b]at this
 rw[this];simp[b]
theorem uQ{a:List (List Sl)}{k:Nat}{l:List Sl}{s:Sl}(d:a[k]?=some l):∃X Y,a.flatten=X++Y/\(a.set k (l++[s])).flatten=X++s::Y:=by
 obtain⟨b,c⟩:=e1 d;exact⟨(a.take k).flatten++l,(a.drop (k+1)).flatten,by rw[b],by rw[c];simp⟩
theorem o2{X Y:List Sl}{s:Sl}{α:Type}{f:Sl->α}(h:((X++Y).map f).Nodup)(g:∀x∈X++Y,f x≠f s):((X++s::Y).map f).Nodup:=by
 rw[List.map_append,List.nodup_append]at h;rw[List.map_append,List.map_cons,List.nodup_append,List.nodup_cons];refine⟨h.1,⟨fun i=> ?_,h.2.1⟩,?_⟩
 ·obtain⟨y,c,e⟩:=List.mem_map.1 i
  exact g y (by simp[c]) e
 ·intro a d b hb
  rcases List.mem_cons.1 hb with rfl|hb
  ·obtain⟨y,c,rfl⟩:=List.mem_map.1 d
   exact g y (by simp[c])
  ·exact h.2.2 a d b hb
theorem v5(qb lb mb:Nat)(q:List (List Sl))(C tt:Int)(w:World)(h:ig w qb lb mb q):
 Calls prog 201 #[(qb,0),.int .u64 C,.int .u64 tt] w (rp (hK (b2 q) C tt) qb lb mb q w):=by
 obtain⟨k,l,u,hb,c0⟩:=h.bucket C;have H:=Z h;have av:=Z (ln qb lb mb q l k C 0 true u hb w h);have E:=Z (lp q l k C 0 true u c0);obtain⟨r,Q⟩:=nm (l.find? (dK C 0 true));rw[Q]at av E;cases r with
 |none=>
  have ap:Hid (hK (b2 q) C tt=(0,false,b2 q)):=Z (by unfold hK;rw[E];rfl);clear u hb c0 h Q;go_enter func201,ntmps201
  go_wp2_with (go_at_call 210;refine av.mono ?_;rintro e w' ⟨rfl,n,rfl⟩;simp only[rn,Option.map_none,Option.map_some])
  go_ret2;rw[ap];exact⟨rfl,q,H.drewN n,rfl,(Ch.refl _ _).drewN n,fun s F=>Or.inl ⟨s,F,rfl⟩,fun x a=>(H.drewN n).Ai a⟩
 |some s=>
  have F:=List.mem_of_find?_eq_some Q;obtain⟨pre,post,rfl⟩:=List.append_of_mem F;have eL:=bo u F;have c1:=h.at_ k _ u s F;obtain⟨X,Y,I,L⟩:=nk u;have c9:((pre++s::post).map Sl.b).Nodup:=by
   refine List.Nodup.sublist ?_ h.nd;rw[(e1 u).1];exact List.Sublist.map _ ((List.sublist_append_right _ _).trans (List.sublist_append_left _ _))
  have es:=gw c9;have bw:∀x∈X++Y,x.b≠s.b/\x.id≠s.id:=fun x a=>by
   have bv:=I▸h.nd;have cl:=kt (I▸h.xL) s.id;rw[if_pos rfl,List.find?_eq_none]at cl;exact⟨gw bv x (by simpa using a),by simpa using cl x a⟩
  obtain⟨p,A⟩:=nm (q.set k (pre++post));have c6:p.length=8:=by rw[<-A,List.length_set];exact h.len
  obtain⟨k2,c3,gf,cW⟩:=jV tt;obtain⟨t,P⟩:∃t,p[k2]?=some t:=⟨_,List.getElem?_eq_getElem (by rw[c6];exact gf)⟩;obtain⟨o,d⟩:∃o:Sl,o={s with ad:=tt}:=⟨_,rfl⟩;have c5:∀x∈t,x∈X++Y:=fun x a=>by rw[<-L,A];exact bo P a
  have cb:(p.flatten.map Sl.b).Nodup:=by rw[<-A,L];exact p6 (I▸h.nd)
  have en:(p.flatten.map Sl.id).Nodup:=by rw[<-A,L];exact p6 (I▸h.xL)
  have dN:((t++[o]).map Sl.b).Nodup:=by
   have bv:(t.map Sl.b).Nodup:=by
    refine List.Nodup.sublist ?_ cb;rw[(e1 P).1];exact List.Sublist.map _ ((List.sublist_append_right _ _).trans (List.sublist_append_left _ _))
   have:=o2 (X:=t) (Y:=[]) (s:=o) (f:=Sl.b) (by simpa using bv) (fun x a=>by rw[d];exact(bw x (c5 x (by simpa using a))).1);simpa using this
  have gc:=Z (fun w cd c4 M=>nj qb lb k (.map (some mb)) q pre post s w cd c4 h.len u M c1 c9);have fn:=Z (fun w pv gs cd c4 M Q=>rk qb lb k2 (.map (some mb)) pv gs p t o w cd c4 c6 P M (by rw[d];exact c3) Q dN);have ap:Hid (hK (b2 q) C tt=(s.id,true,b2 (p.set k2 (t++[o])))):=Z (by
   unfold hK;rw[E];simp only[Option.map_some];rw[show s.s.id=s.id from rfl,yx u h.xL,A,o1 p k2 t o P (by rw[d];exact cW),d]
   rfl)
  obtain⟨pa,gt,ex⟩:=(h.chain k _ u).mem s F;have cq:=h.apart eL;have gk:∀j,j≠k->p[j]?=q[j]?:=fun j g=>by rw[<-A,List.getElem?_set_ne (fun e=>g e.symm)]
  have dr:∀x∈p.flatten,x∈X++Y:=fun x a=>by rw[<-L,A];exact a
  have b:=Z (And.intro u (And.intro I (And.intro L (And.intro bw (And.intro cq (And.intro A (And.intro P (And.intro d (And.intro c1 c3)))))))));have v:=Z (And.intro es (And.intro cb (And.intro en (And.intro c5 dr))));have fr:=Z ex;clear u hb c0 h Q F eL ex I L bw cq A P d c1 c3 cW es cb en c5 dr c9 dN c6 gk;go_enter func201,ntmps201
  go_wp2_with (go_at_call 210;refine av.mono ?_;rintro e w' ⟨rfl,n,rfl⟩;simp only[rn,Option.map_none,Option.map_some])
  obtain⟨hf,ce⟩:=nm (w.drewN n);have a0:Hid (Ch ag w hf):=Z (by rw[<-ce];exact(Ch.refl _ _).drewN n);rw[ce];clear ce;have V:=Z (H.af a0);refine(gc _ V.head V.ends (V.chain k _ b.1)).mono ?_;rintro e w1 ⟨rfl,cC,M,a3⟩;have et:∀x∈X++Y,x.b≠qb/\x.b≠lb/\x.b≠mb:=fun x a=>by
   have:=H.apart (s:=x) (by rw[b.2.1];simp at a⊢;rcases a with a|a<;>simp[a]);exact⟨this.1,this.2.1,this.2.2.1⟩
  have cS:∀x,x∈pre++post->x∈X++Y:=fun x a=>by
   rw[<-b.2.2.1];exact bo (List.getElem?_set_self (List.getElem?_eq_some_iff.1 b.1).1) a
  have cA:iE w1 qb lb (.map (some mb)) p:=by
   rw[<-b.2.2.2.2.2.1];refine V.core.re b.1 a3 ?_ ?_ cC M (by rw[b.2.2.2.2.2.1];exact v.2.1)
   ·rintro(e|⟨x,a,e⟩)
    ·exact H.head.ne H.ends (by decide) e
    ·exact(et x (cS x a)).1 e
   ·rintro j m x g z a (e|⟨y,c,e⟩)
    ·exact(H.apart (bo g a)).2.1 e
    ·exact ks H.nd b.1 g z (x:=y) (by simp at c⊢;rcases c with c|c<;>simp[c]) a e
  have eC:¬(s.b=lb∨∃x∈pre++post,x.b=s.b):=by
   rintro(e|⟨x,a,e⟩)
   ·exact b.2.2.2.2.1.2.1 e
   ·exact v.1 x (by simpa using a) e
  have am:=(fr.ch a0 (fun h=>h)).ch a3 eC;have he:=am.k 1 rfl;have f1:=am.free 1;have W:=Z (And.intro cA (And.intro am a3));clear cC M a3 et cS cA eC am;go_wp2_with fail
  have a2:Ch (aK s.b) w1 (w1.setCell ⟨s.b,1,none⟩ (.int .u64 tt)):=(Ch.refl _ _).only _ _;have N:iE (w1.setCell ⟨s.b,1,none⟩ (.int .u64 tt)) qb lb (.map (some mb)) p:=W.1.ch a2 (fun e=>b.2.2.2.2.1.1 (show qb=s.b from e).symm) (fun e=>b.2.2.2.2.1.2.1 (show lb=s.b from e).symm) (fun x a e=>(b.2.2.2.1 x (v.2.2.2.2 x a)).1 e);have eA:=W.2.1.set 1 (.int .u64 tt);have d:=b.2.2.2.2.2.2.2.1;have c7:=fn (w1.setCell ⟨s.b,1,none⟩ (.int .u64 tt)) (ptrTo pa) (ptrTo gt) N.head N.ends (N.chain k2 _ b.2.2.2.2.2.2.1) (by rw[d];exact eA);rw[show o.b=s.b from by rw[d]]at c7;refine c7.mono ?_;rintro e U ⟨rfl,cL,cs,T⟩;rw[show o.b=s.b from by rw[d]]at T;have ab:∀x∈t,x∈X++Y:=v.2.2.2.1;obtain⟨ci,ck,J,D⟩:=uQ (s:=o) b.2.2.2.2.2.2.1;have K:∀x∈ci++ck,x∈X++Y:=fun x a=>v.2.2.2.2 x (by rw[J];exact a)
  have ec:((p.set k2 (t++[o])).flatten.map Sl.b).Nodup:=by
   rw[D];exact o2 (J▸v.2.1) (fun x a=>by rw[d];exact(b.2.2.2.1 x (K x a)).1)
  have al:((p.set k2 (t++[o])).flatten.map Sl.id).Nodup:=by
   rw[D];exact o2 (J▸v.2.2.1) (fun x a=>by rw[d];exact(b.2.2.2.1 x (K x a)).2)
  have a1:∀x∈X++Y,x.b≠qb/\x.b≠lb/\x.b≠mb:=fun x a=>by
   have:=H.apart (s:=x) (by rw[b.2.1];simp at a⊢;rcases a with a|a<;>simp[a]);exact⟨this.1,this.2.1,this.2.2.1⟩
  have O:iE U qb lb (.map (some mb)) (p.set k2 (t++[o])):=by
   refine N.re b.2.2.2.2.2.2.1 T ?_ ?_ cL cs ec
   ·rintro(e|e|⟨x,a,e⟩)
    ·exact H.head.ne H.ends (by decide) e
    ·exact b.2.2.2.2.1.1 e.symm
    ·exact(a1 x (ab x a)).1 e
   ·rintro j m x g z a (e|e|⟨y,c,e⟩)
    ·exact(N.apart (bo g a)).2.1 e
    ·exact(b.2.2.2.1 x (v.2.2.2.2 x (bo g a))).1 e
    ·exact ks v.2.1 b.2.2.2.2.2.2.1 g z (x:=y) c a e
  have cm:Ch (QD qb lb mb q) w U:=by
   have eW:∀x∈X++Y,QD qb lb mb q x.b:=fun x a=>Or.inr (Or.inr (Or.inr ⟨x,by rw[b.2.1];simp at a⊢;rcases a with a|a<;>simp[a],rfl⟩))
   have fb:QD qb lb mb q s.b:=Or.inr (Or.inr (Or.inr ⟨s,by rw[b.2.1];simp,rfl⟩));refine((a0.af.trans (W.2.2.mono ?_)).trans (a2.mono ?_)).trans (T.mono ?_)
   ·rintro i (rfl|⟨x,a,rfl⟩)
    ·exact Or.inr (Or.inl rfl)
    ·exact eW x (by rw[<-b.2.2.1];exact bo (List.getElem?_set_self (List.getElem?_eq_some_iff.1 b.1).1) a)
   ·rintro i rfl;exact fb
   ·rintro i (rfl|rfl|⟨x,a,rfl⟩)
    ·exact Or.inr (Or.inl rfl)
    ·exact fb
    ·exact eW x (ab x a)
  have dC:Ch (fun i=>i≠mb) w U:=by
   refine((a0.af.trans (W.2.2.mono ?_)).trans (a2.mono ?_)).trans (T.mono ?_)
   ·rintro i (rfl|⟨x,a,rfl⟩)
    ·intro e;subst e;obtain⟨m,B,_⟩:=H.out.map;exact B.ne H.ends rfl
    ·exact(a1 x (by rw[<-b.2.2.1];exact bo (List.getElem?_set_self (List.getElem?_eq_some_iff.1 b.1).1) a)).2.2
   ·rintro i rfl;exact b.2.2.2.2.1.2.2.1
   ·rintro i (rfl|rfl|⟨x,a,rfl⟩)
    ·intro e;subst e;obtain⟨m,B,_⟩:=H.out.map;exact B.ne H.ends rfl
    ·exact b.2.2.2.2.1.2.2.1
    ·exact(a1 x (ab x a)).2.2
  have bi:Hid (ig U qb lb mb (p.set k2 (t++[o]))):=Z {
   head:=O.head
   ends:=O.ends
   len:=O.len
   chain:=O.chain
   nd:=O.nd
   xL:=al
   map:=by
    obtain⟨m,B,go,gr⟩:=H.out.map;refine⟨m,B.ch dC (fun h=>h rfl),go,fun i=> ?_⟩;rw[gr];cases c2:q.flatten.find? (fun x=>x.id==i)with
    |none=>
     cases cQ:(p.set k2 (t++[o])).flatten.find? (fun x=>x.id==i)with
     |none=>rfl
     |some y=>
      exfalso;have c:=List.mem_of_find?_eq_some cQ;have G:y.id=i:=by simpa using List.find?_some cQ
      rw[D]at c;have c8:=List.find?_eq_none.1 c2;rcases List.mem_append.1 c with c|c
      ·have:=K y (by simp[c])
       exact c8 y (by rw[b.2.1];simp at this⊢;rcases this with a|a<;>simp[a]) (by simpa using G)
      ·rcases List.mem_cons.1 c with rfl|c
       ·exact c8 s (by rw[b.2.1];simp) (by rw[d]at G;simpa using G)
       ·have:=K y (by simp[c])
        exact c8 y (by rw[b.2.1];simp at this⊢;rcases this with a|a<;>simp[a]) (by simpa using G)
    |some y=>
     have c:=List.mem_of_find?_eq_some c2;have G:y.id=i:=by simpa using List.find?_some c2
     by_cases ch:y=s
     ·rw[rq al (s:=o) (by rw[D];simp) (by rw[d,<-G,ch]),ch,d];rfl
     ·have cf:y∈X++Y:=by
       rw[b.2.1]at c;simp at c⊢;rcases c with c|c|c
       ·exact Or.inl c
       ·exact absurd c ch
       ·exact Or.inr c
      have R:y∈ci++ck:=by rw[<-J,<-b.2.2.2.2.2.1,b.2.2.1];exact cf
      rw[rq al (s:=y) (by rw[D];simp at R⊢;rcases R with a|a<;>simp[a]) G]
   at_:=fun j m g x a=>by
    have hold:∀(j:Nat) (m:List Sl),p[j]?=some m->∀x∈m,bc x.ad (8:Nat)=j:=fun j m g x a=>by
     by_cases z:k=j
     ·subst z
      rw[<-b.2.2.2.2.2.1,List.getElem?_set_self (List.getElem?_eq_some_iff.1 b.1).1]at g;have B:=Option.some.inj g;rw[<-B]at a;exact H.at_ k _ b.1 x (by simp at a⊢;rcases a with a|a<;>simp[a])
     ·rw[<-b.2.2.2.2.2.1,List.getElem?_set_ne z]at g
      exact H.at_ j m g x a
    by_cases z:k2=j
    ·subst z
     rw[List.getElem?_set_self (List.getElem?_eq_some_iff.1 b.2.2.2.2.2.2.1).1]at g;have B:=Option.some.inj g;rw[<-B]at a;rcases List.mem_append.1 a with a|a
     ·exact hold k2 _ b.2.2.2.2.2.2.1 x a
     ·have:x=o:=by simpa using a
      rw[this,d];exact b.2.2.2.2.2.2.2.2.2
    ·rw[List.getElem?_set_ne z]at g
     exact hold j m g x a}
  have fd:=Z cm;have S:=Z (And.intro D (And.intro K J));have ge:U.cell? ⟨s.b,0,none⟩=some (.int .u64 s.id):=by
   have:=bi.Ai (x:=o) (by rw[D];simp);rw[d]at this;exact this
  have fz:=Z d;clear he f1 a2 N eA d c7 cL cs T ab J D K ec al a1 O cm dC;go_wp2
  go_ret2;rw[ap];refine⟨rfl,_,bi,rfl,fd,fun x a=>Or.inl ?_,fun x a=> ?_⟩
  ·rw[S.1]at a
   rcases List.mem_append.1 a with a|a
   ·have:=S.2.1 x (by simp[a])
    exact⟨x,by rw[b.2.1];simp at this⊢;rcases this with a|a<;>simp[a],rfl⟩
   ·rcases List.mem_cons.1 a with rfl|a
    ·exact⟨s,by rw[b.2.1];simp,by rw[fz]⟩
    ·have:=S.2.1 x (by simp[a])
     exact⟨x,by rw[b.2.1];simp at this⊢;rcases this with a|a<;>simp[a],rfl⟩
  ·by_cases eS:x=s
   ·rw[eS];exact ge
   ·refine bi.Ai (x:=x) ?_
    have cf:x∈X++Y:=by
     rw[b.2.1]at a;simp at a⊢;rcases a with c|c|c
     ·exact Or.inl c
     ·exact absurd c eS
     ·exact Or.inr c
    have R:=cf;rw[<-b.2.2.1,b.2.2.2.2.2.1,S.2.2]at R;rw[S.1];simp at R⊢;rcases R with a|a<;>simp[a]
section
inductive a4 where
 |no|gx|mem|al|bW|ring|q|cX|obj|tm|wk|out|code|back
 |th (id:Int)|tl (id:Int)|fr (id:Int) (k:Nat)
 deriving DecidableEq
structure cw where
 mb:Nat
 m:Nat
 c:Nat
 d:Nat
 ab:Nat
 cb:Nat
 ch:Nat
 cm:Nat
 cq:Nat
 rb:Nat
 rg:Nat
 qb:Nat
 ql:Nat
 qm:Nat
 tb:Nat
 tg:Nat
 ob:Nat
 og:Nat
 tm:Nat
 wb:Nat
 lc:Option Addr
 BT:Nat
 ll:Option Addr
 Et:Nat
 pc:Option Addr
 AY:Nat
structure Var where
 av:Value
 hv:Value
 ov:Value
 ls:List (List Sl)
 bB:Int->Nat
 lv:Int->Value
 fb:Int->Nat->Nat
 bv:Int->Nat->Value
 wv:Nat->Value
def ku(C:KC)(L:cw):List Value:=[.slice L.lc C.dx.length L.BT,.int .i64 C.loop,.slice L.ll C.calls.length L.Et,.slice L.pc C.bn.length L.AY,.int .i64 C.entry,.int .i64 C.wide,.int .i64 C.narrow]
def g0(L:cw)(ov:Value)(nw:Nat)(en at_ w draw:Int):List Value:=
 [bf L.m,bf L.ab,bf L.cb,bf L.rb,bf L.qb,bf L.tb,bf L.ob,.map (some L.tm),.slice (some (L.wb,0)) nw nw,en,at_,w,.int .u64 draw,ov]
def cF(L:cw)(ov:Value)(C:KC)(nw:Nat)(en at_ w draw:Int):List Value:=ku C L++(C.rows.map (Value.int .i64)++g0 L ov nw en at_ w draw)
def ak.cells(x:ak)(v:Value):List Value:=[.int .u64 x.slot,.int .u64 x.hand,.bool x.parked,.int .i64 x.left]++x.f.cells v
theorem ak.len(x:ak×Value):(x.1.cells x.2).length=38:=by simp[ak.cells,cE.cU]
def Frame.post(f:Frame):List Value:=[.bool f.ca,.int .i64 f.num]
structure nl(w:World)(χ:Nat->a4)(L:cw)(ov:Value)(C:KC)(nw:Nat)(en at_ wn draw:Int):Prop where
 row:Row w L.mb 137 (cF L ov C nw en at_ wn draw)
 rows:C.rows.length=1000
 k:χ L.mb=.gx
structure v7(w:World)(χ:Nat->a4)(L:cw)(S:aF):Prop where
 is:aO w L.m L.c L.d S
 k1:χ L.m=.mem
 k2:χ L.c=.mem
 k3:χ L.d=.mem
structure DG(w:World)(χ:Nat->a4)(L:cw)(v:Value)(S:aZ):Prop where
 is:aR w L.ab L.m v S
 k1:χ L.ab=.al
 k2:∀g,v.ownBlock=some g->χ g=.al
structure yy(w:World)(χ:Nat->a4)(L:cw)(v:Value)(S:aN):Prop where
 is:aX w L.cb L.ch L.cm L.cq v S
 k1:χ L.cb=.bW
 k2:χ L.ch=.bW
 k3:χ L.cm=.bW
 k4:χ L.cq=.bW
 k5:∀g,v.ownBlock=some g->χ g=.bW
structure nn(w:World)(χ:Nat->a4)(L:cw)(q:List Int):Prop where
 is:eH w L.rb L.rg q
 k1:χ L.rb=.ring
 k2:χ L.rg=.ring
structure QC(w:World)(χ:Nat->a4)(L:cw)(ls:List (List Sl))(q:List (List hx)):Prop where
 is:ig w L.qb L.ql L.qm ls
 b2:b2 ls=q
 k:∀i,QD L.qb L.ql L.qm ls i->χ i=.q
structure yz(w:World)(χ:Nat->a4)(L:cw)(l:List aD):Prop where
 is:aU w L.tb L.tg l
 k1:χ L.tb=.cX
 k2:χ L.tg=.cX
structure yA(w:World)(χ:Nat->a4)(L:cw)(l:List bC):Prop where
 is:bL w L.ob L.og l
 k1:χ L.ob=.obj
 k2:χ L.og=.obj
structure AZ(w:World)(χ:Nat->a4)(L:cw)(bB:Int->Nat)(ai:List (Int×Thread)):Prop where
 is:bH w L.tm .u64 bf (ai.map fun x=>(x.1,bB x.1))
 k:χ L.tm=.tm
 nd:f' ai
structure yB(w:World)(χ:Nat->a4)(b:Nat)(v:Value)(id:Int)(t:Thread):Prop where
 is:Row w b 176 [.int .u64 t.id,v,.int .u64 t.eM]
 k:χ b=.th id
structure Aj(w:World)(χ:Nat->a4)(v:Value)(fb:Nat->Nat)(id:Int)(n:Nat):Prop where
 is:w.ownsRow 0 177 1 v n ((List.range n).map fun k=>bf (fb k))
 k:∀g,v.ownBlock=some g->χ g=.tl id
structure Ak(w:World)(χ:Nat->a4)(b:Nat)(v:Value)(id:Int)(k:Nat)(f:Frame):Prop where
 is:aG w b 0 179 [] f.post v f.f
 kf:χ b=.fr id k
 kb:∀g,v.ownBlock=some g->χ g=.back
def dd(l:List ak)(wv:Nat->Value):List (ak×Value):=l.zipIdx.map fun x=>(x.1,wv x.2)
structure DH(w:World)(χ:Nat->a4)(L:cw)(wv:Nat->Value)(l:List ak):Prop where
 is:Row w L.wb 148 ((dd l wv).flatMap fun x=>x.1.cells x.2)
 k:χ L.wb=.wk
 back:∀i x,l[i]?=some x->cp w (wv i) x.f.back
 kb:∀(i:Nat) (x:ak),l[i]?=some x->∀g,(wv i).ownBlock=some g->χ g=.back
 n:l.length<=64
structure yC(w:World)(χ:Nat->a4)(v:Value)(l:List Ev):Prop where
 is:w.ownsRow 0 62 11 v l.length (l.flatMap Ev.cells)
 k:∀g,v.ownBlock=some g->χ g=.out
structure uR(w:World)(χ:Nat->a4)(L:cw)(C:KC):Prop where
 mx:C.dx.length<=L.BT
 iU:C.calls.length<=L.Et
 my:C.bn.length<=L.AY
 ca:C.dx≠[]->∃g,L.lc=some ⟨g,0,none⟩/\eE w g C.dx/\χ g=.code
 prog:C.bn≠[]->∃g,L.pc=some ⟨g,0,none⟩/\eE w g C.bn/\χ g=.code
 calls:C.calls≠[]->∃g junk,L.ll=some ⟨g,0,none⟩/\Row w g 49 (C.calls.flatMap br.cells++junk)/\χ g=.code
structure MB(X:List a4)(w:World)(χ:Nat->a4)(L:cw)(Y:Var)(C:KC)(K:KS):Prop where
 head:.gx∉X->nl w χ L Y.ov C K.wk.length K.entries K.at_ K.w K.draw
 mem:.mem∉X->v7 w χ L K.mem
 al:.al∉X->DG w χ L Y.av K.blocks
 bW:.bW∉X->yy w χ L Y.hv K.clock
 ring:.ring∉X->nn w χ L K.ring
 q:.q∉X->QC w χ L Y.ls K.q
 cX:.cX∉X->yz w χ L K.table
 obj:.obj∉X->yA w χ L K.cV
 tm:.tm∉X->AZ w χ L Y.bB K.ai
 th:∀id t,aw K.ai id=some t-> .th id∉X->yB w χ (Y.bB id) (Y.lv id) id t
 tl:∀id t,aw K.ai id=some t-> .tl id∉X->Aj w χ (Y.lv id) (Y.fb id) id t.l.length
 fr:∀id t k f,aw K.ai id=some t->t.l[k]?=some f-> .fr id k∉X->Ak w χ (Y.fb id k) (Y.bv id k) id k f
 wk:.wk∉X->DH w χ L Y.wv K.wk
 out:.out∉X->yC w χ Y.ov K.out
 code:.code∉X->uR w χ L C
 small:∀i,χ i≠ .no->i<w.heap.size
def ae(w:World)(χ:Nat->a4)(L:cw)(Y:Var)(C:KC)(K:KS):Prop:=MB [] w χ L Y C K
structure eI(X:List a4)(χ aW:Nat->a4)(D:Nat->Prop)(w w':World):Prop where
 c:Ch D w w'
 Ff:∀i,i<w.heap.size->D i->χ i∈X
 same:∀i,i<w.heap.size->aW i=χ i
 small:∀i,aW i≠ .no->i<w'.heap.size
section
variable{X:List a4}{w w':World}{χ aW:Nat->a4}{D:Nat->Prop}{L:cw}{Y:Var}{C:KC}
theorem eI.nd(s:eI X χ aW D w w'){i:Nat}{c:a4}(e:i<w.heap.size)(b:χ i=c)(a:c∉X):¬D i:=fun d=>a (b▸s.Ff i e d)
theorem nl.tr{ov:Value}{nw:Nat}{en at_ wn draw:Int}(h:nl w χ L ov C nw en at_ wn draw)(s:eI X χ aW D w w')(a:.gx∉X):nl w' aW L ov C nw en at_ wn draw:=
 ⟨h.row.ch s.c (s.nd h.row.lt h.k a),h.rows,(s.same _ h.row.lt).trans h.k⟩
theorem v7.tr{S:aF}(h:v7 w χ L S)(s:eI X χ aW D w w')(a:.mem∉X):v7 w' aW L S:=
 ⟨h.is.ch s.c (s.nd h.is.head.lt h.k1 a) (s.nd h.is.cells.lt h.k2 a) (s.nd h.is.width.lt h.k3 a),(s.same _ h.is.head.lt).trans h.k1,(s.same _ h.is.cells.lt).trans h.k2,(s.same _ h.is.width.lt).trans h.k3⟩
theorem cB{B:Nat}{e:TypeId}{z:Nat}{v:Value}{n:Nat}{d:List Value}(h:w.ownsRow B e z v n d){g:Nat}(a:v.ownBlock=some g):g<w.heap.size:=by
 rcases h.2 with⟨rfl,_⟩|⟨b,cap,cur,rfl,_,c,_⟩
 ·cases a
 ·have:b=g:=by simpa[Value.ownBlock]using a
  subst this;exact(Array.getElem?_eq_some_iff.1 c).1
theorem DG.tr{v:Value}{S:aZ}(h:DG w χ L v S)(s:eI X χ aW D w w')(b:.al∉X):DG w' aW L v S:=
 ⟨h.is.ch s.c (s.nd h.is.head.lt h.k1 b) (fun g a=>s.nd (cB h.is.own a) (h.k2 g a) b),(s.same _ h.is.head.lt).trans h.k1,fun g a=>(s.same _ (cB h.is.own a)).trans (h.k2 g a)⟩
theorem yy.tr{v:Value}{S:aN}(h:yy w χ L v S)(s:eI X χ aW D w w')(a:.bW∉X):yy w' aW L v S:=
 ⟨h.is.ch s.c (s.nd h.is.head.lt h.k1 a) (s.nd h.is.heap.head.lt h.k2 a) (s.nd h.is.heap.map.lt h.k3 a) (s.nd h.is.ff.lt h.k4 a) (fun g b=>s.nd (cB h.is.heap.own b) (h.k5 g b) a),
  (s.same _ h.is.head.lt).trans h.k1,(s.same _ h.is.heap.head.lt).trans h.k2,(s.same _ h.is.heap.map.lt).trans h.k3,(s.same _ h.is.ff.lt).trans h.k4,fun g b=>(s.same _ (cB h.is.heap.own b)).trans (h.k5 g b)⟩
theorem eH.A0{b g:Nat}{q:List Int}(h:eH w b g q):b<w.heap.size/\g<w.heap.size:=by
 obtain⟨cs,fr,a,_⟩:=h;exact⟨a.head.lt,a.rows.lt⟩
theorem nn.tr{q:List Int}(h:nn w χ L q)(s:eI X χ aW D w w')(a:.ring∉X):nn w' aW L q:=
 ⟨h.is.ch s.c (s.nd h.is.A0.1 h.k1 a) (s.nd h.is.A0.2 h.k2 a),(s.same _ h.is.A0.1).trans h.k1,(s.same _ h.is.A0.2).trans h.k2⟩
theorem ig.A0{qb lb mb:Nat}{a:List (List Sl)}(h:ig w qb lb mb a){i:Nat}(b:QD qb lb mb a i):i<w.heap.size:=by
 rcases b with rfl|rfl|rfl|⟨x,d,rfl⟩
 ·exact h.head.lt
 ·exact h.ends.lt
 ·obtain⟨m,c,_⟩:=h.map;exact c.lt
 ·exact(h.apart d).2.2.2
theorem QC.tr{b:List (List Sl)}{q:List (List hx)}(h:QC w χ L b q)(s:eI X χ aW D w w')(c:.q∉X):QC w' aW L b q:=
 ⟨h.is.ch s.c (fun i a=>s.nd (h.is.A0 a) (h.k i a) c),h.b2,fun i a=>(s.same _ (h.is.A0 a)).trans (h.k i a)⟩
theorem yz.tr{l:List aD}(h:yz w χ L l)(s:eI X χ aW D w w')(a:.cX∉X):yz w' aW L l:=
 ⟨h.is.ch s.c (s.nd h.is.head.lt h.k1 a) (s.nd h.is.rows.lt h.k2 a),(s.same _ h.is.head.lt).trans h.k1,(s.same _ h.is.rows.lt).trans h.k2⟩
theorem yA.tr{l:List bC}(h:yA w χ L l)(s:eI X χ aW D w w')(a:.obj∉X):yA w' aW L l:=
 ⟨h.is.ch s.c (s.nd h.is.head.lt h.k1 a) (s.nd h.is.rows.lt h.k2 a),(s.same _ h.is.head.lt).trans h.k1,(s.same _ h.is.rows.lt).trans h.k2⟩
theorem AZ.tr{a:Int->Nat}{ai:List (Int×Thread)}(h:AZ w χ L a ai)(s:eI X χ aW D w w')(b:.tm∉X):AZ w' aW L a ai:=
 ⟨h.is.ch s.c (s.nd h.is.lt h.k b),(s.same _ h.is.lt).trans h.k,h.nd⟩
theorem yB.tr{b:Nat}{v:Value}{id:Int}{t:Thread}(h:yB w χ b v id t)(s:eI X χ aW D w w')(a:.th id∉X):yB w' aW b v id t:=
 ⟨h.is.ch s.c (s.nd h.is.lt h.k a),(s.same _ h.is.lt).trans h.k⟩
theorem Aj.tr{v:Value}{fb:Nat->Nat}{id:Int}{n:Nat}(h:Aj w χ v fb id n)(s:eI X χ aW D w w')(b:.tl id∉X):Aj w' aW v fb id n:=
 ⟨ar h.is s.c (fun g a=>s.nd (cB h.is a) (h.k g a) b),fun g a=>(s.same _ (cB h.is a)).trans (h.k g a)⟩
theorem Ak.tr{b:Nat}{v:Value}{id:Int}{k:Nat}{f:Frame}(h:Ak w χ b v id k f)(s:eI X χ aW D w w')(c:.fr id k∉X)(hb:.back∉X):Ak w' aW b v id k f:=
 ⟨h.is.ch s.c (s.nd h.is.row.lt h.kf c) (fun g a=>s.nd (cB h.is.back a) (h.kb g a) hb),(s.same _ h.is.row.lt).trans h.kf,fun g a=>(s.same _ (cB h.is.back a)).trans (h.kb g a)⟩
theorem DH.tr{wv:Nat->Value}{l:List ak}(h:DH w χ L wv l)(s:eI X χ aW D w w')(c:.wk∉X)(hb:.back∉X):DH w' aW L wv l:=
 ⟨h.is.ch s.c (s.nd h.is.lt h.k c),(s.same _ h.is.lt).trans h.k,fun i x a=>(h.back i x a).ch s.c (fun g b=>s.nd (cB (h.back i x a) b) (h.kb i x a g b) hb),fun i x a g b=>(s.same _ (cB (h.back i x a) b)).trans (h.kb i x a g b),h.n⟩
theorem yC.tr{v:Value}{l:List Ev}(h:yC w χ v l)(s:eI X χ aW D w w')(b:.out∉X):yC w' aW v l:=
 ⟨ar h.is s.c (fun g a=>s.nd (cB h.is a) (h.k g a) b),fun g a=>(s.same _ (cB h.is a)).trans (h.k g a)⟩
theorem uR.tr(h:uR w χ L C)(s:eI X χ aW D w w')(e:.code∉X):uR w' aW L C where
 mx:=h.mx
 iU:=h.iU
 my:=h.my
 ca:=fun d=>by
  obtain⟨g,c,a,b⟩:=h.ca d;exact⟨g,c,a.ch s.c (s.nd a.lt b e),(s.same _ a.lt).trans b⟩
 prog:=fun d=>by
  obtain⟨g,c,a,b⟩:=h.prog d;exact⟨g,c,a.ch s.c (s.nd a.lt b e),(s.same _ a.lt).trans b⟩
 calls:=fun d=>by
  obtain⟨g,f,c,a,b⟩:=h.calls d;exact⟨g,f,c,a.ch s.c (s.nd a.lt b e),(s.same _ a.lt).trans b⟩
theorem ni{a:a4}{X Z:List a4}(h:a∉X++Z):a∉X/\a∉Z:=by simpa using h
theorem MB.step{K:KS}{Z:List a4}(h:MB Z w χ L Y C K)(s:eI X χ aW D w w')(hb:.back∉X):MB (X++Z) w' aW L Y C K where
 head:=fun a=>(h.head (ni a).2).tr s (ni a).1
 mem:=fun a=>(h.mem (ni a).2).tr s (ni a).1
 al:=fun a=>(h.al (ni a).2).tr s (ni a).1
 bW:=fun a=>(h.bW (ni a).2).tr s (ni a).1
 ring:=fun a=>(h.ring (ni a).2).tr s (ni a).1
 q:=fun a=>(h.q (ni a).2).tr s (ni a).1
 cX:=fun a=>(h.cX (ni a).2).tr s (ni a).1
 obj:=fun a=>(h.obj (ni a).2).tr s (ni a).1
 tm:=fun a=>(h.tm (ni a).2).tr s (ni a).1
 th:=fun id t b a=>(h.th id t b (ni a).2).tr s (ni a).1
 tl:=fun id t b a=>(h.tl id t b (ni a).2).tr s (ni a).1
 fr:=fun id t k f b c a=>(h.fr id t k f b c (ni a).2).tr s (ni a).1 hb
 wk:=fun a=>(h.wk (ni a).2).tr s (ni a).1 hb
 out:=fun a=>(h.out (ni a).2).tr s (ni a).1
 code:=fun a=>(h.code (ni a).2).tr s (ni a).1
 small:=s.small
theorem ae.step{K:KS}(h:ae w χ L Y C K)(s:eI X χ aW D w w')(hb:.back∉X):MB X w' aW L Y C K:=by
 have:=MB.step h s hb
 rwa [List.append_nil]at this
end
theorem eI.af{w w':World}{χ:Nat->a4}(c:Ch ag w w')(b:∀i,χ i≠ .no->i<w.heap.size):eI [] χ χ ag w w':=
 ⟨c,fun _ _ h=>h.elim,fun _ _=>rfl,fun i a=>Nat.lt_of_lt_of_le (b i a) c.size⟩
theorem ae.af{w w':World}{χ:Nat->a4}{L:cw}{Y:Var}{C:KC}{K:KS}(h:ae w χ L Y C K)(c:Ch ag w w'):ae w' χ L Y C K:=h.step (eI.af c h.small) (by simp)
theorem ae.drew{w:World}{χ:Nat->a4}{L:cw}{Y:Var}{C:KC}{K:KS}(h:ae w χ L Y C K):ae w.drew χ L Y C K:=h.af (Ch.refl _ _).drew
theorem ae.drewN{w:World}{χ:Nat->a4}{L:cw}{Y:Var}{C:KC}{K:KS}(h:ae w χ L Y C K)(n:Nat):ae (w.drewN n) χ L Y C K:=h.af ((Ch.refl _ _).drewN n)
theorem ae.alloc{w:World}{χ:Nat->a4}{L:cw}{Y:Var}{C:KC}{K:KS}(h:ae w χ L Y C K)(a:Obj):ae (w.alloc a) χ L Y C K:=h.af ((Ch.refl _ _).alloc a)
theorem eI.one{w w':World}{χ:Nat->a4}{D:Nat->Prop}{X:List a4}(c:Ch D w w')(a:∀i,D i->χ i∈X)(d:∀i,χ i≠ .no->i<w.heap.size):eI X χ χ D w w':=
 ⟨c,fun i _ h=>a i h,fun _ _=>rfl,fun i b=>Nat.lt_of_lt_of_le (d i b) c.size⟩
def cJ(χ:Nat->a4)(a:Option Nat)(c:a4):Nat->a4:=fun i=>if a=some i then c else χ i
theorem eI.cJ{w w':World}{χ:Nat->a4}{D:Nat->Prop}{X:List a4}{v b:Value}{k:a4}(c:Ch D w w')(e:∀i,i<w.heap.size->D i->χ i∈X)(l:∀i,χ i≠ .no->i<w.heap.size)(f:aQ w v b)(m:∀g,v.ownBlock=some g->χ g=k)(j:∀g,b.ownBlock=some g->g<w'.heap.size):
 eI X χ (cJ χ b.ownBlock k) D w w':=by
 refine⟨c,e,fun i a=> ?_,fun i a=> ?_⟩
 ·unfold Go.Proofs.YtfnilkpkogipfaaGreatDoor.cJ
  split
  ·rename_i h
   rcases f i h with d|d
   ·exact(m i d).symm
   ·omega
  ·rfl
 ·unfold Go.Proofs.YtfnilkpkogipfaaGreatDoor.cJ at a
  split at a
  ·rename_i h;exact j i h
  ·exact Nat.lt_of_lt_of_le (l i a) c.size
theorem hN{χ:Nat->a4}{v:Value}{k:a4}:∀g,v.ownBlock=some g->cJ χ v.ownBlock k g=k:=fun g a=>by unfold cJ;rw[if_pos a]
end
theorem MB.EH{w:World}{χ:Nat->a4}{L:cw}{Y:Var}{C:KC}{K:KS}{S:aF}(h:MB [.mem] w χ L Y C K)(c:v7 w χ L S):ae w χ L Y C {K with mem:=S} where
 head:=fun _=>h.head (by simp)
 mem:=fun _=>c
 al:=fun _=>h.al (by simp)
 bW:=fun _=>h.bW (by simp)
 ring:=fun _=>h.ring (by simp)
 q:=fun _=>h.q (by simp)
 cX:=fun _=>h.cX (by simp)
 obj:=fun _=>h.obj (by simp)
 tm:=fun _=>h.tm (by simp)
 th:=fun id t a _=>h.th id t a (by simp)
 tl:=fun id t a _=>h.tl id t a (by simp)
 fr:=fun id t k f a b _=>h.fr id t k f a b (by simp)
 wk:=fun _=>h.wk (by simp)
 out:=fun _=>h.out (by simp)
 code:=fun _=>h.code (by simp)
 small:=h.small
theorem MB.Fs{w:World}{χ:Nat->a4}{L:cw}{Y:Var}{C:KC}{K:KS}{v:Value}{b:aZ}{S:aF}(h:MB [.al,.mem] w χ L Y C K)(c:DG w χ L v b)(e:v7 w χ L S):ae w χ L {Y with av:=v} C {K with blocks:=b,mem:=S} where
 head:=fun _=>h.head (by simp)
 mem:=fun _=>e
 al:=fun _=>c
 bW:=fun _=>h.bW (by simp)
 ring:=fun _=>h.ring (by simp)
 q:=fun _=>h.q (by simp)
 cX:=fun _=>h.cX (by simp)
 obj:=fun _=>h.obj (by simp)
 tm:=fun _=>h.tm (by simp)
 th:=fun id t a _=>h.th id t a (by simp)
 tl:=fun id t a _=>h.tl id t a (by simp)
 fr:=fun id t k f a d _=>h.fr id t k f a d (by simp)
 wk:=fun _=>h.wk (by simp)
 out:=fun _=>h.out (by simp)
 code:=fun _=>h.code (by simp)
 small:=h.small
theorem MB.EI{w:World}{χ:Nat->a4}{L:cw}{Y:Var}{C:KC}{K:KS}{v:Value}{S:aN}(h:MB [.bW] w χ L Y C K)(b:yy w χ L v S):ae w χ L {Y with hv:=v} C {K with clock:=S} where
 head:=fun _=>h.head (by simp)
 mem:=fun _=>h.mem (by simp)
 al:=fun _=>h.al (by simp)
 bW:=fun _=>b
 ring:=fun _=>h.ring (by simp)
 q:=fun _=>h.q (by simp)
 cX:=fun _=>h.cX (by simp)
 obj:=fun _=>h.obj (by simp)
 tm:=fun _=>h.tm (by simp)
 th:=fun id t a _=>h.th id t a (by simp)
 tl:=fun id t a _=>h.tl id t a (by simp)
 fr:=fun id t k f a c _=>h.fr id t k f a c (by simp)
 wk:=fun _=>h.wk (by simp)
 out:=fun _=>h.out (by simp)
 code:=fun _=>h.code (by simp)
 small:=h.small
theorem MB.DI{w:World}{χ:Nat->a4}{L:cw}{Y:Var}{C:KC}{K:KS}{S:List Int}(h:MB [.ring] w χ L Y C K)(b:nn w χ L S):ae w χ L Y C {K with ring:=S} where
 head:=fun _=>h.head (by simp)
 mem:=fun _=>h.mem (by simp)
 al:=fun _=>h.al (by simp)
 bW:=fun _=>h.bW (by simp)
 ring:=fun _=>b
 q:=fun _=>h.q (by simp)
 cX:=fun _=>h.cX (by simp)
 obj:=fun _=>h.obj (by simp)
 tm:=fun _=>h.tm (by simp)
 th:=fun id t a _=>h.th id t a (by simp)
 tl:=fun id t a _=>h.tl id t a (by simp)
 fr:=fun id t k f a c _=>h.fr id t k f a c (by simp)
 wk:=fun _=>h.wk (by simp)
 out:=fun _=>h.out (by simp)
 code:=fun _=>h.code (by simp)
 small:=h.small
theorem MB.cQ{w:World}{χ:Nat->a4}{L:cw}{Y:Var}{C:KC}{K:KS}{b:List (List Sl)}{S:List (List hx)}(h:MB [.q] w χ L Y C K)(c:QC w χ L b S):ae w χ L {Y with ls:=b} C {K with q:=S} where
 head:=fun _=>h.head (by simp)
 mem:=fun _=>h.mem (by simp)
 al:=fun _=>h.al (by simp)
 bW:=fun _=>h.bW (by simp)
 ring:=fun _=>h.ring (by simp)
 q:=fun _=>c
 cX:=fun _=>h.cX (by simp)
 obj:=fun _=>h.obj (by simp)
 tm:=fun _=>h.tm (by simp)
 th:=fun id t a _=>h.th id t a (by simp)
 tl:=fun id t a _=>h.tl id t a (by simp)
 fr:=fun id t k f a d _=>h.fr id t k f a d (by simp)
 wk:=fun _=>h.wk (by simp)
 out:=fun _=>h.out (by simp)
 code:=fun _=>h.code (by simp)
 small:=h.small
theorem MB.EJ{w:World}{χ:Nat->a4}{L:cw}{Y:Var}{C:KC}{K:KS}{S:List aD}(h:MB [.cX] w χ L Y C K)(b:yz w χ L S):ae w χ L Y C {K with table:=S} where
 head:=fun _=>h.head (by simp)
 mem:=fun _=>h.mem (by simp)
 al:=fun _=>h.al (by simp)
 bW:=fun _=>h.bW (by simp)
 ring:=fun _=>h.ring (by simp)
 q:=fun _=>h.q (by simp)
 cX:=fun _=>b
 obj:=fun _=>h.obj (by simp)
 tm:=fun _=>h.tm (by simp)
 th:=fun id t a _=>h.th id t a (by simp)
 tl:=fun id t a _=>h.tl id t a (by simp)
 fr:=fun id t k f a c _=>h.fr id t k f a c (by simp)
 wk:=fun _=>h.wk (by simp)
 out:=fun _=>h.out (by simp)
 code:=fun _=>h.code (by simp)
 small:=h.small
theorem MB.EK{w:World}{χ:Nat->a4}{L:cw}{Y:Var}{C:KC}{K:KS}{S:List bC}(h:MB [.obj] w χ L Y C K)(b:yA w χ L S):ae w χ L Y C {K with cV:=S} where
 head:=fun _=>h.head (by simp)
 mem:=fun _=>h.mem (by simp)
 al:=fun _=>h.al (by simp)
 bW:=fun _=>h.bW (by simp)
 ring:=fun _=>h.ring (by simp)
 q:=fun _=>h.q (by simp)
 cX:=fun _=>h.cX (by simp)
 obj:=fun _=>b
 tm:=fun _=>h.tm (by simp)
 th:=fun id t a _=>h.th id t a (by simp)
 tl:=fun id t a _=>h.tl id t a (by simp)
 fr:=fun id t k f a c _=>h.fr id t k f a c (by simp)
 wk:=fun _=>h.wk (by simp)
 out:=fun _=>h.out (by simp)
 code:=fun _=>h.code (by simp)
 small:=h.small
theorem MB.DJ{w:World}{χ:Nat->a4}{L:cw}{Y:Var}{C:KC}{K:KS}{en at_ wn dr:Int}(h:MB [.gx] w χ L Y C K)(b:nl w χ L Y.ov C K.wk.length en at_ wn dr):ae w χ L Y C {K with entries:=en,at_:=at_,w:=wn,draw:=dr} where
 head:=fun _=>b
 mem:=fun _=>h.mem (by simp)
 al:=fun _=>h.al (by simp)
 bW:=fun _=>h.bW (by simp)
 ring:=fun _=>h.ring (by simp)
 q:=fun _=>h.q (by simp)
 cX:=fun _=>h.cX (by simp)
 obj:=fun _=>h.obj (by simp)
 tm:=fun _=>h.tm (by simp)
 th:=fun id t a _=>h.th id t a (by simp)
 tl:=fun id t a _=>h.tl id t a (by simp)
 fr:=fun id t k f a c _=>h.fr id t k f a c (by simp)
 wk:=fun _=>h.wk (by simp)
 out:=fun _=>h.out (by simp)
 code:=fun _=>h.code (by simp)
 small:=h.small
theorem MB.rr{w:World}{χ:Nat->a4}{L:cw}{Y:Var}{C:KC}{K:KS}{v:Value}{l:List Ev}(h:MB [.gx,.out] w χ L Y C K)(b:nl w χ L v C K.wk.length K.entries K.at_ K.w K.draw)(d:yC w χ v l):ae w χ L {Y with ov:=v} C {K with out:=l} where
 head:=fun _=>b
 mem:=fun _=>h.mem (by simp)
 al:=fun _=>h.al (by simp)
 bW:=fun _=>h.bW (by simp)
 ring:=fun _=>h.ring (by simp)
 q:=fun _=>h.q (by simp)
 cX:=fun _=>h.cX (by simp)
 obj:=fun _=>h.obj (by simp)
 tm:=fun _=>h.tm (by simp)
 th:=fun id t a _=>h.th id t a (by simp)
 tl:=fun id t a _=>h.tl id t a (by simp)
 fr:=fun id t k f a c _=>h.fr id t k f a c (by simp)
 wk:=fun _=>h.wk (by simp)
 out:=fun _=>d
 code:=fun _=>h.code (by simp)
 small:=h.small
theorem MB.Ft{w:World}{χ:Nat->a4}{L:cw}{Y:Var}{C:KC}{K:KS}{wv:Nat->Value}{l:List ak}(h:MB [.wk] w χ L Y C K)(d:l.length=K.wk.length)(b:DH w χ L wv l):ae w χ L {Y with wv:=wv} C {K with wk:=l} where
 head:=fun _=>by show nl w χ L Y.ov C l.length _ _ _ _;rw[d];exact h.head (by simp)
 mem:=fun _=>h.mem (by simp)
 al:=fun _=>h.al (by simp)
 bW:=fun _=>h.bW (by simp)
 ring:=fun _=>h.ring (by simp)
 q:=fun _=>h.q (by simp)
 cX:=fun _=>h.cX (by simp)
 obj:=fun _=>h.obj (by simp)
 tm:=fun _=>h.tm (by simp)
 th:=fun id t a _=>h.th id t a (by simp)
 tl:=fun id t a _=>h.tl id t a (by simp)
 fr:=fun id t k f a c _=>h.fr id t k f a c (by simp)
 wk:=fun _=>b
 out:=fun _=>h.out (by simp)
 code:=fun _=>h.code (by simp)
 small:=h.small
theorem yD{l:List (Int×Thread)}{k:Int}{v:Thread}{g:Int->Nat}(h:(aw l k).isSome):(b8 l k v).map (fun x=>(x.1,g x.1))=l.map (fun x=>(x.1,g x.1)):=by
 induction l with
 |nil=>rw[ya]at h;cases h
 |cons x l ih=>
  rw[dR];by_cases a:k=x.1
  ·rw[if_pos a];simp[a]
  ·rw[if_neg a]
   rw[cT,if_neg a]at h;simp only[List.map_cons,ih h]
theorem AZ.put{w:World}{χ:Nat->a4}{L:cw}{Y:Var}{l:List (Int×Thread)}{k:Int}{v:Thread}(h:AZ w χ L Y.bB l)(a:(aw l k).isSome):AZ w χ L Y.bB (b8 l k v):=
 ⟨by rw[yD (g:=Y.bB) a];exact h.is,h.k,h.nd.put k v⟩
theorem MB.Fu{w:World}{χ:Nat->a4}{L:cw}{Y:Var}{C:KC}{K:KS}{id:Int}{t b:Thread}(h:MB [.th id] w χ L Y C K)(d:aw K.ai id=some t)(g:b.l=t.l)(i:yB w χ (Y.bB id) (Y.lv id) id b):ae w χ L Y C (K.b9 id b) where
 head:=fun _=>h.head (by simp)
 mem:=fun _=>h.mem (by simp)
 al:=fun _=>h.al (by simp)
 bW:=fun _=>h.bW (by simp)
 ring:=fun _=>h.ring (by simp)
 q:=fun _=>h.q (by simp)
 cX:=fun _=>h.cX (by simp)
 obj:=fun _=>h.obj (by simp)
 tm:=fun _=>(h.tm (by simp)).put (by rw[d];rfl)
 th:=fun j u a _=>by
  rw[show(KS.b9 K id b).ai=b8 K.ai id b from rfl,aT]at a;split at a
  ·rename_i e;injection a with a;subst e a;exact i
  ·rename_i e;exact h.th j u a (by simp[e])
 tl:=fun j u a _=>by
  rw[show(KS.b9 K id b).ai=b8 K.ai id b from rfl,aT]at a;split at a
  ·rename_i e;injection a with a;subst e a;rw[g];exact h.tl j t d (by simp)
  ·exact h.tl j u a (by simp)
 fr:=fun j u k f a c _=>by
  rw[show(KS.b9 K id b).ai=b8 K.ai id b from rfl,aT]at a;split at a
  ·rename_i e;injection a with a;subst e a;rw[g]at c;exact h.fr j t k f d c (by simp)
  ·exact h.fr j u k f a c (by simp)
 wk:=fun _=>h.wk (by simp)
 out:=fun _=>h.out (by simp)
 code:=fun _=>h.code (by simp)
 small:=h.small
theorem MB.Fv{w:World}{χ:Nat->a4}{L:cw}{Y:Var}{C:KC}{K:KS}{id:Int}{k:Nat}{t:Thread}{f:Frame}{v:Value}(h:MB [.fr id k] w χ L Y C K)(g:aw K.ai id=some t)(o:k<t.l.length)(n:Ak w χ (Y.fb id k) v id k f):ae w χ L {Y with bv:=fun i j=>if i=id/\j=k then v else Y.bv i j} C (K.b9 id {t with l:=t.l.set k f}) where
 head:=fun _=>h.head (by simp)
 mem:=fun _=>h.mem (by simp)
 al:=fun _=>h.al (by simp)
 bW:=fun _=>h.bW (by simp)
 ring:=fun _=>h.ring (by simp)
 q:=fun _=>h.q (by simp)
 cX:=fun _=>h.cX (by simp)
 obj:=fun _=>h.obj (by simp)
 tm:=fun _=>(h.tm (by simp)).put (by rw[g];rfl)
 th:=fun j u a _=>by
  rw[show(KS.b9 K id {t with l:=t.l.set k f}).ai=b8 K.ai id {t with l:=t.l.set k f}from rfl,aT]at a;split at a
  ·rename_i e;injection a with a;subst e a;have:=h.th j t g (by simp);exact⟨this.is,this.k⟩
  ·exact h.th j u a (by simp)
 tl:=fun j u a _=>by
  rw[show(KS.b9 K id {t with l:=t.l.set k f}).ai=b8 K.ai id {t with l:=t.l.set k f}from rfl,aT]at a;split at a
  ·rename_i e;injection a with a;subst e a;have:=h.tl j t g (by simp);rw[List.length_set];exact this
  ·exact h.tl j u a (by simp)
 fr:=fun j u c m a b _=>by
  rw[show(KS.b9 K id {t with l:=t.l.set k f}).ai=b8 K.ai id {t with l:=t.l.set k f}from rfl,aT]at a;show Ak w χ (Y.fb j c) (if j=id/\c=k then v else Y.bv j c) j c m
  split at a
  ·rename_i e;injection a with a;subst e a
   by_cases d:c=k
   ·subst d
    rw[List.getElem?_set_self o]at b;injection b with b
    subst b;rw[if_pos ⟨rfl,rfl⟩];exact n
   ·rw[List.getElem?_set_ne (fun e=>d e.symm)]at b
    rw[if_neg (fun h=>d h.2)];exact h.fr j t c m g b (by simp[d])
  ·rename_i e
   rw[if_neg (fun h=>e h.1)];exact h.fr j u c m a b (by simp[e])
 wk:=fun _=>h.wk (by simp)
 out:=fun _=>h.out (by simp)
 code:=fun _=>h.code (by simp)
 small:=h.small
theorem MB.EL{w:World}{χ:Nat->a4}{L:cw}{Y:Var}{C:KC}{K:KS}{id:Int}{n:Nat}{t:Thread}{v:Value}(h:MB [.th id] w χ L Y C K)(c:aw K.ai id=some t)(o:n<=t.l.length)(g:yB w χ (Y.bB id) v id {t with l:=t.l.take n})(m:Aj w χ v (Y.fb id) id n):ae w χ L {Y with lv:=fun i=>if i=id then v else Y.lv i} C (K.b9 id {t with l:=t.l.take n}) where
 head:=fun _=>h.head (by simp)
 mem:=fun _=>h.mem (by simp)
 al:=fun _=>h.al (by simp)
 bW:=fun _=>h.bW (by simp)
 ring:=fun _=>h.ring (by simp)
 q:=fun _=>h.q (by simp)
 cX:=fun _=>h.cX (by simp)
 obj:=fun _=>h.obj (by simp)
 tm:=fun _=>(h.tm (by simp)).put (by rw[c];rfl)
 th:=fun j u a _=>by
  rw[show(KS.b9 K id {t with l:=t.l.take n}).ai=b8 K.ai id {t with l:=t.l.take n}from rfl,aT]at a;show yB w χ (Y.bB j) (if j=id then v else Y.lv j) j u
  split at a
  ·rename_i e;injection a with a;subst e a;rw[if_pos rfl];exact g
  ·rename_i e;rw[if_neg e];exact h.th j u a (by simp[e])
 tl:=fun j u a _=>by
  rw[show(KS.b9 K id {t with l:=t.l.take n}).ai=b8 K.ai id {t with l:=t.l.take n}from rfl,aT]at a;show Aj w χ (if j=id then v else Y.lv j) (Y.fb j) j u.l.length
  split at a
  ·rename_i e;injection a with a;subst e a
   rw[if_pos rfl,show({t with l:=t.l.take n}:Thread).l.length=n from by simp;omega];exact m
  ·rename_i e;rw[if_neg e];exact h.tl j u a (by simp)
 fr:=fun j u k f a b _=>by
  rw[show(KS.b9 K id {t with l:=t.l.take n}).ai=b8 K.ai id {t with l:=t.l.take n}from rfl,aT]at a;split at a
  ·rename_i e;injection a with a;subst e a
   have d:t.l[k]?=some f:=by
    have:(t.l.take n)[k]?=some f:=b;rw[List.getElem?_take]at this;split at this
    ·exact this
    ·cases this
   exact h.fr j t k f c d (by simp)
  ·exact h.fr j u k f a b (by simp)
 wk:=fun _=>h.wk (by simp)
 out:=fun _=>h.out (by simp)
 code:=fun _=>h.code (by simp)
 small:=h.small
theorem MB.DK{w:World}{χ:Nat->a4}{L:cw}{Y:Var}{C:KC}{K:KS}{id:Int}{t:Thread}{f:Frame}{v bv':Value}{b:Nat}(h:MB [.th id,.tl id] w χ L Y C K)(n:aw K.ai id=some t)(s:yB w χ (Y.bB id) v id {t with l:=t.l++[f]})(x:Aj w χ v (fun j=>if j=t.l.length then b else Y.fb id j) id (t.l.length+1))(p:Ak w χ b bv' id t.l.length f):ae w χ L {Y with lv:=fun i=>if i=id then v else Y.lv i,fb:=fun i j=>if i=id/\j=t.l.length then b else Y.fb i j,bv:=fun i j=>if i=id/\j=t.l.length then bv' else Y.bv i j} C (K.b9 id {t with l:=t.l++[f]}) where
 head:=fun _=>h.head (by simp)
 mem:=fun _=>h.mem (by simp)
 al:=fun _=>h.al (by simp)
 bW:=fun _=>h.bW (by simp)
 ring:=fun _=>h.ring (by simp)
 q:=fun _=>h.q (by simp)
 cX:=fun _=>h.cX (by simp)
 obj:=fun _=>h.obj (by simp)
 tm:=fun _=>(h.tm (by simp)).put (by rw[n];rfl)
 th:=fun j u a _=>by
  rw[show(KS.b9 K id {t with l:=t.l++[f]}).ai=b8 K.ai id {t with l:=t.l++[f]}from rfl,aT]at a;show yB w χ (Y.bB j) (if j=id then v else Y.lv j) j u
  split at a
  ·rename_i e;injection a with a;subst e a;rw[if_pos rfl];exact s
  ·rename_i e;rw[if_neg e];exact h.th j u a (by simp[e])
 tl:=fun j u a _=>by
  rw[show(KS.b9 K id {t with l:=t.l++[f]}).ai=b8 K.ai id {t with l:=t.l++[f]}from rfl,aT]at a;show Aj w χ (if j=id then v else Y.lv j) (fun k=>if j=id/\k=t.l.length then b else Y.fb j k) j u.l.length
  split at a
  ·rename_i e;injection a with a;subst e a
   rw[if_pos rfl,show({t with l:=t.l++[f]}:Thread).l.length=t.l.length+1 from by simp];simpa using x
  ·rename_i e;rw[if_neg e];simpa[e]using h.tl j u a (by simp[e])
 fr:=fun j u k c a g _=>by
  rw[show(KS.b9 K id {t with l:=t.l++[f]}).ai=b8 K.ai id {t with l:=t.l++[f]}from rfl,aT]at a;show Ak w χ (if j=id/\k=t.l.length then b else Y.fb j k) (if j=id/\k=t.l.length then bv' else Y.bv j k) j k c
  split at a
  ·rename_i e;injection a with a;subst e a
   by_cases m:k=t.l.length
   ·subst m
    have d:(t.l++[f])[t.l.length]?=some c:=g;rw[List.getElem?_append_right (Nat.le_refl _)]at d;have o:f=c:=by simpa using d
    subst o;rw[if_pos ⟨rfl,rfl⟩,if_pos ⟨rfl,rfl⟩];exact p
   ·have d:(t.l++[f])[k]?=some c:=g
    have r:k<t.l.length:=by
     have:=(List.getElem?_eq_some_iff.1 d).1;simp at this;omega
    rw[List.getElem?_append_left r]at d;rw[if_neg (fun h=>m h.2),if_neg (fun h=>m h.2)];exact h.fr j t k c n d (by simp)
  ·rename_i e
   rw[if_neg (fun h=>e h.1),if_neg (fun h=>e h.1)];exact h.fr j u k c a g (by simp)
 wk:=fun _=>h.wk (by simp)
 out:=fun _=>h.out (by simp)
 code:=fun _=>h.code (by simp)
 small:=h.small
theorem iV{l:List (Int×Thread)}{id j:Int}{u:Thread}(b:f' l)(a:aw (fk l id) j=some u):aw l j=some u:=by
 by_cases e:j=id
 ·subst e
  rw[(b.del j).2]at a;cases a
 ·rwa [fZ _ _ _ e]at a
theorem MB.EM{w:World}{χ:Nat->a4}{L:cw}{Y:Var}{C:KC}{K:KS}{id:Int}(h:MB [.tm] w χ L Y C K)(b:f' K.ai)(c:AZ w χ L Y.bB (fk K.ai id)):ae w χ L Y C {K with ai:=fk K.ai id} where
 head:=fun _=>h.head (by simp)
 mem:=fun _=>h.mem (by simp)
 al:=fun _=>h.al (by simp)
 bW:=fun _=>h.bW (by simp)
 ring:=fun _=>h.ring (by simp)
 q:=fun _=>h.q (by simp)
 cX:=fun _=>h.cX (by simp)
 obj:=fun _=>h.obj (by simp)
 tm:=fun _=>c
 th:=fun j u a _=>h.th j u (iV b a) (by simp)
 tl:=fun j u a _=>h.tl j u (iV b a) (by simp)
 fr:=fun j u k f a d _=>h.fr j u k f (iV b a) d (by simp)
 wk:=fun _=>h.wk (by simp)
 out:=fun _=>h.out (by simp)
 code:=fun _=>h.code (by simp)
 small:=h.small
theorem MB.DL{w:World}{χ:Nat->a4}{L:cw}{Y:Var}{C:KC}{K:KS}{id:Int}{t:Thread}{f:Frame}{v bv':Value}{b fbk:Nat}(h:MB [.tm] w χ L Y C K)(p:aw K.ai id=none)(g:t.l=[f])(l:AZ w χ L (fun i=>if i=id then b else Y.bB i) (b8 K.ai id t))(n:yB w χ b v id t)(o:Aj w χ v (fun _=>fbk) id 1)(m:Ak w χ fbk bv' id 0 f):ae w χ L {Y with bB:=fun i=>if i=id then b else Y.bB i,lv:=fun i=>if i=id then v else Y.lv i,fb:=fun i j=>if i=id then fbk else Y.fb i j,bv:=fun i j=>if i=id then bv' else Y.bv i j} C {K with ai:=b8 K.ai id t} where
 head:=fun _=>h.head (by simp)
 mem:=fun _=>h.mem (by simp)
 al:=fun _=>h.al (by simp)
 bW:=fun _=>h.bW (by simp)
 ring:=fun _=>h.ring (by simp)
 q:=fun _=>h.q (by simp)
 cX:=fun _=>h.cX (by simp)
 obj:=fun _=>h.obj (by simp)
 tm:=fun _=>l
 th:=fun j u a _=>by
  rw[aT]at a;show yB w χ (if j=id then b else Y.bB j) (if j=id then v else Y.lv j) j u
  split at a
  ·rename_i e;injection a with a;subst e a;rw[if_pos rfl,if_pos rfl];exact n
  ·rename_i e;rw[if_neg e,if_neg e];exact h.th j u a (by simp)
 tl:=fun j u a _=>by
  rw[aT]at a;show Aj w χ (if j=id then v else Y.lv j) (fun k=>if j=id then fbk else Y.fb j k) j u.l.length
  split at a
  ·rename_i e;injection a with a;subst e a;rw[g];simpa using o
  ·rename_i e;simpa[e]using h.tl j u a (by simp)
 fr:=fun j u k d a c _=>by
  rw[aT]at a;show Ak w χ (if j=id then fbk else Y.fb j k) (if j=id then bv' else Y.bv j k) j k d
  split at a
  ·rename_i e;injection a with a;subst e a
   rw[g]at c;cases k with
   |zero=>
    have:f=d:=by simpa using c
    subst this;simpa using m
   |succ k=>simp at c
  ·rename_i e;simpa[e]using h.fr j u k d a c (by simp)
 wk:=fun _=>h.wk (by simp)
 out:=fun _=>h.out (by simp)
 code:=fun _=>h.code (by simp)
 small:=h.small
section
structure Nx(χ aW:Nat->a4)(w w':World):Prop where
 ch:Ch (fun i=>χ i≠ .no) w w'
 same:∀i,i<w.heap.size->aW i=χ i
theorem Nx.refl(χ:Nat->a4)(w:World):Nx χ χ w w:=⟨Ch.refl _ _,fun _ _=>rfl⟩
theorem Nx.trans{χ b c:Nat->a4}{w w1 w2:World}(h:Nx χ b w w1)(k:Nx b c w1 w2):Nx χ c w w2:=
 ⟨h.ch.join k.ch (fun i a d=>by rw[<-h.same i a];exact d),fun i a=>(k.same i (Nat.lt_of_lt_of_le a h.ch.size)).trans (h.same i a)⟩
theorem Nx.af{χ:Nat->a4}{w w':World}(c:Ch ag w w'):Nx χ χ w w':=⟨c.af,fun _ _=>rfl⟩
theorem Nx.of{X:List a4}{χ aW:Nat->a4}{D:Nat->Prop}{w w':World}(s:eI X χ aW D w w')(a:.no∉X):Nx χ aW w w':=
 ⟨⟨s.c.os,s.c.tape,s.c.output,s.c.size,fun b hb d=>s.c.same b hb (fun c=>a (by
  have:=s.Ff b hb c;have e:χ b=.no:=Classical.not_not.1 d
  rwa [e]at this))⟩,s.same⟩
def Yk(K:KS)(Y Y':Var):Prop:=∀id t,aw K.ai id=some t->Y'.bB id=Y.bB id/\∀k,k<t.l.length->Y'.fb id k=Y.fb id k
theorem Yk.refl(K:KS)(Y:Var):Yk K Y Y:=fun _ _ _=>⟨rfl,fun _ _=>rfl⟩
def Gr(K K':KS):Prop:=∀id t,aw K.ai id=some t->∃a,aw K'.ai id=some a/\t.l.length<=a.l.length
theorem Gr.refl(K:KS):Gr K K:=fun _ t h=>⟨t,h,Nat.le_refl _⟩
theorem Gr.of_eq{K K':KS}(h:K'.ai=K.ai):Gr K K':=fun _ t a=>⟨t,by rw[h];exact a,Nat.le_refl _⟩
theorem Gr.trans{K K1 a:KS}(h:Gr K K1)(k:Gr K1 a):Gr K a:=fun id t f=>by
 obtain⟨t1,b,c⟩:=h id t f;obtain⟨t2,d,e⟩:=k id t1 b;exact⟨t2,d,Nat.le_trans c e⟩
theorem Yk.trans{K K1:KS}{Y b c:Var}(h:Yk K Y b)(g:Gr K K1)(k:Yk K1 b c):Yk K Y c:=fun id t a=>by
 obtain⟨t1,d,f⟩:=g id t a;exact⟨(k id t1 d).1.trans (h id t a).1,fun j e=>((k id t1 d).2 j (by omega)).trans ((h id t a).2 j e)⟩
structure dB(χ:Nat->a4)(L:cw)(Y:Var)(C:KC)(K K':KS)(w:World)(aW:Nat->a4)(Y':Var)(w':World):Prop where
 at_:ae w' aW L Y' C K'
 nx:Nx χ aW w w'
 yk:Yk K Y Y'
def de(v:Value)(χ:Nat->a4)(L:cw)(Y:Var)(C:KC)(K K':KS)(w:World)(e:Ending)(w':World):Prop:=e=.returned v/\∃aW Y',dB χ L Y C K K' w aW Y' w'
def np(ok:Bool)(χ:Nat->a4)(L:cw)(Y:Var)(C:KC)(K K':KS)(w:World)(e:Ending)(w':World):Prop:=(∃v,e=.returned v/\(if ok then v=.nilIface else aq v))/\∃aW Y',dB χ L Y C K K' w aW Y' w'
def v8(x:Option Int)(χ:Nat->a4)(L:cw)(Y:Var)(C:KC)(K K':KS)(w:World)(e:Ending)(w':World):Prop:=
 (match x with
  |some a=>e=.returned (.tuple #[.int .u64 a,.nilIface])
  |none=>∃v,e=.returned (.tuple #[.int .u64 0,v])/\aq v)/\∃aW Y',dB χ L Y C K K' w aW Y' w'
section
variable{w w':World}{χ:Nat->a4}{L:cw}{Y:Var}{C:KC}{K:KS}
theorem ae.hg(h:ae w χ L Y C K)(c:Ch ag w w'):dB χ L Y C K K w χ Y w':=⟨h.af c,Nx.af c,Yk.refl _ _⟩
theorem ae.o3(h:ae w χ L Y C K){S:aF}{D:Nat->Prop}(e:aO w' L.m L.c L.d S)(c:Ch D w w')(b:∀i,D i->i=L.m∨i=L.c∨i=L.d):dB χ L Y C K {K with mem:=S} w χ Y w':=by
 have a:=h.mem (by simp);have s:eI [.mem] χ χ D w w':=eI.one c (fun i d=>by rcases b i d with rfl|rfl|rfl<;>simp[a.k1,a.k2,a.k3]) h.small;exact⟨(h.step s (by simp)).EH ⟨e,a.k1,a.k2,a.k3⟩,Nx.of s (by simp),Yk.refl _ _⟩
theorem ae.tf(h:ae w χ L Y C K){q:List Int}(d:eH w' L.rb L.rg q)(c:Ch (di L.rb L.rg) w w'):dB χ L Y C K {K with ring:=q} w χ Y w':=by
 have a:=h.ring (by simp);have s:eI [.ring] χ χ (di L.rb L.rg) w w':=eI.one c (fun i b=>by rcases b with rfl|rfl<;>simp[a.k1,a.k2]) h.small;exact⟨(h.step s (by simp)).DI ⟨d,a.k1,a.k2⟩,Nx.of s (by simp),Yk.refl _ _⟩
theorem ae.l8(h:ae w χ L Y C K){l:List aD}(d:aU w' L.tb L.tg l)(c:Ch (aK L.tg) w w'):dB χ L Y C K {K with table:=l} w χ Y w':=by
 have a:=h.cX (by simp);have s:eI [.cX] χ χ (aK L.tg) w w':=eI.one c (fun i b=>by rcases b with rfl;simp[a.k2]) h.small;exact⟨(h.step s (by simp)).EJ ⟨d,a.k1,a.k2⟩,Nx.of s (by simp),Yk.refl _ _⟩
theorem ae.BU(h:ae w χ L Y C K){l:List bC}(d:bL w' L.ob L.og l)(c:Ch (aK L.og) w w'):dB χ L Y C K {K with cV:=l} w χ Y w':=by
 have a:=h.obj (by simp);have s:eI [.obj] χ χ (aK L.og) w w':=eI.one c (fun i b=>by rcases b with rfl;simp[a.k2]) h.small;exact⟨(h.step s (by simp)).EK ⟨d,a.k1,a.k2⟩,Nx.of s (by simp),Yk.refl _ _⟩
theorem ae.yE(h:ae w χ L Y C K){v:Value}{S:aN}(d:aX w' L.cb L.ch L.cm L.cq v S)(f:aQ w Y.hv v)(c:Ch (e0 L.cb L.ch L.cm L.cq Y.hv) w w'):
 dB χ L Y C K {K with clock:=S} w (cJ χ v.ownBlock .bW) {Y with hv:=v} w':=by
 have a:=h.bW (by simp);have s:eI [.bW] χ (cJ χ v.ownBlock .bW) (e0 L.cb L.ch L.cm L.cq Y.hv) w w':=eI.cJ c (fun i _ b=>by
  rcases b with rfl|rfl|rfl|rfl|b
  ·simp[a.k1]
  ·simp[a.k4]
  ·simp[a.k2]
  ·simp[a.k3]
  ·simp[a.k5 i b]) h.small f a.k5 (fun g e=>cB d.heap.own e)
 refine⟨(h.step s (by simp)).EI ⟨d,?_,?_,?_,?_,hN⟩,Nx.of s (by simp),Yk.refl _ _⟩
 ·exact(s.same _ a.is.head.lt).trans a.k1
 ·exact(s.same _ a.is.heap.head.lt).trans a.k2
 ·exact(s.same _ a.is.heap.map.lt).trans a.k3
 ·exact(s.same _ a.is.ff.lt).trans a.k4
theorem ae.A1(h:ae w χ L Y C K){v:Value}{e:aZ}{S:aF}(f:aR w' L.ab L.m v e)(k:aQ w Y.av v)(l:aO w' L.m L.c L.d S)(c:Ch (lf L.ab Y.av L.m L.c L.d) w w'):
 dB χ L Y C K {K with blocks:=e,mem:=S} w (cJ χ v.ownBlock .al) {Y with av:=v} w':=by
 have b:=h.al (by simp);have a:=h.mem (by simp);have s:eI [.al,.mem] χ (cJ χ v.ownBlock .al) (lf L.ab Y.av L.m L.c L.d) w w':=eI.cJ c (fun i _ d=>by
  rcases d with(rfl|d)|rfl|rfl|rfl
  ·simp[b.k1]
  ·simp[b.k2 i d]
  ·simp[a.k1]
  ·simp[a.k2]
  ·simp[a.k3]) h.small k b.k2 (fun g j=>cB f.own j)
 refine⟨(h.step s (by simp)).Fs ⟨f,?_,hN⟩ ⟨l,?_,?_,?_⟩,Nx.of s (by simp),Yk.refl _ _⟩
 ·exact(s.same _ b.is.head.lt).trans b.k1
 ·exact(s.same _ a.is.head.lt).trans a.k1
 ·exact(s.same _ a.is.cells.lt).trans a.k2
 ·exact(s.same _ a.is.width.lt).trans a.k3
theorem ae.Fw(h:ae w χ L Y C K){a:List (List Sl)}(j:ig w' L.qb L.ql L.qm a)(c:Ch (QD L.qb L.ql L.qm Y.ls) w w')(k:∀s∈a.flatten,(∃x∈Y.ls.flatten,x.b=s.b)∨w.heap.size<=s.b):
 ∃aW,dB χ L Y C K {K with q:=b2 a} w aW {Y with ls:=a} w':=by
 have g:=h.q (by simp)
 classical
 refine⟨fun i=>if QD L.qb L.ql L.qm a i then .q else χ i,?_⟩;have m:∀i,i<w.heap.size->(if QD L.qb L.ql L.qm a i then a4.q else χ i)=χ i:=fun i d=>by
  split
  ·rename_i b
   refine(g.k i ?_).symm;rcases b with e|e|e|⟨s,l,e⟩
   ·exact Or.inl e
   ·exact Or.inr (Or.inl e)
   ·exact Or.inr (Or.inr (Or.inl e))
   ·rcases k s l with⟨x,n,f⟩|f
    ·exact Or.inr (Or.inr (Or.inr ⟨x,n,f.trans e⟩))
    ·omega
  ·rfl
 have s:eI [.q] χ (fun i=>if QD L.qb L.ql L.qm a i then .q else χ i) (QD L.qb L.ql L.qm Y.ls) w w':=⟨c,fun i _ b=>by simp[g.k i b],m,fun i d=>by
  split at d
  ·rename_i b;exact j.A0 b
  ·exact Nat.lt_of_lt_of_le (h.small i d) c.size⟩
 exact⟨(h.step s (by simp)).cQ ⟨j,rfl,fun i d=>if_pos d⟩,Nx.of s (by simp),Yk.refl _ _⟩
end
end
end Go.Proofs.YtfnilkpkogipfaaGreatDoor
