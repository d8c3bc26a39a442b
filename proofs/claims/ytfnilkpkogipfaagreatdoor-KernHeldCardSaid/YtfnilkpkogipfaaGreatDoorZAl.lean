import Derived.Test.YtfnilkpkogipfaaGreatDoorZAk
set_option linter.unusedVariables false
set_option linter.unusedSimpArgs false
set_option maxRecDepth 100000
set_option maxHeartbeats 8000000
namespace Go.Proofs.YtfnilkpkogipfaaGreatDoor
open Go.RowKit Go.Proofs.Tryz
def bf(b:Nat):Value:=.pointer (some (b,0))
def kr(s:Sl)(p n:Option Nat):List Value:=[.int .u64 s.id,.int .u64 s.ad,.int .u64 s.mask,ptrTo p,ptrTo n]
def bM(w:World):Option Nat->Option Nat->List Sl->Prop
 |_,_,[]=>True
 |p,e,s::r=>Row w s.b 256 (kr s p ((r.head?.map Sl.b).or e))/\bM w (some s.b) e r
theorem bM.ch{w w':World}{D:Nat->Prop}(c:Ch D w w'):∀{p e:Option Nat} {l:List Sl},bM w p e l->(∀s∈l,¬D s.b)->bM w' p e l
 |_,_,[],_,_=>trivial
 |_,_,s::r,h,a=>⟨h.1.ch c (a s (by simp)),bM.ch c h.2 (fun x b=>a x (by simp[b]))⟩
theorem bM.mem{w:World}:∀{p e:Option Nat} {l:List Sl},bM w p e l->∀s∈l,∃a b,Row w s.b 256 (kr s a b)
 |_,_,x::r,h,s,c=>by
  rcases List.mem_cons.1 c with rfl|c
  ·exact⟨_,_,h.1⟩
  ·exact bM.mem h.2 s c
theorem fP{w:World}{p e:Option Nat}{s:Sl}{r:List Sl}:bM w p e (s::r)↔Row w s.b 256 (kr s p ((r.head?.map Sl.b).or e))/\bM w (some s.b) e r:=Iff.rfl
theorem lj{w:World}{p e:Option Nat}:bM w p e []↔True:=Iff.rfl
theorem bM.app{w:World}:∀{p e:Option Nat} {l r:List Sl},bM w p e (l++r)↔bM w p ((r.head?.map Sl.b).or e) l/\bM w ((l.getLast?.map Sl.b).or p) e r
 |p,e,[],r=>by simp[lj]
 |p,e,s::l,r=>by
  rw[List.cons_append,fP,fP,bM.app (l:=l)];cases l with
  |nil=>simp[lj]
  |cons y l=>
   rw[List.getLast?_cons_cons];obtain⟨z,a⟩:∃z,(y::l).getLast?=some z:=⟨_,List.getLast?_eq_some_getLast (by simp)⟩;rw[a];simp[and_assoc]
theorem bM.snoc{w:World}{p e:Option Nat}{l:List Sl}{x:Sl}:bM w p e (l++[x])↔bM w p (some x.b) l/\Row w x.b 256 (kr x ((l.getLast?.map Sl.b).or p) e):=by
 rw[bM.app,fP];simp[lj]
theorem bM.mid{w:World}{p e:Option Nat}{l r:List Sl}{x:Sl}:bM w p e (l++x::r)↔bM w p (some x.b) l/\Row w x.b 256 (kr x ((l.getLast?.map Sl.b).or p) ((r.head?.map Sl.b).or e))/\bM w (some x.b) e r:=by
 rw[bM.app,fP];simp
theorem eO(l:List Sl):(bO l).length=2:=rfl
theorem lk:∀{d:List (List Sl)} {k:Nat} {x y:List Sl} {a b:Value},d[k]?=some x->bO y=[a,b]->((d.flatMap bO).set (k*2) a).set (k*2+1) b=(d.set k y).flatMap bO
 |[],k,x,y,a,b,h,_=>by simp at h
 |z::d,0,x,y,a,b,h,c=>by
  rw[List.flatMap_cons];show((bO z++_).set 0 a).set 1 b=_
  simp[bO]at c⊢;exact⟨c.1.symm,c.2.symm⟩
 |z::d,k+1,x,y,a,b,h,c=>by
  have e:(k+1)*2=k*2+2:=Nat.succ_mul k 2;rw[List.flatMap_cons,List.set_append_right _ _ (by rw[eO,e];omega),eO,show(k+1)*2-2=k*2 from by omega,
   List.set_append_right _ _ (by rw[eO,e];omega),eO,show(k+1)*2+1-2=k*2+1 from by omega,lk (by simpa using h) c]
  simp
structure ig(w:World)(qb lb mb:Nat)(ls:List (List Sl)):Prop where
 head:Row w qb 214 [.slice (some (lb,0)) (8:Nat) (8:Nat),.map (some mb)]
 ends:Row w lb 254 (ls.flatMap bO)
 len:ls.length=8
 chain:∀(k:Nat) (l:List Sl),ls[k]?=some l->bM w none none l
 map:∃m,bH w mb .u64 bf m/\f' m/\∀id,aw m id=(ls.flatten.find? (fun s=>s.id==id)).map Sl.b
 nd:(ls.flatten.map Sl.b).Nodup
 xL:(ls.flatten.map Sl.id).Nodup
 at_:∀(k:Nat) (l:List Sl),ls[k]?=some l->∀s∈l,bc s.ad (8:Nat)=k
def QD(qb lb mb:Nat)(a:List (List Sl)):Nat->Prop:=fun i=>i=qb∨i=lb∨i=mb∨∃s∈a.flatten,s.b=i
def Sl.s(x:Sl):hx:=⟨x.id,x.ad,x.mask⟩
def b2(a:List (List Sl)):List (List hx):=a.map (·.map Sl.s)
theorem bo{a:List (List Sl)}{k:Nat}{l:List Sl}(h:a[k]?=some l){s:Sl}(b:s∈l):s∈a.flatten:=List.mem_flatten.2 ⟨l,List.mem_of_getElem? h,b⟩
theorem ig.ch{w w':World}{D:Nat->Prop}{qb lb mb:Nat}{b:List (List Sl)}(h:ig w qb lb mb b)(c:Ch D w w')(a:∀i,QD qb lb mb b i->¬D i):ig w' qb lb mb b where
 head:=h.head.ch c (a _ (Or.inl rfl))
 ends:=h.ends.ch c (a _ (Or.inr (Or.inl rfl)))
 len:=h.len
 chain:=fun k l d=>(h.chain k l d).ch c (fun s g=>a _ (Or.inr (Or.inr (Or.inr ⟨s,bo d g,rfl⟩))))
 map:=by
  obtain⟨m,e,f⟩:=h.map;exact⟨m,e.ch c (a _ (Or.inr (Or.inr (Or.inl rfl)))),f⟩
 nd:=h.nd
 xL:=h.xL
 at_:=h.at_
theorem ig.af{w w':World}{qb lb mb:Nat}{a:List (List Sl)}(h:ig w qb lb mb a)(c:Ch ag w w'):ig w' qb lb mb a:=h.ch c (fun _ _ h=>h)
theorem e1{α:Type}{a:List (List α)}{k:Nat}{l:List α}(h:a[k]?=some l):a.flatten=(a.take k).flatten++l++(a.drop (k+1)).flatten/\∀y,(a.set k y).flatten=(a.take k).flatten++y++(a.drop (k+1)).flatten:=by
 obtain⟨b,rfl⟩:=List.getElem?_eq_some_iff.1 h
 constructor
 ·calc a.flatten=(a.take k++a.drop k).flatten:=by rw[List.take_append_drop]
   _=_:=by rw[List.drop_eq_getElem_cons b,List.flatten_append,List.flatten_cons,List.append_assoc]
 ·intro y
  rw[List.set_eq_take_append_cons_drop,if_pos b];simp
theorem hM{α:Type}{a:List (List α)}{s:α}(h:s∈a.flatten):∃(k:Nat) (pre post:List α),a[k]?=some (pre++s::post):=by
 obtain⟨l,c,d⟩:=List.mem_flatten.1 h;obtain⟨k,b⟩:=List.getElem?_of_mem c;obtain⟨pre,post,rfl⟩:=List.append_of_mem d;exact⟨k,pre,post,b⟩
theorem ig.apart{w:World}{qb lb mb:Nat}{d:List (List Sl)}(h:ig w qb lb mb d){s:Sl}(i:s∈d.flatten):s.b≠qb/\s.b≠lb/\s.b≠mb/\s.b<w.heap.size:=by
 obtain⟨k,pre,post,f⟩:=hM i;obtain⟨a,b,c⟩:=(h.chain k _ f).mem s (by simp);obtain⟨m,g,_⟩:=h.map;exact⟨c.ne h.head (by decide),c.ne h.ends (by decide),fun e=>g.ne c e.symm,c.lt⟩
theorem tc(qb lb c n k s:Nat)(p:Value)(Q:List Value)(id d mask:Int)(pv y:Value)(v:1<=n)(x:n<=64)(j:bc d n=k)(D:k<n)(w:World)
 (g:Row w qb 214 [.slice (some (lb,0)) n c,p]) (b:Row w lb 254 Q) (hlen:Q.length=n*2) (l:Q[k*2+1]?=some (.pointer none))
 (a:Row w s 256 [.int .u64 id,.int .u64 d,.int .u64 mask,pv,y]):
 Calls prog 207 #[(qb,0),(s,0)] w (fun e w'=>e=.returned (.tuple #[])/\
  Row w' lb 254 ((Q.set (k*2) (.pointer (some (s,0)))).set (k*2+1) (.pointer (some (s,0))))/\Row w' s 256 [.int .u64 id,.int .u64 d,.int .u64 mask,.pointer none,.pointer none]/\Ch (di lb s) w w'):=by
 have i:=Z (fun w h=>dF qb lb p d n c v x w h);rw[j]at i;have t:=Z g;have r:=Z b;have u:=Z a;have f:lb≠s:=b.ne a (by decide);have m:s≠lb:=fun e=>f e.symm
 have z:=g.c1;have G:=a.k 1 rfl;have H:=a.k 3 rfl;have I:=a.k 4 rfl;have A:=a.free 3;have B:=a.free 4;have F:=b.cell l;obtain⟨q,o⟩:∃q,Q[k*2]?=some q:=⟨_,List.getElem?_eq_getElem (by omega)⟩;have E:=b.cell o;have k0:=b.free (k*2);have k1:=b.free (k*2+1);have C:(k:Int)<(n:Int):=by omega
 clear g b a j l o hlen;go_enter func207,ntmps207
 go_wp2_with fail
 go_quiet ((go_at_call 123;exact Calls.quiet_of_same (bZ (i _ t))))
 go_wp2_with fail
 go_end0
 refine⟨rfl,?_,?_,?_⟩
 ·exact(((((r.drewN _).other f _).other f _).set (k*2) _).set (k*2+1) _)
 ·exact((((u.drewN _).set 3 _).set 4 _).other m _).other m _
 ·exact(((((Ch.refl _ _).drewN _).jD _ _).jD _ _).g8 _ _).g8 _ _
theorem vW(qb lb c n k s t:Nat)(v:Value)(Q:List Value)(id f mask:Int)(pv K B L:Value)(z y A:Int)(G:1<=n)(H:n<=64)(l:bc f n=k)(R:k<n)(w:World)
 (i:Row w qb 214 [.slice (some (lb,0)) n c,v]) (a:Row w lb 254 Q) (hlen:Q.length=n*2) (m:Q[k*2+1]?=some (.pointer (some (t,0))))
 (b:Row w s 256 [.int .u64 id,.int .u64 f,.int .u64 mask,pv,K]) (d:Row w t 256 [.int .u64 z,.int .u64 y,.int .u64 A,B,L]) (r:s≠t):
 Calls prog 207 #[(qb,0),(s,0)] w (fun e w'=>e=.returned (.tuple #[])/\
  Row w' lb 254 (Q.set (k*2+1) (.pointer (some (s,0))))/\Row w' s 256 [.int .u64 id,.int .u64 f,.int .u64 mask,(t,0),.pointer none]/\
  Row w' t 256 [.int .u64 z,.int .u64 y,.int .u64 A,B,(s,0)]/\Ch (dE lb s t) w w'):=by
 have j:=Z (fun w h=>dF qb lb v f n c G H w h);rw[l]at j;have D:=Z i;have C:=Z a;have E:=Z b;have g:lb≠s:=a.ne b (by decide);have I:s≠lb:=fun e=>g e.symm
 have o:lb≠t:=a.ne d (by decide);have J:t≠lb:=fun e=>o e.symm
 have u:t≠s:=fun e=>r e.symm
 have F:=Z d;have t4:=d.k 4 rfl;have u4:=d.free 4;have M:=i.c1;have U:=b.k 1 rfl;have V:=b.k 3 rfl;have W:=b.k 4 rfl;have N:=b.free 3;have O:=b.free 4;have T:=a.cell m;obtain⟨x,q⟩:∃x,Q[k*2]?=some x:=⟨_,List.getElem?_eq_getElem (by omega)⟩;have S:=a.cell q;have k0:=a.free (k*2);have k1:=a.free (k*2+1);have P:(k:Int)<(n:Int):=by omega
 clear i a b d l m q hlen;go_enter func207,ntmps207
 go_wp2_with fail
 go_quiet ((go_at_call 123;exact Calls.quiet_of_same (bZ (j _ D))))
 go_wp2_with fail
 go_end0
 refine⟨rfl,?_,?_,?_,?_⟩
 ·exact((((C.drewN _).other g _).other g _).other o _).set (k*2+1) _
 ·exact((((E.drewN _).set 3 _).set 4 _).other r _).other I _
 ·exact((((F.drewN _).other u _).other u _).set 4 _).other J _
 ·exact(((((Ch.refl _ _).drewN _).gS (p:=⟨s,3,none⟩) (Or.inr (Or.inl rfl)) _).gS (p:=⟨s,4,none⟩) (Or.inr (Or.inl rfl)) _).gS (p:=⟨t,4,none⟩) (Or.inr (Or.inr rfl)) _).gS (p:=⟨lb,k*2+1,none⟩) (Or.inl rfl) _
theorem ri(qb lb c n k s:Nat)(m:Value)(Q:List Value)(id d mask:Int)(t:1<=n)(u:n<=64)(i:bc d n=k)(z:k<n)(w:World)
 (f:Row w qb 214 [.slice (some (lb,0)) n c,m]) (a:Row w lb 254 Q) (hlen:Q.length=n*2)
 (b:Row w s 256 [.int .u64 id,.int .u64 d,.int .u64 mask,.pointer none,.pointer none]):
 Calls prog 137 #[(qb,0),(s,0)] w (fun e w'=>e=.returned (.tuple #[])/\
  Row w' lb 254 ((Q.set (k*2) (.pointer none)).set (k*2+1) (.pointer none))/\Ch (aK lb) w w'):=by
 have g:=Z (fun w h=>dF qb lb m d n c t u w h);rw[i]at g;have r:=Z f;have q:=Z a;have v:lb≠s:=a.ne b (by decide);have A:s≠lb:=fun e=>v e.symm
 have x:=f.c1;have D:=b.k 1 rfl;have E:=b.k 3 rfl;have F:=b.k 4 rfl;obtain⟨p,l⟩:∃p,Q[k*2+1]?=some p:=⟨_,List.getElem?_eq_getElem (by omega)⟩;have C:=a.cell l;obtain⟨o,j⟩:∃o,Q[k*2]?=some o:=⟨_,List.getElem?_eq_getElem (by omega)⟩;have B:=a.cell j;have k0:=a.free (k*2);have k1:=a.free (k*2+1);have y:(k:Int)<(n:Int):=by omega
 clear f a b i j l hlen;go_enter func137,ntmps137
 go_wp2_with fail
 go_quiet ((go_at_call 123;exact Calls.quiet_of_same (bZ (g _ r))))
 go_wp2_with fail
 go_end0
 refine⟨rfl,?_,?_⟩
 ·exact((q.drewN _).set (k*2) _).set (k*2+1) _
 ·exact(((Ch.refl _ _).drewN _).only _ _).only _ _
theorem p5(qb lb c n k s x:Nat)(u:Value)(Q:List Value)(id i mask A z B:Int)(O C:Value)(J:1<=n)(K:n<=64)(o:bc i n=k)(U:k<n)(w:World)
 (j:Row w qb 214 [.slice (some ⟨lb,0,none⟩) n c,u]) (a:Row w lb 254 Q) (hlen:Q.length=n*2)
 (b:Row w s 256 [.int .u64 id,.int .u64 i,.int .u64 mask,.pointer none,.pointer (some ⟨x,0,none⟩)]) (d:Row w x 256 [.int .u64 A,.int .u64 z,.int .u64 B,O,C]) (V:s≠x):
 Calls prog 137 #[.pointer (some ⟨qb,0,none⟩),.pointer (some ⟨s,0,none⟩)] w (fun e w'=>e=.returned (.tuple #[])/\
  Row w' lb 254 (Q.set (k*2) (.pointer (some ⟨x,0,none⟩)))/\Row w' x 256 [.int .u64 A,.int .u64 z,.int .u64 B,.pointer none,C]/\Ch (di lb x) w w'):=by
 have l:=Z (fun w h=>dF qb lb u i n c J K w h);rw[o]at l;have G:=Z j;have E:=Z a;have L:lb≠s:=a.ne b (by decide);have M:s≠lb:=fun e=>L e.symm
 have q:lb≠x:=a.ne d (by decide);have N:x≠lb:=fun e=>q e.symm
 have H:=Z b;have I:=Z d;have x3:=d.k 3 rfl;have a2:=d.free 3;have P:=j.c1;have Y:=b.k 1 rfl;have a0:=b.k 3 rfl;have a1:=b.k 4 rfl;obtain⟨y,t⟩:∃y,Q[k*2+1]?=some y:=⟨_,List.getElem?_eq_getElem (by omega)⟩;have X:=a.cell t;obtain⟨v,r⟩:∃v,Q[k*2]?=some v:=⟨_,List.getElem?_eq_getElem (by omega)⟩;have W:=a.cell r;have k0:=a.free (k*2);have k1:=a.free (k*2+1);have T:(k:Int)<(n:Int):=by omega
 clear j a b d o r t hlen;go_enter func137,ntmps137
 go_wp2_with fail
 go_quiet ((go_at_call 123;exact Calls.quiet_of_same (bZ (l _ G))))
 obtain⟨w1,f⟩:=nm ((w.drewN nq).setCell ⟨lb,k*2,none⟩ (.pointer (some ⟨x,0,none⟩)));have F:=Z (f▸(E.drewN nq).set (k*2) (.pointer (some ⟨x,0,none⟩)));have m:Hid (Row w1 s 256 _):=Z (f▸(H.drewN nq).other (p:=⟨lb,k*2,none⟩) M (.pointer (some ⟨x,0,none⟩)));have g:Hid (Row w1 x 256 _):=Z (f▸(I.drewN nq).other (p:=⟨lb,k*2,none⟩) N (.pointer (some ⟨x,0,none⟩)));have D:Hid (Ch (di lb x) w w1):=Z (f▸((Ch.refl _ _).drewN nq).g8 _ _);have d3:=m.k 3 rfl;have d4:=m.k 4 rfl;have R:=g.k 3 rfl;have S:=g.free 3;go_wp2_with fail
 go_still_tail 10,(by kernel_rfl)
 go_wp2_with fail
 go_end0
 refine⟨rfl,?_,?_,?_⟩
 ·exact F.drew.other q _
 ·exact g.drew.set 3 _
 ·exact D.drew.jD _ _
theorem rj(qb lb c n k s x:Nat)(v:Value)(Q:List Value)(id l mask B A C:Int)(D V:Value)(M:1<=n)(N:n<=64)(t:bc l n=k)(ad:k<n)(w:World)
 (m:Row w qb 214 [.slice (some (lb,0)) n c,v]) (a:Row w lb 254 Q) (hlen:Q.length=n*2)
 (b:Row w s 256 [.int .u64 id,.int .u64 l,.int .u64 mask,(x,0),.pointer none]) (f:Row w x 256 [.int .u64 B,.int .u64 A,.int .u64 C,D,V]) (R:s≠x):
 Calls prog 137 #[(qb,0),(s,0)] w (fun e w'=>e=.returned (.tuple #[])/\
  Row w' lb 254 (Q.set (k*2+1) (.pointer (some (x,0))))/\Row w' x 256 [.int .u64 B,.int .u64 A,.int .u64 C,D,.pointer none]/\Ch (di lb x) w w'):=by
 have q:=Z (fun w h=>dF qb lb v l n c M N w h);rw[t]at q;have G:=Z m;have F:=Z a;have O:lb≠s:=a.ne b (by decide);have al:s≠lb:=fun e=>O e.symm
 have u:lb≠x:=a.ne f (by decide);have P:x≠lb:=fun e=>u e.symm
 have J:=Z b;have K:=Z f;have x4:=f.k 4 rfl;have W:=f.free 4;have am:x≠s:=fun e=>R e.symm
 have L:=m.c1;have S:=b.k 1 rfl;have T:=b.k 3 rfl;have U:=b.k 4 rfl;obtain⟨z,p⟩:∃z,Q[k*2+1]?=some z:=⟨_,List.getElem?_eq_getElem (by omega)⟩;have av:=a.cell p;have I:=Z p;obtain⟨y,o⟩:∃y,Q[k*2]?=some y:=⟨_,List.getElem?_eq_getElem (by omega)⟩;have ap:=a.cell o;have H:=Z o;have k0:=a.free (k*2);have k1:=a.free (k*2+1);have ab:(k:Int)<(n:Int):=by omega
 clear m a b f t o p hlen;go_enter func137,ntmps137
 go_wp2_with fail
 go_quiet ((go_at_call 123;exact Calls.quiet_of_same (bZ (q _ G))))
 obtain⟨i,d⟩:=nm (w.drewN nq);have g:=Z (d▸F.drewN nq);have r:Hid (Row i s 256 _):=Z (d▸J.drewN nq);have j:Hid (Row i x 256 _):=Z (d▸K.drewN nq);have E:Hid (Ch (di lb x) w i):=Z (d▸(Ch.refl _ _).drewN nq);have a3:=r.k 3 rfl;have X:=r.k 4 rfl;have Y:=j.k 4 rfl;have f4:=j.free 4;rw[d];clear d L S T U x4 W;go_wp2_with fail
 go_still_tail 10,(by kernel_rfl)
 change wpList _ _ _ _ _ i.drew;have a0:=g.cell H;have a1:=g.cell I;have a2:=g.free (k*2+1);go_wp2_with fail
 go_end0
 refine⟨rfl,?_,?_,?_⟩
 ·exact(g.drew.other u _).set (k*2+1) _
 ·exact(j.drew.set 4 _).other P _
 ·exact(E.drew.jD _ _).g8 _ _
theorem td(qb lb c n k s x y:Nat)(D:Value)(Q:List Value)(id p mask H G I:Int)(J bw c2 N:Value)(L K M:Int)(a2:1<=n)(ab:n<=64)(z:bc p n=k)(c8:k<n)(w:World)
 (q:Row w qb 214 [.slice (some ⟨lb,0,none⟩) n c,D]) (a:Row w lb 254 Q) (hlen:Q.length=n*2)
 (d:Row w s 256 [.int .u64 id,.int .u64 p,.int .u64 mask,.pointer (some ⟨x,0,none⟩),.pointer (some ⟨y,0,none⟩)]) (i:Row w x 256 [.int .u64 H,.int .u64 G,.int .u64 I,J,bw]) (C:Row w y 256 [.int .u64 L,.int .u64 K,.int .u64 M,c2,N]) (A:s≠x) (am:s≠y) (B:x≠y):
 Calls prog 137 #[.pointer (some ⟨qb,0,none⟩),.pointer (some ⟨s,0,none⟩)] w (fun e w'=>e=.returned (.tuple #[])/\
  Row w' x 256 [.int .u64 H,.int .u64 G,.int .u64 I,J,.pointer (some ⟨y,0,none⟩)]/\Row w' y 256 [.int .u64 L,.int .u64 K,.int .u64 M,.pointer (some ⟨x,0,none⟩),N]/\Ch (di x y) w w'):=by
 have u:=Z (fun w h=>dF qb lb D p n c a2 ab w h);rw[z]at u;have S:=Z q;have R:=Z a;have ad:lb≠s:=a.ne d (by decide);have c9:s≠lb:=fun e=>ad e.symm
 have al:lb≠x:=a.ne i (by decide);have cb:x≠lb:=fun e=>al e.symm
 have T:=Z d;have U:=Z i;have W:=Z C;have ap:y≠x:=fun e=>B e.symm
 have ce:y≠s:=fun e=>am e.symm
 have x4:=i.k 4 rfl;have c1:=i.free 4;have cd:x≠s:=fun e=>A e.symm
 have a0:=q.c1;have av:=d.k 1 rfl;have bi:=d.k 3 rfl;have bv:=d.k 4 rfl;obtain⟨F,t⟩:∃F,Q[k*2+1]?=some F:=⟨_,List.getElem?_eq_getElem (by omega)⟩;have ch:=a.cell t;have c5:=Z t;obtain⟨E,r⟩:∃E,Q[k*2]?=some E:=⟨_,List.getElem?_eq_getElem (by omega)⟩;have cf:=a.cell r;have c4:=Z r;have k0:=a.free (k*2);have k1:=a.free (k*2+1);have c7:(k:Int)<(n:Int):=by omega
 clear q a d i C z r t hlen;go_enter func137,ntmps137
 go_wp2_with fail
 go_quiet ((go_at_call 123;exact Calls.quiet_of_same (bZ (u _ S))))
 obtain⟨g,b⟩:=nm (w.drewN nq);have c3:=Z (b▸R.drewN nq);have j:Hid (Row g s 256 _):=Z (b▸T.drewN nq);have l:Hid (Row g x 256 _):=Z (b▸U.drewN nq);have O:Hid (Ch (di x y) w g):=Z (b▸(Ch.refl _ _).drewN nq);have m:Hid (Row g y 256 _):=Z (b▸W.drewN nq);have a3:=j.k 3 rfl;have X:=j.k 4 rfl;have Y:=l.k 4 rfl;have f4:=l.free 4;have c0:=m.k 3 rfl;have a1:=m.free 3;rw[b];clear b a0 av bi bv x4 c1;go_wp2_with fail
 go_still_tail 10,(by kernel_rfl)
 change wpList _ _ _ _ _ g.drew;obtain⟨w1,f⟩:=nm (g.drew.setCell ⟨x,4,none⟩ (.pointer (some ⟨y,0,none⟩)));have v:Hid (Row w1 s 256 _):=Z (f▸j.drew.other A (.pointer (some ⟨y,0,none⟩)));have V:=Z (f▸l.drew.set 4 (.pointer (some ⟨y,0,none⟩)));have o:Hid (Row w1 y 256 _):=Z (f▸m.drew.other ap (.pointer (some ⟨y,0,none⟩)));have P:Hid (Ch (di x y) w w1):=Z (f▸O.drew.g8 _ _);have d3:=v.k 3 rfl;have d4:=v.k 4 rfl;have ci:=o.k 3 rfl;have c6:=o.free 3;go_wp2_with fail
 try rw[f]
 clear f a3 X Y f4 c0 a1;go_wp2_with fail
 go_still_tail 10,(by kernel_rfl)
 change wpList _ _ _ _ _ w1.drew;go_wp2_with fail
 go_end0
 refine⟨rfl,?_,?_,?_⟩
 ·exact V.drew.other B _
 ·exact o.drew.set 3 _
 ·exact P.drew.jD _ _
end Go.Proofs.YtfnilkpkogipfaaGreatDoor
