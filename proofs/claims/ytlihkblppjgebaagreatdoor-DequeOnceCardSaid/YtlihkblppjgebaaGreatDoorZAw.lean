import Derived.Test.YtlihkblppjgebaaGreatDoorZAt
set_option linter.all false
set_option maxRecDepth 100000
set_option maxHeartbeats 8000000
namespace Go.Proofs.YtlihkblppjgebaaGreatDoor
open Go.RowKit Go.Proofs.Tryz
section
theorem jW{l:List ak}{wv:Nat->Value}{i:Nat}{x:ak}(h:l[i]?=some x):(dd l wv)[i]?=some (x,wv i):=by
 unfold dd;rw[List.getElem?_map,List.getElem?_zipIdx,h];simp
theorem nt(l:List ak)(wv:Nat->Value):(dd l wv).length=l.length:=by simp[dd]
theorem tk{l:List ak}{wv:Nat->Value}{i:Nat}{x':ak}{v:Value}(a:i<l.length):(dd l wv).set i (x',v)=dd (l.set i x') (fun j=>if j=i then v else wv j):=by
 apply List.ext_getElem?;intro j;unfold dd;rw[List.getElem?_map,List.getElem?_zipIdx];by_cases hj:i=j
 ·subst hj
  rw[List.getElem?_set_self (by simpa using a),List.getElem?_set_self a];simp
 ·rw[List.getElem?_set_ne hj,List.getElem?_set_ne hj,List.getElem?_map,List.getElem?_zipIdx]
  cases l[j]? with
  |none=>rfl
  |some y=>simp[Ne.symm hj]
def fv(x:ak×Value):List Value:=x.1.cells x.2
theorem rv{α:Type}{enc:α->List Value}{l:List α}{i:Nat}{x:α}(h:l[i]?=some x):l.flatMap enc=(l.take i).flatMap enc++(enc x++(l.drop (i+1)).flatMap enc):=by
 obtain⟨a,rfl⟩:=List.getElem?_eq_some_iff.1 h
 calc l.flatMap enc=(l.take i++l.drop i).flatMap enc:=by rw[List.take_append_drop]
  _=_:=by rw[List.drop_eq_getElem_cons a,List.flatMap_append,List.flatMap_cons]
section
variable{w w':World}{χ:Nat->a4}{L:cw}{Y:Var}{C:KC}{K:KS}
theorem KS.A4{i:Nat}{x:ak}(h:K.wk[i]?=some x):K.W i=x:=by
 unfold KS.W;rw[List.getD_eq_getElem?_getD,h];rfl
theorem KS.gy{i:Nat}(h:i<K.wk.length):K.wk[i]?=some (K.W i):=by
 unfold KS.W;rw[List.getD_eq_getElem?_getD,List.getElem?_eq_getElem h];rfl
theorem KS.df{id:Int}{t:Thread}(h:aw K.ai id=some t):K.T id=t:=by unfold KS.T;rw[h];rfl
theorem ae.ry(h:ae w χ L Y C K){i:Nat}(a:i<K.wk.length)(j:Nat){v:Value}(hj:j<38)(b:((K.W i).cells (Y.wv i))[j]?=some v):w.cell? ⟨L.wb,i*38+j,none⟩=some v:=
 (h.wk (by simp)).is.at (enc:=fun x:ak×Value=>x.1.cells x.2) ak.len (jW (KS.gy a)) hj b
theorem ae.ky(h:ae w χ L Y C K){i:Nat}(a:i<K.wk.length):w.cell? ⟨L.wb,i*38,none⟩=some (.int .u64 (K.W i).slot):=h.ry a 0 (by omega) rfl
theorem ae.e7(h:ae w χ L Y C K){i:Nat}(a:i<K.wk.length):w.cell? ⟨L.wb,i*38+1,none⟩=some (.int .u64 (K.W i).hand):=h.ry a 1 (by omega) rfl
theorem ae.qa(h:ae w χ L Y C K){i:Nat}(a:i<K.wk.length):w.cell? ⟨L.wb,i*38+2,none⟩=some (.bool (K.W i).parked):=h.ry a 2 (by omega) rfl
theorem ae.yM(h:ae w χ L Y C K){i:Nat}(a:i<K.wk.length):w.cell? ⟨L.wb,i*38+3,none⟩=some (.int .i64 (K.W i).left):=h.ry a 3 (by omega) rfl
theorem ae.tn(h:ae w χ L Y C K)(j:Nat):w.frozen? ⟨L.wb,j,none⟩=false:=(h.wk (by simp)).is.free j
theorem ae.tp(h:ae w χ L Y C K){i:Nat}(a:i<K.wk.length):∃pre post,aG w L.wb (i*38+4) 120 pre post (Y.wv i) (K.W i).f/\
 pre=((dd K.wk Y.wv).take i).flatMap fv++[.int .u64 (K.W i).slot,.int .u64 (K.W i).hand,.bool (K.W i).parked,.int .i64 (K.W i).left]/\post=((dd K.wk Y.wv).drop (i+1)).flatMap fv:=by
 have hw:=h.wk (by simp);refine⟨_,_,⟨?_,?_,hw.back i _ (KS.gy a)⟩,rfl,rfl⟩
 ·have:=hw.is
  rw[show((dd K.wk Y.wv).flatMap fun x=>x.1.cells x.2)=(dd K.wk Y.wv).flatMap fv from rfl,rv (enc:=fv) (jW (wv:=Y.wv) (KS.gy a))]at this;rw[List.append_assoc];unfold fv ak.cells at this⊢;simpa[List.append_assoc]using this
 ·rw[List.length_append,a7 (enc:=fv) ak.len,List.length_take,nt]
  show min i K.wk.length*38+4=_
  rw[Nat.min_eq_left (by omega)]
theorem ae.BY(h:ae w χ L Y C K){i:Nat}(b:i<K.wk.length){x:ak}{v:Value}{D:Nat->Prop}(m:Row w' L.wb 120 (((dd K.wk Y.wv).set i (x,v)).flatMap fv))(hb:cp w' v x.f.back)(p:aQ w (Y.wv i) v)
 (c:Ch D w w') (f:∀k,D k->k=L.wb):∃aW Y',dB χ L Y C K (K.be i x) w aW Y' w'/\Y'.wv i=v:=by
 have hw:=h.wk (by simp);have s:eI [.wk] χ (cJ χ v.ownBlock .back) D w w':=eI.cJ c (fun k _ o=>by rw[f k o];simp[hw.k]) h.small p (fun g a=>hw.kb i _ (KS.gy b) g a) (fun g a=>cB hb a);refine⟨_,{Y with wv:=fun j=>if j=i then v else Y.wv j},⟨(h.step s (by simp)).Ft (l:=K.wk.set i x) (by simp) ⟨?_,(s.same _ hw.is.lt).trans hw.k,?_,?_,by rw[List.length_set];exact hw.n⟩,Nx.of s (by simp),Yk.refl _ _⟩,by simp⟩
 ·rw[tk b]at m;exact m
 ·intro j y hj
  show cp w' (if j=i then v else Y.wv j) y.f.back
  by_cases e:i=j
  ·subst e
   rw[List.getElem?_set_self b]at hj;injection hj with hj
   subst hj;rw[if_pos rfl];exact hb
  ·rw[List.getElem?_set_ne e]at hj
   rw[if_neg (fun h=>e h.symm)];exact(hw.back j y hj).ch c (fun g a n=>by
    have d:=hw.kb j y hj g a;rw[f g n,hw.k]at d;cases d)
 ·intro j y hj g a
  change(if j=i then v else Y.wv j).ownBlock=some g at a;by_cases e:j=i
  ·rw[if_pos e]at a;exact hN g a
  ·rw[if_neg e]at a
   rw[List.getElem?_set_ne (fun h=>e h.symm)]at hj;exact(s.same _ (cB (hw.back j y hj) a)).trans (hw.kb j y hj g a)
theorem ae.uT(h:ae w χ L Y C K){i:Nat}(a:i<K.wk.length){x:ak}(j:Nat)(hj:j<38){v:Value}(d:x.f=(K.W i).f)(o:((K.W i).cells (Y.wv i)).set j v=x.cells (Y.wv i)):
 ∃aW Y',dB χ L Y C K (K.be i x) w aW Y' (w.setCell ⟨L.wb,i*38+j,none⟩ v):=by
 have hw:=h.wk (by simp);have n:Row (w.setCell ⟨L.wb,i*38+j,none⟩ v) L.wb 120 (((dd K.wk Y.wv).set i (x,Y.wv i)).flatMap fv):=hw.is.put (enc:=fun x:ak×Value=>x.1.cells x.2) ak.len (jW (KS.gy a)) hj o;have c:Ch (aK L.wb) w (w.setCell ⟨L.wb,i*38+j,none⟩ v):=(Ch.refl _ _).only _ _;obtain⟨aW,Y',m,_⟩:=h.BY a n (by
  rw[d];exact(hw.back i _ (KS.gy a)).ch c (fun g f e=>by
   have b:=hw.kb i _ (KS.gy a) g f;rw[show g=L.wb from e,hw.k]at b;cases b)) (aQ.refl _ _) c (fun k l=>l)
 exact⟨aW,Y',m⟩
theorem ae.jx(h:ae w χ L Y C K){i:Nat}(a:i<K.wk.length)(v:Int):∃aW Y',dB χ L Y C K (K.be i {K.W i with hand:=v}) w aW Y' (w.setCell ⟨L.wb,i*38+1,none⟩ (.int .u64 v)):=h.uT a 1 (by omega) rfl rfl
theorem ae.o4(h:ae w χ L Y C K){i:Nat}(a:i<K.wk.length)(v:Bool):∃aW Y',dB χ L Y C K (K.be i {K.W i with parked:=v}) w aW Y' (w.setCell ⟨L.wb,i*38+2,none⟩ (.bool v)):=h.uT a 2 (by omega) rfl rfl
def aj(K:KS):bK->Prop
 |.own i=>i<K.wk.length
 |.ai id k=>∃t,aw K.ai id=some t/\k<t.l.length
def qd:bK->TypeId
 |.own _=>120
 |.ai _ _=>127
theorem kz(c:bK):qd c≠3:=by
 cases c with
 |own _=>exact(by decide:(120:TypeId)≠3)
 |ai _ _=>exact(by decide:(127:TypeId)≠3)
def aP(L:cw)(Y:Var):bK->Nat->Nat->Prop
 |.own i,b,a=>b=L.wb/\a=i*38+4
 |.ai id k,b,a=>b=Y.fb id k/\a=0
theorem aP.yk{Y':Var}{c:bK}{b a:Nat}(h:aP L Y c b a)(d:aj K c)(g:Yk K Y Y'):aP L Y' c b a:=by
 cases c with
 |own i=>exact h
 |ai id k=>
  obtain⟨t,f,e⟩:=d;exact⟨h.1.trans ((g id t f).2 k e).symm,h.2⟩
theorem aj.gr{K':KS}{c:bK}(a:aj K c)(b:Gr K K')(hw:K'.wk.length=K.wk.length):aj K' c:=by
 cases c with
 |own i=>show i<_;rw[hw];exact a
 |ai id k=>
  obtain⟨t,d,g⟩:=a;obtain⟨f,e,h⟩:=b id t d;exact⟨f,e,by omega⟩
theorem ae.cur(h:ae w χ L Y C K){c:bK}(a:aj K c){b g:Nat}(e:aP L Y c b g):∃pre post v,aG w b g (qd c) pre post v (K.F c):=by
 cases c with
 |own i=>
  obtain⟨rfl,rfl⟩:=e;obtain⟨pre,post,j,_⟩:=h.tp a;exact⟨_,_,_,j⟩
 |ai id k=>
  obtain⟨rfl,rfl⟩:=e;obtain⟨t,f,d⟩:=a;have:=h.fr id t k _ f (List.getElem?_eq_getElem d) (by simp);refine⟨[],(t.l[k]).post,Y.bv id k,?_⟩;rw[show K.F (.ai id k)=(t.l[k]).f from by
   show((K.T id).l.getD k default).f=_
   rw[KS.df f,List.getD_eq_getElem?_getD,List.getElem?_eq_getElem d];rfl]
  exact this.is
theorem ae.yN(h:ae w χ L Y C K){c:bK}(p:aj K c){b E:Nat}(I:aP L Y c b E){pre post:List Value}{v e:Value}{f:cE}(o:aG w b E (qd c) pre post v (K.F c))(q:aG w' b E (qd c) pre post e f)(H:aQ w v e)(F:Ch (aK b) w w'):
 ∃aW Y',dB χ L Y C K (K.cH c f) w aW Y' w':=by
 cases c with
 |own i=>
  obtain⟨rfl,rfl⟩:=I;obtain⟨J,S,G,B,Q⟩:=h.tp p;have hlen:pre.length=J.length:=by rw[o.len,G.len]
  have y:pre++((K.W i).f.cells v++post)=J++((K.W i).f.cells (Y.wv i)++S):=by
   have d:=o.row;have a:=G.row;unfold Row at d a;rw[d]at a;injection a with a
   injection a with a _ _
   exact congrArg Array.toList a
  obtain⟨rfl,N⟩:=List.append_inj y hlen;obtain⟨z,rfl⟩:=List.append_inj N (by rw[cE.cU,cE.cU]);have D:v=Y.wv i:=by
   have d:=congrArg (fun l=>l[33]?) z;have n:∀u,((K.W i).f.cells u)[33]?=some u:=fun u=>by
    unfold cE.cells;rw[List.getElem?_cons_succ,List.getElem?_append_right (by rw[bq];omega),bq];rfl
   simp only[n]at d;exact Option.some.inj d
  subst D;have hw:=h.wk (by simp);obtain⟨aW,Y',P,_⟩:=h.BY (x:={K.W i with f:=f}) (v:=e) p (by
   have:=q.row;rw[B,Q]at this;change Row w' L.wb 120 _ at this;have R:((dd K.wk Y.wv).set i ({K.W i with f:=f},e)).flatMap fv=((dd K.wk Y.wv).take i).flatMap fv++(fv ({K.W i with f:=f},e)++((dd K.wk Y.wv).drop (i+1)).flatMap fv):=by
    have A:i<(dd K.wk Y.wv).length:=(by rw[nt];exact p);rw[rv (enc:=fv) (l:=(dd K.wk Y.wv).set i ({K.W i with f:=f},e)) (i:=i) (List.getElem?_set_self A)];rw[List.take_set_of_le (Nat.le_refl _),List.drop_set_of_lt (by omega)]
   rw[R];unfold fv ak.cells at this⊢;simpa[List.append_assoc]using this) q.back H F (fun k m=>m)
  exact⟨aW,Y',P⟩
 |ai id k=>
  obtain⟨rfl,rfl⟩:=I;obtain⟨t,r,m⟩:=p;have hF:=h.fr id t k _ r (List.getElem?_eq_getElem m) (by simp);have M:K.F (.ai id k)=(t.l[k]).f:=by
   show((K.T id).l.getD k default).f=_
   rw[KS.df r,List.getD_eq_getElem?_getD,List.getElem?_eq_getElem m];rfl
  rw[M]at o;have B:pre=[]:=List.eq_nil_of_length_eq_zero o.len;subst B;have y:(t.l[k]).f.cells v++post=(t.l[k]).f.cells (Y.bv id k)++(t.l[k]).post:=by
   have d:=o.row;have a:=hF.is.row;unfold Row at d a;rw[d]at a;injection a with a
   injection a with a _ _
   simpa using congrArg Array.toList a
  obtain⟨z,rfl⟩:=List.append_inj y (by rw[cE.cU,cE.cU]);have D:v=Y.bv id k:=by
   have d:=congrArg (fun l=>l[33]?) z;have n:∀u,((t.l[k]).f.cells u)[33]?=some u:=fun u=>by
    unfold cE.cells;rw[List.getElem?_cons_succ,List.getElem?_append_right (by rw[bq];omega),bq];rfl
   simp only[n]at d;exact Option.some.inj d
  subst D;have s:eI [.fr id k] χ (cJ χ e.ownBlock .back) (aK (Y.fb id k)) w w':=eI.cJ F (fun i _ A=>by rw[show i=Y.fb id k from A];simp[hF.kf]) h.small H hF.kb (fun g O=>cB q.back O);refine⟨_,{Y with bv:=fun i j=>if i=id/\j=k then e else Y.bv i j},⟨?_,Nx.of s (by simp),?_⟩⟩
  ·have:=(h.step s (by simp)).Fv (f:={t.l[k]with f:=f}) r m ⟨q,(s.same _ hF.is.row.lt).trans hF.kf,hN⟩
   have n:t.l.getD k default=t.l[k]:=(by rw[List.getD_eq_getElem?_getD,List.getElem?_eq_getElem m];rfl);rw[<-n,<-KS.df r]at this;exact this
  ·intro j u hj;exact⟨rfl,fun _ _=>rfl⟩
theorem bm(c:bK)(f:cE):(K.cH c f).wk.length=K.wk.length:=by cases c<;>simp[KS.cH,KS.be,KS.b9]
theorem bs{c:bK}(b:aj K c)(f:cE):Gr K (K.cH c f):=by
 cases c with
 |own i=>exact Gr.of_eq rfl
 |ai id k=>
  obtain⟨t0,a,g⟩:=b;intro j u hj;show∃d,aw (b8 K.ai id _) j=some d/\_
  rw[aT];by_cases e:j=id
  ·subst e
   rw[a]at hj;injection hj with hj;subst hj
   rw[if_pos rfl];exact⟨_,rfl,by simp[KS.df a]⟩
  ·rw[if_neg e];exact⟨u,hj,Nat.le_refl _⟩
theorem CG{c:bK}(a:aj K c)(f:cE):(K.cH c f).F c=f:=by
 cases c with
 |own i=>
  show((K.be i _).W i).f=f
  rw[KS.A4 (x:={K.W i with f:=f}) (by show(K.wk.set i _)[i]?=_;rw[List.getElem?_set_self a])]
 |ai id k=>
  obtain⟨t0,d,b⟩:=a;show(((K.b9 id _).T id).l.getD k default).f=f
  rw[KS.df (K:=K.b9 id _) (t:={K.T id with l:=(K.T id).l.set k {(K.T id).l.getD k default with f:=f}}) (by show aw (b8 _ _ _) _=_;rw[aT,if_pos rfl])];rw[List.getD_eq_getElem?_getD,List.getElem?_set_self (by rw[KS.df d];exact b)];rfl
theorem ae.a6(h:ae w χ L Y C K){c:bK}(a:aj K c){b f:Nat}(e:aP L Y c b f)(k:Nat)(g:k<32)(x:Int):∃aW Y',dB χ L Y C K (K.au c k x) w aW Y' (w.setCell ⟨b,f+1+k,none⟩ (.int .u64 x)):=by
 obtain⟨pre,post,v,d⟩:=h.cur a e;exact h.yN a e d (d.pR (kz c) k g x) (aQ.refl _ _) ((Ch.refl _ _).only _ _)
theorem ae.qe(h:ae w χ L Y C K){c:bK}(a:aj K c){b f:Nat}(e:aP L Y c b f)(p:Int):∃aW Y',dB χ L Y C K (K.cH c {K.F c with pc:=p}) w aW Y' (w.setCell ⟨b,f,none⟩ (.int .i64 p)):=by
 obtain⟨pre,post,v,d⟩:=h.cur a e;exact h.yN a e d (d.jF (kz c) p) (aQ.refl _ _) ((Ch.refl _ _).only _ _)
theorem ae.az(h:ae w χ L Y C K){c:bK}(d:aj K c){b a:Nat}(g:aP L Y c b a)(k:Nat)(f:k<32):w.cell? ⟨b,a+1+k,none⟩=some (.int .u64 ((K.F c).r k)):=by
 obtain⟨pre,post,v,e⟩:=h.cur d g;exact e.l4 k f
theorem ae.tq(h:ae w χ L Y C K){c:bK}(d:aj K c){b a:Nat}(f:aP L Y c b a):w.cell? ⟨b,a,none⟩=some (.int .i64 (K.F c).pc):=by
 obtain⟨pre,post,v,e⟩:=h.cur d f;exact e.mu
theorem ae.g1(h:ae w χ L Y C K){c:bK}(a:aj K c){b f:Nat}(e:aP L Y c b f)(i:Nat):w.frozen? ⟨b,i,none⟩=false:=by
 obtain⟨pre,post,v,d⟩:=h.cur a e;exact d.free i
end
end
section
theorem nu{L:cw}{C:KC}{ov:Value}{nw:Nat}{en at_ wn dr:Int}(a:C.rows.length=1000)(j:Nat)(v:Value):(cF L ov C nw en at_ wn dr).set (1007+j) v=ku C L++(C.rows.map (Value.int .i64)++(g0 L ov nw en at_ wn dr).set j v):=by
 unfold cF;rw[List.set_append_right _ _ (by show 7<=_;omega),List.set_append_right _ _ (by rw[List.length_map,a];show 1000<=1007+j-7;omega)]
 congr 3
 rw[List.length_map,a];show 1007+j-7-1000=j;omega
section
variable{w w':World}{χ:Nat->a4}{L:cw}{Y:Var}{C:KC}{K:KS}
theorem ae.uW(h:ae w χ L Y C K){en at_ wn dr:Int}(j:Nat)(v:Value)(b:(g0 L Y.ov K.wk.length K.entries K.at_ K.w K.draw).set j v=g0 L Y.ov K.wk.length en at_ wn dr):
 dB χ L Y C K {K with entries:=en,at_:=at_,w:=wn,draw:=dr} w χ Y (w.setCell ⟨L.mb,1007+j,none⟩ v):=by
 have a:=h.head (by simp);have c:Ch (aK L.mb) w (w.setCell ⟨L.mb,1007+j,none⟩ v):=(Ch.refl _ _).only _ _;have s:eI [.gx] χ χ (aK L.mb) w (w.setCell ⟨L.mb,1007+j,none⟩ v):=eI.one c (fun i d=>by rw[show i=L.mb from d];simp[a.k]) h.small;refine⟨(h.step s (by simp)).DJ ⟨a.row.a' _ _ ?_,a.rows,a.k⟩,Nx.of s (by simp),Yk.refl _ _⟩;rw[nu a.rows,b];rfl
theorem ae.CH(h:ae w χ L Y C K)(v:Int):dB χ L Y C K {K with entries:=v} w χ Y (w.setCell ⟨L.mb,1016,none⟩ (.int .i64 v)):=h.uW 9 _ rfl
theorem ae.setAt(h:ae w χ L Y C K)(v:Int):dB χ L Y C K {K with at_:=v} w χ Y (w.setCell ⟨L.mb,1017,none⟩ (.int .i64 v)):=h.uW 10 _ rfl
theorem ae.BZ(h:ae w χ L Y C K)(v:Int):dB χ L Y C K {K with w:=v} w χ Y (w.setCell ⟨L.mb,1018,none⟩ (.int .i64 v)):=h.uW 11 _ rfl
theorem ae.A5(h:ae w χ L Y C K)(v:Int):dB χ L Y C K {K with draw:=v} w χ Y (w.setCell ⟨L.mb,1019,none⟩ (.int .u64 v)):=h.uW 12 _ rfl
theorem ae.DS(h:ae w χ L Y C K){e:Ev}{w4:World}{g cap:Nat}(j:w4.ownsRow 0 82 11 (.slice (some ⟨g,0,none⟩) (K.out.length+1) cap) (K.out.length+1) (K.out.flatMap Ev.cells++e.cells))
 (y:w.grownBy w4 Y.ov.ownBlock) (u:Y.ov.ownBlock=some g∨w.heap.size<=g):
 ∃aW Y',dB χ L Y C K {K with out:=K.out++[e]} w aW Y' (w4.setCell ⟨L.mb,1020,none⟩ (.slice (some ⟨g,0,none⟩) (K.out.length+1) cap)):=by
 have a:=h.head (by simp);have f:=h.out (by simp);obtain⟨v,l⟩:=mn (Value.slice (some ⟨g,0,none⟩) (K.out.length+1) cap);rw[<-l]at j⊢;have m:=Ch.bQ y;have o:=a.row.ch m (aY f.is a.row (by decide));have r:v.ownBlock=some g:=by rw[l];rfl
 have x:L.mb≠g:=fun e=>aY j o (by decide) (by rw[r,e])
 have c:Ch (fun i=>i=L.mb∨Y.ov.ownBlock=some i) w (w4.setCell ⟨L.mb,1020,none⟩ v):=(m.mono (E:=fun i=>i=L.mb∨Y.ov.ownBlock=some i) fun i b=>Or.inr b).gS (p:=⟨L.mb,1020,none⟩) (Or.inl rfl) _;have n:(w4.setCell ⟨L.mb,1020,none⟩ v).ownsRow 0 82 11 v (K.out++[e]).length ((K.out++[e]).flatMap Ev.cells):=by
  rw[List.length_append,List.length_cons,List.length_nil,List.flatMap_append,show [e].flatMap Ev.cells=e.cells from by simp];exact ar (D:=aK L.mb) j ((Ch.refl _ _).only _ _) (fun k d t=>by
   rw[r]at d;injection d with d
   exact x ((show k=L.mb from t)▸d.symm▸rfl))
 have s:eI [.gx,.out] χ (cJ χ v.ownBlock .out) (fun i=>i=L.mb∨Y.ov.ownBlock=some i) w (w4.setCell ⟨L.mb,1020,none⟩ v):=
  eI.cJ c (fun i _ b=>by
   rcases b with rfl|b
   ·simp[a.k]
   ·simp[f.k i b]) h.small (by rw[l];exact aQ.at u) f.k (fun q z=>cB n z)
 refine⟨_,{Y with ov:=v},(h.step s (by simp)).rr ⟨?_,a.rows,(s.same _ a.row.lt).trans a.k⟩ ⟨n,hN⟩,Nx.of s (by simp),Yk.refl _ _⟩;refine o.a' _ _ ?_;have:=nu (L:=L) (C:=C) (ov:=Y.ov) (nw:=K.wk.length) (en:=K.entries) (at_:=K.at_) (wn:=K.w) (dr:=K.draw) a.rows 13 v;rw[this];rfl
theorem ae.qF(h:ae w χ L Y C K){id:Int}{t:Thread}(a:aw K.ai id=some t):w.cell? ⟨Y.bB id,2,none⟩=some (.int .u64 t.eM):=(h.th id t a (by simp)).is.cell (i:=2) rfl
theorem ae.qq(h:ae w χ L Y C K){id:Int}{t:Thread}(a:aw K.ai id=some t)(j:Nat):w.frozen? ⟨Y.bB id,j,none⟩=false:=(h.th id t a (by simp)).is.free j
theorem ae.jA(h:ae w χ L Y C K){id:Int}{t:Thread}(b:aw K.ai id=some t)(v:Int):dB χ L Y C K (K.b9 id {t with eM:=v}) w χ Y (w.setCell ⟨Y.bB id,2,none⟩ (.int .u64 v)):=by
 have a:=h.th id t b (by simp);have c:Ch (aK (Y.bB id)) w (w.setCell ⟨Y.bB id,2,none⟩ (.int .u64 v)):=(Ch.refl _ _).only _ _;have s:eI [.th id] χ χ (aK (Y.bB id)) w (w.setCell ⟨Y.bB id,2,none⟩ (.int .u64 v)):=eI.one c (fun i d=>by rw[show i=Y.bB id from d];simp[a.k]) h.small;exact⟨(h.step s (by simp)).qJ b rfl ⟨a.is.a' _ _ rfl,a.k⟩,Nx.of s (by simp),Yk.refl _ _⟩
theorem ox(l:List (Int×Thread))(g:Int->Nat)(id:Int):aw (l.map fun x=>(x.1,g x.1)) id=(aw l id).map fun _=>g id:=by
 induction l with
 |nil=>rfl
 |cons x l ih=>
  rw[List.map_cons,cT,cT];by_cases e:id=x.1
  ·simp[e]
  ·simp only[if_neg e];exact ih
theorem ae.look(h:ae w χ L Y C K)(id:Int):(Instr.lookup 110 (.map (some L.tm)) (.int .u64 id) false).run prog w=.ok (((aw K.ai id).map fun _=>bf (Y.bB id)).getD (.pointer none)) w:=by
 have:=iW (P:=prog) (w:=w) (T:=110) (K:=39) (E:=121) (z:=.pointer none) underlying110 underlying39 (by kernel_rfl) (h.tm (by simp)).is id;rw[ox,Option.map_map]at this;exact this
end
theorem ae.fresh{w:World}{χ:Nat->a4}{L:cw}{Y:Var}{C:KC}{K:KS}(h:ae w χ L Y C K){i:Nat}(b:w.heap.size<=i):χ i=.no:=by
 cases a:χ i with
 |no=>rfl
 |_=>exact absurd (h.small i (by rw[a];simp)) (by omega)
theorem ae.pre{w:World}{χ:Nat->a4}{L:cw}{Y:Var}{C:KC}{K:KS}(h:ae w χ L Y C K)(n b c d f e g:Int):∃a,w.alloc (.cells #[.int .i64 n,.int .i64 b,.int .i64 c,.int .i64 d,.int .u64 f,.int .i64 e,.int .i64 g] 184)=a/\Hid (Ch ag w a)/\Hid (dB χ L Y C K K w χ Y a)/\Hid (Row a w.heap.size 184 [.int .i64 n,.int .i64 b,.int .i64 c,.int .i64 d,.int .u64 f,.int .i64 e,.int .i64 g]/\χ w.heap.size=.no):=
 ⟨_,rfl,(Ch.refl _ _).alloc _,h.hg ((Ch.refl _ _).alloc _),Row.new w _ _,h.fresh (Nat.le_refl _)⟩
theorem ae.rA{w:World}{χ:Nat->a4}{L:cw}{Y:Var}{C:KC}{K:KS}(h:ae w χ L Y C K)(n b c d f e g:Int):∃a,w.alloc (.cells #[.int .i64 n,.int .i64 b,.int .i64 c,.int .i64 d,.int .u64 f,.int .i64 e,.int .i64 g] 184)=a/\Hid (Ch ag w a)/\Hid (dB χ L Y C K K w χ Y a)/\Hid (Row a w.heap.size 184 [.int .i64 n,.int .i64 b,.int .i64 c,.int .i64 d,.int .u64 f,.int .i64 e,.int .i64 g]):=
 ⟨_,rfl,(Ch.refl _ _).alloc _,h.hg ((Ch.refl _ _).alloc _),Row.new w _ _⟩
end
end Go.Proofs.YtlihkblppjgebaaGreatDoor
