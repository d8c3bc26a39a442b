import Derived.Laws.MakeOwn
import Derived.RegionTactic
import Derived.ChangeAlike
import Derived.Test.YtfnilkpkogipfaaGreatDoorZAz
import Derived.Test.YtfnilkpkogipfaaGreatDoorZBe
set_option linter.all false
set_option maxRecDepth 100000
set_option maxHeartbeats 8000000
namespace Go.Proofs.YtfnilkpkogipfaaGreatDoor
open Go.RowKit Go.Proofs.Tryz
section
section
variable{w w':World}{χ:Nat->a4}{L:cw}{Y:Var}{C:KC}{K:KS}
theorem xa{N M:Nat}(O:oC C)(A:Inv N M K)(eL:N<=400000)(eC:M<=400000)(i:Nat)(x:i<K.wk.length)(R:0<=K.w/\K.w<K.wk.length)(h:ae w χ L Y C K):
 Calls prog 62 #[(L.mb,0),(L.wb,i*38)] w (rB (.tuple #[]) χ L C (fI C K i) w):=by
 have ex:=h.ky x;obtain⟨id,hid⟩:=nm ((K.W i).slot);rw[hid]at ex;by_cases I:id=0
 ·subst I
  have dC:=Z (ze O A (by omega) (by omega) i x R h);have E:Hid (fI C K i=jT C K i):=Z (by unfold fI;rw[if_pos hid]);clear h A O x R hid;go_enter func62,ntmps62
  go_wp2_with fail
  with_reducible refine dC.out.mono ?_
  rintro e cL ⟨rfl,al,a0,z,G⟩;have y:=Z (And.intro z G);clear z G;go_wp2_with fail
  go_end0
  rw[E];exact⟨rfl,al,a0,y.1,y.2⟩
 ·have eS:(id==0)=false:=by rw[beq_eq_false_iff_ne];exact I
  obtain⟨t,v⟩:=A.core.kF (KS.gy x) (by rw[hid];exact I);rw[hid]at v;have P:=A.dc v;have cd:=P.l.n0;have ck:=P.l.n8;obtain⟨m,cb⟩:∃m,t.l.length=m+1:=⟨t.l.length-1,by omega⟩;have ce:K.top id=m:=by unfold KS.top;rw[KS.df v];omega
  obtain⟨f,J⟩:∃f,t.l[m]?=some f:=⟨_,List.getElem?_eq_getElem (by omega)⟩;have U:=P.l.ca _ f J;have c6:(K.T id).l.getD m default=f:=by rw[KS.df v,List.getD_eq_getElem?_getD,J];rfl
  have ad:=A.gi x;obtain⟨a,a3⟩:=nm ((K.W i).left);have c8:=ad.l0;have cA:=ad.l1;rw[a3]at c8 cA;have am:Hid (fI C K i=if f.ca=false/\a=0 then ds C (cc K id) i else if f.ca then cz C (K.be i {K.W i with left:=max (a-1) 0}) i id m else cu C (K.be i {K.W i with left:=max (a-1) 0}) i id m):=Z (by unfold fI;rw[hid,if_neg I];dsimp only;rw[ce,c6,a3]);obtain⟨g,cap,c9,ci,c7⟩:=h.jX v cd;obtain⟨b,hb⟩:=nm (Y.fb id m);obtain⟨tb,V⟩:=nm (Y.bB id);have r:=h.CI v;have s:=c7 m (by omega);have l:=h.uX v J;have cl:=h.iG;have u:=h.yM x;have bw:=h.tn (i*38+3);have q:=h.gb v;rw[V]at r q;obtain⟨T,c5⟩:=nm t.l.length;rw[c9,c5]at r;rw[hb]at s l;rw[a3]at u;rw[P.id]at q;have ap:=fun n=>(h.drewN n).look id
  rw[v,V]at ap;dsimp only[Option.map,Option.getD,bf]at ap;have av:=h.look id;rw[v,V]at av;dsimp only[Option.map,Option.getD,bf]at av;have ch:=Z h;have k:=Z (And.intro v (And.intro V (And.intro hb (And.intro cb P.id))));have fn:IntKind.i64.wrap ((T:Int)-1)=m:=by rw[show(T:Int)-1=m by omega];exact IntWalk.i64_in _ (by omega)
  have fb:(0:Int)<=(m:Int):=by omega
  have fd:(m:Int)<(T:Int):=by omega
  have fr:IntKind.i64.wrap (m:Int)=m:=IntWalk.i64_in _ (by omega);have eW:T<=cap:=by omega
  have cf:=(A.CS (by omega) v).1;have a1:Inv N M (K.be i {K.W i with left:=max (a-1) 0}):=A.be x rfl rfl ⟨ad.f,by show 0<=max (a-1) 0;omega,by show max (a-1) 0<=24;omega⟩;have a2:i<(K.be i {K.W i with left:=max (a-1) 0}).wk.length:=by rw[bA];exact x
  have bi:((K.be i {K.W i with left:=max (a-1) 0}).W i).slot=id:=by rw[gz x];exact hid
  have cm:=Z (fun w (h:ae w χ L Y C K)=>h.uV x (max (a-1) 0));cases Q:f.ca with
  |false=>
   rw[Q]at l U am;have es:m%2≠1:=by simpa using U.symm
   by_cases bv:a=0
   ·subst bv
    have E:Hid (fI C K i=ds C (cc K id) i):=Z (by rw[am,if_pos ⟨rfl,rfl⟩]);have cW:=Z (fun w (h:ae w χ L Y C K)=>e9 id cf h);have dr:=Z (fun(w:World) (χ:Nat->a4) (Y:Var) (h:ae w χ L Y C (cc K id))=>ik i (by exact x) h);clear h A O x R hid v P cd ck cb c5 ce J U c6 ad a3 c9 ci c7 hb V cf a1 a2 bi Q c8 cA I;go_enter func62,ntmps62
    go_wp2_with fail
    go_quiet (fail)
    generalize p:World.drewN _ _=w1;have c:=Z (Ch.dN (D:=ag) p);clear p;have r:=c.k r;have s:=c.k s;have l:=c.k l;have u:=c.k u;have q:=c.k q;go_wp2_with fail
    go_region_held3 (fun w'=>w'.cell? (tb,1)=some (.slice (some (g,0)) T cap)/\w'.cell? ⟨g,m,none⟩=some (.pointer (some (b,0)))) (go_keep) (fail)
    generalize p:World.drew w1=w2;have d:Hid (Ch ag w1 w2):=Z (by rw[<-p];exact(Ch.refl _ _).drew);clear p;have r:=d.k r;have s:=d.k s;have l:=d.k l;have u:=d.k u;have q:=d.k q;have H:=Z (ch.af (c.trans d));have X:=Z (Nx.af (χ:=χ) (c.trans d));clear ap av s cl;go_wp2_with fail
    with_reducible refine(cW.out _ H.out).mono ?_
    rintro e cC ⟨rfl,cQ,cq,j⟩;have S:=Z j;clear j r l u q;go_wp2_with fail
    with_reducible refine(dr.out _ _ _ S.out.at_).mono ?_
    rintro e w4 ⟨rfl,eA,dN,cs⟩;have cS:=Z (And.intro cs.at_ ((X.trans S.nx).trans cs.nx));clear cs;go_wp2_with fail
    go_end0
    rw[E];exact⟨rfl,eA,dN,cS.1,cS.2⟩
   ·have B:max (a-1) 0=a-1:=by omega
    have et:(a==0)=false:=by rw[beq_eq_false_iff_ne];exact bv
    have en:1<=a:=by omega
    have ec:(0:Int)<=a-1:=by omega
    have E:Hid (fI C K i=cu C (K.be i {K.W i with left:=a-1}) i id m):=Z (by rw[am,if_neg (by rintro⟨_,e⟩;exact bv e),if_neg (by decide),B]);have c0:=Z J;have c1:=Z Q;have ab:0<=(K.be i {K.W i with left:=max (a-1) 0}).w/\(K.be i {K.W i with left:=max (a-1) 0}).w<(K.be i {K.W i with left:=max (a-1) 0}).wk.length:=by rw[bA];exact R
    have o:=fun(w:World) (χ:Nat->a4) (Y:Var) (h:ae w χ L Y C (K.be i {K.W i with left:=max (a-1) 0}))=>se O a1 (by omega) (by omega) i a2 id t v m (by omega) (by omega) h
    rw[B]at o;have c2:=Z o;clear o ab;clear h A O x R hid v P cd ck cb c5 ce J U c6 ad a3 c9 ci c7 hb V cf a1 a2 bi Q c8 I;go_enter func62,ntmps62
    go_wp2_with fail
    go_quiet (fail)
    generalize p:World.drewN _ _=w1;have c:=Z (Ch.dN (D:=ag) p);clear p;have r:=c.k r;have s:=c.k s;have l:=c.k l;have u:=c.k u;have q:=c.k q;go_wp2_with fail
    go_region_held3 (fun w'=>w'.cell? (tb,1)=some (.slice (some (g,0)) T cap)/\w'.cell? ⟨g,m,none⟩=some (.pointer (some (b,0)))) (go_keep) (fail)
    generalize p:World.drew w1=w2;have d:Hid (Ch ag w1 w2):=Z (by rw[<-p];exact(Ch.refl _ _).drew);clear p;have r:=d.k r;have s:=d.k s;have l:=d.k l;have u:=d.k u;have q:=d.k q;have H:=Z (ch.af (c.trans d));have X:=Z (Nx.af (χ:=χ) (c.trans d));clear ap av s cl;have bw:=H.tn (i*38+3);have F:=cm _ H;rw[B]at F;have c4:=Z F;clear F;go_wp2_with fail
    obtain⟨cQ,cq,j⟩:=c4.out;obtain⟨cC,W⟩:=nm (w2.setCell (L.wb,i*38+3) (.int .i64 (a-1)));rw[W]at j⊢;have S:=Z j;have o:=c2 _ _ _ j.at_;rw[(j.yk id t k.1).1,k.2.1,(j.yk id t k.1).2 m (by rw[k.2.2.2.1];exact Nat.lt_succ_self m),k.2.2.1]at o;have c3:=Z o;have l:=j.at_.uX k.1 c0;rw[(j.yk id t k.1).2 m (by rw[k.2.2.2.1];exact Nat.lt_succ_self m),k.2.2.1,c1]at l;clear j W o r u q bw;go_wp2_with fail
    with_reducible refine c3.out.mono ?_
    rintro e cL ⟨rfl,al,a0,z,G⟩;have y:=Z (And.intro z ((X.trans S.nx).trans G));clear z G;go_wp2_with fail
    go_end0
    rw[E];exact⟨rfl,al,a0,y.1,y.2⟩
  |true=>
   rw[Q]at l U am;have es:m%2=1:=by simpa using U.symm
   by_cases bv:a=0
   ·subst bv
    have B:max ((0:Int)-1) 0=0:=by decide
    have E:Hid (fI C K i=cz C (K.be i {K.W i with left:=0}) i id m):=Z (by rw[am,if_neg (by rintro⟨e,_⟩;cases e),if_pos rfl,B]);have c0:=Z J;have c1:=Z Q;have ab:0<=(K.be i {K.W i with left:=max ((0:Int)-1) 0}).w/\(K.be i {K.W i with left:=max ((0:Int)-1) 0}).w<(K.be i {K.W i with left:=max ((0:Int)-1) 0}).wk.length:=by rw[bA];exact R
    have o:=fun(w:World) (χ:Nat->a4) (Y:Var) (h:ae w χ L Y C (K.be i {K.W i with left:=max ((0:Int)-1) 0}))=>kI O a1 (by omega) (by omega) i a2 id t v bi I (by omega) m (by omega) (by exact ab) h
    rw[B]at o;have c2:=Z o;clear o ab;clear h A O x R hid v P cd ck cb c5 ce J U c6 ad a3 c9 ci c7 hb V cf a1 a2 bi Q c8 cA I;go_enter func62,ntmps62
    go_wp2_with fail
    go_quiet (fail)
    generalize p:World.drewN _ _=w1;have c:=Z (Ch.dN (D:=ag) p);clear p;have r:=c.k r;have s:=c.k s;have l:=c.k l;have u:=c.k u;have q:=c.k q;go_wp2_with fail
    go_region_held3 (fun w'=>w'.cell? (tb,1)=some (.slice (some (g,0)) T cap)/\w'.cell? ⟨g,m,none⟩=some (.pointer (some (b,0)))) (go_keep) (fail)
    generalize p:World.drew w1=w2;have d:Hid (Ch ag w1 w2):=Z (by rw[<-p];exact(Ch.refl _ _).drew);clear p;have r:=d.k r;have s:=d.k s;have l:=d.k l;have u:=d.k u;have q:=d.k q;have H:=Z (ch.af (c.trans d));have X:=Z (Nx.af (χ:=χ) (c.trans d));clear ap av s cl;have bw:=H.tn (i*38+3);have F:=cm _ H;rw[B]at F;have c4:=Z F;clear F;go_wp2_with fail
    obtain⟨cQ,cq,j⟩:=c4.out;obtain⟨cC,W⟩:=nm (w2.setCell (L.wb,i*38+3) (.int .i64 (0)));rw[W]at j⊢;have S:=Z j;have o:=c2 _ _ _ j.at_;rw[(j.yk id t k.1).1,k.2.1,(j.yk id t k.1).2 m (by rw[k.2.2.2.1];exact Nat.lt_succ_self m),k.2.2.1]at o;have c3:=Z o;have l:=j.at_.uX k.1 c0;rw[(j.yk id t k.1).2 m (by rw[k.2.2.2.1];exact Nat.lt_succ_self m),k.2.2.1,c1]at l;clear j W o r u q bw;go_wp2_with fail
    with_reducible refine c3.out.mono ?_
    rintro e cL ⟨rfl,al,a0,z,G⟩;have y:=Z (And.intro z ((X.trans S.nx).trans G));clear z G;go_wp2_with fail
    go_end0
    rw[E];exact⟨rfl,al,a0,y.1,y.2⟩
   ·have B:max (a-1) 0=a-1:=by omega
    have et:(a==0)=false:=by rw[beq_eq_false_iff_ne];exact bv
    have en:1<=a:=by omega
    have ec:(0:Int)<=a-1:=by omega
    have E:Hid (fI C K i=cz C (K.be i {K.W i with left:=a-1}) i id m):=Z (by rw[am,if_neg (by rintro⟨e,_⟩;cases e),if_pos rfl,B]);have c0:=Z J;have c1:=Z Q;have ab:0<=(K.be i {K.W i with left:=max (a-1) 0}).w/\(K.be i {K.W i with left:=max (a-1) 0}).w<(K.be i {K.W i with left:=max (a-1) 0}).wk.length:=by rw[bA];exact R
    have o:=fun(w:World) (χ:Nat->a4) (Y:Var) (h:ae w χ L Y C (K.be i {K.W i with left:=max (a-1) 0}))=>kI O a1 (by omega) (by omega) i a2 id t v bi I (by omega) m (by omega) (by exact ab) h
    rw[B]at o;have c2:=Z o;clear o ab;clear h A O x R hid v P cd ck cb c5 ce J U c6 ad a3 c9 ci c7 hb V cf a1 a2 bi Q c8 I;go_enter func62,ntmps62
    go_wp2_with fail
    go_quiet (fail)
    generalize p:World.drewN _ _=w1;have c:=Z (Ch.dN (D:=ag) p);clear p;have r:=c.k r;have s:=c.k s;have l:=c.k l;have u:=c.k u;have q:=c.k q;go_wp2_with fail
    go_region_held3 (fun w'=>w'.cell? (tb,1)=some (.slice (some (g,0)) T cap)/\w'.cell? ⟨g,m,none⟩=some (.pointer (some (b,0)))) (go_keep) (fail)
    generalize p:World.drew w1=w2;have d:Hid (Ch ag w1 w2):=Z (by rw[<-p];exact(Ch.refl _ _).drew);clear p;have r:=d.k r;have s:=d.k s;have l:=d.k l;have u:=d.k u;have q:=d.k q;have H:=Z (ch.af (c.trans d));have X:=Z (Nx.af (χ:=χ) (c.trans d));clear ap av s cl;have bw:=H.tn (i*38+3);have F:=cm _ H;rw[B]at F;have c4:=Z F;clear F;go_wp2_with fail
    obtain⟨cQ,cq,j⟩:=c4.out;obtain⟨cC,W⟩:=nm (w2.setCell (L.wb,i*38+3) (.int .i64 (a-1)));rw[W]at j⊢;have S:=Z j;have o:=c2 _ _ _ j.at_;rw[(j.yk id t k.1).1,k.2.1,(j.yk id t k.1).2 m (by rw[k.2.2.2.1];exact Nat.lt_succ_self m),k.2.2.1]at o;have c3:=Z o;have l:=j.at_.uX k.1 c0;rw[(j.yk id t k.1).2 m (by rw[k.2.2.2.1];exact Nat.lt_succ_self m),k.2.2.1,c1]at l;clear j W o r u q bw;go_wp2_with fail
    with_reducible refine c3.out.mono ?_
    rintro e cL ⟨rfl,al,a0,z,G⟩;have y:=Z (And.intro z ((X.trans S.nx).trans G));clear z G;go_wp2_with fail
    go_end0
    rw[E];exact⟨rfl,al,a0,y.1,y.2⟩
end
end
section
def iq(χ:Nat->a4):Nat->a4:=fun i=>if χ i=.out then .no else χ i
theorem xb(χ:Nat->a4)(i:Nat):iq χ i≠ .out:=by
 unfold iq;split
 ·decide
 ·assumption
theorem xc{χ:Nat->a4}{i:Nat}{k:a4}(h:χ i=k)(a:k≠ .out):iq χ i=k:=by
 unfold iq;rw[if_neg (by rw[h];exact a),h]
section
variable{w w':World}{χ:Nat->a4}{L:cw}{Y:Var}{C:KC}{K:KS}
theorem ae.Bq(h:ae w χ L Y C K):ae (w.setCell (L.mb,1020) (.slice none 0 0)) (iq χ) L {Y with ov:=.slice none 0 0} C {K with out:=[]}/\
 (w.setCell (L.mb,1020) (.slice none 0 0)).ownsRow 0 62 11 Y.ov K.out.length (K.out.flatMap Ev.cells):=by
 have o:=h.head (by simp);have y:=h.out (by simp);have c:Ch (aK L.mb) w (w.setCell (L.mb,1020) (.slice none 0 0)):=(Ch.refl _ _).only _ _;have s:eI [.gx] χ χ (aK L.mb) w (w.setCell (L.mb,1020) (.slice none 0 0)):=eI.one c (fun i r=>by rw[show i=L.mb from r];simp[o.k]) h.small;have base:=h.step s (by simp);have a:∀{i:Nat} {k:a4},χ i=k->k≠ .out->iq χ i=k:=fun f m=>xc f m
 refine⟨{
  head:=fun b=>⟨o.row.a' _ _ ?_,o.rows,a o.k (by simp)⟩
  mem:=fun b=>⟨(base.mem (by simp)).is,a (base.mem (by simp)).k1 (by simp),a (base.mem (by simp)).k2 (by simp),a (base.mem (by simp)).k3 (by simp)⟩
  al:=fun b=>⟨(base.al (by simp)).is,a (base.al (by simp)).k1 (by simp),fun q d=>a ((base.al (by simp)).k2 q d) (by simp)⟩
  bW:=fun b=>⟨(base.bW (by simp)).is,a (base.bW (by simp)).k1 (by simp),a (base.bW (by simp)).k2 (by simp),a (base.bW (by simp)).k3 (by simp),a (base.bW (by simp)).k4 (by simp),fun q d=>a ((base.bW (by simp)).k5 q d) (by simp)⟩
  ring:=fun b=>⟨(base.ring (by simp)).is,a (base.ring (by simp)).k1 (by simp),a (base.ring (by simp)).k2 (by simp)⟩
  q:=fun b=>⟨(base.q (by simp)).is,(base.q (by simp)).b2,fun i r=>a ((base.q (by simp)).k i r) (by simp)⟩
  cX:=fun b=>⟨(base.cX (by simp)).is,a (base.cX (by simp)).k1 (by simp),a (base.cX (by simp)).k2 (by simp)⟩
  obj:=fun b=>⟨(base.obj (by simp)).is,a (base.obj (by simp)).k1 (by simp),a (base.obj (by simp)).k2 (by simp)⟩
  tm:=fun b=>⟨(base.tm (by simp)).is,a (base.tm (by simp)).k (by simp),(base.tm (by simp)).nd⟩
  th:=fun j u l b=>⟨(base.th j u l (by simp)).is,a (base.th j u l (by simp)).k (by simp)⟩
  tl:=fun j u l b=>⟨(base.tl j u l (by simp)).is,fun q d=>a ((base.tl j u l (by simp)).k q d) (by simp)⟩
  fr:=fun j u k t l v b=>⟨(base.fr j u k t l v (by simp)).is,a (base.fr j u k t l v (by simp)).kf (by simp),fun q d=>a ((base.fr j u k t l v (by simp)).kb q d) (by simp)⟩
  wk:=fun b=>⟨(base.wk (by simp)).is,a (base.wk (by simp)).k (by simp),(base.wk (by simp)).back,fun i x n q d=>a ((base.wk (by simp)).kb i x n q d) (by simp),(base.wk (by simp)).n⟩
  out:=fun b=>⟨⟨rfl,Or.inl ⟨rfl,rfl⟩⟩,fun q d=>by cases d⟩
  code:=fun b=>{
   mx:=(base.code (by simp)).mx
   iU:=(base.code (by simp)).iU
   my:=(base.code (by simp)).my
   ca:=fun n=>by obtain⟨q,f,m,p⟩:=(base.code (by simp)).ca n;exact⟨q,f,m,a p (by simp)⟩
   prog:=fun n=>by obtain⟨q,f,m,p⟩:=(base.code (by simp)).prog n;exact⟨q,f,m,a p (by simp)⟩
   calls:=fun n=>by obtain⟨q,j,f,m,p⟩:=(base.code (by simp)).calls n;exact⟨q,j,f,m,a p (by simp)⟩}
  small:=fun i r=>base.small i (fun e=>r (by unfold iq;rw[e];rfl))},?_⟩
 ·have:=nu (L:=L) (C:=C) (ov:=Y.ov) (nw:=K.wk.length) (en:=K.entries) (at_:=K.at_) (wn:=K.w) (dr:=K.draw) o.rows 13 (.slice none 0 0)
  rw[this];rfl
 ·exact ar y.is c (fun g z e=>by
   have f:=y.k g z;rw[show g=L.mb from e,o.k]at f;cases f)
def B6(x:List Ev×KS)(χ:Nat->a4)(L:cw)(C:KC)(w:World)(e:Ending)(w':World):Prop:=
 ∃v aW Y',e=.returned v/\w'.ownsRow w.heap.size 62 11 v x.1.length (x.1.flatMap Ev.cells)/\(∀g,v.ownBlock=some g->aW g=.no)/\ae w' aW L Y' C x.2/\Nx χ aW w w'/\∀i,aW i≠ .out
theorem xd{w:World}{e:TypeId}{z:Nat}{v:Value}{n B:Nat}{b:List Value}(h:w.ownsRow 0 e z v n b)(f:∀g,v.ownBlock=some g->B<=g):w.ownsRow B e z v n b:=by
 refine⟨h.1,?_⟩;rcases h.2 with c|⟨g,cap,cur,a,_,d⟩
 ·exact Or.inl c
 ·exact Or.inr ⟨g,cap,cur,a,f g (by rw[a];rfl),d⟩
theorem ae.sf(h:ae w' χ L Y C K){d:Nat->a4}(n:Nx d χ w w')(k:∀i,d i≠ .out):B6 (K.out,{K with out:=[]}) d L C w (.returned Y.ov) (w'.setCell (L.mb,1020) (.slice none 0 0)):=by
 obtain⟨l,m⟩:=h.Bq;have j:=h.out (by simp);have o:∀g,Y.ov.ownBlock=some g->w.heap.size<=g:=fun g b=>by
  rcases Nat.lt_or_ge g w.heap.size with a|a
  ·have f:=n.same g a
   rw[j.k g b]at f;exact absurd f.symm (k g)
  ·exact a
 refine⟨Y.ov,_,_,rfl,xd m o,fun g b=>by unfold iq;rw[if_pos (j.k g b)],l,?_,xb χ⟩;have p:=h.head (by simp);refine⟨n.ch.join (E:=aK L.mb) ((Ch.refl _ _).only _ _) (fun i c e=> ?_),fun i c=> ?_⟩
 ·have:i=L.mb:=e
  subst this;rw[<-n.same _ c,p.k];decide
 ·unfold iq
  rw[n.same i c,if_neg (k i)]
theorem Br{N:Nat}(x:oC C)(d:Inv N 0 K)(ce:N<=300000)(kind wk draw:Int)(y:aH draw)(am:∀i,χ i≠ .out)(h:ae w χ L Y C K):
 Calls prog 18 #[(L.mb,0),.agg #[kind,wk,.int .u64 draw]] w (B6 (gM C K kind wk draw) χ L C w):=by
 obtain⟨r,j⟩:=nm (w.alloc (.cells #[kind,wk,.int .u64 draw] 58));have u:=Z (Ch.al (D:=ag) j);have m:=Z (h.hg u);have k:Hid (Row r w.heap.size 58 [kind,wk,.int .u64 draw]/\χ w.heap.size=.no):=Z ⟨by rw[<-j];exact Row.new w _ _,h.fresh (Nat.le_refl _)⟩;obtain⟨t0,t1,t2⟩:=k.1.c3;obtain⟨en,V⟩:=nm K.entries;have a0:=m.at_.setAt en;have a1:=a0.at_.BZ (-1);have bw:=a1.at_.A5 draw;have a2:=(a0.trans (Gr.of_eq rfl) a1).trans (Gr.of_eq rfl) bw;have c0:=a2.at_.CH (wrap64 (en+1));have c1:=dB.af (a2.trans (Gr.of_eq rfl) c0) (Ch.refl _ _).drew;obtain⟨K1,I⟩:=nm (({K with at_:=en,w:=-1,draw:=draw,entries:=wrap64 (en+1)}:KS));have b:Inv N 0 K1:=by rw[<-I];exact⟨d.core,d.nd,d.q,d.bW,d.bB,d.mem,d.obj,y,d.w0,d.w1,d.out⟩
 have a:Hid (dB χ L Y C K K1 r χ Y (((((r.setCell (L.mb,1017) (.int .i64 en)).setCell (L.mb,1018) (.int .i64 (-1))).setCell (L.mb,1019) (.int .u64 draw)).setCell (L.mb,1016) (.int .i64 (wrap64 (en+1)))).drew)):=Z (by rw[<-I];exact c1);have v:=m.at_.DM;rw[V]at v;have F:=m.at_.Fg;have G:=m.at_.Eu;have H:=m.at_.BV;have f1:=m.at_.fz 1016;have f2:=m.at_.fz 1017;have f3:=m.at_.fz 1018;have f4:=m.at_.fz 1019;have c9:L.mb≠w.heap.size:=Nat.ne_of_lt h.EN;have ci:=c9.symm;have q:K1.wk.length=K.wk.length:=by rw[<-I]
 have A:Hid (gM C K kind wk draw=((if kind=2 then gZ K1 else if kind=1 then(if 0<=wk/\wk<K.wk.length then fI C {K1 with w:=wk} wk.toNat else K1)else K1).out,{(if kind=2 then gZ K1 else if kind=1 then(if 0<=wk/\wk<K.wk.length then fI C {K1 with w:=wk} wk.toNat else K1)else K1)with out:=[]})):=Z (by rw[<-I,<-V];rfl);have z:=Z am;obtain⟨B,t⟩:=nm K.wk.length;rw[t]at A q;have ck:B<=64:=by rw[<-t];exact d.w1
 have M:=Z q;clear a0 a1 bw a2 c0 c1 h am I V;by_cases X:kind=2
 ·subst X
  have c6:=Z (fun w (h:ae w χ L Y C K1)=>wQ (b.bW.ok (by omega)) b.bW.tick.2.1 (by have:=b.bW.tick.2.2;omega) (by have:=b.out;omega) h);have E:Hid (gM C K 2 wk draw=((gZ K1).out,{gZ K1 with out:=[]})):=Z (by rw[A,if_pos rfl]);clear d b x y t q;go_enter func18,ntmps18
  go_wp2_with fail
  try rw[j]
  clear j;go_region
  go_wp2_with fail
  obtain⟨S,f⟩:=nm ((((((r.setCell (L.mb,1017) (.int .i64 en)).setCell (L.mb,1018) (.int .i64 (-1))).setCell (L.mb,1019) (.int .u64 draw)).setCell (L.mb,1016) (.int .i64 (wrap64 (en+1)))).drew));rw[f]at a⊢;clear f v F G H f1 f2 f3 f4 t0 t1 t2;have l:=Z (a.nx.row k.1 k.2);with_reducible refine(c6.out _ a.out.at_).mono ?_
  rintro e T ⟨rfl,cm,cb,ab⟩;have c:=Z ab;clear ab;have co:=c.at_.rr;have Q:=c.at_.fz 1020;go_wp2_with fail
  go_ret;rw[E];exact ae.sf c.at_ (((Nx.af u).trans a.nx).trans c.nx) z
 ·have ch:(kind==2)=false:=by rw[beq_eq_false_iff_ne];exact X
  by_cases W:kind=1
  ·subst W
   by_cases J:0<=wk/\wk<B
   ·obtain⟨o,R⟩:=J
    obtain⟨i,rfl⟩:=Int.eq_ofNat_of_zero_le o;have av:i<K1.wk.length:=by rw[q];omega
    have al:Inv N 0 ({K1 with w:=(i:Int)}:KS):=⟨b.core,b.nd,b.q,b.bW,b.bB,b.mem,b.obj,b.draw,b.w0,b.w1,b.out⟩;have c5:=Z (fun(w:World) (χ:Nat->a4) (Y:Var) (h:ae w χ L Y C ({K1 with w:=(i:Int)}:KS))=>xa x al (by omega) (by omega) i av ⟨o,by show(i:Int)<K1.wk.length;omega⟩ h);have E:Hid (gM C K 1 i draw=((fI C {K1 with w:=(i:Int)} i).out,{fI C {K1 with w:=(i:Int)} i with out:=[]})):=Z (by rw[A,if_neg (by decide),if_pos rfl,if_pos ⟨o,R⟩];rfl);have ap:decide (0<=(i:Int))=true:=by simpa using o
    have c8:decide ((i:Int)<(B:Int))=true:=by simpa using R
    clear av al;clear d b x y t q;go_enter func18,ntmps18
    go_wp2_with fail
    try rw[j]
    clear j;go_region
    go_upto_region 7 with fail
    obtain⟨S,f⟩:=nm ((((((r.setCell (L.mb,1017) (.int .i64 en)).setCell (L.mb,1018) (.int .i64 (-1))).setCell (L.mb,1019) (.int .u64 draw)).setCell (L.mb,1016) (.int .i64 (wrap64 (en+1)))).drew));rw[f]at a⊢;clear f v F G H f1 f2 f3 f4 t0 t1 t2;have l:=Z (a.nx.row k.1 k.2);have n:=l.1.k 1 rfl;have g:=a.at_.p7;rw[M]at g;go_quiet (fail)
    generalize p:World.drewN _ _=T;have s:=Z (Ch.dN (D:=ag) p);clear p n g;have c:=Z (a.af s);have U:=Z ((Nx.af s).row l.1 l.2);have n:=U.1.k 1 rfl;have g:=c.at_.Eu;have c7:=c.at_.fz 1018;have bi:=c.at_.BZ (i:Int);have a3:=Z bi;clear bi;go_upto_region 9 with fail
    obtain⟨c3,bv⟩:=nm (T.setCell (L.mb,1018) (.int .i64 (i:Int)));rw[bv]at a3⊢;clear bv n g c7;have O:=a3;have c4:=Z (O.nx.row U.1 U.2);have n:=c4.1.k 1 rfl;have g:=O.at_.p7;dsimp only at g;rw[M]at g;go_still_tail 8,(by kernel_rfl)
    change wpList _ _ _ _ _ c3.drew;go_wp2_with fail
    with_reducible refine(c5.out _ _ _ O.out.at_.drew).mono ?_
    rintro e cl ⟨rfl,cq,cd,ad,c2⟩;have P:=Z (And.intro ad ((((((Nx.af u).trans a.nx).trans (Nx.af s)).trans O.nx).trans (Nx.af (Ch.refl _ c3).drew)).trans c2));clear ad c2 n g;have co:=P.1.rr;have Q:=P.1.fz 1020;go_wp2_with fail
    go_ret;rw[E];exact ae.sf P.1 P.2 z
   ·have E:Hid (gM C K 1 wk draw=(K1.out,{K1 with out:=[]})):=Z (by rw[A,if_neg (by decide),if_pos rfl,if_neg J])
    by_cases o:0<=wk
    ·have ap:decide (0<=wk)=true:=by simpa using o
     have R:¬wk<(B:Int):=fun e=>J ⟨o,e⟩
     have c8:decide (wk<(B:Int))=false:=by simpa using R
     clear J;clear d b x y t q;go_enter func18,ntmps18
     go_wp2_with fail
     try rw[j]
     clear j;go_region
     go_upto_region 7 with fail
     obtain⟨S,f⟩:=nm ((((((r.setCell (L.mb,1017) (.int .i64 en)).setCell (L.mb,1018) (.int .i64 (-1))).setCell (L.mb,1019) (.int .u64 draw)).setCell (L.mb,1016) (.int .i64 (wrap64 (en+1)))).drew));rw[f]at a⊢;clear f v F G H f1 f2 f3 f4 t0 t1 t2;have l:=Z (a.nx.row k.1 k.2);have n:=l.1.k 1 rfl;have g:=a.at_.p7;rw[M]at g;go_quiet (fail)
     generalize p:World.drewN _ _=T;have s:=Z (Ch.dN (D:=ag) p);clear p n g;have c:=Z (a.af s);have co:=c.at_.rr;have Q:=c.at_.fz 1020;go_wp2_with fail
     go_ret;rw[E];exact ae.sf c.at_ ((Nx.af u).trans c.nx) z
    ·have ap:decide (0<=wk)=false:=by simpa using o
     clear J;clear d b x y t q;go_enter func18,ntmps18
     go_wp2_with fail
     try rw[j]
     clear j;go_region
     go_upto_region 7 with fail
     obtain⟨S,f⟩:=nm ((((((r.setCell (L.mb,1017) (.int .i64 en)).setCell (L.mb,1018) (.int .i64 (-1))).setCell (L.mb,1019) (.int .u64 draw)).setCell (L.mb,1016) (.int .i64 (wrap64 (en+1)))).drew));rw[f]at a⊢;clear f v F G H f1 f2 f3 f4 t0 t1 t2;have l:=Z (a.nx.row k.1 k.2);have n:=l.1.k 1 rfl;have g:=a.at_.p7;rw[M]at g;go_quiet (fail)
     generalize p:World.drewN _ _=T;have s:=Z (Ch.dN (D:=ag) p);clear p n g;have c:=Z (a.af s);have co:=c.at_.rr;have Q:=c.at_.fz 1020;go_wp2_with fail
     go_ret;rw[E];exact ae.sf c.at_ ((Nx.af u).trans c.nx) z
  ·have cf:(kind==1)=false:=by rw[beq_eq_false_iff_ne];exact W
   have E:Hid (gM C K kind wk draw=(K1.out,{K1 with out:=[]})):=Z (by rw[A,if_neg X,if_neg W]);clear d b x y t q;go_enter func18,ntmps18
   go_wp2_with fail
   try rw[j]
   clear j;go_region
   go_upto_region 10 with fail
   obtain⟨S,f⟩:=nm ((((((r.setCell (L.mb,1017) (.int .i64 en)).setCell (L.mb,1018) (.int .i64 (-1))).setCell (L.mb,1019) (.int .u64 draw)).setCell (L.mb,1016) (.int .i64 (wrap64 (en+1)))).drew));rw[f]at a⊢;clear f v F G H f1 f2 f3 f4 t0 t1 t2;have l:=Z (a.nx.row k.1 k.2);have co:=a.at_.rr;have Q:=a.at_.fz 1020;go_wp2_with fail
   go_ret;rw[E];exact ae.sf a.at_ ((Nx.af u).trans a.nx) z
end
end
theorem gP{α:Type}{enc:α->List Value}{k:Nat}(a:∀x,(enc x).length=k)(m:0<k)(x:α)(z:Array Value)(g:z.toList=enc x)(c:Nat):(madeCells z (c*k)).toList=(List.replicate c x).flatMap enc:=by
 have d:z.size=k:=by rw[<-Array.length_toList,g,a]
 apply List.ext_getElem?;intro i;by_cases f:i<c*k
 ·have e:i=(i/k)*k+i%k:=by rw[Nat.mul_comm];exact(Nat.div_add_mod i k).symm
  have l:i/k<c:=Nat.div_lt_of_lt_mul (by rw[Nat.mul_comm];exact f);have b:i%k<k:=Nat.mod_lt _ m;have h:((List.replicate c x).flatMap enc)[i]?=(enc x)[i%k]?:=by
   conv=>lhs;rw[e]
   exact bP a (by simp[l]) b
  rw[h,<-g];have j:(madeCells z (c*k))[i]?=z[i%k]?:=by
   unfold madeCells;rw[Array.getElem?_map,Array.getElem?_range,if_pos f];simp only[Option.map_some,d];rw[getElem!_pos z (i%k) (by rw[d];exact b),Array.getElem?_eq_getElem (by rw[d];exact b)]
  simpa using j
 ·rw[List.getElem?_eq_none (by simp[size_madeCells];omega),List.getElem?_eq_none (by rw[a7 a,List.length_replicate];omega)]
theorem nW(z:Value)(c:Nat):(madeCells #[z] c).toList=List.replicate c z:=by
 have:=gP (enc:=fun v:Value=>[v]) (k:=1) (fun _=>rfl) (by omega) z #[z] rfl c;rw[Nat.mul_one]at this;rw[this];simp[List.flatMap_replicate]
theorem zu:(prog.info? 251).map (fun i=>(i.zero,i.size,i.bytes))=some (some (.agg #[.int .u64 0,.bool false,.bool false,.int .u64 0,.int .i64 0,.int .u64 0,.int .u64 0,.int .u64 0,.bool false,.bool false]),10,64):=by kernel_rfl
theorem zv:(prog.info? 262).map (fun i=>(i.zero,i.size,i.bytes))=some (some (.agg #[.int .u64 0,.int .u64 0,.int .i64 0,.int .u64 0]),4,32):=by kernel_rfl
theorem Bs:(prog.info? 254).map (fun i=>(i.zero,i.size,i.bytes))=some (some (.agg #[.pointer none,.pointer none]),2,16):=by kernel_rfl
theorem C8:(prog.info? 5).map (fun i=>(i.zero,i.size,i.bytes))=some (some (.int .u8 0),1,1):=by kernel_rfl
def aD.zero:aD:=⟨0,false,false,lV.zero⟩
def bC.zero:bC:=⟨0,0,0,0⟩
theorem qx(w:World):Calls prog 55 #[.int .i64 64] w (fun e w'=>e=.returned (.tuple #[(w.heap.size+1,0),.nilIface])/\aU w' (w.heap.size+1) w.heap.size (List.replicate 64 aD.zero)/\Ch ag w w'):=by
 obtain⟨g,b,c,d,f⟩:=info_parts zu;have j:=run_make (P:=prog) w 215 251 g _ underlying215 b c .i64 .i64 64 64 (by omega) (by omega) (by rw[f];decide) (by omega);obtain⟨cs,a⟩:=nm (madeCells (Value.agg #[.int .u64 0,.bool false,.bool false,.int .u64 0,.int .i64 0,.int .u64 0,.int .u64 0,.int .u64 0,.bool false,.bool false]).cells ((64:Int).toNat*g.size));rw[a]at j;rw[d]at a;have h:=Z a;clear a b c d f;go_enter func55,ntmps55
 go_wp2
 go_ret2;have i:=gP (enc:=aD.cells) aD.len (by omega) aD.zero #[.int .u64 0,.bool false,.bool false,.int .u64 0,.int .i64 0,.int .u64 0,.int .u64 0,.int .u64 0,.bool false,.bool false] rfl 64;have k:Row (w.alloc (.cells cs 251)) w.heap.size 251 ((List.replicate 64 aD.zero).flatMap aD.cells):=by
  have:=Row.new w cs 251;rw[<-h]at this⊢;rw[<-i];exact this
 refine⟨by simp,⟨?_,k.alloc _,by simp⟩,((Ch.refl _ _).alloc _).alloc _⟩;have:=Row.new (w.alloc (.cells cs 251)) #[.slice (some (w.heap.size,0)) 64 64] 217;rw[World.size_alloc]at this;exact this
theorem nX(w:World):Calls prog 56 #[.int .i64 64] w (fun e w'=>e=.returned (.tuple #[(w.heap.size+1,0),.nilIface])/\bL w' (w.heap.size+1) w.heap.size (List.replicate 64 bC.zero)/\Ch ag w w'):=by
 obtain⟨g,b,c,d,f⟩:=info_parts zv;have j:=run_make (P:=prog) w 218 262 g _ underlying218 b c .i64 .i64 64 64 (by omega) (by omega) (by rw[f];decide) (by omega);obtain⟨cs,a⟩:=nm (madeCells (Value.agg #[.int .u64 0,.int .u64 0,.int .i64 0,.int .u64 0]).cells ((64:Int).toNat*g.size));rw[a]at j;rw[d]at a;have h:=Z a;clear a b c d f;go_enter func56,ntmps56
 go_wp2
 go_ret2;have i:=gP (enc:=bC.cells) bC.len (by omega) bC.zero #[.int .u64 0,.int .u64 0,.int .i64 0,.int .u64 0] rfl 64;have k:Row (w.alloc (.cells cs 262)) w.heap.size 262 ((List.replicate 64 bC.zero).flatMap bC.cells):=by
  have:=Row.new w cs 262;rw[<-h]at this⊢;rw[<-i];exact this
 refine⟨by simp,⟨?_,k.alloc _,by simp⟩,((Ch.refl _ _).alloc _).alloc _⟩;have:=Row.new (w.alloc (.cells cs 262)) #[.slice (some (w.heap.size,0)) 64 64] 220;rw[World.size_alloc]at this;exact this
theorem sg(w:World):Calls prog 53 #[.int .i64 64] w (fun e w'=>e=.returned (.tuple #[(w.heap.size+1,0),.nilIface])/\eH w' (w.heap.size+1) w.heap.size []/\Ch ag w w'):=by
 obtain⟨g,b,c,d,f⟩:=info_parts jt;have i:=run_make (P:=prog) w 29 56 g _ underlying29 b c .i64 .i64 64 64 (by omega) (by omega) (by rw[f];decide) (by omega);obtain⟨cs,a⟩:=nm (madeCells (Value.int .u64 0).cells ((64:Int).toNat*g.size));rw[a]at i;rw[d]at a;have h:=Z a;clear a b c d f;go_enter func53,ntmps53
 go_wp2
 go_ret2;have j:Row (w.alloc (.cells cs 56)) w.heap.size 56 ((List.replicate 64 (0:Int)).map (Value.int .u64)):=by
  have:=Row.new w cs 56;rw[<-h]at this⊢;rw[List.map_replicate,<-nW (.int .u64 0) 64];exact this
 refine⟨by simp,⟨List.replicate 64 0,0,⟨?_,j.alloc _,by simp,by omega,by simp⟩,by simp⟩,((Ch.refl _ _).alloc _).alloc _⟩;have:=Row.new (w.alloc (.cells cs 56)) #[.slice (some (w.heap.size,0)) 64 64,.int .i64 0,.int .i64 0] 209;rw[World.size_alloc]at this;exact this
theorem qy(m fr tt:Nat)(h:fr<=tt)(c:tt<=1000000)(w:World):Calls prog 96 #[(m,0),.int .i64 fr,.int .i64 tt] w (fun e w'=>e=.returned (.tuple #[(w.heap.size,0),.nilIface])/\aR w' w.heap.size m (.slice none 0 0) ⟨fr,tt,[]⟩/\Ch ag w w'):=by
 have a:(fr:Int)<=(tt:Int):=by omega
 have b:¬(tt:Int)<(fr:Int):=by omega
 clear h;go_enter func96,ntmps96
 go_wp2
 go_ret2;exact⟨rfl,⟨Row.new w #[(m,0),.int .i64 fr,.int .i64 tt,.slice none 0 0] 271,rfl,Or.inl ⟨rfl,rfl⟩⟩,(Ch.refl _ _).alloc _⟩
theorem oJ(w:World):Calls prog 54 #[.int .i64 8] w (fun e w'=>∃qb lb mb,e=.returned (.tuple #[.pointer (some ⟨qb,0,none⟩),.nilIface])/\ig w' qb lb mb (List.replicate 8 [])/\w.heap.size<=qb/\w.heap.size<=lb/\w.heap.size<=mb/\Ch ag w w'):=by
 obtain⟨j,c,f,g,i⟩:=info_parts Bs;have o:=run_make (P:=prog) w 211 254 j _ underlying211 c f .i64 .i64 8 8 (by omega) (by omega) (by rw[i];decide) (by omega);obtain⟨cs,a⟩:=nm (madeCells (Value.agg #[.pointer none,.pointer none]).cells ((8:Int).toNat*j.size));rw[a]at o;rw[g]at a;have m:=Z a;have q:= @run_makeMap prog;clear a c f g i;go_enter func54,ntmps54
 go_wp2
 go_ret2;have n:=gP (enc:=fun _:Unit=>[Value.pointer none,Value.pointer none]) (k:=2) (fun _=>rfl) (by omega) () #[.pointer none,.pointer none] rfl 8;have p:Row (w.alloc (.cells cs 254)) w.heap.size 254 ((List.replicate 8 ([]:List Sl)).flatMap bO):=by
  have:=Row.new w cs 254;rw[<-m]at this⊢;rw[show(List.replicate 8 ([]:List Sl)).flatMap bO=(List.replicate 8 ()).flatMap (fun _:Unit=>[Value.pointer none,Value.pointer none])from rfl,<-n];exact this
 have b:∀(k:Nat) (l:List Sl),(List.replicate 8 ([]:List Sl))[k]?=some l->l=[]:=fun k l h=>by
  have:=List.mem_of_getElem? h;simpa using this
 refine⟨w.heap.size+2,w.heap.size,w.heap.size+1,by simp,⟨?_,(p.alloc _).alloc _,by simp,?_,⟨[],⟨#[],0,?_,rfl⟩,List.nodup_nil,fun id=>rfl⟩,by simp,by simp,?_⟩,by omega,by omega,by omega,(((Ch.refl _ _).alloc _).alloc _).alloc _⟩
 ·have:=Row.new ((w.alloc (.cells cs 254)).alloc (.map #[] 0)) #[.slice (some (w.heap.size,0)) 8 8,.map (some (w.heap.size+1))] 214
  rw[World.size_alloc,World.size_alloc]at this;exact this
 ·intro k l h;rw[b k l h];trivial
 ·rw[Below.heap_alloc _ _ _ (by simp)]
  have:=heap_alloc_new (w.alloc (.cells cs 254)) (.map #[] 0);rw[World.size_alloc]at this;exact this
 ·intro k l h s d;rw[b k l h]at d;cases d
def aF.new(n:Nat):aF:=⟨List.replicate n 0,List.replicate n 0,0,0⟩
theorem aO.new{w:World}{m c a n:Nat}(f:n<=65536)(b:Row w m 163 [.slice (some (c,0)) n n,.slice (some (a,0)) n n,.int .i64 0,.int .i64 0])
 (d:Row w c 56 (List.replicate n (.int .u64 0))) (e:Row w a 5 (List.replicate n (.int .u8 0))):aO w m c a (aF.new n) where
 head:=by unfold aF.new;simpa using b
 cells:=by unfold aF.new;simpa using d
 width:=by unfold aF.new;simpa using e
 len:=by simp[aF.new]
 oP:=by simpa[aF.new]using f
 ok:=fun i x h=>by
  have:=List.mem_of_getElem? h;simp[aF.new]at this;omega
 u64:=fun i x h=>by
  have:=List.mem_of_getElem? h;simp[aF.new]at this;rw[this.2];exact⟨by decide,by decide⟩
def C9(n:Nat)(w:World)(e:Ending)(w':World):Prop:=∃m c a,e=.returned (.tuple #[.pointer (some ⟨m,0,none⟩),.nilIface])/\aO w' m c a (aF.new n)/\w.heap.size<=m/\w.heap.size<=c/\w.heap.size<=a/\Ch ag w w'
theorem tN(n:Nat)(x:1<=n)(f:n<=65536)(w:World):Calls prog 25 #[.int .i64 n] w (C9 n w):=by
 obtain⟨u,j,r,s,t⟩:=info_parts jt;obtain⟨v,k,o,p,q⟩:=info_parts C8;have l:=fun w=>run_make (P:=prog) w 29 56 u _ underlying29 j r .i64 .i64 (n:Int) (n:Int) (by omega) (by omega) (by rw[t];omega) (by omega)
 have m:=fun w=>run_make (P:=prog) w 161 5 v _ underlying161 k o .i64 .i64 (n:Int) (n:Int) (by omega) (by omega) (by rw[q];omega) (by omega)
 simp only[Int.toNat_natCast]at l m;obtain⟨cs,b⟩:=nm (madeCells (Value.int .u64 0).cells (n*u.size));obtain⟨a,c⟩:=nm (madeCells (Value.int .u8 0).cells (n*v.size));have h:cs.toList=List.replicate n (.int .u64 0):=by
  rw[<-b,s,Nat.mul_one];exact nW (.int .u64 0) n
 have i:a.toList=List.replicate n (.int .u8 0):=by
  rw[<-c,p,Nat.mul_one];exact nW (.int .u8 0) n
 simp only[b]at l;simp only[c]at m;have d:=Z h;have e:=Z i;have y:(1:Int)<=n:=by omega
 have z:(n:Int)<=65536:=by omega
 have g:=Z f;clear b c j r s t k o p q h i x f;go_enter func25,ntmps25
 go_wp2_with fail
 go_region
 all_goals
  go_wp2
  go_ret2
 ·refine⟨w.heap.size+1+1,w.heap.size,w.heap.size+1,rfl,aO.new g ?_ ?_ ?_,by omega,by omega,by omega,((((Ch.refl _ _).alloc _).alloc _).alloc _).drew⟩
  ·have:=Row.new ((w.alloc (.cells cs 56)).alloc (.cells a 5)) #[.slice (some ⟨w.heap.size,0,none⟩) n n,.slice (some ⟨w.heap.size+1,0,none⟩) n n,.int .i64 0,.int .i64 0] 163
   rw[World.size_alloc,World.size_alloc]at this;exact this
  ·have:=Row.new w cs 56
   rw[d]at this;exact(this.alloc _).alloc _
  ·have:=Row.new (w.alloc (.cells cs 56)) a 5
   rw[e,World.size_alloc]at this;exact this.alloc _
 ·refine⟨w.heap.size+1+1,w.heap.size+1,w.heap.size,rfl,aO.new g ?_ ?_ ?_,by omega,by omega,by omega,((((Ch.refl _ _).alloc _).alloc _).alloc _).drew⟩
  ·have:=Row.new ((w.alloc (.cells a 5)).alloc (.cells cs 56)) #[.slice (some ⟨w.heap.size+1,0,none⟩) n n,.slice (some ⟨w.heap.size,0,none⟩) n n,.int .i64 0,.int .i64 0] 163
   rw[World.size_alloc,World.size_alloc]at this;exact this
  ·have:=Row.new (w.alloc (.cells a 5)) cs 56
   rw[d,World.size_alloc]at this;exact this.alloc _
  ·have:=Row.new w a 5
   rw[e]at this;exact(this.alloc _).alloc _
def qz(ok:Bool)(w:World)(e:Ending)(w':World):Prop:=(∃u,e=.returned u/\(if ok then u=.nilIface else aq u))/\Ch ag w w'
theorem lF(p n:Int)(w:World):Calls prog 90 #[p,n] w (qz (decide (0<=p/\p<n)) w):=by
 have c:p<0∨(¬p<0/\n<=p)∨(¬p<0/\¬n<=p):=by omega
 rcases c with a|⟨a,b⟩|⟨a,b⟩
 ·have E:Hid (decide (0<=p/\p<n)=false):=Z (by rw[decide_eq_false_iff_not];omega)
  go_enter func90,ntmps90
  go_wp2_with (go_at_call 88;refine(bk _ _ _ _).mono ?_;rintro e w' ⟨rfl,rfl⟩)
  go_ret;rw[E];exact⟨⟨_,rfl,aq.mk _ _⟩,(Ch.refl _ _).alloc _⟩
 ·have E:Hid (decide (0<=p/\p<n)=false):=Z (by rw[decide_eq_false_iff_not];omega)
  have d:0<=p:=by omega
  go_enter func90,ntmps90
  go_wp2_with (go_at_call 88;refine(bk _ _ _ _).mono ?_;rintro e w' ⟨rfl,rfl⟩)
  go_ret;rw[E];exact⟨⟨_,rfl,aq.mk _ _⟩,(Ch.refl _ _).alloc _⟩
 ·have E:Hid (decide (0<=p/\p<n)=true):=Z (by rw[decide_eq_true_iff];omega)
  go_enter func90,ntmps90
  go_wp2_with fail
  go_ret;exact⟨⟨_,rfl,rfl⟩,Ch.refl _ _⟩
theorem vb(e:Addr)(tb:Nat)(c:Value)(w:World)(g:w.cell? (0,0)=some (.iface 335 (.agg #[(1,40)])))(b:w.cell? (tb,0)=some c)(f:w.frozen? (tb,0)=false):
 Calls prog 125 #[.iface 197 (.pointer (some e)),.iface 264 (.pointer (some (tb,0)))] w fun d w'=>d=.returned (.bool true)/\w'.cell? (tb,0)=some (.pointer (some e))/\Ch (aK tb) w w':=by
 have a:=World.block_lt_of_cell? w _ b;refine(Co e ⟨tb,0,none⟩ c w g b f).mono ?_;rintro d w' ⟨rfl,rfl⟩;refine⟨rfl,?_,(((((Ch.refl _ _).alloc _).alloc _).alloc _).alloc _).only _ _⟩;refine World.cell?_setCell_same _ _ _ (?_:World.cell? _ _=some c);rw[World.cell?_alloc_past _ _ _ (by simp at a⊢;omega),World.cell?_alloc_past _ _ _ (by simp at a⊢;omega),World.cell?_alloc_past _ _ _ (by simp at a⊢;omega),World.cell?_alloc_past _ _ _ (by simpa using a)];exact b
theorem sh(l:List aV)(a:Option Addr)(c:Nat)(r:Bool)(B:l.length<=2048)(y:l.length<=c)(w:World)(C:l≠[]->∃g,a=some ⟨g,0,none⟩/\eE w g l)
 (q:w.cell? (0,0)=some (.iface 335 (.agg #[(1,40)]))):
 Calls prog 89 #[.slice a l.length c,.bool r] w (qz (gE l.length r l 0).isNone w):=by
 obtain⟨w1,E⟩:=nm (w.alloc (.cells #[.pointer none] 197));have f:=Z (Ch.al (D:=ag) E);have F:Hid (l≠[]->∃g,a=some ⟨g,0,none⟩/\eE w1 g l):=Z (fun h=>by obtain⟨g,e,q⟩:=C h;exact⟨g,e,q.ch f (fun h=>h)⟩);have s:=Z (Row.al E);have v:Hid (w1.cell? (0,0)=some (.iface 335 (.agg #[(1,40)]))):=Z (f.k q);have o:=Z (oR l a c r B y w1 F);obtain⟨N,x⟩:=mn l.length;rw[<-x]at o⊢;obtain⟨k,A⟩:=nm (gE N r l 0);rw[A]at o⊢;clear C q B y x A;cases k with
 |none=>
  go_enter func89,ntmps89
  go_wp2_with (first|(go_at_call 115;refine o.mono ?_;rintro e w2 ⟨rfl,n⟩;have d:=Z (Ch.bY n);clear n)|(go_at_call 125;refine(Ck _ _).mono ?_;rintro e w' ⟨rfl,rfl⟩))
  go_ret;exact⟨⟨_,rfl,rfl⟩,f.trans d⟩
 |some i=>
  go_enter func89,ntmps89
  go_wp2_with (first|(go_at_call 115;refine o.mono ?_;rintro e w2 ⟨b,rfl,G,hb,n⟩;have d:=Z (Ch.bY n);have u:=Z hb;clear n hb))
  refine(vb ⟨b,0,none⟩ w.heap.size (.pointer none) w2 ((d.cell (aE v) (fun h=>h)).trans v) ((s.ch d (fun h=>h)).cell (i:=0) rfl) ((s.ch d (fun h=>h)).free 0)).mono ?_;rintro e I ⟨rfl,K,t⟩;have m:=Z t;have L:w.heap.size<w1.heap.size:=s.lt;have J:I.cell? (b,1)=some (.int .i64 i):=(t.cell (p:=⟨b,1,none⟩) (Array.getElem?_eq_some_iff.1 u).1 (fun e=>by have:b=w.heap.size:=e;omega)).trans ((show Row w2 b 199 _ from u.out).cell (i:=1) rfl);clear t G;go_wp2_with (go_at_call 88;refine(bk _ _ _ _).mono ?_;rintro e w' ⟨rfl,rfl⟩)
  go_ret;refine⟨⟨_,rfl,aq.mk _ _⟩,Ch.alloc ?_ _⟩;exact⟨m.os.trans (f.trans d).os,m.tape.trans (f.trans d).tape,m.out.output.trans (f.trans d).output,Nat.le_trans (f.trans d).size m.size,fun j z H=>(m.same j (Nat.lt_of_lt_of_le z (f.trans d).size) (fun e=>by have:j=w.heap.size:=e;omega)).trans ((f.trans d).same j z H)⟩
end Go.Proofs.YtfnilkpkogipfaaGreatDoor
