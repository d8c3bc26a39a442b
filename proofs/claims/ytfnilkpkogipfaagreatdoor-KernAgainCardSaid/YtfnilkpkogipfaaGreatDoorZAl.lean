import Derived.Test.YtfnilkpkogipfaaGreatDoorZAj
set_option linter.all false
set_option maxRecDepth 100000
set_option maxHeartbeats 8000000
namespace Go.Proofs.YtfnilkpkogipfaaGreatDoor
open Go.RowKit Go.Proofs.Tryz
section
section
variable{w:World}{χ:Nat->aX}{L:cz}{Y:Var}{C:KC}{K:KS}
theorem ae.D'(h:ae w χ L Y C K){i:Nat}(b:i<K.wk.length):∃aY Y',dJ χ L Y C K (gJ C K i) w aY Y' ((w.setCell (L.wb,i*38+4) (.int .i64 C.loop)).setCell (L.wb,i*38+4+33) (.slice none 0 0)):=by
 obtain⟨pre,post,v,a⟩:=h.cur (c:=.own i) b ⟨rfl,rfl⟩;have d:=a.jZ (kV (.own i)) C.loop;have e:=d.qs (kV (.own i)) (.slice none 0 0) [] (ct.nil _);exact h.zG (c:=.own i) b ⟨rfl,rfl⟩ a (f:={(K.W i).f with pc:=C.loop,back:=[]}) e (aT.nil _ _) (((Ch.refl _ _).only _ _).only _ _)
theorem iB(i:Nat)(b:i<K.wk.length)(h:ae w χ L Y C K):Calls prog 144 #[(L.mb,0),(L.wb,i*38)] w (dj (.tuple #[]) χ L Y C K (gJ C K i) w):=by
 have H:=Z h;have f:=Z b;obtain⟨pre,post,v,a⟩:=h.cur (c:=.own i) b ⟨rfl,rfl⟩;have g:=h.c1;have p1:=a.kI;have p2:=a.zd;have j:=a.free (i*38+4);have k:=a.free (i*38+4+33);have d:=Z (h.D' b);clear h b a;go_wp2
 go_end0
 obtain⟨aY,Y',e⟩:=d.out;exact⟨rfl,aY,Y',e⟩
theorem bF(i:Nat)(x:ay):(K.be i x).wk.length=K.wk.length:=by simp[KS.be]
theorem iC(i:Nat)(a:i<K.wk.length)(h:ae w χ L Y C K):Calls prog 111 #[(L.mb,0),(L.wb,i*38)] w (dj (.tuple #[]) χ L Y C K (dA C K i) w):=by
 have H:=Z h;have g:=Z a;have m:=h.mx a;have k:=h.uf (i*38);have l:=Z (h.vO a 0);clear h a;go_in
 go_wp2_with fail
 obtain⟨p,o,b⟩:=l.out;have d:=Z b;refine(iB i (by rw[bF];exact g) b.at_).mono ?_;rintro e w2 ⟨rfl,n,j,c⟩;have f:=Z (d.trans (Gr.of_eq rfl) c);clear b c m k;go_wp2
 go_end0
 exact⟨rfl,n,j,f⟩
theorem lO(i:Nat)(d:i<K.wk.length)(id:Int)(hid:aI id)(h:ae w χ L Y C K):Calls prog 194 #[(L.mb,0),(L.wb,i*38),.int .u64 id] w (dj (.tuple #[]) χ L Y C K (eo K i id) w):=by
 have H:=Z h;have j:=Z d;have p:=Z hid;have g:=h.fD d;obtain⟨m,b⟩:=nm ((K.W i).hand);rw[b]at g;have l:=h.ea;by_cases c:m=0
 ·have E:Hid (eo K i id=({K with table:=(j3 K.table id 1).2}).be i {K.W i with hand:=id}):=Z (by unfold eo;rw[b,if_neg (by simp[c])];rfl)
  subst c;clear h d hid b;go_in
  go_wp2_with fail
  refine(qE id 1 p H).mono ?_;rintro e w1 ⟨⟨v,rfl,_⟩,n,k,a⟩;have f:=Z a;have x:=a.at_.fD j;have u:=a.at_.uf (i*38+1);have s:=Z (a.at_.jM j id);clear a g l;go_wp2
  go_end0
  rw[E];obtain⟨t,q,r⟩:=s.out;exact⟨rfl,t,q,f.trans (Gr.of_eq rfl) r⟩
 ·have E:Hid (eo K i id=cv K id):=Z (by unfold eo;rw[b,if_pos c])
  have hb:(m !=0)=true:=by simpa using c
  have o:=Z (fh id hid h);clear h d hid b c;go_in
  go_wp2_with fail
  refine o.mono ?_;rintro e w1 ⟨rfl,n,k,a⟩;have f:=Z a;clear a g l;go_wp2
  go_end0
  rw[E];exact⟨rfl,n,k,f⟩
theorem lP(id a:Int)(hid:aI id)(j:K.blocks.Ok)(h:ae w χ L Y C K):Calls prog 196 #[(L.mb,0),.int .u64 id,.int .u64 a] w (dj (.tuple #[]) χ L Y C K (ek K id a) w):=by
 have H:=Z h;have m:=Z j;have i:=Z (db id hid h);obtain⟨s,c⟩:=nm (cE K id);rw[c]at i;by_cases d:s=0
 ·have E:Hid (ek K id a=jc K (wrap64 a)):=Z (by unfold ek;rw[c,if_pos d])
  subst d;clear h j hid c;go_in
  go_wp2_with fail
  refine i.mono ?_;rintro e w1 ⟨rfl,b⟩;have g:=Z b;have k:=Z (H.af b);have o:=k.o4;clear b;go_wp2_with fail
  refine(zF (wrap64 a) m k).mono ?_;rintro e w2 ⟨⟨v,rfl,_⟩,p,n,l⟩;have f:=Z l;clear l o;go_wp2
  go_end0
  rw[E];exact⟨rfl,p,n,f.at_,(Nx.af g).trans f.nx,f.yk⟩
 ·have E:Hid (ek K id a=K):=Z (by unfold ek;rw[c,if_neg d])
  have hb:(s==0)=false:=by simpa using d
  clear h j hid c d;go_in
  go_wp2_with fail
  refine i.mono ?_;rintro e w1 ⟨rfl,b⟩;have g:=Z b;clear b;go_wp2
  go_end0
  rw[E];exact⟨rfl,χ,Y,H.hC g⟩
end
end
section
theorem zK(l:List (Int×Thread))(k:Int)(g:Int->Nat):ft (l.map fun x=>(x.1,g x.1)) k=(ft l k).map fun x=>(x.1,g x.1):=by
 induction l with
 |nil=>rfl
 |cons x l ih=>
  rw[List.map_cons,hT,hT];split
  ·rfl
  ·simp[ih]
section
variable{w w':World}{χ:Nat->aX}{L:cz}{Y:Var}{C:KC}{K:KS}
theorem ae.GB(h:ae w χ L Y C K)(id:Int):∃w',(Builtin.delete_ #[126,56] 0 #[.map (some L.tm),.int .u64 id]).run prog w=.ok (.tuple #[]) w'/\ae w' χ L Y C {K with ai:=ft K.ai id}/\Nx χ χ w w'/\Ch (aL L.tm) w w':=by
 have a:=h.tm (by simp);obtain⟨w',e,c,b⟩:=fw (P:=prog) (T:=126) (K:=56) (E:=173) (ty:=0) (kT:=56) underlying126 underlying56 a.is id;have s:eQ [.tm] χ χ (aL L.tm) w w':=eQ.one b (fun i d=>by rw[show i=L.tm from d];simp[a.k]) h.small;rw[zK]at c;exact⟨w',e,(h.step s (by simp)).Gv a.nd ⟨c,a.k,(a.nd.del id).1⟩,Nx.of s (by simp),b⟩
theorem Nx.row{χ aY:Nat->aX}(n:Nx χ aY w w'){b:Nat}{t:TypeId}{l:List Value}(h:Row w b t l)(a:χ b=.no):Row w' b t l/\aY b=.no:=⟨h.ch n.ch (by simp[a]),(n.same b h.lt).trans a⟩
def B'(x:iZ)(w:World)(p:Value)(wc:World):Prop:=∃a,p=.pointer (some ⟨a,0,none⟩)/\Row wc a 101 x.cells/\Ch ag w wc/\w.heap.size<=a
theorem sa(i:Nat)(c1:i<K.wk.length)(id:Int)(t:Thread)(Q:aw K.ai id=some t)(hid:t.id=id)(c3:aI id)(c0:K.clock.Ok)(bx:K.blocks.Ok)(hb:K.out.length<=800000)(h:ae w χ L Y C K):
 Calls prog 174 #[(L.mb,0),(L.wb,i*38),(Y.bH id,0)] w (r9 (.tuple #[]) χ L C (mQ C K i id) w):=by
 have d:=h.ea;have a:=h.gv Q;rw[hid]at a;obtain⟨tb,S⟩:=nm (Y.bH id);rw[S]at a⊢;have b:=Z (And.intro Q (And.intro hid S));have H:=Z h;have cl:=Z c1;have D:=Z c3;have ci:=Z c0;have cf:=Z bx;have cd:=Z hb;obtain⟨K1,bw⟩:=mn (({K with table:=(gj K.table id 0).2}:KS));have k:=Z bw;obtain⟨x,c4⟩:=nm ((fy K1.table id).1);have ab:=Z c4;clear h Q hid S c1 c3 c0 bx hb bw c4;go_wp2
 go_still_tail 8,(by kernel_rfl)
 change wpList _ _ _ _ _ w.drew;go_wp2_with fail
 refine(qF id 0 D H.drew).mono ?_;rintro e w1 ⟨⟨v,rfl,_⟩,r,o,G⟩;rw[<-k]at G;have g:Hid (dJ χ L Y C K K1 w r o w1):=Z (((dJ.refl H).af (Ch.refl _ _).drew).trans (Gr.of_eq rfl) G);clear G d a;have P:o.bH id=tb:=((g.yk id t b.1).1).trans b.2.2;have R:aw K1.ai id=some t:=by rw[k];exact b.1
 have a:=g.at_.gv R;rw[P,b.2.1]at a;have eC:Hid (Row w1 tb 176 [.int .u64 id,o.lv id,.int .u64 t.eU]/\r tb=.th id):=Z (by
  have:=g.at_.th id t R (by simp);rw[P]at this;exact⟨b.2.1▸this.is,this.k⟩)
 have d:=g.at_.ea;have A:=Z (fun w h=>kS (K:=K1) (w:=w) (χ:=r) (L:=L) (Y:=o) (C:=C) id D h);obtain⟨c9,U⟩:=nm (fy K1.table id);have ex:c9.1=x:=by rw[<-U];exact ab
 rw[U]at A;obtain⟨l,lb⟩:=c9;obtain rfl:l=x:=ex;unfold iZ.val at A;dsimp only at A;clear U P R;go_wp2
 go_cut [6] (fun p wc=>B' l w1 p wc)
 case first=>
  have eS:L.mb≠w1.heap.size:=Nat.ne_of_lt (aP d);have eW:tb≠w1.heap.size:=Nat.ne_of_lt (aP a);have fb:=World.new_ne w1 ⟨L.mb,1012,none⟩ d;have fd:=World.new_ne w1 ⟨tb,0,none⟩ a;go_region_held3 (fun w'=>w'.cell? (L.mb,1012)=some (.pointer (some (L.tb,0)))/\w'.cell? (tb,0)=some (.int .u64 id)) (go_keep) (first|(go_at_call 138;refine(A _ (g.at_.alloc _).drew).mono ?_;rintro e w2 ⟨rfl,f⟩;have j:Hid (Ch ag w1 w2):=Z (Ch.trans ((Ch.refl _ _).alloc _).drew f);have c:=Z (Row.ch (w:=(w1.alloc (.cells #[.int .u64 0,.int .i64 0,.int .u64 0,.int .u64 0,.int .u64 0,.bool false,.bool false] 101)).drew) (Row.drew (Row.new w1 #[.int .u64 0,.int .i64 0,.int .u64 0,.int .u64 0,.int .u64 0,.bool false,.bool false] 101)) f (fun h=>h));have d1:=j.k d;have d2:=j.k a;have gr:=c.c1;have y0:=c.free 0;have gs:=c.k 1 rfl;have fz:=c.free 1;have gt:=c.k 2 rfl;have gc:=c.free 2;have hd:=c.k 3 rfl;have ge:=c.free 3;have he:=c.k 4 rfl;have gf:=c.free 4;have hf:=c.k 5 rfl;have gk:=c.free 5;have hi:=c.k 6 rfl;have go:=c.free 6;clear f)|(go_at_call 138;refine(A _ g.at_.drew).mono ?_;rintro e w2 ⟨rfl,f⟩;have j:Hid (Ch ag w1 w2):=Z (Ch.trans (Ch.refl _ _).drew f);have d1:=j.k d;have d2:=j.k a;clear f))
  all_goals(go_wp2_with fail;go_meet)
  ·exact⟨w2.heap.size,rfl,Row.new w2 _ _,j.alloc _,j.size⟩
  ·exact⟨w1.heap.size,rfl,((((((c.set 0 _).set 1 _).set 2 _).set 3 _).set 4 _).set 5 _).set 6 _,(((((((j.set (p:=⟨w1.heap.size,0,none⟩) (Or.inr (Nat.le_refl _)) _).set (p:=⟨w1.heap.size,1,none⟩) (Or.inr (Nat.le_refl _)) _).set (p:=⟨w1.heap.size,2,none⟩) (Or.inr (Nat.le_refl _)) _).set (p:=⟨w1.heap.size,3,none⟩) (Or.inr (Nat.le_refl _)) _).set (p:=⟨w1.heap.size,4,none⟩) (Or.inr (Nat.le_refl _)) _).set (p:=⟨w1.heap.size,5,none⟩) (Or.inr (Nat.le_refl _)) _).set (p:=⟨w1.heap.size,6,none⟩) (Or.inr (Nat.le_refl _)) _),Nat.le_refl _⟩
 case rest=>
  obtain⟨E,rfl,c2,f,hle⟩:=hcut;obtain⟨w2,et⟩:=nm wc;subst et;have s:Hid (dJ χ L Y C K K1 w r o wc):=Z (g.af f);have av:Hid (Row wc E 101 l.cells/\r E=.no):=Z ⟨c2,by
   cases en:r E with
   |no=>rfl
   |_=>exact absurd (g.at_.small E (by rw[en];simp)) (by omega)⟩
  have T:K1.ai=K.ai:=by rw[k]
  have n:Hid (aw K1.ai id=some t):=Z (by rw[T];exact b.1);have ck:Hid (K1.clock.Ok):=Z (by rw[k];exact ci);have ch:Hid (K1.blocks.Ok):=Z (by rw[k];exact cf);have ce:Hid (K1.out.length<=800000):=Z (by rw[k];exact cd);have cm:Hid (i<K1.wk.length):=Z (by rw[k];exact cl);have z:Hid (Gr K K1):=Z (Gr.of_eq T);have c5:o.bH id=tb:=((s.yk id t b.1).1).trans b.2.2;clear d a c2 f hle T;have d:=s.at_.ea;have a:=s.at_.gv n;rw[c5,b.2.1]at a;clear c5;go_wp2
  go_still_tail 8,(by kernel_rfl)
  change wpList _ _ _ _ _ wc.drew;go_wp2_with fail
  refine(xh id D s.at_.drew).mono ?_;rintro e w3 ⟨⟨v,rfl,_⟩,hl,cA,I⟩;have u:=Z ((s.af (Ch.refl _ _).drew).trans z I);have ad:=Z (((Nx.af (Ch.refl _ wc).drew).trans I.nx).row av.1 av.2);have c6:cA.bH id=tb:=((u.yk id t b.1).1).trans b.2.2;have cW:=u.at_.vK;clear I d a;have a:=u.at_.gv n;rw[c6,b.2.1]at a;clear c6;go_wp2
  go_still_tail 8,(by kernel_rfl)
  change wpList _ _ _ _ _ w3.drew;go_wp2_with fail
  refine(nO id u.at_.drew).mono ?_;rintro e w4 ⟨rfl,hm,cC,J⟩;have y:=Z ((u.af (Ch.refl _ _).drew).trans z J);have al:=Z (((Nx.af (Ch.refl _ w3).drew).trans J.nx).row ad.1 ad.2);have c7:cC.bH id=tb:=((y.yk id t b.1).1).trans b.2.2;clear J cW a;have dC:=y.at_.j1;have a:=y.at_.gv n;rw[c7,b.2.1]at a;clear c7;go_wp2
  go_still_tail 8,(by kernel_rfl)
  change wpList _ _ _ _ _ w4.drew;go_wp2_with fail
  refine(kU id (by exact ck) y.at_.drew).mono ?_;rintro e cb ⟨rfl,hn,cL,M⟩;have B:=Z ((y.af (Ch.refl _ _).drew).trans z M);have F:=Z (((Nx.af (Ch.refl _ w4).drew).trans M.nx).row al.1 al.2);have c8:cL.bH id=tb:=((B.yk id t b.1).1).trans b.2.2;clear M dC a;have a:=B.at_.gv n;rw[c8,b.2.1]at a;have x3:=F.1.k 3 rfl;clear c8;go_wp2
  go_still_tail 8,(by kernel_rfl)
  change wpList _ _ _ _ _ cb.drew;go_wp2_with fail
  refine(dH 7 0 0 id 0 0 0 0 0 l.value 0 (by exact Nat.le_trans ce (by omega)) B.at_.drew).mono ?_;rintro e fn ⟨rfl,hu,eL,N⟩;have a2:=Z ((B.af (Ch.refl _ _).drew).trans z N);have am:=Z (((Nx.af (Ch.refl _ cb).drew).trans N.nx).row F.1 F.2);clear N a x3;go_wp2_with fail
  refine(iC i (by exact cm) a2.at_).mono ?_;rintro e a0 ⟨rfl,hv,cQ,O⟩;have m:=Z (a2.trans z O);have ap:=Z (O.nx.row am.1 am.2);have W:cQ.bH id=tb:=((m.yk id t b.1).1).trans b.2.2;clear O;have dr:=m.at_.hZ;have a:=m.at_.gv n;rw[W,b.2.1]at a;have V:=(m.at_.th id t n (by simp)).k;rw[W]at V;obtain⟨a1,es,bi,X,ax⟩:=m.at_.drew.GB id;have cq:=Z bi;have cr:=Z (m.nx.trans ((Nx.af (Ch.refl _ a0).drew).trans X));have cs:=Z (((Nx.af (Ch.refl _ a0).drew).trans X).row ap.1 ap.2);have dN:a1.cell? (tb,0)=some (.int .u64 id):=((ax.cell (p:=⟨tb,0,none⟩) (aP a) (fun e=>by
   have:=(m.at_.tm (by simp)).k;rw[<-show tb=L.tm from e,V]at this;cases this))).trans a
  have x2:=cs.1.k 2 rfl;clear bi X ax W V;go_wp2
  go_still_tail 8,(by kernel_rfl)
  change wpList _ _ _ _ _ a0.drew;go_wp2
  clear es dr a;go_still_tail 7,(by kernel_rfl)
  change wpList _ _ _ _ _ a1.drew;go_wp2_with fail
  refine(lP id l.home D (by exact ch) cq.drew).mono ?_;rintro e fr ⟨rfl,eA,cS,bv⟩;have a3:=Z bv;clear bv dN x2;go_wp2
  go_end0
  refine⟨rfl,eA,cS,?_,cr.trans ((Nx.af (Ch.refl _ a1).drew).trans a3.nx)⟩;have ec:mQ C K i id=ek {dA C (tell {K1 with table:=(eM K1.table id).2,q:=(dv K1.q id).2,clock:=(K1.clock.bp id).2} ⟨7,0,0,id,0,0,0,0,0,l.value,0⟩) i with ai:=ft (dA C (tell {K1 with table:=(eM K1.table id).2,q:=(dv K1.q id).2,clock:=(K1.clock.bp id).2} ⟨7,0,0,id,0,0,0,0,0,l.value,0⟩) i).ai id} id l.home:=by
   rw[<-ab];unfold mQ;rw[k]
  rw[ec];exact a3.at_
end
end
section
section
variable{w:World}{χ:Nat->aX}{L:cz}{Y:Var}{C:KC}{K:KS}
theorem xA(c:bN)(b u:Nat)(J:ak K c)(N:aS L Y c b u)(O:∀k,k<32->aI ((K.F c).r k))(a n o q p r:Int)(Q:0<=a/\a<32)(R:K.blocks.Ok)(h:ae w χ L Y C K):
 Calls prog 165 #[(L.mb,0),(b,u),.agg #[.int .i64 44,a,n,o,.int .u64 q,p,r]] w (dj (.tuple #[]) χ L Y C K (bh K c ⟨44,a,n,o,q,p,r⟩) w):=by
 have H:=Z h;have A:=Z J;have B:=Z N;obtain⟨x,t,S,D,i⟩:=h.pre 44 a n o q p r;obtain⟨W,X⟩:=Q;obtain⟨s,F⟩:∃y,(K.F c).r a.toNat=y:=⟨_,rfl⟩;have l:=Z F;have G:=Z (O a.toNat (by omega));rw[F]at G;obtain⟨U,V⟩:=G.out;clear F;obtain⟨t0,t1,t2,t3,t4,t5,t6⟩:=i.1.c7;have g:=D.at_.aC A B a.toNat (by omega);rw[l]at g;clear h J N O;by_cases M:s<65536
 ·have E:Hid (bh K c ⟨44,a,n,o,q,p,r⟩=jc K s):=Z (by unfold bh;dsimp only;rw[if_neg (by decide),if_pos rfl,l,if_pos M])
  go_in
  go_wp2
  try rw[t]
  clear t;go_quiet (fail)
  obtain⟨w1,f⟩:=nm (x.drewN nq);have j:Hid (Ch ag x w1):=Z (by rw[<-f];exact(Ch.refl _ _).drewN nq);rw[f];clear f;have d:=Z (D.af j);have m:Hid (ak K c/\aS L Y c b u):=Z ⟨A,B⟩;have z:=Z ((Nx.af j).row i.1 i.2);clear t0 t1 t2 t3 t4 t5 t6 g;obtain⟨t0,t1,t2,t3,t4,t5,t6⟩:=z.1.c7;have g:=d.at_.aC m.1 m.2 a.toNat (by omega);rw[show((K:KS).F c).r a.toNat=s from l.out]at g;have k1:=d.at_.o4;go_wp2
  go_still_tail 8,(by kernel_rfl)
  change wpList _ _ _ _ _ w1.drew;go_wp2_with fail
  refine(zF s (by exact R) d.at_.drew).mono ?_;rintro e w2 ⟨⟨v,rfl,_⟩,a0,T,I⟩;have P:=Z ((d.af (Ch.refl _ _).drew).trans (Gr.refl _) I);clear I;go_wp2
  go_end0
  rw[E];exact⟨rfl,_,_,P⟩
 ·have E:Hid (bh K c ⟨44,a,n,o,q,p,r⟩=K):=Z (by unfold bh;dsimp only;rw[if_neg (by decide),if_pos rfl,l,if_neg M])
  go_in
  go_wp2
  try rw[t]
  clear t;go_quiet (fail)
  obtain⟨w1,f⟩:=nm (x.drewN nq);have j:Hid (Ch ag x w1):=Z (by rw[<-f];exact(Ch.refl _ _).drewN nq);rw[f];clear f;have d:=Z (D.af j);have m:Hid (ak K c/\aS L Y c b u):=Z ⟨A,B⟩;have z:=Z ((Nx.af j).row i.1 i.2);clear t0 t1 t2 t3 t4 t5 t6 g;obtain⟨t0,t1,t2,t3,t4,t5,t6⟩:=z.1.c7;have g:=d.at_.aC m.1 m.2 a.toNat (by omega);rw[show((K:KS).F c).r a.toNat=s from l.out]at g;go_wp2
  go_end0
  rw[E];exact⟨rfl,_,_,d⟩
theorem xB(c:bN)(b r:Nat)(F:ak K c)(G:aS L Y c b r)(I:∀k,k<32->aI ((K.F c).r k))(a g i l j m:Int)(P:0<=a/\a<32)(h:ae w χ L Y C K):
 Calls prog 165 #[(L.mb,0),(b,r),.agg #[.int .i64 46,a,g,i,.int .u64 l,j,m]] w (dj (.tuple #[]) χ L Y C K (bh K c ⟨46,a,g,i,l,j,m⟩) w):=by
 have H:=Z h;have t:=Z F;have x:=Z G;obtain⟨M,J,Q,A,n⟩:=h.pre 46 a g i l j m;obtain⟨U,V⟩:=P;obtain⟨s,q⟩:∃y,(K.F c).r a.toNat=y:=⟨_,rfl⟩;have o:=Z q;have z:=Z (I a.toNat (by omega));rw[q]at z;obtain⟨S,T⟩:=z.out;clear q;obtain⟨t0,t1,t2,t3,t4,t5,t6⟩:=n.1.c7;have f:=A.at_.aC t x a.toNat (by omega);rw[o]at f;clear h F G I;have E:Hid (bh K c ⟨46,a,g,i,l,j,m⟩={K with c':=(iM K.c' s).2}):=Z (by unfold bh;dsimp only;rw[if_neg (by decide),if_neg (by decide),if_neg (by decide),if_pos rfl,o]);go_in
 go_wp2
 try rw[J]
 clear J;go_quiet (fail)
 obtain⟨w1,p⟩:=nm (M.drewN nq);have u:Hid (Ch ag M w1):=Z (by rw[<-p];exact(Ch.refl _ _).drewN nq);rw[p];clear p;have d:=Z (A.af u);have B:Hid (ak K c/\aS L Y c b r):=Z ⟨t,x⟩;have N:=Z ((Nx.af u).row n.1 n.2);clear t0 t1 t2 t3 t4 t5 t6 f;obtain⟨t0,t1,t2,t3,t4,t5,t6⟩:=N.1.c7;have f:=d.at_.aC B.1 B.2 a.toNat (by omega);rw[show((K:KS).F c).r a.toNat=s from o.out]at f;have k1:=d.at_.iP;go_wp2
 go_still_tail 7,(by kernel_rfl)
 change wpList _ _ _ _ _ w1.drew;go_wp2_with fail
 refine(Fp s d.at_.drew).mono ?_;rintro e w2 ⟨⟨v,rfl,_⟩,W,R,D⟩;have O:=Z ((d.af (Ch.refl _ _).drew).trans (Gr.refl _) D);clear D;go_wp2
 go_end0
 rw[E];exact⟨rfl,_,_,O⟩
theorem xC(c:bN)(b q:Nat)(av:ak K c)(ax:aS L Y c b q)(a0:∀k,k<32->aI ((K.F c).r k))(a d J l M N:Int)(bv:0<=a/\a<32)(hb:0<=d/\d<32)(a1:aI l)(h:ae w χ L Y C K):
 Calls prog 165 #[(L.mb,0),(b,q),.agg #[.int .i64 45,a,d,J,.int .u64 l,M,N]] w (dj (.tuple #[]) χ L Y C K (bh K c ⟨45,a,d,J,l,M,N⟩) w):=by
 have H:=Z h;have B:=Z av;have D:=Z ax;obtain⟨I,G,bx,P,z⟩:=h.pre 45 a d J l M N;obtain⟨c8,c9⟩:=bv;obtain⟨ab,a2⟩:∃y,(K.F c).r a.toNat=y:=⟨_,rfl⟩;have U:=Z a2;have al:=Z (a0 a.toNat (by omega));rw[a2]at al;obtain⟨c2,c3⟩:=al.out;clear a2;obtain⟨cb,cd⟩:=hb;obtain⟨t,a3⟩:∃y,(K.F c).r d.toNat=y:=⟨_,rfl⟩;have x:=Z a3;have am:=Z (a0 d.toNat (by omega));rw[a3]at am;obtain⟨c4,c5⟩:=am.out;clear a3;obtain⟨t0,t1,t2,t3,t4,t5,t6⟩:=z.1.c7;have n:=P.at_.aC B D a.toNat (by omega);rw[U]at n;have j:=P.at_.aC B D d.toNat (by omega);rw[x]at j;obtain⟨c6,c7⟩:=a1;clear h av ax a0;by_cases W:l<=6
 ·obtain⟨p,X⟩:=nm (fN K.c' l t)
  have ad:=Z X;have V:=Z (fun w h=>Fo (K:=K) (w:=w) (χ:=χ) (L:=L) (Y:=Y) (C:=C) l t h);rw[X]at V;clear X;obtain⟨r,l'⟩:=p;have c0:IntKind.i64.wrap l=l:=IntWalk.i64_in _ (by omega);have c1:wrap64 l=l:=by unfold wrap64;omega
  cases r with
  |none=>
   have E:Hid (bh K c ⟨45,a,d,J,l,M,N⟩={K with c':=l'}.az c a.toNat 0):=Z (by unfold bh;dsimp only;rw[if_neg (by decide),if_neg (by decide),if_pos rfl,if_pos W,x,ad];first|rfl|rw[rfl]);have O:Hid (Gr K {K with c':=l'}):=Z (Gr.of_eq rfl);go_in
   go_wp2
   try rw[G]
   clear G;go_quiet (fail)
   obtain⟨w1,o⟩:=nm (I.drewN nq);have u:Hid (Ch ag I w1):=Z (by rw[<-o];exact(Ch.refl _ _).drewN nq);rw[o];clear o;have g:=Z (P.af u);have f:Hid (ak K c/\aS L Y c b q):=Z ⟨B,D⟩;have s:=Z ((Nx.af u).row z.1 z.2);clear t0 t1 t2 t3 t4 t5 t6 n j;obtain⟨t0,t1,t2,t3,t4,t5,t6⟩:=s.1.c7;have n:=g.at_.aC f.1 f.2 a.toNat (by omega);rw[show((K:KS).F c).r a.toNat=ab from U.out]at n;have j:=g.at_.aC f.1 f.2 d.toNat (by omega);rw[show((K:KS).F c).r d.toNat=t from x.out]at j;have k1:=g.at_.iP;go_wp2
   go_region_held3 (fun w'=>w'.cell? (L.mb,1013)=some (.pointer (some (L.ob,0)))/\w'.cell? ⟨w.heap.size,2,none⟩=some (.int .i64 d)/\w'.cell? ⟨w.heap.size,4,none⟩=some (.int .u64 l)/\w'.cell? (b,q+1+d.toNat)=some (.int .u64 t)) (go_keep) ((go_at_call 192;refine(V _ g.at_.drew).mono ?_;rintro e w2 ⟨⟨v,rfl,a1⟩,bw,bi,F⟩;obtain⟨tt,ce,rfl⟩:=a1;have m:=Z ((g.af (Ch.refl _ _).drew).trans (Gr.refl _) F);have A:=Z (((Nx.af (Ch.refl _ w1).drew).trans F.nx).row s.1 s.2);have i:=Z (m.cur B D (Gr.of_eq rfl) rfl);clear F t0 t1 t2 t3 t4 t5 t6 n j k1;have k1:=m.at_.iP;have t1:=A.1.k 1 rfl;have t2:=A.1.k 2 rfl;have t4:=A.1.k 4 rfl;have n:=m.at_.aC i.1 i.2 a.toNat (by omega);have j:=m.at_.aC i.1 i.2 d.toNat (by omega);rw[show(({K with c':=l'}:KS).F c).r d.toNat=t from x.out]at j;have ap:=m.at_.hg i.1 i.2 (q+1+a.toNat);have R:=Z (m.at_.a9 i.1 i.2 a.toNat (by omega) 0)))
   all_goals
    go_wp2
    go_end0
    rw[E];obtain⟨T,Q,S⟩:=R.out;exact⟨rfl,T,Q,m.trans O S⟩
  |some r=>
   have E:Hid (bh K c ⟨45,a,d,J,l,M,N⟩={K with c':=l'}.az c a.toNat r):=Z (by unfold bh;dsimp only;rw[if_neg (by decide),if_neg (by decide),if_pos rfl,if_pos W,x,ad];first|rfl|rw[rfl]);have O:Hid (Gr K {K with c':=l'}):=Z (Gr.of_eq rfl);go_in
   go_wp2
   try rw[G]
   clear G;go_quiet (fail)
   obtain⟨w1,o⟩:=nm (I.drewN nq);have u:Hid (Ch ag I w1):=Z (by rw[<-o];exact(Ch.refl _ _).drewN nq);rw[o];clear o;have g:=Z (P.af u);have f:Hid (ak K c/\aS L Y c b q):=Z ⟨B,D⟩;have s:=Z ((Nx.af u).row z.1 z.2);clear t0 t1 t2 t3 t4 t5 t6 n j;obtain⟨t0,t1,t2,t3,t4,t5,t6⟩:=s.1.c7;have n:=g.at_.aC f.1 f.2 a.toNat (by omega);rw[show((K:KS).F c).r a.toNat=ab from U.out]at n;have j:=g.at_.aC f.1 f.2 d.toNat (by omega);rw[show((K:KS).F c).r d.toNat=t from x.out]at j;have k1:=g.at_.iP;go_wp2
   go_region_held3 (fun w'=>w'.cell? (L.mb,1013)=some (.pointer (some (L.ob,0)))/\w'.cell? ⟨w.heap.size,2,none⟩=some (.int .i64 d)/\w'.cell? ⟨w.heap.size,4,none⟩=some (.int .u64 l)/\w'.cell? (b,q+1+d.toNat)=some (.int .u64 t)) (go_keep) ((go_at_call 192;refine(V _ g.at_.drew).mono ?_;rintro e w2 ⟨rfl,bw,bi,F⟩;have m:=Z ((g.af (Ch.refl _ _).drew).trans (Gr.refl _) F);have A:=Z (((Nx.af (Ch.refl _ w1).drew).trans F.nx).row s.1 s.2);have i:=Z (m.cur B D (Gr.of_eq rfl) rfl);clear F t0 t1 t2 t3 t4 t5 t6 n j k1;have k1:=m.at_.iP;have t1:=A.1.k 1 rfl;have t2:=A.1.k 2 rfl;have t4:=A.1.k 4 rfl;have n:=m.at_.aC i.1 i.2 a.toNat (by omega);have j:=m.at_.aC i.1 i.2 d.toNat (by omega);rw[show(({K with c':=l'}:KS).F c).r d.toNat=t from x.out]at j;have ap:=m.at_.hg i.1 i.2 (q+1+a.toNat);have R:=Z (m.at_.a9 i.1 i.2 a.toNat (by omega) r)))
   all_goals
    go_wp2
    go_end0
    rw[E];obtain⟨T,Q,S⟩:=R.out;exact⟨rfl,T,Q,m.trans O S⟩
 ·have E:Hid (bh K c ⟨45,a,d,J,l,M,N⟩=K.az c a.toNat 0):=Z (by unfold bh;dsimp only;rw[if_neg (by decide),if_neg (by decide),if_pos rfl,if_neg W])
  have O:Hid (Gr K K):=Z (Gr.refl _);go_in
  go_wp2
  try rw[G]
  clear G;go_quiet (fail)
  obtain⟨w1,o⟩:=nm (I.drewN nq);have u:Hid (Ch ag I w1):=Z (by rw[<-o];exact(Ch.refl _ _).drewN nq);rw[o];clear o;have g:=Z (P.af u);have f:Hid (ak K c/\aS L Y c b q):=Z ⟨B,D⟩;have s:=Z ((Nx.af u).row z.1 z.2);clear t0 t1 t2 t3 t4 t5 t6 n j;obtain⟨t0,t1,t2,t3,t4,t5,t6⟩:=s.1.c7;have n:=g.at_.aC f.1 f.2 a.toNat (by omega);rw[show((K:KS).F c).r a.toNat=ab from U.out]at n;have j:=g.at_.aC f.1 f.2 d.toNat (by omega);rw[show((K:KS).F c).r d.toNat=t from x.out]at j;have ap:=g.at_.hg f.1 f.2 (q+1+a.toNat);have R:=Z (g.at_.a9 f.1 f.2 a.toNat (by omega) 0);go_wp2
  go_end0
  rw[E];obtain⟨T,Q,S⟩:=R.out;exact⟨rfl,T,Q,g.trans O S⟩
end
end
section
def o6(C:KC)(K:KS)(id op kind a b v:Int):KS:={K with mem:=(bE C K id op (K.mem,K.out) kind a b v).2.1,out:=(bE C K id op (K.mem,K.out) kind a b v).2.2}
def iF(x:Option Int)(χ:Nat->aX)(L:cz)(Y:Var)(C:KC)(K K':KS)(w:World)(e:Ending)(w':World):Prop:=
 (match x with
  |some v=>e=.returned (.tuple #[.int .u64 v,.nilIface])
  |none=>∃n v,e=.returned (.tuple #[.int .u64 n,v])/\ar v)/\(∃aY Y',dJ χ L Y C K K' w aY Y' w')/\Ch (fun i=>χ i=.mem∨χ i=.gL∨χ i=.out) w w'
section
variable{w w':World}{χ:Nat->aX}{L:cz}{Y:Var}{C:KC}{K:KS}
theorem Ai(h:Ch (fun i=>χ i=.mem) w w'):Ch (fun i=>χ i=.mem∨χ i=.gL∨χ i=.out) w w':=h.mono fun _ h=>Or.inl h
theorem FO(h:Ch (fun i=>χ i=.gL∨χ i=.out) w w'):Ch (fun i=>χ i=.mem∨χ i=.gL∨χ i=.out) w w':=h.mono fun _ h=>Or.inr h
theorem Aj{P:aX->Prop}{χ a:Nat->aX}{w w1 w2:World}(h:Ch (fun i=>P (χ i)) w w1)(d:∀i,i<w.heap.size->a i=χ i)(k:Ch (fun i=>P (a i)) w1 w2):Ch (fun i=>P (χ i)) w w2:=
 h.join k fun i b c=>by rw[<-d i b];exact c
theorem la{p1 p2 p3:Value}(k:Int)(F:Value)(J:Nat)(I:Int->Array Value)(hF:(F=.func (.func 30) #[.pointer (some ⟨L.m,0,none⟩)] #[]/\J=30/\I=fun c=>#[.pointer (some ⟨L.m,0,none⟩),.int .u64 c])∨(F=.func (.func 249) #[] #[p1,p2]/\J=249/\I=fun c=>#[.int .u64 c,p1,p2])∨(F=.func (.func 247) #[] #[p1,p2]/\J=247/\I=fun c=>#[.int .u64 c,p1,p2])∨(F=.func (.func 248) #[] #[p1,p2,p3]/\J=248/\I=fun c=>#[.int .u64 c,p1,p2,p3]))(V:0<=C.wide/\C.wide<=256/\0<=C.narrow/\C.narrow<=256)(Q:K.out.length<=900000)(id op a g v:Int)(cC:aI a)
 (r:∀c w1,aI c->Ch ag w w1->Calls prog J (I c) w1 (mw (K.mem.acc k c g v).1 χ L Y C K {K with mem:=(K.mem.acc k c g v).2} w1)) (h:ae w χ L Y C K):
 Calls prog 246 #[.agg #[.pointer (some ⟨L.mb,0,none⟩),.int .u64 id,op],.int .u64 a,F] w (iF (bE C K id op (K.mem,K.out) k a g v).1 χ L Y C K (o6 C K id op k a g v) w):=by
 obtain⟨cb,n⟩:=nm (w.alloc (.cells #[.pointer (some ⟨L.mb,0,none⟩),.int .u64 id,op] 294));have o:=Z (Ch.al (D:=ag) n);have j:=Z (h.hC o);have ad:=Z (Row.al n);obtain⟨t,c0,c1⟩:=ad.c3;have c7:0<=C.cells/\C.cells<=512:=by unfold KC.cells;omega
 have bx:=(h.wk (by simp)).n;have c6:0<=eV K/\eV K<=600:=by unfold eV;omega
 have T:=Z (fun w (h:ae w χ L Y C K)=>nR h V);have am:=Z (fun w (h:ae w χ L Y C K)=>jN h);obtain⟨H,N⟩:=nm C.cells;obtain⟨l,M⟩:=nm (eV K);rw[N]at T c7;rw[M]at am c6;obtain⟨eW,fb⟩:=c7;obtain⟨eL,eS⟩:=c6;have a3:IntKind.u64.wrap H=H:=by unfold IntKind.wrap IntKind.bits IntKind.signed;simp;omega
 have a2:IntKind.u64.wrap l=l:=by unfold IntKind.wrap IntKind.bits IntKind.signed;simp;omega
 obtain⟨eA,eC⟩:=cC;have es:=Z Q;rcases hF with⟨rfl,rfl,rfl⟩|⟨rfl,rfl,rfl⟩|⟨rfl,rfl,rfl⟩|⟨rfl,rfl,rfl⟩
 all_goals
  dsimp only at r;have en:=Z r;have A:=Z (And.intro N M);have B:=Z (And.intro a3 a2);have cf:Hid (χ w.heap.size=.no):=Z (Classical.not_not.1 fun e=>absurd (h.small _ e) (by omega));by_cases c8:H<=a
  ·have E:Hid (bE C K id op (K.mem,K.out) k a g v=(none,K.mem,K.out)):=Z (by unfold bE;rw[A.1,B.1,if_pos c8])
   have x:Hid (o6 C K id op k a g v=K):=Z (by unfold o6;rw[E]);clear h V Q r bx N M a3 a2;go_in
   go_wp2_with fail
   try rw[n]
   clear n;with_reducible refine(T.out _ j.out.at_).mono ?_
   rintro e w1 ⟨rfl,s,rfl⟩;go_wp2_with fail
   with_reducible refine(fg _ _ _ _).mono ?_
   rintro e w2 ⟨rfl,m⟩;have b:=Z (Ch.al (D:=ag) m);clear m;go_wp2
   go_ret2;rw[E,x];exact⟨⟨_,_,rfl,ar.mk _ _⟩,⟨_,_,(j.af ((Ch.refl _ _).drewN s)).af b⟩,((o.trans ((Ch.refl _ _).drewN s)).trans b).af⟩
  ·have fd:a<H:=by omega
   have a1:IntKind.u64.wrap (l+a)=l+a:=(by unfold IntKind.wrap IntKind.bits IntKind.signed;simp;omega);have O:aI (l+a):=⟨by omega,by omega⟩;have ch:=Z (fun(w:World) (χ:Nat->aX) (Y:Var) (K:KS) (h:ae w χ L Y C K)=>nS (l+a) O h);have et:=Z O;have W:¬H<=a:=c8;obtain⟨q,X⟩:=nm (K.mem.acc k (l+a) g v);obtain⟨dC,G⟩:=q;have c5:=Z X;have bi:=(fun w1 (cQ:Ch ag w w1)=>r (l+a) w1 O cQ);rw[X]at bi;have c3:=Z bi;clear bi;cases dC with
   |none=>
    have E:Hid (bE C K id op (K.mem,K.out) k a g v=(none,G,K.out)):=Z (by unfold bE;rw[A.1,B.1,if_neg W,A.2,B.2,a1];dsimp only;rw[c5]);have x:Hid (o6 C K id op k a g v={K with mem:=G}):=Z (by unfold o6;rw[E]);clear h V Q r bx N M a3 a2 a1 O X W;go_in
    go_wp2_with fail
    try rw[n]
    clear n;with_reducible refine(T.out _ j.out.at_).mono ?_
    rintro e w1 ⟨rfl,s,rfl⟩;obtain⟨w2,m⟩:=nm (cb.drewN s);have b:=Z (Ch.dN (D:=ag) m);rw[m];clear m t c0 c1;have ap:=Z (j.af b);have z:=Z (ad.ch b (fun h=>h));have t:=z.c1;go_wp2_with fail
    with_reducible refine(am.out _ ap.out.at_).mono ?_
    rintro e w3 ⟨rfl,rfl⟩;go_wp2_with fail
    with_reducible refine(c3.out _ (o.out.trans b.out)).mono ?_
    rintro e w4 ⟨⟨⟨u,rfl,cL⟩,ab,cm,p⟩,f⟩;obtain⟨tt,gc,rfl⟩:=cL;have d:=Z (And.intro p f);clear p f;go_wp2
    go_ret2;rw[E,x];exact⟨⟨_,_,rfl,ar.mk _ _⟩,⟨_,_,d.1.at_,(j.nx.trans (Nx.af b)).trans d.1.nx,d.1.yk⟩,(o.trans b).af.trans (Ai d.2)⟩
   |some held=>
    obtain⟨dr,c9⟩:=nm (G.acc 0 (l+a) 0 0);obtain⟨k1,U⟩:=dr;have c4:=Z c9;obtain⟨a0,bv⟩:=nm (k1.getD 0);have E:Hid (bE C K id op (K.mem,K.out) k a g v=(some held,U,K.out++[⟨3,K.at_,K.w,id,op,held,a0,0,0,a,0⟩])):=Z (by unfold bE;rw[A.1,B.1,if_neg W,A.2,B.2,a1];dsimp only;rw[c5];dsimp only;rw[c4];dsimp only;rw[bv]);have x:Hid (o6 C K id op k a g v=tell {K with mem:=U} ⟨3,0,0,id,op,held,a0,0,0,a,0⟩):=Z (by unfold o6;rw[E];rfl);have ck:Hid (hA ({K with mem:=G}:KS) (l+a)=(a0,{K with mem:=U})):=Z (by unfold hA;dsimp only;rw[c4,<-bv]);have cl:=Z (fun(w:World) (χ:Nat->aX) (Y:Var) (h:ae w χ L Y C ({K with mem:=U}:KS))=>nT 3 0 0 id op held a0 0 0 a 0 (by exact Q) h);have bw:=(fun(w:World) (χ:Nat->aX) (Y:Var) (h:ae w χ L Y C ({K with mem:=G}:KS))=>ch w χ Y _ h);rw[ck]at bw;have ci:=Z bw;clear bw;clear h V Q r bx N M a3 a2 a1 O X W c9 bv;go_in
    go_wp2_with fail
    try rw[n]
    clear n;with_reducible refine(T.out _ j.out.at_).mono ?_
    rintro e w1 ⟨rfl,s,rfl⟩;obtain⟨w2,m⟩:=nm (cb.drewN s);have b:=Z (Ch.dN (D:=ag) m);rw[m];clear m t c0 c1;have ap:=Z (j.af b);have z:Hid (Row w2 w.heap.size 294 [.pointer (some ⟨L.mb,0,none⟩),.int .u64 id,op]/\χ w.heap.size=.no):=Z ⟨ad.ch b (fun h=>h),cf⟩;have t:=z.1.c1;go_wp2_with fail
    with_reducible refine(am.out _ ap.out.at_).mono ?_
    rintro e w3 ⟨rfl,rfl⟩;go_wp2_with fail
    with_reducible refine(c3.out _ (o.out.trans b.out)).mono ?_
    rintro e w4 ⟨⟨rfl,ab,cm,p⟩,f⟩;have d:=Z (And.intro p f);have S:=Z (p.nx.row z.1 z.2);clear p f t;obtain⟨t,c0,c1⟩:=S.1.c3;go_wp2
    go_region_held3 (S.1.c3) (go_keep) (first|(go_at_call 81;refine(ci _ _ _ d.1.at_.drew).mono ?_;rintro e cd ⟨⟨rfl,c2,ex,av⟩,f⟩;have y:=Z (And.intro av f);have al:=Z (((Nx.af (Ch.refl _ w4).drew).trans av.nx).row S.1 S.2);clear av f;obtain⟨fn,fr,fz⟩:=al.1.c3)|(go_at_call 106;refine(cl _ _ _ y.1.at_).mono ?_;rintro e dN ⟨⟨rfl,ec,cq,ax⟩,f⟩;have R:=Z (And.intro ax f);have ce:=Z (ax.nx.row al.1 al.2);clear ax f;obtain⟨y0,ge,gf⟩:=ce.1.c3))
    all_goals
     go_wp2
     go_ret2;rw[E,x];refine⟨rfl,⟨ec,cq,R.1.at_,?_,?_⟩,?_⟩
     ·exact(((j.nx.trans (Nx.af b)).trans d.1.nx).trans ((Nx.af (Ch.refl _ w4).drew).trans y.1.nx)).trans R.1.nx
     ·exact(d.1.yk.trans (Gr.of_eq rfl) y.1.yk).trans (Gr.of_eq rfl) R.1.yk
     ·have cr:Ch (fun i=>χ i=.mem∨χ i=.gL∨χ i=.out) w w4:=(o.trans b).af.trans (Ai d.2)
      have cs:Ch (fun i=>ab i=.mem∨ab i=.gL∨ab i=.out) w4 cd:=(Ai ((Ch.refl _ w4).drew.trans y.2));have cA:Ch (fun i=>c2 i=.mem∨c2 i=.gL∨c2 i=.out) cd dN:=FO R.2;have cS:=((j.nx.trans (Nx.af b)).trans d.1.nx).same;have cW:=(((j.nx.trans (Nx.af b)).trans d.1.nx).trans ((Nx.af (Ch.refl _ w4).drew).trans y.1.nx)).same;exact Aj (P:=fun c=>c=.mem∨c=.gL∨c=.out) (Aj (P:=fun c=>c=.mem∨c=.gL∨c=.out) cr cS cs) cW cA
theorem Cq(id op a E v:Int)(x:aI a)(A:aI v)(g j:Nat)(m:Row w g 294 [(L.mb,0),.int .u64 id,op])(n:Row w j 56 [.int .u64 v])(y:χ g=.no/\χ j=.no)(h:ae w χ L Y C K):
 Calls prog 249 #[.int .u64 a,(g,0),(j,0)] w (mw (K.mem.acc 2 a 0 v).1 χ L Y C K {K with mem:=(K.mem.acc 2 a 0 v).2} w):=by
 have F:=m.c1;have G:=n.c1;have D:=h.cP;have k:=Z (D2 a v x A h.drew);have d:=Z (And.intro m (And.intro y n));obtain⟨q,p⟩:=nm (K.mem.acc 2 a 0 v);rw[p]at k⊢;obtain⟨r,B⟩:=q;clear h m n p;cases r with
 |none=>
  go_wp2
  go_region_held3 (fun w'=>w'.cell? (g,0)=some (.pointer (some (L.mb,0)))/\w'.cell? (L.mb,1007)=some (.pointer (some (L.m,0)))/\w'.cell? (j,0)=some (.int .u64 v)) (go_keep) ((go_at_call 230;refine k.mono ?_;rintro e w4 ⟨⟨⟨u,rfl,z⟩,o,l,b⟩,f⟩;obtain⟨tt,H,rfl⟩:=z;have c:=Z (And.intro b f);have s:=(b.nx.row (w:=w.drew) (d.1.drew) d.2.1.1).1.cell (i:=0) rfl;have t:=b.at_.cP;have d0:=(b.nx.row (w:=w.drew) (d.2.2.drew) d.2.1.2).1.cell (i:=0) rfl;clear b f))
  all_goals
   go_wp2
   go_ret2;exact⟨⟨⟨_,rfl,ar.mk _ _⟩,o,l,c.1.at_,(Nx.af (Ch.refl _ w).drew).trans c.1.nx,c.1.yk⟩,(Ch.refl _ w).drew.trans c.2⟩
 |some r=>
  go_wp2
  go_region_held3 (fun w'=>w'.cell? (g,0)=some (.pointer (some (L.mb,0)))/\w'.cell? (L.mb,1007)=some (.pointer (some (L.m,0)))/\w'.cell? (j,0)=some (.int .u64 v)) (go_keep) ((go_at_call 230;refine k.mono ?_;rintro e w4 ⟨⟨rfl,o,l,b⟩,f⟩;have c:=Z (And.intro b f);have s:=(b.nx.row (w:=w.drew) (d.1.drew) d.2.1.1).1.cell (i:=0) rfl;have t:=b.at_.cP;have d0:=(b.nx.row (w:=w.drew) (d.2.2.drew) d.2.1.2).1.cell (i:=0) rfl;clear b f))
  all_goals
   go_wp2
   go_ret2;exact⟨⟨rfl,o,l,c.1.at_,(Nx.af (Ch.refl _ w).drew).trans c.1.nx,c.1.yk⟩,(Ch.refl _ w).drew.trans c.2⟩
theorem Ei(id op a E v:Int)(x:aI a)(A:aI v)(g j:Nat)(m:Row w g 294 [(L.mb,0),.int .u64 id,op])(n:Row w j 56 [.int .u64 v])(y:χ g=.no/\χ j=.no)(h:ae w χ L Y C K):
 Calls prog 247 #[.int .u64 a,(g,0),(j,0)] w (mw (K.mem.acc 3 a 0 v).1 χ L Y C K {K with mem:=(K.mem.acc 3 a 0 v).2} w):=by
 have F:=m.c1;have G:=n.c1;have D:=h.cP;have k:=Z (Dj a v x A h.drew);have d:=Z (And.intro m (And.intro y n));obtain⟨q,p⟩:=nm (K.mem.acc 3 a 0 v);rw[p]at k⊢;obtain⟨r,B⟩:=q;clear h m n p;cases r with
 |none=>
  go_wp2
  go_region_held3 (fun w'=>w'.cell? (g,0)=some (.pointer (some (L.mb,0)))/\w'.cell? (L.mb,1007)=some (.pointer (some (L.m,0)))/\w'.cell? (j,0)=some (.int .u64 v)) (go_keep) ((go_at_call 140;refine k.mono ?_;rintro e w4 ⟨⟨⟨u,rfl,z⟩,o,l,b⟩,f⟩;obtain⟨tt,H,rfl⟩:=z;have c:=Z (And.intro b f);have s:=(b.nx.row (w:=w.drew) (d.1.drew) d.2.1.1).1.cell (i:=0) rfl;have t:=b.at_.cP;have d0:=(b.nx.row (w:=w.drew) (d.2.2.drew) d.2.1.2).1.cell (i:=0) rfl;clear b f))
  all_goals
   go_wp2
   go_ret2;exact⟨⟨⟨_,rfl,ar.mk _ _⟩,o,l,c.1.at_,(Nx.af (Ch.refl _ w).drew).trans c.1.nx,c.1.yk⟩,(Ch.refl _ w).drew.trans c.2⟩
 |some r=>
  go_wp2
  go_region_held3 (fun w'=>w'.cell? (g,0)=some (.pointer (some (L.mb,0)))/\w'.cell? (L.mb,1007)=some (.pointer (some (L.m,0)))/\w'.cell? (j,0)=some (.int .u64 v)) (go_keep) ((go_at_call 140;refine k.mono ?_;rintro e w4 ⟨⟨rfl,o,l,b⟩,f⟩;have c:=Z (And.intro b f);have s:=(b.nx.row (w:=w.drew) (d.1.drew) d.2.1.1).1.cell (i:=0) rfl;have t:=b.at_.cP;have d0:=(b.nx.row (w:=w.drew) (d.2.2.drew) d.2.1.2).1.cell (i:=0) rfl;clear b f))
  all_goals
   go_wp2
   go_ret2;exact⟨⟨rfl,o,l,c.1.at_,(Nx.af (Ch.refl _ w).drew).trans c.1.nx,c.1.yk⟩,(Ch.refl _ w).drew.trans c.2⟩
theorem Ej(id op a f v:Int)(A:aI a)(E:aI v)(k j l:Nat)(p:Row w k 294 [(L.mb,0),.int .u64 id,op])(o:Row w j 56 [.int .u64 f])(r:Row w l 56 [.int .u64 v])(B:χ k=.no/\χ j=.no/\χ l=.no)(h:ae w χ L Y C K):
 Calls prog 248 #[.int .u64 a,(k,0),(j,0),(l,0)] w (mw (K.mem.acc 4 a f v).1 χ L Y C K {K with mem:=(K.mem.acc 4 a f v).2} w):=by
 have H:=p.c1;have I:=o.c1;have J:=r.c1;have G:=h.cP;have m:=Z (Dk a f v A E h.drew);have c:=Z (And.intro p (And.intro B (And.intro o r)));obtain⟨q,t⟩:=nm (K.mem.acc 4 a f v);rw[t]at m⊢;obtain⟨x,F⟩:=q;clear h p o r t;cases x with
 |none=>
  go_wp2
  go_region_held3 (fun w'=>w'.cell? (k,0)=some (.pointer (some (L.mb,0)))/\w'.cell? (L.mb,1007)=some (.pointer (some (L.m,0)))/\w'.cell? (j,0)=some (.int .u64 f)/\w'.cell? (l,0)=some (.int .u64 v)) (go_keep) ((go_at_call 189;refine m.mono ?_;rintro e w4 ⟨⟨⟨u,rfl,D⟩,s,n,b⟩,g⟩;obtain⟨tt,M,rfl⟩:=D;have d:=Z (And.intro b g);have y:=(b.nx.row (w:=w.drew) (c.1.drew) c.2.1.1).1.cell (i:=0) rfl;have z:=b.at_.cP;have d0:=(b.nx.row (w:=w.drew) (c.2.2.1.drew) c.2.1.2.1).1.cell (i:=0) rfl;have d1:=(b.nx.row (w:=w.drew) (c.2.2.2.drew) c.2.1.2.2).1.cell (i:=0) rfl;clear b g))
  all_goals
   go_wp2
   go_ret2;exact⟨⟨⟨_,rfl,ar.mk _ _⟩,s,n,d.1.at_,(Nx.af (Ch.refl _ w).drew).trans d.1.nx,d.1.yk⟩,(Ch.refl _ w).drew.trans d.2⟩
 |some x=>
  go_wp2
  go_region_held3 (fun w'=>w'.cell? (k,0)=some (.pointer (some (L.mb,0)))/\w'.cell? (L.mb,1007)=some (.pointer (some (L.m,0)))/\w'.cell? (j,0)=some (.int .u64 f)/\w'.cell? (l,0)=some (.int .u64 v)) (go_keep) ((go_at_call 189;refine m.mono ?_;rintro e w4 ⟨⟨rfl,s,n,b⟩,g⟩;have d:=Z (And.intro b g);have y:=(b.nx.row (w:=w.drew) (c.1.drew) c.2.1.1).1.cell (i:=0) rfl;have z:=b.at_.cP;have d0:=(b.nx.row (w:=w.drew) (c.2.2.1.drew) c.2.1.2.1).1.cell (i:=0) rfl;have d1:=(b.nx.row (w:=w.drew) (c.2.2.2.drew) c.2.1.2.2).1.cell (i:=0) rfl;clear b g))
  all_goals
   go_wp2
   go_ret2;exact⟨⟨rfl,s,n,d.1.at_,(Nx.af (Ch.refl _ w).drew).trans d.1.nx,d.1.yk⟩,(Ch.refl _ w).drew.trans d.2⟩
theorem iF.of{x:Option Int}{K':KS}{e:Ending}{b w':World}(h:iF x χ L Y C K K' b e w')(c:Ch ag w b):iF x χ L Y C K K' w e w':=by
 obtain⟨d,⟨aY,Y',a⟩,f⟩:=h;exact⟨d,⟨aY,Y',a.at_,(Nx.af c).trans a.nx,a.yk⟩,c.af.trans f⟩
theorem uF(v:0<=C.wide/\C.wide<=256/\0<=C.narrow/\C.narrow<=256)(x:K.out.length<=900000)(id op a:Int)(t:aI a)(h:ae w χ L Y C K):
 Calls prog 243 #[.agg #[(L.mb,0),.int .u64 id,op],.int .u64 a] w (iF (bE C K id op (K.mem,K.out) 0 a 0 0).1 χ L Y C K (o6 C K id op 0 a 0 0) w):=by
 obtain⟨z,d⟩:=nm ((w.alloc (.cells #[(L.mb,0),.int .u64 id,op] 294)));have l:=Z (Ch.al (D:=ag) d);have m:=Z (h.hC l);have j:=Z (Row.al d);obtain⟨N,O,P⟩:=j.c3;have J:=m.at_.cP;have s:Hid (χ w.heap.size=.no):=Z (Classical.not_not.1 fun e=>absurd (h.small _ e) (by omega));have i:=Z (la (p1:=.nilIface) (p2:=.nilIface) (p3:=.nilIface) 0 _ _ _ (Or.inl ⟨rfl,rfl,rfl⟩) v x id op a 0 0 t (fun c w1 r H=>ud c r (m.at_.drew.af H)) m.at_.drew);obtain⟨q,p⟩:=nm (bE C K id op (K.mem,K.out) 0 a 0 0);obtain⟨K',o⟩:∃K',o6 C K id op 0 a 0 0=K':=⟨_,rfl⟩;rw[p,o]at i;rw[p,o];obtain⟨y,M⟩:=q;dsimp only at i;clear p o;clear h v x t;cases y with
 |none=>
  go_in
  go_wp2
  try rw[d]
  try clear d
  go_region_held3 (fun w'=>w'.cell? (w.heap.size,0)=some (.pointer (some (L.mb,0)))/\w'.cell? (w.heap.size,1)=some (.int .u64 id)/\w'.cell? (w.heap.size,2)=some (.int .i64 op)/\w'.cell? (L.mb,1007)=some (.pointer (some (L.m,0)))) (go_keep) ((go_at_call 246;refine i.mono ?_;rintro e w4 ⟨⟨n,u,rfl,r⟩,⟨I,A,b⟩,g⟩;obtain⟨tt,Q,rfl⟩:=r;have f:=Z (And.intro b g);have k:=Z (b.nx.row (w:=z.drew) j.drew s);obtain⟨B,E,F⟩:=k.1.c3;have G:=b.at_.cP;clear b g))
  all_goals
   go_wp2
   go_ret2;exact iF.of ⟨⟨_,_,rfl,ar.mk _ _⟩,⟨_,_,f.1⟩,f.2⟩ (l.trans (Ch.refl _ _).drew)
 |some y=>
  go_in
  go_wp2
  try rw[d]
  try clear d
  go_region_held3 (fun w'=>w'.cell? (w.heap.size,0)=some (.pointer (some (L.mb,0)))/\w'.cell? (w.heap.size,1)=some (.int .u64 id)/\w'.cell? (w.heap.size,2)=some (.int .i64 op)/\w'.cell? (L.mb,1007)=some (.pointer (some (L.m,0)))) (go_keep) ((go_at_call 246;refine i.mono ?_;rintro e w4 ⟨rfl,⟨I,A,b⟩,g⟩;have f:=Z (And.intro b g);have k:=Z (b.nx.row (w:=z.drew) j.drew s);obtain⟨B,E,F⟩:=k.1.c3;have G:=b.at_.cP;clear b g))
  all_goals
   go_wp2
   go_ret2;exact iF.of ⟨rfl,⟨_,_,f.1⟩,f.2⟩ (l.trans (Ch.refl _ _).drew)
theorem om(z:0<=C.wide/\C.wide<=256/\0<=C.narrow/\C.narrow<=256)(A:K.out.length<=900000)(id op a v:Int)(y:aI a)(B:aI v)(h:ae w χ L Y C K):
 Calls prog 245 #[.agg #[.pointer (some ⟨L.mb,0,none⟩),.int .u64 id,op],.int .u64 a,.int .u64 v] w (iF (bE C K id op (K.mem,K.out) 2 a 0 v).1 χ L Y C K (o6 C K id op 2 a 0 v) w):=by
 obtain⟨r,f⟩:=nm (((w.alloc (.cells #[.pointer (some ⟨L.mb,0,none⟩),.int .u64 id,op] 294)).alloc (.cells #[.int .u64 v] 56)));have k:Hid (Ch ag w r):=Z (by rw[<-f];exact((Ch.refl _ _).alloc _).alloc _);have x:=Z (h.hC k);have s:Hid (Row r w.heap.size 294 [.pointer (some ⟨L.mb,0,none⟩),.int .u64 id,op]):=Z (by rw[<-f];exact(Row.new w _ _).alloc _);have D:Hid (Row r (w.heap.size+1) 56 [.int .u64 v]):=Z (by
  rw[<-f];have:=Row.new (w.alloc (.cells #[.pointer (some ⟨L.mb,0,none⟩),.int .u64 id,op] 294)) #[.int .u64 v] 56;simpa[World.size_alloc,Nat.add_assoc]using this)
 have t:Hid (∀i,w.heap.size<=i->χ i=.no):=Z (fun i F=>Classical.not_not.1 fun e=>absurd (h.small _ e) (by omega));obtain⟨H,I,J⟩:=s.c3;have j:=Z (la (p1:=.pointer (some ⟨w.heap.size,0,none⟩)) (p2:=.pointer (some ⟨w.heap.size+1,0,none⟩)) (p3:=.nilIface) 2 _ _ _ (Or.inr (Or.inl ⟨rfl,rfl,rfl⟩)) z A id op a 0 v y (fun c w1 o p=>Cq id op c 0 v o B _ _ (s.ch p (fun h=>h)) (D.ch p (fun h=>h)) ⟨t _ (by omega),t _ (by omega)⟩ (x.at_.af p)) x.at_);obtain⟨q,m⟩:=nm (bE C K id op (K.mem,K.out) 2 a 0 v);obtain⟨K',l⟩:∃K',o6 C K id op 2 a 0 v=K':=⟨_,rfl⟩;rw[m,l]at j;rw[m,l];obtain⟨E,G⟩:=q;dsimp only at j;clear m l;clear h z A y B;cases E
 all_goals
  go_in
  go_wp2_with fail
  try rw[f]
  try clear f
  with_reducible refine j.out.mono ?_
 ·rintro e w4 ⟨⟨n,u,rfl,o⟩,d,g⟩
  obtain⟨tt,M,rfl⟩:=o;have b:=Z (And.intro d g);clear d g;go_wp2
  go_ret2;exact iF.of ⟨⟨_,_,rfl,ar.mk _ _⟩,b.1,b.2⟩ k
 ·rintro e w4 ⟨rfl,d,g⟩
  have b:=Z (And.intro d g);clear d g;go_wp2
  go_ret2;exact iF.of ⟨rfl,b.1,b.2⟩ k
theorem xZ(z:0<=C.wide/\C.wide<=256/\0<=C.narrow/\C.narrow<=256)(A:K.out.length<=900000)(id op a v:Int)(y:aI a)(B:aI v)(h:ae w χ L Y C K):
 Calls prog 241 #[.agg #[.pointer (some ⟨L.mb,0,none⟩),.int .u64 id,op],.int .u64 a,.int .u64 v] w (iF (bE C K id op (K.mem,K.out) 3 a 0 v).1 χ L Y C K (o6 C K id op 3 a 0 v) w):=by
 obtain⟨r,f⟩:=nm (((w.alloc (.cells #[.pointer (some ⟨L.mb,0,none⟩),.int .u64 id,op] 294)).alloc (.cells #[.int .u64 v] 56)));have k:Hid (Ch ag w r):=Z (by rw[<-f];exact((Ch.refl _ _).alloc _).alloc _);have x:=Z (h.hC k);have s:Hid (Row r w.heap.size 294 [.pointer (some ⟨L.mb,0,none⟩),.int .u64 id,op]):=Z (by rw[<-f];exact(Row.new w _ _).alloc _);have D:Hid (Row r (w.heap.size+1) 56 [.int .u64 v]):=Z (by
  rw[<-f];have:=Row.new (w.alloc (.cells #[.pointer (some ⟨L.mb,0,none⟩),.int .u64 id,op] 294)) #[.int .u64 v] 56;simpa[World.size_alloc,Nat.add_assoc]using this)
 have t:Hid (∀i,w.heap.size<=i->χ i=.no):=Z (fun i F=>Classical.not_not.1 fun e=>absurd (h.small _ e) (by omega));obtain⟨H,I,J⟩:=s.c3;have j:=Z (la (p1:=.pointer (some ⟨w.heap.size,0,none⟩)) (p2:=.pointer (some ⟨w.heap.size+1,0,none⟩)) (p3:=.nilIface) 3 _ _ _ (Or.inr (Or.inr (Or.inl ⟨rfl,rfl,rfl⟩))) z A id op a 0 v y (fun c w1 o p=>Ei id op c 0 v o B _ _ (s.ch p (fun h=>h)) (D.ch p (fun h=>h)) ⟨t _ (by omega),t _ (by omega)⟩ (x.at_.af p)) x.at_);obtain⟨q,m⟩:=nm (bE C K id op (K.mem,K.out) 3 a 0 v);obtain⟨K',l⟩:∃K',o6 C K id op 3 a 0 v=K':=⟨_,rfl⟩;rw[m,l]at j;rw[m,l];obtain⟨E,G⟩:=q;dsimp only at j;clear m l;clear h z A y B;cases E
 all_goals
  go_in
  go_wp2_with fail
  try rw[f]
  try clear f
  with_reducible refine j.out.mono ?_
 ·rintro e w4 ⟨⟨n,u,rfl,o⟩,d,g⟩
  obtain⟨tt,M,rfl⟩:=o;have b:=Z (And.intro d g);clear d g;go_wp2
  go_ret2;exact iF.of ⟨⟨_,_,rfl,ar.mk _ _⟩,b.1,b.2⟩ k
 ·rintro e w4 ⟨rfl,d,g⟩
  have b:=Z (And.intro d g);clear d g;go_wp2
  go_ret2;exact iF.of ⟨rfl,b.1,b.2⟩ k
theorem x'(A:0<=C.wide/\C.wide<=256/\0<=C.narrow/\C.narrow<=256)(B:K.out.length<=900000)(id op a b v:Int)(z:aI a)(hold:aI b)(D:aI v)(h:ae w χ L Y C K):
 Calls prog 242 #[.agg #[.pointer (some ⟨L.mb,0,none⟩),.int .u64 id,op],.int .u64 a,.int .u64 b,.int .u64 v] w (iF (bE C K id op (K.mem,K.out) 4 a b v).1 χ L Y C K (o6 C K id op 4 a b v) w):=by
 obtain⟨l,d⟩:=nm ((((w.alloc (.cells #[.pointer (some ⟨L.mb,0,none⟩),.int .u64 id,op] 294)).alloc (.cells #[.int .u64 b] 56)).alloc (.cells #[.int .u64 v] 56)));have o:Hid (Ch ag w l):=Z (by rw[<-d];exact(((Ch.refl _ _).alloc _).alloc _).alloc _);have y:=Z (h.hC o);have x:Hid (Row l w.heap.size 294 [.pointer (some ⟨L.mb,0,none⟩),.int .u64 id,op]):=Z (by rw[<-d];exact((Row.new w _ _).alloc _).alloc _);have E:Hid (Row l (w.heap.size+1) 56 [.int .u64 b]):=Z (by
  rw[<-d];have:=(Row.new (w.alloc (.cells #[.pointer (some ⟨L.mb,0,none⟩),.int .u64 id,op] 294)) #[.int .u64 b] 56).alloc (.cells #[.int .u64 v] 56);simpa[World.size_alloc,Nat.add_assoc]using this)
 have F:Hid (Row l (w.heap.size+2) 56 [.int .u64 v]):=Z (by
  rw[<-d];have:=Row.new ((w.alloc (.cells #[.pointer (some ⟨L.mb,0,none⟩),.int .u64 id,op] 294)).alloc (.cells #[.int .u64 b] 56)) #[.int .u64 v] 56;simpa[World.size_alloc,Nat.add_assoc]using this)
 have p:Hid (∀i,w.heap.size<=i->χ i=.no):=Z (fun i H=>Classical.not_not.1 fun e=>absurd (h.small _ e) (by omega));obtain⟨J,M,N⟩:=x.c3;have m:=Z (la (p1:=.pointer (some ⟨w.heap.size,0,none⟩)) (p2:=.pointer (some ⟨w.heap.size+1,0,none⟩)) (p3:=.pointer (some ⟨w.heap.size+2,0,none⟩)) 4 _ _ _ (Or.inr (Or.inr (Or.inr ⟨rfl,rfl,rfl⟩))) A B id op a b v z (fun c w1 t k=>Ej id op c b v t D _ _ _ (x.ch k (fun h=>h)) (E.ch k (fun h=>h)) (F.ch k (fun h=>h)) ⟨p _ (by omega),p _ (by omega),p _ (by omega)⟩ (y.at_.af k)) y.at_);obtain⟨q,s⟩:=nm (bE C K id op (K.mem,K.out) 4 a b v);obtain⟨K',r⟩:∃K',o6 C K id op 4 a b v=K':=⟨_,rfl⟩;rw[s,r]at m;rw[s,r];obtain⟨G,I⟩:=q;dsimp only at m;clear s r;clear h A B z hold D;cases G
 all_goals
  go_in
  go_wp2_with fail
  try rw[d]
  try clear d
  with_reducible refine m.out.mono ?_
 ·rintro e w4 ⟨⟨n,u,rfl,t⟩,g,j⟩
  obtain⟨tt,O,rfl⟩:=t;have f:=Z (And.intro g j);clear g j;go_wp2
  go_ret2;exact iF.of ⟨⟨_,_,rfl,ar.mk _ _⟩,f.1,f.2⟩ o
 ·rintro e w4 ⟨rfl,g,j⟩
  have f:=Z (And.intro g j);clear g j;go_wp2
  go_ret2;exact iF.of ⟨rfl,f.1,f.2⟩ o
def GH(ok:Bool)(χ:Nat->aX)(L:cz)(Y:Var)(C:KC)(K K':KS)(w:World)(e:Ending)(w':World):Prop:=
 (∃v,e=.returned v/\(if ok then v=.nilIface else ar v))/\(∃aY Y',dJ χ L Y C K K' w aY Y' w')/\Ch (fun i=>χ i=.mem∨χ i=.gL∨χ i=.out) w w'
theorem sP(id op a v:Int)(S:aA×List Ev):bE C K id op S 1 a 0 v=bE C K id op S 2 a 0 v:=by
 have:∀(M:aA) (c:Int),M.acc 1 c 0 v=M.acc 2 c 0 v:=fun M c=>by unfold aA.acc;simp
 unfold bE;dsimp only;simp only[this]
theorem sQ(p:0<=C.wide/\C.wide<=256/\0<=C.narrow/\C.narrow<=256)(r:K.out.length<=900000)(id op a v:Int)(o:aI a)(t:aI v)(h:ae w χ L Y C K):
 Calls prog 244 #[.agg #[(L.mb,0),.int .u64 id,op],.int .u64 a,.int .u64 v] w (GH (bE C K id op (K.mem,K.out) 1 a 0 v).1.isSome χ L Y C K (o6 C K id op 1 a 0 v) w):=by
 obtain⟨M,f⟩:=nm (w.alloc (.cells #[(L.mb,0),.int .u64 id,op] 294));have i:=Z (Ch.al (D:=ag) f);have z:=Z (h.hC i);have y:=Z (Row.al f);obtain⟨H,I,J⟩:=y.c3;have g:=Z (om p r id op a v o t z.at_);have s:o6 C K id op 1 a 0 v=o6 C K id op 2 a 0 v:=by unfold o6;rw[sP]
 rw[sP,s];obtain⟨q,m⟩:=nm (bE C K id op (K.mem,K.out) 2 a 0 v);obtain⟨K',l⟩:∃K',o6 C K id op 2 a 0 v=K':=⟨_,rfl⟩;rw[m,l]at g;rw[m,l];obtain⟨E,G⟩:=q;dsimp only at g;clear m l s;clear h p r o t;cases E
 all_goals
  go_in
  go_wp2_with fail
  try rw[f]
  try clear f
  with_reducible refine g.out.mono ?_
 ·rintro e w4 ⟨⟨n,u,rfl,B⟩,c,d⟩
  obtain⟨tt,F,rfl⟩:=B;have b:=Z (And.intro c d);clear c d;go_wp2
  go_ret;obtain⟨A,⟨aY,Y',j⟩,k⟩:=iF.of (x:=none) (w:=w) ⟨⟨n,_,rfl,ar.mk tt F⟩,b.1,b.2⟩ i;exact⟨⟨_,rfl,ar.mk _ _⟩,⟨aY,Y',j⟩,k⟩
 ·rintro e w4 ⟨rfl,c,d⟩
  have b:=Z (And.intro c d);clear c d;go_wp2
  go_ret;obtain⟨A,⟨aY,Y',j⟩,k⟩:=iF.of (x:=some 0) (w:=w) ⟨rfl,b.1,b.2⟩ i;exact⟨⟨_,rfl,rfl⟩,⟨aY,Y',j⟩,k⟩
end
end
end Go.Proofs.YtfnilkpkogipfaaGreatDoor
