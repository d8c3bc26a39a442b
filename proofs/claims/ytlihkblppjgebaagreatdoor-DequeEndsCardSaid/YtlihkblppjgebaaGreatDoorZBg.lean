import Derived.Test.YtlihkblppjgebaaGreatDoorZBd
import Derived.Test.YtlihkblppjgebaaGreatDoorZBe
set_option linter.all false
set_option maxRecDepth 100000
set_option maxHeartbeats 8000000
namespace Go.Proofs.YtlihkblppjgebaaGreatDoor
open Go.RowKit Go.Proofs.Tryz
section
section
variable{w:World}{χ:Nat->a4}{L:cw}{Y:Var}{C:KC}{K:KS}
theorem gz{i:Nat}{x:ak}(a:i<K.wk.length):(K.be i x).W i=x:=KS.A4 (by show(K.wk.set i x)[i]?=_;rw[List.getElem?_set_self a])
theorem yW(i:Nat)(G:i<K.wk.length)(c:bK)(b t:Nat)(F:aj K c)(I:aP L Y c b t)(J:∀k,k<32->aH ((K.F c).r k))(a f g l j m:Int)(R:0<=a/\a<32)(h:ae w χ L Y C K):
 Calls prog 166 #[.pointer (some ⟨L.mb,0,none⟩),.pointer (some ⟨L.wb,i*38,none⟩),.pointer (some ⟨b,t,none⟩),.agg #[.int .i64 30,.int .i64 a,.int .i64 f,.int .i64 g,.int .u64 l,.int .i64 j,.int .i64 m]] w (de (.tuple #[]) χ L Y C K (bU K i c ⟨30,a,f,g,l,j,m⟩) w):=by
 have H:=Z h;have v:=Z F;have z:=Z I;have P:=Z G;obtain⟨N,M,S,A,n⟩:=h.pre 30 a f g l j m;obtain⟨W,X⟩:=R;obtain⟨u,s⟩:∃y,(K.F c).r a.toNat=y:=⟨_,rfl⟩;have p:=Z s;have o:=Z (J a.toNat (by omega));rw[s]at o;obtain⟨U,V⟩:=o.out;clear s;obtain⟨t0,t1,t2,t3,t4,t5,t6⟩:=n.out.1.c7;have d:=A.out.at_.az v.out z.out a.toNat (by omega);rw[p.out]at d;clear h F I J G;have E:Hid (bU K i c ⟨30,a,f,g,l,j,m⟩=eB K i u):=Z (by unfold bU;dsimp only;rw[if_pos rfl,p.out]);go_enter func166,ntmps166
 go_wp2_with fail
 try rw[M]
 clear M;go_quiet (fail)
 obtain⟨w1,r⟩:=nm (N.drewN nq);have x:Hid (Ch ag N w1):=Z (by rw[<-r];exact(Ch.refl _ _).drewN nq);rw[r];clear r;have q:=Z (A.out.af x.out);have B:Hid (aj K c/\aP L Y c b t):=Z ⟨v.out,z.out⟩;have O:=Z ((Nx.af x.out).row n.out.1 n.out.2);clear t0 t1 t2 t3 t4 t5 t6 d;obtain⟨t0,t1,t2,t3,t4,t5,t6⟩:=O.out.1.c7;have d:=q.out.at_.az B.out.1 B.out.2 a.toNat (by omega);rw[show((K:KS).F c).r a.toNat=u from p.out]at d;go_wp2_with fail
 refine(o7 i P.out u o.out q.out.at_).mono ?_;rintro e w2 ⟨rfl,a0,T,D⟩;have Q:=Z (q.out.trans (Gr.refl _) D);clear D;go_wp2_with fail
 go_end0
 rw[E.out];exact⟨rfl,_,_,Q.out⟩
theorem yX(i:Nat)(S:i<K.wk.length)(c:bK)(b z:Nat)(R:aj K c)(T:aP L Y c b z)(U:∀k,k<32->aH ((K.F c).r k))(a p q s r t:Int)(a1:0<=a/\a<32)(M:aH (K.W i).hand)(h:ae w χ L Y C K):
 Calls prog 166 #[.pointer (some ⟨L.mb,0,none⟩),.pointer (some ⟨L.wb,i*38,none⟩),.pointer (some ⟨b,z,none⟩),.agg #[.int .i64 33,.int .i64 a,.int .i64 p,.int .i64 q,.int .u64 s,.int .i64 r,.int .i64 t]] w (de (.tuple #[]) χ L Y C K (bU K i c ⟨33,a,p,q,s,r,t⟩) w):=by
 have H:=Z h;have D:=Z R;have F:=Z T;have u:=Z S;obtain⟨A,x,ab,I,j⟩:=h.pre 33 a p q s r t;obtain⟨av,bi⟩:=a1;obtain⟨V,N⟩:∃y,(K.F c).r a.toNat=y:=⟨_,rfl⟩;have G:=Z N;have P:=Z (U a.toNat (by omega));rw[N]at P;obtain⟨am,ap⟩:=P.out;clear N;obtain⟨t0,t1,t2,t3,t4,t5,t6⟩:=j.out.1.c7;have f:=I.out.at_.az D.out F.out a.toNat (by omega);rw[G.out]at f;obtain⟨o,J⟩:=nm ((K.W i).hand);have m:=Z J;rw[J]at M;have W:=Z M;clear M;clear h R T U S;clear J;by_cases O:o=0
 ·subst O
  have E:Hid (bU K i c ⟨33,a,p,q,s,r,t⟩=K):=Z (by unfold bU;dsimp only;rw[if_neg (by decide),if_pos rfl,if_neg (by rw[m.out];simp)]);go_enter func166,ntmps166
  go_wp2_with fail
  try rw[x]
  clear x;go_quiet (fail)
  obtain⟨w1,g⟩:=nm (A.drewN nq);have l:Hid (Ch ag A w1):=Z (by rw[<-g];exact(Ch.refl _ _).drewN nq);rw[g];clear g;have d:=Z (I.out.af l.out);have n:Hid (aj K c/\aP L Y c b z):=Z ⟨D.out,F.out⟩;have B:=Z ((Nx.af l.out).row j.out.1 j.out.2);clear t0 t1 t2 t3 t4 t5 t6 f;obtain⟨t0,t1,t2,t3,t4,t5,t6⟩:=B.out.1.c7;have f:=d.out.at_.az n.out.1 n.out.2 a.toNat (by omega);rw[show((K:KS).F c).r a.toNat=V from G.out]at f;have s1:=d.out.at_.e7 u.out;rw[m.out]at s1;go_wp2_with fail
  go_end0
  rw[E.out];exact⟨rfl,_,_,d.out⟩
 ·have hb:(o==0)=false:=by rw[beq_eq_false_iff_ne];exact O
  have E:Hid (bU K i c ⟨33,a,p,q,s,r,t⟩=(cc K o).be i {(cc K o).W i with hand:=0}):=Z (by unfold bU;dsimp only;rw[if_neg (by decide),if_pos rfl,if_pos (by rw[m.out];exact O),m.out]);go_enter func166,ntmps166
  go_wp2_with fail
  try rw[x]
  clear x;go_quiet (fail)
  obtain⟨w1,g⟩:=nm (A.drewN nq);have l:Hid (Ch ag A w1):=Z (by rw[<-g];exact(Ch.refl _ _).drewN nq);rw[g];clear g;have d:=Z (I.out.af l.out);have n:Hid (aj K c/\aP L Y c b z):=Z ⟨D.out,F.out⟩;have B:=Z ((Nx.af l.out).row j.out.1 j.out.2);clear t0 t1 t2 t3 t4 t5 t6 f;obtain⟨t0,t1,t2,t3,t4,t5,t6⟩:=B.out.1.c7;have f:=d.out.at_.az n.out.1 n.out.2 a.toNat (by omega);rw[show((K:KS).F c).r a.toNat=V from G.out]at f;have s1:=d.out.at_.e7 u.out;rw[m.out]at s1;go_wp2_with fail
  refine(e9 o W.out d.out.at_).mono ?_;rintro e w2 ⟨rfl,bv,ad,Q⟩;have v:=Z (d.out.trans (Gr.refl _) Q);clear Q s1 f t0 t1 t2 t3 t4 t5 t6;have s2:=v.out.at_.e7 (i:=i) (by exact u.out);have al:=v.out.at_.tn (i*38+1);have a0:=Z (v.out.at_.jx (i:=i) (by exact u.out) 0);go_wp2_with fail
  go_end0
  rw[E.out];obtain⟨a3,X,a2⟩:=a0.out;exact⟨rfl,a3,X,v.out.trans (Gr.of_eq rfl) a2⟩
end
end
section
open Classical in
theorem Ch.cut{D E:Nat->Prop}{w w':World}(h:Ch (Cw E D) w w'):∃w1,Ch E w w1/\Ch D w1 w'/\Ch D w' w1:=by
 refine⟨{w' with heap:=w'.heap.mapIdx fun k c=>if D k then(w.heap[k]?).getD c else c},⟨h.os,h.tape,h.output,?_,?_⟩,⟨rfl,rfl,rfl,?_,?_⟩,⟨rfl,rfl,rfl,?_,?_⟩⟩
 ·rw[Array.size_mapIdx];exact h.size
 ·intro k b d
  show(w'.heap.mapIdx _)[k]?=_
  rw[Array.getElem?_mapIdx];have f:k<w'.heap.size:=Nat.lt_of_lt_of_le b h.size;by_cases a:D k
  ·rw[Array.getElem?_eq_getElem f]
   simp[a,Array.getElem?_eq_getElem b]
  ·rw[h.same k b (fun e=>e.elim d a),Array.getElem?_eq_getElem b]
   simp[a]
 ·rw[Array.size_mapIdx];exact Nat.le_refl _
 ·intro k b a
  show _=(w'.heap.mapIdx _)[k]?
  rw[Array.getElem?_mapIdx];cases w'.heap[k]?<;>simp[a]
 ·rw[Array.size_mapIdx];exact Nat.le_refl _
 ·intro k b a
  show(w'.heap.mapIdx _)[k]?=_
  rw[Array.getElem?_mapIdx];cases w'.heap[k]?<;>simp[a]
section
variable{w w':World}{χ:Nat->a4}{L:cw}{Y:Var}{C:KC}{K:KS}
theorem ae.DZ(h:ae w χ L Y C K){c:bK}(a:aj K c){b j:Nat}(e:aP L Y c b j):∃pre post v,aG w b j (qd c) pre post v (K.F c)/\(χ b=.wk∨∃id k,χ b=.fr id k)/\∀g,v.ownBlock=some g->χ g=.back:=by
 cases c with
 |own i=>
  obtain⟨rfl,rfl⟩:=e;obtain⟨pre,post,l,_⟩:=h.tp a;exact⟨_,_,_,l,Or.inl (h.wk (by simp)).k,fun g m=>(h.wk (by simp)).kb i _ (KS.gy a) g m⟩
 |ai id k=>
  obtain⟨rfl,rfl⟩:=e;obtain⟨t,f,d⟩:=a;have hF:=h.fr id t k _ f (List.getElem?_eq_getElem d) (by simp);refine⟨[],(t.l[k]).post,Y.bv id k,?_,Or.inr ⟨id,k,hF.kf⟩,hF.kb⟩;rw[show K.F (.ai id k)=(t.l[k]).f from by
   show((K.T id).l.getD k default).f=_
   rw[KS.df f,List.getD_eq_getElem?_getD,List.getElem?_eq_getElem d];rfl]
  exact hF.is
theorem wq(K:KS)(c:bK)(f:cE)(S:aF):({K with mem:=S}:KS).cH c f={K.cH c f with mem:=S}:=by cases c<;>rfl
theorem ae.A'(h:ae w χ L Y C K){c:bK}(n:aj K c){b j:Nat}(F:aP L Y c b j){pre post:List Value}{v l:Value}{f:cE}{S:aF}(y:aG w b j (qd c) pre post v (K.F c))(o:χ b=.wk∨∃id k,χ b=.fr id k)(G:∀g,v.ownBlock=some g->χ g=.back)
 (z:aG w' b j (qd c) pre post l f) (p:aQ w v l) (E:aO w' L.m L.c L.d S) (x:Ch (Cw (aK b) (di L.m L.c)) w w'):∃aW Y',dB χ L Y C K (({K with mem:=S}:KS).cH c f) w aW Y' w':=by
 obtain⟨w1,s,t,u⟩:=x.cut;have a:=h.mem (by simp);have hb:¬di L.m L.c b:=fun e=>by
  rcases e with rfl|rfl
  ·rcases o with e|⟨_,_,e⟩<;>rw[a.k1]at e<;>cases e
  ·rcases o with e|⟨_,_,e⟩<;>rw[a.k2]at e<;>cases e
 have A:aG w1 b j (qd c) pre post l f:=z.ch u hb (fun g B e=>by
  rcases p g B with m|m
  ·have d:=G g m
   rcases e with rfl|rfl
   ·rw[a.k1]at d;cases d
   ·rw[a.k2]at d;cases d
  ·rcases e with rfl|rfl
   ·have:=a.is.head.lt;omega
   ·have:=a.is.cells.lt;omega)
 obtain⟨I,r,q⟩:=h.yN n F y A p s;have H:=q.at_.o3 E t (fun i D=>gN D);rw[wq];exact⟨I,r,q.trans (bs n f) H⟩
end
end
section
section
variable{w w1 w2:World}{χ aW:Nat->a4}{L:cw}{Y Y':Var}{C:KC}{K K':KS}
theorem ae.plain(h:ae w1 χ L Y C K){b:Nat}(hb:χ b=.no)(c:Ch (aK b) w1 w2):ae w2 χ L Y C K:=by
 have s:eI [.no] χ χ (aK b) w1 w2:=eI.one c (fun i e=>by rw[show i=b from e];simp[hb]) h.small;have k:=h.step s (by simp);exact {head:=fun _=>k.head (by simp),mem:=fun _=>k.mem (by simp),al:=fun _=>k.al (by simp),bW:=fun _=>k.bW (by simp),ring:=fun _=>k.ring (by simp),q:=fun _=>k.q (by simp),tab:=fun _=>k.tab (by simp),obj:=fun _=>k.obj (by simp),wk:=fun _=>k.wk (by simp),tm:=fun _=>k.tm (by simp),th:=fun i t h _=>k.th i t h (by simp),tl:=fun i t h _=>k.tl i t h (by simp),fr:=fun i t j f a d _=>k.fr i t j f a d (by simp),out:=fun _=>k.out (by simp),code:=fun _=>k.code (by simp),small:=k.small}
theorem dB.plain(m:dB χ L Y C K K' w aW Y' w1){b:Nat}(hb:aW b=.no)(hw:w.heap.size<=b)(c:Ch (aK b) w1 w2):dB χ L Y C K K' w aW Y' w2:=
 ⟨m.at_.plain hb c,⟨⟨c.os.trans m.nx.ch.os,c.tape.trans m.nx.ch.tape,c.output.trans m.nx.ch.output,Nat.le_trans m.nx.ch.size c.size,fun k a d=>(c.same k (Nat.lt_of_lt_of_le a m.nx.ch.size) (fun e=>by rw[show k=b from e]at a;omega)).trans (m.nx.ch.same k a d)⟩,m.nx.same⟩,m.yk⟩
end
end
section
section
variable{w w':World}{χ:Nat->a4}{L:cw}{Y:Var}{C:KC}{K:KS}
theorem nF{l:List aV}{pc:Int}(a:0<=pc)(b:pc<l.length):l[pc.toNat]?=some (fu l pc):=by
 unfold fu;rw[if_pos ⟨a,b⟩,List.getD_eq_getElem?_getD,List.getElem?_eq_getElem (by omega)];rfl
theorem ly{l:List aV}{pc:Int}(h:¬(0<=pc/\pc<l.length)):fu l pc=⟨0,0,0,0,0,0,0⟩:=by unfold fu;rw[if_neg h]
theorem D0(c:bK)(b m:Nat)(n:aj K c)(r:aP L Y c b m)(F:∀k,k<32->aH ((K.F c).r k))(z:(K.F c).back.length<=8)(H:∀x∈C.dx,aH x.v)(I:C.dx.length<=2048)(h:ae w χ L Y C K):
 Calls prog 137 #[.pointer (some ⟨b,m,none⟩),.slice L.lc C.dx.length L.BT,.iface 103 (.pointer (some ⟨L.m,0,none⟩))] w
  (yj (cy C K c).2.1 (fun w'=>∃aW Y',dB χ L Y C K (cy C K c).2.2 w aW Y' w')):=by
 obtain⟨pre,post,v,p,q,t⟩:=h.DZ n r;have a:=h.mem (by simp);have o:=h.code (by simp);have l:b≠L.m/\b≠L.c/\b≠L.d:=by
  refine⟨?_,?_,?_⟩<;>intro e<;>subst e<;>rcases q with e|⟨_,_,e⟩
  ·rw[a.k1]at e;cases e
  ·rw[a.k1]at e;cases e
  ·rw[a.k2]at e;cases e
  ·rw[a.k2]at e;cases e
  ·rw[a.k3]at e;cases e
  ·rw[a.k3]at e;cases e
 have G:=q3 (yl L.m L.c L.d) K.mem (Z trivial) b m (qd c) (kz c) pre post v (K.F c) C.dx L.lc C.dx.length L.BT rfl o.mx (by omega) z F H w p
  (fun s=>by obtain⟨g,f,d,_⟩:=o.ca (by intro e;rw[e]at s;exact absurd s (by simp));exact⟨g,0,f,fun j u hj=>by rw[Nat.zero_add];exact d.cell j u hj⟩) a.is
  (fun S w w' N f1 v2 f2 f _ _ _ d=>aO.ch f d (fun e=>l.1 (Eq.symm e)) (fun e=>l.2.1 (Eq.symm e)) (fun e=>l.2.2 (Eq.symm e)))
  (fun e=>by rcases e with e|e;exact l.1 e;exact l.2.1 e)
  (fun i J e=>by rcases e with rfl|rfl;have:=a.is.head.lt;omega;have:=a.is.cells.lt;omega)
  (fun g B e=>by
   have d:=t g B;rcases e with rfl|rfl
   ·rw[a.k1]at d;cases d
   ·rw[a.k2]at d;cases d)
 refine G.mono ?_;rintro e w' ⟨f,⟨M,A,D⟩,E,y⟩;exact⟨f,h.A' n r p q t A D E y⟩
theorem o9(c:bK)(b e1:Nat)(ch:aj K c)(ci:aP L Y c b e1)(et:∀k,k<32->aH ((K.F c).r k))(ec:(K.F c).back.length<=8)(eC:∀x∈C.dx,aH x.v)(cW:C.dx.length<=2048)(h:ae w χ L Y C K):
 Calls prog 132 #[.pointer (some ⟨L.mb,0,none⟩),.pointer (some ⟨b,e1,none⟩)] w (de (.tuple #[aI (cy C K c).1,.int .i64 (cy C K c).2.1]) χ L Y C K (cy C K c).2.2 w):=by
 have H:=Z h;have I:=Z ch;have M:=Z ci;have P:=Z (fun w (h:ae w χ L Y C K)=>D0 c b e1 ch ci et ec eC cW h);have cS:=h.code (by simp);have hf:=Z cS;obtain⟨pc,cl⟩:=nm ((K.F c).pc);have O:=Z cl;obtain⟨N,am⟩:=nm C.dx.length;have y:=Z am;have hi:N<=2048:=by rw[<-am];exact cW
 have cq:=h.tq ch ci;rw[cl]at cq;have k0:=h.c0;rw[am]at k0;have o:=h.cP;have dN:(cy C K c).1=fu C.dx pc:=by unfold cy;rw[cl]
 obtain⟨s,eA⟩:=nm (cy C K c);rw[eA]at P dN⊢;obtain⟨x,n,K'⟩:=s;rw[am]at P;have cC:=Z dN;have es:C.dx≠[]->∃g,L.lc=some ⟨g,0,none⟩/\eE w g C.dx:=fun he=>by obtain⟨g,al,gL,_⟩:=cS.ca he;exact⟨g,al,gL⟩
 have fT:=Z es;clear h ch ci et ec eC cW cS cl am eA dN es;by_cases gJ:pc<0
 ·have R:¬0<=pc:=by omega
  have en:decide (0<=pc)=false:=by simpa using gJ
  have dC:x=⟨0,0,0,0,0,0,0⟩:=by have:=cC.out;dsimp only at this;rw[this];exact ly (fun e=>by have Q:=e.2;rw[y.out]at Q;omega)
  subst dC;obtain⟨w1,j⟩:=nm ((w.alloc (.cells #[.int .i64 0,.int .i64 0,.int .i64 0,.int .i64 0,.int .u64 0,.int .i64 0,.int .i64 0] 184)).alloc (.cells #[.int .i64 0,.int .i64 0,.int .i64 0,.int .i64 0,.int .u64 0,.int .i64 0,.int .i64 0] 184));have J:Hid (Ch ag w w1):=Z (by rw[<-j];exact((Ch.refl _ _).alloc _).alloc _);have z:=Z (H.out.hg J.out);have S:Hid (Row w1 w.heap.size 184 [.int .i64 0,.int .i64 0,.int .i64 0,.int .i64 0,.int .u64 0,.int .i64 0,.int .i64 0]):=Z (by rw[<-j];exact(Row.new w _ _).alloc _);have T:Hid (Row w1 (w.heap.size+1) 184 [.int .i64 0,.int .i64 0,.int .i64 0,.int .i64 0,.int .u64 0,.int .i64 0,.int .i64 0]):=Z (by
   rw[<-j];have:=Row.new (w.alloc (.cells #[.int .i64 0,.int .i64 0,.int .i64 0,.int .i64 0,.int .u64 0,.int .i64 0,.int .i64 0] 184)) #[.int .i64 0,.int .i64 0,.int .i64 0,.int .i64 0,.int .u64 0,.int .i64 0,.int .i64 0] 184
   rwa [World.size_alloc]at this)
  have l:=z.out.at_.tq I.out M.out;rw[O.out]at l;have k1:=z.out.at_.c0;rw[y.out]at k1;clear cq k0 o;go_enter func132,ntmps132
  go_upto_region 2 with fail
  try rw[j]
  clear j;go_quiet (fail)
  obtain⟨w2,q⟩:=nm (w1.drewN nq);have t:=Z (Ch.dN (D:=ag) q);rw[q];clear q;have i:=Z (z.out.af t.out);have B:=Z (S.out.ch t.out (fun h=>h));have f:=Z (T.out.ch t.out (fun h=>h));clear l k1;have l:=i.out.at_.tq I.out M.out;rw[O.out]at l;have k1:=i.out.at_.c0;rw[y.out]at k1;have o:=i.out.at_.cP;go_wp2_with fail
  go_region_held3 (fun w'=>w'.cell? ⟨L.mb,0,none⟩=some (.slice L.lc N L.BT)/\w'.cell? ⟨L.mb,1007,none⟩=some (.pointer (some ⟨L.m,0,none⟩))) (go_keep) ((go_at_call 137;refine(P.out _ i.out.at_.drew).mono ?_;rintro e E ⟨⟨u,rfl,ap⟩,cd,X,p⟩;have A:=Z ((i.out.af (Ch.refl _ _).drew).trans (Gr.refl _) p);have a:=Z (((Nx.af (Ch.refl _ w2).drew).trans p.nx).row B.out (H.out.fresh (Nat.le_refl _)));have d:=Z (((Nx.af (Ch.refl _ w2).drew).trans p.nx).row f.out (H.out.fresh (Nat.le_succ _)));clear p ap l k1 o;have k1:=A.out.at_.c0;rw[y.out]at k1;have o:=A.out.at_.cP))
  all_goals
   clear k1 o;have x0:=d.out.1.c1;have a0:=a.out.1.c1;have f0:=a.out.1.free 0;have x1:=d.out.1.k 1 rfl;have a1:=a.out.1.k 1 rfl;have f1:=a.out.1.free 1;have x2:=d.out.1.k 2 rfl;have a2:=a.out.1.k 2 rfl;have f2:=a.out.1.free 2;have x3:=d.out.1.k 3 rfl;have a3:=a.out.1.k 3 rfl;have f3:=a.out.1.free 3;have x4:=d.out.1.k 4 rfl;have a4:=a.out.1.k 4 rfl;have f4:=a.out.1.free 4;have x5:=d.out.1.k 5 rfl;have ab:=a.out.1.k 5 rfl;have f5:=a.out.1.free 5;have x6:=d.out.1.k 6 rfl;have ad:=a.out.1.k 6 rfl;have f6:=a.out.1.free 6;go_wp2_with fail
   obtain⟨w4,r⟩:=nm ((((((((E.setCell ⟨w.heap.size,0,none⟩ (.int .i64 0)).setCell ⟨w.heap.size,1,none⟩ (.int .i64 0)).setCell ⟨w.heap.size,2,none⟩ (.int .i64 0)).setCell ⟨w.heap.size,3,none⟩ (.int .i64 0)).setCell ⟨w.heap.size,4,none⟩ (.int .u64 0)).setCell ⟨w.heap.size,5,none⟩ (.int .i64 0)).setCell ⟨w.heap.size,6,none⟩ (.int .i64 0)));have V:Hid (Row w4 w.heap.size 184 [.int .i64 0,.int .i64 0,.int .i64 0,.int .i64 0,.int .u64 0,.int .i64 0,.int .i64 0]):=Z (by rw[<-r];exact(((((((a.out.1.set 0 _).set 1 _).set 2 _).set 3 _).set 4 _).set 5 _).set 6 _));have U:Hid (Ch (aK w.heap.size) E w4):=Z (by rw[<-r];exact((((((((Ch.refl _ _).only _ _).only _ _).only _ _).only _ _).only _ _).only _ _).only _ _));rw[r];clear r x0 x1 x2 x3 x4 x5 x6 a0 a1 a2 a3 a4 ab ad f0 f1 f2 f3 f4 f5 f6;have W:=A.out.plain a.out.2 (Nat.le_refl _) U.out;obtain⟨y0,c5,c6,c7,c8,c9,cb⟩:=V.out.c7;refine bodyPost_ret (v:=.tuple #[aI ⟨0,0,0,0,0,0,0⟩,.int .i64 n]) ?_ rfl ?_
   ·simp[results,Tryz.f132,go_sem,y0,c5,c6,c7,c8,c9,cb,aI,aC]
   ·exact⟨rfl,cd,X,W⟩
 ·by_cases al:pc<N
  ·have R:0<=pc:=by omega
   have en:decide (0<=pc)=true:=(by simpa using R);have gR:decide (pc<(N:Int))=true:=(by simpa using al);have av:C.dx[pc.toNat]?=some x:=(by have:=cC.out;dsimp only at this;rw[this];exact nF R (by rw[y.out];exact al));obtain⟨g,dr,ex⟩:=fT.out (by intro e;rw[e]at av;cases av);have g2:=Z ex;rw[dr]at k0 P;have ce:=Z dr;obtain⟨m,rfl⟩:=Int.eq_ofNat_of_zero_le R;rw[Int.toNat_natCast]at av;obtain⟨fd,fn,fo,fr,fz,fE,fK⟩:=eJ C.dx m x av;have G:=Z (And.intro fd (And.intro fn (And.intro fo (And.intro fr (And.intro fz (And.intro fE fK))))));obtain⟨c2,bv,bw,c0,c3,c1,c4⟩:=x;clear av fd fn fo fr fz fE fK ex dr;obtain⟨w1,j⟩:=nm ((w.alloc (.cells #[.int .i64 0,.int .i64 0,.int .i64 0,.int .i64 0,.int .u64 0,.int .i64 0,.int .i64 0] 184)).alloc (.cells #[.int .i64 0,.int .i64 0,.int .i64 0,.int .i64 0,.int .u64 0,.int .i64 0,.int .i64 0] 184));have J:Hid (Ch ag w w1):=Z (by rw[<-j];exact((Ch.refl _ _).alloc _).alloc _);have z:=Z (H.out.hg J.out);have S:Hid (Row w1 w.heap.size 184 [.int .i64 0,.int .i64 0,.int .i64 0,.int .i64 0,.int .u64 0,.int .i64 0,.int .i64 0]):=Z (by rw[<-j];exact(Row.new w _ _).alloc _);have T:Hid (Row w1 (w.heap.size+1) 184 [.int .i64 0,.int .i64 0,.int .i64 0,.int .i64 0,.int .u64 0,.int .i64 0,.int .i64 0]):=Z (by
    rw[<-j];have:=Row.new (w.alloc (.cells #[.int .i64 0,.int .i64 0,.int .i64 0,.int .i64 0,.int .u64 0,.int .i64 0,.int .i64 0] 184)) #[.int .i64 0,.int .i64 0,.int .i64 0,.int .i64 0,.int .u64 0,.int .i64 0,.int .i64 0] 184
    rwa [World.size_alloc]at this)
   have l:=z.out.at_.tq I.out M.out;rw[O.out]at l;have k1:=z.out.at_.c0;rw[y.out,ce.out]at k1;clear cq k0 o;go_enter func132,ntmps132
   go_upto_region 2 with fail
   try rw[j]
   clear j;go_quiet (fail)
   obtain⟨w2,q⟩:=nm (w1.drewN nq);have t:=Z (Ch.dN (D:=ag) q);rw[q];clear q;have i:=Z (z.out.af t.out);have B:=Z (S.out.ch t.out (fun h=>h));have f:=Z (T.out.ch t.out (fun h=>h));clear l k1;have l:=i.out.at_.tq I.out M.out;rw[O.out]at l;have k1:=i.out.at_.c0;rw[y.out,ce.out]at k1;have F:=Z (g2.out.ch (J.out.trans t.out) (fun h=>h));have eL:=F.out.cell _ _ G.out.1;have eO:=F.out.cell _ _ G.out.2.1;have eS:=F.out.cell _ _ G.out.2.2.1;have eU:=F.out.cell _ _ G.out.2.2.2.1;have eW:=F.out.cell _ _ G.out.2.2.2.2.1;have eY:=F.out.cell _ _ G.out.2.2.2.2.2.1;have fb:=F.out.cell _ _ G.out.2.2.2.2.2.2;have g4:=f.out.c1;have gp:=f.out.free 0;have gb:=f.out.k 1 rfl;have gr:=f.out.free 1;have gc:=f.out.k 2 rfl;have Q:=f.out.free 2;have ge:=f.out.k 3 rfl;have gs:=f.out.free 3;have gf:=f.out.k 4 rfl;have gt:=f.out.free 4;have gk:=f.out.k 5 rfl;have gA:=f.out.free 5;have go:=f.out.k 6 rfl;have gC:=f.out.free 6;dsimp only at eL eO eS eU eW eY fb;go_wp2_with fail
   go_still_tail 11,(by kernel_rfl)
   change wpList _ _ _ _ _ w2.drew;go_upto_region 4 with fail
   obtain⟨bi,cm⟩:∃bi,((((((((w2.setCell ⟨w.heap.size+1,0,none⟩ (.int .i64 c2)).setCell ⟨w.heap.size+1,1,none⟩ (.int .i64 bv)).setCell ⟨w.heap.size+1,2,none⟩ (.int .i64 bw)).setCell ⟨w.heap.size+1,3,none⟩ (.int .i64 c0)).setCell ⟨w.heap.size+1,4,none⟩ (.int .u64 c3)).setCell ⟨w.heap.size+1,5,none⟩ (.int .i64 c1)).setCell ⟨w.heap.size+1,6,none⟩ (.int .i64 c4))).drew=bi:=⟨_,rfl⟩;have cA:Hid (Ch (aK (w.heap.size+1)) w2 bi):=Z (by rw[<-cm];exact(((((((((Ch.refl _ _).only _ _).only _ _).only _ _).only _ _).only _ _).only _ _).only _ _)).drew);have ct:Hid (Row bi (w.heap.size+1) 184 [.int .i64 c2,.int .i64 bv,.int .i64 bw,.int .i64 c0,.int .u64 c3,.int .i64 c1,.int .i64 c4]):=Z (by rw[<-cm];exact((((((((f.out.set 0 _).set 1 _).set 2 _).set 3 _).set 4 _).set 5 _).set 6 _)).drew);rw[cm];have cL:=Z (i.out.plain (H.out.fresh (Nat.le_succ _)) (Nat.le_succ _) cA.out);have cs:=Z (B.out.ch cA.out (fun e=>by have Q:w.heap.size=w.heap.size+1:=e;omega));clear cm l k1 eL eO eS eU eW eY fb g4 gb gc ge gf gk go gp gr Q gs gt gA gC;clear i B f t cA;obtain⟨w2,q⟩:∃w2,bi=w2:=⟨_,rfl⟩;rw[q]at cL cs ct⊢;have i:=cL;have B:=cs;have f:=ct;clear q cL cs ct;have k1:=i.out.at_.c0;rw[y.out,ce.out]at k1;have o:=i.out.at_.cP;go_wp2_with fail
   go_region_held3 (fun w'=>w'.cell? ⟨L.mb,0,none⟩=some (.slice (some ⟨g,0,none⟩) N L.BT)/\w'.cell? ⟨L.mb,1007,none⟩=some (.pointer (some ⟨L.m,0,none⟩))) (go_keep) ((go_at_call 137;refine(P.out _ i.out.at_.drew).mono ?_;rintro e E ⟨⟨u,rfl,ap⟩,cd,X,p⟩;have A:=Z ((i.out.af (Ch.refl _ _).drew).trans (Gr.refl _) p);have a:=Z (((Nx.af (Ch.refl _ w2).drew).trans p.nx).row B.out (H.out.fresh (Nat.le_refl _)));have d:=Z (((Nx.af (Ch.refl _ w2).drew).trans p.nx).row f.out (H.out.fresh (Nat.le_succ _)));clear p ap k1 o;have k1:=A.out.at_.c0;rw[y.out,ce.out]at k1;have o:=A.out.at_.cP))
   all_goals
    clear k1 o;have x0:=d.out.1.c1;have a0:=a.out.1.c1;have f0:=a.out.1.free 0;have x1:=d.out.1.k 1 rfl;have a1:=a.out.1.k 1 rfl;have f1:=a.out.1.free 1;have x2:=d.out.1.k 2 rfl;have a2:=a.out.1.k 2 rfl;have f2:=a.out.1.free 2;have x3:=d.out.1.k 3 rfl;have a3:=a.out.1.k 3 rfl;have f3:=a.out.1.free 3;have x4:=d.out.1.k 4 rfl;have a4:=a.out.1.k 4 rfl;have f4:=a.out.1.free 4;have x5:=d.out.1.k 5 rfl;have ab:=a.out.1.k 5 rfl;have f5:=a.out.1.free 5;have x6:=d.out.1.k 6 rfl;have ad:=a.out.1.k 6 rfl;have f6:=a.out.1.free 6;go_wp2_with fail
    obtain⟨w4,r⟩:=nm ((((((((E.setCell ⟨w.heap.size,0,none⟩ (.int .i64 c2)).setCell ⟨w.heap.size,1,none⟩ (.int .i64 bv)).setCell ⟨w.heap.size,2,none⟩ (.int .i64 bw)).setCell ⟨w.heap.size,3,none⟩ (.int .i64 c0)).setCell ⟨w.heap.size,4,none⟩ (.int .u64 c3)).setCell ⟨w.heap.size,5,none⟩ (.int .i64 c1)).setCell ⟨w.heap.size,6,none⟩ (.int .i64 c4)));have V:Hid (Row w4 w.heap.size 184 [.int .i64 c2,.int .i64 bv,.int .i64 bw,.int .i64 c0,.int .u64 c3,.int .i64 c1,.int .i64 c4]):=Z (by rw[<-r];exact(((((((a.out.1.set 0 _).set 1 _).set 2 _).set 3 _).set 4 _).set 5 _).set 6 _));have U:Hid (Ch (aK w.heap.size) E w4):=Z (by rw[<-r];exact((((((((Ch.refl _ _).only _ _).only _ _).only _ _).only _ _).only _ _).only _ _).only _ _));rw[r];clear r x0 x1 x2 x3 x4 x5 x6 a0 a1 a2 a3 a4 ab ad f0 f1 f2 f3 f4 f5 f6;have W:=A.out.plain a.out.2 (Nat.le_refl _) U.out;obtain⟨y0,c5,c6,c7,c8,c9,cb⟩:=V.out.c7;refine bodyPost_ret (v:=.tuple #[aI ⟨c2,bv,bw,c0,c3,c1,c4⟩,.int .i64 n]) ?_ rfl ?_
    ·simp[results,Tryz.f132,go_sem,y0,c5,c6,c7,c8,c9,cb,aI,aC]
    ·exact⟨rfl,cd,X,W⟩
  ·have R:0<=pc:=by omega
   have en:decide (0<=pc)=true:=(by simpa using R);have gR:decide (pc<(N:Int))=false:=(by simpa using al);have dC:x=⟨0,0,0,0,0,0,0⟩:=(by have:=cC.out;dsimp only at this;rw[this];exact ly (fun e=>by have Q:=e.2;rw[y.out]at Q;omega));subst dC;obtain⟨w1,j⟩:=nm ((w.alloc (.cells #[.int .i64 0,.int .i64 0,.int .i64 0,.int .i64 0,.int .u64 0,.int .i64 0,.int .i64 0] 184)).alloc (.cells #[.int .i64 0,.int .i64 0,.int .i64 0,.int .i64 0,.int .u64 0,.int .i64 0,.int .i64 0] 184));have J:Hid (Ch ag w w1):=Z (by rw[<-j];exact((Ch.refl _ _).alloc _).alloc _);have z:=Z (H.out.hg J.out);have S:Hid (Row w1 w.heap.size 184 [.int .i64 0,.int .i64 0,.int .i64 0,.int .i64 0,.int .u64 0,.int .i64 0,.int .i64 0]):=Z (by rw[<-j];exact(Row.new w _ _).alloc _);have T:Hid (Row w1 (w.heap.size+1) 184 [.int .i64 0,.int .i64 0,.int .i64 0,.int .i64 0,.int .u64 0,.int .i64 0,.int .i64 0]):=Z (by
    rw[<-j];have:=Row.new (w.alloc (.cells #[.int .i64 0,.int .i64 0,.int .i64 0,.int .i64 0,.int .u64 0,.int .i64 0,.int .i64 0] 184)) #[.int .i64 0,.int .i64 0,.int .i64 0,.int .i64 0,.int .u64 0,.int .i64 0,.int .i64 0] 184
    rwa [World.size_alloc]at this)
   have l:=z.out.at_.tq I.out M.out;rw[O.out]at l;have k1:=z.out.at_.c0;rw[y.out]at k1;clear cq k0 o;go_enter func132,ntmps132
   go_upto_region 2 with fail
   try rw[j]
   clear j;go_quiet (fail)
   obtain⟨w2,q⟩:=nm (w1.drewN nq);have t:=Z (Ch.dN (D:=ag) q);rw[q];clear q;have i:=Z (z.out.af t.out);have B:=Z (S.out.ch t.out (fun h=>h));have f:=Z (T.out.ch t.out (fun h=>h));clear l k1;have l:=i.out.at_.tq I.out M.out;rw[O.out]at l;have k1:=i.out.at_.c0;rw[y.out]at k1;have o:=i.out.at_.cP;go_wp2_with fail
   go_region_held3 (fun w'=>w'.cell? ⟨L.mb,0,none⟩=some (.slice L.lc N L.BT)/\w'.cell? ⟨L.mb,1007,none⟩=some (.pointer (some ⟨L.m,0,none⟩))) (go_keep) ((go_at_call 137;refine(P.out _ i.out.at_.drew).mono ?_;rintro e E ⟨⟨u,rfl,ap⟩,cd,X,p⟩;have A:=Z ((i.out.af (Ch.refl _ _).drew).trans (Gr.refl _) p);have a:=Z (((Nx.af (Ch.refl _ w2).drew).trans p.nx).row B.out (H.out.fresh (Nat.le_refl _)));have d:=Z (((Nx.af (Ch.refl _ w2).drew).trans p.nx).row f.out (H.out.fresh (Nat.le_succ _)));clear p ap l k1 o;have k1:=A.out.at_.c0;rw[y.out]at k1;have o:=A.out.at_.cP))
   all_goals
    clear k1 o;have x0:=d.out.1.c1;have a0:=a.out.1.c1;have f0:=a.out.1.free 0;have x1:=d.out.1.k 1 rfl;have a1:=a.out.1.k 1 rfl;have f1:=a.out.1.free 1;have x2:=d.out.1.k 2 rfl;have a2:=a.out.1.k 2 rfl;have f2:=a.out.1.free 2;have x3:=d.out.1.k 3 rfl;have a3:=a.out.1.k 3 rfl;have f3:=a.out.1.free 3;have x4:=d.out.1.k 4 rfl;have a4:=a.out.1.k 4 rfl;have f4:=a.out.1.free 4;have x5:=d.out.1.k 5 rfl;have ab:=a.out.1.k 5 rfl;have f5:=a.out.1.free 5;have x6:=d.out.1.k 6 rfl;have ad:=a.out.1.k 6 rfl;have f6:=a.out.1.free 6;go_wp2_with fail
    obtain⟨w4,r⟩:=nm ((((((((E.setCell ⟨w.heap.size,0,none⟩ (.int .i64 0)).setCell ⟨w.heap.size,1,none⟩ (.int .i64 0)).setCell ⟨w.heap.size,2,none⟩ (.int .i64 0)).setCell ⟨w.heap.size,3,none⟩ (.int .i64 0)).setCell ⟨w.heap.size,4,none⟩ (.int .u64 0)).setCell ⟨w.heap.size,5,none⟩ (.int .i64 0)).setCell ⟨w.heap.size,6,none⟩ (.int .i64 0)));have V:Hid (Row w4 w.heap.size 184 [.int .i64 0,.int .i64 0,.int .i64 0,.int .i64 0,.int .u64 0,.int .i64 0,.int .i64 0]):=Z (by rw[<-r];exact(((((((a.out.1.set 0 _).set 1 _).set 2 _).set 3 _).set 4 _).set 5 _).set 6 _));have U:Hid (Ch (aK w.heap.size) E w4):=Z (by rw[<-r];exact((((((((Ch.refl _ _).only _ _).only _ _).only _ _).only _ _).only _ _).only _ _).only _ _));rw[r];clear r x0 x1 x2 x3 x4 x5 x6 a0 a1 a2 a3 a4 ab ad f0 f1 f2 f3 f4 f5 f6;have W:=A.out.plain a.out.2 (Nat.le_refl _) U.out;obtain⟨y0,c5,c6,c7,c8,c9,cb⟩:=V.out.c7;refine bodyPost_ret (v:=.tuple #[aI ⟨0,0,0,0,0,0,0⟩,.int .i64 n]) ?_ rfl ?_
    ·simp[results,Tryz.f132,go_sem,y0,c5,c6,c7,c8,c9,cb,aI,aC]
    ·exact⟨rfl,cd,X,W⟩
end
end
section
section
variable{w:World}{χ:Nat->a4}{L:cw}{Y:Var}{C:KC}{K:KS}
theorem rS(i:Nat)(am:i<K.wk.length)(c:bK)(b q:Nat)(al:aj K c)(ap:aP L Y c b q)(U:∀k,k<32->aH ((K.F c).r k))(a f g d j l:Int)(c0:0<=a/\a<32)(c3:aH d)(h:ae w χ L Y C K):
 Calls prog 165 #[.pointer (some ⟨L.mb,0,none⟩),.pointer (some ⟨L.wb,i*38,none⟩),.pointer (some ⟨b,q,none⟩),.agg #[.int .i64 31,.int .i64 a,.int .i64 f,.int .i64 g,.int .u64 d,.int .i64 j,.int .i64 l]] w (dG (bb K i c ⟨31,a,f,g,d,j,l⟩) χ L Y C K w):=by
 have H:=Z h;have D:=Z al;have F:=Z ap;have a2:=Z am;obtain⟨J,I,a0,Q,s⟩:=h.pre 31 a f g d j l;obtain⟨c9,cb⟩:=c0;obtain⟨M,W⟩:∃y,(K.F c).r a.toNat=y:=⟨_,rfl⟩;have u:=Z W;have P:=Z (U a.toNat (by omega));rw[W]at P;obtain⟨c7,c8⟩:=P.out;clear W;obtain⟨t0,t1,t2,t3,t4,t5,t6⟩:=s.out.1.c7;have n:=Q.out.at_.az D.out F.out a.toNat (by omega);rw[u.out]at n;obtain⟨ad,G⟩:=nm (du (K.F c).r ⟨31,a,f,g,d,j,l⟩);have X:=Z G;have S:=lg (x:=⟨31,a,f,g,d,j,l⟩) U c3;rw[G]at S;have bi:=Z S;have a1:Hid (∀w1:World,Ch ag w w1->fj w1 b q (K.F c).pc (K.F c).r):=Z (fun w1 c1=>by obtain⟨pre,post,v,c2⟩:=(h.af c1).cur D.out F.out;exact c2.fr);have HA:=Z (fun w h=>ke b q (K.F c).pc (K.F c).r ⟨31,a,f,g,d,j,l⟩ w h);rw[G]at HA;unfold aI at HA;try dsimp only at HA
 clear G S;obtain⟨p,T⟩:=nm (K.mem.acc 1 ad 0 M);have a3:=Z T;have O:=Z (fun w h=>CC (K:=K) (w:=w) (χ:=χ) (L:=L) (Y:=Y) (C:=C) ad M bi.out P.out h);rw[T]at O;clear T;obtain⟨r,m'⟩:=p;clear h al ap U am;cases r with
 |none=>
  have E:Hid (bb K i c ⟨31,a,f,g,d,j,l⟩=(2,{K with mem:=m'})):=Z (by unfold bb;dsimp only;rw[if_pos rfl,X.out,u.out,a3.out];rfl);go_enter func165,ntmps165
  go_wp2_with fail
  try rw[I]
  go_region_held3 (fun w'=>w'.cell? ⟨w.heap.size,0,none⟩=some (.int .i64 31)/\w'.cell? ⟨w.heap.size,1,none⟩=some (.int .i64 a)/\w'.cell? ⟨w.heap.size,2,none⟩=some (.int .i64 f)/\w'.cell? ⟨w.heap.size,3,none⟩=some (.int .i64 g)/\w'.cell? ⟨w.heap.size,4,none⟩=some (.int .u64 d)/\w'.cell? ⟨w.heap.size,5,none⟩=some (.int .i64 j)/\w'.cell? ⟨w.heap.size,6,none⟩=some (.int .i64 l)/\w'.cell? ⟨b,q+1+a.toNat,none⟩=some (.int .u64 M)) (go_keep) ((go_at_call 140;refine(HA.out J.drew (a1.out _ a0.out.drew)).mono ?_;rintro e w1 ⟨rfl,B⟩;have t:Hid (Ch ag J w1):=Z (Ch.trans (Ch.refl _ _).drew B);have m:=Z (Q.out.af t.out);have z:Hid (aj K c/\aP L Y c b q):=Z ⟨D.out,F.out⟩;have N:=Z ((Nx.af t.out).row s.out.1 s.out.2);clear B t0 t1 t2 t3 t4 t5 t6 n;obtain⟨t0,t1,t2,t3,t4,t5,t6⟩:=N.out.1.c7;have n:=m.out.at_.az z.out.1 z.out.2 a.toNat (by omega);rw[u.out]at n))
  clear I
  all_goals
   have k1:=m.out.at_.cP;go_wp2_with fail
   refine(O.out _ m.out.at_).mono ?_;rintro e w2 ⟨⟨v,rfl,V⟩,av,ab,A⟩;obtain⟨tt,cd,rfl⟩:=V;have o:=Z (m.out.trans (Gr.refl _) A);clear A k1 n t0 t1 t2 t3 t4 t5 t6;go_wp2_with fail
   go_ret;rw[E.out];exact⟨rfl,av,ab,o.out.at_,o.out.nx,fun _=>o.out.yk⟩
 |some r=>
  have E:Hid (bb K i c ⟨31,a,f,g,d,j,l⟩=(0,({K with mem:=m'}:KS).be i {({K with mem:=m'}:KS).W i with hand:=0})):=Z (by unfold bb;dsimp only;rw[if_pos rfl,X.out,u.out,a3.out];rfl);go_enter func165,ntmps165
  go_wp2_with fail
  try rw[I]
  go_region_held3 (fun w'=>w'.cell? ⟨w.heap.size,0,none⟩=some (.int .i64 31)/\w'.cell? ⟨w.heap.size,1,none⟩=some (.int .i64 a)/\w'.cell? ⟨w.heap.size,2,none⟩=some (.int .i64 f)/\w'.cell? ⟨w.heap.size,3,none⟩=some (.int .i64 g)/\w'.cell? ⟨w.heap.size,4,none⟩=some (.int .u64 d)/\w'.cell? ⟨w.heap.size,5,none⟩=some (.int .i64 j)/\w'.cell? ⟨w.heap.size,6,none⟩=some (.int .i64 l)/\w'.cell? ⟨b,q+1+a.toNat,none⟩=some (.int .u64 M)) (go_keep) ((go_at_call 140;refine(HA.out J.drew (a1.out _ a0.out.drew)).mono ?_;rintro e w1 ⟨rfl,B⟩;have t:Hid (Ch ag J w1):=Z (Ch.trans (Ch.refl _ _).drew B);have m:=Z (Q.out.af t.out);have z:Hid (aj K c/\aP L Y c b q):=Z ⟨D.out,F.out⟩;have N:=Z ((Nx.af t.out).row s.out.1 s.out.2);clear B t0 t1 t2 t3 t4 t5 t6 n;obtain⟨t0,t1,t2,t3,t4,t5,t6⟩:=N.out.1.c7;have n:=m.out.at_.az z.out.1 z.out.2 a.toNat (by omega);rw[u.out]at n))
  clear I
  all_goals
   have k1:=m.out.at_.cP;go_wp2_with fail
   refine(O.out _ m.out.at_).mono ?_;rintro e w2 ⟨⟨v,rfl,V⟩,av,ab,A⟩;obtain rfl:v=.nilIface:=V;have o:=Z (m.out.trans (Gr.refl _) A);clear A k1 n t0 t1 t2 t3 t4 t5 t6;have s2:=o.out.at_.e7 (i:=i) (by exact a2.out);have c6:=o.out.at_.tn (i*38+1);have bw:=Z (o.out.at_.jx (i:=i) (by exact a2.out) 0);go_wp2_with fail
   go_ret;rw[E.out];obtain⟨c5,bv,c4⟩:=bw.out;have R:=o.out.trans (Gr.of_eq rfl) c4;exact⟨rfl,c5,bv,R.at_,R.nx,fun _=>R.yk⟩
theorem rT(i:Nat)(dC:i<K.wk.length)(c:bK)(b n:Nat)(dr:aj K c)(dN:aP L Y c b n)(ad:∀k,k<32->aH ((K.F c).r k))(a u d s z A:Int)(eU:0<=a/\a<32)(eY:0<=d/\d<32)(fd:aH s)(ce:∀v,(K.mem.acc 4 (du (K.F c).r ⟨32,a,u,d,s,z,A⟩) ((K.F c).r a.toNat) ((K.F c).r d.toNat)).1=some v->aH v)(h:ae w χ L Y C K):
 Calls prog 165 #[.pointer (some ⟨L.mb,0,none⟩),.pointer (some ⟨L.wb,i*38,none⟩),.pointer (some ⟨b,n,none⟩),.agg #[.int .i64 32,.int .i64 a,.int .i64 u,.int .i64 d,.int .u64 s,.int .i64 z,.int .i64 A]] w (dG (bb K i c ⟨32,a,u,d,s,z,A⟩) χ L Y C K w):=by
 have H:=Z h;have t:=Z dr;have D:=Z dN;have es:=Z dC;obtain⟨X,W,c1,a0,S⟩:=h.pre 32 a u d s z A;obtain⟨g4,gb⟩:=eU;obtain⟨Q,ci⟩:∃y,(K.F c).r a.toNat=y:=⟨_,rfl⟩;have O:=Z ci;have cA:=Z (ad a.toNat (by omega));rw[ci]at cA;obtain⟨fz,fE⟩:=cA.out;clear ci;obtain⟨gc,ge⟩:=eY;obtain⟨R,cl⟩:∃y,(K.F c).r d.toNat=y:=⟨_,rfl⟩;have F:=Z cl;have c6:=Z (ad d.toNat (by omega));rw[cl]at c6;obtain⟨fK,fT⟩:=c6.out;clear cl;obtain⟨t0,t1,t2,t3,t4,t5,t6⟩:=S.out.1.c7;have l:=a0.out.at_.az t.out D.out a.toNat (by omega);rw[O.out]at l;have j:=a0.out.at_.az t.out D.out d.toNat (by omega);rw[F.out]at j;obtain⟨a2,bv⟩:=nm (du (K.F c).r ⟨32,a,u,d,s,z,A⟩);have al:=Z bv;have cb:=lg (x:=⟨32,a,u,d,s,z,A⟩) ad fd;rw[bv]at cb;have c0:=Z cb;have c2:Hid (∀w1:World,Ch ag w w1->fj w1 b n (K.F c).pc (K.F c).r):=Z (fun w1 eW=>by obtain⟨pre,post,v,fb⟩:=(h.af eW).cur t.out D.out;exact fb.fr);have HA:=Z (fun w h=>ke b n (K.F c).pc (K.F c).r ⟨32,a,u,d,s,z,A⟩ w h);rw[bv]at HA;unfold aI at HA;try dsimp only at HA
 clear bv cb;obtain⟨p,bw⟩:=nm (K.mem.acc 4 a2 Q R);have c4:=Z bw;have av:=Z (fun w h=>EP (K:=K) (w:=w) (χ:=χ) (L:=L) (Y:=Y) (C:=C) a2 Q R c0.out c6.out h);rw[al.out,O.out,F.out,bw]at ce;rw[bw]at av;have ex:=Z ce;have eA:=Z ad;clear bw ce;obtain⟨r,m'⟩:=p;clear h dr dN ad dC;cases r with
 |none=>
  have E:Hid (bb K i c ⟨32,a,u,d,s,z,A⟩=(2,{K with mem:=m'})):=Z (by unfold bb;dsimp only;rw[if_neg (by decide),al.out,O.out,F.out,c4.out]);go_enter func165,ntmps165
  go_wp2_with fail
  try rw[W]
  go_region_held3 (fun w'=>w'.cell? ⟨w.heap.size,0,none⟩=some (.int .i64 32)/\w'.cell? ⟨w.heap.size,1,none⟩=some (.int .i64 a)/\w'.cell? ⟨w.heap.size,2,none⟩=some (.int .i64 u)/\w'.cell? ⟨w.heap.size,3,none⟩=some (.int .i64 d)/\w'.cell? ⟨w.heap.size,4,none⟩=some (.int .u64 s)/\w'.cell? ⟨w.heap.size,5,none⟩=some (.int .i64 z)/\w'.cell? ⟨w.heap.size,6,none⟩=some (.int .i64 A)/\w'.cell? ⟨b,n+1+a.toNat,none⟩=some (.int .u64 Q)) (go_keep) ((go_at_call 140;refine(HA.out X.drew (c2.out _ c1.out.drew)).mono ?_;rintro e w1 ⟨rfl,P⟩;have N:Hid (Ch ag X w1):=Z (Ch.trans (Ch.refl _ _).drew P);have m:=Z (a0.out.af N.out);have q:Hid (aj K c/\aP L Y c b n):=Z ⟨t.out,D.out⟩;have B:=Z ((Nx.af N.out).row S.out.1 S.out.2);clear P t0 t1 t2 t3 t4 t5 t6 l j;obtain⟨t0,t1,t2,t3,t4,t5,t6⟩:=B.out.1.c7;have l:=m.out.at_.az q.out.1 q.out.2 a.toNat (by omega);rw[O.out]at l))
  clear W
  all_goals
   have k1:=m.out.at_.cP;have j:=m.out.at_.az q.out.1 q.out.2 d.toNat (by omega);rw[F.out]at j;go_wp2_with fail
   go_region_held3 (fun w'=>w'.cell? ⟨L.mb,1007,none⟩=some (.pointer (some ⟨L.m,0,none⟩))/\w'.cell? ⟨w.heap.size,3,none⟩=some (.int .i64 d)/\w'.cell? ⟨b,n+1+d.toNat,none⟩=some (.int .u64 R)) (go_keep) ((go_at_call 204;refine(av.out _ m.out.at_.drew).mono ?_;rintro e w2 ⟨⟨v,rfl,fn⟩,ec,cC,G⟩;obtain⟨tt,gf,rfl⟩:=fn;have f:=Z ((m.out.af (Ch.refl _ _).drew).trans (Gr.refl _) G);have M:=Z (((Nx.af (Ch.refl _ w1).drew).trans G.nx).row B.out.1 B.out.2);have g:=Z (f.out.cur t.out D.out (Gr.of_eq rfl) rfl);clear G t0 t1 t2 t3 t4 t5 t6 l j k1;have k1:=f.out.at_.cP;have t1:=M.out.1.k 1 rfl;have t3:=M.out.1.k 3 rfl;have l:=f.out.at_.az g.out.1 g.out.2 a.toNat (by omega);have j:=f.out.at_.az g.out.1 g.out.2 d.toNat (by omega);rw[show(({K with mem:=m'}:KS).F c).r d.toNat=R from F.out]at j))
   all_goals
    clear l j k1;go_wp2_with fail
    go_ret;rw[E.out];exact⟨rfl,_,_,f.out.at_,f.out.nx,fun _=>f.out.yk⟩
 |some I=>
  have et:Hid (aH I):=Z (ex.out I rfl);obtain⟨K1,a3⟩:=mn (({K with mem:=m'}:KS).au c a.toNat I);have ap:=Z a3;have c3:Hid (Gr K K1):=Z (by rw[a3];exact(Gr.of_eq (K:=K) (K':={K with mem:=m'}) rfl).trans (bs (t.out.gr (K':={K with mem:=m'}) (Gr.of_eq rfl) rfl) _));have c7:Hid (K1.wk.length=K.wk.length):=Z (by rw[a3];exact(bm _ _));have eL:Hid (aH ((K1.F c).r 16)):=Z (by
   rw[a3];have eS:((({K with mem:=m'}:KS).au c a.toNat I).F c).r 16=fO (K.F c).r a.toNat I 16:=by
    show((KS.cH _ c _).F c).r 16=_
    rw[CG (t.out.gr (K':={K with mem:=m'}) (Gr.of_eq rfl) rfl)];rfl
   rw[eS];unfold fO;split
   ·exact et.out
   ·exact eA.out 16 (by omega))
  obtain⟨cq,ch⟩:=nm ((K1.F c).r 16);have c5:=Z ch;have eC:Hid (aH cq):=Z (by rw[<-ch];exact eL.out);obtain⟨ct,e1⟩:=nm (K1.mem.wid a2);have bi:=Z e1;obtain⟨cS,J⟩:=nm (gT ct Q);have am:=Z J;clear a3 ch e1 J;by_cases cd:I=cS
  ·subst cd
   have E:Hid (bb K i c ⟨32,a,u,d,s,z,A⟩=(0,eB K1 i cq)):=Z (by unfold bb;dsimp only;rw[if_neg (by decide),al.out,O.out,F.out,c4.out];dsimp only;rw[<-ap.out,bi.out,am.out,if_pos rfl,c5.out]);go_enter func165,ntmps165
   go_wp2_with fail
   try rw[W]
   go_region_held3 (fun w'=>w'.cell? ⟨w.heap.size,0,none⟩=some (.int .i64 32)/\w'.cell? ⟨w.heap.size,1,none⟩=some (.int .i64 a)/\w'.cell? ⟨w.heap.size,2,none⟩=some (.int .i64 u)/\w'.cell? ⟨w.heap.size,3,none⟩=some (.int .i64 d)/\w'.cell? ⟨w.heap.size,4,none⟩=some (.int .u64 s)/\w'.cell? ⟨w.heap.size,5,none⟩=some (.int .i64 z)/\w'.cell? ⟨w.heap.size,6,none⟩=some (.int .i64 A)/\w'.cell? ⟨b,n+1+a.toNat,none⟩=some (.int .u64 Q)) (go_keep) ((go_at_call 140;refine(HA.out X.drew (c2.out _ c1.out.drew)).mono ?_;rintro e w1 ⟨rfl,P⟩;have N:Hid (Ch ag X w1):=Z (Ch.trans (Ch.refl _ _).drew P);have m:=Z (a0.out.af N.out);have q:Hid (aj K c/\aP L Y c b n):=Z ⟨t.out,D.out⟩;have B:=Z ((Nx.af N.out).row S.out.1 S.out.2);clear P t0 t1 t2 t3 t4 t5 t6 l j;obtain⟨t0,t1,t2,t3,t4,t5,t6⟩:=B.out.1.c7;have l:=m.out.at_.az q.out.1 q.out.2 a.toNat (by omega);rw[O.out]at l))
   clear W
   all_goals
    have k1:=m.out.at_.cP;have j:=m.out.at_.az q.out.1 q.out.2 d.toNat (by omega);rw[F.out]at j;go_wp2_with fail
    go_region_held3 (fun w'=>w'.cell? ⟨L.mb,1007,none⟩=some (.pointer (some ⟨L.m,0,none⟩))/\w'.cell? ⟨w.heap.size,3,none⟩=some (.int .i64 d)/\w'.cell? ⟨b,n+1+d.toNat,none⟩=some (.int .u64 R)) (go_keep) ((go_at_call 204;refine(av.out _ m.out.at_.drew).mono ?_;rintro e w2 ⟨rfl,ec,cC,G⟩;have f:=Z ((m.out.af (Ch.refl _ _).drew).trans (Gr.refl _) G);have M:=Z (((Nx.af (Ch.refl _ w1).drew).trans G.nx).row B.out.1 B.out.2);have g:=Z (f.out.cur t.out D.out (Gr.of_eq rfl) rfl);clear G t0 t1 t2 t3 t4 t5 t6 l j k1;have k1:=f.out.at_.cP;have t1:=M.out.1.k 1 rfl;have t3:=M.out.1.k 3 rfl;have l:=f.out.at_.az g.out.1 g.out.2 a.toNat (by omega);have j:=f.out.at_.az g.out.1 g.out.2 d.toNat (by omega);rw[show(({K with mem:=m'}:KS).F c).r d.toNat=R from F.out]at j))
    all_goals
     have c9:=f.out.at_.g1 g.out.1 g.out.2 (n+1+a.toNat);have ab:=f.out.at_.drew.a6 g.out.1 g.out.2 a.toNat (by omega) I;rw[<-ap.out]at ab;obtain⟨en,cL,T⟩:=ab;obtain⟨cs,U⟩:=nm (w2.drew.setCell ⟨b,n+1+a.toNat,none⟩ (.int .u64 I));rw[U]at T;have o:=Z ((f.out.af (Ch.refl _ _).drew).trans (Gr.of_eq rfl) T);have a1:=Z (o.out.cur t.out D.out c3.out c7.out);clear T;have k3:=o.out.at_.cP;have cm:=o.out.at_.az a1.out.1 a1.out.2 16 (by omega);rw[c5.out]at cm;go_wp2_with fail
     go_still_tail 6,(by kernel_rfl)
     change wpList _ _ _ _ _ w2.drew;go_wp2_with fail
     try rw[U]
     clear U l j k1 c9 t1 t3;have V:=yI a2 c0.out o.out.at_;rw[bi.out]at V;refine V.mono ?_;rintro e w4 ⟨rfl,rfl⟩;clear V;go_wp2_with fail
     have J:=j8 ct Q cs;rw[am.out]at J;refine J.mono ?_;rintro e fo ⟨rfl,rfl⟩;clear J;go_wp2_with fail
     refine(o7 (K:=K1) i (by rw[c7.out];exact es.out) cq eC.out o.out.at_).mono ?_;rintro e g2 ⟨rfl,fr,eO,cW⟩;have c8:=Z (o.out.trans c3.out cW);clear cW;go_wp2_with fail
     go_ret;rw[E.out];exact⟨rfl,fr,eO,c8.out.at_,c8.out.nx,fun _=>c8.out.yk⟩
  ·have E:Hid (bb K i c ⟨32,a,u,d,s,z,A⟩=(0,K1)):=Z (by unfold bb;dsimp only;rw[if_neg (by decide),al.out,O.out,F.out,c4.out];dsimp only;rw[<-ap.out,bi.out,am.out,if_neg cd])
   go_enter func165,ntmps165
   go_wp2_with fail
   try rw[W]
   go_region_held3 (fun w'=>w'.cell? ⟨w.heap.size,0,none⟩=some (.int .i64 32)/\w'.cell? ⟨w.heap.size,1,none⟩=some (.int .i64 a)/\w'.cell? ⟨w.heap.size,2,none⟩=some (.int .i64 u)/\w'.cell? ⟨w.heap.size,3,none⟩=some (.int .i64 d)/\w'.cell? ⟨w.heap.size,4,none⟩=some (.int .u64 s)/\w'.cell? ⟨w.heap.size,5,none⟩=some (.int .i64 z)/\w'.cell? ⟨w.heap.size,6,none⟩=some (.int .i64 A)/\w'.cell? ⟨b,n+1+a.toNat,none⟩=some (.int .u64 Q)) (go_keep) ((go_at_call 140;refine(HA.out X.drew (c2.out _ c1.out.drew)).mono ?_;rintro e w1 ⟨rfl,P⟩;have N:Hid (Ch ag X w1):=Z (Ch.trans (Ch.refl _ _).drew P);have m:=Z (a0.out.af N.out);have q:Hid (aj K c/\aP L Y c b n):=Z ⟨t.out,D.out⟩;have B:=Z ((Nx.af N.out).row S.out.1 S.out.2);clear P t0 t1 t2 t3 t4 t5 t6 l j;obtain⟨t0,t1,t2,t3,t4,t5,t6⟩:=B.out.1.c7;have l:=m.out.at_.az q.out.1 q.out.2 a.toNat (by omega);rw[O.out]at l))
   clear W
   all_goals
    have k1:=m.out.at_.cP;have j:=m.out.at_.az q.out.1 q.out.2 d.toNat (by omega);rw[F.out]at j;go_wp2_with fail
    go_region_held3 (fun w'=>w'.cell? ⟨L.mb,1007,none⟩=some (.pointer (some ⟨L.m,0,none⟩))/\w'.cell? ⟨w.heap.size,3,none⟩=some (.int .i64 d)/\w'.cell? ⟨b,n+1+d.toNat,none⟩=some (.int .u64 R)) (go_keep) ((go_at_call 204;refine(av.out _ m.out.at_.drew).mono ?_;rintro e w2 ⟨rfl,ec,cC,G⟩;have f:=Z ((m.out.af (Ch.refl _ _).drew).trans (Gr.refl _) G);have M:=Z (((Nx.af (Ch.refl _ w1).drew).trans G.nx).row B.out.1 B.out.2);have g:=Z (f.out.cur t.out D.out (Gr.of_eq rfl) rfl);clear G t0 t1 t2 t3 t4 t5 t6 l j k1;have k1:=f.out.at_.cP;have t1:=M.out.1.k 1 rfl;have t3:=M.out.1.k 3 rfl;have l:=f.out.at_.az g.out.1 g.out.2 a.toNat (by omega);have j:=f.out.at_.az g.out.1 g.out.2 d.toNat (by omega);rw[show(({K with mem:=m'}:KS).F c).r d.toNat=R from F.out]at j))
    all_goals
     have c9:=f.out.at_.g1 g.out.1 g.out.2 (n+1+a.toNat);have ab:=f.out.at_.drew.a6 g.out.1 g.out.2 a.toNat (by omega) I;rw[<-ap.out]at ab;obtain⟨en,cL,T⟩:=ab;obtain⟨cs,U⟩:=nm (w2.drew.setCell ⟨b,n+1+a.toNat,none⟩ (.int .u64 I));rw[U]at T;have o:=Z ((f.out.af (Ch.refl _ _).drew).trans (Gr.of_eq rfl) T);have a1:=Z (o.out.cur t.out D.out c3.out c7.out);clear T;have k3:=o.out.at_.cP;have cm:=o.out.at_.az a1.out.1 a1.out.2 16 (by omega);rw[c5.out]at cm;go_wp2_with fail
     go_still_tail 6,(by kernel_rfl)
     change wpList _ _ _ _ _ w2.drew;go_wp2_with fail
     try rw[U]
     clear U l j k1 c9 t1 t3;have V:=yI a2 c0.out o.out.at_;rw[bi.out]at V;refine V.mono ?_;rintro e w4 ⟨rfl,rfl⟩;clear V;go_wp2_with fail
     have J:=j8 ct Q cs;rw[am.out]at J;refine J.mono ?_;rintro e fo ⟨rfl,rfl⟩;clear J;have hb:(I==cS)=false:=(by rw[beq_eq_false_iff_ne];exact cd);go_wp2_with fail
     go_ret;rw[E.out];exact⟨rfl,en,cL,o.out.at_,o.out.nx,fun _=>o.out.yk⟩
end
end
section
section
variable{w w':World}{χ:Nat->a4}{L:cw}{Y:Var}{C:KC}{K:KS}
def D5(l:List Value)(w:World)(p:Value)(wc:World):Prop:=∃a,p=.pointer (some ⟨a,0,none⟩)/\Row wc a 82 l/\Ch ag w wc/\w.heap.size<=a
theorem jz(id:Int)(c:bK)(b S:Nat)(H:aj K c)(a2:aP L Y c b S)(g f m n o d a:Int)(ap:iD g=true->0<=f/\f<32)(hb:K.out.length<=900000)(h:ae w χ L Y C K):
 Calls prog 134 #[.pointer (some ⟨L.mb,0,none⟩),.int .u64 id,.pointer (some ⟨b,S,none⟩),.agg #[.int .i64 g,.int .i64 f,.int .i64 m,.int .i64 n,.int .u64 o,.int .i64 d,.int .i64 a]] w (de (.tuple #[]) χ L Y C K (cY K id c ⟨g,f,m,n,o,d,a⟩) w):=by
 have c2:=Z H;have c6:=Z a2;have I:=Z hb;obtain⟨F,D,c3,Q,N⟩:=h.rA g f m n o d a;obtain⟨t0,t1⟩:=N.out.c2;have t5:=N.out.k 5 rfl;have t6:=N.out.k 6 rfl;have HA:=Z ap;obtain⟨l,a3⟩:∃y,(K.F c).r 0=y:=⟨_,rfl⟩;have z:=Z a3;have M:=Q.out.at_.az H a2 0 (by omega);rw[a3]at M;clear h H a2 hb ap a3;by_cases q:d=0
 ·have E:Hid (cY K id c ⟨g,f,m,n,o,d,a⟩=K):=Z (by unfold cY;rw[if_pos q])
  subst q;go_enter func134,ntmps134
  go_wp2_with fail
  try rw[D]
  refine bodyPost_ret (results_none rfl _ _ _) rfl ?_;rw[E.out];exact⟨rfl,_,_,Q.out⟩
 ·have cS:(d==0)=false:=by rw[beq_eq_false_iff_ne];exact q
  go_enter func134,ntmps134
  go_wp2_with fail
  try rw[D]
  clear D;go_cut [8] (fun p wc=>D5 [.int .i64 5,.int .i64 0,.int .i64 0,.int .u64 id,.int .i64 d,.int .u64 0,.int .u64 0,.int .u64 0,.int .u64 0,.int .u64 l,.int .u64 0] F p wc)
  case first=>
   have dr:=World.new_ne F ⟨w.heap.size,5,none⟩ t5;have dC:=World.new_ne F ⟨b,S+1+0,none⟩ M;have dN:b≠F.heap.size:=Nat.ne_of_lt (aE M);have e1:w.heap.size≠F.heap.size:=Nat.ne_of_lt (aE t5);go_region_held3 (fun w'=>w'.cell? ⟨w.heap.size,5,none⟩=some (.int .i64 d)/\w'.cell? ⟨b,S+1+0,none⟩=some (.int .u64 l)) (go_keep) (fail)
   all_goals(go_wp2_with fail;go_meet)
   all_goals exact⟨F.heap.size,rfl,(Row.new F _ _).drew,((Ch.refl _ _).alloc _).drew,Nat.le_refl _⟩
  case rest=>
   obtain⟨B,rfl,bi,H,hle⟩:=hcut;have P:=Z bi;have al:=Z H;have X:=Z (Q.out.af al.out);have O:=Z (N.out.ch al.out (fun h=>h));have av:w.heap.size<=B:=Nat.le_trans c3.out.size hle;have c4:=Z av;have cW:b≠B:=(fun e=>by have a1:=aE M;dsimp only at a1;omega);have cq:w.heap.size≠B:=(fun e=>by have a1:=aE t0;dsimp only at a1;omega);have c5:Hid (χ B=.no):=Z (Q.out.at_.fresh hle);clear t0 t1 t5 t6 M bi H hle av;have t0:=O.out.c1;have W:=Z (yP g wc);obtain⟨cC,ab⟩:=nm (iD g);rw[ab]at W;have V:=Z ab;obtain⟨bv,u⟩:∃p,(a==0)=p:=⟨_,rfl⟩;obtain⟨bw,cs⟩:∃p,(a==1)=p:=⟨_,rfl⟩;have cL:=Z u;have G:=Z cs;clear ab;cases cC
   ·have r:Hid ((if iD g=true then(K.F c).r f.toNat else 0)=0):=Z (by rw[if_neg (by rw[V.out];simp)])
    go_wp2_with fail
    refine W.out.mono ?_;rintro e w2 ⟨rfl,rfl⟩;go_upto_region 5 with fail
    have j:=X;have U:=P;have T:=O;clear t0;have A:Hid (((0:Int)==0)=true):=Z rfl;obtain⟨c7,c8,c9,cb,cd,ce,ch,ci,cl,cm,a0⟩:=U.out.Am;have t6:=T.out.k 6 rfl;cases bv
    ·cases bw
     ·have J:¬(a=0∨((a==1)=(0==(0:Int)))):=fun e=>e.elim (fun e=>by rw[beq_eq_false_iff_ne]at u;exact u e) (fun e=>by rw[G.out,A.out]at e;cases e)
      have E:Hid (cY K id c ⟨g,f,m,n,o,d,a⟩=K):=Z (by unfold cY;dsimp only;rw[if_neg q,r.out,z.out,if_neg (J)]);go_wp2_with fail
      go_end0
      rw[E.out];exact⟨rfl,_,_,j.out⟩
     ·have v:a=0∨((a==1)=(0==(0:Int))):=Or.inr (by rw[G.out,A.out])
      have E:Hid (cY K id c ⟨g,f,m,n,o,d,a⟩=tell K ⟨5,0,0,id,d,0,0,0,0,l,0⟩):=Z (by unfold cY;dsimp only;rw[if_neg q,r.out,z.out,if_pos (v)]);go_wp2_with fail
      refine(dz 5 0 0 id d 0 0 0 0 l 0 I.out j.out.at_).mono ?_;rintro e w4 ⟨rfl,x,t,k⟩;have s:=Z (j.out.trans (Gr.refl _) k);clear k;go_wp2_with fail
      go_end0
      rw[E.out];exact⟨rfl,x,t,s.out⟩
    ·have D:a=0:=by simpa using u
     have v:a=0∨((a==1)=(0==(0:Int))):=Or.inl D;have E:Hid (cY K id c ⟨g,f,m,n,o,d,a⟩=tell K ⟨5,0,0,id,d,0,0,0,0,l,0⟩):=Z (by unfold cY;dsimp only;rw[if_neg q,r.out,z.out,if_pos (v)]);go_wp2_with fail
     refine(dz 5 0 0 id d 0 0 0 0 l 0 I.out j.out.at_).mono ?_;rintro e w4 ⟨rfl,x,t,k⟩;have s:=Z (j.out.trans (Gr.refl _) k);clear k;go_wp2_with fail
     go_end0
     rw[E.out];exact⟨rfl,x,t,s.out⟩
   ·obtain⟨ec,en⟩:=HA.out V.out
    obtain⟨i,ad⟩:∃y,(K.F c).r f.toNat=y:=⟨_,rfl⟩;have r:Hid ((if iD g=true then(K.F c).r f.toNat else 0)=i):=Z (by rw[if_pos V.out];exact ad);have c0:=X.out.at_.az c2.out c6.out f.toNat (by omega);rw[ad]at c0;clear ad;have t1:=O.out.k 1 rfl;have a0:=P.out.k 10 rfl;have g10:=P.out.free 10;go_wp2_with fail
    refine W.out.mono ?_;rintro e w2 ⟨rfl,rfl⟩;go_wp2_with fail
    go_still_tail 8,(by kernel_rfl)
    change wpList _ _ _ _ _ wc.drew;go_upto_region 5 with fail
    obtain⟨c1,R⟩:=nm ((wc.setCell ⟨B,10,none⟩ (.int .u64 i)).drew);have am:Hid (Ch (aK B) wc c1):=Z (by rw[<-R];exact((Ch.refl _ _).only _ _).drew);have U:Hid (Row c1 B 82 [.int .i64 5,.int .i64 0,.int .i64 0,.int .u64 id,.int .i64 d,.int .u64 0,.int .u64 0,.int .u64 0,.int .u64 0,.int .u64 l,.int .u64 i]):=Z (by rw[<-R];exact(P.out.set 10 _).drew);have j:=Z (X.out.plain c5.out c4.out am.out);have T:=Z (O.out.ch am.out (fun e=>cq e));rw[R];clear R t0 t1 a0 g10 c0;obtain⟨cA,ct⟩:∃p,(i==(0:Int))=p:=⟨_,rfl⟩;have A:=Z ct;obtain⟨c7,c8,c9,cb,cd,ce,ch,ci,cl,cm,a0⟩:=U.out.Am;have t6:=T.out.k 6 rfl;cases bv
    ·cases bw<;>cases cA
     ·have v:a=0∨((a==1)=(i==(0:Int))):=Or.inr (by rw[G.out,A.out])
      have E:Hid (cY K id c ⟨g,f,m,n,o,d,a⟩=tell K ⟨5,0,0,id,d,0,0,0,0,l,i⟩):=Z (by unfold cY;dsimp only;rw[if_neg q,r.out,z.out,if_pos (v)]);go_wp2_with fail
      refine(dz 5 0 0 id d 0 0 0 0 l i I.out j.out.at_).mono ?_;rintro e w4 ⟨rfl,x,t,k⟩;have s:=Z (j.out.trans (Gr.refl _) k);clear k;go_wp2_with fail
      go_end0
      rw[E.out];exact⟨rfl,x,t,s.out⟩
     ·have J:¬(a=0∨((a==1)=(i==(0:Int)))):=fun e=>e.elim (fun e=>by rw[beq_eq_false_iff_ne]at u;exact u e) (fun e=>by rw[G.out,A.out]at e;cases e)
      have E:Hid (cY K id c ⟨g,f,m,n,o,d,a⟩=K):=Z (by unfold cY;dsimp only;rw[if_neg q,r.out,z.out,if_neg (J)]);go_wp2_with fail
      go_end0
      rw[E.out];exact⟨rfl,_,_,j.out⟩
     ·have J:¬(a=0∨((a==1)=(i==(0:Int)))):=fun e=>e.elim (fun e=>by rw[beq_eq_false_iff_ne]at u;exact u e) (fun e=>by rw[G.out,A.out]at e;cases e)
      have E:Hid (cY K id c ⟨g,f,m,n,o,d,a⟩=K):=Z (by unfold cY;dsimp only;rw[if_neg q,r.out,z.out,if_neg (J)]);go_wp2_with fail
      go_end0
      rw[E.out];exact⟨rfl,_,_,j.out⟩
     ·have v:a=0∨((a==1)=(i==(0:Int))):=Or.inr (by rw[G.out,A.out])
      have E:Hid (cY K id c ⟨g,f,m,n,o,d,a⟩=tell K ⟨5,0,0,id,d,0,0,0,0,l,i⟩):=Z (by unfold cY;dsimp only;rw[if_neg q,r.out,z.out,if_pos (v)]);go_wp2_with fail
      refine(dz 5 0 0 id d 0 0 0 0 l i I.out j.out.at_).mono ?_;rintro e w4 ⟨rfl,x,t,k⟩;have s:=Z (j.out.trans (Gr.refl _) k);clear k;go_wp2_with fail
      go_end0
      rw[E.out];exact⟨rfl,x,t,s.out⟩
    ·have D:a=0:=by simpa using u
     have v:a=0∨((a==1)=(i==(0:Int))):=Or.inl D;have E:Hid (cY K id c ⟨g,f,m,n,o,d,a⟩=tell K ⟨5,0,0,id,d,0,0,0,0,l,i⟩):=Z (by unfold cY;dsimp only;rw[if_neg q,r.out,z.out,if_pos (v)]);go_wp2_with fail
     refine(dz 5 0 0 id d 0 0 0 0 l i I.out j.out.at_).mono ?_;rintro e w4 ⟨rfl,x,t,k⟩;have s:=Z (j.out.trans (Gr.refl _) k);clear k;go_wp2_with fail
     go_end0
     rw[E.out];exact⟨rfl,x,t,s.out⟩
end
end
section
section
variable{w w':World}{χ:Nat->a4}{L:cw}{Y:Var}{C:KC}{K:KS}
section
variable{k0 k1 k2 k3 a0 a1 a2 a3 kd:Int}{b:Nat}{t:TypeId}
end
end
end
section
theorem aG.same{w:World}{b n:Nat}{t:TypeId}{c e d g:List Value}{h v2:Value}{f1 f2:cE}(i:aG w b n t c e h f1)(j:aG w b n t d g v2 f2):c=d/\e=g/\h=v2:=by
 have hlen:c.length=d.length:=by rw[i.len,j.len]
 have r:c++(f1.cells h++e)=d++(f2.cells v2++g):=by
  have k:=i.row;have a:=j.row;unfold Row at k a;rw[k]at a;injection a with a
  injection a with a _ _
  exact congrArg Array.toList a
 obtain⟨o,s⟩:=List.append_inj r hlen;obtain⟨v,p⟩:=List.append_inj s (by rw[cE.cU,cE.cU]);have m:=congrArg (fun l=>l[33]?) v;have q:∀(f:cE) u,(f.cells u)[33]?=some u:=fun f u=>by
  unfold cE.cells;rw[List.getElem?_cons_succ,List.getElem?_append_right (by rw[bq];omega),bq];rfl
 simp only[q]at m;exact⟨o,p,Option.some.inj m⟩
theorem zt{α:Type}(l:List (Int×α))(k:Int)(x y:α):b8 (b8 l k x) k y=b8 l k y:=by
 induction l with
 |nil=>rw[kh,kh,dR,if_pos rfl]
 |cons z l ih=>
  rw[dR,dR];by_cases e:k=z.1
  ·rw[if_pos e,if_pos e,dR,if_pos rfl]
  ·rw[if_neg e,if_neg e,dR,if_neg e,ih]
section
variable{w w':World}{χ:Nat->a4}{L:cw}{Y:Var}{C:KC}{K:KS}
theorem w9{id:Int}{k:Nat}{t:Thread}(c:aw K.ai id=some t)(b:k<t.l.length)(f g:cE):(K.cH (.ai id k) f).cH (.ai id k) g=K.cH (.ai id k) g:=by
 have a:(K.cH (.ai id k) f).T id={K.T id with l:=(K.T id).l.set k {(K.T id).l.getD k default with f:=f}}:=KS.df (by show aw (b8 _ _ _) _=_;rw[aT,if_pos rfl]);show(K.cH (.ai id k) f).b9 id _=K.b9 id _
 rw[a];unfold KS.cH KS.b9;dsimp only;rw[zt]
 congr 2
 rw[KS.df c,List.set_set,List.getD_eq_getElem?_getD,List.getElem?_set_self b];rfl
def Ey(a:KS)(c:bK)(S:aF×List Ev)(K':KS):Prop:=K'={a with mem:=S.1,out:=S.2}∨∃f,K'=({a with mem:=S.1,out:=S.2}:KS).cH c f
theorem Ey.next{c:bK}{a K':KS}{S:aF×List Ev}{id:Int}{k:Nat}{t:Thread}(h:Ey a (.ai id k) S K')(e:aw a.ai id=some t)(d:k<t.l.length):aj K' (.ai id k)/\Gr a K'/\∀g,K'.cH (.ai id k) g=({a with mem:=S.1,out:=S.2}:KS).cH (.ai id k) g:=by
 have b:aj ({a with mem:=S.1,out:=S.2}:KS) (.ai id k):=⟨t,e,d⟩;rcases h with rfl|⟨f,rfl⟩
 ·exact⟨b,Gr.of_eq rfl,fun _=>rfl⟩
 ·exact⟨b.gr (bs b f) (bm _ _),(Gr.of_eq (K':=({a with mem:=S.1,out:=S.2}:KS)) rfl).trans (bs b f),fun g=>w9 (K:=({a with mem:=S.1,out:=S.2}:KS)) e d f g⟩
end
end
end Go.Proofs.YtlihkblppjgebaaGreatDoor
