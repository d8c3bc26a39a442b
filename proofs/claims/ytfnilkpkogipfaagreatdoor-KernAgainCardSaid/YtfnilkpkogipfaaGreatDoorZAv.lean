import Derived.Test.YtfnilkpkogipfaaGreatDoorZAp
import Derived.Test.YtfnilkpkogipfaaGreatDoorZAr
set_option linter.all false
set_option maxRecDepth 100000
set_option maxHeartbeats 8000000
namespace Go.Proofs.YtfnilkpkogipfaaGreatDoor
open Go.RowKit Go.Proofs.Tryz
section
theorem zM:(prog.info? 177).map (fun i=>(i.zero,i.size,i.bytes))=some (some (.pointer none),1,8):=by kernel_rfl
def Ge(p:Int):Frame:=⟨⟨p,fun _=>0,[]⟩,false,0⟩
theorem qK{w:World}{χ:Nat->aX}{L:cz}{Y:Var}{C:KC}{K:KS}(id:Int){s:fO}(a:gV K.q id=some s)(h:ae w χ L Y C K):Calls prog 77 #[(L.qb,0),.int .u64 id] w (fun e w'=>e=.returned (.tuple #[.int .u64 s.ad,.int .u64 s.mask,.int .i64 (bg s.ad (8:Nat)),.bool true])/\∃n,w'=w.drewN n):=by
 have:=qG id h;rw[a]at this;exact this
theorem qL{w:World}{χ:Nat->aX}{L:cz}{Y:Var}{C:KC}{K:KS}(id:Int)(a:gV K.q id=none)(h:ae w χ L Y C K):Calls prog 77 #[(L.qb,0),.int .u64 id] w (fun e w'=>e=.returned (.tuple #[.int .u64 0,.int .u64 0,.int .i64 0,.bool false])/\∃n,w'=w.drewN n):=by
 have:=qG id h;rw[a]at this;exact this
section
variable{w:World}{χ:Nat->aX}{L:cz}{Y:Var}{C:KC}{K:KS}
theorem si(i:Nat)(a0:i<K.wk.length)(id:Int)(t:Thread)(ab:aw K.ai id=some t)(hid:t.id=id)(bv:aI id)(c:bN)(b Q:Nat)(X:ak K c)(a1:aS L Y c b Q)(a3:∀k,k<32->aI ((K.F c).r k))(a m o r p u:Int)(bi:0<=a/\a<32)(h:ae w χ L Y C K):
 Calls prog 162 #[(L.mb,0),(L.wb,i*38),(Y.bH id,0),(b,Q),.agg #[.int .i64 28,a,m,o,.int .u64 r,p,u]] w (dM (aD C K i id c ⟨28,a,m,o,r,p,u⟩) χ L Y C K w):=by
 have H:=Z h;have G:=Z X;have I:=Z a1;have am:=Z a0;obtain⟨D,B,bx,d,F⟩:=h.pre 28 a m o r p u;have z:=Z (And.intro ab hid);obtain⟨tb,O⟩:=nm (Y.bH id);have S:=Z O;obtain⟨c3,c4⟩:=bi;obtain⟨c5,P⟩:∃y,(K.F c).r a.toNat=y:=⟨_,rfl⟩;have ap:=Z P;have T:=Z (a3 a.toNat (by omega));rw[P]at T;obtain⟨c1,c2⟩:=T.out;clear P;obtain⟨q,a2⟩:=nm (gV K.q id);have x:=Z a2;obtain⟨t0,t1,t2,t3,t4,t5,t6⟩:=F.1.c7;have R:=d.at_.aC G I a.toNat (by omega);rw[ap]at R;have M:=d.at_.gv z.1;rw[z.2,S]at M;have N:=d.at_.Fu z.1;rw[S]at N;have k1:=d.at_.vK;clear a2;rw[O];clear h X a1 a3 a0 ab hid O;cases q with
 |some s=>
  have J:=Z (fun n=>qK (K:=K) id x (d.at_.drewN n));have E:Hid (aD C K i id c ⟨28,a,m,o,r,p,u⟩=(1,dA C {K with table:=(j3 K.table id 3).2} i)):=Z (by unfold aD;dsimp only;rw[if_neg (by decide),if_pos rfl,x]);go_in
  go_wp2_with fail
  try rw[B]
  clear B;go_wp2
  go_quiet ((go_at_call 77;exact Calls.quiet_of (J _)))
  obtain⟨w1,j⟩:=nm (D.drewN nq);have f:Hid (Ch ag D w1):=Z (by rw[<-j];exact(Ch.refl _ _).drewN nq);rw[j];clear j;have g:=Z (d.af f);have M:=f.k M;have k2:=g.at_.ea;go_wp2
  go_still_tail 8,(by kernel_rfl)
  change wpList _ _ _ _ _ w1.drew;go_wp2_with fail
  refine(qE id 3 bv g.at_.drew).mono ?_;rintro e w2 ⟨⟨v,rfl,_⟩,ad,V,A⟩;have l:=Z ((g.af (Ch.refl _ _).drew).trans (Gr.of_eq rfl) A);clear A;go_wp2_with fail
  refine(iC i (by exact am) l.at_).mono ?_;rintro e w3 ⟨rfl,bw,av,W⟩;have U:=Z (l.trans (Gr.of_eq rfl) W);clear W;go_wp2
  go_ret;rw[E];exact⟨rfl,bw,av,U.at_,U.nx,fun h=>absurd rfl h⟩
 |none=>
  have J:=Z (fun n=>qL (K:=K) id x (d.at_.drewN n));have E:Hid (aD C K i id c ⟨28,a,m,o,r,p,u⟩=(0,K.az c a.toNat t.eU)):=Z (by unfold aD;dsimp only;rw[if_neg (by decide),if_pos rfl,x];show(0,K.az c a.toNat (K.T id).eU)=_;rw[KS.dk z.1]);go_in
  go_wp2_with fail
  try rw[B]
  clear B;go_wp2
  go_quiet ((go_at_call 77;exact Calls.quiet_of (J _)))
  obtain⟨w1,j⟩:=nm (D.drewN nq);have f:Hid (Ch ag D w1):=Z (by rw[<-j];exact(Ch.refl _ _).drewN nq);rw[j];clear j;have g:=Z (d.af f);have al:=Z ((Nx.af f).row F.1 F.2);have N:=f.k N;have R:=f.k R;have c0:=g.at_.hg G I (Q+1+a.toNat);have t1:=al.1.k 1 rfl;have ax:=Z (g.at_.drew.a9 G I a.toNat (by omega) t.eU);go_wp2
  go_still_tail 9,(by kernel_rfl)
  change wpList _ _ _ _ _ w1.drew;go_wp2
  go_ret;rw[E];obtain⟨ad,V,A⟩:=ax.out;have l:=(g.af (Ch.refl _ _).drew).trans (Gr.refl _) A;exact⟨rfl,ad,V,l.at_,l.nx,fun _=>l.yk⟩
theorem sj(i:Nat)(S:i<K.wk.length)(id:Int)(t:Thread)(a1:aw K.ai id=some t)(hid:t.id=id)(eW:aI id)(c:bN)(b c6:Nat)(bi:ak K c)(c2:aS L Y c b c6)(I:∀k,k<32->aI ((K.F c).r k))(m z A F B G:Int)(cl:0<=m/\m<32)(bx:0<t.l.length)(cQ:t.l.length<=8)(cr:C.a8.length<=2048)(h:ae w χ L Y C K):
 Calls prog 162 #[(L.mb,0),.pointer (some ⟨L.wb,i*38,none⟩),(Y.bH id,0),(b,c6),.agg #[.int .i64 57,m,z,A,.int .u64 F,B,G]] w (dM (aD C K i id c ⟨57,m,z,A,F,B,G⟩) χ L Y C K w):=by
 have H:=Z h;have c8:=Z bi;have ce:=Z c2;have et:=Z S;obtain⟨x,v,es,q,c7⟩:=h.pre 57 m z A F B G;have o:=Z (And.intro a1 hid);obtain⟨tb,a2⟩:=nm (Y.bH id);have O:=Z a2;obtain⟨ge,gf⟩:=cl;obtain⟨n,a3⟩:∃y,(K.F c).r m.toNat=y:=⟨_,rfl⟩;have P:=Z a3;have am:=Z (I m.toNat (by omega));rw[a3]at am;obtain⟨fz,gc⟩:=am.out;clear a3;obtain⟨ec,bv,dr,dC,dN⟩:=info_parts zM;have cb:=Z bv;obtain⟨N,V⟩:=mn t.l.length;have u:=Z V;obtain⟨ab,a0⟩:=nm C.a8.length;have U:=Z a0;obtain⟨g,cap,T,cm,_⟩:=q.at_.hL a1 bx;rw[<-V]at T cm cQ bx;have M:=Z T;obtain⟨t0,t1,t2,t3,t4,t5,t6⟩:=c7.1.c7;have en:=q.at_.aC c8 ce m.toNat (by omega);rw[P]at en;have k3:=q.at_.c3;have e:=q.at_.Dp o.1;rw[O,T]at e;rw[a0]at k3 cr;have eA:(ab:Int)<=2048:=by omega
 have eL:(N:Int)<=8:=by omega
 clear V a0 T;rw[a2];clear h bi c2 I S a1 hid a2 bv;by_cases bw:n<(ab:Int)
 ·by_cases ex:N<8
  ·have eC:(N:Int)<8:=by omega
   have c5:wrap64 n=n:=(by unfold wrap64;omega);have E:Hid (aD C K i id c ⟨57,m,z,A,F,B,G⟩=(0,K.cn id {t with l:=t.l++[Ge n]})):=Z (by unfold aD;dsimp only;rw[if_neg (by decide),if_neg (by decide),if_neg (by decide),if_neg (by decide),if_neg (by decide),if_neg (by decide),if_pos rfl,P,U,KS.dk o.1,<-u,if_pos ⟨bw,by omega⟩,c5];rfl);clear c5;go_in
   go_wp2_with fail
   try rw[v]
   clear v;go_wp2
   go_quiet (fail)
   obtain⟨w1,j⟩:=nm (x.drewN nq);have a:Hid (Ch ag x w1):=Z (by rw[<-j];exact(Ch.refl _ _).drewN nq);rw[j];clear j;have d:=Z (q.af a);have k3:=a.k k3;have e:=a.k e;go_upto_region 27 with fail
   obtain⟨s,J⟩:=nm (w1.alloc (.cells #[n,.int .u64 0,.int .u64 0,.int .u64 0,.int .u64 0,.int .u64 0,.int .u64 0,.int .u64 0,.int .u64 0,.int .u64 0,.int .u64 0,.int .u64 0,.int .u64 0,.int .u64 0,.int .u64 0,.int .u64 0,.int .u64 0,.int .u64 0,.int .u64 0,.int .u64 0,.int .u64 0,.int .u64 0,.int .u64 0,.int .u64 0,.int .u64 0,.int .u64 0,.int .u64 0,.int .u64 0,.int .u64 0,.int .u64 0,.int .u64 0,.int .u64 0,.int .u64 0,.slice none 0 0,.bool false,.int .i64 0] 179));have ad:=Z (Ch.al (D:=ag) J);have al:Hid (aJ s w1.heap.size 0 179 [] (Ge n).post (.slice none 0 0) (Ge n).f):=Z ⟨by
    have I:=Row.new w1 #[n,.int .u64 0,.int .u64 0,.int .u64 0,.int .u64 0,.int .u64 0,.int .u64 0,.int .u64 0,.int .u64 0,.int .u64 0,.int .u64 0,.int .u64 0,.int .u64 0,.int .u64 0,.int .u64 0,.int .u64 0,.int .u64 0,.int .u64 0,.int .u64 0,.int .u64 0,.int .u64 0,.int .u64 0,.int .u64 0,.int .u64 0,.int .u64 0,.int .u64 0,.int .u64 0,.int .u64 0,.int .u64 0,.int .u64 0,.int .u64 0,.int .u64 0,.int .u64 0,.slice none 0 0,.bool false,.int .i64 0] 179;rw[J]at I;exact I,rfl,ct.nil _⟩
   have ch:Hid (s.heap.size=w1.heap.size+1):=Z (by rw[<-J];simp);rw[J];clear J;have r:=Z (d.af ad);have e:=ad.k e;have ap:=r.at_.r4 o.1 1;rw[O]at ap;obtain⟨fb,Q⟩:=mn w1.heap.size;have cd:Hid (χ fb=.no):=Z (d.at_.fresh (by rw[Q];exact Nat.le_refl _));rw[<-Q]at al ch⊢;have c9:=Z Q;have X:=(r.at_.tl id t o.1 (by simp)).is;rw[M,<-u]at X;have c3:tb<s.heap.size:=aP e;have c4:(Value.slice (some (g,0)) N cap).ownBlock≠some tb:=by
    have:=aU (r.at_.tl id t o.1 (by simp)).is (r.at_.th id t o.1 (by simp)).is (by decide);rw[M,O]at this;exact this
   clear Q;go_wp2_with (at_builtin;refine wpList_append_lies _ rfl _ _ _ rfl 0 177 ec _ 1 8 underlying174 cb dr dC dN rfl (by omega) _ N ((List.range N).map fun k=>bj (Y.fb id k)) rfl (X.alloc _) ⟨s.heap.size,0,none⟩ 1 1 [(fb,0)] rfl rfl (World.news_of_block (cs:=#[(fb,0)]) (t:=177) (fr:=(0,0)) (heap_alloc_new s _)) (by simp[Value.oneCell']) (by omega) (by unfold maxLen;omega) (by omega) (by simp) (s.heap.size+1) (by simp) ?_)
   intro ck ci w4 c1 R ax cC;have W:=r.at_.Dq o.1 (f:=Ge n) al cd rfl (g:=ck) (cap:=ci) (w4:=w4) (by rw[<-u];exact c1) (by rw[M];exact au R) (by
    rw[M];rcases ax with av|av
    ·exact Or.inl (by rw[av])
    ·exact Or.inr (by omega))
   rw[O,<-u]at W;have cf:=Z W;have fd:w4.cell? (tb,1)=some (.slice (some (g,0)) N cap):=((Ch.bM (au R)).cell (p:=⟨tb,1,none⟩) c3 c4).trans e;have fn:w4.frozen? (tb,1)=false:=((Ch.bM (au R)).frozen (p:=⟨tb,1,none⟩) c3 c4).trans ap;clear W c1 R ax cC X;go_wp2
   go_ret;rw[E];obtain⟨aY,Y',cL,cS,cW,cq⟩:=cf.out;have c0:Nx χ χ w s:=r.nx;have eS:w.heap.size<=w1.heap.size:=d.nx.ch.size;refine⟨rfl,aY,Y',cL,⟨c0.ch.join cq (fun i _ h=>h),fun i S=>cS i (Nat.lt_of_lt_of_le S c0.ch.size) (by rw[c9];omega)⟩,fun _=>r.yk.trans (Gr.refl _) cW⟩
  ·have cA:decide ((N:Int)<8)=false:=by simp;omega
   have E:Hid (aD C K i id c ⟨57,m,z,A,F,B,G⟩=(0,K)):=Z (by unfold aD;dsimp only;rw[if_neg (by decide),if_neg (by decide),if_neg (by decide),if_neg (by decide),if_neg (by decide),if_neg (by decide),if_pos rfl,P,U,KS.dk o.1,<-u,if_neg (by omega)]);go_in
   go_wp2_with fail
   try rw[v]
   clear v;go_wp2
   go_quiet (fail)
   obtain⟨w1,j⟩:=nm (x.drewN nq);have a:Hid (Ch ag x w1):=Z (by rw[<-j];exact(Ch.refl _ _).drewN nq);rw[j];clear j;have d:=Z (q.af a);have k3:=a.k k3;have e:=a.k e;go_wp2
   go_ret;rw[E];exact⟨rfl,χ,Y,d.at_,d.nx,fun _=>d.yk⟩
 ·have cA:decide (n<(ab:Int))=false:=by simpa using bw
  have E:Hid (aD C K i id c ⟨57,m,z,A,F,B,G⟩=(0,K)):=Z (by unfold aD;dsimp only;rw[if_neg (by decide),if_neg (by decide),if_neg (by decide),if_neg (by decide),if_neg (by decide),if_neg (by decide),if_pos rfl,P,U,KS.dk o.1,<-u,if_neg (by omega)]);go_in
  go_wp2_with fail
  try rw[v]
  clear v;go_wp2
  go_quiet (fail)
  obtain⟨w1,j⟩:=nm (x.drewN nq);have a:Hid (Ch ag x w1):=Z (by rw[<-j];exact(Ch.refl _ _).drewN nq);rw[j];clear j;have d:=Z (q.af a);have k3:=a.k k3;have e:=a.k e;go_wp2
  go_ret;rw[E];exact⟨rfl,χ,Y,d.at_,d.nx,fun _=>d.yk⟩
end
end
def ay.new(loop:Int):ay:=⟨0,0,false,0,⟨loop,Dr,[]⟩⟩
def ko(C:KC)(n tt:Nat):KS where
 mem:=fX tt n C.wide.toNat C.narrow.toNat
 blocks:=⟨17+8*n+C.wide.toNat+C.narrow.toNat,tt,[]⟩
 clock:=aO.new
 ring:=[]
 q:=List.replicate 8 []
 table:=List.replicate 64 aE.zero
 c':=List.replicate 64 bK.zero
 ai:=[]
 wk:=List.replicate n (ay.new C.loop)
 entries:=0
 at_:=0
 w:=0
 draw:=0
 out:=[]
def fH(C:KC)(n tt:Nat):KS:=
 let x:=bL (ko C n tt) C.entry 0
 {x.2 with ring:=(hp x.2.ring x.1).2}
def Cw(a:Nat)(i:Nat)(t:TypeId):aX:=
 if t=137 then .gL else if t=163 then .mem else if t=56 then(if i=a then .ring else .mem)else if t=5 then .mem else if t=271 then .al
 else if t=207 then .b0 else if t=268 then .b0 else if t=209 then .ring else if t=214 then .q else if t=254 then .q
 else if t=217 then .cU else if t=251 then .cU else if t=220 then .obj else if t=262 then .obj else if t=148 then .wk
 else if t=121 then .code else if t=49 then .code else .no
def hO(a:World)(B c d b:Nat)(i:Nat):aX:=
 if i<B then .no else match a.heap[i]? with
 |some (.cells _ t _)=>Cw c i t
 |some (.map _ _)=>if i=d then .tm else if i=b then .q else .b0
 |_=> .no
theorem bC{a:World}{B c f e b:Nat}{t:TypeId}{l:List Value}(h:Row a b t l)(hb:B<=b){k:aX}(d:Cw c b t=k):hO a B c f e b=k:=by
 unfold hO;rw[if_neg (by omega),show a.heap[b]?=some (.cells l.toArray t (0,0))from h];exact d
theorem iH{α:Type}{a:World}{B i e d b:Nat}{q:IntKind}{enc:α->Value}{l:List (Int×α)}(h:bR a b q enc l)(hb:B<=b){k:aX}(g:(if b=e then aX.tm else if b=d then aX.q else aX.b0)=k):hO a B i e d b=k:=by
 obtain⟨j,c,f,_⟩:=h;unfold hO;rw[if_neg (by omega),f];exact g
theorem pP{a:World}{B d e c i:Nat}(h:hO a B d e c i≠ .no):B<=i/\i<a.heap.size:=by
 unfold hO at h;split at h
 ·exact absurd rfl h
 ·refine⟨by omega,?_⟩
  rcases Nat.lt_or_ge i a.heap.size with b|b
  ·exact b
  ·rw[Array.getElem?_eq_none b]at h;exact absurd rfl h
theorem Cx{p:Prop} [Decidable p]{a b:aX}(c:a≠ .out)(d:b≠ .out):(if p then a else b)≠ .out:=by
 split
 ·exact c
 ·exact d
theorem Aq(a i:Nat)(t:TypeId):Cw a i t≠ .out:=by
 unfold Cw
 repeat' (refine Cx ?_ ?_)
 all_goals(intro h;cases h)
theorem uJ{a:World}{B c d b:Nat}(i:Nat):hO a B c d b i≠ .out:=by
 unfold hO;split
 ·intro h;cases h
 ·split
  ·exact Aq _ _ _
  ·split
   ·intro h;cases h
   ·split
    ·intro h;cases h
    ·intro h;cases h
  ·intro h;cases h
theorem uK(n:Nat)(x:ay)(v:Value):(di (List.replicate n x) (fun _=>v)).flatMap (fun y=>y.1.cells y.2)=(List.replicate n x).flatMap fun y=>y.cells v:=by
 unfold di;rw[List.flatMap_map];have:∀(l:List ay) (k:Nat),(l.zipIdx k).flatMap (fun a=>a.1.cells v)=l.flatMap fun y=>y.cells v:=by
  intro l
  induction l with
  |nil=>intro k;rfl
  |cons a l ih=>intro k;rw[List.zipIdx_cons,List.flatMap_cons,List.flatMap_cons,ih]
 exact this _ 0
def lZ(mb m c n a i j k l s t qb q r tb u o p v w b f d g e h:Nat):cz:=
 ⟨mb,m,c,n,a,i,j,k,l,s,t,qb,q,r,tb,u,o,p,v,w,some ⟨b,0,none⟩,f,some ⟨d,0,none⟩,g,some ⟨e,0,none⟩,h⟩
def newVar:Var:=⟨.slice none 0 0,.slice none 0 0,.slice none 0 0,List.replicate 8 [],fun _=>0,fun _=> .slice none 0 0,fun _ _=>0,fun _ _=> .slice none 0 0,fun _=> .slice none 0 0⟩
theorem vW{a:World}{g:Nat}{l:List aR}{t:TypeId}{c:List Value}(h:Row a g t (b2 l++c)):fo a g l:=⟨h.lt,fun j u b=>h.cell (by rw[List.getElem?_append_left (List.getElem?_eq_some_iff.1 b).1];exact b)⟩
theorem uL{a:World}{B mb m c E y A D j l J b qb I d tb K G H e w r N u O v P:Nat}{C:KC}{n tt:Nat}{bw am bx:List Value}(bi:n<=64)
 (T:NM a mb (kR C (lZ mb m c E y A D j l J b qb I d tb K G H e w r N u O v P)) C.rows (hc (lZ mb m c E y A D j l J b qb I d tb K G H e w r N u O v P) (.slice none 0 0) n 0 0 0 0))
 (Q:aM a m c E (ko C n tt).mem) (a0:aW a y m (.slice none 0 0) (ko C n tt).blocks) (F:aZ a A D j l (.slice none 0 0) aO.new) (a2:eO a J b []) (R:im a qb I d (List.replicate 8 []))
 (W:a5 a tb K (List.replicate 64 aE.zero)) (V:bX a G H (List.replicate 64 bK.zero)) (a3:bR (α:=Nat) a e .u64 bj []) (ab:Row a w 148 ((List.replicate n (ay.new C.loop)).flatMap fun x=>x.cells (.slice none 0 0)))
 (X:Row a r 121 (b2 C.dG++bw)) (Y:Row a u 49 (C.calls.flatMap bB.cells++am)) (Z:Row a v 121 (b2 C.a8++bx)) (k1:C.dG.length<=N) (k2:C.calls.length<=O) (k3:C.a8.length<=P)
 (c0:c≠b) (c1:j≠e) (c2:l≠e) (c3:j≠d) (c4:l≠d) (c5:d≠e)
 (ap:B<=mb) (L:B<=m/\B<=c/\B<=E/\B<=y) (M:B<=A/\B<=D/\B<=j/\B<=l) (z:B<=J/\B<=b/\B<=qb/\B<=I/\B<=d) (p:B<=tb/\B<=K/\B<=G/\B<=H/\B<=e/\B<=w) (S:B<=r/\B<=u/\B<=v):
 ae a (hO a B b e d) (lZ mb m c E y A D j l J b qb I d tb K G H e w r N u O v P) newVar C (ko C n tt) where
 head:=fun _=>⟨by
  have:=T.row;show Row a mb _ (cZ _ (.slice none 0 0) C (List.replicate n (ay.new C.loop)).length 0 0 0 0)
  rw[List.length_replicate];exact this,T.n2,bC T.row ap rfl⟩
 mem:=fun _=>⟨Q,bC Q.head L.1 rfl,bC Q.cells L.2.1 (by show(if c=b then aX.ring else aX.mem)=_;rw[if_neg c0]),bC Q.width L.2.2.1 rfl⟩
 al:=fun _=>⟨a0,bC a0.head L.2.2.2 rfl,fun g o=>by cases o⟩
 b0:=fun _=>⟨F,bC F.head M.1 rfl,bC F.heap.head M.2.1 rfl,iH F.heap.map M.2.2.1 (by rw[if_neg c1,if_neg c3]),iH F.fm M.2.2.2 (by rw[if_neg c2,if_neg c4]),fun g o=>by cases o⟩
 ring:=fun _=>by
  obtain⟨cs,fr,a1,_⟩:=id a2;exact⟨a2,bC a1.head z.1 rfl,bC a1.rows z.2.1 (by show(if b=b then aX.ring else aX.mem)=_;rw[if_pos rfl])⟩
 q:=fun _=>⟨R,rfl,fun i U=>by
  rcases U with rfl|rfl|rfl|⟨s,bv,_⟩
  ·exact bC R.head z.2.2.1 rfl
  ·exact bC R.ends z.2.2.2.1 rfl
  ·obtain⟨c6,ax,_⟩:=R.map
   exact iH ax z.2.2.2.2 (by rw[if_neg c5,if_pos rfl])
  ·have:s∈(List.replicate 8 ([]:List Sl)).flatten:=bv
   simp at this⟩
 cU:=fun _=>⟨W,bC W.head p.1 rfl,bC W.rows p.2.1 rfl⟩
 obj:=fun _=>⟨V,bC V.head p.2.2.1 rfl,bC V.rows p.2.2.2.1 rfl⟩
 tm:=fun _=>⟨a3,iH a3 p.2.2.2.2.1 (by rw[if_pos rfl]),List.nodup_nil⟩
 th:=fun id t h=>by cases h
 tl:=fun id t h=>by cases h
 fr:=fun id t k f h=>by cases h
 wk:=fun _=>⟨by
  show Row a w _ ((di (List.replicate n (ay.new C.loop)) fun _=> .slice none 0 0).flatMap fun x=>x.1.cells x.2)
  rw[uK];exact ab,bC ab p.2.2.2.2.2 rfl,fun i x ad=>by
  have av:x∈List.replicate n (ay.new C.loop):=List.mem_of_getElem? ad;rw[(List.mem_replicate.1 av).2];exact ct.nil _,fun i x ad g o=>(by cases o),by show(List.replicate n (ay.new C.loop)).length<=64;rw[List.length_replicate];exact bi⟩
 out:=fun _=>⟨⟨rfl,Or.inl ⟨rfl,rfl⟩⟩,fun g o=>by cases o⟩
 code:=fun _=>{
  mR:=k1
  je:=k2
  mT:=k3
  b7:=fun _=>⟨r,rfl,vW X,bC X S.1 rfl⟩
  prog:=fun _=>⟨v,rfl,vW Z,bC Z S.2.2 rfl⟩
  calls:=fun _=>⟨u,am,rfl,Y,bC Y S.2.1 rfl⟩}
 small:=fun i U=>(pP U).2
theorem Ar(K:KS)(p r:Int):(bL K p r).2.out=K.out:=by
 unfold bL;split
 ·rfl
 ·dsimp only
  split
  ·rfl
  ·rfl
theorem As(C:KC)(n tt:Nat):(fH C n tt).entries=0/\(fH C n tt).clock.now=0/\(fH C n tt).wk.length=n/\(fH C n tt).out=[]:=by
 have f:=qA (ko C n tt) C.entry 0;refine⟨f.De,f.now,?_,Ar _ _ _⟩;have h:(ko C n tt).wk.length=n:=List.length_replicate;exact f.wl.trans h
def Au(w:World)(e:Ending)(w':World):Prop:=e=.returned (.bool true)/\Ch ag w w'
theorem CH(id:Int):eG (List.replicate 64 aE.zero) id=none:=by
 unfold eG;rw[List.getElem?_replicate];split
 ·rfl
 ·rename_i r h
  split at h
  ·cases h;rfl
  ·cases h
theorem tk(n:Nat)(loop:Int)(id:Int)(h:id≠0):iD (List.replicate n (ay.new loop)) id=0:=by
 unfold iD;rw[List.countP_eq_zero];intro x a;rw[(List.mem_replicate.1 a).2];show¬((0:Int)==id)=true
 rw[beq_iff_eq];exact fun e=>h e.symm
theorem AF(n:Nat)(loop:Int)(id:Int)(h:id≠0):qN (List.replicate n (ay.new loop)) id=0:=by
 unfold qN;rw[List.countP_eq_zero];intro x a;rw[(List.mem_replicate.1 a).2];show¬((0:Int)==id)=true
 rw[beq_iff_eq];exact fun e=>h e.symm
theorem we(n:Nat)(loop:Int)(id:Int)(h:id≠0):eu (List.replicate n (ay.new loop)) [] id=0:=by
 unfold eu;rw[tk n loop id h,AF n loop id h];rfl
theorem wg(C:KC)(n tt:Nat)(g:1<=n)(f:n<=64)(c:tt<=65536)(b:17+8*n+C.wide.toNat+C.narrow.toNat<=tt):Inv 0 0 (ko C n tt) where
 core:={
  cU:=⟨List.length_replicate,fun p r a=>by
   have k:r∈List.replicate 64 aE.zero:=List.mem_of_getElem? a;rw[(List.mem_replicate.1 k).2];exact⟨by decide,by decide,fun e=>(by cases e),⟨by decide,by decide⟩,⟨by decide,by decide⟩⟩⟩
  al:=fun id r b=>by
   have:=CH id;rw[show eG (ko C n tt).table id=none from this]at b;cases b
  ai:=fun id t h=>by cases h
  one:=fun id h=>by show eu (List.replicate n (ay.new C.loop)) [] id<=1;rw[we n _ id h];omega
  sy:=fun id h a=>by
   have:eu (List.replicate n (ay.new C.loop)) [] id=0:=we n _ id h;have i:0<eu (List.replicate n (ay.new C.loop)) [] id:=a;omega
  slt:=fun id h a=>by
   have:iD (List.replicate n (ay.new C.loop)) id=0:=tk n _ id h;have i:0<iD (List.replicate n (ay.new C.loop)) id:=a;omega
  wk:=fun x d=>by
   rw[(List.mem_replicate.1 (show x∈List.replicate n (ay.new C.loop)from d)).2];exact⟨⟨fun j _=>bm,by show([]:List Int).length<=8;decide⟩,Int.le_refl 0,show(0:Int)<=24 by decide⟩}
 nd:=List.nodup_nil
 q:=⟨fun s l=>by
  have:s∈(List.replicate 8 ([]:List fO)).flatten:=l;simp at this,Nat.le_refl _⟩
 b0:=⟨ah.DR,Nat.le_refl _,fun t c=>(by cases c),bm⟩
 bH:=⟨by show 17+8*n+C.wide.toNat+C.narrow.toNat<=70000;omega,by show tt<=70000;omega,fun x d=>(by cases d),Nat.le_refl _⟩
 mem:=yg tt n _ _ c f
 obj:=fun r b=>by
  rw[(List.mem_replicate.1 (show r∈List.replicate 64 bK.zero from b)).2];exact bm
 draw:=bm
 w0:=by show 1<=(List.replicate n (ay.new C.loop)).length;rw[List.length_replicate];exact g
 w1:=by show(List.replicate n (ay.new C.loop)).length<=64;rw[List.length_replicate];exact f
 out:=Nat.le_refl _
end Go.Proofs.YtfnilkpkogipfaaGreatDoor
