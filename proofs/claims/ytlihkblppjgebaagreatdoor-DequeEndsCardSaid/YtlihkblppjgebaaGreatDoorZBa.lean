import Derived.RegionTactic
import Derived.ChangeAlike
import Derived.Test.YtlihkblppjgebaaGreatDoorZAw
import Derived.Test.YtlihkblppjgebaaGreatDoorZAx
set_option linter.all false
set_option maxRecDepth 100000
set_option maxHeartbeats 8000000
namespace Go.Proofs.YtlihkblppjgebaaGreatDoor
open Go.RowKit Go.Proofs.Tryz
section
theorem CJ:(prog.info? 82).map (fun i=>(i.zero,i.size,i.bytes))=some (some (.agg #[.int .i64 0,.int .i64 0,.int .i64 0,.int .u64 0,.int .i64 0,.int .u64 0,.int .u64 0,.int .u64 0,.int .u64 0,.int .u64 0,.int .u64 0]),11,88):=by kernel_rfl
section
variable{w:World}{χ:Nat->a4}{L:cw}{Y:Var}{C:KC}{K:KS}
theorem ae.CK(h:ae w χ L Y C K){w4:World}(a:w.grownBy w4 Y.ov.ownBlock)(v:Value):Ch (fun i=>χ i=.gx∨χ i=.out) w (w4.setCell ⟨L.mb,1020,none⟩ v):=
 ((Ch.bQ a).mono (E:=fun i=>χ i=.gx∨χ i=.out) (fun i b=>Or.inr ((h.out (by simp)).k i b))).gS (p:=⟨L.mb,1020,none⟩) (Or.inl (h.head (by simp)).k) v
def A7(χ:Nat->a4)(L:cw)(Y:Var)(C:KC)(K K':KS)(w:World)(e:Ending)(w':World):Prop:=de (.tuple #[]) χ L Y C K K' w e w'/\Ch (fun i=>χ i=.gx∨χ i=.out) w w'
theorem nz(kind at_ wn t num a0 a1 a2 a3 v code:Int)(hb:K.out.length<=900000)(h:ae w χ L Y C K):
 Calls prog 83 #[.pointer (some ⟨L.mb,0,none⟩),.agg #[.int .i64 kind,.int .i64 at_,.int .i64 wn,.int .u64 t,.int .i64 num,.int .u64 a0,.int .u64 a1,.int .u64 a2,.int .u64 a3,.int .u64 v,.int .u64 code]] w
  (A7 χ L Y C K (tell K ⟨kind,at_,wn,t,num,a0,a1,a2,a3,v,code⟩) w):=by
 obtain⟨ap,P,ad,al,am⟩:=info_parts CJ;have S:=Z P;have H:=Z h;obtain⟨b,m⟩:=mn L.mb;have r:=Z m;have d13:=h.Fg;have d14:=h.Eu;rw[<-m]at d13 d14⊢;obtain⟨c,A⟩:=nm K.at_;obtain⟨d,B⟩:=nm K.w;rw[A]at d13;rw[B]at d14;obtain⟨N,z⟩:=mn K.out.length;have E:Hid (tell K ⟨kind,at_,wn,t,num,a0,a1,a2,a3,v,code⟩={K with out:=K.out++[⟨kind,c,d,t,num,a0,a1,a2,a3,v,code⟩]}):=Z (by unfold tell;rw[A,B]);have u:=Z z;rw[<-z]at hb;have X:b<w.heap.size:=by rw[m];exact h.EN
 clear h m A B z P;go_enter func83,ntmps83
 go_wp2_with fail
 obtain⟨c9,n⟩:=nm (w.alloc (.cells #[.int .i64 kind,.int .i64 at_,.int .i64 wn,.int .u64 t,.int .i64 num,.int .u64 a0,.int .u64 a1,.int .u64 a2,.int .u64 a3,.int .u64 v,.int .u64 code] 82));have s:=Z (Ch.al (D:=ag) n);have f:=Z (Row.al n);rw[n];have V:=s.out.k d13;have W:=s.out.k d14;obtain⟨tb,G⟩:=mn w.heap.size;have J:=Z G;rw[<-G]at f⊢;have t1:=f.out.k 1 rfl;have t2:=f.out.k 2 rfl;have f1:=f.out.free 1;have f2:=f.out.free 2;have ce:b≠tb:=by omega
 have ch:tb≠b:=by omega
 clear n d13 d14 G;go_region
 go_wp2_with fail
 obtain⟨w1,o⟩:=nm (((c9.setCell ⟨tb,1,none⟩ (.int .i64 c)).setCell ⟨tb,2,none⟩ (.int .i64 d)).drew);have l:Hid (Ch ag w w1):=Z (by rw[<-o];exact((s.out.set (p:=⟨tb,1,none⟩) (Or.inr (by rw[J.out];exact Nat.le_refl _)) _).set (p:=⟨tb,2,none⟩) (Or.inr (by rw[J.out];exact Nat.le_refl _)) _).drew);have T:Hid (Row w1 tb 82 (Ev.cells ⟨kind,c,d,t,num,a0,a1,a2,a3,v,code⟩)):=Z (by rw[<-o];exact((f.out.set 1 _).set 2 _).drew);rw[o];clear o V W t1 t2 f1 f2;have a:=Z (H.out.af l.out);have d16:=a.out.rr;have g16:=a.out.fz 1020;rw[<-r.out]at d16 g16;have k:=(a.out.out (by simp)).is;rw[<-u.out]at k;obtain⟨cb,cd,I⟩:=aA k;have q:Y.ov.ownBlock≠some b:=by rw[r.out];exact aY (a.out.out (by simp)).is (a.out.head (by simp)).row (by decide)
 have R:b<w1.heap.size:=Nat.lt_of_lt_of_le X l.out.size;have x:=Z I;rw[I]at d16 k q;clear I;obtain⟨av,bi,bw,c0,c1,c2,c3,c4,c5,c6,bv⟩:=T.out.Am;go_wp2_with fail
 go_region_law (first|(refine step_append_lies _ (by rfl) _ _ _ (by rfl) 0 82 ap _ 11 88 underlying37 S.out ad al am rfl (by omega) _ N (K.out.flatMap Ev.cells) (by rfl) ((k.alloc _).drew) ⟨w1.heap.size,0,none⟩ 1 1 [.int .i64 kind,.int .i64 c,.int .i64 d,.int .u64 t,.int .i64 num,.int .u64 a0,.int .u64 a1,.int .u64 a2,.int .u64 a3,.int .u64 v,.int .u64 code] (by rfl) (by rfl) (World.news_of_block (cs:=#[.int .i64 kind,.int .i64 c,.int .i64 d,.int .u64 t,.int .i64 num,.int .u64 a0,.int .u64 a1,.int .u64 a2,.int .u64 a3,.int .u64 v,.int .u64 code]) (t:=82) (fr:=(0,0)) (heap_alloc_new w1 _)) (by simp[Value.oneCell']) (by omega) (by unfold maxLen;omega) (by omega) (by simp) (w1.heap.size+1) (by simp) ?_;intro y cap w4 Q j O ab;have c7:w4.cell? ⟨b,1020,none⟩=_:=(j.cell_far ⟨b,1020,none⟩ (by simp;omega) (Ne.symm q)).trans (by simp[go_sem,World.cell?_alloc_past,R,d16];rfl);have c8:w4.frozen? ⟨b,1020,none⟩=false:=(j.frozen_far ⟨b,1020,none⟩ (by simp;omega) (Ne.symm q)).trans (by simp[go_sem,World.frozen?_alloc_past,R,g16])))
 all_goals
  have HA:Hid (∃aW Y',dB χ L Y C K {K with out:=K.out++[⟨kind,c,d,t,num,a0,a1,a2,a3,v,code⟩]} w1 aW Y' (w4.setCell ⟨L.mb,1020,none⟩ (.slice (some ⟨y,0,none⟩) (N+1) cap))):=Z (by
   have:=a.out.DS (e:=⟨kind,c,d,t,num,a0,a1,a2,a3,v,code⟩) (w4:=w4) (g:=y) (cap:=cap) (by rw[<-u.out];exact Q) (by rw[x.out];exact ax (cO j)) (by
    rw[x.out];rcases O with M|M
    ·exact Or.inl (by rw[M])
    ·exact Or.inr (by omega))
   rw[<-u.out]at this;exact this)
  have U:Hid (Ch (fun i=>χ i=.gx∨χ i=.out) w1 (w4.setCell ⟨L.mb,1020,none⟩ (.slice (some ⟨y,0,none⟩) (N+1) cap))):=Z (a.out.CK (by rw[x.out];exact ax (cO j)) _);rw[r.out]at*;clear Q j O ab c7 c8 d16 g16 k q av bi bw c0 c1 c2 c3 c4 c5 c6 bv;go_wp2_with fail
  go_end0
  rw[E.out];obtain⟨aW,Y',F⟩:=HA.out;exact⟨⟨rfl,aW,Y',F.at_,(Nx.af l.out).trans F.nx,F.yk⟩,l.out.af.trans U.out⟩
theorem dz(kind at_ wn t num a0 a1 a2 a3 v code:Int)(hb:K.out.length<=900000)(h:ae w χ L Y C K):
 Calls prog 83 #[.pointer (some ⟨L.mb,0,none⟩),.agg #[.int .i64 kind,.int .i64 at_,.int .i64 wn,.int .u64 t,.int .i64 num,.int .u64 a0,.int .u64 a1,.int .u64 a2,.int .u64 a3,.int .u64 v,.int .u64 code]] w
  (de (.tuple #[]) χ L Y C K (tell K ⟨kind,at_,wn,t,num,a0,a1,a2,a3,v,code⟩) w):=
 (nz kind at_ wn t num a0 a1 a2 a3 v code hb h).mono fun _ _ h=>h.1
end
end
section
section
variable{w:World}{χ:Nat->a4}{L:cw}{Y:Var}{C:KC}{K:KS}
theorem dB.cur{K1:KS}{h:Nat->a4}{a:Var}{w1:World}(m:dB χ L Y C K K1 w h a w1){c:bK}{b e:Nat}(d:aj K c)(f:aP L Y c b e)(g:Gr K K1)(hw:K1.wk.length=K.wk.length):aj K1 c/\aP L a c b e:=⟨d.gr g hw,f.yk d m.yk⟩
def rB(v:Value)(χ:Nat->a4)(L:cw)(C:KC)(K':KS)(w:World)(e:Ending)(w':World):Prop:=e=.returned v/\∃aW Y',ae w' aW L Y' C K'/\Nx χ aW w w'
end
end
section
section
variable{w:World}{χ:Nat->a4}{L:cw}{Y:Var}{C:KC}{K:KS}
theorem wM{x:Int}(a:0<=x)(b:x<=100):wrap64 x=x:=by unfold wrap64;omega
def mH(v:Int)(w:World)(e:Ending)(w':World):Prop:=e=.returned (.int .u64 v)/\Ch ag w w'
theorem y1{x:Int}{n:Nat}(d:1<=n)(e:n<=64)(c:0<=x):∃m,x%(n:Int)=m/\0<=m/\m<=100/\wrap64 (x%(n:Int))=m/\x.tmod (n:Int)=m:=by
 have a:=Int.emod_nonneg x (b:=(n:Int)) (by omega);have b:=Int.emod_lt_of_pos x (b:=(n:Int)) (by omega);exact⟨_,rfl,a,by omega,wM a (by omega),Int.tmod_eq_emod_of_nonneg c⟩
theorem y2(i:Nat)(B:i<K.wk.length)(id:Int)(c:bK)(b I:Nat)(A:aj K c)(D:aP L Y c b I)(F:∀k,k<32->aH ((K.F c).r k))(n j d l q o r:Int)(t:n=23∨n=41∨n=37∨n=40∨n=42∨n=29∨n=38∨n=39∨n=47)(hb:0<=d/\d<32)(hw:0<=K.w/\K.w<K.wk.length)(R:C.bn.length<=2048)(h:ae w χ L Y C K):
 Calls prog 170 #[.pointer (some ⟨L.mb,0,none⟩),.pointer (some ⟨L.wb,i*38,none⟩),.int .u64 id,.pointer (some ⟨b,I,none⟩),aI ⟨n,j,d,l,q,o,r⟩] w (mH (hL C K i id c ⟨n,j,d,l,q,o,r⟩) w):=by
 unfold aI aC;dsimp only;obtain⟨ad,H,M,O,J⟩:=h.rA n j d l q o r;have a:Hid (ae ad χ L Y C K):=Z O.out.at_;obtain⟨t0,t1,t2,t3,t4,t5,t6⟩:=J.out.c7;obtain⟨cd,ce⟩:=hb;have ab:=a.out.az A D d.toNat (by omega);obtain⟨f,g⟩:∃y,(K.F c).r d.toNat=y:=⟨_,rfl⟩;have al:=Z g;have G:=F d.toNat (by omega);rw[g]at ab G;obtain⟨V,c6⟩:=G;obtain⟨W,c7⟩:=hw;have c4:=(a.out.wk (by simp)).n;have a0:IntKind.u64.wrap (K.wk.length:Int)=K.wk.length:=by unfold IntKind.wrap IntKind.bits IntKind.signed;simp;omega
 have X:IntKind.u64.wrap K.w=K.w:=by unfold IntKind.wrap IntKind.bits IntKind.signed;simp;omega
 have k1:=a.out.jH;have k2:=a.out.p7;have k3:=a.out.BV;have c8:=a.out.e7 B;have c9:=a.out.Eu;have a1:=a.out.c3;obtain⟨a2,c1,bv,bw,U,c0⟩:=y1 (x:=K.w) (n:=K.wk.length) (by omega) (by omega) W;obtain⟨a3,c2,ap,av,S,bi⟩:=y1 (x:=f) (n:=K.wk.length) (by omega) (by omega) V;have N:=Z (fun(m:Int) (h:0<=m/\m<=100) p w=>o5 m h.1 h.2 p w);obtain⟨Q,z⟩:=k6 f 8 (by omega);obtain⟨bk,s⟩:=nm (bc f ((8:Nat):Int));have u:=Z (mV f 8 (by omega) (by omega));rw[s]at u Q z;have am:bk<8:=by omega
 have v:Hid (∀n,n=23∨n=41∨n=37∨n=40∨n=42∨n=29∨n=38∨n=39∨n=47->hL C K i id c ⟨n,j,d,l,q,o,r⟩=if n=23 then 1+2*bk else if n=41 then K.clock.now else if n=37 then id else if n=40 then(K.wk.length:Int)else if n=42 then K.draw else if n=29 then(K.W i).hand else if n=38 then gY a2 else if n=39 then gY a3 else if f<C.bn.length then 1 else 0):=Z (by
  have P:IntKind.u64.wrap (1+2*bc f 8)=1+2*bk:=by rw[show bc f 8=bk from s];unfold IntKind.wrap IntKind.bits IntKind.signed;simp;omega
  intro n t;rcases t with rfl|rfl|rfl|rfl|rfl|rfl|rfl|rfl|rfl<;>simp[hL,g,a0,X,P,U,S])
 have c5:(K.wk.length:Int)<=64:=by omega
 have c3:(1:Int)<=K.wk.length:=by omega
 have T:(C.bn.length:Int)<=2048:=by omega
 obtain⟨cb,E⟩:∃n,C.bn.length=n:=⟨_,rfl⟩;rw[E]at a1 T v;clear h A D F B g s z E R;rcases t with rfl|rfl|rfl|rfl|rfl|rfl|rfl|rfl|rfl
 all_goals
  go_enter func170,ntmps170
  go_wp2_with fail
  try rw[H]
  clear H;go_quiet (fail)
  go_wp2_with (first|(go_at_call 141;refine(u.out _).mono ?_;rintro e w' ⟨rfl,rfl⟩)|(go_at_call 84;refine(CD (a.out.drewN _)).mono ?_;rintro e w' ⟨rfl,rfl⟩)|(go_at_call 50;refine(N.out _ (by exact⟨by assumption,by assumption⟩) _ _).mono ?_;rintro e w' ⟨rfl,rfl⟩)|fail)
  all_goals
   go_ret;rw[v.out]
   ·refine⟨?_,M.out.drewN _⟩
    first|rfl|(simp;done)|(simp;omega)
   ·decide
end
end
end Go.Proofs.YtlihkblppjgebaaGreatDoor
