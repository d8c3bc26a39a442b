import Derived.RegionTactic
import Derived.ChangeAlike
import Derived.Deep.CutBlock
import Derived.Test.YtfnilkpkogipfaaGreatDoorZAo
set_option linter.all false
set_option maxRecDepth 100000
set_option maxHeartbeats 8000000
namespace Go.Proofs.YtfnilkpkogipfaaGreatDoor
open Go.RowKit Go.Proofs.Tryz
section
theorem CJ:(prog.info? 62).map (fun i=>(i.zero,i.size,i.bytes))=some (some (.agg #[.int .i64 0,.int .i64 0,.int .i64 0,.int .u64 0,.int .i64 0,.int .u64 0,.int .u64 0,.int .u64 0,.int .u64 0,.int .u64 0,.int .u64 0]),11,88):=by kernel_rfl
section
variable{w:World}{χ:Nat->a4}{L:cw}{Y:Var}{C:KC}{K:KS}
theorem ae.CK(h:ae w χ L Y C K){w4:World}(a:w.grownBy w4 Y.ov.ownBlock)(v:Value):Ch (fun i=>χ i=.gx∨χ i=.out) w (w4.setCell (L.mb,1020) v):=
 ((Ch.bQ a).mono (E:=fun i=>χ i=.gx∨χ i=.out) (fun i b=>Or.inr ((h.out (by simp)).k i b))).gS (p:=⟨L.mb,1020,none⟩) (Or.inl (h.head (by simp)).k) v
def A7(χ:Nat->a4)(L:cw)(Y:Var)(C:KC)(K K':KS)(w:World)(e:Ending)(w':World):Prop:=de (.tuple #[]) χ L Y C K K' w e w'/\Ch (fun i=>χ i=.gx∨χ i=.out) w w'
theorem nz(kind at_ wn t num a0 a1 a2 a3 v code:Int)(hb:K.out.length<=900000)(h:ae w χ L Y C K):
 Calls prog 106 #[(L.mb,0),.agg #[kind,at_,wn,.int .u64 t,num,.int .u64 a0,.int .u64 a1,.int .u64 a2,.int .u64 a3,.int .u64 v,.int .u64 code]] w
  (A7 χ L Y C K (tell K ⟨kind,at_,wn,t,num,a0,a1,a2,a3,v,code⟩) w):=by
 obtain⟨bi,Q,am,ap,av⟩:=info_parts CJ;have U:=Z Q;have H:=Z h;obtain⟨b,m⟩:=mn L.mb;have r:=Z m;have d13:=h.Fg;have d14:=h.Eu;rw[<-m]at d13 d14⊢;obtain⟨c,B⟩:=nm K.at_;obtain⟨d,F⟩:=nm K.w;rw[B]at d13;rw[F]at d14;obtain⟨N,A⟩:=mn K.out.length;have E:Hid (tell K ⟨kind,at_,wn,t,num,a0,a1,a2,a3,v,code⟩={K with out:=K.out++[⟨kind,c,d,t,num,a0,a1,a2,a3,v,code⟩]}):=Z (by unfold tell;rw[B,F]);have u:=Z A;rw[<-A]at hb;have ad:b<w.heap.size:=by rw[m];exact h.EN
 clear h m B F A Q;go_enter func106,ntmps106
 go_wp2_with fail
 obtain⟨cd,n⟩:=nm (w.alloc (.cells #[kind,at_,wn,.int .u64 t,num,.int .u64 a0,.int .u64 a1,.int .u64 a2,.int .u64 a3,.int .u64 v,.int .u64 code] 62));have s:=Z (Ch.al (D:=ag) n);have f:=Z (Row.al n);rw[n];have X:=s.k d13;have ab:=s.k d14;obtain⟨tb,I⟩:=mn w.heap.size;have M:=Z I;rw[<-I]at f⊢;have t1:=f.k 1 rfl;have t2:=f.k 2 rfl;have f1:=f.free 1;have f2:=f.free 2;have ch:b≠tb:=by omega
 have ci:tb≠b:=by omega
 clear n d13 d14 I;go_region
 go_wp2_with fail
 obtain⟨w1,o⟩:=nm (((cd.setCell (tb,1) (.int .i64 c)).setCell (tb,2) (.int .i64 d)).drew);have l:Hid (Ch ag w w1):=Z (by rw[<-o];exact((s.set (p:=⟨tb,1,none⟩) (Or.inr (by rw[M];exact Nat.le_refl _)) _).set (p:=⟨tb,2,none⟩) (Or.inr (by rw[M];exact Nat.le_refl _)) _).drew);have V:Hid (Row w1 tb 62 (Ev.cells ⟨kind,c,d,t,num,a0,a1,a2,a3,v,code⟩)):=Z (by rw[<-o];exact((f.set 1 _).set 2 _).drew);rw[o];clear o X ab t1 t2 f1 f2;have a:=Z (H.af l);have d16:=a.rr;have y:=a.fz 1020;rw[<-r]at d16 y;have k:=(a.out.out (by simp)).is;rw[<-u]at k;obtain⟨ce,cf,J⟩:=aA k;have q:Y.ov.ownBlock≠some b:=by rw[r];exact aY (a.out.out (by simp)).is (a.head (by simp)).row (by decide)
 have S:b<w1.heap.size:=Nat.lt_of_lt_of_le ad l.size;have x:=Z J;rw[J]at d16 k q;clear J;obtain⟨bv,bw,c1,c2,c3,c4,c5,c6,c7,c8,c0⟩:=V.Am;go_wp2_with fail
 go_region_law (first|(refine step_append_lies _ (by rfl) _ _ _ (by rfl) 0 62 bi _ 11 88 underlying54 U am ap av rfl (by omega) _ N (K.out.flatMap Ev.cells) (by rfl) ((k.alloc _).drew) ⟨w1.heap.size,0,none⟩ 1 1 [kind,c,d,.int .u64 t,num,.int .u64 a0,.int .u64 a1,.int .u64 a2,.int .u64 a3,.int .u64 v,.int .u64 code] (by rfl) (by rfl) (World.news_of_block (cs:=#[kind,c,d,.int .u64 t,num,.int .u64 a0,.int .u64 a1,.int .u64 a2,.int .u64 a3,.int .u64 v,.int .u64 code]) (t:=62) (fr:=(0,0)) (heap_alloc_new w1 _)) (by simp[Value.oneCell']) (by omega) (by unfold maxLen;omega) (by omega) (by simp) (w1.heap.size+1) (by simp) ?_;intro z cap w4 R j P al;have c9:w4.cell? (b,1020)=_:=(j.cell_far ⟨b,1020,none⟩ (by simp;omega) (Ne.symm q)).trans (by simp[go_sem,World.cell?_alloc_past,S,d16];rfl);have cb:w4.frozen? (b,1020)=false:=(j.frozen_far ⟨b,1020,none⟩ (by simp;omega) (Ne.symm q)).trans (by simp[go_sem,World.frozen?_alloc_past,S,y])))
 all_goals
  have T:Hid (∃aW Y',dB χ L Y C K {K with out:=K.out++[⟨kind,c,d,t,num,a0,a1,a2,a3,v,code⟩]} w1 aW Y' (w4.setCell (L.mb,1020) (.slice (some (z,0)) (N+1) cap))):=Z (by
   have:=a.DS (e:=⟨kind,c,d,t,num,a0,a1,a2,a3,v,code⟩) (w4:=w4) (g:=z) (cap:=cap) (by rw[<-u];exact R) (by rw[x];exact ax (cO j)) (by
    rw[x];rcases P with O|O
    ·exact Or.inl (by rw[O])
    ·exact Or.inr (by omega))
   rw[<-u]at this;exact this)
  have W:Hid (Ch (fun i=>χ i=.gx∨χ i=.out) w1 (w4.setCell (L.mb,1020) (.slice (some (z,0)) (N+1) cap))):=Z (a.CK (by rw[x];exact ax (cO j)) _);rw[r]at*;clear R j P al c9 cb d16 y k q bv bw c1 c2 c3 c4 c5 c6 c7 c8 c0;go_wp2_with fail
  go_end0
  rw[E];obtain⟨aW,Y',G⟩:=T.out;exact⟨⟨rfl,aW,Y',G.at_,(Nx.af l).trans G.nx,G.yk⟩,l.af.trans W⟩
theorem dz(kind at_ wn t num a0 a1 a2 a3 v code:Int)(hb:K.out.length<=900000)(h:ae w χ L Y C K):
 Calls prog 106 #[(L.mb,0),.agg #[kind,at_,wn,.int .u64 t,num,.int .u64 a0,.int .u64 a1,.int .u64 a2,.int .u64 a3,.int .u64 v,.int .u64 code]] w
  (de (.tuple #[]) χ L Y C K (tell K ⟨kind,at_,wn,t,num,a0,a1,a2,a3,v,code⟩) w):=
 (nz kind at_ wn t num a0 a1 a2 a3 v code hb h).mono fun _ _ h=>h.1
end
end
section
section
variable{w:World}{χ:Nat->a4}{L:cw}{Y:Var}{C:KC}{K:KS}
theorem dB.cur{K1:KS}{i:Nat->a4}{a:Var}{w1:World}(m:dB χ L Y C K K1 w i a w1){c:bK}{b e:Nat}(d:aj K c)(f:aP L Y c b e)(g:Gr K K1)(h:K1.wk.length=K.wk.length):aj K1 c/\aP L a c b e:=⟨d.gr g h,f.yk d m.yk⟩
def rB(v:Value)(χ:Nat->a4)(L:cw)(C:KC)(K':KS)(w:World)(e:Ending)(w':World):Prop:=e=.returned v/\∃aW Y',ae w' aW L Y' C K'/\Nx χ aW w w'
theorem ae.yR(h:ae w χ L Y C K){c:bK}(a:aj K c){b e:Nat}(f:aP L Y c b e)(k1 k2:Nat)(i:k1<32)(j:k2<32)(x1 x2:Int):∃aW Y',dB χ L Y C K ((K.au c k1 x1).au c k2 x2) w aW Y' ((w.setCell (b,e+1+k1) (.int .u64 x1)).setCell (b,e+1+k2) (.int .u64 x2)):=by
 obtain⟨p,o,d⟩:=h.a6 a f k1 i x1;obtain⟨k,l⟩:=d.cur a f (bs a _) (bm _ _);obtain⟨n,g,m⟩:=d.at_.a6 k l k2 j x2;exact⟨n,g,d.trans (bs a _) m⟩
theorem jI(id:Int)(t:Thread)(a:aw K.ai id=some t)(hid:t.id=id)(N:0<t.l.length)(a2:t.l.length<=8)(num code v:Int)(hb:K.out.length<=900000)(h:ae w χ L Y C K):
 Calls prog 170 #[(L.mb,0),(Y.bB id,0),num,.int .u64 code,.int .u64 v] w (de (.tuple #[]) χ L Y C K (dh K id num code v) w):=by
 obtain⟨g,cap,M,a1,J⟩:=h.jX a N;have l:=h.CI a;rw[M]at l;have d:=h.gb a;rw[hid]at d;obtain⟨m,o⟩:∃m,t.l.length=m+1:=⟨t.l.length-1,by omega⟩;have B:=J m (by omega);rw[o]at l a1;have am:(m:Int)+1-1=(m:Int):=by omega
 have al:m<8:=by omega
 have i:aj K (.ai id m):=⟨t,a,by omega⟩;obtain⟨fb,n⟩:=nm (Y.fb id m);obtain⟨tb,q⟩:=nm (Y.bB id);have b:Hid (aP L Y (.ai id m) fb 0):=Z ⟨n.symm,rfl⟩;rw[n]at B;rw[q]at l d⊢;have f:=Z i;have H:=Z h;have Q:=h.az i b 0 (by omega);have R:=h.az i b 1 (by omega);have D:=h.g1 i b 1;have F:=h.g1 i b 2;have S:=Z hb;have ab:=Z (And.intro a (And.intro hid q));have O:tb≠fb:=by
  rw[<-q,<-n];intro e;have k1:=(h.th id t a (by simp)).k;have k2:=(h.fr id t m _ a (List.getElem?_eq_getElem (by omega)) (by simp)).kf;rw[e,k2]at k1;cases k1
 have ap:fb≠tb:=fun e=>O e.symm
 have E:Hid (dh K id num code v=tell ((K.au (.ai id m) 0 code).au (.ai id m) 1 v) ⟨2,0,0,id,num,0,0,0,0,v,code⟩):=Z (by
  unfold dh;have W:K.top id=m:=by unfold KS.top;rw[KS.df a,o];omega
  have X:(K.au (.ai id m) 0 code).top id=m:=by
   unfold KS.top;show((K.b9 id _).T id).l.length-1=m
   rw[KS.df (K:=K.b9 id _) (by show aw (b8 _ _ _) _=_;rw[aT,if_pos rfl])];simp[KS.df a,o]
  simp only[W,X])
 clear h hb a hid N a2 M J o n q i;go_enter func170,ntmps170
 go_wp2_with fail
 go_quiet (fail)
 obtain⟨k,z⟩:=nm (w.drewN nq);have x:Hid (Ch ag w k):=Z (by rw[<-z];exact(Ch.refl _ _).drewN nq);rw[z];have j:=Z (H.af x);have Q:=j.az f b 0 (by omega);have R:=j.az f b 1 (by omega);have D:=j.g1 f b 1;have F:=j.g1 f b 2;have d:=x.k d;have a0:=Z (j.drew.yR f b 0 1 (by omega) (by omega) code v);clear z l B;go_wp2_with fail
 go_region
 obtain⟨w1,s⟩:=nm (((k.setCell (fb,1) (.int .u64 code)).setCell (fb,2) (.int .u64 v)).drew);have U:Hid (∃aW Y',dB χ L Y C K ((K.au (.ai id m) 0 code).au (.ai id m) 1 v) k.drew aW Y' w1):=Z (by rw[<-s];exact a0.out);obtain⟨av,ad,P⟩:=U.out;have A:=Z P;have y:=(bs f {K.F (.ai id m)with r:=fO (K.F (.ai id m)).r 0 code});have I:=(f.gr y (bm _ _));have T:Hid (Gr K ((K.au (.ai id m) 0 code).au (.ai id m) 1 v)):=Z (y.trans (bs I _));have d:w1.cell? (tb,0)=some (.int .u64 id):=by
  rw[<-s];have c:Ch (aK fb) k ((k.setCell (fb,1) (.int .u64 code)).setCell (fb,2) (.int .u64 v)).drew:=(((Ch.refl _ _).only _ _).only _ _).drew;exact(c.cell (p:=⟨tb,0,none⟩) (aE d) O).trans d
 rw[s];clear s P Q R D F y I;go_wp2_with fail
 refine(dz 2 0 0 id num 0 0 0 0 v code (by exact S) A.at_).mono ?_;rintro e w2 ⟨rfl,a3,V,G⟩;have u:=Z (A.trans T G);clear G d;go_wp2_with fail
 go_end0
 rw[E];exact⟨rfl,a3,V,u.at_,(Nx.af x.drew).trans u.nx,u.yk⟩
theorem hh(id:Int)(t:Thread)(a:aw K.ai id=some t)(hid:t.id=id)(B:1<t.l.length)(O:t.l.length<=8)(code v:Int)(hb:K.out.length<=900000)(h:ae w χ L Y C K):
 Calls prog 145 #[(L.mb,0),(Y.bB id,0),.int .u64 code,.int .u64 v] w (rB (.tuple #[]) χ L C (er K id code v) w):=by
 obtain⟨g,cap,o,N,z⟩:=h.jX a (by omega);have c:=h.CI a;rw[o]at c;obtain⟨m,d⟩:∃m,t.l.length=m+1:=⟨t.l.length-1,by omega⟩;have s:=z m (by omega);obtain⟨f,n⟩:∃f,t.l[m]?=some f:=⟨_,List.getElem?_eq_getElem (by omega)⟩;have k:=h.DU a n;rw[d]at c N;have T:(m:Int)+1-1=(m:Int):=by omega
 have S:m<8:=by omega
 have R:m<=m+1:=by omega
 have U:m<cap:=by omega
 have x:=Z (h.DV (m:=m) a o (by omega));obtain⟨fb,y⟩:=nm (Y.fb id m);obtain⟨tb,i⟩:=nm (Y.bB id);rw[y]at s k;rw[i]at c x⊢;have M:=h.rz a 1;rw[i]at M;have F:=Z hb;have b:=Z (And.intro a (And.intro hid (And.intro i (And.intro d B))));obtain⟨num,p⟩:=nm f.num;rw[p]at k;have E:Hid (er K id code v=dh (K.b9 id {t with l:=t.l.take m}) id num code v):=Z (by
  unfold er;have J:K.top id=m:=by unfold KS.top;rw[KS.df a,d];omega
  simp only[J,KS.df a];rw[List.getD_eq_getElem?_getD,n];simp only[Option.getD_some,p])
 clear h hb a hid B O o z d y i n p;go_enter func145,ntmps145
 go_wp2_with fail
 obtain⟨H,j,_⟩:=x.out;have G:=Z j;have D:aw (K.b9 id {t with l:=t.l.take m}).ai id=some {t with l:=t.l.take m}:=by show aw (b8 _ _ _) _=_;rw[aT,if_pos rfl]
 have P:H.bB id=tb:=((j.yk id t b.1).1).trans b.2.2.1;have A:(t.l.take m).length=m:=by rw[List.length_take,b.2.2.2.1];omega
 have q:=jI id {t with l:=t.l.take m} D b.2.1 (by show 0<(t.l.take m).length;rw[A];have:=b.2.2.2.1;have:=b.2.2.2.2;omega) (by show(t.l.take m).length<=8;rw[A];omega) num code v (by exact F) j.at_;rw[P]at q;refine q.mono ?_;rintro e w2 ⟨rfl,Q,I,u⟩;have r:=Z u;clear u j D q c s k;go_wp2_with fail
 go_end0
 rw[E];exact⟨rfl,Q,I,r.at_,G.nx.trans r.nx⟩
end
end
section
section
variable{w:World}{χ:Nat->a4}{L:cw}{Y:Var}{C:KC}{K:KS}
theorem ae.CL(h:ae w χ L Y C K){i:Nat}(b:i<K.wk.length):∃aW Y',dB χ L Y C K (gv C K i) w aW Y' ((w.setCell (L.wb,i*38+4) (.int .i64 C.loop)).setCell (L.wb,i*38+4+33) (.slice none 0 0)):=by
 obtain⟨pre,post,v,a⟩:=h.cur (c:=.own i) b ⟨rfl,rfl⟩;have d:=a.jF (kz (.own i)) C.loop;have e:=d.pS (kz (.own i)) (.slice none 0 0) [] (cp.nil _);exact h.yN (c:=.own i) b ⟨rfl,rfl⟩ a (f:={(K.W i).f with pc:=C.loop,back:=[]}) e (aQ.nil _ _) (((Ch.refl _ _).only _ _).only _ _)
theorem ij(i:Nat)(b:i<K.wk.length)(h:ae w χ L Y C K):Calls prog 144 #[(L.mb,0),(L.wb,i*38)] w (de (.tuple #[]) χ L Y C K (gv C K i) w):=by
 have H:=Z h;have f:=Z b;obtain⟨pre,post,v,a⟩:=h.cur (c:=.own i) b ⟨rfl,rfl⟩;have g:=h.c1;have p1:=a.mu;have p2:=a.yg;have j:=a.free (i*38+4);have k:=a.free (i*38+4+33);have d:=Z (h.CL b);clear h b a;go_enter func144,ntmps144
 go_wp2_with fail
 go_end0
 obtain⟨aW,Y',e⟩:=d.out;exact⟨rfl,aW,Y',e⟩
theorem bA(i:Nat)(x:ak):(K.be i x).wk.length=K.wk.length:=by simp[KS.be]
theorem ik(i:Nat)(a:i<K.wk.length)(h:ae w χ L Y C K):Calls prog 111 #[(L.mb,0),(L.wb,i*38)] w (de (.tuple #[]) χ L Y C K (ds C K i) w):=by
 have H:=Z h;have g:=Z a;have m:=h.ky a;have k:=h.tn (i*38);have l:=Z (h.uU a 0);clear h a;go_enter func111,ntmps111
 go_wp2_with fail
 obtain⟨p,o,b⟩:=l.out;have d:=Z b;refine(ij i (by rw[bA];exact g) b.at_).mono ?_;rintro e w2 ⟨rfl,n,j,c⟩;have f:=Z (d.trans (Gr.of_eq rfl) c);clear b c m k;go_wp2_with fail
 go_end0
 exact⟨rfl,n,j,f⟩
theorem lr(i:Nat)(d:i<K.wk.length)(id:Int)(hid:aH id)(h:ae w χ L Y C K):Calls prog 194 #[(L.mb,0),(L.wb,i*38),.int .u64 id] w (de (.tuple #[]) χ L Y C K (eg K i id) w):=by
 have H:=Z h;have j:=Z d;have p:=Z hid;have g:=h.e7 d;obtain⟨m,b⟩:=nm ((K.W i).hand);rw[b]at g;have l:=h.eh;by_cases c:m=0
 ·have E:Hid (eg K i id=({K with table:=(jJ K.table id 1).2}).be i {K.W i with hand:=id}):=Z (by unfold eg;rw[b,if_neg (by simp[c])];rfl)
  subst c;clear h d hid b;go_enter func194,ntmps194
  go_wp2_with fail
  refine(p9 id 1 p H).mono ?_;rintro e w1 ⟨⟨v,rfl,_⟩,n,k,a⟩;have f:=Z a;have x:=a.at_.e7 j;have u:=a.at_.tn (i*38+1);have s:=Z (a.at_.jx j id);clear a g l;go_wp2_with fail
  go_end0
  rw[E];obtain⟨t,q,r⟩:=s.out;exact⟨rfl,t,q,f.trans (Gr.of_eq rfl) r⟩
 ·have E:Hid (eg K i id=cc K id):=Z (by unfold eg;rw[b,if_pos c])
  have hb:(m !=0)=true:=by simpa using c
  have o:=Z (e9 id hid h);clear h d hid b c;go_enter func194,ntmps194
  go_wp2_with fail
  refine o.mono ?_;rintro e w1 ⟨rfl,n,k,a⟩;have f:=Z a;clear a g l;go_wp2_with fail
  go_end0
  rw[E];exact⟨rfl,n,k,f⟩
theorem lu(id a:Int)(hid:aH id)(j:K.blocks.Ok)(h:ae w χ L Y C K):Calls prog 196 #[(L.mb,0),.int .u64 id,.int .u64 a] w (de (.tuple #[]) χ L Y C K (ef K id a) w):=by
 have H:=Z h;have m:=Z j;have i:=Z (cZ id hid h);obtain⟨s,c⟩:=nm (cx K id);rw[c]at i;by_cases d:s=0
 ·have E:Hid (ef K id a=iS K (wrap64 a)):=Z (by unfold ef;rw[c,if_pos d])
  subst d;clear h j hid c;go_enter func196,ntmps196
  go_wp2_with fail
  refine i.mono ?_;rintro e w1 ⟨rfl,b⟩;have g:=Z b;have k:=Z (H.af b);have o:=k.oG;clear b;go_wp2_with fail
  refine(yL (wrap64 a) m k).mono ?_;rintro e w2 ⟨⟨v,rfl,_⟩,p,n,l⟩;have f:=Z l;clear l o;go_wp2_with fail
  go_end0
  rw[E];exact⟨rfl,p,n,f.at_,(Nx.af g).trans f.nx,f.yk⟩
 ·have E:Hid (ef K id a=K):=Z (by unfold ef;rw[c,if_neg d])
  have hb:(s==0)=false:=by simpa using d
  clear h j hid c d;go_enter func196,ntmps196
  go_wp2_with fail
  refine i.mono ?_;rintro e w1 ⟨rfl,b⟩;have g:=Z b;clear b;go_wp2_with fail
  go_end0
  rw[E];exact⟨rfl,χ,Y,H.hg g⟩
end
end
section
theorem yS(l:List (Int×Thread))(k:Int)(g:Int->Nat):fk (l.map fun x=>(x.1,g x.1)) k=(fk l k).map fun x=>(x.1,g x.1):=by
 induction l with
 |nil=>rfl
 |cons x l ih=>
  rw[List.map_cons,hH,hH];split
  ·rfl
  ·simp[ih]
section
variable{w w':World}{χ:Nat->a4}{L:cw}{Y:Var}{C:KC}{K:KS}
theorem ae.ET(h:ae w χ L Y C K)(id:Int):∃w',(Builtin.delete_ #[126,56] 0 #[.map (some L.tm),.int .u64 id]).run prog w=.ok (.tuple #[]) w'/\ae w' χ L Y C {K with ai:=fk K.ai id}/\Nx χ χ w w'/\Ch (aK L.tm) w w':=by
 have a:=h.tm (by simp);obtain⟨w',e,c,b⟩:=fo (P:=prog) (T:=126) (K:=56) (E:=173) (ty:=0) (kT:=56) underlying126 underlying56 a.is id;have s:eI [.tm] χ χ (aK L.tm) w w':=eI.one b (fun i d=>by rw[show i=L.tm from d];simp[a.k]) h.small;rw[yS]at c;exact⟨w',e,(h.step s (by simp)).EM a.nd ⟨c,a.k,(a.nd.del id).1⟩,Nx.of s (by simp),b⟩
theorem Nx.row{χ aW:Nat->a4}(n:Nx χ aW w w'){b:Nat}{t:TypeId}{l:List Value}(h:Row w b t l)(a:χ b=.no):Row w' b t l/\aW b=.no:=⟨h.ch n.ch (by simp[a]),(n.same b h.lt).trans a⟩
def A8(x:lV)(w:World)(p:Value)(wc:World):Prop:=∃a,p=.pointer (some ⟨a,0,none⟩)/\Row wc a 101 x.cells/\Ch ag w wc/\w.heap.size<=a
theorem rC(i:Nat)(c3:i<K.wk.length)(id:Int)(t:Thread)(Q:aw K.ai id=some t)(hid:t.id=id)(c5:aH id)(c2:K.clock.Ok)(c1:K.blocks.Ok)(hb:K.out.length<=800000)(h:ae w χ L Y C K):
 Calls prog 174 #[(L.mb,0),(L.wb,i*38),(Y.bB id,0)] w (rB (.tuple #[]) χ L C (mw C K i id) w):=by
 have d:=h.eh;have a:=h.gb Q;rw[hid]at a;obtain⟨tb,S⟩:=nm (Y.bB id);rw[S]at a⊢;have b:=Z (And.intro Q (And.intro hid S));have H:=Z h;have cs:=Z c3;have D:=Z c5;have cm:=Z c2;have ck:=Z c1;have ch:=Z hb;obtain⟨K1,c0⟩:=mn (({K with table:=(fW K.table id 0).2}:KS));have k:=Z c0;obtain⟨x,c6⟩:=nm ((fq K1.table id).1);have ab:=Z c6;clear h Q hid S c3 c5 c2 c1 hb c0 c6;go_enter func174,ntmps174
 go_wp2_with fail
 go_still_tail 8,(by kernel_rfl)
 change wpList _ _ _ _ _ w.drew;go_wp2_with fail
 refine(p' id 0 D H.drew).mono ?_;rintro e w1 ⟨⟨v,rfl,_⟩,r,o,G⟩;rw[<-k]at G;have g:Hid (dB χ L Y C K K1 w r o w1):=Z (((dB.refl H).af (Ch.refl _ _).drew).trans (Gr.of_eq rfl) G);clear G d a;have P:o.bB id=tb:=((g.yk id t b.1).1).trans b.2.2;have R:aw K1.ai id=some t:=by rw[k];exact b.1
 have a:=g.at_.gb R;rw[P,b.2.1]at a;have fb:Hid (Row w1 tb 176 [.int .u64 id,o.lv id,.int .u64 t.eM]/\r tb=.th id):=Z (by
  have:=g.at_.th id t R (by simp);rw[P]at this;exact⟨b.2.1▸this.is,this.k⟩)
 have d:=g.at_.eh;have A:=Z (fun w h=>kv (K:=K1) (w:=w) (χ:=r) (L:=L) (Y:=o) (C:=C) id D h);obtain⟨cd,U⟩:=nm (fq K1.table id);have eS:cd.1=x:=by rw[<-U];exact ab
 rw[U]at A;obtain⟨l,lb⟩:=cd;obtain rfl:l=x:=eS;unfold lV.val at A;dsimp only at A;clear U P R;go_wp2_with fail
 go_cut [6] (fun p wc=>A8 l w1 p wc)
 case first=>
  have fn:L.mb≠w1.heap.size:=Nat.ne_of_lt (aE d);have fr:tb≠w1.heap.size:=Nat.ne_of_lt (aE a);have fz:=World.new_ne w1 ⟨L.mb,1012,none⟩ d;have gc:=World.new_ne w1 ⟨tb,0,none⟩ a;go_region_held3 (fun w'=>w'.cell? (L.mb,1012)=some (.pointer (some (L.tb,0)))/\w'.cell? (tb,0)=some (.int .u64 id)) (go_keep) (first|(go_at_call 138;refine(A _ (g.at_.alloc _).drew).mono ?_;rintro e w2 ⟨rfl,f⟩;have j:Hid (Ch ag w1 w2):=Z (Ch.trans ((Ch.refl _ _).alloc _).drew f);have c:=Z (Row.ch (w:=(w1.alloc (.cells #[.int .u64 0,.int .i64 0,.int .u64 0,.int .u64 0,.int .u64 0,.bool false,.bool false] 101)).drew) (Row.drew (Row.new w1 #[.int .u64 0,.int .i64 0,.int .u64 0,.int .u64 0,.int .u64 0,.bool false,.bool false] 101)) f (fun h=>h));have d1:=j.k d;have d2:=j.k a;have hf:=c.c1;have y0:=c.free 0;have hi:=c.k 1 rfl;have gk:=c.free 1;have hl:=c.k 2 rfl;have go:=c.free 2;have hm:=c.k 3 rfl;have gr:=c.free 3;have hn:=c.k 4 rfl;have gs:=c.free 4;have hu:=c.k 5 rfl;have gt:=c.free 5;have hv:=c.k 6 rfl;have he:=c.free 6;clear f)|(go_at_call 138;refine(A _ g.at_.drew).mono ?_;rintro e w2 ⟨rfl,f⟩;have j:Hid (Ch ag w1 w2):=Z (Ch.trans (Ch.refl _ _).drew f);have d1:=j.k d;have d2:=j.k a;clear f))
  all_goals(go_wp2_with fail;go_meet)
  ·exact⟨w2.heap.size,rfl,Row.new w2 _ _,j.alloc _,j.size⟩
  ·exact⟨w1.heap.size,rfl,((((((c.set 0 _).set 1 _).set 2 _).set 3 _).set 4 _).set 5 _).set 6 _,(((((((j.set (p:=⟨w1.heap.size,0,none⟩) (Or.inr (Nat.le_refl _)) _).set (p:=⟨w1.heap.size,1,none⟩) (Or.inr (Nat.le_refl _)) _).set (p:=⟨w1.heap.size,2,none⟩) (Or.inr (Nat.le_refl _)) _).set (p:=⟨w1.heap.size,3,none⟩) (Or.inr (Nat.le_refl _)) _).set (p:=⟨w1.heap.size,4,none⟩) (Or.inr (Nat.le_refl _)) _).set (p:=⟨w1.heap.size,5,none⟩) (Or.inr (Nat.le_refl _)) _).set (p:=⟨w1.heap.size,6,none⟩) (Or.inr (Nat.le_refl _)) _),Nat.le_refl _⟩
 case rest=>
  obtain⟨E,rfl,c4,f,hle⟩:=hcut;obtain⟨w2,eL⟩:=nm wc;subst eL;have s:Hid (dB χ L Y C K K1 w r o wc):=Z (g.af f);have av:Hid (Row wc E 101 l.cells/\r E=.no):=Z ⟨c4,by
   cases eA:r E with
   |no=>rfl
   |_=>exact absurd (g.at_.small E (by rw[eA];simp)) (by omega)⟩
  have T:K1.ai=K.ai:=by rw[k]
  have n:Hid (aw K1.ai id=some t):=Z (by rw[T];exact b.1);have cq:Hid (K1.clock.Ok):=Z (by rw[k];exact cm);have cl:Hid (K1.blocks.Ok):=Z (by rw[k];exact ck);have ci:Hid (K1.out.length<=800000):=Z (by rw[k];exact ch);have cA:Hid (i<K1.wk.length):=Z (by rw[k];exact cs);have z:Hid (Gr K K1):=Z (Gr.of_eq T);have c7:o.bB id=tb:=((s.yk id t b.1).1).trans b.2.2;clear d a c4 f hle T;have d:=s.at_.eh;have a:=s.at_.gb n;rw[c7,b.2.1]at a;clear c7;go_wp2_with fail
  go_still_tail 8,(by kernel_rfl)
  change wpList _ _ _ _ _ wc.drew;go_wp2_with fail
  refine(v' id D s.at_.drew).mono ?_;rintro e ce ⟨⟨v,rfl,_⟩,hw,cS,I⟩;have u:=Z ((s.af (Ch.refl _ _).drew).trans z I);have ad:=Z (((Nx.af (Ch.refl _ wc).drew).trans I.nx).row av.1 av.2);have c8:cS.bB id=tb:=((u.yk id t b.1).1).trans b.2.2;have ec:=u.at_.xM;clear I d a;have a:=u.at_.gb n;rw[c8,b.2.1]at a;clear c8;go_wp2_with fail
  go_still_tail 8,(by kernel_rfl)
  change wpList _ _ _ _ _ ce.drew;go_wp2_with fail
  refine(ns id u.at_.drew).mono ?_;rintro e w4 ⟨rfl,hB,cW,J⟩;have y:=Z ((u.af (Ch.refl _ _).drew).trans z J);have al:=Z (((Nx.af (Ch.refl _ ce).drew).trans J.nx).row ad.1 ad.2);have c9:cW.bB id=tb:=((y.yk id t b.1).1).trans b.2.2;clear J ec a;have es:=y.at_.jH;have a:=y.at_.gb n;rw[c9,b.2.1]at a;clear c9;go_wp2_with fail
  go_still_tail 8,(by kernel_rfl)
  change wpList _ _ _ _ _ w4.drew;go_wp2_with fail
  refine(kx id (by exact cq) y.at_.drew).mono ?_;rintro e cf ⟨rfl,hF,dr,M⟩;have B:=Z ((y.af (Ch.refl _ _).drew).trans z M);have F:=Z (((Nx.af (Ch.refl _ w4).drew).trans M.nx).row al.1 al.2);have cb:dr.bB id=tb:=((B.yk id t b.1).1).trans b.2.2;clear M es a;have a:=B.at_.gb n;rw[cb,b.2.1]at a;have x3:=F.1.k 3 rfl;clear cb;go_wp2_with fail
  go_still_tail 8,(by kernel_rfl)
  change wpList _ _ _ _ _ cf.drew;go_wp2_with fail
  refine(dz 7 0 0 id 0 0 0 0 0 l.value 0 (by exact Nat.le_trans ci (by omega)) B.at_.drew).mono ?_;rintro e ge ⟨rfl,i0,fd,N⟩;have a2:=Z ((B.af (Ch.refl _ _).drew).trans z N);have am:=Z (((Nx.af (Ch.refl _ cf).drew).trans N.nx).row F.1 F.2);clear N a x3;go_wp2_with fail
  refine(ik i (by exact cA) a2.at_).mono ?_;rintro e a0 ⟨rfl,i1,dC,O⟩;have m:=Z (a2.trans z O);have ap:=Z (O.nx.row am.1 am.2);have W:dC.bB id=tb:=((m.yk id t b.1).1).trans b.2.2;clear O;have en:=m.at_.iG;have a:=m.at_.gb n;rw[W,b.2.1]at a;have V:=(m.at_.th id t n (by simp)).k;rw[W]at V;obtain⟨a1,eC,bv,X,bi⟩:=m.at_.drew.ET id;have cC:=Z bv;have cL:=Z (m.nx.trans ((Nx.af (Ch.refl _ a0).drew).trans X));have cQ:=Z (((Nx.af (Ch.refl _ a0).drew).trans X).row ap.1 ap.2);have et:a1.cell? (tb,0)=some (.int .u64 id):=((bi.cell (p:=⟨tb,0,none⟩) (aE a) (fun e=>by
   have:=(m.at_.tm (by simp)).k;rw[<-show tb=L.tm from e,V]at this;cases this))).trans a
  have x2:=cQ.1.k 2 rfl;clear bv X bi W V;go_wp2_with fail
  go_still_tail 8,(by kernel_rfl)
  change wpList _ _ _ _ _ a0.drew;go_wp2_with fail
  clear eC en a;go_still_tail 7,(by kernel_rfl)
  change wpList _ _ _ _ _ a1.drew;go_wp2_with fail
  refine(lu id l.home D (by exact cl) cC.drew).mono ?_;rintro e gf ⟨rfl,eW,dN,bw⟩;have a3:=Z bw;clear bw et x2;go_wp2_with fail
  go_end0
  refine⟨rfl,eW,dN,?_,cL.trans ((Nx.af (Ch.refl _ a1).drew).trans a3.nx)⟩;have ex:mw C K i id=ef {ds C (tell {K1 with table:=(eF K1.table id).2,q:=(dy K1.q id).2,clock:=(K1.clock.bl id).2} ⟨7,0,0,id,0,0,0,0,0,l.value,0⟩) i with ai:=fk (ds C (tell {K1 with table:=(eF K1.table id).2,q:=(dy K1.q id).2,clock:=(K1.clock.bl id).2} ⟨7,0,0,id,0,0,0,0,0,l.value,0⟩) i).ai id} id l.home:=by
   rw[<-ab];unfold mw;rw[k]
  rw[ex];exact a3.at_
end
end
end Go.Proofs.YtfnilkpkogipfaaGreatDoor
