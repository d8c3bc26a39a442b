import Derived.Test.YtfnilkpkogipfaaGreatDoorZAx
import Derived.Test.YtfnilkpkogipfaaGreatDoorZAy
set_option linter.all false
set_option maxRecDepth 100000
set_option maxHeartbeats 8000000
namespace Go.Proofs.YtfnilkpkogipfaaGreatDoor
open Go.RowKit Go.Proofs.Tryz
section
section
variable{w w':World}{χ:Nat->aX}{L:cz}{Y:Var}{C:KC}{K:KS}
theorem sR{N M:Nat}(I:mU C)(U:Inv N M K)(us:N<=500000)(up:M<=500000)(i:Nat)(eA:i<K.wk.length)(id:Int)(t:Thread)(Q:aw K.ai id=some t)(k:Nat)(eL:k+1=t.l.length)(gs:t.l.length%2=1)(h:ae w χ L Y C K):
 Calls prog 113 #[(L.mb,0),(L.wb,i*38),(Y.bH id,0),(Y.fb id k,0)] w (r9 (.tuple #[]) χ L C (bV C K i id k) w):=by
 have a3:k<t.l.length:=by omega
 have c0:ak K (.ai id k):=⟨t,Q,a3⟩;obtain⟨b,hb⟩:=nm (Y.fb id k);obtain⟨tb,dC⟩:=nm (Y.bH id);have cb:aS L Y (.ai id k) b 0:=⟨hb.symm,rfl⟩;rw[hb,dC];have hid:=(U.dg Q).id;obtain⟨x,c3⟩:=nm (ff C.a8 (K.F (.ai id k)).pc);have J:=fun w (h:ae w χ L Y C K)=>Ex id x.op k Q a3 b cb (U.lS c0).r (U.lS c0).back I.pv I.pl I.bw (by have:=U.out;omega) h
 have k4:=pN I U Q (k:=k) a3 x.op;rw[c3]at k4;obtain⟨s,c1⟩:=nm (a' (bE C K id x.op) C.a8 (K.F (.ai id k)) (K.mem,K.out));obtain⟨K1,V⟩:=nm (({K with mem:=s.2.2.1,out:=s.2.2.2}:KS).cJ (.ai id k) s.2.1);have et:vU C K id x.op k=(s.1,K1):=by unfold vU;rw[c1];dsimp only;rw[V]
 rw[c1,V]at k4;obtain⟨P,l1,ce⟩:=k4;have ex:Gr K K1:=by rw[<-V];exact(Gr.of_eq (K':=({K with mem:=s.2.2.1,out:=s.2.2.2}:KS)) rfl).trans (bu (c:=.ai id k) ⟨t,Q,a3⟩ _)
 have B:K1.wk.length=K.wk.length:=by rw[<-V];exact bq _ _
 obtain⟨t1,O,eS,_⟩:∃ll,aw K1.ai id=some ll/\ll.l.length=t.l.length/\ll.id=t.id:=by rw[<-V];exact dO (K:=({K with mem:=s.2.2.1,out:=s.2.2.2}:KS)) Q _
 rw[et]at J;have c6:Hid (bV C K i id k=if s.1=1 then g9 C (K1.fB (.ai id k)) id k (wrap64 x.v)else if s.1=2 then(if 0<K1.top id then K1.cn id {K1.T id with l:=(K1.T id).l.take (K1.top id)}else eX C K1 i id k ((K1.F (.ai id k)).r 0))else if s.1=3 then eX C (tell K1 ⟨4,0,0,id,x.op,0,0,0,0,if x.op≠15/\x.op≠0 then dt (K1.F (.ai id k)).r x else 0,0⟩) i id k 18446744073709551615 else K1):=Z (by unfold bV;dsimp only;rw[c3,c1,V]);have c2:(K.F (.ai id k)).pc<0∨(C.a8.length:Int)<=(K.F (.ai id k)).pc->s.1=3:=fun e=>by
  rw[<-c1];unfold a';rcases e with e|e
  ·rw[if_pos e]
  ·split
   ·rfl
   ·rw[List.getElem?_eq_none (by omega)]
 have es:=h.code (by simp);have eC:=(P.dg O).id;have c9:i<K1.wk.length:=by rw[B];exact eA
 have c8:ak K1 (.ai id k):=⟨t1,O,by omega⟩;obtain⟨r,eW⟩:=nm s.1;rw[eW]at J l1 ce c6 c2;dsimp only at J;have o:=Z (And.intro Q (And.intro dC (And.intro hb (And.intro hid a3))));have d:=Z (And.intro O (And.intro eC (And.intro eS (And.intro ex (And.intro B c8)))));have ec:=Z (And.intro c0 cb);have hv:=Z (dJ.refl h);obtain⟨pc,cd⟩:=nm ((K.F (.ai id k)).pc);have ii:=Z cd;rw[cd]at c3 c2;obtain⟨am,W⟩:=nm C.a8.length;have ck:=Z W;have v4:am<=2048:=by rw[<-W];exact I.pl
 rw[W]at J c2;have G:=h.uh c0 cb;rw[cd]at G;have k3:=h.c3;rw[W]at k3;have ok:=Z es.prog;have cW:=c3;by_cases mp:pc<0∨(am:Int)<=pc
 ·have rg:(¬0<=pc/\decide (0<=pc)=false)∨(0<=pc/\decide (0<=pc)=true/\decide (pc<(am:Int))=false):=by
   by_cases e:pc<0
   ·exact Or.inl ⟨by omega,by simpa using e⟩
   ·exact Or.inr ⟨by omega,by simpa using e,by simpa using mp.resolve_left e⟩
  have re:r=3:=c2 mp;subst re;have s4:x=⟨0,0,0,0,0,0,0⟩:=by rw[<-cW];exact lR (by rw[W];omega)
  subst s4;try dsimp only at J
  try dsimp only at c6
  have ip:Hid (∀w,ae w χ L Y C K->Calls prog 28 #[(b,0),.slice L.pc am L.BX,.iface 294 (.agg #[(L.mb,0),.int .u64 id,.int .i64 0])] w (wQ 3 (fun w'=>∃aY Y',dJ χ L Y C K K1 w aY Y' w'))):=Z J;have ci:=Z (fun(w:World) (χ:Nat->aX) (Y:Var) (v:Int) (h:ae w χ L Y C (tell K1 ⟨4,0,0,id,0,0,0,0,0,v,0⟩))=>lX I (P.tell ⟨4,0,0,id,0,0,0,0,0,v,0⟩) (by omega) (by omega) i c9 id t1 O k (by omega) (by omega) 18446744073709551615 ⟨by decide,by decide⟩ h);have gf:=Z (fun(w:World) (χ:Nat->aX) (Y:Var) (v:Int) (h:ae w χ L Y C K1)=>dH 4 0 0 id 0 0 0 0 0 v 0 (by have:=P.out;omega) h);have c4:Hid (bV C K i id k=eX C (tell K1 ⟨4,0,0,id,0,0,0,0,0,if 0≠15/\0≠0 then dt (K1.F (.ai id k)).r ⟨0,0,0,0,0,0,0⟩else 0,0⟩) i id k 18446744073709551615):=Z (by rw[c6,if_neg (by decide),if_neg (by decide),if_pos rfl];try rfl);clear h U I Q dC hb hid a3 c0 cb c3 J c1 V et P l1 ce ex B O eS c2 es eC c9 c8 eW cd W eL gs eA cW;rcases rg with⟨ro,mm⟩|⟨ro,mm,rt⟩
  all_goals
   go_in
   go_wp2
   obtain⟨w1,B⟩:=nm (w.alloc (.cells #[.int .i64 0,.int .i64 0,.int .i64 0,.int .i64 0,.int .u64 0,.int .i64 0,.int .i64 0] 121));have hm:=Z (Ch.al (D:=ag) B);have ge:Hid (Row w1 w.heap.size 121 [.int .i64 0,.int .i64 0,.int .i64 0,.int .i64 0,.int .u64 0,.int .i64 0,.int .i64 0]/\χ w.heap.size=.no):=Z ⟨by rw[<-B];exact Row.new w _ _,hv.at_.fresh (Nat.le_refl _)⟩;rw[B];clear B G k3;have cr:=Z (hv.af hm);have G:=cr.at_.uh ec.1 ec.2;rw[ii]at G;have k3:=cr.at_.c3;rw[ck]at k3;go_quiet (fail)
   generalize gt:w1.drewN _=w3;have hn:=Z (Ch.dN (D:=ag) gt);clear gt G k3;have al:=Z (cr.af hn);have ch:=Z ((Nx.af hn).row ge.1 ge.2);have G:=al.at_.c3;rw[ck]at G;have k1:=al.at_.gv o.1;rw[o.2.2.2.1,o.2.1]at k1;have x0:=ch.1.c1;go_wp2
   go_region_held3 (fun w'=>w'.cell? (L.mb,3)=some (.slice L.pc am L.BX)/\w'.cell? (tb,0)=some (.int .u64 id)/\w'.cell? ⟨w.heap.size,0,none⟩=some (.int .i64 0)) (go_keep) ((go_at_call 28;refine(ip _ al.at_.drew).mono ?_;rintro e w4 ⟨⟨u,rfl,lc⟩,gc,en,cS⟩;have f:=Z ((al.af (Ch.refl _ _).drew).trans (Gr.refl _) cS);have R:=Z (((Nx.af (Ch.refl _ w3).drew).trans cS.nx).row ch.1 ch.2);have he:=((f.yk id t o.1).1).trans o.2.1;have hf:=((f.yk id t o.1).2 k o.2.2.2.2).trans o.2.2.1;have q:=Z (And.intro he hf);clear cS lc he hf;have dN:=f.at_.c3;rw[ck]at dN;have T:=f.at_.gv d.1;rw[d.2.1,q.1]at T;have x4:=R.1.c1))
   all_goals
    clear dN;go_wp2
    go_cut [12] (fun p wc=>uC 62 [.int .i64 4,.int .i64 0,.int .i64 0,.int .u64 id,.int .i64 0,.int .u64 0,.int .u64 0,.int .u64 0,.int .u64 0,.int .u64 0,.int .u64 0] w4 p wc)
    case first=>
     have s5:=World.new_ne w4 ⟨tb,0,none⟩ T;have s6:=World.new_ne w4 ⟨w.heap.size,0,none⟩ x4;have s7:tb≠w4.heap.size:=Nat.ne_of_lt (aP T);have s8:w.heap.size≠w4.heap.size:=Nat.ne_of_lt (aP x4);go_region_held3 (fun w'=>w'.cell? (tb,0)=some (.int .u64 id)/\w'.cell? ⟨w.heap.size,0,none⟩=some (.int .i64 0)) (go_keep) (fail)
     all_goals(go_wp2_with fail;go_meet)
     all_goals exact⟨w4.heap.size,rfl,(Row.new w4 _ _).drew,((Ch.refl _ _).alloc _).drew,Nat.le_refl _⟩
    case rest=>
     obtain⟨c7,rfl,cf,dr,hle⟩:=hcut;have cl:=Z cf;have lv:=Z hle;have H:=Z (f.af dr);have c5:=Z ((Nx.af dr).row R.1 R.2);have lt:Hid (gc c7=.no):=Z (f.at_.fresh hle);have kw:c7≠w.heap.size:=(fun e=>by have rd:=R.1.lt;omega);have s1:=kw.symm;clear cf dr hle T x4;have x5:=c5.1.c1;have E:Hid (bV C K i id k=eX C (tell K1 ⟨4,0,0,id,0,0,0,0,0,0,0⟩) i id k 18446744073709551615):=Z (by rw[c4,if_neg (by decide)]);obtain⟨ap,av,ax,bi,bv,bw,bx,cC,cL,cQ,cA⟩:=cl.Bl;go_wp2_with fail
     with_reducible refine(gf.out _ _ _ 0 H.out.at_).mono ?_
     rintro e lo ⟨rfl,ls,k0,n⟩;have cs:=Z n;have X:=((n.yk id t1 d.1).1).trans q.1;have a1:=((n.yk id t1 d.1).2 k (by rw[d.2.2.1];exact o.2.2.2.2)).trans q.2;have hex:=ci _ _ _ 0 n.at_;rw[X,a1]at hex;have ad:=Z hex;clear hex n X a1 ap av ax bi bv bw bx cC cL cQ cA;go_wp2_with fail
     with_reducible refine ad.out.mono ?_
     rintro e hl ⟨rfl,a2,S,A,F⟩;have z:=Z (And.intro A ((H.nx.trans cs.nx).trans F));clear A F;go_wp2
     go_end0
     rw[E];exact⟨rfl,a2,S,z.1,z.2⟩
 ·have l0:0<=pc:=by omega
  have mc:pc<(am:Int):=by omega
  have mm:decide (0<=pc)=true:=by simpa using l0
  have rt:decide (pc<(am:Int))=true:=by simpa using mc
  have hd:C.a8[pc.toNat]?=some x:=by rw[<-cW];exact nY l0 (by rw[W];exact mc)
  obtain⟨g,kd,cf,_⟩:=ok (by intro e;rw[e]at hd;cases hd);have p3:=Z cf;have hu:=Z kd;rw[kd]at k3 J;obtain⟨m,rfl⟩:=Int.eq_ofNat_of_zero_le l0;rw[Int.toNat_natCast]at hd;obtain⟨i1,i2,i3,i4,i5,i6,i7⟩:=eR C.a8 m x hd;have cq:=Z (And.intro i1 (And.intro i2 (And.intro i3 (And.intro i4 (And.intro i5 (And.intro i6 i7))))));obtain⟨j,fb,fd,fn,ab,fr,fz⟩:=x;try dsimp only at J
  try dsimp only at c6
  try dsimp only at ce
  have og:Hid (k<=7):=Z (by have:=(U.dg Q).l.n8;omega);have ip:Hid (∀w,ae w χ L Y C K->Calls prog 28 #[(b,0),.slice (some (g,0)) am L.BX,.iface 294 (.agg #[(L.mb,0),.int .u64 id,j])] w (wQ r (fun w'=>∃aY Y',dJ χ L Y C K K1 w aY Y' w'))):=Z J;clear hd i1 i2 i3 i4 i5 i6 i7 cf kd;rcases l1 with rfl|rfl|rfl|rfl
  have E:Hid (bV C K i id k=K1):=Z (by rw[c6,if_neg (by decide),if_neg (by decide),if_neg (by decide)]);clear h U I Q dC hb hid a3 c0 cb c3 J c1 V et P ce ex B O eS c2 es eC c9 c8 eW cd W eL gs eA cW;have pi:=True.intro
  rotate_left
  obtain⟨s2,s3,v6⟩:=ce rfl;obtain⟨t2,ms,s0,_⟩:=dO (K:=K1) (k:=k) O {K1.F (.ai id k)with pc:=wrap64 ((K1.F (.ai id k)).pc+1)};have mb:=k' P c8;have nx:=Z (fun(w:World) (χ:Nat->aX) (Y:Var) (h:ae w χ L Y C (K1.fB (.ai id k)))=>pM I mb (by omega) (by omega) id t2 ms k (by omega) (by omega) ab s3 (by omega) h);have mL:wrap64 ab=ab:=by unfold wrap64;omega
  have E:Hid (bV C K i id k=g9 C (K1.fB (.ai id k)) id k ab):=Z (by rw[c6,if_pos rfl,mL]);clear ms s0 mb mL s2;clear h U I Q dC hb hid a3 c0 cb c3 J c1 V et P ce ex B O eS c2 es eC c9 c8 eW cd W eL gs eA cW;have pl:=True.intro
  rotate_left
  have le:aI ((K1.F (.ai id k)).r 0):=(P.lS c8).r 0 (by omega);obtain⟨a0,hw⟩:∃a,(K1.F (.ai id k)).r 0=a:=⟨_,rfl⟩;rw[hw]at le;have no:=Z hw;have ci:=Z (fun(w:World) (χ:Nat->aX) (Y:Var) (h:ae w χ L Y C K1)=>lX I P (by omega) (by omega) i c9 id t1 O k (by omega) (by omega) a0 le h);have mA:K1.top id=k:=by unfold KS.top;rw[KS.dk O];omega
  have c4:Hid (bV C K i id k=if 0<k then K1.cn id {t1 with l:=t1.l.take k}else eX C K1 i id k a0):=Z (by rw[c6,if_neg (by decide),if_pos rfl,mA,KS.dk O,hw]);have ob:=Z eL;clear hw le mA;clear h U I Q dC hb hid a3 c0 cb c3 J c1 V et P ce ex B O eS c2 es eC c9 c8 eW cd W eL gs eA cW;have pm:=True.intro
  rotate_left
  have ci:=Z (fun(w:World) (χ:Nat->aX) (Y:Var) (v:Int) (h:ae w χ L Y C (tell K1 ⟨4,0,0,id,j,0,0,0,0,v,0⟩))=>lX I (P.tell ⟨4,0,0,id,j,0,0,0,0,v,0⟩) (by omega) (by omega) i c9 id t1 O k (by omega) (by omega) 18446744073709551615 ⟨by decide,by decide⟩ h);have gf:=Z (fun(w:World) (χ:Nat->aX) (Y:Var) (v:Int) (h:ae w χ L Y C K1)=>dH 4 0 0 id j 0 0 0 0 v 0 (by have:=P.out;omega) h);have c4:Hid (bV C K i id k=eX C (tell K1 ⟨4,0,0,id,j,0,0,0,0,if j≠15/\j≠0 then dt (K1.F (.ai id k)).r ⟨j,fb,fd,fn,ab,fr,fz⟩else 0,0⟩) i id k 18446744073709551615):=Z (by rw[c6,if_neg (by decide),if_neg (by decide),if_pos rfl];try rfl);clear h U I Q dC hb hid a3 c0 cb c3 J c1 V et P ce ex B O eS c2 es eC c9 c8 eW cd W eL gs eA cW;have pp:=True.intro
  rotate_left
  all_goals
   go_in
   go_wp2
   obtain⟨w1,B⟩:=nm (w.alloc (.cells #[.int .i64 0,.int .i64 0,.int .i64 0,.int .i64 0,.int .u64 0,.int .i64 0,.int .i64 0] 121));have hm:=Z (Ch.al (D:=ag) B);have ge:Hid (Row w1 w.heap.size 121 [.int .i64 0,.int .i64 0,.int .i64 0,.int .i64 0,.int .u64 0,.int .i64 0,.int .i64 0]/\χ w.heap.size=.no):=Z ⟨by rw[<-B];exact Row.new w _ _,hv.at_.fresh (Nat.le_refl _)⟩;rw[B];clear B G k3;have cr:=Z (hv.af hm);have G:=cr.at_.uh ec.1 ec.2;rw[ii]at G;have k3:=cr.at_.c3;rw[ck,hu]at k3;go_quiet (fail)
   generalize gt:w1.drewN _=w2;have i9:=Z (Ch.dN (D:=ag) gt);clear gt G k3;have it:=Z (cr.af i9);have y:=Z ((Nx.af i9).row ge.1 ge.2);have G:=it.at_.uh ec.1 ec.2;rw[ii]at G;have k3:=it.at_.c3;rw[ck,hu]at k3;have cm:=Z (p3.ch (hm.trans i9) (fun h=>h));have mW:=cm.cell _ _ cq.1;have n0:=cm.cell _ _ cq.2.1;have n1:=cm.cell _ _ cq.2.2.1;have n2:=cm.cell _ _ cq.2.2.2.1;have n8:=cm.cell _ _ cq.2.2.2.2.1;have nd:=cm.cell _ _ cq.2.2.2.2.2.1;have ne:=cm.cell _ _ cq.2.2.2.2.2.2;have pu:=y.1.c1;have ap:=y.1.free 0;have pv:=y.1.k 1 rfl;have av:=y.1.free 1;have qb:=y.1.k 2 rfl;have ax:=y.1.free 2;have qc:=y.1.k 3 rfl;have bi:=y.1.free 3;have ql:=y.1.k 4 rfl;have bv:=y.1.free 4;have qm:=y.1.k 5 rfl;have bw:=y.1.free 5;have qr:=y.1.k 6 rfl;have bx:=y.1.free 6;try dsimp only at mW n0 n1 n2 n8 nd ne
   go_wp2
   go_still_tail 12,(by kernel_rfl)
   change wpList _ _ _ _ _ w2.drew;go_upto_region 3 with fail
   obtain⟨w3,hF⟩:=nm (((((((((w2.setCell ⟨w.heap.size,0,none⟩ (.int .i64 j)).setCell ⟨w.heap.size,1,none⟩ (.int .i64 fb)).setCell ⟨w.heap.size,2,none⟩ (.int .i64 fd)).setCell ⟨w.heap.size,3,none⟩ (.int .i64 fn)).setCell ⟨w.heap.size,4,none⟩ (.int .u64 ab)).setCell ⟨w.heap.size,5,none⟩ (.int .i64 fr)).setCell ⟨w.heap.size,6,none⟩ (.int .i64 fz))).drew);have hn:Hid (Ch (aL w.heap.size) w2 w3):=Z (by rw[<-hF];exact(((((((((Ch.refl _ _).only _ _).only _ _).only _ _).only _ _).only _ _).only _ _).only _ _)).drew);have ch:Hid (Row w3 w.heap.size 121 [j,fb,fd,fn,.int .u64 ab,fr,fz]/\χ w.heap.size=.no):=Z ⟨by rw[<-hF];exact((((((((y.1.set 0 _).set 1 _).set 2 _).set 3 _).set 4 _).set 5 _).set 6 _)).drew,y.2⟩;rw[hF];have al:=Z (it.plain y.2 (Nat.le_refl _) hn);clear hF G k3 mW n0 n1 n2 n8 nd ne pu pv qb qc ql qm qr ap av ax bi bv bw bx;have G:=al.at_.c3;rw[ck,hu]at G;have k1:=al.at_.gv o.1;rw[o.2.2.2.1,o.2.1]at k1;have x0:=ch.1.c1;go_wp2
   go_region_held3 (fun w'=>w'.cell? (L.mb,3)=some (.slice (some (g,0)) am L.BX)/\w'.cell? (tb,0)=some (.int .u64 id)/\w'.cell? ⟨w.heap.size,0,none⟩=some (.int .i64 j)) (go_keep) ((go_at_call 28;refine(ip _ al.at_.drew).mono ?_;rintro e w4 ⟨⟨u,rfl,lc⟩,gc,en,cS⟩;have f:=Z ((al.af (Ch.refl _ _).drew).trans (Gr.refl _) cS);have R:=Z (((Nx.af (Ch.refl _ w3).drew).trans cS.nx).row ch.1 ch.2);have he:=((f.yk id t o.1).1).trans o.2.1;have hf:=((f.yk id t o.1).2 k o.2.2.2.2).trans o.2.2.1;have q:=Z (And.intro he hf);clear cS lc he hf;have dN:=f.at_.c3;rw[ck,hu]at dN;have T:=f.at_.gv d.1;rw[d.2.1,q.1]at T;have x4:=R.1.c1))
  all_goals
   first
    |(clear pi
      go_wp2
      go_end0
      rw[E];exact⟨rfl,gc,en,f.at_,f.nx⟩)
    |(clear pl
      clear dN T x4;have x4:=R.1.k 4 rfl;have gk:Hid (aS L en (.ai id k) b 0):=Z ⟨q.2.symm,rfl⟩;have li:=f.at_.uh d.2.2.2.2.2 gk;have f0:=f.at_.hg d.2.2.2.2.2 gk 0;obtain⟨s9,hB⟩:=nm ((K1.F (.ai id k)).pc);rw[hB]at li;have lb:=f.at_.qI d.2.2.2.2.2 gk (wrap64 ((K1.F (.ai id k)).pc+1));rw[hB]at lb;have p8:=Z lb;have ov:=Z hB;clear lb hB;go_upto_region 7 with fail
      obtain⟨tl,jp,k2⟩:=p8.out;obtain⟨st,mC⟩:=nm (w4.setCell (b,0) (.int .i64 (wrap64 (s9+1))));rw[mC]at k2⊢;have H:Hid (dJ gc L en C K1 (K1.fB (.ai id k)) w4 tl jp st):=Z (by unfold KS.fB;rw[ov];exact k2);clear k2 mC li f0 x4;have c5:=Z (H.nx.row R.1 R.2);have x4:=c5.1.k 4 rfl;have k5:=nx _ _ _ H.at_;rw[(H.yk id t1 d.1).1,q.1,(H.yk id t1 d.1).2 k (by rw[d.2.2.1];exact o.2.2.2.2),q.2]at k5;have nC:=Z k5;clear k5;go_wp2_with fail
      with_reducible refine nC.out.mono ?_
      rintro e hl ⟨rfl,a2,S,A,F⟩;have z:=Z (And.intro A ((f.nx.trans H.nx).trans F));clear A F;go_wp2
      go_end0
      rw[E];exact⟨rfl,a2,S,z.1,z.2⟩)
    |(clear pm
      clear dN T x4;obtain⟨un,r5,kv,mk,_⟩:=f.at_.hL d.1 (by rw[d.2.2.1];exact Nat.lt_of_le_of_lt (Nat.zero_le _) o.2.2.2.2);have l':=f.at_.Dp d.1;have rc:=f.at_.r4 d.1 1;rw[q.1]at l' rc;have os:=Z kv;have hlen:t1.l.length=k+1:=(by rw[d.2.2.1,<-ob]);rw[kv,hlen]at l';have on:=Z hlen;rw[hlen]at mk;have v2:k<=r5:=(by omega);have v0:(k:Int)+1-1=(k:Int):=(by omega);have v1:(k:Int)<=8:=(by have:=og.out;omega);have ut:k<=k+1:=(by omega);clear kv hlen mk;by_cases kf:0<k
      ·have rx:decide (0<(k:Int))=true:=by simpa using kf
       have r':(0:Int)<(k:Int):=(by omega);have kT:=f.at_.Fw (m:=k) d.1 os (by rw[on];omega);rw[q.1]at kT;have p1:=Z kT;have E:Hid (bV C K i id k=K1.cn id {t1 with l:=t1.l.take k}):=Z (by rw[c4,if_pos kf]);clear kT;go_wp2
       go_end0
       rw[E];obtain⟨jp,mS,_⟩:=p1.out;exact⟨rfl,gc,jp,mS.at_,f.nx.trans mS.nx⟩
      ·have rx:decide (0<(k:Int))=false:=by simp;omega
       have r':¬(0:Int)<(k:Int):=(by omega);have gk:Hid (aS L en (.ai id k) b 0):=Z ⟨q.2.symm,rfl⟩;have li:w4.cell? (b,1)=some (.int .u64 a0):=(by have:=f.at_.aC d.2.2.2.2.2 gk 0 (by omega);rw[no]at this;exact this);have E:Hid (bV C K i id k=eX C K1 i id k a0):=Z (by rw[c4,if_neg kf]);have hex:=ci _ _ _ f.at_;rw[q.1,q.2]at hex;have ad:=Z hex;clear hex;go_wp2_with fail
       with_reducible refine ad.out.mono ?_
       rintro e hl ⟨rfl,a2,S,A,F⟩;have z:=Z (And.intro A (f.nx.trans F));clear A F;go_wp2
       go_end0
       rw[E];exact⟨rfl,a2,S,z.1,z.2⟩)
    |(clear pp
      clear dN;go_wp2
      go_cut [12] (fun p wc=>uC 62 [.int .i64 4,.int .i64 0,.int .i64 0,.int .u64 id,j,.int .u64 0,.int .u64 0,.int .u64 0,.int .u64 0,.int .u64 0,.int .u64 0] w4 p wc)
      case first=>
       have s5:=World.new_ne w4 ⟨tb,0,none⟩ T;have s6:=World.new_ne w4 ⟨w.heap.size,0,none⟩ x4;have s7:tb≠w4.heap.size:=Nat.ne_of_lt (aP T);have s8:w.heap.size≠w4.heap.size:=Nat.ne_of_lt (aP x4);go_region_held3 (fun w'=>w'.cell? (tb,0)=some (.int .u64 id)/\w'.cell? ⟨w.heap.size,0,none⟩=some (.int .i64 j)) (go_keep) (fail)
       all_goals(go_wp2_with fail;go_meet)
       all_goals exact⟨w4.heap.size,rfl,(Row.new w4 _ _).drew,((Ch.refl _ _).alloc _).drew,Nat.le_refl _⟩
      case rest=>
       obtain⟨c7,rfl,cf,dr,hle⟩:=hcut;have cl:=Z cf;have lv:=Z hle;have H:=Z (f.af dr);have c5:=Z ((Nx.af dr).row R.1 R.2);have lt:Hid (gc c7=.no):=Z (f.at_.fresh hle);have kw:c7≠w.heap.size:=(fun e=>by have rd:=R.1.lt;omega);have s1:=kw.symm;clear cf dr hle T x4;have x5:=c5.1.c1;by_cases gr:j=15
       ·subst gr
        have E:Hid (bV C K i id k=eX C (tell K1 ⟨4,0,0,id,15,0,0,0,0,0,0⟩) i id k 18446744073709551615):=Z (by rw[c4,if_neg (by decide)]);go_upto_region 17 with fail
        obtain⟨ap,av,ax,bi,bv,bw,bx,cC,cL,cQ,cA⟩:=cl.Bl;go_wp2_with fail
        with_reducible refine(gf.out _ _ _ 0 H.out.at_).mono ?_
        rintro e lo ⟨rfl,ls,k0,n⟩;have cs:=Z n;have X:=((n.yk id t1 d.1).1).trans q.1;have a1:=((n.yk id t1 d.1).2 k (by rw[d.2.2.1];exact o.2.2.2.2)).trans q.2;have hex:=ci _ _ _ 0 n.at_;rw[X,a1]at hex;have ad:=Z hex;clear hex n X a1 ap av ax bi bv bw bx cC cL cQ cA;go_wp2_with fail
        with_reducible refine ad.out.mono ?_
        rintro e hl ⟨rfl,a2,S,A,F⟩;have z:=Z (And.intro A ((H.nx.trans cs.nx).trans F));clear A F;go_wp2
        go_end0
        rw[E];exact⟨rfl,a2,S,z.1,z.2⟩
       ·by_cases hi:j=0
        ·subst hi
         have E:Hid (bV C K i id k=eX C (tell K1 ⟨4,0,0,id,0,0,0,0,0,0,0⟩) i id k 18446744073709551615):=Z (by rw[c4,if_neg (by decide)]);go_upto_region 17 with fail
         obtain⟨ap,av,ax,bi,bv,bw,bx,cC,cL,cQ,cA⟩:=cl.Bl;go_wp2_with fail
         with_reducible refine(gf.out _ _ _ 0 H.out.at_).mono ?_
         rintro e lo ⟨rfl,ls,k0,n⟩;have cs:=Z n;have X:=((n.yk id t1 d.1).1).trans q.1;have a1:=((n.yk id t1 d.1).2 k (by rw[d.2.2.1];exact o.2.2.2.2)).trans q.2;have hex:=ci _ _ _ 0 n.at_;rw[X,a1]at hex;have ad:=Z hex;clear hex n X a1 ap av ax bi bv bw bx cC cL cQ cA;go_wp2_with fail
         with_reducible refine ad.out.mono ?_
         rintro e hl ⟨rfl,a2,S,A,F⟩;have z:=Z (And.intro A ((H.nx.trans cs.nx).trans F));clear A F;go_wp2
         go_end0
         rw[E];exact⟨rfl,a2,S,z.1,z.2⟩
        ·have tm:(j==15)=false:=by rw[beq_eq_false_iff_ne];exact gr
         have tr:(j !=15)=true:=(by simpa using gr);have tt:(j==0)=false:=(by rw[beq_eq_false_iff_ne];exact hi);have ty:(j !=0)=true:=(by simpa using hi);obtain⟨go,kb⟩:∃v,dt (K1.F (.ai id k)).r ⟨j,fb,fd,fn,ab,fr,fz⟩=v:=⟨_,rfl⟩;have E:Hid (bV C K i id k=eX C (tell K1 ⟨4,0,0,id,j,0,0,0,0,go,0⟩) i id k 18446744073709551615):=Z (by rw[c4,if_pos ⟨gr,hi⟩,kb]);have pa:Hid (aS L en (.ai id k) b 0):=Z ⟨q.2.symm,rfl⟩;obtain⟨wb,w0,wd,mn⟩:=H.at_.cur d.2.2.2.2.2 pa;have i8:=Z (kB b 0 (K1.F (.ai id k)).pc (K1.F (.ai id k)).r ⟨j,fb,fd,fn,ab,fr,fz⟩ wc.drew mn.fr.drew);rw[kb,xr]at i8;dsimp only at i8;clear mn kb gr hi;obtain⟨y0,sv,sw,sz,sC,tg,th⟩:=c5.1.c7;have rb:=cl.k 9 rfl;have r6:=cl.free 9;go_wp2
         go_region_held3 (fun w'=>w'.cell? ⟨w.heap.size,0,none⟩=some (.int .i64 j)/\w'.cell? ⟨w.heap.size,1,none⟩=some (.int .i64 fb)/\w'.cell? ⟨w.heap.size,2,none⟩=some (.int .i64 fd)/\w'.cell? ⟨w.heap.size,3,none⟩=some (.int .i64 fn)/\w'.cell? ⟨w.heap.size,4,none⟩=some (.int .u64 ab)/\w'.cell? ⟨w.heap.size,5,none⟩=some (.int .i64 fr)/\w'.cell? ⟨w.heap.size,6,none⟩=some (.int .i64 fz)) (go_keep) ((go_at_call 116;refine i8.mono ?_;rintro e lm ⟨rfl,md⟩;have ih:Hid (Ch ag wc lm):=Z (Ch.trans (Ch.refl _ _).drew md);have nq:=Z ((Nx.af ih).row c5.1 c5.2);have io:=Z (cl.ch ih (fun h=>h));clear md;obtain⟨i1,i2,i3,i4,i5,i6,i7⟩:=nq.1.c7;have sb:=io.k 9 rfl;have sl:=io.free 9))
         all_goals
          go_upto_region 17 with fail
          obtain⟨ni,i0⟩:=nm (lm.setCell (c7,9) (.int .u64 go));have nw:Hid (Ch (aL c7) lm ni):=Z (by rw[<-i0];exact(Ch.refl _ _).only _ _);have p2:Hid (Row ni c7 62 [.int .i64 4,.int .i64 0,.int .i64 0,.int .u64 id,j,.int .u64 0,.int .u64 0,.int .u64 0,.int .u64 0,.int .u64 go,.int .u64 0]):=Z (by rw[<-i0];exact io.set 9 _);rw[i0];clear i0 i1 i2 i3 i4 i5 i6 i7 sb sl y0 sv sw sz sC tg th rb r6;have lw:=Z ((H.af ih).plain lt (Nat.le_trans f.nx.ch.size lv) nw);obtain⟨ap,av,ax,bi,bv,bw,bx,cC,cL,cQ,cA⟩:=p2.Bl;go_wp2_with fail
          with_reducible refine(gf.out _ _ _ go lw.out.at_).mono ?_
          rintro e lo ⟨rfl,ls,k0,n⟩;have cs:=Z n;have X:=((n.yk id t1 d.1).1).trans q.1;have a1:=((n.yk id t1 d.1).2 k (by rw[d.2.2.1];exact o.2.2.2.2)).trans q.2;have hex:=ci _ _ _ go n.at_;rw[X,a1]at hex;have ad:=Z hex;clear hex n X a1 ap av ax bi bv bw bx cC cL cQ cA;go_wp2_with fail
          with_reducible refine ad.out.mono ?_
          rintro e hl ⟨rfl,a2,S,A,F⟩;have z:=Z (And.intro A ((lw.nx.trans cs.nx).trans F));clear A F;go_wp2
          go_end0
          rw[E];exact⟨rfl,a2,S,z.1,z.2⟩)
end
end
section
section
variable{w w':World}{χ:Nat->aX}{L:cz}{Y:Var}{C:KC}{K:KS}
theorem yb{N M:Nat}(O:mU C)(A:Inv N M K)(et:N<=400000)(es:M<=400000)(i:Nat)(x:i<K.wk.length)(R:0<=K.w/\K.w<K.wk.length)(h:ae w χ L Y C K):
 Calls prog 62 #[(L.mb,0),(L.wb,i*38)] w (r9 (.tuple #[]) χ L C (eY C K i) w):=by
 have ec:=h.mx x;obtain⟨id,hid⟩:=nm ((K.W i).slot);rw[hid]at ec;by_cases I:id=0
 ·subst I
  have cQ:=Z (z6 O A (by omega) (by omega) i x R h);have E:Hid (eY C K i=ke C K i):=Z (by unfold eY;rw[if_pos hid]);clear h A O x R hid;go_in
  go_wp2_with fail
  with_reducible refine cQ.out.mono ?_
  rintro e cr ⟨rfl,al,a0,z,G⟩;have y:=Z (And.intro z G);clear z G;go_wp2
  go_end0
  rw[E];exact⟨rfl,al,a0,y.1,y.2⟩
 ·have ex:(id==0)=false:=by rw[beq_eq_false_iff_ne];exact I
  obtain⟨t,v⟩:=A.core.k6 (KS.gY x) (by rw[hid];exact I);rw[hid]at v;have P:=A.dg v;have c9:=P.l.n0;have ch:=P.l.n8;obtain⟨m,c8⟩:∃m,t.l.length=m+1:=⟨t.l.length-1,by omega⟩;have cb:K.top id=m:=by unfold KS.top;rw[KS.dk v];omega
  obtain⟨f,J⟩:∃f,t.l[m]?=some f:=⟨_,List.getElem?_eq_getElem (by omega)⟩;have U:=P.l.b7 _ f J;have c4:(K.T id).l.getD m default=f:=by rw[KS.dk v,List.getD_eq_getElem?_getD,J];rfl
  have ad:=A.gz x;obtain⟨a,a3⟩:=nm ((K.W i).left);have c6:=ad.l0;have cq:=ad.l1;rw[a3]at c6 cq;have am:Hid (eY C K i=if f.b7=false/\a=0 then dA C (cv K id) i else if f.b7 then cG C (K.be i {K.W i with left:=max (a-1) 0}) i id m else bV C (K.be i {K.W i with left:=max (a-1) 0}) i id m):=Z (by unfold eY;rw[hid,if_neg I];dsimp only;rw[cb,c4,a3]);obtain⟨g,cap,c7,cf,c5⟩:=h.hL v c9;obtain⟨b,hb⟩:=nm (Y.fb id m);obtain⟨tb,V⟩:=nm (Y.bH id);have r:=h.Dp v;have s:=c5 m (by omega);have l:=h.r7 v J;have ci:=h.hZ;have u:=h.Dl x;have bv:=h.uf (i*38+3);have q:=h.gv v;rw[V]at r q;obtain⟨T,c3⟩:=nm t.l.length;rw[c7,c3]at r;rw[hb]at s l;rw[a3]at u;rw[P.id]at q;have ap:=fun n=>(h.drewN n).look id
  rw[v,V]at ap;dsimp only[Option.map,Option.getD,bj]at ap;have av:=h.look id;rw[v,V]at av;dsimp only[Option.map,Option.getD,bj]at av;have ce:=Z h;have k:=Z (And.intro v (And.intro V (And.intro hb (And.intro c8 P.id))));have eS:IntKind.i64.wrap ((T:Int)-1)=m:=by rw[show(T:Int)-1=m by omega];exact IntWalk.i64_in _ (by omega)
  have eC:(0:Int)<=(m:Int):=by omega
  have eL:(m:Int)<(T:Int):=by omega
  have eW:IntKind.i64.wrap (m:Int)=m:=IntWalk.i64_in _ (by omega);have eA:T<=cap:=by omega
  have cd:=(A.Eg (by omega) v).1;have a1:Inv N M (K.be i {K.W i with left:=max (a-1) 0}):=A.be x rfl rfl ⟨ad.f,by show 0<=max (a-1) 0;omega,by show max (a-1) 0<=24;omega⟩;have a2:i<(K.be i {K.W i with left:=max (a-1) 0}).wk.length:=by rw[bF];exact x
  have ax:((K.be i {K.W i with left:=max (a-1) 0}).W i).slot=id:=by rw[gM x];exact hid
  have ck:=Z (fun w (h:ae w χ L Y C K)=>h.vP x (max (a-1) 0));cases Q:f.b7 with
  |false=>
   rw[Q]at l U am;have dC:m%2≠1:=(by simpa using U.symm);by_cases bi:a=0
   ·subst bi
    have E:Hid (eY C K i=dA C (cv K id) i):=Z (by rw[am,if_pos ⟨rfl,rfl⟩]);have cC:=Z (fun w (h:ae w χ L Y C K)=>fh id cd h);have cL:=Z (fun(w:World) (χ:Nat->aX) (Y:Var) (h:ae w χ L Y C (cv K id))=>iC i (by exact x) h);clear h A O x R hid v P c9 ch c8 c3 cb J U c4 ad a3 c7 cf c5 hb V cd a1 a2 ax Q c6 cq I;go_wp2
    go_quiet (fail)
    generalize p:World.drewN _ _=w1;have c:=Z (Ch.dN (D:=ag) p);clear p;have r:=c.k r;have s:=c.k s;have l:=c.k l;have u:=c.k u;have q:=c.k q;go_wp2
    go_region_held3 (fun w'=>w'.cell? (tb,1)=some (.slice (some (g,0)) T cap)/\w'.cell? ⟨g,m,none⟩=some (.pointer (some (b,0)))) (go_keep) (fail)
    generalize p:World.drew w1=w2;have d:Hid (Ch ag w1 w2):=Z (by rw[<-p];exact(Ch.refl _ _).drew);clear p;have r:=d.k r;have s:=d.k s;have l:=d.k l;have u:=d.k u;have q:=d.k q;have H:=Z (ce.af (c.trans d));have X:=Z (Nx.af (χ:=χ) (c.trans d));clear ap av s ci;go_wp2_with fail
    with_reducible refine(cC.out _ H.out).mono ?_
    rintro e w3 ⟨rfl,cs,cl,j⟩;have S:=Z j;clear j r l u q;go_wp2_with fail
    with_reducible refine(cL.out _ _ _ S.out.at_).mono ?_
    rintro e w4 ⟨rfl,en,cS,cm⟩;have cA:=Z (And.intro cm.at_ ((X.trans S.nx).trans cm.nx));clear cm;go_wp2
    go_end0
    rw[E];exact⟨rfl,en,cS,cA.1,cA.2⟩
   ·have B:max (a-1) 0=a-1:=by omega
    have dN:(a==0)=false:=(by rw[beq_eq_false_iff_ne];exact bi);have dr:1<=a:=(by omega);have cW:(0:Int)<=a-1:=(by omega);have E:Hid (eY C K i=bV C (K.be i {K.W i with left:=a-1}) i id m):=Z (by rw[am,if_neg (by rintro⟨_,e⟩;exact bi e),if_neg (by decide),B]);have bw:=Z J;have bx:=Z Q;have ab:0<=(K.be i {K.W i with left:=max (a-1) 0}).w/\(K.be i {K.W i with left:=max (a-1) 0}).w<(K.be i {K.W i with left:=max (a-1) 0}).wk.length:=(by rw[bF];exact R);have o:=(fun(w:World) (χ:Nat->aX) (Y:Var) (h:ae w χ L Y C (K.be i {K.W i with left:=max (a-1) 0}))=>sR O a1 (by omega) (by omega) i a2 id t v m (by omega) (by omega) h);rw[B]at o;have c0:=Z o;clear o ab;clear h A O x R hid v P c9 ch c8 c3 cb J U c4 ad a3 c7 cf c5 hb V cd a1 a2 ax Q c6 I;go_wp2
    go_quiet (fail)
    generalize p:World.drewN _ _=w1;have c:=Z (Ch.dN (D:=ag) p);clear p;have r:=c.k r;have s:=c.k s;have l:=c.k l;have u:=c.k u;have q:=c.k q;go_wp2
    go_region_held3 (fun w'=>w'.cell? (tb,1)=some (.slice (some (g,0)) T cap)/\w'.cell? ⟨g,m,none⟩=some (.pointer (some (b,0)))) (go_keep) (fail)
    generalize p:World.drew w1=w2;have d:Hid (Ch ag w1 w2):=Z (by rw[<-p];exact(Ch.refl _ _).drew);clear p;have r:=d.k r;have s:=d.k s;have l:=d.k l;have u:=d.k u;have q:=d.k q;have H:=Z (ce.af (c.trans d));have X:=Z (Nx.af (χ:=χ) (c.trans d));clear ap av s ci;have bv:=H.uf (i*38+3);have F:=ck _ H;rw[B]at F;have c2:=Z F;clear F;go_wp2_with fail
    obtain⟨cs,cl,j⟩:=c2.out;obtain⟨w3,W⟩:=nm (w2.setCell (L.wb,i*38+3) (.int .i64 (a-1)));rw[W]at j⊢;have S:=Z j;have o:=c0 _ _ _ j.at_;rw[(j.yk id t k.1).1,k.2.1,(j.yk id t k.1).2 m (by rw[k.2.2.2.1];exact Nat.lt_succ_self m),k.2.2.1]at o;have c1:=Z o;have l:=j.at_.r7 k.1 bw;rw[(j.yk id t k.1).2 m (by rw[k.2.2.2.1];exact Nat.lt_succ_self m),k.2.2.1,bx]at l;clear j W o r u q bv;go_wp2_with fail
    with_reducible refine c1.out.mono ?_
    rintro e cr ⟨rfl,al,a0,z,G⟩;have y:=Z (And.intro z ((X.trans S.nx).trans G));clear z G;go_wp2
    go_end0
    rw[E];exact⟨rfl,al,a0,y.1,y.2⟩
  |true=>
   rw[Q]at l U am;have dC:m%2=1:=(by simpa using U.symm);by_cases bi:a=0
   ·subst bi
    have B:max ((0:Int)-1) 0=0:=(by decide);have E:Hid (eY C K i=cG C (K.be i {K.W i with left:=0}) i id m):=Z (by rw[am,if_neg (by rintro⟨e,_⟩;cases e),if_pos rfl,B]);have bw:=Z J;have bx:=Z Q;have ab:0<=(K.be i {K.W i with left:=max ((0:Int)-1) 0}).w/\(K.be i {K.W i with left:=max ((0:Int)-1) 0}).w<(K.be i {K.W i with left:=max ((0:Int)-1) 0}).wk.length:=(by rw[bF];exact R);have o:=(fun(w:World) (χ:Nat->aX) (Y:Var) (h:ae w χ L Y C (K.be i {K.W i with left:=max ((0:Int)-1) 0}))=>k9 O a1 (by omega) (by omega) i a2 id t v ax I (by omega) m (by omega) (by exact ab) h);rw[B]at o;have c0:=Z o;clear o ab;clear h A O x R hid v P c9 ch c8 c3 cb J U c4 ad a3 c7 cf c5 hb V cd a1 a2 ax Q c6 cq I;go_wp2
    go_quiet (fail)
    generalize p:World.drewN _ _=w1;have c:=Z (Ch.dN (D:=ag) p);clear p;have r:=c.k r;have s:=c.k s;have l:=c.k l;have u:=c.k u;have q:=c.k q;go_wp2
    go_region_held3 (fun w'=>w'.cell? (tb,1)=some (.slice (some (g,0)) T cap)/\w'.cell? ⟨g,m,none⟩=some (.pointer (some (b,0)))) (go_keep) (fail)
    generalize p:World.drew w1=w2;have d:Hid (Ch ag w1 w2):=Z (by rw[<-p];exact(Ch.refl _ _).drew);clear p;have r:=d.k r;have s:=d.k s;have l:=d.k l;have u:=d.k u;have q:=d.k q;have H:=Z (ce.af (c.trans d));have X:=Z (Nx.af (χ:=χ) (c.trans d));clear ap av s ci;have bv:=H.uf (i*38+3);have F:=ck _ H;rw[B]at F;have c2:=Z F;clear F;go_wp2_with fail
    obtain⟨cs,cl,j⟩:=c2.out;obtain⟨w3,W⟩:=nm (w2.setCell (L.wb,i*38+3) (.int .i64 (0)));rw[W]at j⊢;have S:=Z j;have o:=c0 _ _ _ j.at_;rw[(j.yk id t k.1).1,k.2.1,(j.yk id t k.1).2 m (by rw[k.2.2.2.1];exact Nat.lt_succ_self m),k.2.2.1]at o;have c1:=Z o;have l:=j.at_.r7 k.1 bw;rw[(j.yk id t k.1).2 m (by rw[k.2.2.2.1];exact Nat.lt_succ_self m),k.2.2.1,bx]at l;clear j W o r u q bv;go_wp2_with fail
    with_reducible refine c1.out.mono ?_
    rintro e cr ⟨rfl,al,a0,z,G⟩;have y:=Z (And.intro z ((X.trans S.nx).trans G));clear z G;go_wp2
    go_end0
    rw[E];exact⟨rfl,al,a0,y.1,y.2⟩
   ·have B:max (a-1) 0=a-1:=by omega
    have dN:(a==0)=false:=(by rw[beq_eq_false_iff_ne];exact bi);have dr:1<=a:=(by omega);have cW:(0:Int)<=a-1:=(by omega);have E:Hid (eY C K i=cG C (K.be i {K.W i with left:=a-1}) i id m):=Z (by rw[am,if_neg (by rintro⟨e,_⟩;cases e),if_pos rfl,B]);have bw:=Z J;have bx:=Z Q;have ab:0<=(K.be i {K.W i with left:=max (a-1) 0}).w/\(K.be i {K.W i with left:=max (a-1) 0}).w<(K.be i {K.W i with left:=max (a-1) 0}).wk.length:=(by rw[bF];exact R);have o:=(fun(w:World) (χ:Nat->aX) (Y:Var) (h:ae w χ L Y C (K.be i {K.W i with left:=max (a-1) 0}))=>k9 O a1 (by omega) (by omega) i a2 id t v ax I (by omega) m (by omega) (by exact ab) h);rw[B]at o;have c0:=Z o;clear o ab;clear h A O x R hid v P c9 ch c8 c3 cb J U c4 ad a3 c7 cf c5 hb V cd a1 a2 ax Q c6 I;go_wp2
    go_quiet (fail)
    generalize p:World.drewN _ _=w1;have c:=Z (Ch.dN (D:=ag) p);clear p;have r:=c.k r;have s:=c.k s;have l:=c.k l;have u:=c.k u;have q:=c.k q;go_wp2
    go_region_held3 (fun w'=>w'.cell? (tb,1)=some (.slice (some (g,0)) T cap)/\w'.cell? ⟨g,m,none⟩=some (.pointer (some (b,0)))) (go_keep) (fail)
    generalize p:World.drew w1=w2;have d:Hid (Ch ag w1 w2):=Z (by rw[<-p];exact(Ch.refl _ _).drew);clear p;have r:=d.k r;have s:=d.k s;have l:=d.k l;have u:=d.k u;have q:=d.k q;have H:=Z (ce.af (c.trans d));have X:=Z (Nx.af (χ:=χ) (c.trans d));clear ap av s ci;have bv:=H.uf (i*38+3);have F:=ck _ H;rw[B]at F;have c2:=Z F;clear F;go_wp2_with fail
    obtain⟨cs,cl,j⟩:=c2.out;obtain⟨w3,W⟩:=nm (w2.setCell (L.wb,i*38+3) (.int .i64 (a-1)));rw[W]at j⊢;have S:=Z j;have o:=c0 _ _ _ j.at_;rw[(j.yk id t k.1).1,k.2.1,(j.yk id t k.1).2 m (by rw[k.2.2.2.1];exact Nat.lt_succ_self m),k.2.2.1]at o;have c1:=Z o;have l:=j.at_.r7 k.1 bw;rw[(j.yk id t k.1).2 m (by rw[k.2.2.2.1];exact Nat.lt_succ_self m),k.2.2.1,bx]at l;clear j W o r u q bv;go_wp2_with fail
    with_reducible refine c1.out.mono ?_
    rintro e cr ⟨rfl,al,a0,z,G⟩;have y:=Z (And.intro z ((X.trans S.nx).trans G));clear z G;go_wp2
    go_end0
    rw[E];exact⟨rfl,al,a0,y.1,y.2⟩
end
end
section
def iG(χ:Nat->aX):Nat->aX:=fun i=>if χ i=.out then .no else χ i
theorem yc(χ:Nat->aX)(i:Nat):iG χ i≠ .out:=by
 unfold iG;split
 ·decide
 ·assumption
theorem yd{χ:Nat->aX}{i:Nat}{k:aX}(h:χ i=k)(a:k≠ .out):iG χ i=k:=by
 unfold iG;rw[if_neg (by rw[h];exact a),h]
section
variable{w w':World}{χ:Nat->aX}{L:cz}{Y:Var}{C:KC}{K:KS}
theorem ae.Ct(h:ae w χ L Y C K):ae (w.setCell (L.mb,1020) (.slice none 0 0)) (iG χ) L {Y with ov:=.slice none 0 0} C {K with out:=[]}/\
 (w.setCell (L.mb,1020) (.slice none 0 0)).ownsRow 0 62 11 Y.ov K.out.length (K.out.flatMap Ev.cells):=by
 have o:=h.head (by simp);have y:=h.out (by simp);have c:Ch (aL L.mb) w (w.setCell (L.mb,1020) (.slice none 0 0)):=(Ch.refl _ _).only _ _;have s:eQ [.gL] χ χ (aL L.mb) w (w.setCell (L.mb,1020) (.slice none 0 0)):=eQ.one c (fun i r=>by rw[show i=L.mb from r];simp[o.k]) h.small;have base:=h.step s (by simp);have a:∀{i:Nat} {k:aX},χ i=k->k≠ .out->iG χ i=k:=fun f m=>yd f m
 refine⟨{
  head:=fun b=>⟨o.row.bc _ _ ?_,o.rows,a o.k (by simp)⟩
  mem:=fun b=>⟨(base.mem (by simp)).is,a (base.mem (by simp)).k1 (by simp),a (base.mem (by simp)).k2 (by simp),a (base.mem (by simp)).k3 (by simp)⟩
  al:=fun b=>⟨(base.al (by simp)).is,a (base.al (by simp)).k1 (by simp),fun q d=>a ((base.al (by simp)).k2 q d) (by simp)⟩
  b0:=fun b=>⟨(base.b0 (by simp)).is,a (base.b0 (by simp)).k1 (by simp),a (base.b0 (by simp)).k2 (by simp),a (base.b0 (by simp)).k3 (by simp),a (base.b0 (by simp)).k4 (by simp),fun q d=>a ((base.b0 (by simp)).k5 q d) (by simp)⟩
  ring:=fun b=>⟨(base.ring (by simp)).is,a (base.ring (by simp)).k1 (by simp),a (base.ring (by simp)).k2 (by simp)⟩
  q:=fun b=>⟨(base.q (by simp)).is,(base.q (by simp)).bZ,fun i r=>a ((base.q (by simp)).k i r) (by simp)⟩
  cU:=fun b=>⟨(base.cU (by simp)).is,a (base.cU (by simp)).k1 (by simp),a (base.cU (by simp)).k2 (by simp)⟩
  obj:=fun b=>⟨(base.obj (by simp)).is,a (base.obj (by simp)).k1 (by simp),a (base.obj (by simp)).k2 (by simp)⟩
  tm:=fun b=>⟨(base.tm (by simp)).is,a (base.tm (by simp)).k (by simp),(base.tm (by simp)).nd⟩
  th:=fun j u l b=>⟨(base.th j u l (by simp)).is,a (base.th j u l (by simp)).k (by simp)⟩
  tl:=fun j u l b=>⟨(base.tl j u l (by simp)).is,fun q d=>a ((base.tl j u l (by simp)).k q d) (by simp)⟩
  fr:=fun j u k t l v b=>⟨(base.fr j u k t l v (by simp)).is,a (base.fr j u k t l v (by simp)).kf (by simp),fun q d=>a ((base.fr j u k t l v (by simp)).kb q d) (by simp)⟩
  wk:=fun b=>⟨(base.wk (by simp)).is,a (base.wk (by simp)).k (by simp),(base.wk (by simp)).back,fun i x n q d=>a ((base.wk (by simp)).kb i x n q d) (by simp),(base.wk (by simp)).n⟩
  out:=fun b=>⟨⟨rfl,Or.inl ⟨rfl,rfl⟩⟩,fun q d=>by cases d⟩
  code:=fun b=>{
   mR:=(base.code (by simp)).mR
   je:=(base.code (by simp)).je
   mT:=(base.code (by simp)).mT
   b7:=fun n=>by obtain⟨q,f,m,p⟩:=(base.code (by simp)).b7 n;exact⟨q,f,m,a p (by simp)⟩
   prog:=fun n=>by obtain⟨q,f,m,p⟩:=(base.code (by simp)).prog n;exact⟨q,f,m,a p (by simp)⟩
   calls:=fun n=>by obtain⟨q,j,f,m,p⟩:=(base.code (by simp)).calls n;exact⟨q,j,f,m,a p (by simp)⟩}
  small:=fun i r=>base.small i (fun e=>r (by unfold iG;rw[e];rfl))},?_⟩
 ·have:=nQ (L:=L) (C:=C) (ov:=Y.ov) (nw:=K.wk.length) (en:=K.entries) (at_:=K.at_) (wn:=K.w) (dr:=K.draw) o.rows 13 (.slice none 0 0)
  rw[this];rfl
 ·exact aj y.is c (fun g z e=>by
   have f:=y.k g z;rw[show g=L.mb from e,o.k]at f;cases f)
def Dt(x:List Ev×KS)(χ:Nat->aX)(L:cz)(C:KC)(w:World)(e:Ending)(w':World):Prop:=
 ∃v aY Y',e=.returned v/\w'.ownsRow w.heap.size 62 11 v x.1.length (x.1.flatMap Ev.cells)/\(∀g,v.ownBlock=some g->aY g=.no)/\ae w' aY L Y' C x.2/\Nx χ aY w w'/\∀i,aY i≠ .out
theorem ye{w:World}{e:TypeId}{z:Nat}{v:Value}{n B:Nat}{b:List Value}(h:w.ownsRow 0 e z v n b)(f:∀g,v.ownBlock=some g->B<=g):w.ownsRow B e z v n b:=by
 refine⟨h.1,?_⟩;rcases h.2 with c|⟨g,cap,cur,a,_,d⟩
 ·exact Or.inl c
 ·exact Or.inr ⟨g,cap,cur,a,f g (by rw[a];rfl),d⟩
theorem ae.sS(h:ae w' χ L Y C K){d:Nat->aX}(n:Nx d χ w w')(k:∀i,d i≠ .out):Dt (K.out,{K with out:=[]}) d L C w (.returned Y.ov) (w'.setCell (L.mb,1020) (.slice none 0 0)):=by
 obtain⟨l,m⟩:=h.Ct;have j:=h.out (by simp);have o:∀g,Y.ov.ownBlock=some g->w.heap.size<=g:=fun g b=>by
  rcases Nat.lt_or_ge g w.heap.size with a|a
  ·have f:=n.same g a
   rw[j.k g b]at f;exact absurd f.symm (k g)
  ·exact a
 refine⟨Y.ov,_,_,rfl,ye m o,fun g b=>by unfold iG;rw[if_pos (j.k g b)],l,?_,yc χ⟩;have p:=h.head (by simp);refine⟨n.ch.join (E:=aL L.mb) ((Ch.refl _ _).only _ _) (fun i c e=> ?_),fun i c=> ?_⟩
 ·have:i=L.mb:=e
  subst this;rw[<-n.same _ c,p.k];decide
 ·unfold iG
  rw[n.same i c,if_neg (k i)]
theorem Cu{N:Nat}(x:mU C)(d:Inv N 0 K)(cb:N<=300000)(kind wk draw:Int)(y:aI draw)(am:∀i,χ i≠ .out)(h:ae w χ L Y C K):
 Calls prog 18 #[(L.mb,0),.agg #[kind,wk,.int .u64 draw]] w (Dt (fk C K kind wk draw) χ L C w):=by
 obtain⟨r,j⟩:=nm (w.alloc (.cells #[kind,wk,.int .u64 draw] 58));have u:=Z (Ch.al (D:=ag) j);have m:=Z (h.hC u);have k:Hid (Row r w.heap.size 58 [kind,wk,.int .u64 draw]/\χ w.heap.size=.no):=Z ⟨by rw[<-j];exact Row.new w _ _,h.fresh (Nat.le_refl _)⟩;obtain⟨t0,t1,t2⟩:=k.1.c3;obtain⟨en,V⟩:=nm K.entries;have a0:=m.at_.setAt en;have a1:=a0.at_.Dn (-1);have bv:=a1.at_.B7 draw;have a2:=(a0.trans (Gr.of_eq rfl) a1).trans (Gr.of_eq rfl) bv;have bw:=a2.at_.D7 (wrap64 (en+1));have bx:=dJ.af (a2.trans (Gr.of_eq rfl) bw) (Ch.refl _ _).drew;obtain⟨K1,I⟩:=nm (({K with at_:=en,w:=-1,draw:=draw,entries:=wrap64 (en+1)}:KS));have b:Inv N 0 K1:=by rw[<-I];exact⟨d.core,d.nd,d.q,d.b0,d.bH,d.mem,d.obj,y,d.w0,d.w1,d.out⟩
 have a:Hid (dJ χ L Y C K K1 r χ Y (((((r.setCell (L.mb,1017) (.int .i64 en)).setCell (L.mb,1018) (.int .i64 (-1))).setCell (L.mb,1019) (.int .u64 draw)).setCell (L.mb,1016) (.int .i64 (wrap64 (en+1)))).drew)):=Z (by rw[<-I];exact bx);have v:=m.at_.Fk;rw[V]at v;have F:=m.at_.G5;have G:=m.at_.Gd;have H:=m.at_.Di;have f1:=m.at_.fz 1016;have f2:=m.at_.fz 1017;have f3:=m.at_.fz 1018;have f4:=m.at_.fz 1019;have c7:L.mb≠w.heap.size:=Nat.ne_of_lt h.Gw;have cf:=c7.symm;have q:K1.wk.length=K.wk.length:=by rw[<-I]
 have A:Hid (fk C K kind wk draw=((if kind=2 then ha K1 else if kind=1 then(if 0<=wk/\wk<K.wk.length then eY C {K1 with w:=wk} wk.toNat else K1)else K1).out,{(if kind=2 then ha K1 else if kind=1 then(if 0<=wk/\wk<K.wk.length then eY C {K1 with w:=wk} wk.toNat else K1)else K1)with out:=[]})):=Z (by rw[<-I,<-V];rfl);have z:=Z am;obtain⟨B,t⟩:=nm K.wk.length;rw[t]at A q;have ch:B<=64:=by rw[<-t];exact d.w1
 have M:=Z q;clear a0 a1 bv a2 bw bx h am I V;by_cases X:kind=2
 ·subst X
  have c4:=Z (fun w (h:ae w χ L Y C K1)=>xM (b.b0.ok (by omega)) b.b0.tick.2.1 (by have:=b.b0.tick.2.2;omega) (by have:=b.out;omega) h);have E:Hid (fk C K 2 wk draw=((ha K1).out,{ha K1 with out:=[]})):=Z (by rw[A,if_pos rfl]);clear d b x y t q;go_in
  go_wp2
  try rw[j]
  clear j;go_region
  go_wp2_with fail
  obtain⟨S,f⟩:=nm ((((((r.setCell (L.mb,1017) (.int .i64 en)).setCell (L.mb,1018) (.int .i64 (-1))).setCell (L.mb,1019) (.int .u64 draw)).setCell (L.mb,1016) (.int .i64 (wrap64 (en+1)))).drew));rw[f]at a⊢;clear f v F G H f1 f2 f3 f4 t0 t1 t2;have l:=Z (a.nx.row k.1 k.2);with_reducible refine(c4.out _ a.out.at_).mono ?_
  rintro e T ⟨rfl,ck,c8,ab⟩;have c:=Z ab;clear ab;have co:=c.at_.rZ;have Q:=c.at_.fz 1020;go_wp2
  go_ret;rw[E];exact ae.sS c.at_ (((Nx.af u).trans a.nx).trans c.nx) z
 ·have ce:(kind==2)=false:=by rw[beq_eq_false_iff_ne];exact X
  by_cases W:kind=1
  ·subst W
   by_cases J:0<=wk/\wk<B
   ·obtain⟨o,R⟩:=J
    obtain⟨i,rfl⟩:=Int.eq_ofNat_of_zero_le o;have av:i<K1.wk.length:=(by rw[q];omega);have al:Inv N 0 ({K1 with w:=(i:Int)}:KS):=⟨b.core,b.nd,b.q,b.b0,b.bH,b.mem,b.obj,b.draw,b.w0,b.w1,b.out⟩;have c3:=Z (fun(w:World) (χ:Nat->aX) (Y:Var) (h:ae w χ L Y C ({K1 with w:=(i:Int)}:KS))=>yb x al (by omega) (by omega) i av ⟨o,by show(i:Int)<K1.wk.length;omega⟩ h);have E:Hid (fk C K 1 i draw=((eY C {K1 with w:=(i:Int)} i).out,{eY C {K1 with w:=(i:Int)} i with out:=[]})):=Z (by rw[A,if_neg (by decide),if_pos rfl,if_pos ⟨o,R⟩];rfl);have ap:decide (0<=(i:Int))=true:=(by simpa using o);have c6:decide ((i:Int)<(B:Int))=true:=(by simpa using R);clear av al;clear d b x y t q;go_in
    go_wp2
    try rw[j]
    clear j;go_region
    go_upto_region 7 with fail
    obtain⟨S,f⟩:=nm ((((((r.setCell (L.mb,1017) (.int .i64 en)).setCell (L.mb,1018) (.int .i64 (-1))).setCell (L.mb,1019) (.int .u64 draw)).setCell (L.mb,1016) (.int .i64 (wrap64 (en+1)))).drew));rw[f]at a⊢;clear f v F G H f1 f2 f3 f4 t0 t1 t2;have l:=Z (a.nx.row k.1 k.2);have n:=l.1.k 1 rfl;have g:=a.at_.r0;rw[M]at g;go_quiet (fail)
    generalize p:World.drewN _ _=T;have s:=Z (Ch.dN (D:=ag) p);clear p n g;have c:=Z (a.af s);have U:=Z ((Nx.af s).row l.1 l.2);have n:=U.1.k 1 rfl;have g:=c.at_.Gd;have c5:=c.at_.fz 1018;have ax:=c.at_.Dn (i:Int);have a3:=Z ax;clear ax;go_upto_region 9 with fail
    obtain⟨c1,bi⟩:=nm (T.setCell (L.mb,1018) (.int .i64 (i:Int)));rw[bi]at a3⊢;clear bi n g c5;have O:=a3;have c2:=Z (O.nx.row U.1 U.2);have n:=c2.1.k 1 rfl;have g:=O.at_.r0;dsimp only at g;rw[M]at g;go_still_tail 8,(by kernel_rfl)
    change wpList _ _ _ _ _ c1.drew;go_wp2_with fail
    with_reducible refine(c3.out _ _ _ O.out.at_.drew).mono ?_
    rintro e ci ⟨rfl,cl,c9,ad,c0⟩;have P:=Z (And.intro ad ((((((Nx.af u).trans a.nx).trans (Nx.af s)).trans O.nx).trans (Nx.af (Ch.refl _ c1).drew)).trans c0));clear ad c0 n g;have co:=P.1.rZ;have Q:=P.1.fz 1020;go_wp2
    go_ret;rw[E];exact ae.sS P.1 P.2 z
   ·have E:Hid (fk C K 1 wk draw=(K1.out,{K1 with out:=[]})):=Z (by rw[A,if_neg (by decide),if_pos rfl,if_neg J])
    by_cases o:0<=wk
    ·have ap:decide (0<=wk)=true:=by simpa using o
     have R:¬wk<(B:Int):=(fun e=>J ⟨o,e⟩);have c6:decide (wk<(B:Int))=false:=(by simpa using R);clear J;clear d b x y t q;go_in
     go_wp2
     try rw[j]
     clear j;go_region
     go_upto_region 7 with fail
     obtain⟨S,f⟩:=nm ((((((r.setCell (L.mb,1017) (.int .i64 en)).setCell (L.mb,1018) (.int .i64 (-1))).setCell (L.mb,1019) (.int .u64 draw)).setCell (L.mb,1016) (.int .i64 (wrap64 (en+1)))).drew));rw[f]at a⊢;clear f v F G H f1 f2 f3 f4 t0 t1 t2;have l:=Z (a.nx.row k.1 k.2);have n:=l.1.k 1 rfl;have g:=a.at_.r0;rw[M]at g;go_quiet (fail)
     generalize p:World.drewN _ _=T;have s:=Z (Ch.dN (D:=ag) p);clear p n g;have c:=Z (a.af s);have co:=c.at_.rZ;have Q:=c.at_.fz 1020;go_wp2
     go_ret;rw[E];exact ae.sS c.at_ ((Nx.af u).trans c.nx) z
    ·have ap:decide (0<=wk)=false:=by simpa using o
     clear J;clear d b x y t q;go_in
     go_wp2
     try rw[j]
     clear j;go_region
     go_upto_region 7 with fail
     obtain⟨S,f⟩:=nm ((((((r.setCell (L.mb,1017) (.int .i64 en)).setCell (L.mb,1018) (.int .i64 (-1))).setCell (L.mb,1019) (.int .u64 draw)).setCell (L.mb,1016) (.int .i64 (wrap64 (en+1)))).drew));rw[f]at a⊢;clear f v F G H f1 f2 f3 f4 t0 t1 t2;have l:=Z (a.nx.row k.1 k.2);have n:=l.1.k 1 rfl;have g:=a.at_.r0;rw[M]at g;go_quiet (fail)
     generalize p:World.drewN _ _=T;have s:=Z (Ch.dN (D:=ag) p);clear p n g;have c:=Z (a.af s);have co:=c.at_.rZ;have Q:=c.at_.fz 1020;go_wp2
     go_ret;rw[E];exact ae.sS c.at_ ((Nx.af u).trans c.nx) z
  ·have cd:(kind==1)=false:=by rw[beq_eq_false_iff_ne];exact W
   have E:Hid (fk C K kind wk draw=(K1.out,{K1 with out:=[]})):=Z (by rw[A,if_neg X,if_neg W]);clear d b x y t q;go_in
   go_wp2
   try rw[j]
   clear j;go_region
   go_upto_region 10 with fail
   obtain⟨S,f⟩:=nm ((((((r.setCell (L.mb,1017) (.int .i64 en)).setCell (L.mb,1018) (.int .i64 (-1))).setCell (L.mb,1019) (.int .u64 draw)).setCell (L.mb,1016) (.int .i64 (wrap64 (en+1)))).drew));rw[f]at a⊢;clear f v F G H f1 f2 f3 f4 t0 t1 t2;have l:=Z (a.nx.row k.1 k.2);have co:=a.at_.rZ;have Q:=a.at_.fz 1020;go_wp2
   go_ret;rw[E];exact ae.sS a.at_ ((Nx.af u).trans a.nx) z
end
end
theorem Inv.CI{N M:Nat}{K:KS}(h:Inv N M K)(id:Int)(b:id≠0->(aw K.ai id).isSome=true/\eu K.wk K.ring id=0/\st K.table id≠3):Inv N M {K with ring:=(hp K.ring id).2}:=by
 refine⟨?_,h.nd,h.q,h.b0,h.bH,h.mem,h.obj,h.draw,h.w0,h.w1,h.out⟩;have c:=h.core;refine c.fU id c.cU (fun _ _=>rfl) (fun _ _=>rfl) (fun j g _=>⟨Nat.le_refl _,?_⟩) c.wk (fun r k f=>c.al id r k f) (fun t l=>c.ai id t l) (fun a=> ?_) (fun a _=>⟨(b a).1,(b a).2.2⟩) (fun a i=> ?_)
 ·show eu K.wk (hp K.ring id).2 j<=eu K.wk K.ring j
  unfold eu;rw[(gy K.ring id j).2 g];exact Nat.le_refl _
 ·show eu K.wk (hp K.ring id).2 id<=1
  have d:=(b a).2.1;have e:=(gy K.ring id id).1;rw[if_pos rfl]at e;unfold eu at d⊢;omega
 ·have d:=(b a).2.1
  have e:0<iD K.wk id:=i;unfold eu at d;omega
theorem yt(home:Int):df (List.replicate 64 aE.zero) home=(some 64,(List.replicate 64 aE.zero).set 0 ⟨1,true,aE.zero.bI,⟨64,1,home,0,0,false,false⟩⟩):=by rfl
theorem EN(home:Int):st ((List.replicate 64 aE.zero).set 0 ⟨1,true,aE.zero.bI,⟨64,1,home,0,0,false,false⟩⟩) 64=1:=by rfl
theorem oM(C:KC)(n tt:Nat)(g:1<=n)(h:n<=64)(j:tt<=65536)(i:17+8*n+C.wide.toNat+C.narrow.toNat<=tt):Inv 1 0 (fH C n tt):=by
 have f:=wg C n tt g h j i;obtain⟨d,_,e⟩:=f.born (by omega) C.entry 0 bm;unfold fH;dsimp only;refine d.CI _ (fun c=> ?_);obtain⟨t,l,o⟩:=e c;refine⟨by rw[l];rfl,o,?_⟩;generalize a:bL (ko C n tt) C.entry 0=x at c⊢;unfold bL at a
 revert a
 cases dd (ko C n tt).blocks (ko C n tt).mem 1 with
 |mk k p=>
  obtain⟨b,m⟩:=p;cases k with
  |none=>intro a;subst a;exact absurd rfl c
  |some q=>
   dsimp only;rw[show(ko C n tt).table=List.replicate 64 aE.zero from rfl,yt];intro a;subst a;dsimp only;rw[EN];decide
theorem pY(l:List bB):∀k,∀r∈fJ l k,0<=r/\r<=k
 |0,r,a=>by
  rw[(List.mem_replicate.1 a).2];exact⟨Int.le_refl _,Int.le_refl _⟩
 |k+1,r,a=>by
  rw[fJ]at a;rcases List.mem_or_eq_of_mem_set a with h|h
  ·have:=pY l k r h;omega
  ·rw[h];omega
theorem oN(l:List bB):∀k,(fJ l k).length=1000
 |0=>List.length_replicate
 |k+1=>by rw[fJ,List.length_set];exact oN l k
theorem oO{n:Int}{b:Bool}:∀{l:List aR} {i:Nat},gS n b l i=none->∀x∈l,eB x n b=true
 |[],_,_=>fun x a=>by cases a
 |y::l,i,h=>fun x a=>by
  unfold gS at h;split at h
  ·rename_i d
   rcases List.mem_cons.1 a with rfl|c
   ·exact d
   ·exact oO h x c
  ·cases h
theorem yu{l:List aR}{a:Bool}(h:jm l a=true):∀x∈l,eB x l.length a=true:=by
 unfold jm at h;rw[Bool.and_eq_true]at h;exact oO (Option.isNone_iff_eq_none.1 h.2)
theorem ra{l:List aR}{loop:Int}{calls:List bB}{p:List aR}{en c b:Int}(d:fF l loop calls=true)(a:dB p en c b=true)(f:calls.length<=2048)
 (u1:∀x∈l,aI x.v) (u2:∀x∈p,aI x.v):mU (tn l loop calls p en c b) where
 ll:=(ik d).2
 pl:=(jR a).2
 cl:=f
 lv:=u1
 pv:=u2
 FH:=by
  have e:jm p false=true:=by
   unfold dB at a;simp only[Bool.and_eq_true]at a;exact a.1.2
  exact yu e
 bw:=by have:=wi a;exact this
 Eh:=oN calls _
 rows:=pY calls _
theorem ae.jV{w w':World}{χ:Nat->aX}{L:cz}{Y:Var}{C:KC}{K:KS}{D:Nat->Prop}(h:ae w χ L Y C K)(c:Ch D w w')(f:∀i,i<w.heap.size->D i->χ i=.no):ae w' χ L Y C K:=by
 have s:eQ [.no] χ χ D w w':=⟨c,fun i d g=>by rw[f i d g];simp,fun _ _=>rfl,fun i d=>Nat.lt_of_lt_of_le (h.small i d) c.size⟩;have b:=h.step s (by simp);exact {
  head:=fun _=>b.head (by simp)
  mem:=fun _=>b.mem (by simp)
  al:=fun _=>b.al (by simp)
  b0:=fun _=>b.b0 (by simp)
  ring:=fun _=>b.ring (by simp)
  q:=fun _=>b.q (by simp)
  cU:=fun _=>b.cU (by simp)
  obj:=fun _=>b.obj (by simp)
  tm:=fun _=>b.tm (by simp)
  th:=fun j u a _=>b.th j u a (by simp)
  tl:=fun j u a _=>b.tl j u a (by simp)
  fr:=fun j u k e a l _=>b.fr j u k e a l (by simp)
  wk:=fun _=>b.wk (by simp)
  out:=fun _=>b.out (by simp)
  code:=fun _=>b.code (by simp)
  small:=b.small}
def MS(w:World)(χ:Nat->aX)(mb:Nat)(C:KC)(K:KS):Prop:=∃L Y,L.mb=mb/\ae w χ L Y C K/\∀i,χ i≠ .out
theorem MS.jV{w w':World}{χ:Nat->aX}{mb:Nat}{C:KC}{K:KS}{D:Nat->Prop}(h:MS w χ mb C K)(c:Ch D w w')(e:∀i,i<w.heap.size->D i->χ i=.no):MS w' χ mb C K:=by
 obtain⟨L,Y,a,b,d⟩:=h;exact⟨L,Y,a,b.jV c e,d⟩
theorem MS.af{w w':World}{χ:Nat->aX}{mb:Nat}{C:KC}{K:KS}(h:MS w χ mb C K)(c:Ch ag w w'):MS w' χ mb C K:=h.jV c (fun _ _ e=>False.elim e)
theorem MS.small{w:World}{χ:Nat->aX}{mb:Nat}{C:KC}{K:KS}(h:MS w χ mb C K):∀i,χ i≠ .no->i<w.heap.size:=by
 obtain⟨L,Y,b,a,c⟩:=h;exact a.small
def Hj(x:List Ev×KS)(χ:Nat->aX)(mb:Nat)(C:KC)(w:World)(e:Ending)(w':World):Prop:=
 ∃v aY,e=.returned v/\w'.ownsRow w.heap.size 62 11 v x.1.length (x.1.flatMap Ev.cells)/\(∀g,v.ownBlock=some g->aY g=.no)/\MS w' aY mb C x.2/\Nx χ aY w w'
theorem tq{w:World}{χ:Nat->aX}{mb:Nat}{C:KC}{K:KS}{N:Nat}(j:mU C)(k:Inv N 0 K)(l:N<=300000)(kind wk draw:Int)(m:aI draw)(h:MS w χ mb C K):
 Calls prog 18 #[(mb,0),.agg #[kind,wk,.int .u64 draw]] w (Hj (fk C K kind wk draw) χ mb C w):=by
 obtain⟨L,Y,rfl,a,b⟩:=h;refine(Cu j k l kind wk draw m b a).mono ?_;rintro e w' ⟨v,aY,Y',rfl,c,d,f,g,i⟩;exact⟨v,aY,rfl,c,d,⟨L,Y',rfl,f,i⟩,g⟩
theorem lp{B:Nat}{χ aY:Nat->aX}{w w':World}(c:∀i,χ i≠ .no->B<=i)(h:Nx χ aY w w')(d:B<=w.heap.size):∀i,aY i≠ .no->B<=i:=fun i b=>by
 rcases Nat.lt_or_ge i w.heap.size with a|a
 ·rw[h.same i a]at b;exact c i b
 ·omega
theorem gE{χ aY:Nat->aX}{a w w':World}(d:∀i,χ i≠ .no->a.heap.size<=i)(h:Nx χ aY w w')(c:Ch ag a w):Ch ag a w':=c.fresh h.ch (fun i e b=>by have:=d i b;omega)
def EO(C:KC)(n tt:Nat)(w:World)(e:Ending)(w':World):Prop:=
 ∃mb χ,e=.returned (.tuple #[.pointer (some ⟨mb,0,none⟩),.nilIface])/\MS w' χ mb C (fH C n tt)/\(∀i,χ i≠ .no->w.heap.size<=i)/\Ch ag w w'
theorem gF{w:World}{g:Nat}{l:List aR}{c:List Value}(h:Row w g 121 (l.flatMap b3++c)):fo w g l:=
 ⟨h.lt,fun j u a=>h.cell (by
  have b:j<(l.flatMap b3).length:=(List.getElem?_eq_some_iff.1 a).1;rw[List.getElem?_append_left b];exact a)⟩
theorem uW(n tt:Nat)(D:1<=n/\n<=64)(E:1<=tt/\tt<=65536)(l:List aR)(loop:Int)(calls:List bB)(p:List aR)(en:Int)(b a:Nat)(C:calls.length<=100000)(f:0<calls.length)
 (c:fF l loop calls=true) (d:dB p en b a=true) (N:17+8*n+b+a+1<=tt) (g i j:Value) {B1 B2 B3:Nat} (w:World)
 (t:w.ownsRow B1 121 7 g l.length (l.flatMap b3)) (u:w.ownsRow B2 49 6 i calls.length (calls.flatMap bB.cells)) (v:w.ownsRow B3 121 7 j p.length (p.flatMap b3))
 (B:w.cell? (0,0)=some (.iface 335 (.agg #[(1,40)]))):
 Calls prog 11 #[.agg #[.int .i64 n,.int .i64 tt],.agg #[g,loop,i],.agg #[j,en,.int .i64 b,.int .i64 a]] w (EO (tn l loop calls p en b a) n tt w):=by
 obtain⟨q,k,O,rfl,_,G,_,J,_⟩:=aF t (ik c).1;obtain⟨r,m,F,rfl,_,H,_,K,_⟩:=aF u f;obtain⟨s,o,P,rfl,_,I,_,M,_⟩:=aF v (jR d).1;refine(tp n tt D E l q k loop calls r m p s o en b a G H I C f w (gF J) (gF M) ⟨F,K⟩ c d B).mono ?_;rintro e w' (⟨_,χ,L,Y,rfl,x,y,z,A⟩|⟨h,_⟩)
 rotate_left
 ·omega
 exact⟨L.mb,χ,rfl,⟨L,Y,rfl,x,z⟩,y,A⟩
def E8:List aR×List (ByteArray×Int):=(iK ⟨#[115,101,116,32,114,49,32,53,10,115,116,32,114,49,32,91,48,93,10,114,101,116,10]⟩).getD ([],[])
theorem EP:iK ⟨#[115,101,116,32,114,49,32,53,10,115,116,32,114,49,32,91,48,93,10,114,101,116,10]⟩=some E8:=by kernel_rfl
def m8:KC:=tn ga.1 0 [⟨6,3,0,0,0,0⟩] E8.1 0 1 0
def AO:KS:=fH m8 1 90
def yv:KS:=(fk m8 AO 1 0 0).2
def yw:KS:=(fk m8 yv 1 0 0).2
def pb:KS:=(fk m8 yw 1 0 0).2
def GU:KS:=(fk m8 pb 1 0 0).2
theorem oP:fF ga.1 0 [⟨6,3,0,0,0,0⟩]=true:=by kernel_rfl
theorem wj:dB E8.1 0 1 0=true:=by kernel_rfl
theorem FY:(fk m8 AO 1 0 0).1=[]:=by kernel_rfl
theorem FZ:(fk m8 yv 1 0 0).1=[]:=by kernel_rfl
theorem F0:(fk m8 yw 1 0 0).1=[]:=by kernel_rfl
theorem F1:(fk m8 pb 1 0 0).1=[⟨3,3,0,64,18,0,5,0,0,0,0⟩]:=by kernel_rfl
theorem CJ:eV GU=25:=by kernel_rfl
def uX(l:List aR):Bool:=l.all fun x=>decide (0<=x.v)&&decide (x.v<18446744073709551616)
theorem jS{l:List aR}(h:uX l=true):∀x∈l,aI x.v:=fun x a=>by
 have:=List.all_eq_true.1 h x a;rw[Bool.and_eq_true,decide_eq_true_eq,decide_eq_true_eq]at this;exact this
theorem ts:mU m8:=ra oP wj (by decide) (jS (by kernel_rfl)) (jS (by kernel_rfl))
theorem Dy:Inv 1 0 AO:=oM m8 1 90 (by decide) (by decide) (by decide) (by decide+kernel)
theorem Dz:Inv 2 0 yv:=jl ts Dy (by decide) 1 0 0 bm
theorem DA:Inv 3 0 yw:=jl ts Dz (by decide) 1 0 0 bm
theorem F2:Inv 4 0 pb:=jl ts DA (by decide) 1 0 0 bm
def ER:Nat->KS
 |0=>AO
 |1=>yv
 |2=>yw
 |_=>pb
def GV(k:Nat)(χ:Nat->aX)(mb:Nat)(w:World)(e:Ending)(w':World):Prop:=∃a c aY,e=.returned (.slice a 0 c)/\MS w' aY mb m8 (ER (k+1))/\Nx χ aY w w'
theorem F3(k:Nat)(n:k<3)(w:World)(χ:Nat->aX)(mb:Nat)(h:MS w χ mb m8 (ER k)):
 Calls prog 18 #[(mb,0),.agg #[.int .i64 1,.int .i64 0,.int .u64 0]] w (GV k χ mb w):=by
 have H:∀(K K':KS) (N:Nat),Inv N 0 K->N<=300000->(fk m8 K 1 0 0).1=[]->(fk m8 K 1 0 0).2=K'->MS w χ mb m8 K->Calls prog 18 #[(mb,0),.agg #[.int .i64 1,.int .i64 0,.int .u64 0]] w (fun e w'=>∃a c aY,e=.returned (.slice a 0 c)/\MS w' aY mb m8 K'/\Nx χ aY w w'):=by
  intro K K' N i j f g l;refine(tq ts i j 1 0 0 bm l).mono ?_;rintro e w' ⟨v,aY,rfl,d,_,b,m⟩;rw[f]at d;obtain⟨a,c,rfl⟩:=ao d;rw[g]at b;exact⟨a,c,aY,rfl,b,m⟩
 rcases(show k=0∨k=1∨k=2 by omega)with rfl|rfl|rfl
 ·exact H AO yv 1 Dy (by decide) FY rfl h
 ·exact H yv yw 2 Dz (by decide) FZ rfl h
 ·exact H yw pb 3 DA (by decide) F0 rfl h
def F4(w:World)(mb:Nat)(i:Value)(wr:World):Prop:=∃(k:Nat) (χ:Nat->aX),k<=3/\i=.int .i64 k/\MS wr χ mb m8 (ER k)/\(∀i,χ i≠ .no->w.heap.size<=i)/\Ch ag w wr
theorem pZ(w:World)(m:w.cell? (0,0)=some (.iface 335 (.agg #[(1,40)]))):
 Calls prog 13 #[] w (dc (.bool true) w):=by
 have B:=Z m;have bv:=Z (fun w=>l5 _ _ EP w);have bx:=Z (fun w=>pV w);have bi:Hid (∀(g h j:Value) (B1 B2 B3:Nat) (w:World),w.ownsRow B1 121 7 g ga.1.length (ga.1.flatMap b3)->w.ownsRow B2 49 6 h 1 [.int .i64 6,.int .i64 3,.int .i64 0,.int .i64 0,.int .i64 0,.int .i64 0]->w.ownsRow B3 121 7 j E8.1.length (E8.1.flatMap b3)->
  w.cell? (0,0)=some (.iface 335 (.agg #[(1,40)]))->
  Calls prog 11 #[.agg #[.int .i64 1,.int .i64 90],.agg #[g,.int .i64 0,h],.agg #[j,.int .i64 0,.int .i64 1,.int .i64 0]] w (EO m8 1 90 w)):=
  Z (fun g h j B1 B2 B3 w c3 c4 c5 m=>uW 1 90 (by decide) (by decide) ga.1 0 [⟨6,3,0,0,0,0⟩] E8.1 0 1 0 (by decide) (by decide) oP wj (by decide) g h j w c3 c4 c5 m)
 clear m;go_in
 go_wp2_with fail
 refine(bv _).mono ?_;rintro e w1 ⟨j,dC,rfl,u,_,J⟩;obtain⟨ck,cr,rfl⟩:=ao u;have V:=Z u;have p:=Z J;clear u J;go_wp2_with fail
 refine(bx _).mono ?_;rintro e w2 ⟨cW,rfl,⟨g,h,rfl,x,y⟩,v⟩;obtain⟨ac,cm,rfl⟩:=ao x;obtain⟨ci,cq,rfl⟩:=ao y;have al:=Z x;have am:=Z y;have q:=Z v;have W:=Z (aj V v (fun _ _ e=>e));clear x y v;go_wp2_with fail
 refine(bi _ _ _ _ _ _ _ al am W (((p.trans q).cell (aP B) id).trans B)).mono ?_;rintro e w3 ⟨mb,T,rfl,O,N,K⟩;have ap:=Z O;have U:=Z ((p.trans q).trans K);have a3:Hid (∀i,T i≠ .no->w.heap.size<=i):=Z (fun i c7=>by have:=N i c7;have:=(p.trans q).size;omega);clear O N K;go_upto_block 0 with fail
 go_cut [] (fun wc=>∃χ,MS wc χ mb m8 pb/\(∀i,χ i≠ .no->w.heap.size<=i)/\Ch ag w wc)
 case first=>
  go_wp2
  go_loopw [6] (fun i wr=>F4 w mb i wr) (fun i _=>3-(intOf i).toNat)
  case atStart=>exact⟨0,T,by omega,rfl,ap,a3,U⟩
  case round=>
   obtain⟨k,χ,cA,rfl,a,f,b⟩:=hrel;by_cases c8:k<3
   ·have r:=Z (F3 k c8 wr χ mb a)
    have d:=Z f;have c:=Z b;have C:=Z a;clear a f b;go_wp2_with fail
    with_reducible refine r.out.mono ?_
    rintro e w4 ⟨ch,cl,cd,rfl,P,z⟩;have av:=Z P;have ab:=Z (lp d.out z c.size);have X:=Z (gE d z c);clear P z;go_wp2
    go_roundw
    case rel=>exact⟨k+1,cd,by omega,by go_num,av,ab,X⟩
    case measure=>simp[intOf];omega
   ·have c1:k=3:=by omega
    subst c1;have C:=Z a;have d:=Z f;have c:=Z b;clear a f b;go_wp2
    go_meet
    exact⟨χ,C,d,c⟩
 case rest=>
  obtain⟨χ,a,f,b⟩:=hcut;obtain⟨dN,S⟩:=nm wc;rw[S]at a b⊢;have r:=Z (tq ts F2 (by decide) 1 0 0 bm a);have d:=Z f;have c:=Z b;clear a f b S;go_wp2_with fail
  with_reducible refine r.out.mono ?_
  rintro e ec ⟨dr,es,rfl,Q,M,c9,A⟩;rw[F1]at Q;obtain⟨c2,c0,cC,rfl,_,c6,_,R,_⟩:=aF Q (by decide);have bw:=Z R;have a2:=Z (M c2 rfl);clear M;have cs:1<=c0:=c6;have ad:=Z (lp d.out A c.size);have a0:=Z (gE d A c);obtain⟨L,Y,o,n,_⟩:=c9;have ax:=Z o;have ce:=Z n;have D:=Z (jN n);have t:=Z (xm 25 ⟨by decide,by decide⟩ n);have F:eV (fk m8 pb 1 0 0).2=25:=CJ;rw[F,o]at D;rw[o]at t;have G:(my (fk m8 pb 1 0 0).2 25).1=5:=by kernel_rfl
  have H:(my (fk m8 pb 1 0 0).2 25).2.1=true:=by kernel_rfl
  rw[G,H]at t;clear G H;clear A R n o F;go_wp2_with fail
  with_reducible refine D.out.mono ?_
  rintro e cb ⟨rfl,rfl⟩;go_wp2_with fail
  with_reducible refine t.out.mono ?_
  rintro e cb ⟨rfl,et,cf,l⟩;have s:=Z (bw.ch l.nx.ch (fun e=>e a2));have a1:=Z (gE ad l.nx a0);have E:=Z (qJ l.at_);have I:((my (fk m8 pb 1 0 0).2 25).2.2).entries=4:=by kernel_rfl
  rw[I,ax]at E;have cL:=s.c1;have cQ:=s.k 3 rfl;have cS:=s.k 6 rfl;clear l I;go_wp2_with fail
  with_reducible refine E.out.mono ?_
  rintro e en ⟨rfl,rfl⟩;go_wp2
  go_ret;exact⟨rfl,a1⟩
end Go.Proofs.YtfnilkpkogipfaaGreatDoor
