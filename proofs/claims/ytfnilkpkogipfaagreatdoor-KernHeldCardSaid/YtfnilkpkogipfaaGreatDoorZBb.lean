import Derived.Test.YtfnilkpkogipfaaGreatDoorZBa
set_option linter.all false
set_option maxRecDepth 100000
set_option maxHeartbeats 8000000
namespace Go.Proofs.YtfnilkpkogipfaaGreatDoor
open Go.RowKit Go.Proofs.Tryz
section
def tJ(T:TypeId)(l:List Value)(w:World)(p:Value)(wc:World):Prop:=∃a,p=.pointer (some ⟨a,0,none⟩)/\Row wc a T l/\Ch ag w wc/\w.heap.size<=a
theorem ho{w:World}{b:Nat}{t:TypeId}{pre post:List Value}{v:Value}{f:cE}(h:aG w b 0 t pre post v f)(k:Nat)(a:k<32):w.cell? (b,1+k)=some (.int .u64 (f.r k)):=by
 have:=h.l4 k a
 rwa [show 0+1+k=1+k by omega]at this
theorem eT{w:World}{b:Nat}{t:TypeId}{pre post:List Value}{v:Value}{f:cE}(h:aG w b 0 t pre post v f)(c:t≠3)(k:Nat)(a:k<32)(x:Int):aG (w.setCell (b,1+k) (.int .u64 x)) b 0 t pre post v {f with r:=fO f.r k x}:=by
 have:=h.pR c k a x
 rwa [show 0+1+k=1+k by omega]at this
theorem Bl{f:FuncId}{args:Array Value}{v:Value}{w:World}(h:Calls prog f args w (d' v w)):Calls prog f args w (dt v w):=h.mono fun _ _ h=>⟨h.1,by rw[h.2];exact Ch.refl _ _⟩
def bj(K:KS)(k0 k1 k2 k3 a0 a1 a2 a3:Int)(k:Nat):Nat->Int:=fun j=>
 if j=0 then(if k<=0 then a0 else da K k0 a0)else if j=1 then(if k<=1 then a1 else da K k1 a1)else if j=2 then(if k<=2 then a2 else da K k2 a2)else if j=3 then(if k<=3 then a3 else da K k3 a3)else 0
section
variable{K:KS}{k0 k1 k2 k3 a0 a1 a2 a3:Int}
theorem qs(x:Int)(h:x=da K k0 a0):fO (bj K k0 k1 k2 k3 a0 a1 a2 a3 0) 0 x=bj K k0 k1 k2 k3 a0 a1 a2 a3 1:=by
 funext j;unfold fO bj
 by_cases a:j=0
 ·subst a;simp[h]
 ·by_cases b:j=1<;>by_cases c:j=2<;>by_cases d:j=3<;>simp[a,b,c,d]
theorem qt(x:Int)(h:x=da K k1 a1):fO (bj K k0 k1 k2 k3 a0 a1 a2 a3 1) 1 x=bj K k0 k1 k2 k3 a0 a1 a2 a3 2:=by
 funext j;unfold fO bj
 by_cases a:j=1
 ·subst a;simp[h]
 ·by_cases b:j=0<;>by_cases c:j=2<;>by_cases d:j=3<;>simp[b,a,c,d]
theorem qu(x:Int)(h:x=da K k2 a2):fO (bj K k0 k1 k2 k3 a0 a1 a2 a3 2) 2 x=bj K k0 k1 k2 k3 a0 a1 a2 a3 3:=by
 funext j;unfold fO bj
 by_cases a:j=2
 ·subst a;simp[h]
 ·by_cases b:j=0<;>by_cases c:j=1<;>by_cases d:j=3<;>simp[b,c,a,d]
theorem qv(x:Int)(h:x=da K k3 a3):fO (bj K k0 k1 k2 k3 a0 a1 a2 a3 3) 3 x=bj K k0 k1 k2 k3 a0 a1 a2 a3 4:=by
 funext j;unfold fO bj
 by_cases a:j=3
 ·subst a;simp[h]
 ·by_cases b:j=0<;>by_cases c:j=1<;>by_cases d:j=2<;>simp[b,c,d,a]
theorem zj(h:a0=da K k0 a0):bj K k0 k1 k2 k3 a0 a1 a2 a3 1=bj K k0 k1 k2 k3 a0 a1 a2 a3 0:=by rw[<-qs a0 h];funext j;unfold fO bj;by_cases e:j=0<;>simp[e]
theorem zk(h:a1=da K k1 a1):bj K k0 k1 k2 k3 a0 a1 a2 a3 2=bj K k0 k1 k2 k3 a0 a1 a2 a3 1:=by rw[<-qt a1 h];funext j;unfold fO bj;by_cases e:j=1<;>simp[e]
theorem zl(h:a2=da K k2 a2):bj K k0 k1 k2 k3 a0 a1 a2 a3 3=bj K k0 k1 k2 k3 a0 a1 a2 a3 2:=by rw[<-qu a2 h];funext j;unfold fO bj;by_cases e:j=2<;>simp[e]
theorem zm(h:a3=da K k3 a3):bj K k0 k1 k2 k3 a0 a1 a2 a3 4=bj K k0 k1 k2 k3 a0 a1 a2 a3 3:=by rw[<-qv a3 h];funext j;unfold fO bj;by_cases e:j=3<;>simp[e]
def ph(K:KS)(k0 k1 k2 k3 a0 a1 a2 a3 n:Int):Nat->Int:=fun j=>if j=0 then da K k0 a0 else if j=1 then da K k1 a1 else if j=2 then da K k2 a2 else if j=3 then da K k3 a3 else if j=30 then a0 else if j=31 then n else 0
theorem w5(n:Int):fO (fO (bj K k0 k1 k2 k3 a0 a1 a2 a3 4) 30 a0) 31 n=ph K k0 k1 k2 k3 a0 a1 a2 a3 n:=by
 funext j;unfold fO bj ph
 by_cases a:j=31
 ·subst a;simp
 ·by_cases b:j=30
  ·subst b;simp
  ·simp[a,b]
end
section
variable{w w':World}{χ:Nat->a4}{L:cw}{Y:Var}{C:KC}{K:KS}
theorem pj{N M:Nat}(al:oC C)(cm:Inv N M K)(tt:N<=700000)(tr:M<=700000)(id:Int)(t:Thread)(c2:aw K.ai id=some t)(k:Nat)(no:k+1=t.l.length)(nq:t.l.length%2=1)(num:Int)(nx:0<=num)(ge:num<=1000000)(h:ae w χ L Y C K):
 Calls prog 146 #[(L.mb,0),(Y.bB id,0),.pointer (some ⟨Y.fb id k,0,none⟩),num] w (rB (.tuple #[]) χ L C (gX C K id k num) w):=by
 have cq:aj K (.ai id k):=⟨t,c2,by omega⟩;have hid:=(cm.dc c2).id;have i7:=(cm.dc c2).l;have ok:=(cm.lz cq).r;obtain⟨b,hb⟩:=nm (Y.fb id k);obtain⟨tb,go⟩:=nm (Y.bB id);have et:aP L Y (.ai id k) b 0:=⟨hb.symm,rfl⟩;rw[hb,go];obtain⟨a0,hw⟩:∃a,(K.F (.ai id k)).r 0=a:=⟨_,rfl⟩;obtain⟨a1,hB⟩:∃a,(K.F (.ai id k)).r 1=a:=⟨_,rfl⟩;obtain⟨a2,i0⟩:∃a,(K.F (.ai id k)).r 2=a:=⟨_,rfl⟩;obtain⟨a3,i1⟩:∃a,(K.F (.ai id k)).r 3=a:=⟨_,rfl⟩;have p3:w.cell? (b,1)=some (.int .u64 a0):=by have:=h.az cq et 0 (by omega);rw[hw]at this;exact this
 have p8:w.cell? (b,2)=some (.int .u64 a1):=by have:=h.az cq et 1 (by omega);rw[hB]at this;exact this
 have pa:w.cell? (b,3)=some (.int .u64 a2):=by have:=h.az cq et 2 (by omega);rw[i0]at this;exact this
 have pi:w.cell? (b,4)=some (.int .u64 a3):=by have:=h.az cq et 3 (by omega);rw[i1]at this;exact this
 have ci:=h.gb c2;rw[hid,go]at ci;have ty:∀w,(Instr.arrayAt 60 (.slice (some (b,1)) 4 32)).run prog w=.ok (.pointer (some (b,1))) w:=fun w=>by kernel_rfl
 obtain⟨K1,en⟩:=nm (tell K ⟨1,0,0,id,num,a0,a1,a2,a3,0,0⟩);have hv:Inv N (M+1) K1:=by rw[<-en];exact cm.tell _
 have ex:aw K1.ai id=some t:=by rw[<-en];exact c2
 have jp:=Z (fun w (h:ae w χ L Y C K)=>dz 1 0 0 id num a0 a1 a2 a3 0 0 (by have:=cm.out;omega) h);rw[en]at jp;have i4:=i7.n8;have gf:=i7.n0;have it:=Z (fun(w:World) (χ:Nat->a4) (Y:Var) (h:ae w χ L Y C K1)=>qq id t ex gf i4 num nx a0 a1 a2 a3 al.bw al.rows al.cl h);have fd:Hid (gX C K id k num=if cI C K1 id num a0 a1 a2 a3≠0 then dh K1 id num (cI C K1 id num a0 a1 a2 a3) 0 else
  K1.b9 id {K1.T id with l:=(K1.T id).l++[⟨⟨(C.calls.getD (C.rows.getD num.toNat 0-1).toNat default).at_,fun j=>if j=0 then da K1 (C.calls.getD (C.rows.getD num.toNat 0-1).toNat default).k0 a0 else if j=1 then da K1 (C.calls.getD (C.rows.getD num.toNat 0-1).toNat default).k1 a1 else if j=2 then da K1 (C.calls.getD (C.rows.getD num.toNat 0-1).toNat default).k2 a2 else if j=3 then da K1 (C.calls.getD (C.rows.getD num.toNat 0-1).toNat default).k3 a3 else if j=30 then a0 else if j=31 then IntKind.u64.wrap num else 0,[]⟩,true,num⟩]}):=Z (by unfold gX;dsimp only;rw[hw,hB,i0,i1,en])
 obtain⟨i9,i5⟩:=nm (cI C K1 id num a0 a1 a2 a3);rw[i5]at it fd;have J:=Z (And.intro c2 (And.intro go (And.intro ex hid)));have hn:=Z (dB.refl h);have r5:Hid (K1.out.length<=900000):=Z (by have:=hv.out;omega);by_cases le:i9=0
 ·subst le
  have rd:=Z i5;have nC:num<1000/\C.rows.getD num.toNat 0≠0/\(t.l.length<7∨num=2):=by
   have:=rd.out;unfold cI at this;split at this
   ·cases this
   ·rename_i I
    split at this
    ·cases this
    ·rename_i G
     rw[KS.df ex]at G;refine⟨by omega,fun e=>I (Or.inr e),?_⟩;by_cases e:num=2
     ·exact Or.inr e
     ·exact Or.inl (by omega)
  obtain⟨m,rfl⟩:=Int.eq_ofNat_of_zero_le nx;have i3:m<C.rows.length:=by rw[al.CT];omega
  obtain⟨r,i6⟩:∃r,C.rows[m]?=some r:=⟨_,List.getElem?_eq_getElem i3⟩;have s6:=al.rows r (List.mem_of_getElem? i6);have lc:C.rows.getD (m:Int).toNat 0=r:=by rw[Int.toNat_natCast,List.getD_eq_getElem?_getD,i6];rfl
  obtain⟨q,rfl⟩:∃q:Nat,r=(q:Int)+1:=⟨(r-1).toNat,by have:=nC.2.1;rw[lc]at this;omega⟩;obtain⟨ck,O⟩:∃ck,C.calls[q]?=some ck:=⟨_,List.getElem?_eq_getElem (by omega)⟩;have n2:C.calls.getD (C.rows.getD (m:Int).toNat 0-1).toNat default=ck:=by rw[lc,show((q:Int)+1-1).toNat=q by omega,List.getD_eq_getElem?_getD,O];rfl
  rw[n2]at fd;obtain⟨mA,cat,k0,k1,k2,k3⟩:=ck;dsimp only at fd;have lt:=Z (And.intro i6 O);have v0:(m:Int)<1000:=by omega
  have ut:(0:Int)<=(m:Int):=by omega
  have v1:(0:Int)<=(q:Int):=by omega
  have wd:IntKind.i64.wrap (q:Int)=q:=IntWalk.i64_in _ (by have:=al.cl;have:=(List.getElem?_eq_some_iff.1 O).1;omega);obtain⟨mp,mL⟩:=nm C.calls.length;have v4:(q:Int)<(mp:Int):=by have:=(List.getElem?_eq_some_iff.1 O).1;omega
  have qm:=Z mL;have s8:IntKind.i64.wrap ((q:Int)+1-1)=q:=by rw[show(q:Int)+1-1=q by omega];exact IntWalk.i64_in _ (by have:=al.cl;omega)
  have s9:(q:Int)+1-1=q:=by omega
  have v2:(q:Int)<=2048:=by have:=al.cl;omega
  have nw:t.l.length<8:=by omega
  obtain⟨fn,mS⟩:=mn t.l.length;have fb:=Z (And.intro mS (And.intro nw gf));have wb:fn<8:=by omega
  have n0:0<=gH K1/\gH K1<=600:=by have:=hv.w1;unfold gH;omega
  have eL:=Z (fun(w:World) (χ:Nat->a4) (Y:Var) (h:ae w χ L Y C K1)=>lq h);obtain⟨V,kf⟩:=nm (gH K1);rw[kf]at eL n0;have he:=Z kf;have hi:=Z (fun(w:World) (χ:Nat->a4) (Y:Var) (a k:Int) (h:ae w χ L Y C K1)=>yJ (K:=K1) a k h);obtain⟨un,up⟩:=n0;have eA:IntKind.u64.wrap V=V:=by unfold IntKind.wrap IntKind.bits IntKind.signed;simp;omega
  have c0:=Z eA;obtain⟨st,ni,d,p1,p2⟩:=info_parts yU;have hl:=Z (And.intro ni (And.intro d (And.intro p1 p2)));clear ni d p1 p2 nC i3 s6 lc n2 i6 O mL nw mS kf eA;clear h cq et c2 hb go cm hw hB i0 i1 ok hid i7 al no nq i4 gf hv ex en i5;go_enter func146,ntmps146
  go_wp2_with fail
  obtain⟨w1,av⟩:=nm (w.alloc (.cells #[.int .u64 a0,.int .u64 a1,.int .u64 a2,.int .u64 a3] 60));have io:=Z (Ch.al (D:=ag) av);have c3:Hid (Row w1 w.heap.size 60 [.int .u64 a0,.int .u64 a1,.int .u64 a2,.int .u64 a3]/\χ w.heap.size=.no):=Z ⟨by rw[<-av];exact Row.new w _ _,hn.at_.fresh (Nat.le_refl _)⟩;rw[av];clear av p3 p8 pa pi;have cb:=Z (hn.af io);obtain⟨bi,cW,dr,dC⟩:=c3.1.c4;have ci:=cb.at_.gb J.1;rw[J.2.2.2,J.2.1]at ci;go_still_tail 8,(by kernel_rfl)
  change wpList _ _ _ _ _ w1.drew;go_wp2_with fail
  with_reducible refine(jp.out _ cb.out.at_.drew).mono ?_
  rintro e w2 ⟨rfl,tg,ms,G⟩;have cd:=Z ((cb.af (Ch.refl _ w1).drew).trans (Gr.refl _) G);have c4:=Z (((Nx.af (Ch.refl _ w1).drew).trans G.nx).row c3.1 c3.2);have cL:=(cd.yk id t J.1).1;rw[J.2.1]at cL;have c9:=Z cL;clear G cL bi cW dr dC ci;obtain⟨bi,cW,dr,dC⟩:=c4.1.c4;go_wp2_with fail
  have cC:=it _ _ _ cd.at_;rw[c9]at cC;with_reducible refine cC.mono ?_
  clear cC;rintro e bv ⟨rfl,cA⟩;have ce:=Z (cd.af cA);have gt:=Z ((Nx.af cA).row c4.1 c4.2);clear cA bi cW dr dC;have bi:=gt.1.c1;obtain⟨ap,ne,ii,pm,pp,pu,pv,qb⟩:=ce.at_.uZ lt.2;dsimp only at ii pm pp pu pv qb;have ab:=ce.at_.c2;rw[ne,qm]at ab;have ck:=ce.at_.CA lt.1;clear ne;go_wp2_with fail
  go_cut [10] (fun p wc=>tJ 49 [mA,cat,k0,k1,k2,k3] bv p wc)
  case first=>
   have wn:=World.new_ne bv ⟨L.mb,2,none⟩ ab;have ws:=World.new_ne bv ⟨L.mb,7+m,none⟩ ck;have wv:=World.new_ne bv ⟨ap,q*6,none⟩ ii;have wk:L.mb≠bv.heap.size:=Nat.ne_of_lt (aE ab);have wl:ap≠bv.heap.size:=Nat.ne_of_lt (aE ii);go_region_held3 (fun w'=>w'.cell? (L.mb,2)=some (.slice (some (ap,0)) mp L.Et)/\w'.cell? (L.mb,7+m)=some (.int .i64 ((q:Int)+1))/\w'.cell? (ap,q*6)=some (.int .i64 mA)/\w'.cell? (ap,q*6+1)=some (.int .i64 cat)/\w'.cell? (ap,q*6+2)=some (.int .i64 k0)/\w'.cell? (ap,q*6+3)=some (.int .i64 k1)/\w'.cell? (ap,q*6+4)=some (.int .i64 k2)/\w'.cell? (ap,q*6+5)=some (.int .i64 k3)) (go_keep) (fail)
   all_goals(go_wp2_with fail;go_meet)
   all_goals exact⟨bv.heap.size,rfl,(Row.new bv _ _).drew,((Ch.refl _ _).alloc _).drew,Nat.le_refl _⟩
  case rest=>
   obtain⟨tm,rfl,on,kw,hle⟩:=hcut;obtain⟨w4,sl⟩:=nm wc;subst sl;have bw:=Z on;have ec:=Z (ce.af kw);have c5:=Z ((Nx.af kw).row gt.1 gt.2);clear on kw bi ii pm pp pu pv qb ab ck s8 s9 hle;have x1:=bw.k 1 rfl;have x2:=bw.k 2 rfl;have x3:=bw.k 3 rfl;have x4:=bw.k 4 rfl;have x5:=bw.k 5 rfl;go_upto_region 7 with fail
   obtain⟨pl,gr⟩:=nm (wc.alloc (.cells #[.int .i64 0,.int .u64 0,.int .u64 0,.int .u64 0,.int .u64 0,.int .u64 0,.int .u64 0,.int .u64 0,.int .u64 0,.int .u64 0,.int .u64 0,.int .u64 0,.int .u64 0,.int .u64 0,.int .u64 0,.int .u64 0,.int .u64 0,.int .u64 0,.int .u64 0,.int .u64 0,.int .u64 0,.int .u64 0,.int .u64 0,.int .u64 0,.int .u64 0,.int .u64 0,.int .u64 0,.int .u64 0,.int .u64 0,.int .u64 0,.int .u64 0,.int .u64 0,.int .u64 0,.slice none 0 0,.bool true,.int .i64 (m:Int)] 179));have eS:=Z (Ch.al (D:=ag) gr);have eW:=Z (Row.al gr);have md:Hid (pl.heap.size=wc.heap.size+1):=Z (by rw[<-gr];simp);rw[gr];clear gr;obtain⟨F,hF⟩:=mn wc.heap.size;have qr:=Z (ec.at_.fresh (i:=F) (by rw[hF];exact Nat.le_refl _));have R:=Z hF;rw[<-hF]at eW md⊢;clear hF;have rg:=Z (ec.af eS);have qc:=Z ((Nx.af eS).row c5.1 c5.2);have mc:=Z (bw.ch eS (fun h=>h));clear x1 x2 x3 x4 x5;have x1:=mc.k 1 rfl;have f0:=eW.c1;have fz:=eW.free 0;go_upto_region 8 with fail
   obtain⟨dN,gs⟩:=nm (pl.setCell (F,0) (.int .i64 cat));have hf:Hid (Ch ag wc dN):=Z (by rw[<-gs];exact eS.set (p:=⟨F,0,none⟩) (Or.inr (by rw[R];exact Nat.le_refl _)) _);have ip:Hid (Row dN F 179 [cat,.int .u64 0,.int .u64 0,.int .u64 0,.int .u64 0,.int .u64 0,.int .u64 0,.int .u64 0,.int .u64 0,.int .u64 0,.int .u64 0,.int .u64 0,.int .u64 0,.int .u64 0,.int .u64 0,.int .u64 0,.int .u64 0,.int .u64 0,.int .u64 0,.int .u64 0,.int .u64 0,.int .u64 0,.int .u64 0,.int .u64 0,.int .u64 0,.int .u64 0,.int .u64 0,.int .u64 0,.int .u64 0,.int .u64 0,.int .u64 0,.int .u64 0,.int .u64 0,.slice none 0 0,.bool true,.int .i64 (m:Int)]):=Z (by rw[<-gs];exact eW.set 0 _);rw[gs];have tl:Hid (dN.heap.size=F+1):=Z (by rw[<-gs];simpa using md.out);clear gs x1 f0 fz;have lo:=Z ((Nx.af hf).row c5.1 c5.2);have rb:=Z (bw.ch hf (fun h=>h));have n1:=na (P:=prog) dN.drew 29 29 3 56 1 F 1 32 32 ⟨w.heap.size,0,none⟩ 4 4 _ 179 [.int .u64 a0,.int .u64 a1,.int .u64 a2,.int .u64 a3] underlying29 (by kernel_rfl) ip.drew (by rfl) (fun j v z=>by
    have:=lo.1.drew.cell (i:=j) z;by_cases e:j=0
    ·subst e;simpa[Addr.add]using this
    ·simpa[Addr.add,e]using this) (by simp) (by simp[Value.oneCell'])
   generalize li:World.setRow dN.drew F _=ih at n1;have ls:Hid (Ch (aK F) dN.drew ih):=Z (by rw[<-li];exact oV _ _ _);have lw:Hid (Row ih F 179 [cat,.int .u64 a0,.int .u64 a1,.int .u64 a2,.int .u64 a3,.int .u64 0,.int .u64 0,.int .u64 0,.int .u64 0,.int .u64 0,.int .u64 0,.int .u64 0,.int .u64 0,.int .u64 0,.int .u64 0,.int .u64 0,.int .u64 0,.int .u64 0,.int .u64 0,.int .u64 0,.int .u64 0,.int .u64 0,.int .u64 0,.int .u64 0,.int .u64 0,.int .u64 0,.int .u64 0,.int .u64 0,.int .u64 0,.int .u64 0,.int .u64 0,.int .u64 0,.int .u64 0,.slice none 0 0,.bool true,.int .i64 (m:Int)]):=Z (by
    rw[<-li];unfold Row;rw[setRow_heap _ _ _ _ _ _ ip.drew]
    rfl)
   clear li;go_still_tail 6,(by kernel_rfl)
   change wpList _ _ _ _ _ dN.drew;go_upto_region 9 with fail
   have lv:Hid (Ch ag wc ih):=Z (hf.drew.join ls (fun i gc kT=>by have e:i=F:=kT;have:=R.out;omega));have ql:Hid (aG ih F 0 179 [] [.bool true,.int .i64 (m:Int)] (.slice none 0 0) ⟨cat,bj K1 k0 k1 k2 k3 a0 a1 a2 a3 0,[]⟩):=Z ⟨lw,rfl,cp.nil _⟩;have hm:=Z (bw.ch lv (fun h=>h));clear n1;have x2:=hm.k 2 rfl;have x3:=hm.k 3 rfl;have x4:=hm.k 4 rfl;have x5:=hm.k 5 rfl;clear eW ip lw eS hf ls qc lo mc rb rg;go_wp2_with fail
   clear x2 x3 x4 x5;go_loopg [74] 5 (fun gk u wr=>∃am:Nat,am<=4/\gk=4-am+1/\u=.int .i64 am/\Hid (Ch ag wc wr/\aG wr F 0 179 [] [.bool true,.int .i64 (m:Int)] (.slice none 0 0) ⟨cat,bj K1 k0 k1 k2 k3 a0 a1 a2 a3 am,[]⟩))
   case atStart=>exact⟨0,by omega,by omega,rfl,lv,ql⟩
   case round=>
    obtain⟨am,us,rfl,rfl,c⟩:=hrel;have X:=Z (ec.af c.1);have eC:=Z ((Nx.af c.1).row c5.1 c5.2);have sz:L.mb≠F:=fun e=>by have I:=ec.at_.EN;rw[e,R]at I;exact absurd I (Nat.lt_irrefl _)
    have sC:w.heap.size≠F:=fun e=>by have I:=c5.1.lt;rw[e,R]at I;exact absurd I (Nat.lt_irrefl _)
    have ww:=sz.symm;have x0:=sC.symm;obtain rfl|rfl|rfl|rfl|rfl:am=0∨am=1∨am=2∨am=3∨am=4:=by omega
    ·have W:=eC.1.c1
     have fz:wr.cell? (F,1)=_:=ho c.2 0 (by omega);have k5:=c.2.free 1;have l0:=zf k0 k1 k2 k3;by_cases d:k0=0
     ·have O:bj K1 k0 k1 k2 k3 a0 a1 a2 a3 1=bj K1 k0 k1 k2 k3 a0 a1 a2 a3 0:=zj (by unfold da;rw[if_pos d])
      have c8:=Z O;have cS:(k0==0)=true:=by simpa using d
      clear O d;go_wp2_with fail
      go_roundg (4)
      case measure=>omega
      case rel=>exact⟨1,by omega,rfl,rfl,c.1,by rw[c8];exact c.2⟩
     ·have cS:(k0==0)=false:=by rw[beq_eq_false_iff_ne];exact d
      by_cases x:k0=7
      ·have z:IntKind.u64.wrap (V+a0)=da K1 k0 a0:=by unfold da;rw[if_neg d,if_pos x,he,c0]
       have cQ:(k0==7)=true:=by simpa using x
       have S:=Z z;have c6:=Z (Bl (eL wr.drew _ _ X.at_.drew));have eA:=c0.out;clear z d x;go_wp2_with fail
       go_region_held3 (fun w'=>w'.cell? ⟨w.heap.size,0,none⟩=some (.int .u64 a0)) (go_keep) ((go_at_call 32;refine c6.mono ?_;rintro e s ⟨rfl,A⟩;have n:Hid (Ch ag wr s):=Z (Ch.trans (Ch.refl _ _).drew A);have o:=Z (aG.ch c.2 n (fun h=>h) (fun _ _ h=>h));have cf:=n.k W;have ch:s.cell? (F,1)=_:=ho o 0 (by omega);have ab:=o.free 1;clear A))
       all_goals
        go_wp2_with fail
        go_roundg (4)
        case measure=>omega
        case rel=>
         have B:=eT o (by decide) 0 (by omega) (IntKind.u64.wrap (V+a0));rw[show({({pc:=cat,r:=bj K1 k0 k1 k2 k3 a0 a1 a2 a3 0,back:=[]}:cE)with r:=fO (bj K1 k0 k1 k2 k3 a0 a1 a2 a3 0) 0 (IntKind.u64.wrap (V+a0))}:cE)=⟨cat,bj K1 k0 k1 k2 k3 a0 a1 a2 a3 1,[]⟩from by rw[qs _ S]]at B;exact⟨1,by omega,rfl,rfl,(c.1.trans n).set (p:=⟨F,1,none⟩) (Or.inr (by rw[R];exact Nat.le_refl _)) _,B⟩
      ·have cQ:(k0==7)=false:=by rw[beq_eq_false_iff_ne];exact x
       have Q:=Z (hi wr.drew _ _ a0 k0 X.at_.drew);have co:=X.at_.iF;obtain⟨ad,T⟩:=nm (ga K1.cV a0 k0);rw[T]at Q;obtain⟨H,U⟩:∃v,ad.getD 0=v:=⟨_,rfl⟩;have z:H=da K1 k0 a0:=by unfold da;rw[if_neg d,if_neg x,T,U]
       have S:=Z z;have c7:Hid (Calls prog 172 #[(L.ob,0),.int .u64 a0,k0] wr.drew (fun e w'=>(∃v,e=.returned (.tuple #[.int .u64 H,v]))/\Ch ag wr.drew w')):=Z (Q.mono fun e w' h=>by
        obtain⟨I,G⟩:=h;refine⟨?_,G⟩;rw[<-U];cases ad with
        |none=>obtain⟨v,cl,_⟩:=I;exact⟨v,cl⟩
        |some y=>exact⟨_,I⟩)
       clear z d x T U Q;go_wp2_with fail
       go_region_held3 (fun w'=>w'.cell? (L.mb,1013)=some (.pointer (some (L.ob,0)))/\w'.cell? ⟨w.heap.size,0,none⟩=some (.int .u64 a0)) (go_keep) ((go_at_call 172;refine c7.mono ?_;rintro e s ⟨⟨ll,rfl⟩,A⟩;have n:Hid (Ch ag wr s):=Z (Ch.trans (Ch.refl _ _).drew A);have o:=Z (aG.ch c.2 n (fun h=>h) (fun _ _ h=>h));have cf:=n.k W;have k4:=n.k co;have ch:s.cell? (F,1)=_:=ho o 0 (by omega);have ab:=o.free 1;clear A))
       all_goals
        go_wp2_with fail
        go_roundg (4)
        case measure=>omega
        case rel=>
         have B:=eT o (by decide) 0 (by omega) H;rw[show({({pc:=cat,r:=bj K1 k0 k1 k2 k3 a0 a1 a2 a3 0,back:=[]}:cE)with r:=fO (bj K1 k0 k1 k2 k3 a0 a1 a2 a3 0) 0 H}:cE)=⟨cat,bj K1 k0 k1 k2 k3 a0 a1 a2 a3 1,[]⟩from by rw[qs _ S]]at B;exact⟨1,by omega,rfl,rfl,(c.1.trans n).set (p:=⟨F,1,none⟩) (Or.inr (by rw[R];exact Nat.le_refl _)) _,B⟩
    ·have W:=eC.1.k 1 rfl
     have fz:wr.cell? (F,2)=_:=ho c.2 1 (by omega);have k5:=c.2.free 2;have l0:=zg k0 k1 k2 k3;by_cases d:k1=0
     ·have O:bj K1 k0 k1 k2 k3 a0 a1 a2 a3 2=bj K1 k0 k1 k2 k3 a0 a1 a2 a3 1:=zk (by unfold da;rw[if_pos d])
      have c8:=Z O;have cS:(k1==0)=true:=by simpa using d
      clear O d;go_wp2_with fail
      go_roundg (3)
      case measure=>omega
      case rel=>exact⟨2,by omega,rfl,rfl,c.1,by rw[c8];exact c.2⟩
     ·have cS:(k1==0)=false:=by rw[beq_eq_false_iff_ne];exact d
      by_cases x:k1=7
      ·have z:IntKind.u64.wrap (V+a1)=da K1 k1 a1:=by unfold da;rw[if_neg d,if_pos x,he,c0]
       have cQ:(k1==7)=true:=by simpa using x
       have S:=Z z;have c6:=Z (Bl (eL wr.drew _ _ X.at_.drew));have eA:=c0.out;clear z d x;go_wp2_with fail
       go_region_held3 (fun w'=>w'.cell? ⟨w.heap.size,1,none⟩=some (.int .u64 a1)) (go_keep) ((go_at_call 32;refine c6.mono ?_;rintro e s ⟨rfl,A⟩;have n:Hid (Ch ag wr s):=Z (Ch.trans (Ch.refl _ _).drew A);have o:=Z (aG.ch c.2 n (fun h=>h) (fun _ _ h=>h));have cf:=n.k W;have ch:s.cell? (F,2)=_:=ho o 1 (by omega);have ab:=o.free 2;clear A))
       all_goals
        go_wp2_with fail
        go_roundg (3)
        case measure=>omega
        case rel=>
         have B:=eT o (by decide) 1 (by omega) (IntKind.u64.wrap (V+a1));rw[show({({pc:=cat,r:=bj K1 k0 k1 k2 k3 a0 a1 a2 a3 1,back:=[]}:cE)with r:=fO (bj K1 k0 k1 k2 k3 a0 a1 a2 a3 1) 1 (IntKind.u64.wrap (V+a1))}:cE)=⟨cat,bj K1 k0 k1 k2 k3 a0 a1 a2 a3 2,[]⟩from by rw[qt _ S]]at B;exact⟨2,by omega,rfl,rfl,(c.1.trans n).set (p:=⟨F,2,none⟩) (Or.inr (by rw[R];exact Nat.le_refl _)) _,B⟩
      ·have cQ:(k1==7)=false:=by rw[beq_eq_false_iff_ne];exact x
       have Q:=Z (hi wr.drew _ _ a1 k1 X.at_.drew);have co:=X.at_.iF;obtain⟨ad,T⟩:=nm (ga K1.cV a1 k1);rw[T]at Q;obtain⟨H,U⟩:∃v,ad.getD 0=v:=⟨_,rfl⟩;have z:H=da K1 k1 a1:=by unfold da;rw[if_neg d,if_neg x,T,U]
       have S:=Z z;have c7:Hid (Calls prog 172 #[(L.ob,0),.int .u64 a1,k1] wr.drew (fun e w'=>(∃v,e=.returned (.tuple #[.int .u64 H,v]))/\Ch ag wr.drew w')):=Z (Q.mono fun e w' h=>by
        obtain⟨I,G⟩:=h;refine⟨?_,G⟩;rw[<-U];cases ad with
        |none=>obtain⟨v,cl,_⟩:=I;exact⟨v,cl⟩
        |some y=>exact⟨_,I⟩)
       clear z d x T U Q;go_wp2_with fail
       go_region_held3 (fun w'=>w'.cell? (L.mb,1013)=some (.pointer (some (L.ob,0)))/\w'.cell? ⟨w.heap.size,1,none⟩=some (.int .u64 a1)) (go_keep) ((go_at_call 172;refine c7.mono ?_;rintro e s ⟨⟨ll,rfl⟩,A⟩;have n:Hid (Ch ag wr s):=Z (Ch.trans (Ch.refl _ _).drew A);have o:=Z (aG.ch c.2 n (fun h=>h) (fun _ _ h=>h));have cf:=n.k W;have k4:=n.k co;have ch:s.cell? (F,2)=_:=ho o 1 (by omega);have ab:=o.free 2;clear A))
       all_goals
        go_wp2_with fail
        go_roundg (3)
        case measure=>omega
        case rel=>
         have B:=eT o (by decide) 1 (by omega) H;rw[show({({pc:=cat,r:=bj K1 k0 k1 k2 k3 a0 a1 a2 a3 1,back:=[]}:cE)with r:=fO (bj K1 k0 k1 k2 k3 a0 a1 a2 a3 1) 1 H}:cE)=⟨cat,bj K1 k0 k1 k2 k3 a0 a1 a2 a3 2,[]⟩from by rw[qt _ S]]at B;exact⟨2,by omega,rfl,rfl,(c.1.trans n).set (p:=⟨F,2,none⟩) (Or.inr (by rw[R];exact Nat.le_refl _)) _,B⟩
    ·have W:=eC.1.k 2 rfl
     have fz:wr.cell? (F,3)=_:=ho c.2 2 (by omega);have k5:=c.2.free 3;have l0:=zh k0 k1 k2 k3;by_cases d:k2=0
     ·have O:bj K1 k0 k1 k2 k3 a0 a1 a2 a3 3=bj K1 k0 k1 k2 k3 a0 a1 a2 a3 2:=zl (by unfold da;rw[if_pos d])
      have c8:=Z O;have cS:(k2==0)=true:=by simpa using d
      clear O d;go_wp2_with fail
      go_roundg (2)
      case measure=>omega
      case rel=>exact⟨3,by omega,rfl,rfl,c.1,by rw[c8];exact c.2⟩
     ·have cS:(k2==0)=false:=by rw[beq_eq_false_iff_ne];exact d
      by_cases x:k2=7
      ·have z:IntKind.u64.wrap (V+a2)=da K1 k2 a2:=by unfold da;rw[if_neg d,if_pos x,he,c0]
       have cQ:(k2==7)=true:=by simpa using x
       have S:=Z z;have c6:=Z (Bl (eL wr.drew _ _ X.at_.drew));have eA:=c0.out;clear z d x;go_wp2_with fail
       go_region_held3 (fun w'=>w'.cell? ⟨w.heap.size,2,none⟩=some (.int .u64 a2)) (go_keep) ((go_at_call 32;refine c6.mono ?_;rintro e s ⟨rfl,A⟩;have n:Hid (Ch ag wr s):=Z (Ch.trans (Ch.refl _ _).drew A);have o:=Z (aG.ch c.2 n (fun h=>h) (fun _ _ h=>h));have cf:=n.k W;have ch:s.cell? (F,3)=_:=ho o 2 (by omega);have ab:=o.free 3;clear A))
       all_goals
        go_wp2_with fail
        go_roundg (2)
        case measure=>omega
        case rel=>
         have B:=eT o (by decide) 2 (by omega) (IntKind.u64.wrap (V+a2));rw[show({({pc:=cat,r:=bj K1 k0 k1 k2 k3 a0 a1 a2 a3 2,back:=[]}:cE)with r:=fO (bj K1 k0 k1 k2 k3 a0 a1 a2 a3 2) 2 (IntKind.u64.wrap (V+a2))}:cE)=⟨cat,bj K1 k0 k1 k2 k3 a0 a1 a2 a3 3,[]⟩from by rw[qu _ S]]at B;exact⟨3,by omega,rfl,rfl,(c.1.trans n).set (p:=⟨F,3,none⟩) (Or.inr (by rw[R];exact Nat.le_refl _)) _,B⟩
      ·have cQ:(k2==7)=false:=by rw[beq_eq_false_iff_ne];exact x
       have Q:=Z (hi wr.drew _ _ a2 k2 X.at_.drew);have co:=X.at_.iF;obtain⟨ad,T⟩:=nm (ga K1.cV a2 k2);rw[T]at Q;obtain⟨H,U⟩:∃v,ad.getD 0=v:=⟨_,rfl⟩;have z:H=da K1 k2 a2:=by unfold da;rw[if_neg d,if_neg x,T,U]
       have S:=Z z;have c7:Hid (Calls prog 172 #[(L.ob,0),.int .u64 a2,k2] wr.drew (fun e w'=>(∃v,e=.returned (.tuple #[.int .u64 H,v]))/\Ch ag wr.drew w')):=Z (Q.mono fun e w' h=>by
        obtain⟨I,G⟩:=h;refine⟨?_,G⟩;rw[<-U];cases ad with
        |none=>obtain⟨v,cl,_⟩:=I;exact⟨v,cl⟩
        |some y=>exact⟨_,I⟩)
       clear z d x T U Q;go_wp2_with fail
       go_region_held3 (fun w'=>w'.cell? (L.mb,1013)=some (.pointer (some (L.ob,0)))/\w'.cell? ⟨w.heap.size,2,none⟩=some (.int .u64 a2)) (go_keep) ((go_at_call 172;refine c7.mono ?_;rintro e s ⟨⟨ll,rfl⟩,A⟩;have n:Hid (Ch ag wr s):=Z (Ch.trans (Ch.refl _ _).drew A);have o:=Z (aG.ch c.2 n (fun h=>h) (fun _ _ h=>h));have cf:=n.k W;have k4:=n.k co;have ch:s.cell? (F,3)=_:=ho o 2 (by omega);have ab:=o.free 3;clear A))
       all_goals
        go_wp2_with fail
        go_roundg (2)
        case measure=>omega
        case rel=>
         have B:=eT o (by decide) 2 (by omega) H;rw[show({({pc:=cat,r:=bj K1 k0 k1 k2 k3 a0 a1 a2 a3 2,back:=[]}:cE)with r:=fO (bj K1 k0 k1 k2 k3 a0 a1 a2 a3 2) 2 H}:cE)=⟨cat,bj K1 k0 k1 k2 k3 a0 a1 a2 a3 3,[]⟩from by rw[qu _ S]]at B;exact⟨3,by omega,rfl,rfl,(c.1.trans n).set (p:=⟨F,3,none⟩) (Or.inr (by rw[R];exact Nat.le_refl _)) _,B⟩
    ·have W:=eC.1.k 3 rfl
     have fz:wr.cell? (F,4)=_:=ho c.2 3 (by omega);have k5:=c.2.free 4;have l0:=zi k0 k1 k2 k3;by_cases d:k3=0
     ·have O:bj K1 k0 k1 k2 k3 a0 a1 a2 a3 4=bj K1 k0 k1 k2 k3 a0 a1 a2 a3 3:=zm (by unfold da;rw[if_pos d])
      have c8:=Z O;have cS:(k3==0)=true:=by simpa using d
      clear O d;go_wp2_with fail
      go_roundg (1)
      case measure=>omega
      case rel=>exact⟨4,by omega,rfl,rfl,c.1,by rw[c8];exact c.2⟩
     ·have cS:(k3==0)=false:=by rw[beq_eq_false_iff_ne];exact d
      by_cases x:k3=7
      ·have z:IntKind.u64.wrap (V+a3)=da K1 k3 a3:=by unfold da;rw[if_neg d,if_pos x,he,c0]
       have cQ:(k3==7)=true:=by simpa using x
       have S:=Z z;have c6:=Z (Bl (eL wr.drew _ _ X.at_.drew));have eA:=c0.out;clear z d x;go_wp2_with fail
       go_region_held3 (fun w'=>w'.cell? ⟨w.heap.size,3,none⟩=some (.int .u64 a3)) (go_keep) ((go_at_call 32;refine c6.mono ?_;rintro e s ⟨rfl,A⟩;have n:Hid (Ch ag wr s):=Z (Ch.trans (Ch.refl _ _).drew A);have o:=Z (aG.ch c.2 n (fun h=>h) (fun _ _ h=>h));have cf:=n.k W;have ch:s.cell? (F,4)=_:=ho o 3 (by omega);have ab:=o.free 4;clear A))
       all_goals
        go_wp2_with fail
        go_roundg (1)
        case measure=>omega
        case rel=>
         have B:=eT o (by decide) 3 (by omega) (IntKind.u64.wrap (V+a3));rw[show({({pc:=cat,r:=bj K1 k0 k1 k2 k3 a0 a1 a2 a3 3,back:=[]}:cE)with r:=fO (bj K1 k0 k1 k2 k3 a0 a1 a2 a3 3) 3 (IntKind.u64.wrap (V+a3))}:cE)=⟨cat,bj K1 k0 k1 k2 k3 a0 a1 a2 a3 4,[]⟩from by rw[qv _ S]]at B;exact⟨4,by omega,rfl,rfl,(c.1.trans n).set (p:=⟨F,4,none⟩) (Or.inr (by rw[R];exact Nat.le_refl _)) _,B⟩
      ·have cQ:(k3==7)=false:=by rw[beq_eq_false_iff_ne];exact x
       have Q:=Z (hi wr.drew _ _ a3 k3 X.at_.drew);have co:=X.at_.iF;obtain⟨ad,T⟩:=nm (ga K1.cV a3 k3);rw[T]at Q;obtain⟨H,U⟩:∃v,ad.getD 0=v:=⟨_,rfl⟩;have z:H=da K1 k3 a3:=by unfold da;rw[if_neg d,if_neg x,T,U]
       have S:=Z z;have c7:Hid (Calls prog 172 #[(L.ob,0),.int .u64 a3,k3] wr.drew (fun e w'=>(∃v,e=.returned (.tuple #[.int .u64 H,v]))/\Ch ag wr.drew w')):=Z (Q.mono fun e w' h=>by
        obtain⟨I,G⟩:=h;refine⟨?_,G⟩;rw[<-U];cases ad with
        |none=>obtain⟨v,cl,_⟩:=I;exact⟨v,cl⟩
        |some y=>exact⟨_,I⟩)
       clear z d x T U Q;go_wp2_with fail
       go_region_held3 (fun w'=>w'.cell? (L.mb,1013)=some (.pointer (some (L.ob,0)))/\w'.cell? ⟨w.heap.size,3,none⟩=some (.int .u64 a3)) (go_keep) ((go_at_call 172;refine c7.mono ?_;rintro e s ⟨⟨ll,rfl⟩,A⟩;have n:Hid (Ch ag wr s):=Z (Ch.trans (Ch.refl _ _).drew A);have o:=Z (aG.ch c.2 n (fun h=>h) (fun _ _ h=>h));have cf:=n.k W;have k4:=n.k co;have ch:s.cell? (F,4)=_:=ho o 3 (by omega);have ab:=o.free 4;clear A))
       all_goals
        go_wp2_with fail
        go_roundg (1)
        case measure=>omega
        case rel=>
         have B:=eT o (by decide) 3 (by omega) H;rw[show({({pc:=cat,r:=bj K1 k0 k1 k2 k3 a0 a1 a2 a3 3,back:=[]}:cE)with r:=fO (bj K1 k0 k1 k2 k3 a0 a1 a2 a3 3) 3 H}:cE)=⟨cat,bj K1 k0 k1 k2 k3 a0 a1 a2 a3 4,[]⟩from by rw[qv _ S]]at B;exact⟨4,by omega,rfl,rfl,(c.1.trans n).set (p:=⟨F,4,none⟩) (Or.inr (by rw[R];exact Nat.le_refl _)) _,B⟩
    ·have W:=eC.1.c1
     have rx:wr.cell? (F,31)=_:=ho c.2 30 (by omega);have r':wr.cell? (F,32)=_:=ho c.2 31 (by omega);have f30:=c.2.free 31;have f31:=c.2.free 32;have os:IntKind.u64.wrap (m:Int)=m:=by unfold IntKind.wrap IntKind.bits IntKind.signed;simp;omega
     have re:=Z os;have s1:(⟨F,31,none⟩:Addr)≠⟨F,32,none⟩:=by simp
     have s2:(⟨F,32,none⟩:Addr)≠⟨F,31,none⟩:=by simp
     have nd:=aG.drew (eT (eT c.2 (by decide) 30 (by omega) a0) (by decide) 31 (by omega) (m:Int));have n8:Ch ag wc (((wr.setCell (F,1+30) (.int .u64 a0)).setCell (F,1+31) (.int .u64 (m:Int))).drew):=((c.1.set (p:=⟨F,1+30,none⟩) (Or.inr (by rw[R];exact Nat.le_refl _)) _).set (p:=⟨F,1+31,none⟩) (Or.inr (by rw[R];exact Nat.le_refl _)) _).drew;have l':=Z (And.intro nd n8);clear nd n8;go_wp2_with fail
     go_region
     go_upto_region 19 with fail
     obtain⟨s,i8⟩:=nm (((wr.setCell (F,31) (.int .u64 a0)).setCell (F,32) (.int .u64 (m:Int))).drew);have o:Hid (aG s F 0 179 [] [.bool true,.int .i64 (m:Int)] (.slice none 0 0) ⟨cat,ph K1 k0 k1 k2 k3 a0 a1 a2 a3 (m:Int),[]⟩):=Z (by rw[<-i8,<-w5];exact l'.1);have n:Hid (Ch ag wc s):=Z (by rw[<-i8];exact l'.2);rw[i8];clear i8 rx r' f30 f31 W s1 s2 os;have c1:=Z (ec.af n);obtain⟨g,cap,es,s3,_⟩:=c1.at_.jX J.2.2.1 fb.2.2;rw[<-fb.1]at es s3;have mb:=Z es;have hu:=c1.at_.CI J.2.2.1;have mC:=c1.at_.rz J.2.2.1 1;rw[c9]at hu mC;rw[es]at hu;have l1:=(c1.at_.tl id t J.2.2.1 (by simp)).is;rw[es,<-fb.1]at l1;have og:tb<s.heap.size:=aE hu;have ov:(Value.slice (some (g,0)) fn cap).ownBlock≠some tb:=by
      have:=aY (c1.at_.tl id t J.2.2.1 (by simp)).is (c1.at_.th id t J.2.2.1 (by simp)).is (by decide);rw[es,c9]at this;exact this
     have E:Hid (gX C K id k (m:Int)=K1.b9 id {t with l:=t.l++[⟨⟨cat,ph K1 k0 k1 k2 k3 a0 a1 a2 a3 (m:Int),[]⟩,true,(m:Int)⟩]}):=Z (by
      rw[fd,if_neg (by decide),KS.df J.2.2.1];unfold ph;rw[re])
     clear es;go_wp2_with (at_builtin;refine wpList_append_lies _ rfl _ _ _ rfl 0 177 st _ 1 8 underlying174 hl.1 hl.2.1 hl.2.2.1 hl.2.2.2 rfl (by omega) _ fn ((List.range fn).map fun k=>bf (ms.fb id k)) rfl (l1.alloc _) ⟨s.heap.size,0,none⟩ 1 1 [(F,0)] rfl rfl (World.news_of_block (cs:=#[(F,0)]) (t:=177) (fr:=(0,0)) (heap_alloc_new s _)) (by simp[Value.oneCell']) (by omega) (by unfold maxLen;omega) (by omega) (by simp) (s.heap.size+1) (by simp) ?_)
     intro s0 rt lm ob i2 mW s5;have kd:=c1.at_.B0 J.2.2.1 (f:=⟨⟨cat,ph K1 k0 k1 k2 k3 a0 a1 a2 a3 (m:Int),[]⟩,true,(m:Int)⟩) o qr rfl (g:=s0) (cap:=rt) (w4:=lm) (by rw[<-fb.1];exact ob) (by rw[mb];exact ax i2) (by
      rw[mb];rcases mW with G|G
      ·exact Or.inl (by rw[G])
      ·exact Or.inr (by omega))
     rw[c9,<-fb.1]at kd;have r6:=Z kd;have x6:lm.cell? (tb,1)=some (.slice (some (g,0)) fn cap):=((Ch.bQ (ax i2)).cell (p:=⟨tb,1,none⟩) og ov).trans hu;have x7:lm.frozen? (tb,1)=false:=((Ch.bQ (ax i2)).frozen (p:=⟨tb,1,none⟩) og ov).trans mC;clear kd ob i2 mW s5 l1;go_wp2_with fail
     go_end0
     rw[E];obtain⟨aW,Y',i3,s7,wh,s4⟩:=r6.out;have ge:=c1.nx;have w0:w.heap.size<=wc.heap.size:=ec.nx.ch.size;exact⟨rfl,aW,Y',i3,⟨ge.ch.join s4 (fun i gc kT=>by rw[<-ge.same i gc];exact kT),fun i gc=>(s7 i (Nat.lt_of_lt_of_le gc ge.ch.size) (by rw[R];omega)).trans (ge.same i gc)⟩⟩
 ·have v6:(i9==0)=false:=by rw[beq_eq_false_iff_ne];exact le
  have E:Hid (gX C K id k num=dh K1 id num i9 0):=Z (by rw[fd,if_pos le]);have rc:=Z (fun(w:World) (χ:Nat->a4) (Y:Var) (h:ae w χ L Y C K1)=>jI id t ex hid gf i4 num i9 0 r5 h);clear h cq et c2 hb go cm hw hB i0 i1 ok hid i7 al no nq i4 gf hv ex en i5;go_enter func146,ntmps146
  go_wp2_with fail
  obtain⟨w1,av⟩:=nm (w.alloc (.cells #[.int .u64 a0,.int .u64 a1,.int .u64 a2,.int .u64 a3] 60));have io:=Z (Ch.al (D:=ag) av);have c3:Hid (Row w1 w.heap.size 60 [.int .u64 a0,.int .u64 a1,.int .u64 a2,.int .u64 a3]/\χ w.heap.size=.no):=Z ⟨by rw[<-av];exact Row.new w _ _,hn.at_.fresh (Nat.le_refl _)⟩;rw[av];clear av p3 p8 pa pi;have cb:=Z (hn.af io);obtain⟨bi,cW,dr,dC⟩:=c3.1.c4;have ci:=cb.at_.gb J.1;rw[J.2.2.2,J.2.1]at ci;go_still_tail 8,(by kernel_rfl)
  change wpList _ _ _ _ _ w1.drew;go_wp2_with fail
  with_reducible refine(jp.out _ cb.out.at_.drew).mono ?_
  rintro e w2 ⟨rfl,tg,ms,G⟩;have cd:=Z ((cb.af (Ch.refl _ w1).drew).trans (Gr.refl _) G);have c4:=Z (((Nx.af (Ch.refl _ w1).drew).trans G.nx).row c3.1 c3.2);have cL:=(cd.yk id t J.1).1;rw[J.2.1]at cL;have c9:=Z cL;clear G cL bi cW dr dC ci;obtain⟨bi,cW,dr,dC⟩:=c4.1.c4;go_wp2_with fail
  have cC:=it _ _ _ cd.at_;rw[c9]at cC;with_reducible refine cC.mono ?_
  clear cC;rintro e bv ⟨rfl,cA⟩;have ce:=Z (cd.af cA);have gt:=Z ((Nx.af cA).row c4.1 c4.2);clear cA bi cW dr dC;go_wp2_with fail
  have lb:=rc _ _ _ ce.at_;rw[c9]at lb;with_reducible refine lb.mono ?_
  clear lb;rintro e w4 ⟨rfl,th,ro,kb⟩;have mk:=Z (And.intro kb.at_ (ce.nx.trans kb.nx));clear kb;go_wp2_with fail
  go_end0
  rw[E];exact⟨rfl,th,ro,mk.1,mk.2⟩
end
end
end Go.Proofs.YtfnilkpkogipfaaGreatDoor
