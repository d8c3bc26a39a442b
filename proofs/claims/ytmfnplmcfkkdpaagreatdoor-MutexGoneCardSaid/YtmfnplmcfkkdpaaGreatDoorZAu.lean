import Derived.Test.YtmfnplmcfkkdpaaGreatDoorZAs
import Derived.Test.YtmfnplmcfkkdpaaGreatDoorZAt
set_option linter.all false
set_option maxRecDepth 100000
set_option maxHeartbeats 0
namespace Go.Proofs.YtmfnplmcfkkdpaaGreatDoor
open Go.RowKit Go.Proofs.Tryz
theorem Br(v:Nat)(b:v<=1000000)(w:World):Calls prog 4 #[.int .i64 v] w (lA (jG v) w):=by
 have a:=Z (fun w=>rn v (by omega) w);go_in
 go_wp2_with fail
 refine(a _).mono ?_;rintro e w' ⟨rfl,rfl⟩;go_wp2
 go_ret;exact lA.mk rfl
variable{A B D E F:ByteArray}{L:List (ByteArray×Int)}
set_option maxRecDepth 1000000 in
theorem wS(X:fK A B D E F L)(w:World):Calls prog 18 #[] w (fun e w'=>e=.returned (.string A)/\w'=w):=by
 have a:=Z X.a;go_wp2
 go_ret;refine⟨?_,rfl⟩;rw[a]
 kernel_rfl
set_option maxRecDepth 1000000 in
theorem wT(X:fK A B D E F L)(w:World):Calls prog 19 #[] w (fun e w'=>e=.returned (.string B)/\w'=w):=by
 have a:=Z X.b;go_wp2
 go_ret;refine⟨?_,rfl⟩;rw[a]
 kernel_rfl
set_option maxRecDepth 1000000 in
theorem wU(X:fK A B D E F L)(w:World):Calls prog 20 #[] w (fun e w'=>e=.returned (.string D)/\w'=w):=by
 have a:=Z X.d;go_wp2
 go_ret;refine⟨?_,rfl⟩;rw[a]
 kernel_rfl
set_option maxRecDepth 1000000 in
theorem xn(X:fK A B D E F L)(w:World):Calls prog 21 #[] w (fun e w'=>e=.returned (.string E)/\w'=w):=by
 have a:=Z X.e;go_wp2
 go_ret;refine⟨?_,rfl⟩;rw[a]
 kernel_rfl
set_option maxRecDepth 1000000 in
theorem xo(X:fK A B D E F L)(w:World):Calls prog 22 #[] w (fun e w'=>e=.returned (.string F)/\w'=w):=by
 have a:=Z X.f;go_wp2
 go_ret;refine⟨?_,rfl⟩;rw[a]
 kernel_rfl
set_option maxRecDepth 1000000 in
theorem p'(X:fK A B D E F L)(w:World):Calls prog 7 #[] w (ds (.agg #[.string (A++B++D++E++F),.int .i64 18]) w):=by
 have b:=Z (wS X);have c:=Z (wT X);have d:=Z (wU X);have f:=Z (xn X);have g:=Z (xo X);have hb:(A++B++D++E++F).size<=65536:=X.s;rw[ByteArray.size_append,ByteArray.size_append,ByteArray.size_append,ByteArray.size_append]at hb;go_in
 go_wp2_with fail
 with_reducible refine(b.out _).mono ?_
 rintro e w1 ⟨rfl,rfl⟩;go_wp2_with fail
 with_reducible refine(c.out _).mono ?_
 rintro e w2 ⟨rfl,rfl⟩;go_wp2_with fail
 with_reducible refine(d.out _).mono ?_
 rintro e k ⟨rfl,rfl⟩;go_wp2_with fail
 with_reducible refine(f.out _).mono ?_
 rintro e w4 ⟨rfl,rfl⟩;go_wp2_with fail
 with_reducible refine(g.out _).mono ?_
 rintro e l ⟨rfl,rfl⟩;go_wp2
 generalize a:World.alloc _ _=w4;have h:=Z (Ch.al (D:=ag) a);have i:Hid (Row w4 w.heap.size 32 [.string (A++B++D++E++F),.int .i64 18]):=Z (Row.al a);obtain⟨y0,j⟩:=i.c2;refine bodyPost_ret (v:=.agg #[.string (A++B++D++E++F),.int .i64 18]) ?_ rfl ⟨rfl,h⟩;simp[results,Tryz.f7,go_sem,y0,j]
theorem Bs:fG e' 90 hh=true:=by kernel_rfl
theorem nt(X:fK A B D E F L)(n tt:Nat)(ab:1<=n/\n<=64)(al:17+8*n+4+1<=tt/\tt<=65536)(p:List be)(ad:eQ p 0 3 1=true)(m:Int)(w:World)(C:w.cell? (1,0)=some (.int .i64 m))
 (z:w.cell? (0,0)=some (.iface 346 (.agg #[(4,80)]))) (d:Value) {I:Nat} (G:w.ownsRow I 152 7 d p.length (p.flatMap dn)):
 Calls prog 12 #[.agg #[.string (A++B++D++E++F),.int .i64 18],.agg #[.int .i64 n,.int .i64 tt],.agg #[d,.int .i64 0,.int .i64 3,.int .i64 1]] w (Np (mC p) n tt w):=by
 have M:Hid (∀W,Ch ag w W->Calls prog 27 #[.agg #[.string (A++B++D++E++F),.int .i64 18]] W (Bl e' 90 hh W)):=Z (fun W c=>
  X.rows▸qC (A++B++D++E++F) e' L X.p X.s (by decide) X.l0 X.l1 18 (by decide) 90 X.loop X.born.choose X.born.choose_spec X.rt m W ((c.cell (aQ C) id).trans C))
 have t:Hid (∀(vc vk:Value) (q r:Nat) (W:World),W.ownsRow q 152 7 vc 449 (e'.flatMap dn)->W.ownsRow r 121 6 vk 18 (hh.flatMap bB.cells)->Ch ag w W->Calls prog 28 #[.agg #[.int .i64 n,.int .i64 tt],.agg #[vc,.int .i64 90,vk],.agg #[d,.int .i64 0,.int .i64 3,.int .i64 1]] W (E4 (mC p) n tt W)):=Z (fun vc vk q r W Y a0 c=>
  Ba n tt ab ⟨by omega,al.2⟩ e' 90 hh p 0 3 1 (by decide) (by decide) Bs ad (by omega) vc vk d W Y a0 (ak G c (fun _ _ e=>e)) ((c.cell (aQ z) id).trans z))
 obtain⟨x,y,rfl⟩:=au G;obtain⟨N,a1⟩:=nm p.length;rw[a1]at t⊢;obtain⟨Q,g⟩:=nm w.heap.size;have am:=Z g;go_in
 go_wp2_with fail
 generalize l:World.alloc _ _=w1;have s:Hid (Ch ag w w1):=Z (by rw[<-l];exact ay);have R:Hid (Row w1 (Q+1) 42 [.int .i64 n,.int .i64 tt]):=Z (by
  rw[<-l,<-g];have:=(Row.new (w.alloc (.cells #[.string (A++B++D++E++F),.int .i64 18] 32)) #[.int .i64 n,.int .i64 tt] 42);rw[World.size_alloc]at this;exact this.alloc _)
 have P:Hid (Row w1 (Q+1+1) 45 [.slice x N y,.int .i64 0,.int .i64 3,.int .i64 1]):=Z (by
  rw[<-l,<-g];have:=Row.new ((w.alloc (.cells #[.string (A++B++D++E++F),.int .i64 18] 32)).alloc (.cells #[.int .i64 n,.int .i64 tt] 42)) #[.slice x N y,.int .i64 0,.int .i64 3,.int .i64 1] 45;rw[World.size_alloc,World.size_alloc]at this;exact this)
 with_reducible refine(M.out w1 s.out).mono ?_
 rintro e w2 ⟨vc,vk,rfl,h,k,j⟩;obtain⟨ac,U,rfl⟩:=au h;obtain⟨T,V,rfl⟩:=au k;rw[show e'.length=449 from rfl]at h⊢;rw[show hh.length=18 from rfl]at k⊢;have f:=Z (s.trans j);have v:=Z (R.ch j id);have b:=Z (P.ch j id);have u:=Z (And.intro h k);obtain⟨lb,a5⟩:=nm w2.heap.size;go_upto_region 4 with fail
 generalize H:World.alloc _ _=o;have S:Hid (Row o lb 62 [.slice ac 449 U,.int .i64 90,.slice T 18 V]):=Z (by rw[<-a5];exact Row.al H);have a:Hid (Ch ag w2 o):=Z (Ch.al H);obtain⟨y0,ap,av⟩:=S.c3;have bi:=(v.ch a id).cell (i:=0) rfl;have bv:=(v.ch a id).cell (i:=1) rfl;have x0:=(b.ch a id).cell (i:=0) rfl;have x1:=(b.ch a id).cell (i:=1) rfl;have x2:=(b.ch a id).cell (i:=2) rfl;have x3:=(b.ch a id).cell (i:=3) rfl;go_wp2_with fail
 with_reducible refine(t.out _ _ _ _ o (ak u.out.1 a.out (fun _ _ e=>e)) (ak u.out.2 a.out (fun _ _ e=>e)) (f.out.trans a.out)).mono ?_
 rintro e w4 ⟨mb,χ,rfl,a9,a3,a2⟩;have O:=Z a9;have K:Hid (∀i,χ i≠ .no->w.heap.size<=i):=Z (fun i a4=>Nat.le_trans (f.trans a).size (a3 i a4));have J:=Z ((f.trans a).trans a2);go_wp2
 go_ret;exact⟨mb,χ,rfl,O,K,J⟩
set_option maxHeartbeats 16000000 in
theorem nu(C:KC)(n:Nat)(pN:1<=n/\n<=4)(x0:ByteArray)(x1 wk N:Int)(lw:aK N)(a9:1+cX wk 4=n)(t:ByteArray)(p:List be)(w:World)
 (lI:Hid (∀W,Calls prog 13 #[.string t] W (MV p W)))
 (md:Hid (∀W hm B,Ch ag w W->W.ownsRow B 152 7 hm p.length (p.flatMap dn)->Calls prog 12 #[.agg #[.string x0,x1],.agg #[.int .i64 n,.int .i64 600],.agg #[hm,.int .i64 0,.int .i64 3,.int .i64 1]] W (Np C n 600 W)))
 (k0:ow C) (k2:Inv 1 0 (hY C n 600)) (q:Nat) (pu:q<=1499) (tr:List Ev) (K:KS) (kd:Ji C n N (fun K=>mY K.table) q 0 [] (hY C n 600)=(tr,K,true)) (kw:fk C n N q 0 (hY C n 600)=true):
 Calls prog 6 #[.agg #[.string x0,x1],wk,.int .u64 N,.string t] w (Ly C tr K true w):=by
 have ip:=Z (o0 wk 4 (by decide));have ok:=dR wk 4 (by decide);obtain⟨mC,kf⟩:=nm (cX wk 4);rw[kf]at a9 ok ip;have pa:=Z lw;have eW:=Z k0;have a:=Z k2;have i6:=Z (And.intro kd kw);have q7:wrap64 (1+mC)=(n:Int):=by rw[a9];unfold wrap64;omega
 clear lw k0 k2 kd kw kf;obtain⟨B,cW⟩:=nm w.heap.size;have lG:=Z cW;go_in
 go_wp2_with fail
 obtain⟨w1,ci⟩:=nm ((w.alloc (.cells #[.string x0,x1] 32)).alloc (.cells #[.slice none 0 0,.pointer none,.bool false] 28));have cl:Hid (Ch ag w w1):=Z (by rw[<-ci];exact ay);have lH:Hid (Row w1 B 32 [.string x0,x1]):=Z (by rw[<-ci,<-cW];exact(Row.new _ _ _).alloc _);have fb:Hid (Row w1 (B+1) 28 [.slice none 0 0,.pointer none,.bool false]):=Z (by
  rw[<-ci,<-cW];have:=Row.new (w.alloc (.cells #[.string x0,x1] 32)) #[.slice none 0 0,.pointer none,.bool false] 28;rw[World.size_alloc]at this;exact this)
 try rw[ci]
 clear ci cW;with_reducible refine(ip.out _).mono ?_
 rintro e w2 ⟨rfl,rfl⟩;have fz:Hid (∀W,Ch ag w1 W->W.cell? ⟨B,0,none⟩=some (.string x0)/\W.cell? ⟨B,1,none⟩=some (.int .i64 x1)):=Z (fun W c=>by
  have r:=lH.ch c id;exact⟨r.cell rfl,r.cell rfl⟩)
 obtain⟨t0,t1⟩:=fz w1 ay;go_upto_region 2 with fail
 try rw[a9]
 go_cut [11] (fun v wc=>Np C n 600 w1 (.returned v) wc)
 case first=>
  go_region_held3 (fun w'=>w'.cell? ⟨B,0,none⟩=some (.string x0)/\w'.cell? ⟨B,1,none⟩=some (.int .i64 x1)) (go_keep) (first
   |(go_at_call 13;refine(lI _).mono ?_;rintro e w4 ⟨hm,rfl,lv,kE⟩;have cm:Hid (Ch ag w1 w4):=Z (Ch.trans ay kE);have mk:=Z lv;obtain⟨t0,t1⟩:=fz _ cm;clear lv kE)
   |(go_at_call 12;refine(md _ _ _ (cl.trans (cm.trans ay)) (ak mk ay (fun _ _ e=>e))).mono ?_;rintro e eL ⟨mb,χ,rfl,c4,c2,V⟩;have i4:=Z (And.intro c4 (And.intro c2 V));have hw:Hid (Ch ag w1 eL):=Z ((cm.trans ay).trans V);obtain⟨t0,t1⟩:=fz _ hw;clear c4 c2 V))
  all_goals
   go_wp2
   go_meet
   exact⟨mb,χ,rfl,i4.1,fun i cb=>Nat.le_trans (show Ch ag w1 _ from cm.out.trans ay).size (i4.2.1 i cb),hw⟩
 case rest=>
  obtain⟨mb,χ,g6,c4,c2,a3⟩:=hcut;injection g6 with g6
  subst g6;obtain⟨f,la⟩:=nm wc.heap.size;go_upto_region 6 with fail
  generalize hi:World.alloc _ _=eC;have eV:Hid (Ch ag wc eC):=Z (Ch.al hi);have i0:Hid (Row eC f 28 [.slice none 0 0,(mb,0),.bool false]):=Z (by rw[<-la];exact Row.al hi);have a1:Hid (χ f=.no/\w.heap.size<=f/\B+1<f):=Z ⟨by
   cases Y:χ f with
   |no=>rfl
   |_=>exact absurd (c4.small f (by rw[Y];simp)) (by omega),by have:=cl.size;have:=a3.size;omega,by have:=fb.lt;have:=a3.size;omega⟩
  have mv:Hid (MX C n N (fun K=>mY K.table) w (B+1) f mb tr K q eC 0 χ [] (hY C n 600) (.slice none 0 0) false):=Z ⟨Nat.zero_le _,i0,⟨by simp,Or.inl ⟨rfl,rfl⟩⟩,(fun g H=>by cases H),c4.af eV,(by rw[Nat.zero_mul];exact a),Or.inl ⟨rfl,i6⟩,a1.1,(fun i cb=>Nat.le_trans cl.size (c2 i cb)),(cl.trans a3).trans eV,(by simp),fb.ch (a3.trans eV) id,by
   cases Y:χ (B+1)with
   |no=>rfl
   |_=>exact absurd (c2 (B+1) (by rw[Y];simp)) (by have:=fb.lt;omega)⟩
  clear hi c4 c2 a3 la a i6 i0 t0 t1;obtain⟨w4,rfl⟩:=mn eC;go_wp2
  go_loopg [13] (q+1) (fun gk p1 wr=>∃(j:Nat) (χ:Nat->a') (ad:List Ev) (K':KS) (v:Value) (d:Bool),gk=q+1-j/\p1=.int .i64 ((40*j:Nat):Int)/\Hid (MX C n N (fun K=>mY K.table) w (B+1) f mb tr K q wr j χ ad K' v d))
  case atStart=>exact⟨0,χ,[],_,_,false,rfl,rfl,mv⟩
  case round=>
   obtain⟨j,χ,ad,K',v,d,rfl,rfl,l⟩:=hrel;obtain⟨w4,rfl⟩:=mn wr;have nq:=l.le;have a0:=l.row.k 2 rfl;have dN:((40*j:Nat):Int)<=59960:=(by omega);cases d with
   |true=>
    obtain⟨rfl,rfl⟩:ad=tr/\K'=K:=by
     rcases l.fin with⟨h,_⟩|⟨-,h⟩
     ·cases h
     ·exact h
    obtain⟨it,gc⟩:=nm (ad.length);obtain⟨j9,jp,jr⟩:=au l.own;rw[gc]at jr;have p8:=Z gc;subst jr;obtain⟨y0,eS⟩:=l.row.c2;obtain⟨os,ov,oC⟩:=l.res.1.c3;have f0:=l.res.1.free 0;have f1:=l.res.1.free 1;have f2:=l.res.1.free 2;obtain⟨r,a5⟩:=nm (40*j);rw[a5];have qb:(r:Int)<60000:=(by omega);clear gc dN a5 nq;go_wp2
    generalize c5:World.setCell _ _ _=al;have g4:Hid (Row al (B+1) 28 [.slice j9 it jp,(mb,0),.bool true]):=Z (by rw[<-c5];exact((l.res.1.set 0 _).set 1 _).set 2 _);have L:Hid (Ch (aH (B+1)) w4 al):=Z (by rw[<-c5];exact ay);clear c5 y0 eS a0 os ov oC f0 f1 f2;obtain⟨y0,eS,a0⟩:=g4.c3;refine bodyPost_ret (v:=.tuple #[.agg #[.slice j9 it jp,(mb,0),.bool true],.bool true]) ?_ rfl ?_
    ·simp[results,Tryz.f6,go_sem,y0,eS,a0]
    ·refine⟨_,mb,χ,_,rfl,?_,l.ms.rl L (fun b hb e=>by have e:b=B+1:=e;rw[e];exact l.res.2),l.inv,?_,l.rl,l.ch.fresh L (fun b hb e=>by have e:b=B+1:=e;have:=lG.out;omega)⟩
     ·have lt:=l.own
      refine ak lt L (fun g H e=> ?_);have e:g=B+1:=e;subst e;exact aZ lt l.res.1 (by decide) H
     ·have o:j*(40*(n+1))<=1499*(40*5):=Nat.mul_le_mul (by have:=l.le;omega) (by omega)
      omega
   |false=>
    obtain⟨-,M,am⟩:_/\Ji C n N (fun K=>mY K.table) (q-j) (40*j) ad K'=(tr,K,true)/\fk C n N (q-j) (40*j) K'=true:=by
     rcases l.fin with h|⟨h,-⟩
     ·exact h
     ·cases h
    have py:j<q:=by
     rcases Nat.lt_or_ge j q with h|h
     ·exact h
     ·rw[show q-j=0 by omega]at M
      have:(false:Bool)=true:=congrArg (fun x=>x.2.2) M;cases this
    have gs:((40*j:Nat):Int)<60000:=(by omega);obtain⟨r,a5⟩:=nm (40*j);rw[a5]at gs dN⊢;obtain⟨av,es⟩:=nm (IntKind.u64.wrap (N+(r:Int)));have lF:aK av:=(by rw[<-es];exact bO _);have ii:Hid (Calls prog 14 #[.int .i64 n,.int .i64 40,.int .u64 av] w4 (Ln (HR n 40 av) w4)):=Z (J8 n 40 (by omega) (by omega) av lF w4);obtain⟨S,c1⟩:=nm (HR n 40 av);have mA:Hid (∀x∈S,aK x.draw):=Z (by rw[<-c1];exact Jn n 40 av lF);obtain⟨R,g9⟩:=nm S.length;have k5:R=40*(n+1):=(by rw[<-g9,<-c1];exact I9 n 40 av);have g3:=Z g9;obtain⟨c0,ge⟩:=nm (ad++(Kf C S K').1);obtain⟨K1,dr⟩:=nm ((Kf C S K').2);rw[show q-j=(q-(j+1))+1 by omega]at am;have am:=rv am;rw[show(40*(j:Int))=((40*j:Nat):Int)by omega,a5,es,c1,dr]at am;have mz:=Z am.1;have cq:Hid ((K3 K1=0/\tr=c0/\K=K1)∨(K3 K1≠0/\(400<=(r:Int)/\(r:Int)%400=0->mY K1.table=false)/\Ji C n N (fun K=>mY K.table) (q-(j+1)) (r+40) c0 K1=(tr,K,true)/\fk C n N (q-(j+1)) (r+40) K1=true)):=Z (by
     rw[show q-j=(q-(j+1))+1 by omega]at M;unfold Ji at M;dsimp only at M;rw[show(40*(j:Int))=((40*j:Nat):Int)by omega,a5,es,c1,ge,dr]at M;by_cases a4:K3 K1=0
     ·rw[if_pos a4]at M
      injection M with o z
      injection z with z pm
      exact Or.inl ⟨a4,o.symm,z.symm⟩
     ·rw[if_neg a4]at M
      by_cases hf:400<=(r:Int)/\(r:Int)%400=0/\mY K1.table=true
      ·rw[if_pos hf]at M
       have:(false:Bool)=true:=congrArg (fun x=>x.2.2) M;cases this
      ·rw[if_neg hf]at M
       exact Or.inr ⟨a4,fun h=>by cases Y:mY K1.table with|false=>rfl|true=>exact absurd ⟨h.1,h.2,Y⟩ hf,M,am.2 a4⟩)
    rw[c1]at ii;have le:j*(40*(n+1))<=299600:=Nat.le_trans (Nat.mul_le_mul (show j<=1498 by omega) (show 40*(n+1)<=200 by omega)) (by decide);obtain⟨bx,k3⟩:=nm (1+j*(40*(n+1)));have c8:=Z k3;have fr:=Z (And.intro le k5);have pv:(R:Int)<=200:=(by omega);have kb:0<R:=(by omega);clear M am c1 g9 le k5 k3;go_wp2_with fail
    clear es;with_reducible refine ii.out.mono ?_
    rintro e eL ⟨qj,rfl,hd,V⟩;rw[g3]at hd;obtain⟨J,cs,ab,rfl,n1,pl,-,j',-⟩:=aE hd kb;have i1:Hid (χ J=.no/\Row eL J 51 (S.flatMap mo++ab)):=Z ⟨by
     cases Y:χ J with
     |no=>rfl
     |_=>exact absurd (l.ms.small J (by rw[Y];simp)) (by omega),j'⟩
    have mc:Hid (Ni C w (B+1) f mb J ab S c0 K1 bx eL 0 χ ad K' v):=Z ⟨l.row.ch V id,ak l.own V (fun _ _ e=>e),l.Ht,l.ms.af V,(by rw[<-c8];exact l.inv),ge,⟨dr,mz⟩,l.M6,l.rl,l.ch.trans V,(by have:=l.len;have:=c8.out;omega),i1.1,i1.2,l.res.1.ch V id,l.res.2⟩;clear hd V n1 j' ge dr a0 kb;go_wp2
    go_loopg [15] (R+1) (fun gk oq wi=>∃(i:Nat) (T:Nat->a') (y:List Ev) (K2:KS) (Q:Value),i<=R/\gk=R-i+1/\oq=.int .i64 i/\Hid (Ni C w (B+1) f mb J ab S c0 K1 bx wi i T y K2 Q))
    case atStart=>exact⟨0,χ,ad,K',v,by omega,by omega,rfl,mc⟩
    case round=>
     obtain⟨i,T,y,K2,Q,cb,rfl,rfl,a⟩:=hrel;obtain⟨O,rfl⟩:=mn wr;by_cases ni:i<R
     ·have gr:(i:Int)<R:=by omega
      obtain⟨x,et⟩:∃x,S[i]?=some x:=⟨_,List.getElem?_eq_getElem (by rw[g3];exact ni)⟩;have eA:=mA x (List.mem_of_getElem? et);have go:S.drop i=x::S.drop (i+1):=by
       have o:=List.getElem?_eq_some_iff.1 et;obtain⟨o,z⟩:=o;rw[List.drop_eq_getElem_cons o,z]
      have ce:=tU (by rw[<-go];exact a.st.2);obtain⟨pi,a3,lo⟩:=K0 a.own;obtain⟨a2,X,n0⟩:=au a.own;have k4:bx+i<=299900:=(by have:=c8.out;have:=fr.1;omega);have hK:Hid (∀W,Ch ag O W->Calls prog 15 #[(mb,0),.agg #[.int .i64 x.kind,.int .i64 x.wk,.int .u64 x.draw]] W (HI (ht C K2 x.kind x.wk x.draw) T mb C W)):=Z (fun W c=>A' eW a.inv (by omega) x.kind x.wk x.draw eA ce.1 (a.ms.af c));have i2:Hid (Inv (bx+(i+1)) 0 (ht C K2 x.kind x.wk x.draw).2):=Z (q4 eW a.inv (by omega) x.kind x.wk x.draw eA ce.1);have en:=Mk eW a.inv (show bx+i<=800000 by omega) x.kind x.wk x.draw eA ce.1;have fd:Hid (y++(ht C K2 x.kind x.wk x.draw).1++(Kf C (S.drop (i+1)) (ht C K2 x.kind x.wk x.draw).2).1=c0/\(Kf C (S.drop (i+1)) (ht C K2 x.kind x.wk x.draw).2).2=K1/\mj C (S.drop (i+1)) (ht C K2 x.kind x.wk x.draw).2=true):=Z (by
       have o:=a.ev;have z:=a.st.1;rw[go]at o z;exact⟨by rw[List.append_assoc];exact o,z,ce.2⟩)
      obtain⟨D,k1⟩:=nm (ht C K2 x.kind x.wk x.draw);clear ce;rw[k1]at hK i2 en fd;obtain⟨m,gt⟩:=nm D.1.length;have g1:=Z gt;rw[gt]at en;have hlen:=a.len;obtain⟨t2,ch⟩:=nm y.length;have bw:=Z ch;have ex:∀u<3,(S.flatMap mo)[i*3+u]?=(mo x)[u]?:=(fun u og=>bJ (enc:=mo) (k:=3) (fun _=>rfl) et og);have i7:Hid ((S.flatMap mo++ab)[i*3]?=some (.int .i64 x.kind)):=Z (Jf (ex 0 (by decide)) rfl);have i8:Hid ((S.flatMap mo++ab)[i*3+1]?=some (.int .i64 x.wk)):=Z (Jf (ex 1 (by decide)) rfl);have i9:Hid ((S.flatMap mo++ab)[i*3+2]?=some (.int .u64 x.draw)):=Z (Jf (ex 2 (by decide)) rfl);have hn:=a.Ea.cell (i:=i*3) i7;have hu:=a.Ea.cell (i:=i*3+1) i8;have hv:=a.Ea.cell (i:=i*3+2) i9;have pc:Hid (∀W,Ch (fun i=>T i≠ .no) O W->W.cell? ⟨J,i*3,none⟩=some (.int .i64 x.kind)/\W.cell? ⟨J,i*3+1,none⟩=some (.int .i64 x.wk)/\W.cell? ⟨J,i*3+2,none⟩=some (.int .u64 x.draw)):=Z (fun W c=>⟨(c.cell (aQ hn) (fun h=>h a.MW)).trans hn,(c.cell (aQ hu) (fun h=>h a.MW)).trans hu,(c.cell (aQ hv) (fun h=>h a.MW)).trans hv⟩);subst n0;have y0:O.cell? (f,0)=some (.slice a2 t2 X):=(by rw[<-ch];exact a.row.cell (i:=0) rfl);have f0:=a.row.free 0;have cQ:Hid (Row O f 28 [.slice a2 t2 X,(mb,0),.bool false]/\Row O J 51 (S.flatMap mo++ab)):=Z ⟨by rw[<-ch];exact a.row,a.Ea⟩;have nw:f≠J:=a.row.ne a.Ea (by decide);have nx:J≠f:=nw.symm;have hF:Hid (∀g,(Value.slice a2 t2 X).ownBlock=some g->T g=.no):=Z (by rw[<-ch];exact a.Ht);have g0:=Z (And.intro k4 (And.intro hlen en));clear k1 gt et eA go ex k4 hlen en;obtain⟨on,lc,nC,nJ,nL⟩:=info_parts Ej;have m7:=Z lc;have p3:Hid ((D.1.flatMap Ev.cells).length=m*11):=Z (by rw[List.length_flatMap];simp only[Ev.len];rw[List.map_const',List.sum_replicate_nat,g1]);have i5:Hid (O.ownsRow w.heap.size 159 11 (.slice a2 t2 X) t2 (y.flatMap Ev.cells)):=Z (by have:=a.own;rw[bw]at this;exact this);have p2:Hid (t2<=X):=Z (by rw[a3 _ _ _ rfl,<-bw];exact lo);clear lc a3 lo ch;go_upto_region 13 with fail
      refine C8 (fun i=>[1,6,7,8].contains i) (fun w'=>Row w' f 28 [.slice a2 t2 X,(mb,0),.bool false]/\Row w' J 51 (S.flatMap mo++ab)) (by kernel_rfl) ?_;refine Bk (by kernel_rfl) (fun _ _ d _ _ h=>by cases d<;>exact h) ⟨cQ.1.drew,cQ.2.drew⟩ 4 [0,2,3,4,5,1,6] _ _ (by kernel_rfl) ?_
      iterate 7 (refine Gq (v:= ?_) rfl (Or.inl ⟨by rfl,?_⟩) ?_;rotate_left;(focus (intro w' a9;(try(have y0:=a9.1.c1;have hn:=a9.2.cell (i:=i*3) i7.out;have hu:=a9.2.cell (i:=i*3+1) i8.out;have hv:=a9.2.cell (i:=i*3+2) i9.out));go_simp;try with_reducible rfl));simp only[Act.put,List.setIfInBounds_toArray,List.set_cons_zero,List.set_cons_succ])
      refine takeN ?_;change eR _ _ _ _ _ _ _ _ _ _;refine vm (i:=7) (by kernel_rfl) rfl (fun K g8=> ?_);go_simp
      (go_at_call 15;refine(hK _ ay).mono ?_;rintro e E ⟨qc,c7,rfl,ej,l1,lm,ls⟩)
      have P:Hid (Nx T c7 O E):=Z ((Nx.af ay).trans ls);have U:=Z (And.intro (cQ.1.ch P.ch (fun h=>h a.M6)) (cQ.2.ch P.ch (fun h=>h a.MW)));have cC:=Z (ak i5 P.ch (fun g H h=>h (hF g H)));rw[g1]at ej;have cA:=Z (And.intro ej (And.intro l1 lm));obtain⟨mL,g5,rfl⟩:=au ej;clear ej l1 lm ls;dsimp only;refine g8 _ _ U ?_;try simp only[Act.put,List.setIfInBounds_toArray,List.set_cons_zero,List.set_cons_succ]
      refine vm (i:=8) (by kernel_rfl) rfl (fun K g8=> ?_);refine Iw _ (by rfl) _ _ _ (by rfl) w.heap.size 159 on _ 11 88 underlying25 m7 nC nJ nL (by rfl) (by omega) a2 t2 X (y.flatMap Ev.cells) (by rfl) cC mL m g5 (D.1.flatMap Ev.cells) (by rfl) cA.1.1 (Ml cA.1) (MJ _) (by have:=g0.out;have:=bw.out;unfold maxLen;omega) (by have:=g0.out;have:=bw.out;omega) (by have:=a.ch.size;have:=P.ch.size;omega) ?_;intro qi s he dC kk;obtain⟨mM,mS,rfl⟩:=au he;have A:=Z (And.intro (U.1.ch dC (fun e=>aZ cC U.1 (by decide) e)) (U.2.ch dC (fun e=>aZ cC U.2 (by decide) e)));have bv:=Z (And.intro he (And.intro dC kk));clear he dC kk;refine g8 _ _ A ?_;try simp only[Act.put,List.setIfInBounds_toArray,List.set_cons_zero,List.set_cons_succ]
      refine Hk 9 rfl rfl (fun j px=>by simp;omega) (by kernel_rfl) ?_;have y0:=A.1.c1;have f0:=A.1.free 0;go_wp2
      go_roundg (R-(i+1)+1)
      case measure=>omega
      case rel=>
       generalize c5:World.setCell _ _ _=al;have g4:Row al f 28 [.slice mM (t2+m) mS,(mb,0),.bool false]:=(by rw[<-c5];exact A.1.set 0 _);have L:Ch (aH f) s al:=(by rw[<-c5];exact ay);have na:=a.row.lt;have ne:=a.Ea.lt;have a4:(y++D.1).length=t2+m:=(by rw[List.length_append,bw,g1]);have li:∀g,(Value.slice a2 t2 X).ownBlock=some g->w.heap.size<=g/\g<O.heap.size:=(fun g H=>i5.lt g H);have l0:∀g,(Value.slice a2 t2 X).ownBlock=some g->c7 g=.no:=(fun g H=>(P.same g (li g H).2).trans (hF g H));have lb:c7 f=.no:=(P.same f na).trans a.M6;have nd:c7 J=.no:=(P.same J ne).trans a.MW;have g5:Ch ag w E:=iA a.rl P a.ch;have mW:Ch ag w s:=g5.fresh bv.2.1 (fun b hb e=>by have:=(li b e).1;omega);refine⟨i+1,c7,y++D.1,D.2,_,by omega,rfl,by go_num,Z ⟨g4,?_,fun g H=> ?_,?_,i2,fd.1,fd.2,lb,rm a.out.rl P a.ch.size,mW.fresh L (fun b hb e=>by have e:b=f:=e;have:=a1.2.1;omega),?_,nd,A.2.ch L (fun e=>nx e),((a.res.1.ch P.ch (fun h=>h a.res.2)).ch bv.2.1 (fun e=>aZ cC (a.res.1.ch P.ch (fun h=>h a.res.2)) (by decide) e)).ch L (fun e=>by have e:B+1=f:=e;have:=a1.2.2;omega),(P.same _ a.res.1.lt).trans a.res.2⟩⟩
       ·rw[a4,List.flatMap_append]
        exact ak bv.1 L (fun g H e=>by have e:g=f:=e;subst e;exact aZ bv.1 A.1 (by decide) H)
       ·rcases bv.2.2 g H with h|h
        ·exact l0 g h
        ·cases Y:c7 g with
         |no=>rfl
         |_=>exact absurd (cA.2.2.small g (by rw[Y];simp)) (by omega)
       ·refine(cA.2.2.rl bv.2.1 (fun b hb e=>l0 b e)).rl L (fun b hb e=>by have e:b=f:=e;rw[e];exact lb)
       ·rw[a4]
        have o:=g0.2;rw[bw]at o;omega
     ·have gr:¬(i:Int)<R:=by omega
      have g2:=Z (show i=R by omega);have bi:Hid (y=c0/\K2=K1):=Z (by
       have o:=a.ev;have z:=a.st.1;rw[g2,List.drop_of_length_le (by rw[g3];exact Nat.le_refl _)]at o z;exact⟨by rw[<-o];show y=y++[];rw[List.append_nil],z⟩)
      have i3:Hid (Calls prog 16 #[(mb,0)] O (ds (.int .i64 (K3 K1)) O)):=Z (by rw[<-bi.2];exact Lp a.ms);obtain⟨c6,ll⟩:=nm (K3 K1);rw[ll]at i3 cq;have ih:=Z a5;have l':Hid (c6=0->y=tr/\K2=K):=Z (fun c9=>by
       rcases cq with⟨_,o,z⟩|⟨h,_,_⟩
       ·exact⟨bi.1.trans o.symm,bi.2.trans z.symm⟩
       ·exact absurd c9 h)
      have fn:Hid (c6≠0->Ji C n N (fun K=>mY K.table) (q-(j+1)) (40*((j+1:Nat):Int)) y K2=(tr,K,true)/\fk C n N (q-(j+1)) (40*((j+1:Nat):Int)) K2=true):=Z (fun c9=>by
       rcases cq with⟨h,_⟩|⟨_,_,o⟩
       ·exact absurd h c9
       ·rw[bi.1,bi.2,show(40*((j+1:Nat):Int))=(r:Int)+40 by have:=ih.out;omega]
        exact o)
      have ms:Hid (c6≠0->400<=(r:Int)/\(r:Int)%400=0->mY K2.table=false):=Z (fun c9=>by
       rcases cq with⟨h,_⟩|⟨_,o,_⟩
       ·exact absurd h c9
       ·rw[bi.2]
        exact o)
      have cL:Hid ((r:Int)+40=((40*(j+1):Nat):Int)):=Z (by have:=ih.out;omega);have cS:Hid (y.length<=4*(1+(j+1)*(40*(n+1)))):=Z (by
       have e:1+(j+1)*(40*(n+1))=bx+i:=(by rw[Nat.succ_mul,<-Nat.add_assoc,c8,g2,fr.2]);rw[e];exact a.len)
      have G:Hid ((∀E s:World,Ch ag O E->Ch (aH f) E s->∀{d:Bool},Row s f 28 [Q,(mb,0),.bool d]->s.ownsRow w.heap.size 159 11 Q y.length (y.flatMap Ev.cells))/\(∀E s:World,Ch ag O E->Ch (aH f) E s->MS s T mb C K2)/\(∀E s:World,Ch ag O E->Ch (aH f) E s->Ch ag w s)/\Inv (1+(j+1)*(40*(n+1))) 0 K2):=Z (by
       refine⟨fun E s o z _ _=>ak (ak a.own o (fun _ _ e=>e)) z (fun g H e=>by have e:g=f:=e;subst e;exact aZ a.own a.row (by decide) H),fun E s o z=>(a.ms.af o).rl z (fun b hb e=>by have e:b=f:=e;rw[e];exact a.M6),fun E s o z=>(a.ch.trans o).fresh z (fun b hb e=>by have e:b=f:=e;have:=a1.2.1;omega),?_⟩;have o:=a.inv;rw[<-c8,g2,fr.2]at o;rw[Nat.succ_mul,<-Nat.add_assoc];exact o)
      clear ll cb a5;go_wp2_with fail
      with_reducible refine i3.out.mono ?_
      rintro e E ⟨rfl,gf⟩;have U:=Z (a.row.ch gf id);have F:=Z gf;have a0:=U.k 2 rfl;have f2:=U.free 2;clear gf;cases cd:((c6:Int)==0)with
      |true=>
       have ob:(r:Int)<=59960:=(by omega);go_upto_region 15 with fail
       generalize ap:World.setCell _ _ _=s;have A:Hid (Row s f 28 [Q,(mb,0),.bool true]):=Z (by rw[<-ap];exact U.set 2 _);have I:Hid (Ch (aH f) E s):=Z (by rw[<-ap];exact ay);clear ap a0 f2;have a0:=A.k 2 rfl;have c3:=Z (show c6=0 by simpa using cd);clear cd gr dN gs;go_wp2
       go_roundg (q+1-(j+1))
       case measure=>omega
       case rel=>exact⟨j+1,T,y,K2,Q,true,rfl,by rw[<-cL],Z ⟨by omega,A,G.1 _ _ F I A,a.Ht,G.2.1 _ _ F I,G.2.2.2,Or.inr ⟨rfl,l' c3.out⟩,a.M6,a.rl,G.2.2.1 _ _ F I,cS,(a.res.1.ch F id).ch I (fun e=>by have e:B+1=f:=e;have:=a1.2.2;omega),a.res.2⟩⟩
      |false=>
       have ob:(r:Int)<=59960:=(by omega);go_upto_region 15 with fail
       generalize ap:World.setCell _ _ _=s;have A:Hid (Row s f 28 [Q,(mb,0),.bool false]):=Z (by rw[<-ap];exact U.set 2 _);have I:Hid (Ch (aH f) E s):=Z (by rw[<-ap];exact ay);clear ap a0 f2;have a0:=A.k 2 rfl;have c3:=Z (show c6≠0 by intro e;rw[e]at cd;cases cd);clear cd gr dN gs;obtain⟨y0,eS⟩:=A.c2;by_cases pp:(r:Int)<400
       ·go_wp2_with fail
        go_roundg (q+1-(j+1))
        case measure=>omega
        case rel=>exact⟨j+1,T,y,K2,Q,false,rfl,by rw[<-cL],Z ⟨by omega,A,G.1 _ _ F I A,a.Ht,G.2.1 _ _ F I,G.2.2.2,Or.inl ⟨rfl,fn c3.out⟩,a.M6,a.rl,G.2.2.1 _ _ F I,cS,(a.res.1.ch F id).ch I (fun e=>by have e:B+1=f:=e;have:=a1.2.2;omega),a.res.2⟩⟩
       ·have n2:400<=(r:Int):=by omega
        by_cases g7:(r:Int)%400=0
        ·have mp:=Z (ms c3.out ⟨n2,g7⟩)
         have n8:((r:Int).tmod 400==0)=true:=(by rw[Int.tmod_eq_emod_of_nonneg (by omega),g7];rfl);have mh:Hid (∀W,Ch ag s W->Calls prog 17 #[.agg #[Q,(mb,0),.bool false],(mb,0)] W (ds (.bool false) W)):=Z (fun W c=>tR ((G.2.1 _ _ F I).af c) mp Q _ false);go_wp2_with (go_at_call 17;refine(mh _ ay).mono ?_;rintro e al ⟨rfl,kT⟩;have hB:Hid (Ch ag s al):=Z (Ch.trans ay kT);clear kT)
         have io:=Z (A.ch hB id);have L:Hid (Ch (aH f) E al):=Z (I.trans (hB.mono (fun _ h=>h.elim)));go_roundg (q+1-(j+1))
         case measure=>omega
         case rel=>exact⟨j+1,T,y,K2,Q,false,rfl,by rw[<-cL],Z ⟨by omega,io,G.1 _ _ F L io,a.Ht,G.2.1 _ _ F L,G.2.2.2,Or.inl ⟨rfl,fn c3.out⟩,a.M6,a.rl,G.2.2.1 _ _ F L,cS,(a.res.1.ch F id).ch L (fun e=>by have e:B+1=f:=e;have:=a1.2.2;omega),a.res.2⟩⟩
        ·have n8:((r:Int).tmod 400==0)=false:=by rw[Int.tmod_eq_emod_of_nonneg (by omega)];simpa using g7
         go_wp2
         go_roundg (q+1-(j+1))
         case measure=>omega
         case rel=>exact⟨j+1,T,y,K2,Q,false,rfl,by rw[<-cL],Z ⟨by omega,A,G.1 _ _ F I A,a.Ht,G.2.1 _ _ F I,G.2.2.2,Or.inl ⟨rfl,fn c3.out⟩,a.M6,a.rl,G.2.2.1 _ _ F I,cS,(a.res.1.ch F id).ch I (fun e=>by have e:B+1=f:=e;have:=a1.2.2;omega),a.res.2⟩⟩
variable{w:World}{χ:Nat->a'}
theorem MP{w1 b w4:World}(a:Ch ag w w1)(c:Ch ag w1 b)(e:∀i,χ i≠ .no->w1.heap.size<=i)(d:Ch (fun j=>χ j≠ .no) b w4):Ch ag w w4:=
 (a.trans c).fresh d (fun i g f=>by have:=e i f;have:=a.size;omega)
def Bh:ByteArray:=⟨#[115,101,116,32,114,48,32,49,10,99,97,108,108,32,49,50,10,108,100,32,114,50,32,91,48,93,10,97,100,100,32,114,50,32,114,50,32,49,10,97,100,100,32,114,51,32,114,51,32,49,10,97,100,100,32,114,51,32,114,51,32,49,10,115,116,32,114,50,32,91,48,93,10,115,101,116,32,114,48,32,49,10,99,97,108,108,32,49,53,10]⟩
def Dm:Nat->ByteArray
 |0=>⟨#[115,101,116,32,114,48,32]⟩++jG 0++⟨#[10,99,97,108,108,32,49,48,10]⟩
 |k+1=>Dm k++(⟨#[115,101,116,32,114,48,32,119,111,114,107,10,99,97,108,108,32,49,10,109,111,118,32,114]⟩++jG (10+k)++⟨#[32,114,49,10]⟩)
def Dn:Nat->ByteArray
 |0=>Dm 2
 |k+1=>Dn k++(⟨#[109,111,118,32,114,48,32,114]⟩++jG (10+k)++⟨#[10,99,97,108,108,32,51,10]⟩)
theorem Dh:Dn 2++⟨#[114,101,116,10,119,111,114,107,58,10,115,101,116,32,114,54,32]⟩++jG 1++⟨#[10,119,49,58,10,106,122,32,114,54,32,119,57,10]⟩++Bh++⟨#[115,117,98,32,114,54,32,114,54,32,49,10,106,109,112,32,119,49,10,119,57,58,10,114,101,116,10]⟩=o4:=by kernel_rfl
theorem Bi:(decide ((Dm 0).size<=1000)&&decide ((Dm 1).size<=1000)&&decide ((Dm 2).size<=1000)&&decide ((Dn 0).size<=1000)&&decide ((Dn 1).size<=1000)&&decide ((Dn 2).size<=1000))=true:=by kernel_rfl
theorem uf(w:World):Calls prog 26 #[.int .i64 0,.int .i64 2,.int .i64 1,.string Bh] w (lA o4 w):=by
 have a:Hid (∀(z:Int) (v:Nat),z=v->v<=1000000->∀w,Calls prog 4 #[.int .i64 z] w (lA (jG v) w)):=Z (fun z v e h w=>by subst e;exact Br v h w);have m:=fL 0;have n:=fL 1;have o:=fL 10;have p:=fL 11;have d:=Bi;simp only[Bool.and_eq_true,decide_eq_true_eq]at d;obtain⟨⟨⟨⟨⟨a0,a1⟩,a2⟩,g⟩,j⟩,l⟩:=d;have c:=Z Dh;unfold Bh at c⊢;go_in
 go_wp2_with (go_at_call 4;refine(a _ 0 (by rfl) (by omega) _).mono ?_;rintro e w' ⟨rfl,rfl⟩)
 go_loop [9,10] (fun s i=>∃k:Nat,k<=2/\s=.string (Dm k)/\i=.int .i64 k) (fun _ i=>2-(intOf i).toNat)
 case atStart=>exact⟨0,by omega,rfl,rfl⟩
 case round=>
  obtain⟨k,f,rfl,rfl⟩:=hrel;have b:k=0∨k=1∨k=2:=by omega
  rcases b with rfl|rfl|rfl
  ·go_wp2_with (go_at_call 4;refine(a _ 10 (by rfl) (by omega) _).mono ?_;rintro e w' ⟨rfl,rfl⟩)
   go_round
   case rel=>exact⟨1,by omega,rfl,rfl⟩
   case measure=>simp[intOf]
  ·go_wp2_with (go_at_call 4;refine(a _ 11 (by rfl) (by omega) _).mono ?_;rintro e w' ⟨rfl,rfl⟩)
   go_round
   case rel=>exact⟨2,by omega,rfl,rfl⟩
   case measure=>simp[intOf]
  ·go_wp2_with fail
   go_loop [9,11] (fun s i=>∃k:Nat,k<=2/\s=.string (Dn k)/\i=.int .i64 k) (fun _ i=>2-(intOf i).toNat)
   case atStart=>exact⟨0,by omega,rfl,rfl⟩
   case round=>
    obtain⟨k,f,rfl,rfl⟩:=hrel;have b:k=0∨k=1∨k=2:=(by omega);rcases b with rfl|rfl|rfl
    ·go_wp2_with (go_at_call 4;refine(a _ 10 (by rfl) (by omega) _).mono ?_;rintro e w' ⟨rfl,rfl⟩)
     go_round
     case rel=>exact⟨1,by omega,rfl,rfl⟩
     case measure=>simp[intOf]
    ·go_wp2_with (go_at_call 4;refine(a _ 11 (by rfl) (by omega) _).mono ?_;rintro e w' ⟨rfl,rfl⟩)
     go_round
     case rel=>exact⟨2,by omega,rfl,rfl⟩
     case measure=>simp[intOf]
    ·go_wp2_with (go_at_call 4;refine(a _ 1 (by rfl) (by omega) _).mono ?_;rintro e w' ⟨rfl,rfl⟩)
     go_ret;exact lA.mk c.symm
variable{C:KC}{K:KS}
theorem Dk{L:cU}{Y:Var}(a v:Int)(k:aK a)(m:K.mem.acc 0 a 0 0=(some v,K.mem))(h:ae w χ L Y C K):
 Calls prog 23 #[(L.mb,0),.int .u64 a] w (fun e w'=>e=.returned (.tuple #[.int .u64 v,.bool true])/\ae w' χ L Y C K/\Ch (fun j=>χ j≠ .no) w w'):=by
 have c:=h.cO;have g:Hid (Calls prog 34 #[(L.m,0),.int .u64 a] w (fun e w'=>e=.returned (.tuple #[.int .u64 v,.nilIface])/\dD χ L Y C K K w χ Y w')):=Z ((ji L.m L.c L.d K.mem a k w (h.mem (by simp)).is).mono fun e w' ⟨b,f,i⟩=>by
  rw[m]at b f;exact⟨b,h.mH f i fun _ l=>ff l⟩)
 go_in
 go_wp2_with (refine g.mono ?_;rintro e w1 ⟨rfl,b⟩;have d:=Z b)
 go_quiet (fail)
 go_wp2
 go_ret2;exact⟨rfl,(d.at_).af ay,(d.af ay).nx.ch⟩
def E7(C:KC)(K:KS)(v:Int)(χ:Nat->a')(mb:Nat)(w:World)(e:Ending)(w':World):Prop:=e=.returned (.int .u64 v)/\MS w' χ mb C K/\Ch (fun j=>χ j≠ .no) w w'
theorem bZ{mb:Nat}(h:MS w χ mb C K)(a:Option Addr)(n c:Nat)(d:Bool)(i:Int)(M:0<=i/\i<=1000)(v:Int)(p:K.mem.acc 0 (IntKind.u64.wrap (wrap64 (gT K+i))) 0 0=(some v,K.mem)):
 Calls prog 8 #[.agg #[.slice a n c,(mb,0),.bool d],i] w (E7 C K v χ mb w):=by
 obtain⟨L,Y,rfl,f,F⟩:=h;obtain⟨A,b⟩:=nm (IntKind.u64.wrap (wrap64 (gT K+i)));have y:aK A:=by rw[<-b];exact bO _
 have k:Hid (∀W,Ch ag w W->Calls prog 24 #[(L.mb,0)] W (ez (.int .i64 (gT K)) W)):=Z (fun W c=>lT (f.af c));rw[b]at p;have s:Hid (∀W,Ch ag w W->Calls prog 23 #[(L.mb,0),.int .u64 A] W (fun e w'=>e=.returned (.tuple #[.int .u64 v,.bool true])/\ae w' χ L Y C K/\Ch (fun j=>χ j≠ .no) W w')):=Z (fun W c=>Dk A v y p (f.af c));have u:=Z F;obtain⟨B,z⟩:=nm w.heap.size;obtain⟨bv,m⟩:=nm (gT K);rw[m]at k b;have J:0<=bv/\bv<=1000:=by
  have:=(f.wk (by simp)).n;rw[<-m];unfold gT;omega
 have hA1:IntKind.i64.wrap (bv+i)=wrap64 (bv+i):=IntWalk.i64_left _;have I:=Z b;have x:Hid (χ B=.no):=Z (by
  cases D:χ B with
  |no=>rfl
  |_=>exact absurd (f.small B (by rw[D];simp)) (by omega))
 go_in
 go_upto_region 1 with fail
 generalize q:World.alloc _ _=w1;have g:Hid (Ch ag w w1):=Z (Ch.al q);have l:Hid (Row w1 B 28 [.slice a n c,(L.mb,0),.bool d]):=Z (by rw[<-z];exact Row.al q);have H:=l.k 1 rfl;go_region_held3 (fun w'=>w'.cell? (B,1)=some (.pointer (some (L.mb,0)))) (go_keep) (first
  |(go_at_call 24;refine(k _ (g.trans ay)).mono ?_;rintro e w4 ⟨rfl,rfl⟩)
  |(go_at_call 23;refine(s _ (g.trans ay)).mono ?_;rintro e G ⟨rfl,E,o⟩;have t:=Z E;have r:Hid (Ch (fun j=>χ j≠ .no) w G):=Z (((g.trans ay).af).trans o);have H:=(l.ch (((ay:Ch ag w1 _).af).trans o) (fun e=>e x)).cell (i:=1) rfl))
 all_goals
  go_wp2
  go_ret;exact⟨rfl,⟨L,Y,rfl,t,u⟩,r⟩
variable{p:List be}
theorem xp{S:aI}{a v:Int}(h:(S.acc 0 a 0 0).1=some v):S.acc 0 a 0 0=(some v,S):=by
 refine Prod.ext h ?_;unfold aI.acc;split
 ·rfl
 ·rfl
theorem xq{K:KS}{n:Nat}(h:K.wk.length=n)(a:n<=4){i:Nat}(b:i<100):IntKind.u64.wrap (wrap64 (gT K+(i:Int)))=((17+8*n+i:Nat):Int):=by
 have e:gT K+(i:Int)=((17+8*n+i:Nat):Int):=by unfold gT;rw[h];omega
 rw[e,(cF (x:=((17+8*n+i:Nat):Int)) (by omega)).2,(cF (by omega)).1]
theorem E8{l:List be}(h:l.all (fun x=>decide (0<=x.v/\x.v<18446744073709551616))=true):∀x∈l,aK x.v:=fun x a=>of_decide_eq_true (p:=0<=x.v/\x.v<18446744073709551616) (List.all_eq_true.1 h x a)
theorem Bt(h:jH p=true):ow (mC p):=by
 unfold jH at h;simp only[Bool.and_eq_true]at h;exact wO Bs h.1.1 (by decide) (E8 E6) (E8 h.1.2)
theorem xD(p:List be)(n:Nat)(a:1<=n)(b:n<=4):Inv 1 0 (hY (mC p) n 600):=
 tB (mC p) n 600 a (by omega) (by omega) (by show 17+8*n+(3:Int).toNat+(1:Int).toNat<=600;have:(3:Int).toNat=3:=rfl;have:(1:Int).toNat=1:=rfl;omega)
theorem yJ:jH e4=true:=by kernel_rfl
theorem yK(k:Nat)(a:k<3):jH (ca k)=true:=by
 have h:(jH (ca 0)&&jH (ca 1)&&jH (ca 2))=true:=by kernel_rfl
 simp only[Bool.and_eq_true]at h;have a:k=0∨k=1∨k=2:=by omega
 rcases a with rfl|rfl|rfl
 ·exact h.1.1
 ·exact h.1.2
 ·exact h.2
theorem E9:∃l,iV o4=some (e4,l):=by
 have a:(iV o4).isSome=true:=by kernel_rfl
 unfold e4;cases b:iV o4 with
 |none=>rw[b]at a;cases a
 |some x=>exact⟨x.2,rfl⟩
theorem E':∃tr K,Ji (mC e4) 2 5 (fun K=>mY K.table) 10 0 [] awakeK=(tr,K,true)/\K.wk.length=2/\(K.mem.acc 0 33 0 0).1=some 2:=by
 have h:=Dg;obtain⟨p,c⟩:=nm (Ji (mC e4) 2 5 (fun K=>mY K.table) 10 0 [] awakeK);rw[c]at h⊢;obtain⟨tr,K,d⟩:=p;dsimp only at h;simp only[Bool.and_eq_true,decide_eq_true_eq,beq_iff_eq]at h;obtain⟨⟨rfl,a⟩,b⟩:=h;exact⟨tr,K,rfl,a,b⟩
theorem tL(h:jH p=true):eQ p 0 3 1=true:=by
 unfold jH at h;simp only[Bool.and_eq_true]at h;exact h.1.1
theorem rA(X:fK A B D E F L)(m:Int)(w:World)(q:w.cell? (1,0)=some (.int .i64 m))
 (o:w.cell? (0,0)=some (.iface 346 (.agg #[(4,80)]))):
 Calls prog 10 #[] w (ds (.bool true) w):=by
 obtain⟨tr,K,J,T,M⟩:=E';obtain⟨Y,U⟩:=E9;have x:=Z (p' X);have l:=Z uf;have y:Hid (∀W,Ch ag w W->Calls prog 6 #[.agg #[.string (A++B++D++E++F),.int .i64 18],.int .i64 1,.int .u64 5,.string o4] W (Ly (mC e4) tr K true W)):=Z (fun W c=>by
  refine nu (mC e4) 2 (by decide) (A++B++D++E++F) 18 1 5 ⟨by decide,by decide⟩ (by decide) o4 e4 W (Z (Ko o4 e4 Y U)) (Z (fun C a0 B n f=> ?_)) (Bt yJ) (xD e4 2 (by decide) (by decide)) 10 (by decide) tr K J Bf;exact nt X 2 600 (by decide) (by decide) e4 (tL yJ) m C (((c.trans n).cell (aQ q) id).trans q) (((c.trans n).cell (aQ o) id).trans o) a0 f)
 have t:Hid (K.mem.acc 0 (IntKind.u64.wrap (wrap64 (gT K+0))) 0 0=(some 2,K.mem)):=Z (by
  have h:=xq T (by decide) (i:=0) (by decide);have h:IntKind.u64.wrap (wrap64 (gT K+0))=33:=h;rw[h];exact xp M)
 unfold Bh at l;go_in
 go_wp2_with fail
 with_reducible refine(x.out _).mono ?_
 rintro e w1 ⟨rfl,O⟩;have j:=Z O;go_wp2_with fail
 with_reducible refine(l.out _).mono ?_
 rintro e a1 ⟨rfl,rfl⟩;go_wp2_with fail
 with_reducible refine(y.out _ j.out).mono ?_
 rintro e w2 ⟨v,mb,χ,N,rfl,f,V,-,-,S,P⟩;obtain⟨a,c,rfl⟩:=au f;have b:=Z (And.intro V (And.intro S P));obtain⟨d,I⟩:=nm tr.length;rw[I];obtain⟨H,R⟩:=nm w2.heap.size;go_upto_region 2 with fail
 generalize r:World.alloc _ _=g;have k:Hid (Ch ag w2 g):=Z (Ch.al r);have z:Hid (Row g H 28 [.slice a d c,(mb,0),.bool true]):=Z (by rw[<-R];exact Row.al r);have u:Hid (∀W,Ch ag g W->Calls prog 8 #[.agg #[.slice a d c,(mb,0),.bool true],.int .i64 0] W (E7 (mC e4) K 2 χ mb W)):=Z (fun W G=>
  bZ (b.1.af (k.trans G)) a d c true 0 (by decide) 2 t)
 obtain⟨y0,a2,a3⟩:=z.c3;go_wp2_with fail
 with_reducible refine(u.out _ ay).mono ?_
 rintro e w4 ⟨rfl,-,Q⟩;have s:Hid (Ch ag w w4):=Z (MP j (b.2.2.trans k) b.2.1 Q);go_wp2
 go_ret;exact ds.mk rfl s
set_option maxHeartbeats 16000000 in
theorem ve(X:fK A B D E F L)(wk j kind:Int)(et:aK j)(m:Int)(w:World)(f:w.cell? (1,0)=some (.int .i64 m))
 (u:w.cell? (0,0)=some (.iface 346 (.agg #[(4,80)]))):
 Calls prog 3 #[.int .i64 wk,.int .u64 j,.int .i64 kind] w (ds (.bool true) w):=by
 obtain⟨k,cQ⟩:=Int.eq_ofNat_of_zero_le (dR kind 3 (by decide)).1;have x:k<3:=by have:=(dR kind 3 (by decide)).2;omega
 obtain⟨q,es⟩:=Int.eq_ofNat_of_zero_le (dR wk 4 (by decide)).1;have fz:q<4:=by have:=(dR wk 4 (by decide)).2;omega
 obtain⟨n,fr⟩:=nm (1+q);obtain⟨ch,tr,K,ce,cS,cL,ci⟩:=Df k n x (by omega) (by omega) j;obtain⟨eA,cW⟩:=E5 k x;have Q:=Z (o0 kind 3 (by decide));rw[cQ]at Q;have c3:Hid (∀w,Calls prog 4 #[.int .i64 k] w (lA (jG k) w)):=Z (Br k (by omega));have c2:=Z (p' X);have P:Hid (∀W,Ch ag w W->Calls prog 6 #[.agg #[.string (A++B++D++E++F),.int .i64 18],.int .i64 wk,.int .u64 j,.string (ly k)] W (Ly (mC (ca k)) tr K true W)):=Z (fun W c=>by
  refine nu (mC (ca k)) n ⟨by omega,by omega⟩ (A++B++D++E++F) 18 wk j et (by rw[es];omega) (ly k) (ca k) W (Z (Ko (ly k) (ca k) eA cW)) (Z (fun cb eC B V H=> ?_)) (Bt (yK k x)) (xD (ca k) n (by omega) (by omega)) 1400 (by decide) tr K ce ch;exact nt X n 600 ⟨by omega,by omega⟩ ⟨by omega,by omega⟩ (ca k) (tL (yK k x)) m cb (((c.trans V).cell (aQ f) id).trans f) (((c.trans V).cell (aQ u) id).trans u) eC H)
 have av:Hid (∀W,Ch ag w W->Calls prog 10 #[] W (ds (.bool true) W)):=Z (fun W c=>rA X m W ((c.cell (aQ f) id).trans f) ((c.cell (aQ u) id).trans u));have o:Hid (∀i:Nat,i<4->K.mem.acc 0 (IntKind.u64.wrap (wrap64 (gT K+(i:Int)))) 0 0=(some ([16,0,22,0].getD i 0),K.mem)):=Z (fun i G=>by
  rw[xq cS (by omega) (by omega)];exact xp (ci i G))
 have c0:=Z cL;have fn:=fL k;unfold ly ET Bq at P;go_in
 go_wp2_with fail
 with_reducible refine(Q.out _).mono ?_
 rintro e w1 ⟨rfl,rfl⟩;go_wp2_with fail
 with_reducible refine(c3.out _).mono ?_
 rintro e w1 ⟨rfl,rfl⟩;go_wp2_with fail
 with_reducible refine(c2.out _).mono ?_
 rintro e w1 ⟨rfl,cl⟩;have C:=Z cl;go_wp2_with fail
 with_reducible refine(P.out _ C.out).mono ?_
 rintro e w2 ⟨v,mb,χ,N,rfl,H,en,-,-,cC,cm⟩;obtain⟨a,c,rfl⟩:=au H;have r:=Z (And.intro en (And.intro cC cm));obtain⟨g,cd⟩:=nm tr.length;rw[cd];obtain⟨t,cA⟩:=nm w2.heap.size;go_upto_region 3 with fail
 generalize a5:World.alloc _ _=I;have O:Hid (Ch ag w2 I):=Z (Ch.al a5);have R:Hid (Row I t 28 [.slice a g c,(mb,0),.bool true]):=Z (by rw[<-cA];exact Row.al a5);have a9:Hid (Ch ag w I):=Z ((C.trans r.2.2).trans O);have c4:=Z (r.1.af O);have l:Hid (∀i,χ i≠ .no->w.heap.size<=i):=Z (fun i G=>Nat.le_trans C.size (r.2.1 i G));have s:Hid (χ t=.no):=Z (by
  cases ex:χ t with
  |no=>rfl
  |_=>exact absurd (r.1.small t (by rw[ex];simp)) (by omega))
 obtain⟨y0,y,z⟩:=R.c3;have bi:=Z (bZ c4 a g c true 0 (by decide) 16 (o 0 (by decide)));go_wp2_with fail
 with_reducible refine bi.out.mono ?_
 rintro e w4 ⟨rfl,dr,a0⟩;have c5:=Z dr;have S:=Z (R.ch a0 (fun h=>h s));have ab:Hid (Ch ag w w4):=Z (a9.fresh a0 (fun b hb d=>by have:=l b d;omega));obtain⟨y0,y,z⟩:=S.c3;have bv:=Z (bZ c5 a g c true 1 (by decide) 0 (o 1 (by decide)));go_wp2_with fail
 with_reducible refine bv.out.mono ?_
 rintro e eL ⟨rfl,dC,a1⟩;have c6:=Z dC;have T:=Z (S.ch a1 (fun h=>h s));have ad:Hid (Ch ag w eL):=Z (ab.fresh a1 (fun b hb d=>by have:=l b d;omega));obtain⟨y0,y,z⟩:=T.c3;have bw:=Z (bZ c6 a g c true 2 (by decide) 22 (o 2 (by decide)));go_wp2_with fail
 with_reducible refine bw.out.mono ?_
 rintro e eS ⟨rfl,dN,a2⟩;have c7:=Z dN;have U:=Z (T.ch a2 (fun h=>h s));have al:Hid (Ch ag w eS):=Z (ad.fresh a2 (fun b hb d=>by have:=l b d;omega));obtain⟨y0,y,z⟩:=U.c3;have bx:=Z (bZ c7 a g c true 3 (by decide) 0 (o 3 (by decide)));go_wp2_with fail
 with_reducible refine bx.out.mono ?_
 rintro e J ⟨rfl,ej,a3⟩;have c8:=Z ej;have c9:=Z (U.ch a3 (fun h=>h s));have am:Hid (Ch ag w J):=Z (al.fresh a3 (fun b hb d=>by have:=l b d;omega));obtain⟨y0,y,z⟩:=c9.c3;have c1:Hid (Calls prog 9 #[(mb,0)] J (wP ((gH K.cT).map Prod.fst) J)):=Z (by
  obtain⟨L,Y,rfl,f,-⟩:=c8.out;exact o3 f)
 go_wp2_with fail
 with_reducible refine c1.out.mono ?_
 rintro e eV ⟨⟨g0,rfl,a4⟩,cq⟩;rw[List.length_map,c0]at a4;obtain⟨fb,fd,rfl⟩:=au a4;have M:Hid (Ch ag w eV):=Z (am.trans cq);go_wp2_with fail
 with_reducible refine(av.out _ M.out).mono ?_
 rintro e eW ⟨rfl,cs⟩;have ap:Hid (Ch ag w eW):=Z (M.trans cs);go_wp2
 go_ret;exact ds.mk rfl ap
