/- KernTicks: the time is how many ticks there were; each tells it; picks of workers that there are not, and other entries, tell nothing: the law returns true, for every config, plan and script. No condition. -/
import Derived.Test.YtfnilkpkogipfaaGreatDoorZBz
set_option linter.all false
set_option maxRecDepth 100000
set_option maxHeartbeats 8000000
namespace Go.Proofs.YtfnilkpkogipfaaGreatDoor
open Go.RowKit Go.Proofs.Tryz
section
section
variable{P:Program}{zmd:Region.Mode}{ops:Array Oper}{Q:Exit->Act->World->Prop}{S:World->Prop}{h:Nat->Bool}
def aaQ(P:Program)(ops:Array Oper)(S:World->Prop)(h:Nat->Bool):List Nat->(Act->Prop)->Act->Prop
 |[],K,a=>K a
 |i::L,K,a=>∃b r v,ops.toList.drop i=b::r/\YieldsIf P ops (if h i=true then S else fun _=>True) b v a/\aaQ P ops S h L K (a.put b.dst v)
def aaR(zmd:Region.Mode)(ops:Array Oper)(h:Nat->Bool):List Nat->Array Bool->Bool
 |[],_=>true
 |i::L,l=>Region.free zmd ops l i&&(Region.ready zmd ops l).contains i&&(!h i||aaL zmd ops h l i)&&aaR zmd ops h L (l.setIfInBounds i true)
theorem aaT{i:Nat}{L:List Nat}{K:Act->Prop}{a:Act}{b:Oper}{r:List Oper}{v:Value}(c:ops.toList.drop i=b::r)(d:YieldsIf P ops (if h i=true then S else fun _=>True) b v a)(H:aaQ P ops S h L K (a.put b.dst v)):aaQ P ops S h (i::L) K a:=⟨_,_,_,c,d,H⟩
theorem takeN{K:Act->Prop}{a:Act}(H:K a):aaQ P ops S h [] K a:=H
theorem aaS(n:Region.noSelect ops=true)(g:∀c a p v w,Q (.panic c) (Act.put a p v) w->Q (.panic c) a w){w:World}(k:S w)(f:Nat):∀(L:List Nat) (listed:Array Bool) (a:Act),aaR zmd ops h L listed=true->
 aaQ P ops S h L (fun o=>aaA P zmd ops Q S h f (L.foldl (fun l i=>l.setIfInBounds i true) listed) o w) a->aaA P zmd ops Q S h (f+L.length) listed a w
 |[],_,_,_,H=>H
 |i::L,listed,a,b,H=>by
  obtain⟨C,r,v,t,B,H⟩:=H;simp only[aaR,Bool.and_eq_true,Bool.or_eq_true]at b;have m:=aaF t;refine @aaC P zmd ops Q S h (if h i=true then S else fun _=>True) i C v m (Region.noSelect_spec n) (fun c a w=>g c a _ _ w) (fun w z e=>by rwa [if_pos e]at z) (f+L.length) listed a w ?_ (Region.free_spec m b.1.1.1) (by simpa using b.1.1.2) B (by split;exact k;trivial) (aaS n g k f L _ _ b.2 H);intro j D s y u w' A;split
  ·rename_i e
   rcases b.1.2 with d|d
   ·rw[e]at d;cases d
   ·exact(aaI d j D s y).elim A (fun⟨e,q,hb,x⟩=>absurd x (u e q hb))
  ·trivial
end
end
structure hr(w1:World)(C:KC)(nw:Int)(mb:Nat)(χ:Nat->a4)(K:KS)(i:Nat)(wr:World):Prop where
 ms:MS wr χ mb C K
 inv:Inv (i+1) 0 K
 yo:K.entries=i
 Ep:0<=K.clock.now
 Er:K.clock.now<=i
 out:K.out=[]
 wl:(K.wk.length:Int)=nw
 zS:∀j,χ j≠ .no->w1.heap.size<=j
 ch:Ch ag w1 wr
theorem hr.af{w1:World}{C:KC}{nw:Int}{mb:Nat}{χ:Nat->a4}{K:KS}{i:Nat}{wr a:World}(h:hr w1 C nw mb χ K i wr)(c:Ch ag wr a):hr w1 C nw mb χ K i a:=
 ⟨h.ms.af c,h.inv,h.yo,h.Ep,h.Er,h.out,h.wl,h.zS,h.ch.trans c⟩
theorem xG(P:fc)(cf:iy P)(p:Value)(wk d:Int)(l:List lT)(v:Value)(w:World)(cm:fF w w.heap.size p P)(gk:iA w w.heap.size v 3 j7 l)(fr:∀x∈l,aH x.draw)
 (J:w.cell? (0,0)=some (.iface 335 (.agg #[(1,40)]))):
 Calls prog 4 #[.agg #[wk,d],p,v] w (zz w):=by
 obtain⟨le,loop,calls,cb,eS⟩:=sD;obtain⟨C,c9⟩:=nm (oz le loop calls P);obtain⟨ok,cl⟩:=nm (iz P wk d);have c4:Hid (∀b,Ch ag w b->Calls prog 15 #[.agg #[wk,d],p] b (Aa C ok (ct wk d).1.toNat (ct wk d).2.toNat b)):=Z (fun b c=>by
  rw[<-c9,<-cl];exact sM cb eS P cf p wk d b ((cm.below c.gU).mono c.size) ((c.cell (aE J) (fun e=>e)).trans J))
 have cA:Hid (∀b,Ch ag w b->Calls prog 13 #[] b (dt (.bool true) b)):=Z (fun b c=>pB b ((c.cell (aE J) (fun e=>e)).trans J));have cQ:Hid (ok=true->oC C/\Inv 1 0 (hC C (ct wk d).1.toNat (ct wk d).2.toNat)):=Z (fun h=>by
  rw[<-cl]at h;rw[<-c9];exact⟨sJ cb cf h,sK h⟩)
 have c0:=Z (fun w=>ou wk d w);have cC:=Z (kU wk d);have cW:=Z gk;have hB:=Z fr;obtain⟨l',md,rfl,l0,-⟩:=gk;obtain⟨N,cd⟩:=nm l.length;rw[cd]at cW l0⊢;have i0:=Z cd;obtain⟨nw,hb⟩:=nm ((ct wk d).1);obtain⟨tt,hf⟩:=nm ((ct wk d).2);rw[hb,hf]at c0 cC c4 cQ;have lb:=cm;obtain⟨a0,i9,nq,nx,nC,rfl,o,q,V⟩:=lb;obtain⟨a1,ih,rfl,-,-⟩:=o;obtain⟨a2,ii,rfl,-,-⟩:=q;obtain⟨a3,io,rfl,-,-⟩:=V;obtain⟨i5,ex⟩:=nm P.cV;obtain⟨i6,eA⟩:=nm P.first.length;obtain⟨i7,eC⟩:=nm P.others.length;obtain⟨i8,eL⟩:=nm P.once.length;obtain⟨lo,he⟩:=nm P.kV;rw[ex,eA,eC,eL,he]at c4⊢;clear cm J cb eS c9 cl fr cd hb hf ex eA eC eL he cf;obtain⟨H,ch⟩:=nm w.heap.size;have lv:=Z ch;go_enter func4,ntmps4
 go_wp2_with fail
 obtain⟨w1,ap⟩:=nm ((w.alloc (.cells #[wk,d] 23)).alloc (.cells #[.slice a0 i5 i9,.slice a1 i6 ih,.slice a2 i7 ii,.slice a3 i8 io,.bool lo] 28));have T:Hid (Ch ag w w1):=Z (by rw[<-ap];exact((Ch.refl _ _).alloc _).alloc _);have hw:Hid (Row w1 H 23 [wk,d]):=Z (by rw[<-ap,<-ch];exact(Row.new w _ _).alloc _);rw[ap];clear ap ch;with_reducible refine(c4.out _ T.out).mono ?_
 intro e w2 ad;cases ok with
 |false=>
  obtain⟨rfl,B⟩:e=.returned (.pointer none)/\Ch ag w1 w2:=by
   rcases ad with⟨_,o,q⟩|⟨h,_⟩
   ·exact⟨o,q⟩
   ·cases h
  have cs:=Z (T.trans B);clear ad B;go_wp2_with fail
  with_reducible refine(cA.out _ cs.out).mono ?_
  rintro e av ⟨rfl,fb⟩;have hu:=Z (cs.trans fb);clear fb;go_wp2_with fail
  go_ret;exact⟨rfl,hu⟩
 |true=>
  obtain⟨mb,hn,rfl,gt,fz,B⟩:∃mb χ,e=.returned (.pointer (some ⟨mb,0,none⟩))/\MS w2 χ mb C (hC C nw.toNat tt.toNat)/\(∀i,χ i≠ .no->w1.heap.size<=i)/\Ch ag w1 w2:=by
   rcases ad with⟨h,_⟩|⟨_,h⟩
   ·cases h
   ·exact h
  obtain⟨es,et⟩:=cQ rfl;have cL:=Z es;have i1:Hid (hr w1 C nw mb hn (hC C nw.toNat tt.toNat) 0 w2):=Z (by
   obtain⟨li,hm,ll,lm⟩:=tU C nw.toNat tt.toNat;have:=cC.1;exact⟨gt,et,li,by rw[hm];decide,by rw[hm];decide,lm,by rw[ll];omega,fz,B⟩)
  have i4:Hid ((hC C nw.toNat tt.toNat).clock.now=0):=Z (tU C nw.toNat tt.toNat).2.1;clear ad gt fz B es et;go_upto_block 0 with fail
  go_cut [8,9] (fun n k wc=>∃(i:Nat) (K:KS) (χ:Nat->a4),i<=300/\n=.int .u64 K.clock.now/\k=.int .i64 i/\hr w1 C nw mb χ K i wc)
  case first=>
   go_wp2_with fail
   go_loopw [8,9,10] (fun n k j wr=>∃(i:Nat) (K:KS) (χ:Nat->a4),i<=300/\i<=N/\n=.int .u64 K.clock.now/\k=.int .i64 i/\j=.int .i64 i/\hr w1 C nw mb χ K i wr) (fun _ _ j _=>300-(intOf j).toNat)
   case atStart=>exact⟨0,_,hn,by omega,by omega,by rw[i4],rfl,rfl,i1⟩
   case round=>
    obtain⟨i,K,χ,gc,mA,rfl,rfl,rfl,r⟩:=hrel;have a:=Z r;clear r;by_cases go:i<N/\i<300
    ·obtain⟨mL,mS⟩:=go
     have ge:i<l.length:=by have:=i0.out;omega
     obtain⟨x,hi⟩:=nm (l[i]);have cq:l[i]?=some x:=by rw[List.getElem?_eq_getElem ge,hi]
     have ci:=hB x (List.mem_of_getElem? cq);have hF:Hid (∀b,MS b χ mb C K->Calls prog 18 #[.pointer (some ⟨mb,0,none⟩),.agg #[.int .i64 x.kind,.int .i64 x.wk,.int .u64 x.draw]] b (Fo (gM C K x.kind x.wk x.draw) χ mb C b)):=Z (fun b l1=>vr cL a.inv (by omega) x.kind x.wk x.draw ci l1);have c3:Hid (Inv (i+1+1) 0 (gM C K x.kind x.wk x.draw).2):=Z (nU cL a.inv (by omega) x.kind x.wk x.draw ci);obtain⟨lw,mc,it,kf,eW⟩:=cW.out;obtain⟨g,F,rfl,ab,X⟩:=eW i x cq;injection it with jp k0 k4
     subst jp;have y:=Z (T.trans a.ch);have y0:wr.cell? ⟨g,F+i*3,none⟩=some (.int .i64 x.kind):=(y.cell (p:=⟨g,F+i*3,none⟩) ab (fun e=>e)).trans (X 0 _ rfl);have ls:wr.cell? ⟨g,F+i*3+1,none⟩=some (.int .i64 x.wk):=(y.cell (p:=⟨g,F+i*3+1,none⟩) ab (fun e=>e)).trans (X 1 _ rfl);have lt:wr.cell? ⟨g,F+i*3+2,none⟩=some (.int .u64 x.draw):=(y.cell (p:=⟨g,F+i*3+2,none⟩) ab (fun e=>e)).trans (X 2 _ rfl);have ms:(i:Int)<N:=by omega
     clear ge hi cq ci kf eW ab X k0 k4;obtain⟨s,hl⟩:=nm wr.heap.size;go_wp2_with fail
     obtain⟨av,u⟩:=nm (wr.alloc (.cells #[.int .i64 x.kind,.int .i64 x.wk,.int .u64 x.draw] 58));have bv:=Z (Ch.al (D:=ag) u);have i2:Hid (Row av s 58 [.int .i64 x.kind,.int .i64 x.wk,.int .u64 x.draw]):=Z (by rw[<-u,<-hl];exact Row.new _ _ _);have i3:Hid (χ s=.no):=Z (by
      cases kT:χ s with
      |no=>rfl
      |_=>exact absurd (a.ms.small s (by rw[kT];simp)) (by omega))
     rw[u];clear u y0 ls lt hl;with_reducible refine(hF.out av (a.out.ms.af bv.out)).mono ?_
     rintro e w4 ⟨ob,t,rfl,m,kw,gr,al⟩;have c5:=Z gr;have cS:Hid (∀j,t j≠ .no->w1.heap.size<=j):=Z (mO a.out.zS al (Nat.le_trans a.ch.size bv.size));have bw:Hid (Ch ag w1 w4):=Z (jl a.zS al (a.ch.trans bv));have dr:=Z (i2.ch al.ch (fun e=>e i3));have G:=Z (hw.ch bw (fun e=>e));obtain⟨t0,t1⟩:=dr.c2;obtain⟨R,S⟩:=G.c2;have mW:=a.Ep;have n0:=a.Er;clear gr al kw;by_cases E:x.kind=2
     ·rw[E]at c5 c3 m t0
      obtain⟨k1,k2,k3,O,Q⟩:=uP C K x.wk x.draw a.out.out;have wn:IntKind.u64.wrap (K.clock.now+1)=K.clock.now+1:=IntWalk.u64_in _ (by omega);rw[wn]at k1 k3;rw[k1]at m;obtain⟨mk,ip,n8,rfl,_,fn,_,am,_⟩:=aS m (by simp);have nd:=am.c1;have ne:=am.k 2 rfl;have ni:=am.k 9 rfl;have mn:1<=ip:=fn;have A:Hid (hr w1 C nw mb t (gM C K 2 x.wk x.draw).2 (i+1) w4):=Z ⟨c5,c3,by rw[k2,a.yo];(have h:=IntWalk.wrap64_in ((i:Int)+1) (by omega);rw[h];omega),by rw[k3];omega,by rw[k3];omega,O,by rw[Q];exact a.wl,cS,bw⟩;have z:=Z k3;clear m am fn k1 k2 k3 O Q E;go_wp2_with fail
      go_roundw
      case rel=>exact⟨i+1,_,t,by omega,by omega,by rw[z],by go_num,by go_num,A⟩
      case measure=>simp[intOf];omega
     ·obtain⟨k1,k2,k3,O,Q⟩:=BS C K x.kind x.wk x.draw a.out.out E
      have gf:(x.kind==2)=false:=by rw[beq_eq_false_iff_ne];exact E
      have A:Hid (hr w1 C nw mb t (gM C K x.kind x.wk x.draw).2 (i+1) w4):=Z ⟨c5,c3,by rw[k2,a.yo];(have h:=IntWalk.wrap64_in ((i:Int)+1) (by omega);rw[h];omega),by rw[k3];omega,by rw[k3];omega,O,by rw[Q];exact a.wl,cS,bw⟩;have z:=Z k3;have c2:=Z (AW C K x.kind x.wk x.draw a.out.out E);clear k1 k2 k3 O Q E;have n1:=a.wl;by_cases o:x.kind=1
      ·rw[o]at t0
       by_cases c8:x.wk<0
       ·rw[c2 (by omega)]at m
        obtain⟨ec,en,rfl⟩:=aA m;clear m o gf;go_upto_region 16 with fail
        go_quiet (fail)
        go_wp2_with fail
        go_roundw
        case rel=>exact⟨i+1,_,t,by omega,by omega,by rw[z],by go_num,by go_num,A.af ((Ch.refl _ _).drewN _)⟩
        case measure=>simp[intOf];omega
       ·obtain⟨dN,ce⟩:=nm ((gM C K x.kind x.wk x.draw).1.length)
        rw[ce]at m;have W:dN=0∨x.wk<nw:=by
         by_cases q:x.wk<nw
         ·exact Or.inr q
         ·refine Or.inl ?_
          rw[<-ce,c2 (by omega)];rfl
        obtain⟨ec,en,rfl⟩:=aA m;have mp:∀b:World,(Instr.field 43 (.agg #[nw,tt]) 0).run prog b=.ok (.int .i64 nw) b:=fun b=>by kernel_rfl
        have U:Hid (Row w4 s 58 [.int .i64 1,.int .i64 x.wk,.int .u64 x.draw]):=Z (by have h:=dr.out;rw[o]at h;exact h);clear m o gf ce;go_upto_region 16 with fail
        have n2:decide (x.wk<0)=false:=decide_eq_false (by omega);by_cases q:nw<=x.wk
        ·have kb:dN=0:=by omega
         have lc:decide (nw<=x.wk)=true:=decide_eq_true q;subst kb;clear W;go_region_held3 (fun w'=>w'.cell? (s,0)=some (.int .i64 1)/\w'.cell? (s,1)=some (.int .i64 x.wk)/\w'.cell? (H,0)=some (.int .i64 wk)/\w'.cell? (H,1)=some (.int .i64 d)) (go_keep) ((go_at_call 12;refine(c0.out _).mono ?_;rintro e bi ⟨rfl,I⟩;have f:Ch ag w4 bi:=Ch.trans (by repeat(first|exact Ch.refl _ _|with_reducible refine Ch.drew ?_|with_reducible refine Ch.drewN ?_ _)) I;have c1:=Z f;have t0:=(U.out.ch f (fun h=>h)).cell (i:=0) rfl;have t1:=(U.out.ch f (fun h=>h)).cell (i:=1) rfl;have R:=(G.out.ch f (fun h=>h)).cell (i:=0) rfl;have S:=(G.out.ch f (fun h=>h)).cell (i:=1) rfl;clear I f))
         all_goals
          go_wp2_with fail
          go_roundw
          case rel=>exact⟨i+1,_,t,by omega,by omega,by rw[z],by go_num,by go_num,A.af c1⟩
          case measure=>simp[intOf];omega
        ·have lc:decide (nw<=x.wk)=false:=decide_eq_false (by omega)
         clear W;refine aaK (fun _=>true) (fun w'=>w'.cell? (s,0)=some (.int .i64 1)/\w'.cell? (s,1)=some (.int .i64 x.wk)/\w'.cell? (H,0)=some (.int .i64 wk)/\w'.cell? (H,1)=some (.int .i64 d)) (by kernel_rfl) ?_;refine aaS (by kernel_rfl) (fun _ _ c7 _ _ h=>by cases c7<;>exact h) ⟨t0,t1,R,S⟩ 9 [0,1,2,3,4,5,6,7,8,9,10,11] _ _ (by kernel_rfl) ?_
         iterate 12 (refine aaT (v:= ?_) rfl (Or.inl ⟨by rfl,?_⟩) ?_;rotate_left;(focus (intro w' M;obtain⟨c8,o,q,V⟩:=M;go_simp;try with_reducible rfl));simp only[Act.put,List.setIfInBounds_toArray,List.set_cons_zero,List.set_cons_succ])
         refine takeN ?_;change aaA _ _ _ _ _ _ _ _ _ _;refine aaH (i:=12) (by kernel_rfl) rfl (fun K k5=> ?_);go_simp
         (go_at_call 12;refine(c0.out _).mono ?_;rintro e bi ⟨rfl,I⟩;have f:Ch ag w4 bi:=Ch.trans (by repeat(first|exact Ch.refl _ _|with_reducible refine Ch.drew ?_|with_reducible refine Ch.drewN ?_ _)) I;have c1:=Z f;have t0:=(U.out.ch f (fun h=>h)).cell (i:=0) rfl;have t1:=(U.out.ch f (fun h=>h)).cell (i:=1) rfl;have R:=(G.out.ch f (fun h=>h)).cell (i:=0) rfl;have S:=(G.out.ch f (fun h=>h)).cell (i:=1) rfl;clear I f)
         dsimp only;refine k5 _ _ ⟨t0,t1,R,S⟩ ?_;try simp only[Act.put,List.setIfInBounds_toArray,List.set_cons_zero,List.set_cons_succ]
         refine aaS (by kernel_rfl) (fun _ _ c7 _ _ h=>by cases c7<;>exact h) ⟨t0,t1,R,S⟩ 0 [13,14,15,16,17,18,19,20] _ _ (by kernel_rfl) ?_
         iterate 4 (refine aaT (v:= ?_) rfl (Or.inl ⟨by rfl,?_⟩) ?_;rotate_left;(focus (intro w' M;obtain⟨c8,o,q,V⟩:=M;go_simp;try with_reducible rfl));simp only[Act.put,List.setIfInBounds_toArray,List.set_cons_zero,List.set_cons_succ])
         iterate 3 (refine aaT rfl (Or.inr ⟨by rfl,rfl⟩) ?_;simp only[Act.put,List.setIfInBounds_toArray,List.set_cons_zero,List.set_cons_succ])
         (refine aaT (v:= ?_) rfl (Or.inl ⟨by rfl,?_⟩) ?_;rotate_left;(focus (intro w' M;obtain⟨c8,o,q,V⟩:=M;go_simp;try with_reducible rfl));simp only[Act.put,List.setIfInBounds_toArray,List.set_cons_zero,List.set_cons_succ])
         refine takeN ?_;change aaA _ _ _ _ _ _ _ _ _ _;refine⟨by kernel_rfl,?_⟩
         all_goals
          go_wp2_with fail
          go_roundw
          case rel=>exact⟨i+1,_,t,by omega,by omega,by rw[z],by go_num,by go_num,A.af c1⟩
          case measure=>simp[intOf];omega
      ·rw[c2 (by omega)]at m
       obtain⟨ec,en,rfl⟩:=aA m;have mC:(x.kind==1)=false:=by rw[beq_eq_false_iff_ne];exact o
       clear m;go_upto_region 16 with fail
       go_quiet (fail)
       go_wp2_with fail
       go_roundw
       case rel=>exact⟨i+1,_,t,by omega,by omega,by rw[z],by go_num,by go_num,A.af ((Ch.refl _ _).drewN _)⟩
       case measure=>simp[intOf];omega
    ·have W:N<=i∨(i<N/\300<=i):=by omega
     clear go;rcases W with kd|⟨kd,B⟩
     all_goals
      go_wp2_with fail
      go_meet
      exact⟨i,K,χ,gc,rfl,rfl,a⟩
  case rest=>
   obtain⟨i,K,χ,gc,rfl,rfl,r⟩:=hcut;obtain⟨av,u⟩:=nm wc;rw[u]at r⊢;have a:=Z r;obtain⟨L,Y,gs,ck,_⟩:=r.ms;have dC:=Z (yQ ck);have c6:=Z (kA ck);rw[gs]at dC c6;rw[r.yo]at c6;have y:=Z (T.trans r.ch);clear r ck gs u;go_wp2_with fail
   with_reducible refine dC.out.mono ?_
   rintro e w4 ⟨rfl,rfl⟩;go_wp2_with fail
   with_reducible refine c6.out.mono ?_
   rintro e bi ⟨rfl,rfl⟩;go_wp2_with fail
   with_reducible refine(cA.out _ y.out).mono ?_
   rintro e og ⟨rfl,fd⟩;have hv:=Z (y.trans fd);clear fd;go_wp2_with fail
   go_ret;exact⟨rfl,hv⟩
section
open Go.ChangeAt Go.ChangeShapes Go.WideShapes
theorem qP(os:Os)(started:os.Started)(H:Type)(enc:TypeId×Value->H):
 ReturnsInHanded {} Tryz.checked os 4 .any (fun w args=>(Rows.kernTicksSpec.pre enc prog Tryz.f4 [] false w args/\laidMetH prog sj w)/\sizedMet enc prog Tryz.f4 (OpenSpec.ofChange Rows.kernTicksSpec) false w args)
  (Rows.kernTicksSpec.post enc prog Tryz.f4 false true false false):=by
 refine B7 (C:=Tryz.checked) (X:=fun w _=>laidMetH prog sj w) (fun _ _ _ J h=>h.of_heap J) own started (by kernel_rfl) func4
  (ChangeSpec.witness_shaped (enc:=enc) (C:=Tryz.checked) (os:=os) (X:=fun w _=>laidMetH prog sj w) false (lI os) #[.agg #[.int .i64 0,.int .i64 0],.agg #[.slice none 0 0,.slice none 0 0,.slice none 0 0,.slice none 0 0,.bool false],.slice none 0 0] 8 rfl (World.shaped_of_RefB (by kernel_rfl) (by kernel_rfl)) (by kernel_rfl) (by kernel_rfl) (by kernel_rfl) (vd os _)) ?_
 intro b base args z O before r o T A S;have c:∀(j:Nat) t v,Tryz.f4.params[j]?=some t->args[j]?=some v->Value.okWide prog b .any base t v:=r;have d:=o;obtain⟨p,q,hA0,E,rfl,Q,R⟩:=o;have n:DataW.TrodAll enc prog b 0 (fun _=>true) true Tryz.f4.params.toList args.toList z p:=hA0;rw[Tryz.params4]at n c;obtain⟨L,u,M,d0,d1,d2,s,p1,p2,rfl,rfl,rfl,i,k,m⟩:=trodAll_three n;obtain⟨rfl,rfl⟩:=trodVars_none E;obtain⟨wk,y,rfl⟩:=pF (c 0 23 L rfl rfl) i;obtain⟨P,B,D⟩:=pE (c 1 28 u rfl rfl) k;obtain⟨V,Y,W,rfl⟩:=okWide_slice underlying51 (c 2 51 M rfl rfl);obtain⟨l,K,G⟩:=xF m (by simp[Value.cells]);clear hA0 r;simp only[List.append_nil]at d;have f:∀x∈s++p1++p2,x.block<b.heap.size:=fun x a=>d.lt x a
 refine(xG P D u wk y l _ b B K G (je A)).mono fun e N ⟨I,F⟩=> ?_
 subst I;have hb:=F.gU;exact⟨_,rfl,po (pa:=s++(p1++p2)) (pv:=[]) d (fun _ _ _=>trodAll_mk1 (shut_bool underlying4 _))
  (fun U g=>trodAll_mk3 (gQ (by kernel_rfl) (of_decide_eq_true (by kernel_rfl)) i hb (fun x a=>f x (by simp[a])) (fun x a=>g x (by simp[a])))
   (gQ (by kernel_rfl) (of_decide_eq_true (by kernel_rfl)) k hb (fun x a=>f x (by simp[a])) (fun x a=>g x (by simp[a])))
   (gQ (by kernel_rfl) (of_decide_eq_true (by kernel_rfl)) m hb (fun x a=>f x (by simp[a])) (fun x a=>g x (by simp[a])))) (fun _ _=>rfl) (by simp)
  hb (ok_one (by kernel_rfl) rfl (okWide_bool_mk underlying4 _))⟩
theorem sO:Rows.KernTicksSaid:=
 OpenClaim.holds_of_wide 4 Tryz.f4 rfl rfl rfl rfl rfl rfl rfl ⟨rfl,rfl,rfl,rfl,rfl⟩ rfl rfl rfl rfl rfl (by kernel_rfl) func4 (by kernel_rfl)
  (of_decide_eq_true (by kernel_rfl)) (by unfold Func.isWrapper;rw[if_neg (of_decide_eq_false (by kernel_rfl))];exact⟨rfl,rfl⟩)
  (fun os started H enc _=>qP os started H enc)
theorem ticks_proved:Rows.KernTicksCardSaid:=
 Claim7.holds_tied_plain_at .later [] [.handle] true (true, "c1a2f3bf9f6401d5eaa5e4240cae541e5e199f4de8fb22a7308fb14a8e25352d") true
  sO (fun _ h=>by cases h) (by kernel_rfl) (fun _ h=>by cases h) kernTicks_row_tie rfl ⟨rfl,rfl⟩ (by kernel_rfl) rfl
  (fun f b d e=>by
   obtain rfl:f=4:=Option.some.inj ((show prog.funcNamed "distaff/distafflaw13.KernTicks" =some 4 by kernel_rfl).symm.trans d)|>.symm
   obtain rfl:b=Tryz.f4:=(Option.some.inj (func4.symm.trans e)).symm;exact⟨by kernel_rfl,fun j t a=>by
    rw[Tryz.params4]at a;have c:t=23∨t=28∨t=51:=by
     rcases j with _|_|_|j
     ·exact Or.inl (by simpa using a.symm)
     ·exact Or.inr (Or.inl (by simpa using a.symm))
     ·exact Or.inr (Or.inr (by simpa using a.symm))
     ·simp at a
    rcases c with rfl|rfl|rfl
    ·exact(show prog.wantsStandIn 23=false by kernel_rfl)
    ·exact(show prog.wantsStandIn 28=false by kernel_rfl)
    ·exact(show prog.wantsStandIn 51=false by kernel_rfl)⟩)
  (by kernel_rfl)
#print axioms ticks_proved
end
end Go.Proofs.YtfnilkpkogipfaaGreatDoor
