import Derived.Deep.RegionHeldLaw
import Derived.Test.YtfnilkpkogipfaaGreatDoorZBv
set_option linter.all false
set_option maxRecDepth 100000
set_option maxHeartbeats 8000000
namespace Go.Proofs.YtfnilkpkogipfaaGreatDoor
open Go.RowKit Go.Proofs.Tryz
def vu(C:List aV)(w:World)(e:Ending)(w':World):Prop:=∃a,e=.returned (.agg #[a,.int .i64 0,.int .i64 3,.int .i64 1])/\w'.ownsRow w.heap.size 121 7 a C.length (C.flatMap dg)/\Ch ag w w'
structure z9(w1 wc:World)(wb B6:Nat)(vp vw vh:Value)(S:WS)(ps:List Int)(S1:WS)(k:Nat):Prop where
 w:fG wc wb wb vw vh S
 b:Below wb w1 wc
 p:wc.ownsRow B6 3 1 vp k (ps.flatMap iu)
 c:S.code.length<=219+201*k
 wk:S.work=S1.work
 wh:S.aL=S1.aL
 n:ps.length=k
 sz:B6<=wc.heap.size
def BK(w:World)(b:Nat)(S:WS):Prop:=∃c a,fG w b b c a S
theorem BK.af{w w':World}{b:Nat}{S:WS}(h:BK w b S)(c:Ch ag w w'):BK w' b S:=by
 obtain⟨d,a,h⟩:=h;exact⟨d,a,h.af c⟩
theorem z'(P:fc)(tl:iy P)(p:Value)(w:World)(GQ:fF w w.heap.size p P):Calls prog 10 #[p,.int .i64 16] w (vu (bR P) w):=by
 obtain⟨a0,ad,HD,HE,HF,rfl,c0,ci,hm⟩:=GQ;have qc:=Z c0;have rd:=Z ci;have qb:=Z hm;have mC:=Z tl;obtain⟨a1,hi,rfl,-,-⟩:=c0;obtain⟨a2,cd,rfl,-,-⟩:=ci;obtain⟨a3,ce,rfl,-,-⟩:=hm;obtain⟨bi,kf⟩:=nm P.first.length;obtain⟨T,kw⟩:=nm P.others.length;obtain⟨bv,kT⟩:=nm P.once.length;rw[kf,kw,kT];rw[kf]at qc;rw[kw]at rd;rw[kT]at qb;have r6:=Z kf;have gs:=Z kw;have rb:=Z kT;obtain⟨eS,tb⟩:=nm P.cV;rw[tb];clear tl kf kw kT tb;obtain⟨f,en⟩:=nm w.heap.size;have c9:=Z en;go_enter func10,ntmps10
 go_wp2_with fail
 obtain⟨w1,es⟩:=nm (((w.alloc (.cells #[.slice a0 eS ad,.slice a1 bi hi,.slice a2 T cd,.slice a3 bv ce,.bool P.kV] 28)).alloc (.cells #[.slice none 0 0,.int .i64 0,.int .i64 0,.int .i64 0] 36)).alloc (.cells #[.slice none 0 0,.int .i64 16,.slice none 0 0,.slice none 0 0,.slice none 0 0] 111));have gk:Hid (Ch ag w w1):=Z (by rw[<-es];exact(((Ch.refl _ _).alloc _).alloc _).alloc _);have eA:Hid (Row w1 f 28 [.slice a0 eS ad,.slice a1 bi hi,.slice a2 T cd,.slice a3 bv ce,.bool P.kV]):=Z (by rw[<-es,<-en];exact((Row.new w _ _).alloc _).alloc _);have rg:Hid (Row w1 (f+1) 36 [.slice none 0 0,.int .i64 0,.int .i64 0,.int .i64 0]):=Z (by
  rw[<-es,<-en];have r:=Row.new (w.alloc (.cells #[.slice a0 eS ad,.slice a1 bi hi,.slice a2 T cd,.slice a3 bv ce,.bool P.kV] 28)) #[.slice none 0 0,.int .i64 0,.int .i64 0,.int .i64 0] 36;rw[World.size_alloc]at r;exact r.alloc _)
 have s1:Hid (BK w1 (f+2) ⟨[],[],[]⟩):=Z (by
  have r:=Row.new ((w.alloc (.cells #[.slice a0 eS ad,.slice a1 bi hi,.slice a2 T cd,.slice a3 bv ce,.bool P.kV] 28)).alloc (.cells #[.slice none 0 0,.int .i64 0,.int .i64 0,.int .i64 0] 36)) #[.slice none 0 0,.int .i64 16,.slice none 0 0,.slice none 0 0,.slice none 0 0] 111;rw[World.size_alloc,World.size_alloc,es,en]at r;exact⟨_,_,_,r,Nat.le_refl _,World.ownsRow_nil _ _ _ _,World.ownsRow_nil _ _ _ _,World.ownsRow_nil _ _ _ _,(fun g N=>by cases N)⟩)
 have eL:Hid (w1.heap.size=f+3):=Z (by rw[<-es,<-en];simp);rw[es];obtain⟨ap,ls⟩:=nm (f+1);obtain⟨a,ob⟩:=nm (ap+1);have s7:f+2=a:=by omega
 rw[ls,ob];rw[ls]at rg;rw[s7]at s1;have eL:Hid (w1.heap.size=a+1):=Z (by have:=eL.out;omega);have av:Hid (f+1=ap/\ap+1=a):=Z ⟨ls,ob⟩;clear es en ls ob s7;with_reducible refine(xC _).mono ?_
 rintro e w2 ⟨H4,H8,rfl,hv⟩;have i9:=Z hv;clear hv;have G7:=Z (s1.af i9);have FF:Hid (Below a w1 w2):=Z (i9.below (by have:=eL.out;omega) (fun _ hb=>False.elim hb));have x0:w2.cell? (f,0)=some (.slice a0 eS ad):=(eA.ch i9 (fun e=>e)).cell rfl;go_upto_block 0 with fail
 go_cut [] (fun wc=>w2=wc)
 case first=>
  go_wp2_with fail
  go_loop [7] (fun i=>i=.int .i64 0) (fun _=>0)
  case atStart=>rfl
  case round=>
   obtain rfl:=hrel;by_cases Gz:0<eS
   all_goals
    go_wp2_with fail
    go_meet
    rfl
 case rest=>
  obtain rfl:=hcut;have x2:w2.cell? (f,2)=some (.slice a2 T cd):=(eA.ch i9 (fun e=>e)).cell rfl;obtain⟨K,st⟩:=nm (min T 6);have Ha:K<=6:=by omega
  have GN:(if(6:Int)<(T:Int)then(6:Int)else(T:Int))=(K:Int):=by split<;>omega
  have gr:=Z st;clear st;clear x0;go_upto_block 2 with fail
  clear GN x2;obtain⟨o,tm⟩:=nm (hq ⟨[],[],[]⟩ 0 K);have mS:=Z tm;clear tm;go_cut [] (fun wc=>BK wc a o/\Below a w1 wc/\o.code.length<=18/\o.work.length<=6/\o.aL.length<=6)
  case first=>
   go_wp2_with fail
   go_loopw [11] (fun i wr=>∃(k:Nat) (S:WS),k<=K/\i=.int .i64 k/\BK wr a S/\Below a w1 wr/\hq S k (K-k)=o/\S.code.length<=3*k/\S.work.length<=k/\S.aL.length<=k) (fun i _=>K-(intOf i).toNat)
   case atStart=>exact⟨0,⟨[],[],[]⟩,by omega,rfl,G7,FF,mS,by simp,by simp,by simp⟩
   case round=>
    obtain⟨k,S,lo,rfl,d,hb,m,c4,u,z⟩:=hrel;have H:=Z d;have F:=Z hb;have c8:=Z m;have y0:=eL.out;have GR:=hb.size;clear d hb m;by_cases G:k<K
    ·have mA:Hid (hq (j6 (b5 S 1 [0,(k:Int)]) 3 k) (k+1) (K-(k+1))=o):=Z (by
      have h:=c8.out;rw[show K-k=(K-(k+1))+1 from by omega,hq]at h;exact h)
     obtain⟨Fy,Fx,i4⟩:=H.out;have Gc:=Z i4;clear i4;have it:=Z (show Calls prog 46 #[(a,0),.int .i64 1,.slice (some ⟨wr.heap.size,0,none⟩) 2 2] (wr.alloc (.cells #[.int .u64 0,.int .u64 k] 56)) (gC (b5 S 1 [0,(k:Int)]) a a Fy Fx (wr.alloc (.cells #[.int .u64 0,.int .u64 k] 56)))from ey S 1 [0,(k:Int)] (by simp) wr.heap.size 2 a a (by simp) _ (Row.new wr _ _) (Gc.af ((Ch.refl _ _).alloc _)) (by simp;omega) (by omega));obtain⟨Gg,Gh,Gi⟩:=gR [0,(k:Int)] S 0;have fn:(b5 S 1 [0,(k:Int)]).code.length<=3*k+3:=by
      show((fK S [0,(k:Int)] 0).code++[_]).length<=_
      rw[List.length_append,Gg];simp;omega
     have Ev:(b5 S 1 [0,(k:Int)]).work=S.work:=Gh;have v6:(b5 S 1 [0,(k:Int)]).aL=S.aL:=Gi;go_wp2_with fail
     with_reducible refine it.out.mono ?_
     rintro e pl ⟨rfl,hF,ut,_⟩;have ip:Hid (Below a w1 pl):=Z ((F.trans ((show Ch ag wr _ from(Ch.refl _ _).alloc _).below (by omega) (fun _ hb=>False.elim hb))).trans ut);have FX:=Z (ui _ 3 k (by omega) a a pl hF (by have:=ip.size;omega) (by omega) (by rw[Ev];omega) (by rw[v6];omega));clear hF ut;go_wp2_with fail
     with_reducible refine FX.out.mono ?_
     rintro e w4 ⟨rfl,i0,hn,_⟩;have n1:=Z i0;have md:=Z (ip.trans hn);clear i0 hn;go_wp2_with fail
     go_roundw
     case rel=>exact⟨k+1,_,by omega,by go_num,n1,md,mA,by show(b5 S 1 [0,(k:Int)]).code.length<=_;omega,by show((b5 S 1 [0,(k:Int)]).work++[_]).length<=_;rw[List.length_append,Ev];simp;omega,by show((b5 S 1 [0,(k:Int)]).aL++[_]).length<=_;rw[List.length_append,v6];simp;omega⟩
     case measure=>simp[intOf];omega
    ·have ec:k=K:=by omega
     have J:Hid (S=o):=Z (by
      have h:=c8.out;rw[ec,Nat.sub_self]at h;exact h)
     clear ec;go_wp2_with fail
     go_meet
     rw[<-J];exact⟨H,F,by omega,by omega,by omega⟩
  case rest=>
   obtain⟨d,hb,c4,u,z⟩:=hcut;obtain⟨pl,hF⟩:=nm wc;rw[hF]at d hb⊢;have G8:=Z d;have ip:=Z hb;have FQ:=Z (And.intro c4 (And.intro u z));clear hF d hb c4 u z;obtain⟨ab,tr⟩:=nm ((P.first.take 40).foldl cD o);have mW:=Z tr;clear tr;go_upto_block 4 with fail
   go_cut [] (fun wc=>BK wc a ab/\Below a w1 wc/\ab.code.length<=218/\ab.work=o.work/\ab.aL=o.aL)
   case first=>
    go_wp2_with fail
    go_loopw [12] (fun i wr=>∃(k:Nat) (S:WS),k<=40/\k<=bi/\i=.int .i64 k/\BK wr a S/\Below a w1 wr/\((P.first.take 40).drop k).foldl cD S=ab/\S.code.length<=18+5*k/\S.work=o.work/\S.aL=o.aL) (fun i _=>40-(intOf i).toNat)
    case atStart=>exact⟨0,o,by omega,by omega,rfl,G8,ip,mW,FQ.1,rfl,rfl⟩
    case round=>
     obtain⟨k,S,lo,GM,rfl,d,hb,m,c4,u,z⟩:=hrel;have H:=Z d;have F:=Z hb;have A:=Z (And.intro u z);have y0:=eL.out;have GR:=hb.size;have he:Hid (Below f w wr):=Z ((gk.below (by rw[c9];exact Nat.le_refl _) (fun _ hb=>False.elim hb)).trans (hb.mono (by have:=av.out;omega)));have x1:wr.cell? (f,1)=some (.slice a1 bi hi):=(hb.cell (p:=⟨f,1,none⟩) (by have:=av.out;show f<a;omega)).trans (eA.cell rfl);clear d hb u z;by_cases G:k<40/\k<bi
     ·obtain⟨ws,wv⟩:=G
      have cA:k<P.first.length:=by have:=r6.out;omega
      obtain⟨x,q⟩:=nm (P.first[k]);have al:P.first[k]?=some x:=by rw[List.getElem?_eq_getElem cA,q]
      have gt:=Z (mC.first x (List.mem_of_getElem? al));have W:(P.first.take 40).drop k=x::(P.first.take 40).drop (k+1):=by
       rw[List.drop_eq_getElem_cons (by rw[List.length_take];omega)]
       congr 1
       rw[List.getElem_take];exact q
      rw[W]at m;have c8:Hid (((P.first.take 40).drop (k+1)).foldl cD (cD S x)=ab):=Z m;have cW:=qc.out;rw[c9]at cW;obtain⟨-,v1,g,F7,rfl,N,f0,f1,f2,f3,f4⟩:=(cW.below he).Dt al;obtain⟨Fy,Fx,i4⟩:=H.out;have go:=Z (qL x gt S a a wr i4 (by omega) (by omega));clear i4;obtain⟨F8,cL,cQ⟩:=ox S x;have cb:=Z (And.intro cL cQ);have wl:(k:Int)<bi:=by omega
      clear m W al q cA cW N cL cQ;go_wp2_with fail
      with_reducible refine go.out.mono ?_
      rintro e w4 ⟨rfl,i0,hn,_⟩;have n1:Hid (BK w4 a (cD S x)):=Z ⟨_,_,i0⟩;have md:=Z (F.trans hn);clear i0 hn;go_wp2_with fail
      go_roundw
      case rel=>exact⟨k+1,cD S x,by omega,by omega,by go_num,n1,md,c8,by omega,cb.1.trans A.1,cb.2.trans A.2⟩
      case measure=>simp[intOf];omega
     ·have J:Hid (S=ab):=Z (by
       rw[List.drop_of_length_le (by rw[List.length_take];have:=r6.out;omega)]at m;exact m)
      have hw:40<=k∨(k<40/\bi<=k):=by omega
      clear m G;rcases hw with hu|⟨hu,hv⟩
      ·by_cases s9:k<bi
       all_goals
        go_wp2_with fail
        go_meet
        rw[<-J];exact⟨H,F,by omega,A.1,A.2⟩
      ·go_wp2_with fail
       go_meet
       rw[<-J];exact⟨H,F,by omega,A.1,A.2⟩
   case rest=>
    obtain⟨d,hb,c4,u,z⟩:=hcut;obtain⟨gc,B3⟩:=nm wc;rw[B3]at d hb⊢;have G9:=Z d;have FG:=Z hb;have qr:=Z (And.intro u z);have y0:=eL.out;have Hr:=hb.size;clear B3 d hb u z;go_upto_block 6 with fail
    go_cut [] (fun wc=>gc=wc)
    case first=>
     go_wp2_with fail
     go_loop [13] (fun i=>i=.int .i64 0) (fun _=>0)
     case atStart=>rfl
     case round=>
      obtain rfl:=hrel;by_cases Gz:0<K
      all_goals
       go_wp2_with fail
       go_meet
       rfl
    case rest=>
     obtain rfl:=hcut;obtain⟨p2,w0,os,ov,p1⟩:=info_parts hT;have mp:=Z w0;clear w0;obtain⟨R,Q,lw,cm⟩:=G9.out;have G2:=Z cm;have am:gc.cell? (a,0)=some lw:=cm.row.cell rfl;have cf:=cm.row.free 0;have x6:=cm.row.lt;have F0:lw.ownBlock≠some a:=bh cm.code cm.row (by decide);have ck:=cm.code;have GH:a<=gc.heap.size:=by omega
     clear cm;go_wp2_with (at_builtin;refine wpList_append_lies _ rfl _ _ _ rfl a 121 p2 _ 7 56 underlying30 mp os ov p1 rfl (by omega) lw ab.code.length (ab.code.flatMap dg) rfl (ck.alloc _) ⟨gc.heap.size,0,none⟩ 1 1 [.int .i64 16,.int .i64 0,.int .i64 0,.int .i64 0,.int .u64 0,.int .i64 0,.int .i64 0] rfl rfl (World.news_of_block (cs:=#[.int .i64 16,.int .i64 0,.int .i64 0,.int .i64 0,.int .u64 0,.int .i64 0,.int .i64 0]) (t:=121) (fr:=(0,0)) (heap_alloc_new gc _)) (by simp[Value.oneCell']) (by omega) (by unfold maxLen;omega) (by omega) (by simp;omega) (gc.heap.size+1) (by simp) ?_)
     intro Gx Gk pm w' ll GB Hl;have et:pm.cell? (a,0)=some lw:=(ll.cell_far ⟨a,0,none⟩ (by simp;omega) (Ne.symm F0)).trans (by simp[go_sem,World.cell?_alloc_past,x6,am]);have lt:pm.frozen? (a,0)=false:=(ll.frozen_far ⟨a,0,none⟩ (by simp;omega) (Ne.symm F0)).trans (by simp[go_sem,World.frozen?_alloc_past,x6,cf]);have mb:=Z (G2.iv GH lN w' (ax ll));clear w' ll GB ck am cf;go_upto_block 8 with fail
     obtain⟨c7,Do⟩:=nm (pm.setCell (a,0) (.slice (some (Gx,0)) (ab.code.length+1) Gk));rw[Do]at mb⊢;obtain⟨dC,fb⟩:=nm (iL ab lN);have r':Hid (fG c7 a a R Q dC):=Z (by rw[<-fb];exact mb.1);have pu:Hid (Below a w1 c7):=Z (FG.trans mb.2.1);have ms:Hid (dC.code.length<=219/\dC.work=o.work/\dC.aL=o.aL):=Z ⟨by rw[<-fb];simp[iL];omega,by rw[<-fb];exact qr.1,by rw[<-fb];exact qr.2⟩;have ro:=Z fb;clear Do et lt fb;obtain⟨H0,x9⟩:=nm (e3 dC [] (P.others.take 6));obtain⟨I,bw⟩:=H0;have mL:=Z x9;have Hs:=pu.size;have G4:Hid ((∀g,R.ownBlock=some g->g<c7.heap.size)/\∀g,Q.ownBlock=some g->g<c7.heap.size):=Z (by
      obtain⟨p8,xs⟩:=r'.out;exact⟨fun g N=>by obtain⟨_,_,ci⟩:=bJ xs.work N;exact(Array.getElem?_eq_some_iff.1 ci).1,fun g N=>by obtain⟨_,_,ci⟩:=bJ xs.aL N;exact(Array.getElem?_eq_some_iff.1 ci).1⟩)
     obtain⟨G',wb,GV,GX,GY⟩:=info_parts kN;have FN:=Z wb;clear x9 wb;go_cut [14] (fun s wc=>∃(c5:Option Addr) (c6:Nat),s=.slice c5 K c6/\z9 w1 wc a c7.heap.size (.slice c5 K c6) R Q I bw o K)
     case first=>
      go_wp2_with fail
      go_loopw [14,15] (fun s i wr=>∃(k:Nat) (S:WS) (cC:List Int) (c5:Option Addr) (c6:Nat),k<=K/\s=.slice c5 k c6/\i=.int .i64 k/\z9 w1 wr a c7.heap.size (.slice c5 k c6) R Q S cC o k/\e3 S cC ((P.others.take 6).drop k)=(I,bw)) (fun _ i _=>K-(intOf i).toNat)
      case atStart=>exact⟨0,dC,[],none,0,by omega,rfl,rfl,⟨r',pu,World.ownsRow_nil _ _ _ _,by have:=ms.1;omega,ms.2.1,ms.2.2,rfl,Nat.le_refl _⟩,mL⟩
      case round=>
       obtain⟨k,S,cC,c5,c6,lo,rfl,rfl,O,x8⟩:=hrel;have B:=Z O;have re:=Z x8;have GU:=O.b.size;have Hd:=O.c;have he:Hid (Below f w wr):=Z ((gk.below (by rw[c9];exact Nat.le_refl _) (fun _ hb=>False.elim hb)).trans (O.b.mono (by have:=av.out;omega)));have x2:wr.cell? (f,2)=some (.slice a2 T cd):=(O.b.cell (p:=⟨f,2,none⟩) (by have:=av.out;show f<a;omega)).trans (eA.cell rfl);clear O x8;by_cases G:k<K
       ·have cA:k<P.others.length:=by have:=gs.out;have:=gr.out;omega
        obtain⟨l,no⟩:=nm (P.others[k]);have nq:P.others[k]?=some l:=by rw[List.getElem?_eq_getElem cA,no]
        have FS:=Z (fun x q=>mC.others l (List.mem_of_getElem? nq) x q);have W:(P.others.take 6).drop k=l::(P.others.take 6).drop (k+1):=by
         rw[List.drop_eq_getElem_cons (by rw[List.length_take];have:=gr.out;have:=gs.out;omega)]
         congr 1
         rw[List.getElem_take];exact no
        have FY:Hid (e3 (iL ((l.take 40).foldl cD S) lN) (cC++[(S.code.length:Int)]) ((P.others.take 6).drop (k+1))=(I,bw)):=Z (by
         have h:=re.out;rw[W]at h;exact h)
        have th:=rd.out;rw[c9]at th;obtain⟨aa,H7,Gq,GJ,up⟩:=th;injection Gq with n2 c3 k5
        subst n2 k5;obtain⟨ch,i5,HC,rfl,ni,le,lc⟩:=up k l nq;have Hb:T<=cd:=by have:=gs.out;omega
        have Hh:(k:Int)<T:=by have:=gr.out;omega
        obtain⟨s2,hl,rfl,GK,-⟩:=id lc;obtain⟨dr,ne⟩:=nm l.length;rw[ne]at lc GK le;have FD:=Z lc;have FH:=Z le;have FL:=Z ni;have rc:=Z ne;have GL:wr.cell? (ch,i5+k)=some (.slice s2 dr hl):=(he.cell (p:=⟨ch,i5+k,none⟩) ni).trans le;clear cA no nq W c3 GJ up ne le lc ni;obtain⟨HH,l1⟩:=B.w;have H3:=Z l1;obtain⟨Ge,Gn,At⟩:=aA l1.code;have am:wr.cell? (a,0)=some (.slice Ge S.code.length Gn):=by rw[<-At];exact l1.row.cell rfl
        have tg:=B.p;clear l1 At;have Hw:c7.heap.size<=wr.heap.size:=B.sz;go_wp2_with (at_builtin;refine wpList_append_lies _ rfl _ _ _ rfl c7.heap.size 3 G' _ 1 8 underlying79 FN GV GX GY rfl (by omega) (.slice c5 k c6) k (cC.flatMap iu) rfl (tg.alloc _) ⟨wr.heap.size,0,none⟩ 1 1 [.int .i64 S.code.length] rfl rfl (World.news_of_block (cs:=#[.int .i64 S.code.length]) (t:=3) (fr:=(0,0)) (heap_alloc_new wr _)) (by simp[Value.oneCell']) (by omega) (by unfold maxLen;omega) (by omega) (by simp;omega) (wr.heap.size+1) (by simp) ?_)
        intro Gy Gl cS x3 v4 GC Hm;have ih:=Ch.bQ (ax v4);have Ga:Hid (fG cS a a R Q S):=Z (B.w.ints B.p G4 ih);have pv:Hid (Below a w1 cS):=Z (B.b.trans (ih.below (by omega) (fun b hb=>by have:=(bJ B.p hb).1;omega)));have FV:Hid (cS.ownsRow c7.heap.size 3 1 (.slice (some (Gy,0)) (k+1) Gl) (k+1) ((cC++[(S.code.length:Int)]).flatMap iu)):=Z (by rw[List.flatMap_append];exact x3);have Ht:wr.heap.size<=cS.heap.size:=ih.size;clear ih x3 v4 GC tg am GL x2;obtain⟨U,tt⟩:=nm ((l.take 40).foldl cD S);have rt:=Z tt;clear tt;obtain⟨HI,rfl⟩:=mn wr;go_upto_block 10 with fail
        go_cut [] (fun wc=>fG wc a a R Q U/\Below a cS wc/\a9 cS wc/\U.code.length<=S.code.length+200/\U.work=S.work/\U.aL=S.aL)
        case first=>
         go_wp2_with fail
         go_loopw [16] (fun i wr=>∃(k:Nat) (Y:WS),k<=40/\k<=dr/\i=.int .i64 k/\fG wr a a R Q Y/\Below a cS wr/\a9 cS wr/\((l.take 40).drop k).foldl cD Y=U/\Y.code.length<=S.code.length+5*k/\Y.work=S.work/\Y.aL=S.aL) (fun i _=>40-(intOf i).toNat)
         case atStart=>exact⟨0,S,by omega,by omega,rfl,Ga,Below.refl _ _,a9.refl _,rt,by omega,rfl,rfl⟩
         case round=>
          obtain⟨j,Y,Hf,Hg,rfl,d,hb,E,m,c4,u,z⟩:=hrel;have H:=Z d;have F:=Z hb;have c2:=Z E;have A:=Z (And.intro u z);have Hv:=hb.size;have pp:=Z (pv.trans hb);have s0:Hid (Below f w wr):=Z ((gk.below (by rw[c9];exact Nat.le_refl _) (fun _ hb=>False.elim hb)).trans (pp.mono (by have:=av.out;omega)));have x2:wr.cell? (f,2)=some (.slice (some (ch,i5)) T cd):=(pp.cell (p:=⟨f,2,none⟩) (by have:=av.out;show f<a;omega)).trans (eA.cell rfl);have HJ:wr.cell? (ch,i5+k)=some (.slice s2 dr hl):=(s0.cell (p:=⟨ch,i5+k,none⟩) FL).trans FH;clear d hb E u z;by_cases G:j<40/\j<dr
          ·obtain⟨ws,wv⟩:=G
           have wd:j<l.length:=by have:=rc.out;omega
           obtain⟨x,q⟩:=nm (l[j]);have al:l[j]?=some x:=by rw[List.getElem?_eq_getElem wd,q]
           have gt:=Z (FS x (List.mem_of_getElem? al));have W:(l.take 40).drop j=x::(l.take 40).drop (j+1):=by
            rw[List.drop_eq_getElem_cons (by rw[List.length_take];omega)]
            congr 1
            rw[List.getElem_take];exact q
           rw[W]at m;have c8:Hid (((l.take 40).drop (j+1)).foldl cD (cD Y x)=U):=Z m;obtain⟨-,v1,g,F7,rfl,N,f0,f1,f2,f3,f4⟩:=(FD.below s0).Dt al;have go:=Z (qL x gt Y a a wr H (by omega) (by omega));obtain⟨F8,cL,cQ⟩:=ox Y x;have cb:=Z (And.intro cL cQ);have wl:(j:Int)<dr:=by omega
           clear m W al q wd N cL cQ;go_wp2_with fail
           with_reducible refine go.out.mono ?_
           rintro e ge ⟨rfl,i3,v0,wk⟩;have Gb:=Z i3;have mk:=Z (F.trans v0);have FP:=Z (c2.trans wk);clear i3 v0 wk;go_wp2_with fail
           go_roundw
           case rel=>exact⟨j+1,cD Y x,by omega,by omega,by go_num,Gb,mk,FP,c8,by omega,cb.1.trans A.1,cb.2.trans A.2⟩
           case measure=>simp[intOf];omega
          ·have J:Hid (Y=U):=Z (by
            rw[List.drop_of_length_le (by rw[List.length_take];have:=rc.out;omega)]at m;exact m)
           have hw:40<=j∨(j<40/\dr<=j):=by omega
           clear m G;rcases hw with hu|⟨hu,hv⟩
           ·by_cases s9:j<dr
            all_goals
             go_wp2_with fail
             go_meet
             rw[<-J];exact⟨H,F,c2,by omega,A.1,A.2⟩
           ·go_wp2_with fail
            go_meet
            rw[<-J];exact⟨H,F,c2,by omega,A.1,A.2⟩
        case rest=>
         obtain⟨d,hb,E,c4,u,z⟩:=hcut;obtain⟨ge,i3⟩:=nm wc;rw[i3]at d hb E⊢;have mk:=Z (pv.trans hb);have FW:=Z (E.own FV (by decide) (by decide));have r5:=Z (And.intro u z);have Hu:=hb.size;obtain⟨l',cq⟩:=d;have G3:=Z cq;have am:ge.cell? (a,0)=some l':=cq.row.cell rfl;have cf:=cq.row.free 0;have x7:=cq.row.lt;have F1:l'.ownBlock≠some a:=bh cq.code cq.row (by decide);have ck:=cq.code;have GI:a<=ge.heap.size:=by omega
         clear cq i3 hb E u z;go_wp2_with (at_builtin;refine wpList_append_lies _ rfl _ _ _ rfl a 121 p2 _ 7 56 underlying30 mp os ov p1 rfl (by omega) l' U.code.length (U.code.flatMap dg) rfl (ck.alloc _) ⟨ge.heap.size,0,none⟩ 1 1 [.int .i64 16,.int .i64 0,.int .i64 0,.int .i64 0,.int .u64 0,.int .i64 0,.int .i64 0] rfl rfl (World.news_of_block (cs:=#[.int .i64 16,.int .i64 0,.int .i64 0,.int .i64 0,.int .u64 0,.int .i64 0,.int .i64 0]) (t:=121) (fr:=(0,0)) (heap_alloc_new ge _)) (by simp[Value.oneCell']) (by omega) (by unfold maxLen;omega) (by omega) (by simp;omega) (ge.heap.size+1) (by simp) ?_)
         intro H9 H6 Fz x4 lm GD Hn;have et:Fz.cell? (a,0)=some l':=(lm.cell_far ⟨a,0,none⟩ (by simp;omega) (Ne.symm F1)).trans (by simp[go_sem,World.cell?_alloc_past,x7,am]);have lt:Fz.frozen? (a,0)=false:=(lm.frozen_far ⟨a,0,none⟩ (by simp;omega) (Ne.symm F1)).trans (by simp[go_sem,World.frozen?_alloc_past,x7,cf]);have io:=Z (G3.iv GI lN x4 (ax lm));clear x4 lm GD ck am cf;go_wp2_with fail
         go_roundw
         case rel=>
          refine⟨k+1,iL U lN,cC++[(S.code.length:Int)],_,_,by omega,rfl,by go_num,⟨io.1,mk.trans io.2.1,io.2.2.own FW (by decide) (by decide),?_,?_,?_,?_,?_⟩,?_⟩
          ·have h:(iL U lN).code.length=U.code.length+1:=by simp[iL]
           rw[h];omega
          ·exact r5.1.trans B.wk
          ·exact r5.2.trans B.wh
          ·rw[List.length_append,B.n];rfl
          ·have:=io.2.1.size;omega
          ·rw[<-rt];exact FY
         case measure=>simp[intOf];omega
       ·have ec:k=K:=by omega
        have J:Hid (S=I/\cC=bw):=Z (by
         have h:=re.out;rw[List.drop_of_length_le (by rw[List.length_take];have:=gs.out;have:=gr.out;omega)]at h;exact Prod.mk.inj h)
        have ql:=Z ec;clear ec x2;go_wp2_with fail
        go_meet
        refine⟨c5,c6,by rw[ql],?_⟩;have h:=B.out;rw[J.1,J.2,ql]at h;exact h
     case rest=>
      obtain⟨c5,c6,rfl,O⟩:=hcut;obtain⟨i6,AC⟩:=nm wc;rw[AC]at O⊢;have B:=Z O;have Hc:=O.c;have Hp:=O.b.size;obtain⟨HG,l0⟩:=O.w;have H2:=Z l0;obtain⟨Gd,Gm,rfl⟩:=aA l0.code;have am:i6.cell? (a,0)=some (.slice Gd I.code.length Gm):=l0.row.cell rfl;obtain⟨V,ty⟩:=nm ((P.once.take 6).foldl cD I);have n0:=Z ty;clear ty O l0 AC;go_upto_block 12 with fail
      go_cut [] (fun wc=>fG wc a a R Q V/\Below a i6 wc/\a9 i6 wc/\V.code.length<=I.code.length+30/\V.work=I.work/\V.aL=I.aL)
      case first=>
       go_wp2_with fail
       go_loopw [18] (fun i wr=>∃(k:Nat) (S:WS),k<=6/\k<=bv/\i=.int .i64 k/\fG wr a a R Q S/\Below a i6 wr/\a9 i6 wr/\((P.once.take 6).drop k).foldl cD S=V/\S.code.length<=I.code.length+5*k/\S.work=I.work/\S.aL=I.aL) (fun i _=>6-(intOf i).toNat)
       case atStart=>exact⟨0,I,by omega,by omega,rfl,B.w,Below.refl _ _,a9.refl _,n0,by omega,rfl,rfl⟩
       case round=>
        obtain⟨k,S,lo,GM,rfl,d,hb,E,m,c4,u,z⟩:=hrel;have H:=Z d;have F:=Z hb;have c2:=Z E;have A:=Z (And.intro u z);have GU:=hb.size;have he:Hid (Below f w wr):=Z ((gk.below (by rw[c9];exact Nat.le_refl _) (fun _ hb=>False.elim hb)).trans ((B.b.trans hb).mono (by have:=av.out;omega)));have x1:wr.cell? (f,3)=some (.slice a3 bv ce):=((B.b.trans hb).cell (p:=⟨f,3,none⟩) (by have:=av.out;show f<a;omega)).trans (eA.cell rfl);clear d hb E u z;by_cases G:k<6/\k<bv
        ·obtain⟨ws,wv⟩:=G
         have cA:k<P.once.length:=by have:=rb.out;omega
         obtain⟨x,q⟩:=nm (P.once[k]);have al:P.once[k]?=some x:=by rw[List.getElem?_eq_getElem cA,q]
         have gt:=Z (mC.once x (List.mem_of_getElem? al));have W:(P.once.take 6).drop k=x::(P.once.take 6).drop (k+1):=by
          rw[List.drop_eq_getElem_cons (by rw[List.length_take];omega)]
          congr 1
          rw[List.getElem_take];exact q
         rw[W]at m;have c8:Hid (((P.once.take 6).drop (k+1)).foldl cD (cD S x)=V):=Z m;have cW:=qb.out;rw[c9]at cW;obtain⟨-,v1,g,F7,rfl,N,f0,f1,f2,f3,f4⟩:=(cW.below he).Dt al;have go:=Z (qL x gt S a a wr H (by omega) (by omega));obtain⟨F8,cL,cQ⟩:=ox S x;have cb:=Z (And.intro cL cQ);have wl:(k:Int)<bv:=by omega
         clear m W al q cA cW N cL cQ;go_wp2_with fail
         with_reducible refine go.out.mono ?_
         rintro e fz ⟨rfl,hB,us,wh⟩;have G5:=Z hB;have mc:=Z (F.trans us);have FO:=Z (c2.trans wh);clear hB us wh;go_wp2_with fail
         go_roundw
         case rel=>exact⟨k+1,cD S x,by omega,by omega,by go_num,G5,mc,FO,c8,by omega,cb.1.trans A.1,cb.2.trans A.2⟩
         case measure=>simp[intOf];omega
        ·have J:Hid (S=V):=Z (by
          rw[List.drop_of_length_le (by rw[List.length_take];have:=rb.out;omega)]at m;exact m)
         have hw:6<=k∨(k<6/\bv<=k):=by omega
         clear m G;rcases hw with hu|⟨hu,hv⟩
         ·by_cases s9:k<bv
          all_goals
           go_wp2_with fail
           go_meet
           rw[<-J];exact⟨H,F,c2,by omega,A.1,A.2⟩
         ·go_wp2_with fail
          go_meet
          rw[<-J];exact⟨H,F,c2,by omega,A.1,A.2⟩
      case rest=>
       obtain⟨d,hb,E,c4,u,z⟩:=hcut;obtain⟨fz,hB⟩:=nm wc;rw[hB]at d hb E⊢;have mc:=Z (B.b.trans hb);have FT:=Z (E.own B.p (by decide) (by decide));have qm:=Z (And.intro (u.trans B.wk) (z.trans B.wh));have Hq:=hb.size;obtain⟨lv,cl⟩:=d;have G0:=Z cl;have am:fz.cell? (a,0)=some lv:=cl.row.cell rfl;have cf:=cl.row.free 0;have x5:=cl.row.lt;have EQ:lv.ownBlock≠some a:=bh cl.code cl.row (by decide);have ck:=cl.code;have GG:a<=fz.heap.size:=by omega
       clear cl hB hb E u z;go_wp2_with (at_builtin;refine wpList_append_lies _ rfl _ _ _ rfl a 121 p2 _ 7 56 underlying30 mp os ov p1 rfl (by omega) lv V.code.length (V.code.flatMap dg) rfl (ck.alloc _) ⟨fz.heap.size,0,none⟩ 1 1 [.int .i64 16,.int .i64 0,.int .i64 0,.int .i64 0,.int .u64 0,.int .i64 0,.int .i64 0] rfl rfl (World.news_of_block (cs:=#[.int .i64 16,.int .i64 0,.int .i64 0,.int .i64 0,.int .u64 0,.int .i64 0,.int .i64 0]) (t:=121) (fr:=(0,0)) (heap_alloc_new fz _)) (by simp[Value.oneCell']) (by omega) (by unfold maxLen;omega) (by omega) (by simp;omega) (fz.heap.size+1) (by simp) ?_)
       intro Gw Gj pa ww li GA Hk;have et:pa.cell? (a,0)=some lv:=(li.cell_far ⟨a,0,none⟩ (by simp;omega) (Ne.symm EQ)).trans (by simp[go_sem,World.cell?_alloc_past,x5,am]);have lt:pa.frozen? (a,0)=false:=(li.frozen_far ⟨a,0,none⟩ (by simp;omega) (Ne.symm EQ)).trans (by simp[go_sem,World.frozen?_alloc_past,x5,cf]);have ii:=Z (G0.iv GG lN ww (ax li));clear ww li GA ck am cf;go_upto_block 14 with fail
       obtain⟨i7,B1⟩:=nm (pa.setCell (a,0) (.slice (some (Gw,0)) (V.code.length+1) Gj));rw[B1]at ii⊢;clear B1 et lt;obtain⟨c,fd⟩:=nm (iL V lN);have G6:Hid (fG i7 a a R Q c):=Z (by rw[<-fd];exact ii.1);have FE:Hid (Below a w1 i7):=Z (mc.trans ii.2.1);have FU:=Z (ii.2.2.own FT (by decide) (by decide));have jp:Hid (c.work=o.work/\c.aL=o.aL):=Z ⟨by rw[<-fd];exact qm.1,by rw[<-fd];exact qm.2⟩;have FZ:Hid (oO bw (I.code.length:Int) c.work c.aL c.code=bR P):=Z (by
        unfold bR;dsimp only;rw[gs,gr,mS,mW,ro,mL];dsimp only;rw[n0,fd])
       have rx:=Z fd;clear fd;have i8:Hid (lO o K):=Z (by
        have h:=oy K ⟨[],[],[]⟩ 0 ⟨rfl,rfl,(fun x q=>by cases q),(fun x q=>by cases q)⟩;rw[mS,Nat.zero_add]at h;exact h)
       have v2:o.code.length<=c.code.length:=by
        rw[<-rx,<-n0];refine Nat.le_trans ?_ (qM _ _);refine Nat.le_trans ?_ (mR _ _);have h:=pD (P.others.take 6) dC [];rw[mL]at h;refine Nat.le_trans ?_ h;rw[<-ro,<-mW];exact Nat.le_trans (mR _ _) (qM _ _)
       have wn:c.code.length<=2000:=by
        have h:c.code.length=V.code.length+1:=by rw[<-rx];simp[iL]
        omega
       have FM:=Z (And.intro v2 wn);have sC:c.work.length=K:=by rw[jp.1];exact i8.wl
       have sz:c.aL.length=K:=by rw[jp.2];exact i8.hl
       have M:=Z (And.intro sC sz);clear v2 wn sC sz;go_cut [] (fun wc=>∃C,C=bR P/\C.length=c.code.length/\fG wc a a R Q ⟨C,c.work,c.aL⟩/\Below a i7 wc)
       case first=>
        go_wp2_with fail
        go_loopw [19] (fun i wr=>∃(k:Nat) (C:List aV),k<=K/\i=.int .i64 k/\C.length=c.code.length/\fG wr a a R Q ⟨C,c.work,c.aL⟩/\Below a i7 wr/\a9 i7 wr/\oO bw (I.code.length:Int) (c.work.drop k) (c.aL.drop k) C=bR P) (fun i _=>K-(intOf i).toNat)
        case atStart=>exact⟨0,c.code,by omega,rfl,rfl,G6,Below.refl _ _,a9.refl _,FZ⟩
        case round=>
         obtain⟨k,C,lo,rfl,fn,d,hb,E,dN⟩:=hrel;have F:=Z hb;have c2:=Z E;have it:=Z fn;have FK:=Z dN;have H:=Z d;obtain⟨p8,L⟩:=d;obtain⟨Gf,Gp,kb⟩:=aA L.work;have ce:wr.cell? (a,3)=some R:=L.row.cell rfl;rw[kb,M.1]at ce;by_cases G:k<K
         ·obtain⟨x,q⟩:∃x,c.work[k]'(by rw[M.1];exact G)=x:=⟨_,rfl⟩
          obtain⟨y,ok⟩:∃y,c.aL[k]'(by rw[M.2];exact G)=y:=⟨_,rfl⟩;have og:c.work[k]?=some x:=by rw[List.getElem?_eq_getElem (by rw[M.1];exact G),q]
          have on:c.aL[k]?=some y:=by rw[List.getElem?_eq_getElem (by rw[M.2];exact G),ok]
          have F3:=i8.w x (by rw[<-jp.1];exact List.mem_of_getElem? og);have F5:=i8.h y (by rw[<-jp.2];exact List.mem_of_getElem? on);obtain⟨c1,rfl⟩:=Int.eq_ofNat_of_zero_le F3.1;obtain⟨gf,rfl⟩:=Int.eq_ofNat_of_zero_le F5.1;have F2:c1<C.length:=by have:=FM.1;omega
          have F4:gf<K:=by omega
          have nw:bw.length=K:=B.n;obtain⟨v,yk⟩:∃v,bw[gf]'(by rw[nw];exact F4)=v:=⟨_,rfl⟩;have nx:bw[gf]?=some v:=by rw[List.getElem?_eq_getElem (by rw[nw];exact F4),yk]
          obtain⟨X,un⟩:=nm (C[c1]);have lb:C[c1]?=some X:=by rw[List.getElem?_eq_getElem F2,un]
          have mA:Hid (oO bw (I.code.length:Int) (c.work.drop (k+1)) (c.aL.drop (k+1)) (C.set c1 {X with v:=IntKind.u64.wrap v})=bR P):=Z (by
           rw[List.drop_eq_getElem_cons (by rw[M.1];exact G),List.drop_eq_getElem_cons (i:=k) (l:=c.aL) (by rw[M.2];exact G),q,ok,oO,Int.toNat_natCast,lb]at dN;dsimp only at dN;rw[if_pos (by omega),Int.toNat_natCast,List.getD_eq_getElem?_getD,nx]at dN;exact dN)
          obtain⟨s8,k1,Hx,n2,_,s3,_,p3,_⟩:=aS L.code (by show 0<C.length;omega);obtain⟨ch,k2,Hy,c3,_,s4,_,F9,_⟩:=aS L.work (by show 0<c.work.length;rw[M.1];omega);obtain⟨Gu,k3,Hz,k5,_,s5,_,Fr,_⟩:=aS L.aL (by show 0<c.aL.length;rw[M.2];omega);obtain⟨Gv,HB,HA,Gr,_,H5,_,et,_⟩:=aS (E.own FU (by decide) (by decide)) (by omega);subst n2;have ad:wr.cell? (a,0)=some (.slice (some (s8,0)) C.length k1):=L.row.cell rfl;have hl:wr.cell? (a,4)=some Q:=L.row.cell rfl;rw[k5]at hl;rw[show Gf=some ⟨ch,0,none⟩from by rw[kb]at c3;injection c3,show Gp=k2 from by rw[kb]at c3;injection c3]at ce;injection Gr with Gs _ Gt
          subst Gs;subst Gt;have kd:∀(l:List Int) (F6:List Value) (i:Nat) (n:Int),l[i]?=some n->(l.flatMap iu++F6)[i]?=some (.int .i64 n):=fun l F6 i n h=>by
           have c0:=bP (enc:=iu) (k:=1) (fun _=>rfl) h (j:=0) (by omega);rw[Nat.mul_one,Nat.add_zero]at c0;rw[List.getElem?_append_left (List.getElem?_eq_some_iff.1 c0).1,c0];rfl
          have FB:wr.cell? (ch,k)=some (.int .i64 c1):=F9.cell (kd _ _ _ _ og);have FC:wr.cell? (Gu,k)=some (.int .i64 gf):=Fr.cell (kd _ _ _ _ on);have HL:wr.cell? (Gv,gf)=some (.int .i64 v):=et.cell (kd _ _ _ _ nx);have FA:wr.cell? (s8,c1*7+4)=some (.int .u64 X.v):=p3.cell (by
           rw[List.getElem?_append_left (by rw[a7 ej];show c1*7+4<C.length*7;omega)];exact(bP ej lb (j:=4) (by omega)).trans rfl)
          have HK:=p3.free (c1*7+4);have nd:c.aL.length=K:=M.2;have k0:=Z (L.Fa (S:=⟨C,c.work,c.aL⟩) rfl lb (IntKind.u64.wrap v));have Hi:K<=k2:=by have:=M.1;show K<=k2;rw[<-this];exact s4
          have Hj:K<=k3:=by rw[<-nd];exact s5
          rw[nd]at hl;have i1:(k:Int)<K:=by omega
          have i2:(gf:Int)<K:=by omega
          have GZ:(c1:Int)<C.length:=by omega
          have GF:C.length<=k1:=s3;obtain⟨hf,eW⟩:=nm C.length;rw[eW]at ad GZ GF F2 k0;clear L kb hb E dN fn q ok og on F3 F5 nw yk nx un lb c3 k5 p3 F9 Fr et s3 s4 s5 kd nd eW;go_upto_region 49 with fail
          go_still_tail 13,(by kernel_rfl)
          change wpList _ _ _ _ _ wr.drew;go_wp2_with fail
          go_roundw
          case rel=>exact⟨k+1,C.set c1 {X with v:=IntKind.u64.wrap v},by omega,by go_num,by rw[List.length_set];exact it,⟨_,k0.1.af ((Ch.refl _ _).drew)⟩,(by have h:=F.trans k0.2.1;exact⟨h.os,h.tape,h.output,h.size,h.block⟩),c2.trans k0.2.2,mA⟩
          case measure=>simp[intOf];omega
         ·have ec:k=K:=by omega
          have J:Hid (C=bR P):=Z (by
           have h:=FK.out;rw[List.drop_of_length_le (by rw[M.1];omega),List.drop_of_length_le (by rw[M.2];omega)]at h;exact h)
          clear ec L hb E dN fn;go_wp2_with fail
          go_meet
          exact⟨C,J,it,H,F⟩
       case rest=>
        obtain⟨C,sl,fn,d,hb⟩:=hcut;obtain⟨pc,B2⟩:=nm wc;rw[B2]at d hb⊢;have FI:=Z sl;have ex:=Z (FE.trans hb);have eC:=Z ((rg.ch (D:=fun i=>a<=i) ⟨ex.os,ex.tape,ex.out.output,ex.size,fun b hb W=>ex.block b (by omega)⟩ (by have:=av.out;omega)));obtain⟨p8,L⟩:=d;have F':=Z L;obtain⟨ac,k4,n8⟩:=aA L.code;have ad:pc.cell? (a,0)=some p8:=L.row.cell rfl;rw[n8]at ad;have FJ:=Z n8;obtain⟨hf,eW⟩:=nm ((⟨C,c.work,c.aL⟩:WS).code.length);rw[eW]at ad;have FR:=Z eW;have Ho:=av.out;obtain⟨t0,t1,t2,t3⟩:=eC.c4;have f0:=eC.free 0;have f1:=eC.free 1;have f2:=eC.free 2;have f3:=eC.free 3;clear L n8 sl fn hb B2 eW;go_wp2_with fail
        clear t0 t1 t2 t3 f0 f1 f2 f3 ad;obtain⟨pi,nC⟩:=nm ((((pc.setCell (ap,0) (.slice ac hf k4)).setCell (ap,1) (.int .i64 0)).setCell (ap,2) (.int .i64 3)).setCell (ap,3) (.int .i64 1));rw[nC];have s6:Ch (aK ap) pc pi:=by rw[<-nC];exact((((Ch.refl _ _).only _ _).only _ _).only _ _).only _ _
        have G1:Row pi ap 36 [.slice ac hf k4,.int .i64 0,.int .i64 3,.int .i64 1]:=by rw[<-nC];exact(((eC.set 0 _).set 1 _).set 2 _).set 3 _
        obtain⟨H1,FA,FB,FC⟩:=G1.c4;refine bodyPost_ret (v:=.agg #[.slice ac hf k4,.int .i64 0,.int .i64 3,.int .i64 1]) ?_ rfl ?_
        ·simp[results,Tryz.f10,go_sem,H1,FA,FB,FC]
        ·have en:=c9.out
         refine⟨_,rfl,?_,?_⟩
         ·have c0:=F'.code
          rw[FJ]at c0;rw[<-FI];have GO:C.length=hf:=FR.out;have ci:=ar c0 s6 (fun g N e=>by
           have c3:g=ap:=e;have:=(bJ c0 N).1;omega)
          have hm:pi.ownsRow a 121 7 (.slice ac C.length k4) C.length (C.flatMap dg):=ci;rw[GO]at hm⊢;exact dM hm (by omega)
         ·have hb:=(gk.gU).trans (ex.mono (by omega))
          exact(Ch.bY hb).fresh s6 (fun i He e=>by have c3:i=ap:=e;omega)
end Go.Proofs.YtfnilkpkogipfaaGreatDoor
