import Derived.Deep.RegionLaw
import Derived.Deep.DeepCutAuto
import Derived.StillTailTactics
import Derived.BigQuiet
import Derived.Test.YtlihkblppjgebaaGreatDoorZAo
set_option linter.all false
set_option maxRecDepth 100000
set_option maxHeartbeats 8000000
namespace Go.Proofs.YtlihkblppjgebaaGreatDoor
open Go.RowKit Go.Proofs.Tryz
theorem N8{w w1:World}{B p b i c a:Nat}{code:List aV}{labels:List (ByteArray×Int)}{lines:List Int}{m:List (Int×Int×ByteArray)}{j k g:Value}(v:Int)
 (u:w.heap[p]?=some (.cells #[.slice (some ⟨b,0,none⟩) code.length i,j,k,.map (some c),g] 296 (0,0))) (z:B<=p) (o:w.ownsRow B 184 7 (.slice (some ⟨b,0,none⟩) code.length i) code.length (b' code))
 (hb:w.ownsRow B 301 2 j labels.length (FZ labels)) (F:w.ownsRow B 3 1 k lines.length (Gv lines)) (hw:w.ownsRow B 300 3 g m.length (FT m))
 (C:B<=c) (r:w.heap[c]?=some (.map (FP labels) labels.length)) (d:Below w.heap.size w w1) (A:a<code.length):
 FU (w1.setCell ⟨b,a*7+4,none⟩ (.int .u64 v)) B p p ⟨Fa code a v,labels,lines,m⟩/\Below B w (w1.setCell ⟨b,a*7+4,none⟩ (.int .u64 v))/\
  (w1.setCell ⟨b,a*7+4,none⟩ (.int .u64 v)).cell? ⟨p,4,none⟩=some g:=by
 have f:=Gn o d;have n:=Gn hb d;have t:=Gn F d;have y:=Gn hw d;have H:=(Array.getElem?_eq_some_iff.1 u).1;have x:w1.heap[p]?=some (.cells #[.slice (some ⟨b,0,none⟩) code.length i,j,k,.map (some c),g] 296 (0,0)):=by rw[d.block p H];exact u
 have s:w1.heap[c]?=some (.map (FP labels) labels.length):=by rw[d.block c (Array.getElem?_eq_some_iff.1 r).1];exact r
 have G:p≠b:=fun e=>by
  have:=FE f x (by decide);exact this (by rw[e];rfl)
 have E:c≠b:=fun e=>by
  have:=HB f s;exact this (by rw[e];rfl)
 have l:(w1.setCell ⟨b,a*7+4,none⟩ (.int .u64 v)).heap[p]?=some (.cells #[.slice (some ⟨b,0,none⟩) code.length i,j,k,.map (some c),g] 296 (0,0)):=by
  rw[FN (by simpa using G)];exact x
 have q:(w1.setCell ⟨b,a*7+4,none⟩ (.int .u64 v)).ownsRow B 184 7 (.slice (some ⟨b,0,none⟩) (Fa code a v).length i) (Fa code a v).length (b' (Fa code a v)):=by
  rw[IY,<-Ip code a v A];exact JL f (by rw[lU];omega) _
 refine⟨⟨_,j,k,g,c,by rw[l,IY],z,q,FE q l (by decide),?_,?_,?_,C,?_⟩,?_,Fx l⟩
 ·exact ownsRow_setCell_other n (by exact(Gi n f (by decide)).elim (fun h=>by rw[h];simp) (fun h=>h)) _
 ·exact ownsRow_setCell_other t (by exact(Gi t f (by decide)).elim (fun h=>by rw[h];simp) (fun h=>h)) _
 ·exact ownsRow_setCell_other y (by exact(Gi y f (by decide)).elim (fun h=>by rw[h];simp) (fun h=>h)) _
 ·rw[FN (by simpa using E)];exact s
 ·have D:=o.lt b rfl
  exact(d.mono (by omega)).setCell (by simpa using D.1) _
theorem Ih{W:World}{a:Obj}{n:Nat}(h:n=W.heap.size):(W.alloc a).heap[n]?=some a:=by subst h;exact hs
theorem LN(s:ByteArray)(p8:s.size<=65536)(m:Int)(w:World)(l:w.cell? ⟨1,0,none⟩=some (.int .i64 m)):
 Calls prog 96 #[.string s] w (Pq (GL s) w):=by
 have md:= @run_makeMap prog;have kd:1<w.heap.size:=World.block_lt_of_cell? w _ l;obtain⟨I,eL⟩:∃I:World,I=(w.alloc (.map #[] 0)).alloc (.cells #[.slice none 0 0,.slice none 0 0,.slice none 0 0,.map (some w.heap.size),.slice none 0 0] 296):=⟨_,rfl⟩;have hu:I.cell? ⟨1,0,none⟩=some (.int .i64 m):=by rw[eL];rw[World.cell?_alloc_past _ _ _ (by simp;omega),World.cell?_alloc_past _ _ _ kd];exact l
 have gp:=Z (bR s OS m I (by omega) hu (by decide));have Y:=Z eL;clear l hu eL;go_enter func96,ntmps96
 go_wp2_with fail
 rw[<-Y.out];refine gp.out.mono ?_;rintro e es ⟨rfl,c3⟩;obtain⟨f,ad⟩:=mn (GJ s);have gR:Lib.countB s OS+1=f.length:=by rw[ad];exact(H' s).symm
 have hlen:f.length<=65537:=by rw[ad];have:=Kg s;omega
 have mp:Hid (∀x∈f,x.size<=65536):=by
  intro x R;rw[ad]at R;have:=Io OS _ s x R;omega
 have ec:Hid (GL s=G7 f):=by show _=_;rw[ad];rfl
 have ms:I.heap.size=w.heap.size+2:=by rw[Y.out];simp
 have fo:GD es I.heap.size f:=by
  refine⟨_,by rw[c3];exact hs,fun j x hj=> ?_⟩;rw[ad]at hj;simpa[GJ]using hj
 have hf:Below w.heap.size w I:=by rw[Y.out];exact((Below.refl _ _).alloc (Nat.le_refl _) _).alloc (by simp) _
 have hi:Below w.heap.size w es:=by rw[c3];exact hf.alloc (by omega) _
 have fn:FU es w.heap.size (w.heap.size+1) (w.heap.size+1) Hc:=by
  refine⟨.slice none 0 0,.slice none 0 0,.slice none 0 0,.slice none 0 0,w.heap.size,?_,by omega,World.ownsRow_nil _ _ _ _,by simp[Value.ownBlock],World.ownsRow_nil _ _ _ _,World.ownsRow_nil _ _ _ _,World.ownsRow_nil _ _ _ _,Nat.le_refl _,?_⟩
  ·rw[c3,Gk (by omega),Y.out,show w.heap.size+1=(w.alloc (.map #[] 0)).heap.size from by simp]
   exact hs
  ·rw[c3,Gk (by omega),Y.out,Gk (by simp)]
   exact hs
 rw[gR];obtain⟨g,hn⟩:=mn I.heap.size;rw[<-hn]at fo⊢;obtain⟨p,d⟩:=mn (w.heap.size+1);rw[<-d]at fn;obtain⟨N,eC⟩:=mn f.length;rw[<-eC]at hlen⊢;have cl:=Z eC;have go:=Z fo;have gf:=Z fn;have fK:=Z hi;have p6:w.heap.size<=p:=by omega
 have gc:=Z d;clear c3 ad gR ms fo hf hi fn hn Y gp eC d md;try rw[<-gc.out]
 go_wp2_with fail
 try rw[<-gc.out]
 go_loopw [28] (fun n2 wr=>∃(k:Nat) (st:FJ),k<=N/\n2=.int .i64 k/\FU wr w.heap.size p p st/\Hid (KD st)/\st.code.length<=k/\st.labels.length<=k/\st.lines.length<=k/\st.bp.length<=3*k/\Below w.heap.size w wr/\GD wr g f/\Hid (GB (f.drop k) k st=GB f 0 Hc)) (fun s _=>N-(intOf s).toNat)
 case atStart=>exact⟨0,Hc,by omega,rfl,gf.out,M2,by simp[Hc],by simp[Hc],by simp[Hc],by simp[Hc],fK.out,go.out,rfl⟩
 case round=>
  obtain⟨k,st,p4,rfl,cS,cm,nC,lc,ob,le,hb,cW,ci⟩:=hrel;by_cases p5:k<N
  ·have c7:f[k]?=some (FM f k):=by
    unfold FM;rw[List.getD_eq_getElem?_getD,List.getElem?_eq_getElem (by rw[<-cl.out];omega)];rfl
   have i0:=mp.out (FM f k) (List.mem_of_getElem? c7);have k5:wr.cell? ⟨g,k,none⟩=some (.string (FM f k)):=cW.cell c7;have D:Hid (f.drop k=FM f k::f.drop (k+1)):=by
    show _=_
    rw[List.drop_eq_getElem_cons (by rw[<-cl.out];omega)]
    congr 1
    rw[List.getElem?_eq_getElem (by rw[<-cl.out];omega)]at c7;exact Option.some.inj c7
   obtain⟨y,i1⟩:=mn (FM f k);rw[<-i1]at k5 i0 D;have ch:=Z (MZ y i0 k w.heap.size p st wr cS (by have:=hb.size;omega) (by omega) (by omega) (by omega) (by omega));have cd:=Z hb;have ip:=Z cW;clear c7 i1 cS hb cW;rcases Q:IX st y k with tt|fz
   ·have dC:Hid (Calls prog 144 #[.pointer (some ⟨p,0,none⟩),.string y,.int .i64 k] wr (F4 (.error tt) w.heap.size p k wr)):=by
     have h:=ch.out;rw[Q]at h;exact h
    have E:Hid (GL s=.error (tt,(k:Int))):=by
     show _=_
     rw[ec.out];unfold G7;rw[<-ci.out,D.out,GB,Q]
    clear Q ch;go_wp2_with (go_at_call 144;refine dC.out.mono ?_;rintro e w' ⟨v,rfl,⟨ne,inner,rfl,kw,ll,mA⟩,l1⟩)
    go_ret3;rw[E.out];exact⟨_,_,rfl,⟨_,_,rfl,kw,ll,mA⟩,fun _=>rfl,cd.out.trans l1⟩
   ·have dC:Hid (Calls prog 144 #[.pointer (some ⟨p,0,none⟩),.string y,.int .i64 k] wr (F4 (.ok fz) w.heap.size p k wr)):=by
     have h:=ch.out;rw[Q]at h;exact h
    have i6:Hid (GB (f.drop (k+1)) ((k:Int)+1) fz=GB f 0 Hc):=by
     show _=_;rw[<-ci.out,D.out,GB,Q]
    have c1:=Z (M0 cm.out Q);clear Q ch;go_wp2_with (go_at_call 144;refine dC.out.mono ?_;rintro e w' ⟨rfl,mk,l0,mc⟩)
    go_roundw
    case rel=>exact⟨k+1,fz,by omega,by go_num,mk,c1.out.1,by have:=c1.out.2.code;omega,by have:=c1.out.2.labels;omega,by have:=c1.out.2.lines;omega,by have:=c1.out.2.bp;omega,cd.out.trans l0,ip.out.keep mc,by show _=_;rw[<-i6.out];congr 1⟩
    case measure=>simp[intOf];omega
  ·have g4:Hid (GB f 0 Hc=.ok st):=by
    show _=_
    rw[<-ci.out,List.drop_eq_nil_of_le (by rw[<-cl.out];omega)];rfl
   have gk:=Z cS;have cd:=Z hb;have nx:=hb.size;clear cS hb cW ci gf go fK;obtain⟨bi,U,dr,c9,F,d,G,q,C,n,u,o,H,l⟩:=gk.out.parts;obtain⟨aw,c2,rfl⟩:=Gd o;have i2:wr.cell? ⟨p,4,none⟩=some (.slice aw st.bp.length c2):=Fx d;clear d G q C n u H l;go_wp2_with fail
   obtain⟨K,fd⟩:=mn st.bp.length;rw[<-fd]at i2 o le⊢;have X:=Z fd;clear fd o;go_loopw [46] (fun n8 V=>∃(j:Nat) (code:List aV),j<=K/\n8=.int .i64 j/\FU V w.heap.size p p {st with code:=code}/\V.cell? ⟨p,4,none⟩=some (.slice aw K c2)/\Hid (code.length=st.code.length)/\Below w.heap.size w V/\Hid (G6 st.labels (st.bp.drop j) code=G6 st.labels st.bp st.code)) (fun s _=>K-(intOf s).toNat)
   case atStart=>exact⟨0,st.code,by omega,rfl,gk.out,i2,rfl,cd.out,rfl⟩
   case round=>
    obtain⟨j,code,hj,rfl,al,hw,g2,a3,cq⟩:=hrel;by_cases eW:j<K
    ·obtain⟨bi,U,dr,c9,F,d,G,q,C,n,u,o,H,l⟩:=al.parts
     have kb:c9=.slice aw K c2:=by
      have:=Fx (i:=4) d;rw[hw]at this;exact(Option.some.inj this).symm
     subst kb;have R:st.bp[j]?=some (st.bp[j]'(by rw[<-X.out];exact eW)):=List.getElem?_eq_getElem _;obtain⟨x,fr⟩:∃x,x=st.bp[j]'(by rw[<-X.out];exact eW):=⟨_,rfl⟩;rw[<-fr]at R;have hF:x∈st.bp:=List.mem_of_getElem? R;have mC:=cm.out.want x hF;obtain⟨a1,no,lv⟩:=Hd o (by simp only[<-X.out];omega);injection lv with lw l' mb
     subst lw;clear l' mb;obtain⟨k1,k2,k3⟩:=Hv st.bp j x R;have am:wr.ownsRow w.heap.size 300 3 (.slice (some ⟨a1,0,none⟩) K c2) K (FT st.bp):=(by simpa only[<-X.out]using o);have et:wr.cell? ⟨a1,j*3,none⟩=some (.int .i64 x.1):=Gw am k1;have gt:wr.cell? ⟨a1,j*3+1,none⟩=some (.int .i64 x.2.1):=Gw am k2;have ex:wr.cell? ⟨a1,j*3+2,none⟩=some (.string x.2.2):=Gw am k3;have on:a1<wr.heap.size:=(am.lt a1 rfl).2;have cC:p<wr.heap.size:=(Array.getElem?_eq_some_iff.1 d).1;have T:wr.cell? ⟨p,0,none⟩=some bi:=Fx d;have av:wr.cell? ⟨p,1,none⟩=some U:=Fx d;have mS:wr.cell? ⟨p,3,none⟩=some (.map (some F)):=Fx d;have lb:F<wr.heap.size:=(Array.getElem?_eq_some_iff.1 l).1;have li:K<=c2:=(by obtain⟨_,_,h,_⟩:=GZ am;exact h);have P:∀nq,(Instr.lookup 293 (.map (some F)) (.string x.2.2) true).run prog ((wr.alloc (.cells #[.int .i64 x.1,.int .i64 x.2.1,.string x.2.2] 300)).drewN nq)=.ok (IV (F5 st.labels x.2.2 0)) ((wr.alloc (.cells #[.int .i64 x.1,.int .i64 x.2.1,.string x.2.2] 300)).drewN nq):=fun nq=>
      Hl _ F st.labels st.labels.length _ (by show(wr.alloc _).heap[F]?=_;rw[Gk lb];exact l)
     have D:Hid (st.bp.drop j=x::st.bp.drop (j+1)):=by
      show _=_
      rw[List.drop_eq_getElem_cons (by rw[<-X.out];exact eW),fr]
     have ih:=Z d;have L:=Z q;have nd:=Z C;have W:=Z n;have i9:=Z u;have it:=Z o;have i8:=Z l;have bw:=Z a3;have ge:=Z al;have kf:=a3.size;clear d q C n u o l a3 al k1 k2 k3 R fr hF am;rcases ab:F5 st.labels x.2.2 0 with _|i
     ·rw[ab]at P
      have E:Hid (GL s=.error (false,0)):=by
       show _=_
       rw[ec.out];unfold G7;rw[g4.out];have e:G6 st.labels st.bp st.code=none:=(by rw[<-cq.out,D.out,G6,ab]);dsimp only;unfold GY;rw[e]
      clear ab;unfold IV at P;go_wp2_with fail
      go_quiet (fail)
      clear P;go_wp2_with (go_at_call 142;refine(FD _ _ _ _).mono ?_;rintro e w' ⟨rfl,rfl⟩)
      go_ret3;rw[E.out];exact⟨_,_,rfl,⟨_,_,rfl,by omega,Ih (by simp),(fun h=>by cases h)⟩,(fun h=>by cases h),((below_drewN (bw.out.alloc (by omega) _) _).alloc (by simp;omega) _)⟩
     ·rw[ab]at P
      unfold IV at P;have p3:=IZ _ _ _ _ ab;obtain⟨A,J,rfl⟩:=Hd W.out (by simp only;omega);have B:st.labels[i]?=some (st.labels[i]'(by omega)):=List.getElem?_eq_getElem _;obtain⟨y,ap⟩:=mn (st.labels[i]'(by omega));rw[<-ap]at B;have mL:=cm.out.Nf y (List.mem_of_getElem? B);have gA:wr.cell? ⟨A,i*2+1,none⟩=some (.int .i64 y.2):=Gw W.out (Gu st.labels i y B).2;have ho:A<wr.heap.size:=(W.out.lt A rfl).2;obtain⟨a,eO⟩:=Int.eq_ofNat_of_zero_le mC.1;have eS:a<code.length:=(by have:=g2.out;omega);obtain⟨O,gC,rfl⟩:=Hd L.out (by simp only;omega);have he:code[a]?=some (code[a]'eS):=List.getElem?_eq_getElem _;have gJ:wr.cell? ⟨O,a*7+4,none⟩=some (.int .u64 (code[a]'eS).v):=Gw L.out (Jo code a _ he);have gL:wr.frozen? ⟨O,a*7+4,none⟩=false:=LM L.out _;have hq:O<wr.heap.size:=(L.out.lt O rfl).2;have i7:Hid (M1 st.labels i=y.2):=(by show _=_;unfold M1;rw[B];rfl);have i3:=Z eO;rw[eO]at et P;have ov:(i:Int)<(st.labels.length:Int):=(by omega);have ow:(a:Int)<(code.length:Int):=(by omega);clear B ap he eO;go_wp2_with fail
      go_quiet (fail)
      clear P;have pa:0<=y.2:=mL.1;have pc:y.2<=18446744073709551615:=(by omega);obtain⟨a0,a2⟩:=nm ((wr.alloc (.cells #[.int .i64 a,.int .i64 x.2.1,.string x.2.2] 300)).drewN nq);have bv:∀b S,b<wr.heap.size->a0.cell? ⟨b,S,none⟩=wr.cell? ⟨b,S,none⟩:=by
       intro b S hb;rw[<-a2];exact World.cell?_alloc_past _ _ _ hb
      have fE:∀b S,b<wr.heap.size->a0.frozen? ⟨b,S,none⟩=wr.frozen? ⟨b,S,none⟩:=by
       intro b S hb;rw[<-a2];exact World.frozen?_alloc_past _ _ _ hb
      have mW:=(bv p 0 cC).trans T;have n0:=(bv p 1 cC).trans av;have n1:=(bv A (i*2+1) ho).trans gA;have rl:=(bv O (a*7+4) hq).trans gJ;have pl:=(fE O (a*7+4) hq).trans gL;have pm:a0.cell? ⟨wr.heap.size,0,none⟩=some (.int .i64 a):=by
       rw[<-a2];exact Fx (c:=#[.int .i64 a,.int .i64 x.2.1,.string x.2.2]) (t:=300) hs
      have fT:Hid (Below wr.heap.size wr a0):=(by rw[<-a2];exact below_drewN ((Below.refl _ _).alloc (Nat.le_refl _) _) _);have og:O<a0.heap.size:=(by have:=fT.out.size;omega);rw[a2];clear a2 bv fE T av mS et gt ex gA gJ gL;go_wp2_with fail
      go_still_tail 17,(by kernel_rfl)
      change wpList _ _ _ _ _ a0.drew;have gs:=N8 (a:=a) y.2 ih.out G L.out W.out i9.out it.out H i8.out fT.out eS;have en:=Z gs;clear gs mW n0 n1;go_wp2
      go_roundw
      case rel=>exact⟨j+1,Fa code a y.2,by omega,by go_num,en.out.1,en.out.2.2,by show _=_;rw[IY];exact g2.out,bw.out.trans (en.out.2.1).drew,by
       show _=_
       rw[<-cq.out,D.out,G6,ab,i3.out,<-i7.out];rfl⟩
      case measure=>simp[intOf];omega
    ·have gr:Hid (G6 st.labels st.bp st.code=some code):=by
      show _=_;rw[<-cq.out,List.drop_eq_nil_of_le (by rw[<-X.out];omega)];rfl
     have ge:=Z al;have bw:=Z a3;have kf:=a3.size;obtain⟨bi,U,dr,c9,F,d,G,q,C,n,u,o,H,l⟩:=al.parts;obtain⟨iv,gC,rfl⟩:=Gd q;obtain⟨cs,J,rfl⟩:=Gd n;have T:wr.cell? ⟨p,0,none⟩=some (.slice iv code.length gC):=Fx d;have av:wr.cell? ⟨p,1,none⟩=some (.slice cs st.labels.length J):=Fx d;clear al a3 hw cq d G q C n u o H l;obtain⟨c8,eY⟩:=mn code.length;rw[<-eY]at T;have c0:=Z eY;clear eY;have e1:Hid (GL s=match GY st with|some r=> .ok r|none=> .error (false,0)):=by
      show _=_
      rw[ec.out];unfold G7;rw[g4.out];rfl
     by_cases hm:2048<c8
     ·have E:Hid (GL s=.error (false,0)):=by
       show _=_
       rw[e1.out];unfold GY;rw[gr.out];dsimp only;rw[if_pos (by rw[<-c0.out];exact hm)]
      go_wp2_with (go_at_call 142;refine(FD _ _ _ _).mono ?_;rintro e w' ⟨rfl,rfl⟩)
      go_ret3;rw[E.out];exact⟨_,_,rfl,⟨_,_,rfl,by omega,Ih (by simp),(fun h=>by cases h)⟩,(fun h=>by cases h),(bw.out.alloc (by omega) _)⟩
     ·have gb:Hid (GY st=if st.labels.any (fun b=>b.2==(code.length:Int))then none else some (code,st.labels)):=by
       show _=_
       unfold GY;rw[gr.out];dsimp only;rw[if_neg (by rw[<-c0.out];exact hm)]
      go_wp2_with fail
      obtain⟨z,fb⟩:=mn st.labels.length;rw[<-fb]at av lc⊢;have M:=Z fb;clear fb;go_loopw [97] (fun nc V=>∃(i:Nat),i<=z/\nc=.int .i64 i/\FU V w.heap.size p p {st with code:=code}/\V.cell? ⟨p,1,none⟩=some (.slice cs z J)/\Below w.heap.size w V/\Hid (st.labels.any (fun b=>b.2==(code.length:Int))=(st.labels.drop i).any (fun b=>b.2==(code.length:Int)))) (fun s _=>z-(intOf s).toNat)
      case atStart=>exact⟨0,by omega,rfl,ge.out,av,bw.out,rfl⟩
      case round=>
       obtain⟨i,os,rfl,c6,cL,c4,cb⟩:=hrel;clear T av;by_cases eU:i<z
       ·obtain⟨bi,U,dr,c9,F,d,G,q,C,n,u,o,H,l⟩:=c6.parts
        have ct:U=.slice cs z J:=by
         have:=Fx (i:=1) d;rw[cL]at this;exact(Option.some.inj this).symm
        subst ct;obtain⟨jp,k0,rfl⟩:=Gd q;obtain⟨A,ni,lo⟩:=Hd n (by simp only[<-M.out];omega);injection lo with lp ls lt
        subst lp;clear ls lt;have B:st.labels[i]?=some (st.labels[i]'(by rw[<-M.out];exact eU)):=List.getElem?_eq_getElem _;obtain⟨y,ap⟩:∃y,y=st.labels[i]'(by rw[<-M.out];exact eU):=⟨_,rfl⟩;rw[<-ap]at B;have c5:wr.ownsRow w.heap.size 301 2 (.slice (some ⟨A,0,none⟩) z J) z (FZ st.labels):=(by simpa only[<-M.out]using n);have et:wr.cell? ⟨A,i*2,none⟩=some (.string y.1):=Gw c5 (Gu st.labels i y B).1;have gt:wr.cell? ⟨A,i*2+1,none⟩=some (.int .i64 y.2):=Gw c5 (Gu st.labels i y B).2;have ho:A<wr.heap.size:=(c5.lt A rfl).2;have li:z<=J:=(by obtain⟨_,_,h,_⟩:=GZ c5;exact h);have hB:st.lines.length=z:=(by rw[M.out];exact cm.out.same.symm);obtain⟨cA,k4,rfl⟩:=Hd u (by simp only;omega);have hv:(Gv st.lines)[i]?=some (.int .i64 (st.lines[i]'(by omega))):=by
         unfold Gv;rw[List.getElem?_map,List.getElem?_eq_getElem (by omega)];rfl
        have ex:wr.cell? ⟨cA,i,none⟩=some (.int .i64 (st.lines[i]'(by omega))):=Gw u hv;obtain⟨pi,hr⟩:=mn (st.lines[i]'(by omega));rw[<-hr]at ex;have ok:cA<wr.heap.size:=(u.lt cA rfl).2;have cC:p<wr.heap.size:=(Array.getElem?_eq_some_iff.1 d).1;have T:wr.cell? ⟨p,0,none⟩=some (.slice jp c8 k0):=(by rw[c0.out];exact Fx d);have pk:wr.cell? ⟨p,2,none⟩=some (.slice (some ⟨cA,0,none⟩) z k4):=(by rw[<-hB];exact Fx d);have D:Hid (st.labels.drop i=y::st.labels.drop (i+1)):=by
         show _=_
         rw[List.drop_eq_getElem_cons (by rw[<-M.out];exact eU),ap]
        have io:=Z c6;have ce:=Z c4;have ii:=Z cL;have nw:=c4.size;clear d G q C n u o H l B ap c5 hv hr hB c6 c4 cL;by_cases heq:y.2=(c8:Int)
        ·have lm:(y.2==(c8:Int))=true:=by rw[beq_iff_eq];exact heq
         have E:Hid (GL s=.error (false,0)):=by
          show _=_
          have eA:st.labels.any (fun b=>b.2==(code.length:Int))=true:=by
           rw[cb.out,D.out,List.any_cons];have:(y.2==(code.length:Int))=true:=(by rw[beq_iff_eq,heq,c0.out]);rw[this];rfl
          rw[e1.out,gb.out,eA];rfl
         clear heq;go_wp2_with fail
         go_quiet (fail)
         go_wp2_with (go_at_call 142;refine(FD _ _ _ _).mono ?_;rintro e w' ⟨rfl,rfl⟩)
         go_ret3;rw[E.out];exact⟨_,_,rfl,⟨_,_,rfl,by omega,Ih (by simp),(fun h=>by cases h)⟩,(fun h=>by cases h),((below_drewN (ce.out.alloc (by omega) _) _).alloc (by simp;omega) _)⟩
        ·have lm:(y.2==(c8:Int))=false:=by rw[beq_eq_false_iff_ne];exact heq
         have i4:Hid (st.labels.any (fun b=>b.2==(code.length:Int))=(st.labels.drop (i+1)).any (fun b=>b.2==(code.length:Int))):=by
          show _=_
          rw[cb.out,D.out,List.any_cons];have:(y.2==(code.length:Int))=false:=(by rw[beq_eq_false_iff_ne,<-c0.out];exact heq);rw[this];rfl
         clear heq;have dN:Hid (∀nq,FU ((wr.alloc (.cells #[.string y.1,.int .i64 y.2] 301)).drewN nq) w.heap.size p p {st with code:=code}/\((wr.alloc (.cells #[.string y.1,.int .i64 y.2] 301)).drewN nq).cell? ⟨p,1,none⟩=some (.slice (some ⟨A,0,none⟩) z J)/\Below w.heap.size w ((wr.alloc (.cells #[.string y.1,.int .i64 y.2] 301)).drewN nq)):=by
          intro nq;refine⟨io.out.below (below_drewN ((Below.refl _ _).alloc (Nat.le_refl _) _) _),?_,below_drewN (ce.out.alloc (by omega) _) _⟩;show(wr.alloc _).cell? _=_
          rw[World.cell?_alloc_past _ _ _ cC];exact ii.out
         go_wp2_with fail
         go_quiet (fail)
         go_wp2
         go_roundw
         case rel=>exact⟨i+1,by omega,by go_num,(dN.out _).1,(dN.out _).2.1,(dN.out _).2.2,i4.out⟩
         case measure=>simp[intOf];omega
       ·have E:Hid (GL s=.ok (code,st.labels)):=by
         show _=_
         have eA:st.labels.any (fun b=>b.2==(code.length:Int))=false:=by
          rw[cb.out,List.drop_eq_nil_of_le (by rw[<-M.out];omega)];rfl
         rw[e1.out,gb.out,eA];rfl
        obtain⟨bi,U,dr,c9,F,d,G,q,C,n,u,o,H,l⟩:=c6.parts;have T:wr.cell? ⟨p,0,none⟩=some bi:=Fx d;have ct:U=.slice cs z J:=by
         have:=Fx (i:=1) d;rw[cL]at this;exact(Option.some.inj this).symm
        have L:=Z q;have W:=Z n;have ce:=Z c4;have i5:=Z ct;clear c6 d G q C n u o H l c4 ct cb;go_wp2_with fail
        go_quiet (fail)
        go_wp2_with fail
        go_ret3;rw[E.out];exact⟨_,_,rfl,L.out,by rw[<-i5.out];exact W.out,below_drewN ce.out _⟩
end Go.Proofs.YtlihkblppjgebaaGreatDoor
