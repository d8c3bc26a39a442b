import Derived.Deep.RegionLaw
import Derived.Deep.DeepCutAuto
import Derived.StillTailTactics
import Derived.BigQuiet
import Derived.Test.YtlihkblppjgebaaGreatDoorZAo
set_option linter.all false
set_option maxRecDepth 100000
set_option maxHeartbeats 8000000
namespace Go.Proofs.YtlihkblppjgebaaGreatDoor
open Go.RowKit Go.Proofs.Tryz
theorem N8{w w1:World}{B p b i c a:Nat}{code:List aV}{labels:List (ByteArray×Int)}{lines:List Int}{m:List (Int×Int×ByteArray)}{j k g:Value}(v:Int)
 (u:w.heap[p]?=some (.cells #[.slice (some ⟨b,0,none⟩) code.length i,j,k,.map (some c),g] 296 (0,0))) (z:B<=p) (o:w.ownsRow B 184 7 (.slice (some ⟨b,0,none⟩) code.length i) code.length (b' code))
 (C:w.ownsRow B 301 2 j labels.length (FZ labels)) (G:w.ownsRow B 3 1 k lines.length (Gv lines)) (hw:w.ownsRow B 300 3 g m.length (FT m))
 (D:B<=c) (r:w.heap[c]?=some (.map (FP labels) labels.length)) (d:Below w.heap.size w w1) (A:a<code.length):
 FU (w1.setCell ⟨b,a*7+4,none⟩ (.int .u64 v)) B p p ⟨Fa code a v,labels,lines,m⟩/\Below B w (w1.setCell ⟨b,a*7+4,none⟩ (.int .u64 v))/\
  (w1.setCell ⟨b,a*7+4,none⟩ (.int .u64 v)).cell? ⟨p,4,none⟩=some g:=by
 have f:=Gn o d;have n:=Gn C d;have t:=Gn G d;have y:=Gn hw d;have I:=(Array.getElem?_eq_some_iff.1 u).1;have x:w1.heap[p]?=some (.cells #[.slice (some ⟨b,0,none⟩) code.length i,j,k,.map (some c),g] 296 (0,0)):=by rw[d.block p I];exact u
 have s:w1.heap[c]?=some (.map (FP labels) labels.length):=by rw[d.block c (Array.getElem?_eq_some_iff.1 r).1];exact r
 have H:p≠b:=fun e=>by
  have:=FE f x (by decide);exact this (by rw[e];rfl)
 have F:c≠b:=fun e=>by
  have:=HB f s;exact this (by rw[e];rfl)
 have l:(w1.setCell ⟨b,a*7+4,none⟩ (.int .u64 v)).heap[p]?=some (.cells #[.slice (some ⟨b,0,none⟩) code.length i,j,k,.map (some c),g] 296 (0,0)):=by
  rw[FN (by simpa using H)];exact x
 have q:(w1.setCell ⟨b,a*7+4,none⟩ (.int .u64 v)).ownsRow B 184 7 (.slice (some ⟨b,0,none⟩) (Fa code a v).length i) (Fa code a v).length (b' (Fa code a v)):=by
  rw[IY,<-Ip code a v A];exact JL f (by rw[lU];omega) _
 refine⟨⟨_,j,k,g,c,by rw[l,IY],z,q,FE q l (by decide),?_,?_,?_,D,?_⟩,?_,Fx l⟩
 ·exact ownsRow_setCell_other n (by exact(Gi n f (by decide)).elim (fun h=>by rw[h];simp) (fun h=>h)) _
 ·exact ownsRow_setCell_other t (by exact(Gi t f (by decide)).elim (fun h=>by rw[h];simp) (fun h=>h)) _
 ·exact ownsRow_setCell_other y (by exact(Gi y f (by decide)).elim (fun h=>by rw[h];simp) (fun h=>h)) _
 ·rw[FN (by simpa using F)];exact s
 ·have E:=o.lt b rfl
  exact(d.mono (by omega)).setCell (by simpa using E.1) _
theorem Ih{W:World}{a:Obj}{n:Nat}(h:n=W.heap.size):(W.alloc a).heap[n]?=some a:=by subst h;exact hs
theorem LN(s:ByteArray)(lC:s.size<=65536)(m:Int)(w:World)(l:w.cell? ⟨1,0,none⟩=some (.int .i64 m)):
 Calls prog 96 #[.string s] w (Pq (GL s) w):=by
 have kI:= @run_makeMap prog;have jU:1<w.heap.size:=World.block_lt_of_cell? w _ l;obtain⟨J,eW⟩:∃J:World,J=(w.alloc (.map #[] 0)).alloc (.cells #[.slice none 0 0,.slice none 0 0,.slice none 0 0,.map (some w.heap.size),.slice none 0 0] 296):=⟨_,rfl⟩;have ip:J.cell? ⟨1,0,none⟩=some (.int .i64 m):=by rw[eW];rw[World.cell?_alloc_past _ _ _ (by simp;omega),World.cell?_alloc_past _ _ _ jU];exact l
 have hw:=Z (bR s OS m J (by omega) ip (by decide));have a0:=Z eW;clear l ip eW;go_enter func96,ntmps96
 go_wp2_with fail
 rw[<-a0.out];refine hw.out.mono ?_;rintro e ex ⟨rfl,c4⟩;obtain⟨f,al⟩:=mn (GJ s);have i5:Lib.countB s OS+1=f.length:=by rw[al];exact(H' s).symm
 have hlen:f.length<=65537:=by rw[al];have:=Kg s;omega
 have kM:Hid (∀x∈f,x.size<=65536):=by
  intro x S;rw[al]at S;have:=Io OS _ s x S;omega
 have es:Hid (GL s=G7 f):=by show _=_;rw[al];rfl
 have kN:J.heap.size=w.heap.size+2:=by rw[a0.out];simp
 have ge:GD ex J.heap.size f:=by
  refine⟨_,by rw[c4];exact hs,fun j x hj=> ?_⟩;rw[al]at hj;simpa[GJ]using hj
 have i7:Below w.heap.size w J:=by rw[a0.out];exact((Below.refl _ _).alloc (Nat.le_refl _) _).alloc (by simp) _
 have i8:Below w.heap.size w ex:=by rw[c4];exact i7.alloc (by omega) _
 have gc:FU ex w.heap.size (w.heap.size+1) (w.heap.size+1) Hc:=by
  refine⟨.slice none 0 0,.slice none 0 0,.slice none 0 0,.slice none 0 0,w.heap.size,?_,by omega,World.ownsRow_nil _ _ _ _,by simp[Value.ownBlock],World.ownsRow_nil _ _ _ _,World.ownsRow_nil _ _ _ _,World.ownsRow_nil _ _ _ _,Nat.le_refl _,?_⟩
  ·rw[c4,Gk (by omega),a0.out,show w.heap.size+1=(w.alloc (.map #[] 0)).heap.size from by simp]
   exact hs
  ·rw[c4,Gk (by omega),a0.out,Gk (by simp)]
   exact hs
 rw[i5];obtain⟨g,ih⟩:=mn J.heap.size;rw[<-ih]at ge⊢;obtain⟨p,d⟩:=mn (w.heap.size+1);rw[<-d]at gc;obtain⟨N,eS⟩:=mn f.length;rw[<-eS]at hlen⊢;have cm:=Z eS;have hv:=Z ge;have hn:=Z gc;have gr:=Z i8;have lB:w.heap.size<=p:=by omega
 have hi:=Z d;clear c4 al i5 kN ge i7 i8 gc ih a0 hw eS d kI;try rw[<-hi.out]
 go_wp2_with fail
 try rw[<-hi.out]
 go_loopw [28] (fun k' wr=>∃(k:Nat) (st:FJ),k<=N/\k'=.int .i64 k/\FU wr w.heap.size p p st/\Hid (KD st)/\st.code.length<=k/\st.labels.length<=k/\st.lines.length<=k/\st.bp.length<=3*k/\Below w.heap.size w wr/\GD wr g f/\Hid (GB (f.drop k) k st=GB f 0 Hc)) (fun s _=>N-(intOf s).toNat)
 case atStart=>exact⟨0,Hc,by omega,rfl,hn.out,M2,by simp[Hc],by simp[Hc],by simp[Hc],by simp[Hc],gr.out,hv.out,rfl⟩
 case round=>
  obtain⟨k,st,lv,rfl,cW,cq,ll,k5,lm,k9,B,dr,cl⟩:=hrel;by_cases lw:k<N
  ·have c8:f[k]?=some (FM f k):=by
    unfold FM;rw[List.getD_eq_getElem?_getD,List.getElem?_eq_getElem (by rw[<-cm.out];omega)];rfl
   have iF:=kM.out (FM f k) (List.mem_of_getElem? c8);have jG:wr.cell? ⟨g,k,none⟩=some (.string (FM f k)):=dr.cell c8;have E:Hid (f.drop k=FM f k::f.drop (k+1)):=by
    show _=_
    rw[List.drop_eq_getElem_cons (by rw[<-cm.out];omega)]
    congr 1
    rw[List.getElem?_eq_getElem (by rw[<-cm.out];omega)]at c8;exact Option.some.inj c8
   obtain⟨y,iL⟩:=mn (FM f k);rw[<-iL]at jG iF E;have ci:=Z (MZ y iF k w.heap.size p st wr cW (by have:=B.size;omega) (by omega) (by omega) (by omega) (by omega));have ce:=Z B;have jm:=Z dr;clear c8 iL cW B dr;rcases R:IX st y k with tt|gk
   ·have dN:Hid (Calls prog 144 #[.pointer (some ⟨p,0,none⟩),.string y,.int .i64 k] wr (F4 (.error tt) w.heap.size p k wr)):=by
     have h:=ci.out;rw[R]at h;exact h
    have F:Hid (GL s=.error (tt,(k:Int))):=by
     show _=_
     rw[es.out];unfold G7;rw[<-cl.out,E.out,GB,R]
    clear R ci;go_wp2_with (go_at_call 144;refine dN.out.mono ?_;rintro e w' ⟨v,rfl,⟨lb,inner,rfl,jX,kd,kO⟩,k0⟩)
    go_ret3;rw[F.out];exact⟨_,_,rfl,⟨_,_,rfl,jX,kd,kO⟩,fun _=>rfl,ce.out.trans k0⟩
   ·have dN:Hid (Calls prog 144 #[.pointer (some ⟨p,0,none⟩),.string y,.int .i64 k] wr (F4 (.ok gk) w.heap.size p k wr)):=by
     have h:=ci.out;rw[R]at h;exact h
    have i':Hid (GB (f.drop (k+1)) ((k:Int)+1) gk=GB f 0 Hc):=by
     show _=_;rw[<-cl.out,E.out,GB,R]
    have c2:=Z (M0 cq.out R);clear R ci;go_wp2_with (go_at_call 144;refine dN.out.mono ?_;rintro e w' ⟨rfl,kK,jY,kG⟩)
    go_roundw
    case rel=>exact⟨k+1,gk,by omega,by go_num,kK,c2.out.1,by have:=c2.out.2.code;omega,by have:=c2.out.2.labels;omega,by have:=c2.out.2.lines;omega,by have:=c2.out.2.bp;omega,ce.out.trans jY,jm.out.keep kG,by show _=_;rw[<-i'.out];congr 1⟩
    case measure=>simp[intOf];omega
  ·have he:Hid (GB f 0 Hc=.ok st):=by
    show _=_
    rw[<-cl.out,List.drop_eq_nil_of_le (by rw[<-cm.out];omega)];rfl
   have hu:=Z cW;have ce:=Z B;have lk:=B.size;clear cW B dr cl hn hv gr;obtain⟨bv,V,dC,cb,G,d,H,q,D,n,u,o,I,l⟩:=hu.out.parts;obtain⟨aw,c3,rfl⟩:=Gd o;have iT:wr.cell? ⟨p,4,none⟩=some (.slice aw st.bp.length c3):=Fx d;clear d H q D n u I l;go_wp2_with fail
   obtain⟨L,g4⟩:=mn st.bp.length;rw[<-g4]at iT o k9⊢;have Y:=Z g4;clear g4 o;go_loopw [46] (fun l0 W=>∃(j:Nat) (code:List aV),j<=L/\l0=.int .i64 j/\FU W w.heap.size p p {st with code:=code}/\W.cell? ⟨p,4,none⟩=some (.slice aw L c3)/\Hid (code.length=st.code.length)/\Below w.heap.size w W/\Hid (G6 st.labels (st.bp.drop j) code=G6 st.labels st.bp st.code)) (fun s _=>L-(intOf s).toNat)
   case atStart=>exact⟨0,st.code,by omega,rfl,hu.out,iT,rfl,ce.out,rfl⟩
   case round=>
    obtain⟨j,code,hj,rfl,am,iv,gt,ab,cs⟩:=hrel;by_cases fr:j<L
    ·obtain⟨bv,V,dC,cb,G,d,H,q,D,n,u,o,I,l⟩:=am.parts
     have jI:cb=.slice aw L c3:=by
      have:=Fx (i:=4) d;rw[iv]at this;exact(Option.some.inj this).symm
     subst jI;have S:st.bp[j]?=some (st.bp[j]'(by rw[<-Y.out];exact fr)):=List.getElem?_eq_getElem _;obtain⟨x,gf⟩:∃x,x=st.bp[j]'(by rw[<-Y.out];exact fr):=⟨_,rfl⟩;rw[<-gf]at S;have iz:x∈st.bp:=List.mem_of_getElem? S;have kP:=cq.out.want x iz;obtain⟨a2,le,kt⟩:=Hd o (by simp only[<-Y.out];omega);injection kt with kw kx kA
     subst kw;clear kx kA;obtain⟨k1,k2,k3⟩:=Hv st.bp j x S;have ap:wr.ownsRow w.heap.size 300 3 (.slice (some ⟨a2,0,none⟩) L c3) L (FT st.bp):=(by simpa only[<-Y.out]using o);have eA:wr.cell? ⟨a2,j*3,none⟩=some (.int .i64 x.1):=Gw ap k1;have i0:wr.cell? ⟨a2,j*3+1,none⟩=some (.int .i64 x.2.1):=Gw ap k2;have eC:wr.cell? ⟨a2,j*3+2,none⟩=some (.string x.2.2):=Gw ap k3;have lp:a2<wr.heap.size:=(ap.lt a2 rfl).2;have cL:p<wr.heap.size:=(Array.getElem?_eq_some_iff.1 d).1;have U:wr.cell? ⟨p,0,none⟩=some bv:=Fx d;have bi:wr.cell? ⟨p,1,none⟩=some V:=Fx d;have kS:wr.cell? ⟨p,3,none⟩=some (.map (some G)):=Fx d;have k4:G<wr.heap.size:=(Array.getElem?_eq_some_iff.1 l).1;have kb:L<=c3:=(by obtain⟨_,_,h,_⟩:=GZ ap;exact h);have Q:∀nq,(Instr.lookup 293 (.map (some G)) (.string x.2.2) true).run prog ((wr.alloc (.cells #[.int .i64 x.1,.int .i64 x.2.1,.string x.2.2] 300)).drewN nq)=.ok (IV (F5 st.labels x.2.2 0)) ((wr.alloc (.cells #[.int .i64 x.1,.int .i64 x.2.1,.string x.2.2] 300)).drewN nq):=fun nq=>
      Hl _ G st.labels st.labels.length _ (by show(wr.alloc _).heap[G]?=_;rw[Gk k4];exact l)
     have E:Hid (st.bp.drop j=x::st.bp.drop (j+1)):=by
      show _=_
      rw[List.drop_eq_getElem_cons (by rw[<-Y.out];exact fr),gf]
     have je:=Z d;have M:=Z q;have l7:=Z D;have X:=Z n;have j6:=Z u;have jp:=Z o;have j5:=Z l;have c0:=Z ab;have hm:=Z am;have jV:=ab.size;clear d q D n u o l ab am k1 k2 k3 S gf iz ap;rcases ad:F5 st.labels x.2.2 0 with _|i
     ·rw[ad]at Q
      have F:Hid (GL s=.error (false,0)):=by
       show _=_
       rw[es.out];unfold G7;rw[he.out];have e:G6 st.labels st.bp st.code=none:=(by rw[<-cs.out,E.out,G6,ad]);dsimp only;unfold GY;rw[e]
      clear ad;unfold IV at Q;go_wp2_with fail
      go_quiet (fail)
      clear Q;go_wp2_with (go_at_call 142;refine(FD _ _ _ _).mono ?_;rintro e w' ⟨rfl,rfl⟩)
      go_ret3;rw[F.out];exact⟨_,_,rfl,⟨_,_,rfl,by omega,Ih (by simp),(fun h=>by cases h)⟩,(fun h=>by cases h),((below_drewN (c0.out.alloc (by omega) _) _).alloc (by simp;omega) _)⟩
     ·rw[ad]at Q
      unfold IV at Q;have lu:=IZ _ _ _ _ ad;obtain⟨A,K,rfl⟩:=Hd X.out (by simp only;omega);have C:st.labels[i]?=some (st.labels[i]'(by omega)):=List.getElem?_eq_getElem _;obtain⟨y,av⟩:=mn (st.labels[i]'(by omega));rw[<-av]at C;have kQ:=cq.out.Nf y (List.mem_of_getElem? C);have i1:wr.cell? ⟨A,i*2+1,none⟩=some (.int .i64 y.2):=Gw X.out (Gu st.labels i y C).2;have ii:A<wr.heap.size:=(X.out.lt A rfl).2;obtain⟨a,fb⟩:=Int.eq_ofNat_of_zero_le kP.1;have fd:a<code.length:=(by have:=gt.out;omega);obtain⟨P,i2,rfl⟩:=Hd M.out (by simp only;omega);have i6:code[a]?=some (code[a]'fd):=List.getElem?_eq_getElem _;have i3:wr.cell? ⟨P,a*7+4,none⟩=some (.int .u64 (code[a]'fd).v):=Gw M.out (Jo code a _ i6);have i4:wr.frozen? ⟨P,a*7+4,none⟩=false:=LM M.out _;have ik:P<wr.heap.size:=(M.out.lt P rfl).2;have j1:Hid (M1 st.labels i=y.2):=(by show _=_;unfold M1;rw[C];rfl);have iV:=Z fb;rw[fb]at eA Q;have ls:(i:Int)<(st.labels.length:Int):=(by omega);have lt:(a:Int)<(code.length:Int):=(by omega);clear C av i6 fb;go_wp2_with fail
      go_quiet (fail)
      clear Q;have lE:0<=y.2:=kQ.1;have lI:y.2<=18446744073709551615:=(by omega);obtain⟨a1,a3⟩:=nm ((wr.alloc (.cells #[.int .i64 a,.int .i64 x.2.1,.string x.2.2] 300)).drewN nq);have bw:∀b T,b<wr.heap.size->a1.cell? ⟨b,T,none⟩=wr.cell? ⟨b,T,none⟩:=by
       intro b T B;rw[<-a3];exact World.cell?_alloc_past _ _ _ B
      have go:∀b T,b<wr.heap.size->a1.frozen? ⟨b,T,none⟩=wr.frozen? ⟨b,T,none⟩:=by
       intro b T B;rw[<-a3];exact World.frozen?_alloc_past _ _ _ B
      have kU:=(bw p 0 cL).trans U;have kW:=(bw p 1 cL).trans bi;have kX:=(bw A (i*2+1) ii).trans i1;have rl:=(bw P (a*7+4) ik).trans i3;have lM:=(go P (a*7+4) ik).trans i4;have lN:a1.cell? ⟨wr.heap.size,0,none⟩=some (.int .i64 a):=by
       rw[<-a3];exact Fx (c:=#[.int .i64 a,.int .i64 x.2.1,.string x.2.2]) (t:=300) hs
      have gs:Hid (Below wr.heap.size wr a1):=(by rw[<-a3];exact below_drewN ((Below.refl _ _).alloc (Nat.le_refl _) _) _);have ln:P<a1.heap.size:=(by have:=gs.out.size;omega);rw[a3];clear a3 bw go U bi kS eA i0 eC i1 i3 i4;go_wp2_with fail
      go_still_tail 17,(by kernel_rfl)
      change wpList _ _ _ _ _ a1.drew;have hF:=N8 (a:=a) y.2 je.out H M.out X.out j6.out jp.out I j5.out gs.out fd;have et:=Z hF;clear hF kU kW kX;go_wp2
      go_roundw
      case rel=>exact⟨j+1,Fa code a y.2,by omega,by go_num,et.out.1,et.out.2.2,by show _=_;rw[IY];exact gt.out,c0.out.trans (et.out.2.1).drew,by
       show _=_
       rw[<-cs.out,E.out,G6,ad,iV.out,<-j1.out];rfl⟩
      case measure=>simp[intOf];omega
    ·have hB:Hid (G6 st.labels st.bp st.code=some code):=by
      show _=_;rw[<-cs.out,List.drop_eq_nil_of_le (by rw[<-Y.out];omega)];rfl
     have hm:=Z am;have c0:=Z ab;have jV:=ab.size;obtain⟨bv,V,dC,cb,G,d,H,q,D,n,u,o,I,l⟩:=am.parts;obtain⟨jv,i2,rfl⟩:=Gd q;obtain⟨ct,K,rfl⟩:=Gd n;have U:wr.cell? ⟨p,0,none⟩=some (.slice jv code.length i2):=Fx d;have bi:wr.cell? ⟨p,1,none⟩=some (.slice ct st.labels.length K):=Fx d;clear am ab iv cs d H q D n u o I l;obtain⟨c9,fz⟩:=mn code.length;rw[<-fz]at U;have c1:=Z fz;clear fz;have en:Hid (GL s=match GY st with|some r=> .ok r|none=> .error (false,0)):=by
      show _=_
      rw[es.out];unfold G7;rw[he.out];rfl
     by_cases i9:2048<c9
     ·have F:Hid (GL s=.error (false,0)):=by
       show _=_
       rw[en.out];unfold GY;rw[hB.out];dsimp only;rw[if_pos (by rw[<-c1.out];exact i9)]
      go_wp2_with (go_at_call 142;refine(FD _ _ _ _).mono ?_;rintro e w' ⟨rfl,rfl⟩)
      go_ret3;rw[F.out];exact⟨_,_,rfl,⟨_,_,rfl,by omega,Ih (by simp),(fun h=>by cases h)⟩,(fun h=>by cases h),(c0.out.alloc (by omega) _)⟩
     ·have hf:Hid (GY st=if st.labels.any (fun b=>b.2==(code.length:Int))then none else some (code,st.labels)):=by
       show _=_
       unfold GY;rw[hB.out];dsimp only;rw[if_neg (by rw[<-c1.out];exact i9)]
      go_wp2_with fail
      obtain⟨z,g2⟩:=mn st.labels.length;rw[<-g2]at bi k5⊢;have O:=Z g2;clear g2;go_loopw [97] (fun l1 W=>∃(i:Nat),i<=z/\l1=.int .i64 i/\FU W w.heap.size p p {st with code:=code}/\W.cell? ⟨p,1,none⟩=some (.slice ct z K)/\Below w.heap.size w W/\Hid (st.labels.any (fun b=>b.2==(code.length:Int))=(st.labels.drop i).any (fun b=>b.2==(code.length:Int)))) (fun s _=>z-(intOf s).toNat)
      case atStart=>exact⟨0,by omega,rfl,hm.out,bi,c0.out,rfl⟩
      case round=>
       obtain⟨i,lq,rfl,c7,cS,c5,cd⟩:=hrel;clear U bi;by_cases fn:i<z
       ·obtain⟨bv,V,dC,cb,G,d,H,q,D,n,u,o,I,l⟩:=c7.parts
        have cA:V=.slice ct z K:=by
         have:=Fx (i:=1) d;rw[cS]at this;exact(Option.some.inj this).symm
        subst cA;obtain⟨jw,jy,rfl⟩:=Gd q;obtain⟨A,lc,kg⟩:=Hd n (by simp only[<-O.out];omega);injection kg with ko kp ks
        subst ko;clear kp ks;have C:st.labels[i]?=some (st.labels[i]'(by rw[<-O.out];exact fn)):=List.getElem?_eq_getElem _;obtain⟨y,av⟩:∃y,y=st.labels[i]'(by rw[<-O.out];exact fn):=⟨_,rfl⟩;rw[<-av]at C;have c6:wr.ownsRow w.heap.size 301 2 (.slice (some ⟨A,0,none⟩) z K) z (FZ st.labels):=(by simpa only[<-O.out]using n);have eA:wr.cell? ⟨A,i*2,none⟩=some (.string y.1):=Gw c6 (Gu st.labels i y C).1;have i0:wr.cell? ⟨A,i*2+1,none⟩=some (.int .i64 y.2):=Gw c6 (Gu st.labels i y C).2;have ii:A<wr.heap.size:=(c6.lt A rfl).2;have kb:z<=K:=(by obtain⟨_,_,h,_⟩:=GZ c6;exact h);have ix:st.lines.length=z:=(by rw[O.out];exact cq.out.same.symm);obtain⟨cC,jA,rfl⟩:=Hd u (by simp only;omega);have it:(Gv st.lines)[i]?=some (.int .i64 (st.lines[i]'(by omega))):=by
         unfold Gv;rw[List.getElem?_map,List.getElem?_eq_getElem (by omega)];rfl
        have eC:wr.cell? ⟨cC,i,none⟩=some (.int .i64 (st.lines[i]'(by omega))):=Gw u it;obtain⟨lJ,io⟩:=mn (st.lines[i]'(by omega));rw[<-io]at eC;have lo:cC<wr.heap.size:=(u.lt cC rfl).2;have cL:p<wr.heap.size:=(Array.getElem?_eq_some_iff.1 d).1;have U:wr.cell? ⟨p,0,none⟩=some (.slice jw c9 jy):=(by rw[c1.out];exact Fx d);have lL:wr.cell? ⟨p,2,none⟩=some (.slice (some ⟨cC,0,none⟩) z jA):=(by rw[<-ix];exact Fx d);have E:Hid (st.labels.drop i=y::st.labels.drop (i+1)):=by
         show _=_
         rw[List.drop_eq_getElem_cons (by rw[<-O.out];exact fn),av]
        have jk:=Z c7;have ch:=Z c5;have jg:=Z cS;have li:=c5.size;clear d H q D n u o I l C av c6 it io ix c7 c5 cS;by_cases heq:y.2=(c9:Int)
        ·have kf:(y.2==(c9:Int))=true:=by rw[beq_iff_eq];exact heq
         have F:Hid (GL s=.error (false,0)):=by
          show _=_
          have eL:st.labels.any (fun b=>b.2==(code.length:Int))=true:=by
           rw[cd.out,E.out,List.any_cons];have:(y.2==(code.length:Int))=true:=(by rw[beq_iff_eq,heq,c1.out]);rw[this];rfl
          rw[en.out,hf.out,eL];rfl
         clear heq;go_wp2_with fail
         go_quiet (fail)
         go_wp2_with (go_at_call 142;refine(FD _ _ _ _).mono ?_;rintro e w' ⟨rfl,rfl⟩)
         go_ret3;rw[F.out];exact⟨_,_,rfl,⟨_,_,rfl,by omega,Ih (by simp),(fun h=>by cases h)⟩,(fun h=>by cases h),((below_drewN (ch.out.alloc (by omega) _) _).alloc (by simp;omega) _)⟩
        ·have kf:(y.2==(c9:Int))=false:=by rw[beq_eq_false_iff_ne];exact heq
         have iW:Hid (st.labels.any (fun b=>b.2==(code.length:Int))=(st.labels.drop (i+1)).any (fun b=>b.2==(code.length:Int))):=by
          show _=_
          rw[cd.out,E.out,List.any_cons];have:(y.2==(code.length:Int))=false:=(by rw[beq_eq_false_iff_ne,<-c1.out];exact heq);rw[this];rfl
         clear heq;have ec:Hid (∀nq,FU ((wr.alloc (.cells #[.string y.1,.int .i64 y.2] 301)).drewN nq) w.heap.size p p {st with code:=code}/\((wr.alloc (.cells #[.string y.1,.int .i64 y.2] 301)).drewN nq).cell? ⟨p,1,none⟩=some (.slice (some ⟨A,0,none⟩) z K)/\Below w.heap.size w ((wr.alloc (.cells #[.string y.1,.int .i64 y.2] 301)).drewN nq)):=by
          intro nq;refine⟨jk.out.below (below_drewN ((Below.refl _ _).alloc (Nat.le_refl _) _) _),?_,below_drewN (ch.out.alloc (by omega) _) _⟩;show(wr.alloc _).cell? _=_
          rw[World.cell?_alloc_past _ _ _ cL];exact jg.out
         go_wp2_with fail
         go_quiet (fail)
         go_wp2
         go_roundw
         case rel=>exact⟨i+1,by omega,by go_num,(ec.out _).1,(ec.out _).2.1,(ec.out _).2.2,iW.out⟩
         case measure=>simp[intOf];omega
       ·have F:Hid (GL s=.ok (code,st.labels)):=by
         show _=_
         have eL:st.labels.any (fun b=>b.2==(code.length:Int))=false:=by
          rw[cd.out,List.drop_eq_nil_of_le (by rw[<-O.out];omega)];rfl
         rw[en.out,hf.out,eL];rfl
        obtain⟨bv,V,dC,cb,G,d,H,q,D,n,u,o,I,l⟩:=c7.parts;have U:wr.cell? ⟨p,0,none⟩=some bv:=Fx d;have cA:V=.slice ct z K:=by
         have:=Fx (i:=1) d;rw[cS]at this;exact(Option.some.inj this).symm
        have M:=Z q;have X:=Z n;have ch:=Z c5;have iZ:=Z cA;clear c7 d H q D n u o I l c5 cA cd;go_wp2_with fail
        go_quiet (fail)
        go_wp2_with fail
        go_ret3;rw[F.out];exact⟨_,_,rfl,M.out,by rw[<-iZ.out];exact X.out,below_drewN ch.out _⟩
end Go.Proofs.YtlihkblppjgebaaGreatDoor
