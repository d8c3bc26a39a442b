import Derived.Test.YtlihkblppjgebaaGreatDoorZBv
set_option linter.all false
set_option maxRecDepth 100000
set_option maxHeartbeats 8000000
namespace Go.Proofs.YtlihkblppjgebaaGreatDoor
open Go.RowKit Go.Proofs.Tryz
section
section
variable{n j d mb N M f tt q p:Nat}{s s' S:AS}{w w' W:World}{F:kG}{T D:ByteArray}{L:List (ByteArray×Int)}
def ids(l:List Nat):List Int:=l.map fun y:Nat=>(y:Int)
theorem ik(l:List Nat):(ids l).length=l.length:=List.length_map _
theorem pD(l l2:List Nat):ids (l++l2)=ids l++ids l2:=by unfold ids;rw[List.map_append]
theorem iA.ch{α:Type}{w w':World}{v:Value}{k:Nat}{enc:α->List Value}{l:List α}(h:iA w w.heap.size v k enc l)(c:Ch ag w w'):iA w' w'.heap.size v k enc l:=by
 obtain⟨a,m,o,r,t⟩:=h;refine⟨a,m,o,r,fun q x A=> ?_⟩;obtain⟨g,i,y,b,hj⟩:=t q x A;exact⟨g,i,y,Nat.lt_of_lt_of_le b c.size,fun j u z=>(c.cell (p:=⟨g,i+q*k+j,none⟩) b (fun e=>e)).trans (hj j u z)⟩
theorem kI(I:FK ks n S):∀k,k<=n->FK ks n (ek S k)/\∀i,i<k->Ia (ek S k) i=90
 |0,_=>⟨I,fun i h=>absurd h (by omega)⟩
 |k+1,g=>by
  obtain⟨a,b⟩:=kI I k (by omega);refine⟨FK.set (by omega) trivial 400 _ a,fun i e=> ?_⟩;by_cases c:i=k
  ·subst c
   exact fF a (by omega) trivial
  ·exact(K8 (oI c 400 _)).trans (b i (by omega))
def iL(s:AS)(k:Nat):List Nat:=s.ring++(List.range k).flatMap (cont s.sh)
theorem j1(s:AS)(k:Nat):iL s (k+1)=iL s k++cont s.sh k:=by
 unfold iL;rw[List.range_succ,List.flatMap_append,List.append_assoc];simp
theorem mP(s:AS){k n:Nat}(h:k<=n):(iL s k).length<=(iL s n).length:=by
 induction h with
 |refl=>exact Nat.le_refl _
 |step _ ih=>rw[j1,List.length_append];omega
def qf(v:Value)(E:List lT)(F:kG):Prop:=(E=[]/\F=[])∨∃g cap a,v=.slice (some ⟨g,0,none⟩) E.length cap/\F=[(g,41,E.flatMap j7++a)]
theorem qf.at_{v:Value}{E:List lT}(h:qf v E F)(H:LW F w mb n N s W){k:Nat}{x:lT}(b:E[k]?=some x):
 ∃g cap,v=.slice (some ⟨g,0,none⟩) E.length cap/\W.cell? ⟨g,k*3,none⟩=some (.int .i64 x.kind)/\W.cell? ⟨g,k*3+1,none⟩=some (.int .i64 x.wk)/\W.cell? ⟨g,k*3+2,none⟩=some (.int .u64 x.draw):=by
 rcases h with⟨rfl,_⟩|⟨g,cap,c,rfl,rfl⟩
 ·cases b
 ·have r:=H.row (List.mem_singleton.2 rfl)
  have a:=Od (k:=3) (enc:=j7) (fun _=>rfl) r b;exact⟨g,cap,rfl,a 0 (by decide) _ rfl,a 1 (by decide) _ rfl,a 2 (by decide) _ rfl⟩
def qM(F:kG)(w:World)(mb n N:Nat)(e:Ending)(w':World):Prop:=∃v S,e=.returned v/\LW F w mb n N S w'/\FK ks n S
theorem qg(h:LW F w mb n N S W)(I:FK ks n S)(l:1<=n){x:lT}(b:pG n x)(g:N<=300000):
 Calls prog 13 #[.pointer (some ⟨mb,0,none⟩),.agg #[.int .i64 x.kind,.int .i64 x.wk,.int .u64 x.draw]] W (qM F w mb n (N+1)):=by
 obtain⟨kd,wk,dr⟩:=x;obtain⟨a,b⟩:=b;dsimp only at a b;rcases b with⟨rfl,i,k⟩|rfl
 ·obtain⟨j,rfl⟩:=Int.eq_ofNat_of_zero_le i
  obtain⟨d,rfl⟩:=Int.eq_ofNat_of_zero_le a.lo;have hj:j<n:=by omega
  refine(OV h I hj trivial (show d<qO by have:=a.hi;unfold qO;omega) g).mono ?_;rintro e w' ⟨v,rfl,c⟩;exact⟨v,_,rfl,c,I.step hj trivial⟩
 ·refine(pB h wk dr a g).mono ?_
  rintro e w' ⟨v,rfl,c⟩;exact⟨v,_,rfl,c,I⟩
theorem nV(X:I4 T D L)(wk:Int)(l:List Int)(fz:∀x∈l,aH x)(v:Value)(w:World)(g2:iA w w.heap.size v 1 (fun x=>[.int .u64 x]) l)(m:Int)(a0:w.cell? ⟨1,0,none⟩=some (.int .i64 m))
 (al:w.cell? ⟨0,0,none⟩=some (.iface 390 (.agg #[.pointer (some ⟨4,85,none⟩)]))):
 Calls prog 7 #[.int .i64 wk,v] w (dt (.bool true) w):=by
 obtain⟨kw,fK,kb,kd,kf⟩:=info_parts jt;have hf:=Z fK;clear fK;have ec:=Z g2;obtain⟨a,c,rfl,cd,t⟩:=g2;obtain⟨i0,fb⟩:∃N,l.length=N:=⟨_,rfl⟩;rw[fb]at ec cd⊢;have hv:=Z fz;clear fb t fz;have k5:=dJ wk 4 (by decide);have eA:=Z (ot wk 4 (by decide) w);obtain⟨V,ih⟩:=nm (cN wk 4);rw[ih]at k5 eA;obtain⟨n,md⟩:∃n:Nat,1+V=n:=⟨(1+V).toNat,by omega⟩;have jp:1<=n/\n<=4:=by omega
 have hi:Hid (Calls prog 25 #[.int .i64 n,.int .i64 500] w (OX w n 500)):=Z (Of X (n:=n) (tt:=500) (by omega) (by omega) m w a0 al);have gR:Hid (FK ks n (F9 n 500)):=Z (MK ks (by omega) (by omega) (by omega) (by decide) rfl);have hr:Hid (∀mb N F S W,N<=2000->LW F w mb n N S W->FK ks n S->Calls prog 28 #[.pointer (some ⟨mb,0,none⟩),.int .i64 n] W (hW F w mb n (N+n*400) (ek S n))):=Z (fun mb N F S W lt h I=>
  gw (ok:=ks) X h I (fun k _=>Or.inl trivial) (by omega) (by omega) m a0)
 have hq:Hid (∀W,Ch ag w W->Calls prog 11 #[.int .i64 n,.slice a i0 c,.int .i64 1500] W (Ag n 1500 W)):=Z (fun W c4=>lS n (by omega) (by omega) 1500 (by omega) l hv.out _ W (ec.out.ch c4));clear X a0 al;go_enter func7,ntmps7
 go_wp2_with fail
 with_reducible refine eA.out.mono ?_
 rintro e mL ⟨rfl,rfl⟩;go_wp2_with fail
 with_reducible refine hi.out.mono ?_
 rintro e w1 ⟨mb,rfl,a2⟩;have bw:=Z a2;clear a2;go_wp2_with fail
 with_reducible refine(hq.out _ bw.out.c).mono ?_
 rintro e w2 ⟨⟨E,lb,rfl,c9,i9,fn⟩,ce⟩;obtain⟨F,hF,gt⟩:∃F,qf lb E F/\Hid (LW F w mb n 1 (F9 n 500) w2):=by
  by_cases U:E=[]
  ·exact⟨[],Or.inl ⟨U,rfl⟩,Z (bw.out.af ce)⟩
  ·obtain⟨g,cap,bi,B,J,-,-,K,-⟩:=aS c9 (List.length_pos_iff.2 U)
   exact⟨[(g,41,E.flatMap j7++bi)],Or.inr ⟨g,cap,bi,B,rfl⟩,Z (bw.out.new ce (fun x o=>by obtain rfl:=List.mem_singleton.1 o;exact⟨J,K⟩))⟩
 obtain⟨mn,mp,rfl⟩:=aA c9;obtain⟨R,cb⟩:∃n,E.length=n:=⟨_,rfl⟩;rw[cb]at hF i9⊢;have he:=Z hF;have es:=Z (And.intro cb fn);clear c9 fn hF ce cb;go_upto_block 0 with fail
 go_cut [] (fun wc=>∃S,LW F w mb n 1501 S wc/\FK ks n S)
 case first=>
  go_wp2_with fail
  go_loopw [8] (fun j wr=>∃(i:Nat) (S:AS),i<=R/\j=.int .i64 i/\LW F w mb n (1+i) S wr/\FK ks n S) (fun j _=>R-(intOf j).toNat)
  case atStart=>exact⟨0,_,by omega,rfl,gt.out,gR.out⟩
  case round=>
   obtain⟨i,S,l',rfl,t,ab⟩:=hrel;by_cases C:i<R
   ·obtain⟨x,o⟩:∃x,E[i]?=some x:=⟨_,List.getElem?_eq_getElem (by rw[es.out.1];exact C)⟩
    have gJ:=Z (qg t ab jp.1 (es.out.2 x (List.mem_of_getElem? o)) (by omega));obtain⟨g,cap,c5,y0,cL,mS⟩:=he.out.at_ t o;injection c5 with B J K
    subst B;have io:(i:Int)<R:=(by omega);clear o J K t ab;go_wp2_with fail
    with_reducible refine gJ.out.mono ?_
    rintro e cC ⟨mA,i1,rfl,eS,go⟩;have cS:=Z (And.intro eS go);clear eS go;go_wp2_with fail
    go_roundw
    case rel=>exact⟨i+1,i1,by omega,by go_num,cS.out.1,cS.out.2⟩
    case measure=>simp[intOf];omega
   ·have eL:=Z (And.intro (t.more (show 1+i<=1501 by omega)) ab)
    have io:¬(i:Int)<R:=(by omega);clear t ab;go_wp2_with fail
    go_meet
    exact⟨S,eL.out.1,eL.out.2⟩
 case rest=>
  obtain⟨S,eO,cm⟩:=hcut;have et:=Z (hr.out mb 1501 F S _ (by omega) eO cm);obtain⟨ct,cA⟩:=kI cm n (Nat.le_refl n);obtain⟨b,fd⟩:=nm (ek S n);rw[fd]at ct cA et;have Q:=Z (And.intro ct cA);clear eO cm ct cA fd;go_wp2_with fail
  with_reducible refine et.out.mono ?_
  rintro e w4 ⟨rfl,c6⟩;have P:=Z c6;have ho:=Z (Ld c6);clear c6;go_wp2_with fail
  with_reducible refine ho.out.mono ?_
  rintro e cC k0;obtain⟨⟨le,rfl,am⟩,ad⟩:=k0;obtain⟨gp,gr⟩:=oM Q.out.1 (fun k A=>Q.out.2 k A);have c0:Hid ((∀id,val b.sh id->(iL b n).count id=1)/\(iL b n).length=b.nb):=Z ⟨gp,gr⟩;have c7:(iL b n).length<=64:=by
   rw[c0.out.2];obtain⟨_,_,hB,_⟩:=Q.out.1;exact hB.si.nb
  have HA:Hid (∃u,jI w.heap.size le (ids (iL b 0)) u/\LW u w mb n (1501+n*400) b cC):=Z (by
   have c5:iL b 0=b.ring:=(by unfold iL;simp);rw[c5];by_cases U:b.ring=[]
   ·have cl:ids b.ring=[]:=by rw[U];rfl
    rcases am.2 with⟨ci,_⟩|⟨g,cap,cur,ci,eY,al,Y,a0,k2,mk⟩
    ·exact⟨[],Or.inl ⟨ci,cl,rfl⟩,P.out.new ad (fun x o=>by cases o)⟩
    ·have k1:Row cC g 39 cur.toList:=by unfold Row;simpa using al
     refine⟨[(g,39,cur.toList)],Or.inr ⟨g,0,cap,_,by rw[ci,List.length_map,ik],rfl,Nat.le_trans P.out.c.size eY,by rw[cl];exact Nat.zero_le _,a0,by rw[Array.length_toList,k2];omega,fun k x A=>by rw[cl]at A;cases A⟩,P.out.new ad (fun x o=>by obtain rfl:=List.mem_singleton.1 o;exact⟨eY,k1⟩)⟩
   ·obtain⟨g,cap,bi,B,J,K,i4,i5,i6⟩:=aS am (by rw[List.length_map];exact List.length_pos_iff.2 U)
    refine⟨[(g,39,_)],Or.inr ⟨g,0,cap,_,by rw[B,ik,List.length_map],rfl,Nat.le_trans P.out.c.size J,by rw[ik];rw[List.length_map]at K;exact K,i4,by rw[i6];omega,fun k x A=> ?_⟩,P.out.new ad (fun x o=>by obtain rfl:=List.mem_singleton.1 o;exact⟨J,i5⟩)⟩;have fT:=(List.getElem?_eq_some_iff.1 A).1;rw[ik]at fT;rw[Nat.zero_add,List.getElem?_append_left (by rw[List.length_map,List.length_map];exact fT),List.getElem?_map];unfold ids at A;rw[A]
    rfl)
  obtain⟨lm,lp,rfl⟩:=aA am;rw[List.length_map]at HA;clear am ad gp gr;go_upto_block 2 with fail
  go_cut [9] (fun v z=>∃u,jI w.heap.size v (ids (iL b n)) u/\LW u w mb n (1501+n*400) b z)
  case first=>
   go_wp2_with fail
   go_loopw [9,10] (fun v i wr=>∃k:Nat,k<=n/\i=.int .i64 k/\∃u,jI w.heap.size v (ids (iL b k)) u/\LW u w mb n (1501+n*400) b wr) (fun _ i _=>n-(intOf i).toNat)
   case atStart=>
    obtain⟨u,a2,i8⟩:=HA.out;exact⟨0,by omega,rfl,u,a2,i8⟩
   case round=>
    obtain⟨k,A,rfl,u,hw,t⟩:=hrel;obtain⟨aw,c4,rfl,-,-⟩:=hw.sl;have c1:=Z hw;have H:=Z t;have hlen:(ids (iL b k)).length<=64:=(by rw[ik];exact Nat.le_trans (mP b A) c7);by_cases C:k<n
    ·have it:(k:Int)<n:=by omega
     have iv:(ids (iL b k)).length+(ids (cont b.sh k)).length<=1000:=by
      have:=mP b (show k+1<=n from C);rw[j1,List.length_append]at this;rw[ik,ik];omega
     have gL:=Z (hk (j:=k) t Q.out.1 C (Q.out.2 k C));obtain⟨q,ch⟩:=nm ((ids (iL b k)).length);rw[ch]at c1⊢;have li:=Z ch;clear hw t ch;go_wp2_with fail
     with_reducible refine gL.out.mono ?_
     rintro e gs ⟨t1,t2,lc,rfl,gc,eW⟩;have dr:=Z eW;have k3:w.heap.size<=gs.heap.size:=dr.out.c.size;have gb:gs.ownsRow wr.heap.size 39 1 lc (ids (cont b.sh k)).length ((ids (cont b.sh k)).map (Value.int .u64)):=(by rw[ik];exact gc);have hn:=Z gb;clear gc eW gb;go_wp2_with (at_builtin;go_loud (refine jy (by rfl) _ _ 29 (by rfl) kw _ underlying29 hf.out kb kd kf rfl (by rfl) c1.out dr.out (Nat.le_refl _) k3 iv (by rfl) hn.out ?_))
     intro ms F2 ll gf g4 k4;have eC:=Z (And.intro gf g4);clear gf g4 k4;go_wp2_with fail
     go_roundw
     case rel=>exact⟨k+1,by omega,by go_num,F2,by rw[j1,pD];exact eC.out.1,eC.out.2⟩
     case measure=>simp[intOf];omega
    ·obtain rfl:k=n:=by omega
     clear hw t;go_wp2_with fail
     go_meet
     exact⟨u,c1.out,H.out⟩
  case rest=>
   obtain⟨u,hw,t⟩:=hcut;obtain⟨aw,c4,rfl,-,-⟩:=hw.sl;obtain⟨y,c8⟩:∃q,b.nb=q:=⟨_,rfl⟩;have a3:(iL b n).length=y:=c0.out.2.trans c8;have hu:=Z (p' t);have gA:Hid (∀(j x:Nat) z,LW u w mb n (1501+n*400) b z->(iL b n)[j]?=some x->∃g a1,aw=some ⟨g,a1,none⟩/\z.cell? ⟨g,a1+j,none⟩=some (.int .u64 (x:Int))):=Z (fun j x z h o=>by
    obtain⟨g,a1,c,e,cd⟩:=hw.at_ h (k:=j) (x:=(x:Int)) (by unfold ids;rw[List.getElem?_map,o];rfl);injection e with B _ _
    exact⟨g,a1,B,cd⟩)
   rw[ik,a3];have dC:=Z a3;have lv:y<=64:=(by rw[<-a3];exact c7);have hm:=Z c8;have gC:Hid (∀k,k<y->(iL b n).count (64+k)=1):=Z (fun k A=>c0.out.1 _ ⟨by omega,by show 64+k<64+b.nb;omega⟩);clear hw t c8 a3 c7;go_wp2_with fail
   with_reducible refine hu.out.mono ?_
   rintro e bv ⟨mC,i2,rfl,ap,fo,fr,eU,ii⟩;rw[hm.out]at ap fo;obtain⟨at_,ls,rfl⟩:=aA ap;have ex:Hid (∀k z,Ch ag bv z->k<y->∃g,at_=some ⟨g,0,none⟩/\z.cell? ⟨g,k*7,none⟩=some (.int .u64 (64+(k:Int)))/\z.cell? ⟨g,k*7+1,none⟩=some (.int .i64 1)):=Z (fun k z i3 A=>by
    obtain⟨g,cap,bi,e,-,-,-,r,-⟩:=aS ap (by omega);injection e with B _ _
    obtain⟨x,o⟩:∃x,i2[k]?=some x:=⟨_,List.getElem?_eq_getElem (by omega)⟩;obtain⟨l0,l1⟩:=fr k x o;have gk:=Od (k:=7) (enc:=lV.cells) (fun _=>rfl) (r.ch i3 (fun e=>e)) o;have y0:=gk 0 (by decide) (.int .u64 x.id) rfl;have cL:=gk 1 (by decide) (.int .i64 x.state) rfl;rw[l0,show((64+k:Nat):Int)=64+(k:Int)by omega,Nat.add_zero]at y0;rw[l1]at cL;exact⟨g,B,y0,cL⟩)
   have cW:=Z eU;clear ap fo fr eU ii;go_wp2_with fail
   go_loopw [15] (fun i wr=>∃k:Nat,k<=y/\i=.int .i64 k/\Ch ag bv wr) (fun i _=>y-(intOf i).toNat)
   case atStart=>exact⟨0,by omega,rfl,Ch.refl _ _⟩
   case round=>
    obtain⟨k,A,rfl,fE⟩:=hrel;have e1:=Z fE;clear fE;by_cases C:k<y
    ·have it:(k:Int)<y:=by omega
     go_upto_block 6 with fail
     go_cut [16] (fun cs z=>cs=.int .i64 1/\Ch ag bv z)
     case first=>
      go_wp2_with fail
      go_loopw [16,17] (fun cs cq z=>∃j:Nat,j<=y/\cq=.int .i64 j/\cs=.int .i64 (((iL b n).take j).count (64+k))/\Ch ag bv z) (fun _ cq _=>y-(intOf cq).toNat)
      case atStart=>exact⟨0,by omega,rfl,rfl,e1.out⟩
      case round=>
       obtain⟨j,hj,rfl,rfl,O⟩:=hrel;have G:=Z O;clear O;obtain⟨c3,Y⟩:∃q,((iL b n).take j).count (64+k)=q:=⟨_,rfl⟩;have lw:c3<=64:=by
        rw[<-Y];refine Nat.le_trans List.count_le_length ?_;rw[List.length_take];omega
       rw[Y];have dN:=Z Y;clear Y;by_cases ip:j<y
       ·obtain⟨x,o⟩:∃x,(iL b n)[j]?=some x:=⟨_,List.getElem?_eq_getElem (by rw[dC.out];exact ip)⟩
        obtain⟨g,a1,rfl,lo⟩:=gA.out j x wr (cW.out.af G.out) o;obtain⟨i7,rfl,t0,t1⟩:=ex.out k wr G.out C;have ge:((iL b n).take (j+1)).count (64+k)=c3+if x=64+k then 1 else 0:=by
         rw[List.take_succ,o,List.count_append,dN.out];show c3+[x].count (64+k)=_
         rw[List.count_singleton];by_cases c:x=64+k
         ·rw[if_pos c,if_pos (by simpa using c)]
         ·rw[if_neg c,if_neg (by simpa using c)]
        have en:=Z ge;have mc:(j:Int)<y:=(by omega);clear o ge;by_cases av:x=64+k
        ·have hb:((x:Int)==64+(k:Int))=true:=by simp;omega
         have c2:=Z av;clear av;go_wp2_with fail
         go_quiet (fail)
         go_wp2_with fail
         go_roundw
         case rel=>exact⟨j+1,by omega,by go_num,by rw[en.out,if_pos c2.out];rfl,G.out.trans ((Ch.refl _ _).drewN _)⟩
         case measure=>simp[intOf];omega
        ·have hb:((x:Int)==64+(k:Int))=false:=by simp;omega
         have c2:=Z av;clear av;go_wp2_with fail
         go_quiet (fail)
         go_wp2_with fail
         go_roundw
         case rel=>exact⟨j+1,by omega,by go_num,by rw[en.out,if_neg c2.out];rfl,G.out.trans ((Ch.refl _ _).drewN _)⟩
         case measure=>simp[intOf];omega
       ·obtain rfl:j=y:=by omega
        have e:=dN.out;rw[List.take_of_length_le (by rw[dC.out];exact Nat.le_refl _),gC.out k C]at e;subst e;go_wp2_with fail
        go_meet
        exact⟨rfl,G.out⟩
     case rest=>
      obtain⟨rfl,O⟩:=hcut;have G:=Z O;obtain⟨i7,rfl,t0,t1⟩:=ex.out k _ O C;clear O;go_wp2_with fail
      go_roundw
      case rel=>exact⟨k+1,by omega,by go_num,G.out⟩
      case measure=>simp[intOf];omega
    ·obtain rfl:k=y:=by omega
     go_wp2_with fail
     go_ret;exact dt.mk rfl (cW.out.c.trans e1.out)
end
end
end Go.Proofs.YtlihkblppjgebaaGreatDoor
