import Derived.Deep.RegionHeldLaw
import Derived.Test.YtfnilkpkogipfaaGreatDoorZBk
set_option linter.all false
set_option maxRecDepth 100000
set_option maxHeartbeats 8000000
namespace Go.Proofs.YtfnilkpkogipfaaGreatDoor
open Go.RowKit Go.Proofs.Tryz
theorem hT:(prog.info? 121).map (fun i=>(i.zero,i.size,i.bytes))=some (some (.agg #[.int .i64 0,.int .i64 0,.int .i64 0,.int .i64 0,.int .u64 0,.int .i64 0,.int .i64 0]),7,56):=by kernel_rfl
theorem zI(l:List ByteArray)(j:ByteArray)(am:l[0]?=some j)(gk:∀x∈l,1<=x.size/\x.size<=65536)(n8:l.length<=100000)(gc:¬(b3 j (j.size-1)=58/\l.length=1))(g cap B p:Nat)(S hv:gm)(w:World)(go:dY w g l)(n0:l.length<=cap)(I:dD w B p p S)(mL:B<=w.heap.size)
 (h:pq S l (iJ j b4 0 0)=some hv) (i3:S.code.length<=1000000) (ad:S.bp.length<=1000000):
 Calls prog 104 #[(p,0),.slice (some (g,0)) l.length cap] w (n9 hv B p w):=by
 have t0:w.cell? (g,0)=some (.string j):=go.cell am;have gf:=gk j (List.mem_of_getElem? am);have n:1<=j.size:=gf.1;have z:j.size<=65536:=gf.2;have p1:j.size-1<j.size:=by omega
 have mS:1<=l.length:=by have:=(List.getElem?_eq_some_iff.1 am).1;omega
 obtain⟨A,eA⟩:=nm (iJ j b4 0 0);rw[eA]at h;have hm:=Z eA;have kw:=Z h;have lt:=Z go;have hn:=Z gk;have c0:=Z I;have hf:=Z (And.intro i3 ad);have pc:=Z am;obtain⟨H,ex⟩:=mn l.length;have P:=Z ex;rw[<-ex]at n8 gc n0 mS⊢;clear eA h go gk I i3 ad am gf ex;have hb:((j[j.size-1].toNat:Int)==58)=false∨(((j[j.size-1].toNat:Int)==58)=true/\((H:Int)==1)=false):=by
  cases q:((j[j.size-1].toNat:Int)==58)with
  |false=>exact Or.inl rfl
  |true=>
   refine Or.inr ⟨rfl,?_⟩;rw[b6,beq_iff_eq]at q;rw[beq_eq_false_iff_ne];intro e;exact gc ⟨q,by omega⟩
 clear gc;go_enter func104,ntmps104
 go_upto_region 2 with fail
 go_cut [29] (fun b wc=>b=.bool false/\w=wc)
 case first=>
  rcases hb with mp|⟨mp,pl⟩
  all_goals
   go_wp2_with fail
   go_meet
   exact⟨rfl,rfl⟩
 case rest=>
  obtain⟨rfl,rfl⟩:=hcut;clear hb t0 p1 n z;obtain⟨a,i2⟩:=nm w.heap.size;have G:=Z i2;go_upto_block 0 with(first|(go_at_call 132;(with_reducible refine(tZ _).mono ?_);rintro e w2 ⟨rfl,i9,ad⟩;have hl:=Z i9;have ci:=Z ad;clear i9 ad))
  have c1:Hid (ao w2 a (BB 0)):=Z (by
   have r:=Row.new w (aC (BB 0)) 121;rw[G]at r;exact Row.ch r ci (fun e=>e))
  have lb:Hid (Row w2 (a+1) 9 (b4.map Value.string)):=Z (by
   have r:=hl.out;rw[World.size_alloc,G]at r;exact r)
  have bi:Hid (Ch ag w w2):=Z (((Ch.refl _ _).alloc _).trans ci);have V:a<w2.heap.size:=c1.lt;clear hl ci i2;go_cut [] (fun wc=>ao wc a (BB A)/\Ch (aK a) w2 wc)
  case first=>
   go_wp2_with fail
   go_loopw [10] (fun i wr=>∃(k:Nat) (op:Int),k<=58/\i=.int .i64 k/\ao wr a (BB op)/\Ch (aK a) w2 wr/\iJ j (b4.drop k) k op=A) (fun i _=>58-(intOf i).toNat)
   case atStart=>exact⟨0,0,by omega,rfl,c1,Ch.refl _ _,hm⟩
   case round=>
    obtain⟨k,op,n1,rfl,q,c6,eL⟩:=hrel;have cm:=Z eL;have ec:=Z q;have ck:=Z c6;by_cases fz:k<58
    ·have W:k<b4.length:=by rw[kP];exact fz
     have cl:Hid (b4.drop k=b4[k]::b4.drop (k+1)):=Z (List.drop_eq_getElem_cons W);have y0:wr.cell? ⟨a+1,k,none⟩=some (.string b4[k]):=(lb.ch c6 (fun e=>by have ms:a+1=a:=e;omega)).cell (by rw[List.getElem?_map,List.getElem?_eq_getElem W];rfl);obtain⟨y,k4⟩:=nm (b4[k]);rw[k4]at y0 cl;have f0:=q.free 0;have hF:wr.cell? (a,0)=some (.int .i64 op):=q.cell rfl;clear k4 eL q c6;cases Y:(y.toList==j.toList)with
     |true=>
      have O:Hid (iJ j (b4.drop (k+1)) ((k+1:Nat):Int) (1+(k:Int))=A):=Z (by
       have h:=cm.out;rw[cl,iJ,if_pos (by rw[<-ByteArray.toList_eq,<-ByteArray.toList_eq];exact Y)]at h;exact h)
      go_wp2
      go_roundw
      case rel=>exact⟨k+1,1+(k:Int),by omega,by go_num,ec.Di _,ck.only _ _,O⟩
      case measure=>simp[intOf];omega
     |false=>
      have O:Hid (iJ j (b4.drop (k+1)) ((k+1:Nat):Int) op=A):=Z (by
       have h:=cm.out;rw[cl,iJ,if_neg (by rw[<-ByteArray.toList_eq,<-ByteArray.toList_eq,Y];decide)]at h;exact h)
      go_wp2
      go_roundw
      case rel=>exact⟨k+1,op,by omega,by go_num,ec,ck,O⟩
      case measure=>simp[intOf];omega
    ·have O:Hid (op=A):=Z (by
      have h:=cm.out;rw[List.drop_of_length_le (by rw[kP];omega)]at h;exact h)
     clear eL q c6;go_wp2
     go_meet
     exact⟨by rw[<-O];exact ec,ck⟩
  case rest=>
   obtain⟨cb,al⟩:=hcut;obtain⟨cd,gr⟩:=nm wc;rw[gr]at cb al⊢;clear gr V;have mb:=Z cb;have ll:Hid (dD cd B p a S):=Z ((c0.ub bi (by have:=G.out;omega)).ins c1 al);have lv:Hid (dY cd g l):=Z ((lt.af bi).keep (zG c1 al));have he:Hid (Below B w cd):=Z ((bi.below mL (fun _ hb=>False.elim hb)).trans (al.below (by have:=bi.size;omega) (fun b hb=>by have e:b=a:=hb;have:=G.out;omega)));have hF:cd.cell? (a,0)=some (.int .i64 A):=cb.cell rfl;clear cb al;obtain⟨ii,E,es,d,mc,J,i0,c7⟩:=ml kw;have cW:=Z J;have ls:=Z i0;have ni:((A:Int)==0)=false:=by rw[beq_eq_false_iff_ne];exact ii
   obtain⟨L,R⟩:=nm (gn A);have le:Hid (∀k∈L,0<=k/\k<=8):=Z (by rw[<-R];exact zH A);have mW:L.length<=3:=by rw[<-R];exact pr A
   have cL:=Z (fun w=>t' A w);rw[R]at c7 cL;rw[R]at cW;obtain⟨Q,c5⟩:=mn L.length;have cC:=Z c5;rw[<-c5,<-P]at c7;rw[<-c5]at mW;have bw:=Z c7;clear c5 c7 J i0 ii R hm;go_upto_region 20 with(go_at_call 133;(with_reducible refine(cL.out _).mono ?_);rintro e w4 ⟨ro,rfl,c8,i1⟩;obtain⟨mk,co,rfl⟩:=aA c8;rw[<-cC.out]at c8⊢;have lc:=Z c8;have bv:=Z i1;clear c8 i1)
   have lm:Hid (dD w4 B p a S):=Z (ll.af (Ch.bY bv));have hu:Hid (ao w4 a (BB A)):=Z (mb.ch (Ch.bY bv) (fun e=>e));have dC:Hid (dY w4 g l):=Z (lv.af (Ch.bY bv));have kb:Hid (Below B w w4):=Z (he.trans (bv.mono (by have:=he.size;omega)));clear hF ni cL;obtain⟨N,av⟩:=nm (l.getD (H-1) ByteArray.empty);have fn:w4.cell? (g,H-1)=some (.string N):=dC.cell (by rw[<-av,P,List.getD_eq_getElem?_getD,List.getElem?_eq_getElem (by have:=P.out;omega)];rfl);have og:1<=N.size/\N.size<=65536:=hn N (by rw[<-av,P,List.getD_eq_getElem?_getD,List.getElem?_eq_getElem (by have:=P.out;omega)];exact List.getElem_mem _);rw[av]at bw;obtain⟨k2,ob⟩:=og;have nC:0<N.size:=k2;have lw:=Z av;clear av;go_cut [12] (fun m wc=>m=.bool mc/\w4=wc)
   case first=>
    rcases bw with⟨n,z,C,_⟩|⟨n,z,_⟩
    ·have et:((H:Int)==(Q:Int)+2)=true:=by rw[beq_iff_eq];omega
     have ms:((N[0].toNat:Int)==33)=true:=by rw[b6,beq_iff_eq];exact C
     have cA:=Z n;clear n z C;go_wp2_with fail
     go_meet
     exact⟨by rw[cA],rfl⟩
    ·have et:((H:Int)==(Q:Int)+2)=false:=by rw[beq_eq_false_iff_ne];omega
     have cA:=Z n;clear n z;go_wp2_with fail
     go_meet
     exact⟨by rw[cA],rfl⟩
   case rest=>
    obtain⟨rfl,M⟩:=hcut;rw[<-M];clear M;go_upto_region 21 with fail
    go_cut [131] (fun m wc=>m=.bool false/\w4=wc)
    case first=>
     rcases bw with⟨n,z,C,_⟩|⟨n,z,_⟩
     ·have et:((H:Int) !=(Q:Int)+1)=true:=by rw[bne_iff_ne];omega
      subst n;clear z C;go_wp2_with fail
      go_meet
      exact⟨rfl,rfl⟩
     ·have et:((H:Int) !=(Q:Int)+1)=false:=by rw[bne_eq_false_iff_eq];omega
      clear n z;go_wp2_with fail
      go_meet
      exact⟨rfl,rfl⟩
    case rest=>
     obtain⟨rfl,M⟩:=hcut;rw[<-M];clear M;go_upto_block 2 with fail
     clear fn nC;have qm:S.bp.length<=1000000:=hf.2;go_cut [] (fun wc=>dD wc B p a E/\ao wc a es/\Below B w4 wc/\g7 w4 wc)
     case first=>
      go_wp2_with fail
      go_loopw [13] (fun i wr=>∃(k:Nat) (ab:gm) (c3:aV),k<=Q/\i=.int .i64 k/\dD wr B p a ab/\ao wr a c3/\Below B w4 wr/\g7 w4 wr/\iw (L.drop k) (l.drop (k+1)) ab c3=some (E,es)/\ab.bp.length<=S.bp.length+k) (fun i _=>Q-(intOf i).toNat)
      case atStart=>exact⟨0,S,BB A,by omega,rfl,lm,hu,Below.refl _ _,g7.refl _,cW,by omega⟩
      case round=>
       obtain⟨k,ab,c3,n1,rfl,I,q,V,X,J,qr⟩:=hrel;by_cases fz:k<Q
       ·have W:k<L.length:=by have:=cC.out;omega
        rw[List.drop_eq_getElem_cons W]at J;obtain⟨s,l',hw,hB,fd,c9,jp⟩:=mj J;have i8:k+1<l.length:=by
         have:0<(l.drop (k+1)).length:=by rw[fd];simp
         rw[List.length_drop]at this;omega
        rw[List.drop_eq_getElem_cons i8]at fd;obtain⟨Y,rfl⟩:=List.cons.inj fd;obtain⟨a1,a2,a3,md,pi⟩:=ps c9;have k0:=hn s (by rw[<-Y];exact List.getElem_mem _);have eW:=le L[k] (List.getElem_mem _);obtain⟨kd,fb⟩:=nm (L[k]);rw[fb]at c9 eW;have y0:wr.cell? ⟨g,k+1,none⟩=some (.string s):=(dC.keep X).cell (by rw[List.getElem?_eq_getElem i8,Y]);obtain⟨k5,p2,rb,ih,nd,qc,ne,io,_⟩:=aS lc (by omega);obtain⟨rfl,rfl⟩:mk=some ⟨k5,0,none⟩/\co=p2:=by injection ih with n _ C;exact⟨n,C⟩
        have rx:wr.cell? ⟨k5,k,none⟩=some (.int .i64 kd):=(X.row io (by decide) (by decide) (by decide)).cell (by
         rw[List.getElem?_append_left (by rw[List.length_map];exact W),List.getElem?_map,List.getElem?_eq_getElem W,fb];rfl)
        have kf:=Z (fun w q I=>xk kd eW s k0.2 B p a ab hw c3 hB w c9 q I (by have:=G.out;omega) (by omega) (fun e=>by
         have n:=hu.lt;obtain⟨_,_,_,_,o⟩:=c0.out;have:=o.row.lt;have:=G.out;omega))
        have qb:(k:Int)+1<H:=by have:=P.out;omega
        have dr:=Z I;have en:=Z q;have ch:=Z V;have cq:=Z X;have lo:=Z jp;have r5:IntKind.i64.wrap ((k:Int)+1)=(k:Int)+1:=IntWalk.i64_in _ (by omega);have r6:((k:Int)+1).toNat=k+1:=by omega
        have gr:(0:Int)<=(k:Int)+1:=by omega
        clear J c9 k0 eW io ih nd ne I q V X jp Y fb a1 a2 a3 md;go_wp2_with fail
        go_still_tail 10,(by kernel_rfl)
        change wpList _ _ _ _ _ wr.drew;go_wp2_with (go_at_call 134;(with_reducible refine(kf.out _ ?_ ?_).mono ?_);exact en.out;exact dr.out.af ((Ch.refl _ _).drew);rintro e v ⟨rfl,ap,u,D,i7⟩;have cQ:=Z ap;have c2:=Z u;have ce:Hid (Below B wr v):=Z ⟨D.os,D.tape,D.output,D.size,D.block⟩;have l0:Hid (g7 wr v):=Z (fun k c t f n z C c4=>i7 k c t f n z C c4);clear ap u D i7)
        go_roundw
        case rel=>exact⟨k+1,hw,hB,by omega,by go_num,cQ,c2,ch.trans ce,cq.trans l0,lo,by omega⟩
        case measure=>simp[intOf];omega
       ·have i5:L.drop k=[]:=List.drop_of_length_le (by have:=cC.out;omega)
        rw[i5]at J;obtain⟨rfl,rfl⟩:=Prod.mk.inj (Option.some.inj J);have dr:=Z I;have en:=Z q;have ch:=Z V;have cq:=Z X;clear J I q V X i5;go_wp2_with fail
        go_meet
        exact⟨dr,en,ch,cq⟩
     case rest=>
      obtain⟨ge,gs,eC,eS⟩:=hcut;obtain⟨gt,M⟩:=nm wc;rw[M]at ge gs eC eS⊢;have cS:=Z ge;have dN:=Z gs;have cf:Hid (Below B w gt):=Z (kb.trans eC);have fn:gt.cell? (g,H-1)=some (.string N):=(dC.keep eS).cell (by rw[<-lw,List.getD_eq_getElem?_getD,List.getElem?_eq_getElem (by have:=P.out;omega)];rfl);clear M ge gs eC eS;go_upto_if 154 with fail
      go_cut [] (fun wc=>dD wc B p a E/\ao wc a d/\Below B w wc)
      case first=>
       rcases bw with⟨n,z,C,c4⟩|⟨n,z,C⟩
       ·have l1:=Z (fun w nq nw q=>xj N ob k2 es d c4 p a E.line w nq nw q)
        have it:p≠a:=fun e=>by
         obtain⟨_,_,_,_,o⟩:=c0.out;have:=o.row.lt;have:=G.out;omega
        have n2:gt.cell? (p,4)=some (.int .i64 E.line):=by
         obtain⟨_,_,_,_,o⟩:=cS.out;exact o.row.cell rfl
        have li:=Z it;subst n;clear z C c4 it;go_wp2_with (go_at_call 135;(with_reducible refine(l1.out _ ?_ li.out ?_).mono ?_);exact n2;exact dN.out;rintro e v ⟨rfl,u,i4⟩;have c2:=Z u;have hi:=Z i4;clear u i4)
        go_meet
        exact⟨cS.ins dN hi,c2,cf.trans (hi.below (by have:=cf.size;omega) (fun b hb=>by have e:b=a:=hb;have:=G.out;omega))⟩
       ·have O:=Z C
        subst n;clear z C;go_wp2_with fail
        go_meet
        exact⟨cS,by rw[O];exact dN,cf⟩
      case rest=>
       obtain⟨ap,u,D⟩:=hcut;obtain⟨v,k1⟩:=nm wc;rw[k1]at ap u D⊢;obtain⟨a0,re,rg,rt,o⟩:=ap;have cQ:=Z o;have c2:=Z u;have ce:=Z D;have x0:v.cell? (a,0)=some (.int .i64 d.op):=u.cell rfl;have x1:v.cell? (a,1)=some (.int .i64 d.a):=u.cell rfl;have x2:v.cell? (a,2)=some (.int .i64 d.b):=u.cell rfl;have x3:v.cell? (a,3)=some (.int .i64 d.c):=u.cell rfl;have x4:v.cell? (a,4)=some (.int .u64 d.v):=u.cell rfl;have x5:v.cell? (a,5)=some (.int .i64 d.m):=u.cell rfl;have x6:v.cell? (a,6)=some (.int .i64 d.wh):=u.cell rfl;have p3:v.cell? (p,0)=some a0:=o.row.cell rfl;have mA:=o.row.free 0;have ip:=o.row.lt;have U:=u.lt;have k3:a0.ownBlock≠some p:=bh o.code o.row (by decide);have T:a0.ownBlock≠some a:=o.ne;have R:v.ownsRow B 121 7 a0 E.code.length (E.code.flatMap dg):=o.code;have pv:E.code.length<=1000000:=by rw[(jh _ cW).1];exact hf.1
       have mC:B<=v.heap.size:=by have:=D.size;omega
       obtain⟨ov,i6,ok,on,os⟩:=info_parts hT;have kT:=Z i6;clear k1 o u D i6 fn;go_wp2_with fail
       have nx:p≠a:=fun e=>by
        obtain⟨_,_,_,_,o⟩:=c0.out;have:=o.row.lt;have:=G.out;omega
       have ql:a≠p:=Ne.symm nx;go_region_law (first|(refine step_append_lies _ (by rfl) _ _ _ (by rfl) B 121 ov _ 7 56 underlying30 kT ok on os rfl (by omega) a0 E.code.length (E.code.flatMap dg) (by rfl) ((R.alloc _).drew) ⟨v.heap.size,0,none⟩ 1 1 [d.op,d.a,d.b,d.c,.int .u64 d.v,d.m,d.wh] (by rfl) (by rfl) (World.news_of_block (cs:=#[d.op,d.a,d.b,d.c,.int .u64 d.v,d.m,d.wh]) (t:=121) (fr:=(0,0)) (heap_alloc_new v _)) (by simp[Value.oneCell']) (by omega) (by unfold maxLen;omega) (by omega) (by simp;omega) (v.heap.size+1) (by simp) ?_;intro pp pm K no F pu fz;have rc:K.cell? (p,0)=some a0:=(F.cell_far ⟨p,0,none⟩ (by simp;omega) (Ne.symm k3)).trans (by simp[go_sem,World.cell?_alloc_past,ip,p3]);have rd:K.frozen? (p,0)=false:=(F.frozen_far ⟨p,0,none⟩ (by simp;omega) (Ne.symm k3)).trans (by simp[go_sem,World.frozen?_alloc_past,ip,mA]);have r':K.cell? (a,0)=some (.int .i64 d.op):=(F.cell_far ⟨a,0,none⟩ (by simp;omega) (Ne.symm T)).trans (by simp[go_sem,World.cell?_alloc_past,U,x0]);have s0:K.cell? (a,1)=some (.int .i64 d.a):=(F.cell_far ⟨a,1,none⟩ (by simp;omega) (Ne.symm T)).trans (by simp[go_sem,World.cell?_alloc_past,U,x1]);have s1:K.cell? (a,2)=some (.int .i64 d.b):=(F.cell_far ⟨a,2,none⟩ (by simp;omega) (Ne.symm T)).trans (by simp[go_sem,World.cell?_alloc_past,U,x2]);have s2:K.cell? (a,3)=some (.int .i64 d.c):=(F.cell_far ⟨a,3,none⟩ (by simp;omega) (Ne.symm T)).trans (by simp[go_sem,World.cell?_alloc_past,U,x3]);have s3:K.cell? (a,4)=some (.int .u64 d.v):=(F.cell_far ⟨a,4,none⟩ (by simp;omega) (Ne.symm T)).trans (by simp[go_sem,World.cell?_alloc_past,U,x4]);have s4:K.cell? (a,5)=some (.int .i64 d.m):=(F.cell_far ⟨a,5,none⟩ (by simp;omega) (Ne.symm T)).trans (by simp[go_sem,World.cell?_alloc_past,U,x5]);have s5:K.cell? (a,6)=some (.int .i64 d.wh):=(F.cell_far ⟨a,6,none⟩ (by simp;omega) (Ne.symm T)).trans (by simp[go_sem,World.cell?_alloc_past,U,x6])))
       all_goals
        go_wp2_with fail
        go_ret;obtain⟨p8,pa⟩:=cQ.iv mC d no (ax (cO F));exact⟨rfl,by rw[ls];exact p8,ce.trans pa⟩
def n'(S:gm):gm:={S with line:=S.line+1}
def ji(S:gm)(b:List ByteArray):Option gm:=match b with
 |[]=>some (n' S)
 |w::l=>match lK S (w::l)with|none=>none|some a=>some (n' a)
def gA:List UInt8->List UInt8->gm->Option gm
 |[],cur,S=>if cur=[]then some S else ji S (kM cur [])
 |c::cs,cur,S=>if(c.toNat:Int)=10 then(match ji S (kM cur [])with|none=>none|some a=>gA cs [] a)else gA cs (cur++[c]) S
def oa:List (Int×Int×ByteArray)->List (ByteArray×Int)->List aV->Option (List aV)
 |[],_,C=>some C
 |x::l,L,C=>match cM L x.2.2 with
  |none=>none
  |some at_=>match C[x.2.1.toNat]? with
   |none=>none
   |some X=>if 0<=x.2.1 then oa l L (C.set x.2.1.toNat {X with v:=IntKind.u64.wrap at_})else none
def B'(C:List aV)(L:List (ByteArray×Int)):Option (List aV×List (ByteArray×Int)):=
 if C.length<=2048/\L.all (fun b=>b.2 !=(C.length:Int))=true then some (C,L)else none
def ix(s:ByteArray):Option (List aV×List (ByteArray×Int)):=
 if s.size<=65536 then(match gA s.data.toList [] ⟨[],[],[],[],0⟩with
  |none=>none
  |some S=>match oa S.bp S.labels S.code with|none=>none|some C=>B' C S.labels)else none
theorem sr:∀(l w:List UInt8),∀x∈kM l w,1<=x.size/\x.size<=w.length+l.length:=by
 have b:∀(w:List UInt8),∀x∈oM w,1<=x.size/\x.size<=w.length:=by
  intro w x a;unfold oM at a;split at a
  ·cases a
  ·rename_i d
   have:x=so w:=by simpa using a
   subst this;rw[sp];have:=List.length_pos_iff.2 d;omega
 intro l
 induction l with
 |nil=>intro w x a;have:=b w x a;simp only[List.length_nil];omega
 |cons c l ih=>
  intro w x a;unfold kM at a;simp only[List.length_cons];split at a
  ·have:=ih _ x a;simp only[List.length_append,List.length_cons,List.length_nil]at this;omega
  ·split at a
   ·have:=b w x a;omega
   ·rcases List.mem_append.1 a with h|h
    ·have:=b w x h;omega
    ·have:=ih _ x h;simp only[List.length_nil]at this;omega
theorem vn:∀(l w:List UInt8),(kM l w).length<=1+l.length:=by
 have a:∀(w:List UInt8),(oM w).length<=1:=by intro w;unfold oM;split<;>simp
 intro l
 induction l with
 |nil=>intro w;have:=a w;simp only[List.length_nil];exact this
 |cons c l ih=>
  intro w;unfold kM;simp only[List.length_cons];split
  ·have:=ih (w++[c]);omega
  ·split
   ·have:=a w;omega
   ·rw[List.length_append];have:=a w;have:=ih [];omega
theorem jj{S a:gm}{l:List ByteArray}(h:lK S l=some a):a.code.length<=S.code.length+1/\a.labels.length<=S.labels.length+1/\a.lines.length<=S.lines.length+1/\a.bp.length<=S.bp.length+3/\a.line=S.line:=by
 cases l with
 |nil=>cases h
 |cons w l=>
  change(if b3 w (w.size-1)=58/\l.length=0 then sq S (w.extract 0 (w.size-1))else pq S (w::l) (iJ w b4 0 0))=some a at h;split at h
  ·unfold sq at h
   split at h
   ·obtain rfl:=Option.some.inj h;simp
   ·cases h
  ·obtain⟨_,e,f,g,d,c,rfl,_⟩:=ml h
   obtain⟨a1,a2,a3,b,i⟩:=jh _ c;have:=pr (iJ w b4 0 0);simp only[List.length_append,List.length_cons,List.length_nil];rw[a1,a2,a3,b];refine⟨by omega,by omega,by omega,by omega,rfl⟩
theorem pt(l:List ByteArray)(v:0<l.length)(m:∀x∈l,1<=x.size/\x.size<=65536)(y:l.length<=100000)(g cap B p:Nat)(S b:gm)(w:World)(n:dY w g l)(f:l.length<=cap)(j:dD w B p p S)(d:B<=w.heap.size)
 (h:lK S l=some b) (o:S.code.length<=1000000) (q:S.bp.length<=1000000) (r:S.labels.length<=1000000) (s:S.lines.length<=1000000):
 Calls prog 104 #[(p,0),.slice (some (g,0)) l.length cap] w (n9 b B p w):=by
 cases l with
 |nil=>exact absurd v (by simp)
 |cons a l=>
  change(if b3 a (a.size-1)=58/\l.length=0 then sq S (a.extract 0 (a.size-1))else pq S (a::l) (iJ a b4 0 0))=some b at h;split at h
  ·rename_i c
   obtain⟨t,u⟩:=c;have e:l=[]:=List.length_eq_zero_iff.1 u;subst e;unfold sq at h;split at h
   ·rename_i i
    obtain rfl:=Option.some.inj h;have k:=m a (by simp);exact ua a _ rfl k.1 k.2 t g cap B p S w n (by simpa using f) j d i.1 i.2 r s
   ·cases h
  ·rename_i c
   exact zI (a::l) a rfl m y (fun e=>c ⟨e.1,by have:=e.2;simp only[List.length_cons]at this;omega⟩) g cap B p S b w n f j d h o q
theorem dD.more{w:World}{B p:Nat}{S:gm}(h:dD w B p p S):dD (w.setCell (p,4) (.int .i64 (S.line+1))) B p p (n' S):=by
 obtain⟨b,c,d,e,h⟩:=h;have a:=h.row;exact⟨b,c,d,e,a.a' _ _ rfl,h.hB,dL h.code a (by decide),h.ne,dL h.labels a (by decide),dL h.lines a (by decide),dL h.bp a (by decide)⟩
theorem ej(X:aV):(dg X).length=7:=rfl
theorem n5.mi{w:World}{B p:Nat}{g n cap:Nat}{o r t:Value}{S:gm}{C:List aV}(h:n5 w B p p (.slice (some (g,0)) n cap) o r t {S with code:=C}){i:Nat}{X:aV}(x:C[i]?=some X)(d:n=C.length)(v:Int):
 dD (w.setCell (g,i*7+4) (.int .u64 v)) B p p {S with code:=C.set i {X with v:=v}}/\Below B w (w.setCell (g,i*7+4) (.int .u64 v)):=by
 have A:(Value.slice (some (g,0)) n cap).ownBlock=some g:=rfl;obtain⟨F,cs,j⟩:=bJ h.code A;have c:Ch (aK g) w (w.setCell (g,i*7+4) (.int .u64 v)):=(Ch.refl _ _).only _ _;have q:∀{e:TypeId} {s:Nat} {m:Value} {n:Nat} {u:List Value},w.ownsRow B e s m n u->121≠e->(w.setCell (g,i*7+4) (.int .u64 v)).ownsRow B e s m n u:=fun l z=>ar l c (fun k D e=>by have a:k=g:=e;subst a;exact bh l j z D)
 refine⟨⟨.slice (some (g,0)) n cap,o,r,t,?_⟩,c.below (by have:=h.row.lt;have:=h.hB;omega) (fun b hb=>by have e:b=g:=hb;omega)⟩;have f:=h.code;rw[show({S with code:=C}:gm).code=C from rfl,<-d]at f;have E:=hI (enc:=dg) f ej x 4 (by omega) rfl (v:=.int .u64 v) (y:={X with v:=v}) rfl d;refine⟨h.row.ch c (fun e=>by have a:p=g:=e;subst a;exact absurd (eD h.row j) (by decide)),h.hB,?_,h.ne,q h.labels (by decide),q h.lines (by decide),q h.bp (by decide)⟩;rw[show({S with code:=C.set i {X with v:=v}}:gm).code=C.set i {X with v:=v}from rfl,List.length_set,<-d];exact E
end Go.Proofs.YtfnilkpkogipfaaGreatDoor
