import Derived.Deep.RegionHeldLaw
import Derived.Test.YtfnilkpkogipfaaGreatDoorZBq
import Derived.Test.YtfnilkpkogipfaaGreatDoorZBr
set_option linter.all false
set_option maxRecDepth 100000
set_option maxHeartbeats 8000000
namespace Go.Proofs.YtfnilkpkogipfaaGreatDoor
open Go.RowKit Go.Proofs.Tryz
theorem kS:dA.length=45:=by kernel_rfl
theorem xy(T:ByteArray)(J:List aV×List (ByteArray×Int))(hm:ix T=some J)(al:J.2.length<=1000000)(n:Int)(pc:n<=1000)(w:World):
 Calls prog 43 #[.string T,.int .i64 n] w (od J.1 (qF (cM J.2 ⟨#[108,111,111,112]⟩)).1 (gq J.2 n) w):=by
 obtain⟨C,L⟩:=J;dsimp only at al⊢;have kw:=Z (fun w=>lL T (C,L) hm w);have k5:=Z (fun s r W v B w h=>g4 L s r W v B w h al);have k4:=Z (fun w=>xx w);obtain⟨it,es⟩:=nm (qF (cM L ⟨#[108,111,111,112]⟩));have kd:=Z (fun v B w h=>g4 L ⟨#[108,111,111,112]⟩ it es v B w h al);obtain⟨c9,eW⟩:=nm (qF (cM L ⟨#[120,98,111,114,110]⟩));have lo:=Z (fun v B w h=>g4 L ⟨#[120,98,111,114,110]⟩ c9 eW v B w h al);have ab:Hid (eU L=if c9.2=true then [⟨1,c9.1,0,0,0,0⟩]else []):=Z (by
  unfold eU zY;rw[<-eW];generalize cM L ⟨#[120,98,111,114,110]⟩=n2;cases n2<;>rfl)
 rw[es];clear hm es eW;obtain⟨A,pl⟩:=it;obtain⟨cb,no⟩:=c9;obtain⟨B,cQ⟩:=nm w.heap.size;have gk:=Z cQ;go_enter func43,ntmps43
 go_wp2_with fail
 obtain⟨ni,bw⟩:=nm (w.alloc (.cells #[.slice none 0 0,.int .i64 0,.slice none 0 0] 33));have ll:Hid (Row ni B 33 [.slice none 0 0,.int .i64 0,.slice none 0 0]):=Z (by rw[<-bw,<-cQ];exact Row.new _ _ _);have ge:=Z (Ch.al (D:=ag) bw);rw[bw];clear bw cQ;with_reducible refine(kw.out _).mono ?_
 rintro e w1 ⟨pm,fb,rfl,U,hF,dC⟩;obtain⟨ac,o,rfl⟩:=aA U;have k3:=Z U;have cl:=Z hF;have M:Hid (Ch ag w w1):=Z (ge.trans dC);have he:=Z (ll.ch dC (fun e=>e));have ov:B<w1.heap.size:=he.lt;obtain⟨m,cS⟩:=nm C.length;rw[cS];have kf:=Z cS;clear U hF dC cS;obtain⟨lb,av⟩:=nm w1.heap.size;have nx:=Z av;go_wp2_with fail
 obtain⟨w2,c0⟩:=nm (w1.alloc (.cells #[.slice ac m o,.int .i64 0,.slice none 0 0] 33));have H:Hid (mB w2 (B+1) lb (.slice ac m o) (.slice none 0 0) 0 []):=Z ⟨by rw[<-c0,<-av];exact Row.new _ _ _,by have:=av;omega,World.ownsRow_nil _ _ _ _⟩;have a3:=Z (Ch.al (D:=ag) c0);rw[c0];clear c0 av;have k1:=H.row.k 1 rfl;have f1:=H.row.free 1;with_reducible refine(kd.out fb _ _ (ar cl.out a3.out (fun _ _ e=>e))).mono ?_
 rintro e w' ⟨rfl,jp,rfl⟩;go_wp2_with fail
 obtain⟨a1,c1⟩:=nm ((w2.drewN jp).setCell (lb,1) (.int .i64 A));have ch:Ch (aK lb) w2 a1:=by rw[<-c1];exact((Ch.refl _ _).drewN _).only _ _
 have kT:Hid (mB a1 (B+1) lb (.slice ac m o) (.slice none 0 0) A []):=Z ⟨by rw[<-c1];exact(H.row.drewN jp).a' _ _ rfl,H.hB,World.ownsRow_nil _ _ _ _⟩;have hf:Hid (dI w1 a1):=Z ((dI.fa a3 (fun _ _ _ _ q _=>False.elim q)).trans (dI.fa ch (fun k x t f q U=>by have e:k=lb:=q;subst e;exact Or.inl (eD H.row U))));have fd:Hid (Below (B+1) w1 a1):=Z ((a3.below (by omega) (fun _ hb=>False.elim hb)).trans (ch.below (by have:=a3.size;omega) (fun b hb=>by have e:b=lb:=hb;have:=H.hB;omega)));rw[c1];clear c1 k1 f1 ch;with_reducible refine(lo.out fb _ _ (hf.out.own cl.out (by decide) (by decide))).mono ?_
 rintro e w' ⟨rfl,n0,rfl⟩;obtain⟨w4,eC⟩:=nm (a1.drewN n0);have ce:=Z (Ch.dN (D:=ag) eC);have gr:=Z (kT.af ce);have hi:Hid (dI w1 w4):=Z (hf.trans (dI.fa ce (fun _ _ _ _ q _=>False.elim q)));have cd:Hid (Below (B+1) w1 w4):=Z (fd.trans (ce.below (by have:=fd.size;omega) (fun _ hb=>False.elim hb)));rw[eC];clear eC;dsimp only at ab⊢;have mb:B+1<=w4.heap.size:=by have:=cd.size;omega
 obtain⟨ip,hw,ih,ii,io⟩:=info_parts zZ;have go:=Z hw;clear hw;go_upto_if 34 with fail
 go_cut [] (fun wc=>∃a,mB wc (B+1) lb (.slice ac m o) a A (eU L)/\dI w1 wc/\Below (B+1) w1 wc)
 case first=>
  cases no with
  |false=>
   have N:Hid (eU L=[]):=Z (by rw[ab];rfl);go_wp2_with fail
   go_meet
   rw[N];exact⟨_,gr,hi,cd⟩
  |true=>
   have N:Hid (eU L=[⟨1,cb,0,0,0,0⟩]):=Z (by rw[ab];rfl);obtain⟨c4,E⟩:∃a,mB w4 (B+1) lb (.slice ac m o) a A []:=⟨_,gr⟩;have cm:=Z E;have c3:w4.cell? (lb,2)=some c4:=E.row.cell rfl;have R:=E.row.free 2;have V:=E.row.lt;have S:=E.own;have Y:c4.ownBlock≠some lb:=bh E.own E.row (by decide);clear E;go_wp2_with (at_builtin;refine wpList_append_lies _ rfl _ _ _ rfl (B+1) 49 ip _ 6 48 underlying31 go ih ii io rfl (by omega) c4 0 [] rfl (S.alloc _) ⟨w4.heap.size,0,none⟩ 1 1 [.int .i64 1,cb,.int .i64 0,.int .i64 0,.int .i64 0,.int .i64 0] rfl rfl (World.news_of_block (cs:=#[.int .i64 1,cb,.int .i64 0,.int .i64 0,.int .i64 0,.int .i64 0]) (t:=49) (fr:=(0,0)) (heap_alloc_new w4 _)) (by simp[Value.oneCell']) (by omega) (by unfold maxLen;omega) (by omega) (by simp;omega) (w4.heap.size+1) (by simp) ?_)
   intro lw og c6 i2 ap mk p8;have n8:c6.cell? (lb,2)=some c4:=(ap.cell_far ⟨lb,2,none⟩ (by simp;omega) (Ne.symm Y)).trans (by simp[go_sem,World.cell?_alloc_past,V,c3]);have nd:c6.frozen? (lb,2)=false:=(ap.frozen_far ⟨lb,2,none⟩ (by simp;omega) (Ne.symm Y)).trans (by simp[go_sem,World.frozen?_alloc_past,V,R]);have F:=Z (cm.app mb ⟨1,cb,0,0,0,0⟩ i2 (ax ap));clear i2 ap mk S c3 R;go_wp2_with fail
   go_meet
   rw[N];exact⟨_,F.1,hi.trans F.2.2,cd.trans F.2.1⟩
 case rest=>
  obtain⟨ne,et,dN,dr⟩:=hcut;obtain⟨c6,i8⟩:=nm wc;rw[i8]at et dN dr⊢;have cm:=Z et;have ls:=Z dN;have fn:=Z dr;clear i8 et dN dr;go_upto_block 0 with(go_at_call 83;(with_reducible refine(k4.out _).mono ?_);rintro e c7 ⟨rfl,i6,hu⟩;have gt:=Z i6;have cf:=Z hu;clear i6 hu)
  obtain⟨tb,i7⟩:=nm c6.heap.size;rw[i7]at gt⊢;clear i7;have l0:=Z (cm.af cf);have hl:Hid (dI w1 c7):=Z (ls.trans (dI.fa cf (fun _ _ _ _ q _=>False.elim q)));have fz:Hid (Below (B+1) w1 c7):=Z (fn.trans (cf.below (by have:=fn.size;omega) (fun _ hb=>False.elim hb)));go_cut [] (fun wc=>∃a,mB wc (B+1) lb (.slice ac m o) a A (gq L n)/\dI w1 wc/\Below (B+1) w1 wc)
  case first=>
   go_wp2_with fail
   go_loopw [12] (fun i wr=>∃(k:Nat) (a:Value) (calls:List br),k<=45/\i=.int .i64 k/\mB wr (B+1) lb (.slice ac m o) a A calls/\calls=eU L++hp L n (dA.take k)/\calls.length<=k+1/\dI c7 wr/\Below (B+1) c7 wr) (fun i _=>45-(intOf i).toNat)
   case atStart=>exact⟨0,ne,eU L,by omega,rfl,l0,by simp[hp],by rw[ab];split<;>simp,dI.refl _,Below.refl _ _⟩
   case round=>
    obtain⟨k,a,calls,q,rfl,i4,hv,p1,hB,hn⟩:=hrel;have cq:=Z i4;have ck:=Z hv;have O:=Z hB;have ad:=Z hn;clear i4 hv hB hn;by_cases mC:k<45
    ·have en:k<dA.length:=by rw[kS];exact mC
     obtain⟨x,eS⟩:=nm (dA[k]);have c2:dA[k]?=some x:=by rw[List.getElem?_eq_getElem en,eS]
     have gs:Hid (Row wr tb 194 (dA.flatMap pC)):=Z (O.row gt (by decide) (by decide));have P:∀j u,j<8->(pC x)[j]?=some u->wr.cell? ⟨tb,k*8+j,none⟩=some u:=fun j u mA mW=>gs.cell ((bP xv c2 mA).trans mW)
     have nq:wr.cell? ⟨tb,k*8+3,none⟩=some (.int .i64 x.oq):=P 3 _ (by omega) rfl;have i5:=Z (qK L n dA k x c2);by_cases hle:x.oq<=n
     ·have k2:wr.cell? ⟨tb,k*8+2,none⟩=some (.string x.zW):=P 2 _ (by omega) rfl
      have l:=Z P;obtain⟨r,W⟩:=nm (qF (cM L x.zW));have le:=Z W;have kb:=Z (fun(a2:Nat) w h=>k5 x.zW r W fb a2 w h);obtain⟨Q,ob⟩:=r;have ci:Hid (calls++[⟨x.num,Q,x.k0,x.k1,x.k2,x.k3⟩]=eU L++hp L n (dA.take (k+1))):=Z (by
       rw[i5.out,if_pos hle,ck,List.append_assoc];unfold ug;rw[le])
      clear P c2 eS W en;go_wp2_with fail
      with_reducible refine(kb.out _ _ (((hl.out.trans O.out)).own cl.out (by decide) (by decide))).mono ?_
      rintro e w' ⟨rfl,n1,rfl⟩;go_wp2_with fail
      obtain⟨d,eL⟩:=nm (wr.drewN n1);have y:=Z (Ch.dN (D:=ag) eL);rw[eL];clear eL k2 nq;have c:=cq.af y;have l1:=Z c;have bi:=gs.ch y (fun e=>e);have x0:d.cell? ⟨tb,k*8,none⟩=some (.int .i64 x.num):=((y.cell (aE (l 0 _ (by omega) rfl)) (fun e=>e)).trans (l 0 _ (by omega) rfl));have x4:d.cell? ⟨tb,k*8+4,none⟩=some (.int .i64 x.k0):=((y.cell (aE (l 4 _ (by omega) rfl)) (fun e=>e)).trans (l 4 _ (by omega) rfl));have x5:d.cell? ⟨tb,k*8+5,none⟩=some (.int .i64 x.k1):=((y.cell (aE (l 5 _ (by omega) rfl)) (fun e=>e)).trans (l 5 _ (by omega) rfl));have x6:d.cell? ⟨tb,k*8+6,none⟩=some (.int .i64 x.k2):=((y.cell (aE (l 6 _ (by omega) rfl)) (fun e=>e)).trans (l 6 _ (by omega) rfl));have x7:d.cell? ⟨tb,k*8+7,none⟩=some (.int .i64 x.k3):=((y.cell (aE (l 7 _ (by omega) rfl)) (fun e=>e)).trans (l 7 _ (by omega) rfl));have X:tb<d.heap.size:=bi.lt;have c3:d.cell? (lb,2)=some a:=c.row.cell rfl;have R:=c.row.free 2;have V:=c.row.lt;have S:=c.own;have Y:a.ownBlock≠some lb:=bh c.own c.row (by decide);have a0:a.ownBlock≠some tb:=bh c.own bi (by decide);have mL:lb≠tb:=fun e=>by subst e;exact absurd (eD c.row bi) (by decide)
      have p3:tb≠lb:=Ne.symm mL;have mc:B+1<=d.heap.size:=by have:=c.hB;omega
      clear c bi;go_region_law (first|(refine step_append_lies _ (by rfl) _ _ _ (by rfl) (B+1) 49 ip _ 6 48 underlying31 go ih ii io rfl (by omega) a calls.length (calls.flatMap br.cells) (by rfl) ((S.alloc _).drew) ⟨d.heap.size,0,none⟩ 1 1 [.int .i64 x.num,Q,.int .i64 x.k0,.int .i64 x.k1,.int .i64 x.k2,.int .i64 x.k3] (by rfl) (by rfl) (World.news_of_block (cs:=#[.int .i64 x.num,Q,.int .i64 x.k0,.int .i64 x.k1,.int .i64 x.k2,.int .i64 x.k3]) (t:=49) (fr:=(0,0)) (heap_alloc_new d _)) (by simp[Value.oneCell']) (by omega) (by unfold maxLen;omega) (by omega) (by simp;omega) (d.heap.size+1) (by simp) ?_;intro lw ok G i3 z md pa;have n8:G.cell? (lb,2)=some a:=(z.cell_far ⟨lb,2,none⟩ (by simp;omega) (Ne.symm Y)).trans (by simp[go_sem,World.cell?_alloc_past,V,c3]);have nd:G.frozen? (lb,2)=false:=(z.frozen_far ⟨lb,2,none⟩ (by simp;omega) (Ne.symm Y)).trans (by simp[go_sem,World.frozen?_alloc_past,V,R]);have nw:G.cell? ⟨tb,k*8,none⟩=some (.int .i64 x.num):=(z.cell_far ⟨tb,k*8,none⟩ (by simp;omega) (Ne.symm a0)).trans (by simp[go_sem,World.cell?_alloc_past,X,x0]);have qb:G.cell? ⟨tb,k*8+4,none⟩=some (.int .i64 x.k0):=(z.cell_far ⟨tb,k*8+4,none⟩ (by simp;omega) (Ne.symm a0)).trans (by simp[go_sem,World.cell?_alloc_past,X,x4]);have qc:G.cell? ⟨tb,k*8+5,none⟩=some (.int .i64 x.k1):=(z.cell_far ⟨tb,k*8+5,none⟩ (by simp;omega) (Ne.symm a0)).trans (by simp[go_sem,World.cell?_alloc_past,X,x5]);have ql:G.cell? ⟨tb,k*8+6,none⟩=some (.int .i64 x.k2):=(z.cell_far ⟨tb,k*8+6,none⟩ (by simp;omega) (Ne.symm a0)).trans (by simp[go_sem,World.cell?_alloc_past,X,x6]);have qm:G.cell? ⟨tb,k*8+7,none⟩=some (.int .i64 x.k3):=(z.cell_far ⟨tb,k*8+7,none⟩ (by simp;omega) (Ne.symm a0)).trans (by simp[go_sem,World.cell?_alloc_past,X,x7])))
      all_goals
       have F:=Z (l1.app mc ⟨x.num,Q,x.k0,x.k1,x.k2,x.k3⟩ i3 (ax (cO z)));clear i3 z md S;go_wp2_with fail
       go_roundw
       case rel=>
        refine⟨k+1,_,calls++[⟨x.num,Q,x.k0,x.k1,x.k2,x.k3⟩],by omega,by go_num,F.1,(ci).out,by simp;omega,(O.trans (dI.fa y (fun _ _ _ _ q _=>False.elim q))).trans F.2.2,?_⟩;exact(ad.trans (y.below (by have:=ad.size;have:=fz.size;omega) (fun _ hb=>False.elim hb))).trans F.2.1
       case measure=>simp[intOf];omega
     ·have ci:Hid (calls=eU L++hp L n (dA.take (k+1))):=Z (by rw[i5.out,if_neg hle,List.append_nil];exact ck)
      have p2:n<x.oq:=by omega
      clear P c2 eS en hle;go_wp2_with fail
      go_roundw
      case rel=>exact⟨k+1,a,calls,by omega,by go_num,cq,ci,by omega,O,ad⟩
      case measure=>simp[intOf];omega
    ·have N:Hid (calls=gq L n):=Z (by rw[ck,List.take_of_length_le (by rw[kS];omega)];rfl)
     go_wp2_with fail
     go_meet
     rw[<-N];exact⟨a,cq,hl.trans O,fz.trans ad⟩
  case rest=>
   obtain⟨pp,K,ec,am⟩:=hcut;obtain⟨c8,i9⟩:=nm wc;rw[i9]at K ec am⊢;have lc:=Z K;have lt:=Z ec;have gc:=Z am;obtain⟨cC,cL,bv⟩:=aA K.own;obtain⟨cA,cW⟩:=nm ((gq L n).length);rw[cW]at bv;have li:=Z bv;have nC:=Z cW;have ex:=K.row;rw[bv]at ex;obtain⟨y0,k1,k2⟩:=ex.c3;have I:Hid (Row c8 B 33 [.slice none 0 0,.int .i64 0,.slice none 0 0]):=Z (by
    unfold Row;rw[am.block B (by omega)];exact he)
   obtain⟨nw,pu,pv⟩:=I.c3;have on:=I.free 0;have os:=I.free 1;have R:=I.free 2;have mS:lb≠B:=by have:=K.hB;omega
   have pi:B≠lb:=Ne.symm mS;clear i9 K ec am bv cW ex;go_wp2_with fail
   obtain⟨c5,eA⟩:=nm (((c8.setCell ⟨B,0,none⟩ (.slice ac m o)).setCell ⟨B,1,none⟩ (.int .i64 A)).setCell ⟨B,2,none⟩ (.slice cC cA cL));have gf:Ch (aK B) c8 c5:=by rw[<-eA];exact(((Ch.refl _ _).only _ _).only _ _).only _ _
   have lm:Row c5 B 33 [.slice ac m o,A,.slice cC cA cL]:=by rw[<-eA];exact((I.set 0 _).set 1 _).set 2 _
   rw[eA];obtain⟨t0,t1,t2⟩:=lm.c3;refine bodyPost_ret (v:=.agg #[.slice ac m o,A,.slice cC cA cL]) ?_ rfl ?_
   ·simp[results,Tryz.f43,go_sem,t0,t1,t2]
   ·have mn:=ge.size
    have i1:∀{e:TypeId} {s n:Nat} {v:Value} {k0:List Value} {a2:Nat},c8.ownsRow a2 e s v n k0->e≠33->c5.ownsRow a2 e s v n k0:=fun i0 mp=>ar i0 gf (fun g ms e=>by
     have lv:g=B:=e;subst lv;obtain⟨_,_,l'⟩:=bJ i0 ms;exact mp (eD I l'))
    refine⟨_,rfl,⟨_,_,rfl,?_,?_⟩,?_⟩
    ·have p:=i1 (lt.own k3 (by decide) (by decide)) (by decide)
     rw[kf]at p⊢;exact dM p mn
    ·have p:=i1 lc.own (by decide)
     rw[<-li];exact dM p (by have:=gk.out;omega)
    ·have p:Below B w1 c5:=(gc.mono (by omega)).trans (gf.below (by have:=gc.size;omega) (fun b hb=>by have e:b=B:=hb;omega))
     refine⟨p.os.trans M.os,p.tape.trans M.tape,p.output.trans M.out.output,Nat.le_trans M.size p.size,fun b hb _=> ?_⟩;exact(p.block b (by have:=gk.out;omega)).trans (M.same b hb (fun e=>e))
def z0(T:ByteArray):Bool:=match ix T with
 |some a=>e2 a.1 (qF (cM a.2 ⟨#[108,111,111,112]⟩)).1 (gq a.2 16)&&uf a.1&&decide (a.2.length<=1000)&&decide (1<=(gq a.2 16).length)&&decide ((gq a.2 16).length<=100)
 |none=>false
def BH(a:List ByteArray):ByteArray:=(((ByteArray.empty++a.getD 0 ByteArray.empty)++a.getD 1 ByteArray.empty)++a.getD 2 ByteArray.empty)++⟨#[120,98,111,114,110,58,10,116,110,119,32,114,50,32,114,48,32,114,49,32,33,49,10,106,115,114,32,112,117,115,104,10,109,111,118,32,114,49,32,114,50,10,115,101,116,32,114,48,32,48,10,102,105,110,10]⟩
set_option maxRecDepth 1000000 in
theorem xz:z0 (BH ((Tryz.f44.body.map gp).getD []))=true:=by kernel_rfl
structure sB(l:List aV)(loop:Int)(calls:List br):Prop where
 ok:e2 l loop calls=true
 u:uf l=true
 c0:0<calls.length
 c1:calls.length<=100
theorem sD:∃(l:List aV) (loop:Int) (calls:List br),sB l loop calls/\∀w,Calls prog 9 #[.int .i64 16] w (od l loop calls w):=by
 obtain⟨a,bv,f,U,V⟩:=zX;have b:=xz;rw[<-f]at b;unfold z0 at b;cases k:ix (BH a)with
 |none=>rw[k]at b;cases b
 |some d=>
  rw[k]at b;simp only[Bool.and_eq_true,decide_eq_true_eq]at b;obtain⟨⟨⟨⟨P,Q⟩,bi⟩,R⟩,S⟩:=b;refine⟨_,_,_,⟨P,Q,R,S⟩,fun w=> ?_⟩;have p:=Z (fun w=>xy (BH a) d k (by omega) 16 (by decide) w);have O:=Z V;have c1:(((ByteArray.empty++a.getD 0 ByteArray.empty)++a.getD 1 ByteArray.empty)++a.getD 2 ByteArray.empty).size<=60000:=by
   have g:∀i,(a.getD i ByteArray.empty).size<=20000:=fun i=>by
    rw[List.getD_eq_getElem?_getD];cases c2:a[i]? with
    |none=>decide
    |some x=>exact U x (List.mem_of_getElem? c2)
   rw[ByteArray.size_append,ByteArray.size_append,ByteArray.size_append];have:=g 0;have:=g 1;have:=g 2;have:ByteArray.empty.size=0:=rfl;omega
  unfold BH at p;obtain⟨c4,W⟩:=nm ((((ByteArray.empty++a.getD 0 ByteArray.empty)++a.getD 1 ByteArray.empty)++a.getD 2 ByteArray.empty));rw[W]at p O c1;clear bv f U V k P Q bi R S W;obtain⟨B,z⟩:=nm w.heap.size;have a3:=Z z;go_enter func9,ntmps9
  go_wp2_with fail
  obtain⟨c3,m⟩:=nm (w.alloc (.cells #[.slice none 0 0,.int .i64 0,.slice none 0 0] 33));have am:Hid (Row c3 B 33 [.slice none 0 0,.int .i64 0,.slice none 0 0]):=Z (by rw[<-m,<-z];exact Row.new _ _ _);have a1:=Z (Ch.al (D:=ag) m);rw[m];clear m z;with_reducible refine(O.out _).mono ?_
  rintro e w1 ⟨rfl,A⟩;have o:=Z (a1.trans A);have ap:=Z (am.ch A (fun e=>e));clear A;go_wp2_with fail
  with_reducible refine(p.out _).mono ?_
  rintro e w2 ⟨c9,rfl,⟨cb,cd,rfl,E,F⟩,C⟩;obtain⟨ac,u,rfl⟩:=aA E;obtain⟨t,y,rfl⟩:=aA F;have M:=Z E;have N:=Z F;have a2:=Z (o.trans C);have c:=Z (ap.ch C (fun e=>e));obtain⟨q,h⟩:=nm d.1.length;obtain⟨r,j⟩:=nm ((gq d.2 16).length);rw[h,j];rw[h]at M;rw[j]at N;have ad:=Z h;have al:=Z j;obtain⟨ce,cf,ch⟩:=c.c3;have c5:=c.free 0;have c6:=c.free 1;have c7:=c.free 2;clear E F C h j;obtain⟨I,G⟩:=nm ((qF (cM d.2 ⟨#[108,111,111,112]⟩)).1);rw[G];have ab:=Z G;clear G;go_wp2_with fail
  obtain⟨J,H⟩:=nm (((w2.setCell (B,0) (.slice ac q u)).setCell (B,1) (.int .i64 I)).setCell (B,2) (.slice t r y));have L:Ch (aK B) w2 J:=by rw[<-H];exact(((Ch.refl _ _).only _ _).only _ _).only _ _
  have av:Row J B 33 [.slice ac q u,I,.slice t r y]:=by rw[<-H];exact((c.set 0 _).set 1 _).set 2 _
  rw[H];obtain⟨t0,t1,t2⟩:=av.c3;refine bodyPost_ret (v:=.agg #[.slice ac q u,I,.slice t r y]) ?_ rfl ?_
  ·simp[results,Tryz.f9,go_sem,t0,t1,t2]
  ·have Y:∀{e:TypeId} {s n:Nat} {v:Value} {a0:List Value} {K:Nat},w2.ownsRow K e s v n a0->e≠33->J.ownsRow K e s v n a0:=fun X bw=>ar X L (fun g c0 e=>by
    have T:g=B:=e;subst T;obtain⟨_,_,f⟩:=bJ X c0;exact bw (eD c f))
   rw[ab];refine⟨_,rfl,⟨_,_,rfl,?_,?_⟩,a2.fresh L (fun i c8 e=>by have T:i=B:=e;have:=a3.out;omega)⟩
   ·rw[ad];exact dM (Y M (by decide)) o.size
   ·rw[al];exact dM (Y N (by decide)) o.size
structure WS where
 code:List aV
 work:List Int
 aL:List Int
structure qQ(w:World)(B b:Nat)(vc vw vh:Value)(S:WS):Prop where
 row:Row w b 111 [vc,.int .i64 16,.slice none 0 0,vw,vh]
 hB:B<=b
 code:w.ownsRow B 121 7 vc S.code.length (S.code.flatMap dg)
 work:w.ownsRow B 3 1 vw S.work.length (S.work.flatMap iu)
 aL:w.ownsRow B 3 1 vh S.aL.length (S.aL.flatMap iu)
 ne:∀g,vw.ownBlock=some g->vh.ownBlock≠some g
def fG(w:World)(B b:Nat)(d c:Value)(S:WS):Prop:=∃a,qQ w B b a d c S
theorem qQ.af{w w':World}{B b:Nat}{a f d:Value}{S:WS}(h:qQ w B b a f d S)(c:Ch ag w w'):qQ w' B b a f d S:=
 ⟨h.row.ch c (fun e=>e),h.hB,ar h.code c (fun _ _ e=>e),ar h.work c (fun _ _ e=>e),ar h.aL c (fun _ _ e=>e),h.ne⟩
theorem fG.af{w w':World}{B b:Nat}{d a:Value}{S:WS}(h:fG w B b d a S)(c:Ch ag w w'):fG w' B b d a S:=by
 obtain⟨e,h⟩:=h;exact⟨e,h.af c⟩
def a9(w w':World):Prop:=∀(k:Nat) (c:Array Value) (t:TypeId) (f:Nat×Nat),t≠111->t≠121->w.heap[k]?=some (.cells c t f)->w'.heap[k]?=some (.cells c t f)
theorem a9.refl(w:World):a9 w w:=fun _ _ _ _ _ _ h=>h
theorem a9.trans{a b c:World}(h:a9 a b)(g:a9 b c):a9 a c:=fun k x t f d e i=>g k x t f d e (h k x t f d e i)
theorem a9.row{w w':World}(h:a9 w w'){b:Nat}{t:TypeId}{l:List Value}(d:Row w b t l)(a:t≠111)(c:t≠121):Row w' b t l:=h b _ t _ a c d
theorem a9.own{w w':World}(h:a9 w w'){B:Nat}{e:TypeId}{s n:Nat}{v:Value}{b:List Value}(a:w.ownsRow B e s v n b)(c:e≠111)(d:e≠121):w'.ownsRow B e s v n b:=by
 refine⟨a.1,?_⟩;rcases a.2 with f|⟨g,cap,cur,rfl,j,k,i⟩
 ·exact Or.inl f
 ·exact Or.inr ⟨g,cap,cur,rfl,j,h g _ e _ c d k,i⟩
theorem a9.fa{w w':World}{D:Nat->Prop}(c:Ch D w w')(b:∀k x t f,D k->w.heap[k]?=some (.cells x t f)->t=111∨t=121):a9 w w':=by
 intro k x t f e g a;rw[c.same k (Array.getElem?_eq_some_iff.1 a).1 (fun d=>by rcases b k x t f d a with h|h<;>contradiction)];exact a
theorem a9.af{w w':World}(c:Ch ag w w'):a9 w w':=a9.fa c (fun _ _ _ _ a _=>False.elim a)
theorem a9.E'{w w':World}{b:Nat}{l:List Value}{v:Value}{B:Nat}{s n:Nat}{i:List Value}(c:Ch (vk b v) w w')(hb:Row w b 111 l)(h:w.ownsRow B 121 s v n i):a9 w w':=
 a9.fa c (fun k x t f d a=>by
  rcases d with rfl|d
  ·exact Or.inl (eD hb a)
  ·obtain⟨_,cs,e⟩:=bJ h d
   rw[e]at a;injection a with a;injection a with _ g _
   exact Or.inr g.symm)
def fD(w w':World):Prop:=∀(k:Nat) (c:Array Value) (t:TypeId) (f:Nat×Nat),t≠111->t≠121->t≠3->w.heap[k]?=some (.cells c t f)->w'.heap[k]?=some (.cells c t f)
theorem fD.refl(w:World):fD w w:=fun _ _ _ _ _ _ _ h=>h
theorem fD.trans{a b c:World}(h:fD a b)(g:fD b c):fD a c:=fun k x t f d e i j=>g k x t f d e i (h k x t f d e i j)
theorem fD.row{w w':World}(h:fD w w'){b:Nat}{t:TypeId}{l:List Value}(e:Row w b t l)(a:t≠111)(c:t≠121)(d:t≠3):Row w' b t l:=h b _ t _ a c d e
theorem fD.fa{w w':World}{D:Nat->Prop}(c:Ch D w w')(b:∀k x t f,D k->w.heap[k]?=some (.cells x t f)->t=111∨t=121∨t=3):fD w w':=by
 intro k x t f e g i a;rw[c.same k (Array.getElem?_eq_some_iff.1 a).1 (fun d=>by rcases b k x t f d a with h|h|h<;>contradiction)];exact a
theorem fD.af{w w':World}(c:Ch ag w w'):fD w w':=fD.fa c (fun _ _ _ _ a _=>False.elim a)
theorem fD.E'{w w':World}{b:Nat}{l:List Value}{v:Value}{B:Nat}{e:TypeId}{s n:Nat}{m:List Value}(c:Ch (vk b v) w w')(hb:Row w b 111 l)(j:w.ownsRow B e s v n m)(i:e=121∨e=3):fD w w':=
 fD.fa c (fun k x t f d a=>by
  rcases d with rfl|d
  ·exact Or.inl (eD hb a)
  ·obtain⟨_,cs,g⟩:=bJ j d
   rw[g]at a;injection a with a;injection a with _ h _
   subst h;exact Or.inr i)
theorem qQ.iv{w w1:World}{B b:Nat}{f k i a:Value}{S:WS}(h:qQ w B b f k i S)(C:B<=w.heap.size)(y:aV)
 (A:w1.ownsRow B 121 7 a (S.code.length+1) (S.code.flatMap dg++dg y)) (l:w.grownBy w1 f.ownBlock):
 fG (w1.setCell (b,0) a) B b k i {S with code:=S.code++[y]}/\Below B w (w1.setCell (b,0) a)/\a9 w (w1.setCell (b,0) a):=by
 have c:=j3 (p:=b) (j:=0) (u:=a) l;have r:Row w1 b 111 [f,.int .i64 16,.slice none 0 0,k,i]:=by
  unfold Row;rw[l.block b h.row.lt (fun e=>bh h.code h.row (by decide) e.symm)];exact h.row
 have z:(w1.setCell (b,0) a).ownsRow B 121 7 a (S.code++[y]).length ((S.code++[y]).flatMap dg):=by
  have:=dL (j:=0) (u:=a) A r (by decide);rw[List.flatMap_append,List.length_append];simpa using this
 have q:∀{s:Nat} {v:Value} {n:Nat} {t:List Value},w.ownsRow B 3 s v n t->(w1.setCell (b,0) a).ownsRow B 3 s v n t:=fun o=>ar o c (fun g x d=>by
  obtain⟨_,cs,m⟩:=bJ o x;rcases d with rfl|d
  ·exact absurd (eD h.row m) (by decide)
  ·exact bh h.code m (by decide) d)
 exact⟨⟨a,r.a' _ _ rfl,h.hB,z,q h.work,q h.aL,h.ne⟩,fS c h.code h.hB C,a9.E' c h.row h.code⟩
def gC(S:WS)(B b:Nat)(c a:Value)(w:World)(e:Ending)(w':World):Prop:=e=.returned (.tuple #[])/\fG w' B b c a S/\Below B w w'/\a9 w w'
def fE(S:WS)(r v:Int):WS:={S with code:=S.code++[⟨1,r,0,0,v,0,0⟩]}
theorem jm(S:WS)(r v:Int)(B b:Nat){o n:Value}(w:World)(h:fG w B b o n S)(u:B<=w.heap.size)(E:S.code.length<=1000000):
 Calls prog 84 #[(b,0),r,.int .u64 v] w (gC (fE S r v) B b o n w):=by
 obtain⟨A,i,x,y,z⟩:=info_parts hT;obtain⟨d,a⟩:=h;have q:=Z a;have p:=Z i;have m:w.cell? (b,0)=some d:=a.row.cell rfl;have f:=a.row.free 0;have k:=a.row.lt;have l:d.ownBlock≠some b:=bh a.code a.row (by decide);have g:=a.code;clear a i;go_enter func84,ntmps84
 go_wp2_with (at_builtin;refine wpList_append_lies _ rfl _ _ _ rfl B 121 A _ 7 56 underlying30 p x y z rfl (by omega) d S.code.length (S.code.flatMap dg) rfl (g.alloc _) ⟨w.heap.size,0,none⟩ 1 1 [.int .i64 1,r,.int .i64 0,.int .i64 0,.int .u64 v,.int .i64 0,.int .i64 0] rfl rfl (World.news_of_block (cs:=#[.int .i64 1,r,.int .i64 0,.int .i64 0,.int .u64 v,.int .i64 0,.int .i64 0]) (t:=121) (fr:=(0,0)) (heap_alloc_new w _)) (by simp[Value.oneCell']) (by omega) (by unfold maxLen;omega) (by omega) (by simp;omega) (w.heap.size+1) (by simp) ?_)
 intro D C w2 j c s F;have G:w2.cell? (b,0)=some d:=(c.cell_far ⟨b,0,none⟩ (by simp;omega) (Ne.symm l)).trans (by simp[go_sem,World.cell?_alloc_past,k,m]);have H:w2.frozen? (b,0)=false:=(c.frozen_far ⟨b,0,none⟩ (by simp;omega) (Ne.symm l)).trans (by simp[go_sem,World.frozen?_alloc_past,k,f]);have e:=Z (q.iv u ⟨1,r,0,0,v,0,0⟩ j (ax c));clear j c s g m f;go_wp2_with fail
 go_end0
 exact⟨rfl,e.1,e.2.1,e.2.2⟩
def fK:WS->List Int->Nat->WS
 |S,[],_=>S
 |S,a::l,i=>fK (fE S i a) l (i+1)
def b5(S:WS)(num:Int)(a:List Int):WS:={fK S a 0 with code:=(fK S a 0).code++[⟨22,0,0,0,IntKind.u64.wrap num,0,0⟩]}
theorem gR:∀(b:List Int) (S:WS) (i:Nat),(fK S b i).code.length=S.code.length+b.length/\(fK S b i).work=S.work/\(fK S b i).aL=S.aL
 |[],S,i=>⟨rfl,rfl,rfl⟩
 |a::l,S,i=>by
  obtain⟨c,d,e⟩:=gR l (fE S i a) (i+1);refine⟨?_,d,e⟩;show(fK (fE S i a) l (i+1)).code.length=_
  rw[c];simp only[fE,List.length_append,List.length_cons,List.length_nil];omega
theorem ey(S:WS)(num:Int)(a:List Int)(al:a.length<=10)(g cap B b:Nat)(ap:a.length<=cap){u s:Value}(w:World)(M:Row w g 56 (a.map (Value.int .u64)))(h:fG w B b u s S)(c7:B<=w.heap.size)(c6:S.code.length<=900000):
 Calls prog 46 #[(b,0),num,.slice (some (g,0)) a.length cap] w (gC (b5 S num a) B b u s w):=by
 obtain⟨c2,H,bw,c0,c1⟩:=info_parts hT;have W:=Z H;have a0:=Z M;have a1:=Z h;obtain⟨l,F⟩:=nm (fK S a 0);have z:=Z F;have a2:=Z (gR a S 0);obtain⟨N,A⟩:=nm a.length;rw[A]at al ap⊢;have y:=Z A;clear M h H F A;go_enter func46,ntmps46
 go_upto_block 0 with fail
 go_cut [] (fun wc=>fG wc B b u s l/\Below B w wc/\a9 w wc)
 case first=>
  go_wp2_with fail
  go_loopw [6] (fun i wr=>∃(k:Nat) (d:WS),k<=N/\i=.int .i64 k/\fG wr B b u s d/\Below B w wr/\a9 w wr/\fK d (a.drop k) k=l/\d.code.length<=S.code.length+k) (fun i _=>N-(intOf i).toNat)
  case atStart=>exact⟨0,S,by omega,rfl,a1,Below.refl _ _,a9.refl _,z,by omega⟩
  case round=>
   obtain⟨k,d,c5,rfl,m,c,j,n,av⟩:=hrel;have ab:=Z m;have o:=Z c;have p:=Z j;by_cases bi:k<N
   ·have J:k<a.length:=by have:=y.out;omega
    obtain⟨x,C⟩:=nm (a[k]);rw[List.drop_eq_getElem_cons J,C]at n;have a3:Hid (fK (fE d k x) (a.drop (k+1)) (k+1)=l):=Z n;have y0:wr.cell? (g,k)=some (.int .u64 x):=(j.row a0 (by decide) (by decide)).cell (by rw[List.getElem?_map,List.getElem?_eq_getElem J,C];rfl);have U:=Z (jm d k x B b wr m (by have:=c.size;omega) (by omega));clear n C m c j;go_wp2_with fail
    with_reducible refine U.out.mono ?_
    rintro e w2 ⟨rfl,O,G,I⟩;have ad:=Z O;have T:=Z (o.trans G);have X:=Z (p.trans I);clear O G I;go_wp2_with fail
    go_roundw
    case rel=>exact⟨k+1,fE d k x,by omega,by go_num,ad,T,X,a3,by simp only[fE,List.length_append,List.length_cons,List.length_nil];omega⟩
    case measure=>simp[intOf];omega
   ·have V:Hid (d=l):=Z (by
     rw[List.drop_of_length_le (by have:=y.out;omega)]at n;exact n)
    clear n m c j;go_wp2_with fail
    go_meet
    rw[<-V];exact⟨ab,o,p⟩
 case rest=>
  obtain⟨m,c,j⟩:=hcut;obtain⟨w1,Q⟩:=nm wc;rw[Q]at m c j⊢;have o:=Z c;have p:=Z j;obtain⟨r,f⟩:=m;have Y:=Z f;have R:w1.cell? (b,0)=some r:=f.row.cell rfl;have D:=f.row.free 0;have L:=f.row.lt;have P:r.ownBlock≠some b:=bh f.code f.row (by decide);have E:=f.code;have av:l.code.length<=900010:=by rw[<-z,a2.1];have:=y.out;omega
  have bv:B<=w1.heap.size:=by have:=c.size;omega
  clear f Q c j;go_wp2_with (at_builtin;refine wpList_append_lies _ rfl _ _ _ rfl B 121 c2 _ 7 56 underlying30 W bw c0 c1 rfl (by omega) r l.code.length (l.code.flatMap dg) rfl (E.alloc _) ⟨w1.heap.size,0,none⟩ 1 1 [.int .i64 22,.int .i64 0,.int .i64 0,.int .i64 0,.int .u64 (IntKind.u64.wrap num),.int .i64 0,.int .i64 0] rfl rfl (World.news_of_block (cs:=#[.int .i64 22,.int .i64 0,.int .i64 0,.int .i64 0,.int .u64 (IntKind.u64.wrap num),.int .i64 0,.int .i64 0]) (t:=121) (fr:=(0,0)) (heap_alloc_new w1 _)) (by simp[Value.oneCell']) (by omega) (by unfold maxLen;omega) (by omega) (by simp;omega) (w1.heap.size+1) (by simp) ?_)
  intro c4 c3 w2 K q am bi;have c8:w2.cell? (b,0)=some r:=(q.cell_far ⟨b,0,none⟩ (by simp;omega) (Ne.symm P)).trans (by simp[go_sem,World.cell?_alloc_past,L,R]);have c9:w2.frozen? (b,0)=false:=(q.frozen_far ⟨b,0,none⟩ (by simp;omega) (Ne.symm P)).trans (by simp[go_sem,World.frozen?_alloc_past,L,D]);have v:=Z (Y.iv bv ⟨22,0,0,0,IntKind.u64.wrap num,0,0⟩ K (ax q));clear K q am E R D;go_wp2_with fail
  go_end0
  refine⟨rfl,?_,o.trans v.2.1,p.trans v.2.2⟩;unfold b5;rw[z];exact v.1
end Go.Proofs.YtfnilkpkogipfaaGreatDoor
