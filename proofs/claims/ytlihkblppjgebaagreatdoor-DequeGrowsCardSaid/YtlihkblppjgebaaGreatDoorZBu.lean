import Derived.Test.YtlihkblppjgebaaGreatDoorZBt
set_option linter.all false
set_option maxRecDepth 100000
set_option maxHeartbeats 8000000
namespace Go.Proofs.YtlihkblppjgebaaGreatDoor
open Go.RowKit Go.Proofs.Tryz
section
section
variable{ok:Hy}{n j d mb N M f base q t b a z i:Nat}{s s' S:AS}{w w' W:World}{K:KS}
theorem fL(c:cR base K.ds s)(e:q<s.hl):pk K (q:Int)=(s.c q:Int):=by
 have g:K.mem.wid (q:Int)=64:=c.wid e;have h:K.mem.cells.getD q 0=(s.c q:Int):=c.get e;unfold pk hd aF.acc;rw[g,if_neg (by decide)];dsimp only;rw[if_neg (by decide),if_neg (by decide),if_neg (by decide),Int.toNat_natCast,h];rfl
theorem ey{x:Nat}(h:x<65537):IntKind.u64.wrap (x:Int)=(x:Int):=by rw[LZ,Nat.mod_eq_of_lt (by unfold qO;omega)]
theorem hP(g:cR base K.ds s)(r:0<z)(u:a+z<s.hl)(x:s.hl<=65536)(v:b<=64):∀(f i:Nat),b-i<=f->eT K (a:Int) (z:Int) (b:Int) f (i:Int)=((List.range (b-i)).map fun k=>s.c (a+1+(i+k)%z)).map fun y:Nat=>(y:Int):=by
 intro f
 induction f with
 |zero=>
  intro i h;rw[show b-i=0 by omega];rfl
 |succ f ih=>
  intro i h;unfold eT;by_cases c:i<b
  ·have A:=Nat.mod_lt i r
   rw[if_pos ⟨by omega,by omega⟩];have l:IntKind.u64.wrap (IntKind.u64.wrap ((a:Int)+1)+(i:Int).tmod (z:Int))=((a+1+i%z:Nat):Int):=by
    have e:=ey (show a+1<65537 by omega);rw[Int.natCast_add]at e;have o:(i:Int).tmod (z:Int)=((i%z:Nat):Int):=(by rw[Int.tmod_eq_emod_of_nonneg (by omega)];rfl);have p:=ey (show a+1+i%z<65537 by omega);rw[show IntKind.u64.wrap ((a:Int)+1)=((a+1:Nat):Int)from e,o,<-Int.natCast_add];exact p
   have m:IntKind.u64.wrap ((i:Int)+1)=((i+1:Nat):Int):=ey (show i+1<65537 by omega);rw[l,m,fL g (by omega),ih (i+1) (by omega),show b-i=(b-(i+1))+1 by omega,List.range_succ_eq_map];simp[Function.comp_def,Nat.add_assoc,Nat.add_comm 1]
  ·rw[if_neg (by omega),show b-i=0 by omega]
   rfl
theorem hh(c:cR base K.ds s)(F:Fd n s j (tp s.sh j) (dK s.sh j) (ra s.sh j) (s.sh.c (ra s.sh j)))(hj:j<s.wk.length):ev K j=(((tp s.sh j:Nat):Int),((dK s.sh j:Nat):Int),(cont s.sh j).map fun y:Nat=>(y:Int)):=by
 have p:0<s.sh.c (ra s.sh j):=by rcases F.zs with e|e|e<;>omega
 have r:=F.x;have h:=F.l;have k:=F.m;have hw:K.wk.length=s.wk.length:=c.wn;have g:gY (j:Int)=((17+3*j:Nat):Int):=ey (x:=17+3*j) (by omega);have l:=fL c (q:=17+3*j) (by omega);have m:=fL c (q:=17+3*j+1) (by omega);have o:=fL c (q:=17+3*j+2) (by omega);have p3:=fL c (q:=ra s.sh j) (by omega);have w1:IntKind.u64.wrap (((17+3*j:Nat):Int)+1)=((17+3*j+1:Nat):Int):=ey (x:=17+3*j+1) (by omega);have w2:IntKind.u64.wrap (((17+3*j:Nat):Int)+2)=((17+3*j+2:Nat):Int):=ey (x:=17+3*j+2) (by omega);unfold ev;rw[if_neg (by omega)];dsimp only;rw[g,w1,w2,l,m,o];have p3:pk K ((s.c (17+3*j+2):Nat):Int)=(s.c (ra s.sh j):Int):=p3;rw[p3];refine Prod.ext rfl (Prod.ext rfl ?_);exact hP c (a:=ra s.sh j) (z:=s.sh.c (ra s.sh j)) (b:=dK s.sh j) p h k F.b1 16 (tp s.sh j) (by have:=F.bz;rcases F.zs with e|e|e<;>omega)
def ij(w:World)(mb n N j:Nat)(s:AS)(W:World)(e:Ending)(w':World):Prop:=
 ∃x y v,e=.returned (.tuple #[.int .u64 x,.int .u64 y,v])/\w'.ownsRow W.heap.size 39 1 v (cont s.sh j).length (((cont s.sh j).map fun y:Nat=>(y:Int)).map (Value.int .u64))/\LW w mb n N s w'
theorem hk(h:LW w mb n N s W)(I:FK ok n s)(hj:j<n)(B:Ia s j=90):Calls prog 21 #[.pointer (some ⟨mb,0,none⟩),.int .i64 j] W (ij w mb n N j s W):=by
 obtain⟨χ,K,M,y,l,o⟩:=h.d;obtain⟨g,m,c,_⟩:=I;obtain⟨x,p⟩:=c.at_ hj;have A:=(quiet c p (by rw[<-HX p];exact B)).2.2;have F:=c.fd hj A;obtain⟨L,Y,rfl,C,D⟩:=l.ms;have k:=gq (j:Int) C;rw[hh l.ar F (by rw[c.nw];exact hj)]at k;refine k.mono ?_;rintro e w' ⟨v,E,r,u⟩;rw[List.length_map]at r;exact⟨_,_,v,E,r,⟨χ,K,M,y,⟨⟨L,Y,rfl,u.at_,D⟩,l.iv,l.ar⟩,o⟩,jl o u.nx h.c⟩
end
end
section
def ho(b:Bool):List Value:=[.bool b]
section
variable{n j d mb N M f tt:Nat}{s s' S:AS}{w w' W:World}{T D:ByteArray}{L:List (ByteArray×Int)}
theorem fT(a:R5 S):ek S 2=Ph 400 S 1 2/\R5 (ek S 2)/\(ek S 2).nb=S.nb/\Ia (ek S 2) 1=90/\Ia (ek S 2) 0=90:=by
 have e:ek S 2=Ph 400 S 1 2:=by
  show Ph 400 (Ph 400 S 0 2) 1 2=_
  rw[fl a.q]
 obtain⟨b,c⟩:=fK 400 S a;rw[e];exact⟨rfl,b,c,fF a.i (by omega) (Or.inr ⟨rfl,rfl⟩),b.q⟩
theorem hp{x:Int}(h:0<=x/\x<65537):IntKind.u64.wrap x=x:=by
 obtain⟨q,rfl⟩:∃q:Nat,x=q:=⟨x.toNat,by omega⟩;exact ey (by omega)
theorem gA(X:I4 T D L)(H O:Int)(l:List Bool)(v:Value)(w:World)(t:iA w w.heap.size v 1 ho l)(m:Int)(J:w.cell? ⟨1,0,none⟩=some (.int .i64 m))
 (eA:w.cell? ⟨0,0,none⟩=some (.iface 390 (.agg #[.pointer (some ⟨4,85,none⟩)]))):
 Calls prog 6 #[.int .i64 H,.int .i64 O,v] w (dt (.bool true) w):=by
 obtain⟨a,c,rfl,i0,fb⟩:=t;obtain⟨c2,c9⟩:∃N,l.length=N:=⟨_,rfl⟩;have hf:=Z c9;have hj:=Z fb;rw[c9]at i0⊢;clear c9 fb;have i4:=dJ H 20 (by decide);have cW:Hid (∀W,Calls prog 24 #[.int .i64 H,.int .i64 20] W (fun e w'=>e=.returned (.int .i64 (cN H 20))/\W=w')):=Z (fun W=>ot H 20 (by decide) W);have i5:=dJ O 16 (by decide);have dr:Hid (∀W,Calls prog 24 #[.int .i64 O,.int .i64 16] W (fun e w'=>e=.returned (.int .i64 (cN O 16))/\W=w')):=Z (fun W=>ot O 16 (by decide) W);obtain⟨b,hB⟩:∃b:Nat,cN H 20=b:=⟨(cN H 20).toNat,by omega⟩;obtain⟨B,hF⟩:∃B:Nat,cN O 16=B:=⟨(cN O 16).toNat,by omega⟩;rw[hB]at i4 cW;rw[hF]at i5 dr;have he:Hid (Calls prog 25 #[.int .i64 2,.int .i64 500] w (OX w 2 500)):=Z (Of X (n:=2) (tt:=500) (by omega) (by omega) m w J eA);have ge:Hid (∀v wr,Ch ag w wr->Calls prog 26 #[v] wr (dt (.int .i64 90) wr)):=Z (fun v wr c=>I5 X v m wr ((c.cell (aE J) (fun e=>e)).trans J));have cL:Hid (∀mb N S W,N<=200000->LW w mb 2 N S W->R5 S->S.nb<63->(cont S.sh 0).length<16->Calls prog 27 #[.pointer (some ⟨mb,0,none⟩),.int .i64 0,.int .u64 0] W (Rf w mb 2 (N+500) (GC 500 S 0 0))):=Z (fun mb N S W c7 h u I t=>
  Nc (ok:=Q1) (j:=0) (d:=0) X h u.i (by omega) (Or.inl ⟨rfl,rfl⟩) (by decide) (by rw[(eO u (by omega) t).2.1];omega) (by omega) m J)
 have hu:Hid (∀mb N S W,N<=200000->LW w mb 2 N S W->R5 S->S.nb<64->Ia S 1=90->Calls prog 27 #[.pointer (some ⟨mb,0,none⟩),.int .i64 1,.int .u64 2] W (Rf w mb 2 (N+500) (GC 500 S 1 2))):=Z (fun mb N S W c7 h u I U=>
  Nc (ok:=Q1) (j:=1) (d:=2) X h u.i (by omega) (Or.inr ⟨rfl,rfl⟩) (by decide) (by rw[(eY u U).2.1];omega) (by omega) m J)
 have gk:Hid (∀mb N S W,N<=200000->LW w mb 2 N S W->R5 S->S.nb<64->Calls prog 13 #[.pointer (some ⟨mb,0,none⟩),.agg #[.int .i64 1,.int .i64 1,.int .u64 2]] W (Oe w mb 2 (N+1) (aaq S 1 2))):=Z (fun mb N S W c7 h u I=>
  OV (j:=1) (d:=2) h u.i (by omega) (Or.inr ⟨rfl,rfl⟩) (by decide) I (by omega))
 have hn:Hid (∀mb N S W,N<=200000->LW w mb 2 N S W->R5 S->S.nb<64->Calls prog 28 #[.pointer (some ⟨mb,0,none⟩),.int .i64 2] W (hW w mb 2 (N+2*400) (ek S 2))):=Z (fun mb N S W c7 h u I=>
  gw (n:=2) (s:=S) X h u.i (fun k a1=>by
   rcases k with _|_|k
   ·exact Or.inr u.q
   ·exact Or.inl (Or.inr ⟨rfl,rfl⟩)
   ·omega) (fun k a1=>by
   rcases k with _|_|_|k
   ·exact I
   ·show(Ph 400 S 0 2).nb<64
    rw[fl u.q];exact I
   ·rw[(fT u).2.2.1];exact I
   ·omega) (by omega) (by omega) m J)
 have gr:Hid (R5 (F9 2 500)):=Z (gp (by omega) (by decide));clear X J eA;go_enter func6,ntmps6
 go_wp2_with fail
 with_reducible refine he.out.mono ?_
 rintro e w1 ⟨mb,rfl,Q⟩;have ct:=Z Q;clear Q;go_wp2_with fail
 with_reducible refine(ge.out _ _ ct.out.c).mono ?_
 rintro e w2 ⟨rfl,et⟩;have fz:=Z (ct.out.af et);clear et;go_wp2_with fail
 with_reducible refine(cW.out _).mono ?_
 rintro e iL ⟨rfl,rfl⟩;go_upto_block 0 with fail
 go_cut [] (fun wc=>∃S,LW w mb 2 20001 S wc/\R5 S/\S.nb=1+b/\(cont S.sh 0).length=0)
 case first=>
  go_wp2_with fail
  go_loopw [9] (fun i wr=>∃(k:Nat) (S:AS),k<=b/\i=.int .i64 k/\LW w mb 2 (1+k*1000) S wr/\R5 S/\S.nb=1+k/\(cont S.sh 0).length=0/\Ia S 1=90) (fun i _=>b-(intOf i).toNat)
  case atStart=>exact⟨0,F9 2 500,by omega,rfl,fz.out,gr.out,rfl,by rw[(Kx (show 0<2 by omega)).1];rfl,IM 1 (by omega)⟩
  case round=>
   obtain⟨k,S,a1,rfl,t,r,K,E,U⟩:=hrel;by_cases a2:k<b
   ·have ap:(k:Int)<b:=by omega
    obtain⟨F,c4,c5,V⟩:=eO r (by omega) (by omega);obtain⟨p,c3,al,hw⟩:=eY F (V.trans U);have bi:=Z (cL.out mb _ S wr (by omega) t r (by omega) (by omega));have bv:=Z (fun W h=>hu.out mb (1+k*1000+500) _ W (by omega) h F (by omega) (V.trans U));have z:=Z (And.intro p (And.intro (show(GC 500 (GC 500 S 0 0) 1 2).nb=1+(k+1)by omega) (And.intro (show(cont (GC 500 (GC 500 S 0 0) 1 2).sh 0).length=0 by omega) al)));clear t r K E U F c4 c5 V p c3 al hw;go_wp2_with fail
    with_reducible refine bi.out.mono ?_
    rintro e fn ⟨rfl,Y⟩;have P:=Z Y;clear Y;go_wp2_with fail
    with_reducible refine(bv.out _ P.out).mono ?_
    rintro e i8 ⟨rfl,a0⟩;have av:=Z a0;clear a0;go_wp2_with fail
    go_roundw
    case rel=>exact⟨k+1,_,by omega,by go_num,av.out.more (by rw[Nat.succ_mul];omega),z.out.1,z.out.2.1,z.out.2.2.1,z.out.2.2.2⟩
    case measure=>simp[intOf];omega
   ·obtain rfl:k=b:=by omega
    have c0:=Z (And.intro (t.more (show 1+k*1000<=20001 by omega)) (And.intro r (And.intro K E)));clear t r K E U;go_wp2_with fail
    go_meet
    exact⟨S,c0.out⟩
 case rest=>
  obtain⟨hv,dN,eC,eS,eL⟩:=hcut;have g2:=Z dN;have c1:=Z (And.intro eC (And.intro eS eL));clear dN eC eS eL;go_wp2_with fail
  with_reducible refine(dr.out _).mono ?_
  rintro e iT ⟨rfl,rfl⟩;go_upto_block 2 with fail
  go_cut [] (fun cm=>∃S,LW w mb 2 40001 S cm/\R5 S/\S.nb=1+b+(1+B))
  case first=>
   go_wp2_with fail
   go_loopw [11] (fun i wr=>∃(k:Nat) (S:AS),k<=1+B/\i=.int .i64 k/\LW w mb 2 (20001+k*1000) S wr/\R5 S/\S.nb=1+b+k/\(cont S.sh 0).length<=k) (fun i _=>1+B-(intOf i).toNat)
   case atStart=>exact⟨0,hv,by omega,rfl,g2.out,c1.out.1,c1.out.2.1,Nat.le_of_eq c1.out.2.2⟩
   case round=>
    obtain⟨k,S,a1,rfl,t,r,K,E⟩:=hrel;by_cases a2:k<1+B
    ·have ap:(k:Int)<1+(B:Int):=by omega
     obtain⟨F,c4,c5,V⟩:=eO r (by omega) (by omega);obtain⟨p,c3,al⟩:=eU F;have bi:=Z (cL.out mb _ S wr (by omega) t r (by omega) (by omega));have bv:=Z (fun W h=>gk.out mb (20001+k*1000+500) _ W (by omega) h F (by omega));have z:=Z (And.intro F (And.intro (show(GC 500 S 0 0).nb=1+b+(k+1)by omega) (show(cont (GC 500 S 0 0).sh 0).length<=k+1 by omega)));have bw:=Z (And.intro p (And.intro (show(aaq (GC 500 S 0 0) 1 2).nb=1+b+(k+1)by omega) (show(cont (aaq (GC 500 S 0 0) 1 2).sh 0).length<=k+1 by omega)));clear t r K E F c4 c5 V p c3 al;go_wp2_with fail
     with_reducible refine bi.out.mono ?_
     rintro e fn ⟨rfl,Y⟩;have P:=Z Y;clear Y;by_cases i1:k<c2
     ·have i2:(k:Int)<c2:=by omega
      obtain⟨x,fd⟩:∃x,l[k]?=some x:=⟨_,List.getElem?_eq_getElem (by rw[hf.out];exact i1)⟩;obtain⟨g,i7,rfl,-,E⟩:=hj.out _ _ fd;have io:fn.cell? ⟨g,i7+k,none⟩=some (.bool x):=by
       have:=P.out.cell (E 0 _ rfl);simpa using this
      clear fd E;cases x with
      |true=>
       go_wp2_with fail
       with_reducible refine(bv.out _ P.out).mono ?_
       rintro e i8 ⟨v,rfl,a0⟩;have av:=Z a0;clear a0;go_wp2_with fail
       go_roundw
       case rel=>exact⟨k+1,_,by omega,by go_num,av.out.more (by rw[Nat.succ_mul];omega),bw.out.1,bw.out.2.1,bw.out.2.2⟩
       case measure=>simp[intOf];omega
      |false=>
       go_wp2_with fail
       go_roundw
       case rel=>exact⟨k+1,_,by omega,by go_num,P.out.more (by rw[Nat.succ_mul];omega),z.out.1,z.out.2.1,z.out.2.2⟩
       case measure=>simp[intOf];omega
     ·have i2:¬(k:Int)<c2:=by omega
      go_wp2_with fail
      go_roundw
      case rel=>exact⟨k+1,_,by omega,by go_num,P.out.more (by rw[Nat.succ_mul];omega),z.out.1,z.out.2.1,z.out.2.2⟩
      case measure=>simp[intOf];omega
    ·have ap:¬(k:Int)<1+(B:Int):=by omega
     obtain rfl:k=1+B:=by omega
     have c0:=Z (And.intro (t.more (show 20001+(1+B)*1000<=40001 by omega)) (And.intro r K));clear t r K E;go_wp2_with fail
     go_meet
     exact⟨S,c0.out⟩
  case rest=>
   obtain⟨dC,ec,cd,eW⟩:=hcut;have cS:=Z (hn.out mb _ dC _ (by omega) ec cd (by omega));obtain⟨-,f1,f2,f3,f4⟩:=fT cd;have R:=gL f1 f3;rw[f2,eW]at R;obtain⟨o,es⟩:=nm (ek dC 2);rw[es]at f1 f3 f4 R cS;have go:Hid (∀N W,LW w mb 2 N o W->Calls prog 21 #[.pointer (some ⟨mb,0,none⟩),.int .i64 0] W (ij w mb 2 N 0 o W)):=Z (fun N W h=>hk (n:=2) (j:=0) h f1.i (by omega) f4);clear f1 f2 f3 f4 cd ec es eW;go_wp2_with fail
   with_reducible refine cS.out.mono ?_
   rintro e iV ⟨rfl,en⟩;have g4:=Z en;clear en;go_wp2_with fail
   with_reducible refine(go.out _ _ g4.out).mono ?_
   rintro e iW ⟨t1,t2,iz,rfl,ch,c6⟩;have gc:=Z c6;have hm:=Z (Ld c6);clear c6;obtain⟨i9,ii,rfl⟩:=aA ch;have hi:=Z ch;clear ch;go_wp2_with fail
   with_reducible refine hm.out.mono ?_
   rintro e cl i3;obtain⟨⟨iF,rfl,a3⟩,cb⟩:=i3;obtain⟨ih,ik,rfl⟩:=aA a3;have fr:=Z (gc.out.af cb);have cA:=Z (ar hi.out cb (fun _ _ e=>e));rw[List.length_map]at a3⊢;rw[Ra]at a3;have cC:=Z a3;clear a3 cb;obtain⟨C,c8⟩:∃N,(cont o.sh 0).length=N:=⟨_,rfl⟩;obtain⟨NR,am⟩:∃N,o.ring.length=N:=⟨_,rfl⟩;have ix:NR+C=1+b+(1+B):=by
    have:=congrArg List.length R;rw[List.length_append,List.length_range',am,c8]at this;exact this
   have gt:Hid (∀i,i<NR->o.ring[i]?=some (64+i)):=Z (fun i r=>by
    have Q:(o.ring++cont o.sh 0)[i]?=o.ring[i]?:=List.getElem?_append_left (by omega);rw[<-Q,R,List.getElem?_range' (by omega)]
    simp)
   have gs:Hid (∀i,i<C->(cont o.sh 0)[i]?=some (64+NR+i)):=Z (fun i r=>by
    have Q:(o.ring++cont o.sh 0)[NR+i]?=(cont o.sh 0)[i]?:=(by rw[List.getElem?_append_right (by omega),am,Nat.add_sub_cancel_left]);rw[<-Q,R,List.getElem?_range' (by omega)]
    simp;omega)
   rw[c8]at cA⊢;rw[am]at cC⊢;have iv:(C:Int)+(NR:Int)=1+(b:Int)+(1+(B:Int)):=(by omega);have ip:(NR:Int)<=64:=(by omega);have it:(C:Int)<=64:=(by omega);clear R c8 am;go_upto_block 4 with fail
   go_cut [16] (fun x cm=>x=.int .u64 (64+(NR:Int))/\Ch ag cl cm)
   case first=>
    go_wp2_with fail
    go_loopw [16,17] (fun x i wr=>∃k:Nat,k<=NR/\x=.int .u64 (64+(k:Int))/\i=.int .i64 k/\Ch ag cl wr) (fun _ i _=>NR-(intOf i).toNat)
    case atStart=>exact⟨0,by omega,rfl,rfl,Ch.refl _ _⟩
    case round=>
     obtain⟨k,a1,rfl,rfl,A⟩:=hrel;by_cases a2:k<NR
     ·have ap:(k:Int)<NR:=by omega
      have ab:(o.ring.map fun y:Nat=>(y:Int))[k]?=some (64+(k:Int)):=(by rw[List.getElem?_map,gt.out k a2];rfl);obtain⟨g,q,j,p,-,-,-,ad,-⟩:=aS cC.out (by omega);injection p with p cq cs
      subst p;have ci:=Od (k:=1) (fun _=>rfl) (ad.ch A (fun h=>h)) ab 0 (by decide) _ rfl;rw[Nat.mul_one,Nat.add_zero]at ci;have G:=Z A;have i6:IntKind.u64.wrap (64+(k:Int)+1)=64+((k:Int)+1):=(by rw[hp (by omega)];omega);clear ab ad cq cs A;go_wp2_with fail
      go_roundw
      case rel=>exact⟨k+1,by omega,rfl,by go_num,G.out⟩
      case measure=>simp[intOf];omega
     ·obtain rfl:k=NR:=by omega
      have G:=Z A;clear A;go_wp2_with fail
      go_meet
      exact⟨rfl,G.out⟩
   case rest=>
    obtain⟨rfl,ex⟩:=hcut;have gf:=Z ex;clear ex;go_wp2_with fail
    go_loopw [16,18] (fun x i wr=>∃k:Nat,k<=C/\x=.int .u64 (64+(NR:Int)+(k:Int))/\i=.int .i64 k/\Ch ag cl wr) (fun _ i _=>C-(intOf i).toNat)
    case atStart=>exact⟨0,by omega,by simp,rfl,gf.out⟩
    case round=>
     obtain⟨k,a1,rfl,rfl,A⟩:=hrel;by_cases a2:k<C
     ·have ap:(k:Int)<C:=by omega
      have ab:((cont o.sh 0).map fun y:Nat=>(y:Int))[k]?=some (64+(NR:Int)+(k:Int)):=(by rw[List.getElem?_map,gs.out k a2];rfl);have ce:=cA.out;rw[Ra]at ce;obtain⟨g,q,j,p,-,-,-,ad,-⟩:=aS ce (by omega);injection p with p cq cs
      subst p;have ci:=Od (k:=1) (fun _=>rfl) (ad.ch A (fun h=>h)) ab 0 (by decide) _ rfl;rw[Nat.mul_one,Nat.add_zero]at ci;have G:=Z A;have i6:IntKind.u64.wrap (64+(NR:Int)+(k:Int)+1)=64+(NR:Int)+((k:Int)+1):=(by rw[hp (by omega)];omega);clear ab ad cq cs A ce;go_wp2_with fail
      go_roundw
      case rel=>exact⟨k+1,by omega,rfl,by go_num,G.out⟩
      case measure=>simp[intOf];omega
     ·obtain rfl:k=C:=by omega
      have G:=Z A;clear A;go_wp2_with fail
      go_ret;exact dt.mk rfl (fr.out.c.trans G.out)
end
end
end Go.Proofs.YtlihkblppjgebaaGreatDoor
