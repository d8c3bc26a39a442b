import Derived.Deep.RegionHeldLaw
import Derived.Test.YtmfnplmcfkkdpaaGreatDoorZAr
set_option linter.all false
set_option maxRecDepth 100000
set_option maxHeartbeats 0
namespace Go.Proofs.YtmfnplmcfkkdpaaGreatDoor
open Go.RowKit Go.Proofs.Tryz
def Nu:List (ByteArray×Int):=[(⟨#[104,110,100]⟩,29),(⟨#[106,122]⟩,13),(⟨#[119,114,107]⟩,38),(⟨#[108,100]⟩,17),(⟨#[115,117,98]⟩,4),(⟨#[108,116]⟩,11),(⟨#[97,110,100]⟩,5),(⟨#[97,100,100]⟩,3),(⟨#[115,116]⟩,18),(⟨#[108,97,121]⟩,31),(⟨#[115,101,116]⟩,1),(⟨#[102,97,100]⟩,20),(⟨#[114,101,116]⟩,16),(⟨#[103,101,116]⟩,43),(⟨#[101,113]⟩,10),(⟨#[106,110,122]⟩,14),(⟨#[109,111,118]⟩,2),(⟨#[105,110,106]⟩,33),(⟨#[106,109,112]⟩,12),(⟨#[112,105,107]⟩,30),(⟨#[116,97,107]⟩,32),(⟨#[100,114,119]⟩,42),(⟨#[115,104,114]⟩,9),(⟨#[119,107,100]⟩,39),(⟨#[106,115,114]⟩,15),(⟨#[116,110,119]⟩,48)]
set_option maxRecDepth 1000000 in
theorem M3:(Nu.all fun p=>Kb p.1==p.2)=true:=by kernel_rfl
def MT(s:ByteArray):Int:=match Nu.find? (fun p=>decide (p.1=s))with
 |some p=>p.2
 |none=>Kb s
theorem M4(s:ByteArray):Kb s=MT s:=by
 unfold MT;split
 ·rename_i p h
  have a:=List.find?_some (p:=fun p:ByteArray×Int=>decide (p.1=s)) h;have a:p.1=s:=of_decide_eq_true a;have b:=List.all_eq_true.1 M3 p (List.mem_of_find?_eq_some h);rw[<-a];exact eq_of_beq b
 ·rfl
def MD(st:w3)(rest:List ByteArray)(line:Int)(op:Int)(K:Int×Int×Int):Except Bool w3:=
 if op=0 then .error true
 else if Ik (IG K) rest then .error true
 else JB (IG K) rest (HZ line K rest (IG K) 0 st (Kd op))
theorem ME(st:w3)(w0:ByteArray)(rest:List ByteArray)(line:Int):IL st w0 rest line=MD st rest line (MT w0) (H0 (MT w0)):=by
 unfold IL MD;rw[M4]
def Mb(st:w3)(line:Int):List ByteArray->Except Bool w3
 |[]=> .ok st
 |w0::rest=>if rest=[]/\sv w0 (w0.size-1)=58 then KU st (w0.extract 0 (w0.size-1)) line else MD st rest line (MT w0) (H0 (MT w0))
theorem Mc(st:w3)(line:Int)(a:List ByteArray):JZ st line a=Mb st line a:=by
 cases a with
 |nil=>rfl
 |cons w0 rest=>
  show(if rest=[]/\sv w0 (w0.size-1)=58 then KU st (w0.extract 0 (w0.size-1)) line else IL st w0 rest line)=if rest=[]/\sv w0 (w0.size-1)=58 then KU st (w0.extract 0 (w0.size-1)) line else MD st rest line (MT w0) (H0 (MT w0))
  rw[ME]
def J6:List ByteArray->Int->w3->Except (Bool×Int) w3
 |[],_,st=> .ok st
 |l::ls,i,st=>match Mb st i (H3 l)with
  |.ok a=>J6 ls (i+1) a
  |.error t=> .error (t,i)
theorem Km:∀(ls:List ByteArray) (i:Int) (st:w3),Il ls i st=J6 ls i st
 |[],_,_=>rfl
 |l::ls,i,st=>by
  unfold Il J6 J0;rw[Mc];cases Mb st i (H3 l)with
  |ok a=>exact Km ls (i+1) a
  |error t=>rfl
def J7(ls:List ByteArray):Except (Bool×Int) (List be×List (ByteArray×Int)):=
 match J6 ls 0 IQ with
 |.error t=> .error t
 |.ok st=>match ID st with
  |some r=> .ok r
  |none=> .error (false,0)
theorem LQ(ls:List ByteArray):IK ls=J7 ls:=by
 unfold IK J7;rw[Km];cases J6 ls 0 IQ with
 |error t=>rfl
 |ok st=>rfl
def Nv:Operand->List ByteArray
 |.const (.string s)=>[s]
 |_=>[]
def Nr:Op->List ByteArray
 |.assign a=>Nv a
 |.binOp _ _ _ b _=>Nv b
 |_=>[]
def MF:Code->List ByteArray
 |.seq a b=>MF a++MF b
 |.region _ ops _=>ops.toList.flatMap fun o=>Nr o.op
 |_=>[]
def Mq(r:Except (Bool×Int) (List be×List (ByteArray×Int))):List (ByteArray×Int):=match r with
 |.ok p=>p.2
 |.error _=>[]
def Nw(r:Except (Bool×Int) (List be×List (ByteArray×Int))):List be:=match r with
 |.ok p=>p.1
 |.error _=>[]
theorem Nh{r:Except (Bool×Int) (List be×List (ByteArray×Int))}{c:List be}(h:Nw r=c)(a:c≠[]):r=.ok (c,Mq r):=by
 cases r with
 |error t=>exact absurd h.symm a
 |ok p=>rw[<-h];rfl
def Mr(A:Option Code)(i:Nat):List UInt8:=(((A.map MF).getD []).getD i ByteArray.empty).data.toList
theorem jf:dJ.length=45:=by kernel_rfl
def bX(L:List (ByteArray×Int))(n:Int)(l:List oY):List bB:=(l.filter fun r=>decide (r.oZ<=n)).map fun r=>⟨r.num,(Jk r.Bd L).1,r.k0,r.k1,r.k2,r.k3⟩
theorem nR(L:List (ByteArray×Int))(n:Int)(l:List oY)(k:Nat)(x:oY)(a:l[k]?=some x):bX L n (l.take (k+1))=bX L n (l.take k)++(if x.oZ<=n then [⟨x.num,(Jk x.Bd L).1,x.k0,x.k1,x.k2,x.k3⟩]else []):=by
 unfold bX;rw[List.take_add_one,a];simp only[Option.toList,List.filter_append,List.map_append]
 congr 1
 by_cases h:x.oZ<=n<;>simp[h]
def Bl(code:List be)(lp:Int)(calls:List bB)(w:World)(e:Ending)(w':World):Prop:=
 ∃vc vk,e=.returned (.tuple #[.agg #[vc,lp,vk],.bool true])/\w'.ownsRow w.heap.size 152 7 vc code.length (code.flatMap dn)/\w'.ownsRow w.heap.size 121 6 vk calls.length (calls.flatMap bB.cells)/\Ch ag w w'
theorem qC(T:ByteArray)(code:List be)(labels:List (ByteArray×Int))(fd:Iu T=.ok (code,labels))(gc:T.size<=65536)(jr:0<code.length)(k2:0<labels.length)(eW:labels.length<=1000000)
 (N:Int) (lG:N<=1000) (lp:Int) (g3:Jk ⟨#[108,111,111,112]⟩ labels=(lp,true)) (la:Int) (gr:Jk ⟨#[120,98,111,114,110]⟩ labels=(la,false)) (g9:∀x∈dJ,x.oZ<=N->(Jk x.Bd labels).2=true) (m:Int) (w:World) (cq:w.cell? (1,0)=some (.int .i64 m)):
 Calls prog 27 #[.agg #[.string T,N]] w (Bl code lp (bX labels N dJ) w):=by
 have ex:Hid (∀W,Ch ag w W->Calls prog 36 #[.string T] W (fun e w'=>∃vl vb,e=.returned (.tuple #[vl,vb,.nilIface])/\w'.ownsRow W.heap.size 152 7 vl code.length (b4 code)/\w'.ownsRow W.heap.size 184 2 vb labels.length (HV labels)/\Ch ag W w')):=Z (fun W c=>by
  refine(LN T gc (code,labels) fd m W ((c.cell (aQ cq) id).trans cq)).mono ?_;intro e w' h;obtain⟨vl,vb,f,l,j',k0⟩:=h;exact⟨vl,vb,f,l,j',Ch.bT k0⟩)
 have a3:Hid (∀W nm g c gs,labels.length<=c->Row W g 184 (HV labels++gs)->Calls prog 37 #[.slice (some ⟨g,0,none⟩) labels.length c,.string nm] W (fun e w'=>e=.returned (.tuple #[.int .i64 (Jk nm labels).1,.bool (Jk nm labels).2])/\Ch ag W w')):=Z (fun W nm g c gs U J=>by
  refine(MA labels nm g c eW U W J.lt (fun i u ap=>J.cell (by rw[List.getElem?_append_left (List.getElem?_eq_some_iff.1 ap).1];exact ap))).mono ?_;rintro e w' ⟨f,l⟩;exact⟨f,Ch.bT l⟩)
 have hn:=Z (fun w=>yU w);have i2:=Z g3;have j9:=Z gr;have ii:=Z g9;obtain⟨o,ce⟩:=nm code.length;obtain⟨eL,cd⟩:=nm labels.length;have i3:=Z ce;have lF:(0:Int)<o:=by omega
 have md:¬(o:Int)=0:=by omega
 rw[ce,cd]at ex;rw[cd]at a3;obtain⟨B,ab⟩:=nm w.heap.size;have c0:=Z ab;have eV:0<eL:=by omega
 have i0:=Z eV;clear fd g3 gr g9 ce cd cq gc jr k2 eW eV;go_in
 go_wp2_with fail
 obtain⟨w0,Y⟩:=nm ((w.alloc (.cells #[.string T,N] 32)).alloc (.cells #[.slice none 0 0,.int .i64 0,.slice none 0 0] 62));have bw:Hid (Ch ag w w0):=Z (by rw[<-Y];exact ay);have i6:Hid (Row w0 B 32 [.string T,N]):=Z (by rw[<-Y,<-ab];exact(Row.new _ _ _).alloc _);have it:Hid (Row w0 (B+1) 62 [.slice none 0 0,.int .i64 0,.slice none 0 0]):=Z (by
  rw[<-Y,<-ab];have:=Row.new (w.alloc (.cells #[.string T,N] 32)) #[.slice none 0 0,.int .i64 0,.slice none 0 0] 62;rw[World.size_alloc]at this;exact this)
 try rw[Y]
 clear Y ab;with_reducible refine(ex.out _ bw.out).mono ?_
 rintro e w1 ⟨vl,vb,rfl,U,g2,V⟩;obtain⟨a9,a5,cS,rfl,_,fz,_,g8,_⟩:=aE g2 i0;obtain⟨A,C,rfl⟩:=au U;have c7:=Z g8;have c1:=Z fz;have i4:=Z U;have hd:Hid (Ch ag w w1):=Z (bw.trans V);have i7:=Z (i6.ch V id);have eC:=Z (it.ch V id);have lm:=Z V.size;clear U g2 V g8 fz;go_wp2_with fail
 obtain⟨lb,al⟩:=nm w1.heap.size;obtain⟨w2,av⟩:=nm (w1.alloc (.cells #[.slice A o C,.int .i64 0,.slice none 0 0] 62));have hB:Hid (Row w2 lb 62 [.slice A o C,.int .i64 0,.slice none 0 0]):=Z (by rw[<-av,<-al];exact Row.new _ _ _);have dN:=Z (Ch.al (D:=ag) av);have c5:Hid (B+1<lb):=Z (by rw[<-al];exact eC.lt);have i1:Hid (w1.heap.size<=lb):=Z (by omega);rw[av,al];clear av al;with_reducible refine(a3.out w2 _ a9 a5 cS c1.out (c7.out.ch dN.out id)).mono ?_
 rintro e cW ⟨rfl,ci⟩;rw[i2];have c4:=Z (hB.ch ci id);have he:Hid (Ch ag w1 cW):=Z (dN.trans ci);clear ci;have a2:=c4.k 1 rfl;have f1:=c4.free 1;go_wp2_with fail
 obtain⟨w4,bi⟩:=nm (cW.setCell (lb,1) (.int .i64 lp));have es:Hid (Row w4 lb 62 [.slice A o C,lp,.slice none 0 0]):=Z (by rw[<-bi];exact c4.bc _ _ rfl);have hf:Hid (Ch ag w1 w4):=Z (he.fresh (show Ch (aH lb) cW w4 by rw[<-bi];exact ay) (fun i lI e=>by have e:i=lb:=e;have:=i1.out;omega));rw[bi];clear bi a2 f1;with_reducible refine(hn.out _).mono ?_
 rintro e gt ⟨rfl,cC,cl⟩;obtain⟨tb,cL⟩:=nm w4.heap.size;rw[cL]at cC⊢;have ll:Hid (lb<tb):=Z (by rw[<-cL];exact es.lt);have io:=Z cC;have hF:=Z (es.ch cl id);have ej:Hid (Ch ag w1 gt):=Z (hf.trans cl);clear cC cl cL;go_wp2_with fail
 with_reducible refine(a3.out gt _ a9 a5 cS c1.out (c7.out.ch ej.out id)).mono ?_
 rintro e F ⟨rfl,ad⟩;rw[j9];have et:=Z (hF.ch ad id);have ip:=Z (io.ch ad id);have R:Hid (Ch ag w1 F):=Z (ej.trans ad);have i8:=Z (i7.ch R id);clear ad;obtain⟨l0,g1,kw,kE,kT⟩:=info_parts Bg;have hw:=Z g1;clear g1;have hi:Hid (B+2<=F.heap.size):=Z (by have:=et.lt;have:=c5.out;omega);have i5:Hid (m8 F (B+2) lb (.slice A o C) (.slice none 0 0) lp []):=Z ⟨et,by have:=c5.out;omega,World.ownsRow_nil _ _ _ _⟩;dsimp only;go_upto_block 0 with fail
 go_cut [8,9] (fun a b wc=>b=.bool true/\∃vk,m8 wc (B+2) lb (.slice A o C) vk lp (bX labels N dJ)/\dQ F wc/\Below (B+2) F wc)
 case first=>
  go_wp2
  go_loopw [8,9,13] (fun a b i wr=>∃(k:Nat) (vk:Value) (calls:List bB) (t:Int),k<=45/\a=.int .i64 t/\b=.bool true/\i=.int .i64 k/\m8 wr (B+2) lb (.slice A o C) vk lp calls/\calls=bX labels N (dJ.take k)/\calls.length<=k/\dQ F wr/\Below (B+2) F wr) (fun _ _ i _=>45-(intOf i).toNat)
  case atStart=>exact⟨0,.slice none 0 0,[],lp,by omega,rfl,rfl,rfl,i5,rfl,by simp,dQ.refl _,Below.refl _ _⟩
  case round=>
   obtain⟨k,vk,calls,t,P,rfl,rfl,rfl,I,g0,lH,Q,H⟩:=hrel;have c6:=Z I;have c3:=Z g0;have M:=Z Q;have K:=Z H;clear I g0 Q H;by_cases kd:k<45
   ·have cm:k<dJ.length:=by rw[jf];exact kd
    obtain⟨x,cQ⟩:=nm (dJ[k]);have a1:dJ[k]?=some x:=(by rw[List.getElem?_eq_getElem cm,cQ]);have eA:Hid (Row wr tb 123 (dJ.flatMap p9)):=Z (M.row ip (by decide) (by decide));have S:∀j u,j<8->(p9 x)[j]?=some u->wr.cell? ⟨tb,k*8+j,none⟩=some u:=(fun j u kb ap=>eA.cell ((bJ yS a1 kb).trans ap));have lc:wr.cell? (tb,k*8+3)=some (.int .i64 x.oZ):=S 3 _ (by omega) rfl;have a2:wr.cell? (B,1)=some (.int .i64 N):=(M.row i8 (by decide) (by decide)).cell (i:=1) rfl;have l':(k:Int)<45:=(by omega);have ge:=Z (nR labels N dJ k x a1);by_cases hle:x.oZ<=N
    ·have dr:wr.cell? (tb,k*8+2)=some (.string x.Bd):=S 2 _ (by omega) rfl
     have y:=Z S;obtain⟨r,J⟩:=nm (Jk x.Bd labels);have cA:=ii x (List.mem_of_getElem? a1) hle;rw[J]at cA;obtain⟨G,lo⟩:=r;dsimp only at cA;subst cA;have ih:=Z J;have c2:Hid (calls++[⟨x.num,G,x.k0,x.k1,x.k2,x.k3⟩]=bX labels N (dJ.take (k+1))):=Z (by
      rw[ge.out,if_pos hle,c3,ih])
     have hv:Hid (∀W,Ch ag wr W->Calls prog 37 #[.slice (some (a9,0)) eL a5,.string x.Bd] W (fun e w'=>e=.returned (.tuple #[G,.bool true])/\Ch ag W w')):=Z (fun W c=>by
      have en:=a3 W x.Bd a9 a5 cS c1 ((M.row (c7.ch R id) (by decide) (by decide)).ch c id);rw[J]at en;exact en)
     clear S a1 cQ J cm;go_wp2
     go_quiet (fail)
     go_wp2_with fail
     with_reducible refine(hv.out _ ay).mono ?_
     rintro e d ⟨rfl,fn⟩;have z:Hid (Ch ag wr d):=Z (Ch.trans ay fn);go_wp2
     clear fn dr lc a2;have p:=c6.af z;have a4:=Z p;have am:=eA.ch z id;have x0:d.cell? (tb,k*8)=some (.int .i64 x.num):=((z.cell (aQ (y 0 _ (by omega) rfl)) id).trans (y 0 _ (by omega) rfl));have x4:d.cell? (tb,k*8+4)=some (.int .i64 x.k0):=((z.cell (aQ (y 4 _ (by omega) rfl)) id).trans (y 4 _ (by omega) rfl));have x5:d.cell? (tb,k*8+5)=some (.int .i64 x.k1):=((z.cell (aQ (y 5 _ (by omega) rfl)) id).trans (y 5 _ (by omega) rfl));have x6:d.cell? (tb,k*8+6)=some (.int .i64 x.k2):=((z.cell (aQ (y 6 _ (by omega) rfl)) id).trans (y 6 _ (by omega) rfl));have x7:d.cell? (tb,k*8+7)=some (.int .i64 x.k3):=((z.cell (aQ (y 7 _ (by omega) rfl)) id).trans (y 7 _ (by omega) rfl));have X:tb<d.heap.size:=am.lt;have l1:d.cell? (lb,2)=some vk:=p.row.cell rfl;have jp:=p.row.free 2;have g7:=p.row.lt;have fb:=p.own;have go:vk.ownBlock≠some lb:=bm p.own p.row (by decide);have a0:vk.ownBlock≠some tb:=bm p.own am (by decide);have kf:lb≠tb:=(fun e=>by subst e;exact absurd (eM p.row am) (by decide));have mb:tb≠lb:=Ne.symm kf;have k1:B+2<=d.heap.size:=(by have:=p.hB;omega);clear p am;go_region_law (first|(refine step_append_lies _ (by rfl) _ _ _ (by rfl) (B+2) 121 l0 _ 6 48 underlying60 hw kw kE kT rfl (by omega) vk calls.length (calls.flatMap bB.cells) (by rfl) ((fb.alloc _).drew) ⟨d.heap.size,0,none⟩ 1 1 [.int .i64 x.num,G,.int .i64 x.k0,.int .i64 x.k1,.int .i64 x.k2,.int .i64 x.k3] (by rfl) (by rfl) (World.news_of_block (cs:=#[.int .i64 x.num,G,.int .i64 x.k0,.int .i64 x.k1,.int .i64 x.k2,.int .i64 x.k3]) (t:=121) (fr:=(0,0)) (heap_alloc_new d _)) (by simp[Value.oneCell']) (by omega) (by unfold maxLen;omega) (by omega) (by simp;omega) (d.heap.size+1) (by simp) ?_;intro lw ls q g6 E k3 mc;have mk:q.cell? (lb,2)=some vk:=(E.cell_far ⟨lb,2,none⟩ (by simp;omega) (Ne.symm go)).trans (by simp[go_sem,World.cell?_alloc_past,g7,l1]);have mn:q.frozen? (lb,2)=false:=(E.frozen_far ⟨lb,2,none⟩ (by simp;omega) (Ne.symm go)).trans (by simp[go_sem,World.frozen?_alloc_past,g7,jp]);have le:q.cell? (tb,k*8)=some (.int .i64 x.num):=(E.cell_far ⟨tb,k*8,none⟩ (by simp;omega) (Ne.symm a0)).trans (by simp[go_sem,World.cell?_alloc_past,X,x0]);have mv:q.cell? (tb,k*8+4)=some (.int .i64 x.k0):=(E.cell_far ⟨tb,k*8+4,none⟩ (by simp;omega) (Ne.symm a0)).trans (by simp[go_sem,World.cell?_alloc_past,X,x4]);have mz:q.cell? (tb,k*8+5)=some (.int .i64 x.k1):=(E.cell_far ⟨tb,k*8+5,none⟩ (by simp;omega) (Ne.symm a0)).trans (by simp[go_sem,World.cell?_alloc_past,X,x5]);have mA:q.cell? (tb,k*8+6)=some (.int .i64 x.k2):=(E.cell_far ⟨tb,k*8+6,none⟩ (by simp;omega) (Ne.symm a0)).trans (by simp[go_sem,World.cell?_alloc_past,X,x6]);have mC:q.cell? (tb,k*8+7)=some (.int .i64 x.k3):=(E.cell_far ⟨tb,k*8+7,none⟩ (by simp;omega) (Ne.symm a0)).trans (by simp[go_sem,World.cell?_alloc_past,X,x7])))
     all_goals
      have bx:=Z (a4.app k1 ⟨x.num,G,x.k0,x.k1,x.k2,x.k3⟩ g6 (ao (cY E)));clear g6 E k3 fb;go_wp2
      go_roundw
      case rel=>
       refine⟨k+1,_,calls++[⟨x.num,G,x.k0,x.k1,x.k2,x.k3⟩],G,by omega,rfl,rfl,by go_num,bx.1,(c2).out,by simp;omega,(M.trans (dQ.fj z (fun _ _ _ _ P _=>False.elim P))).trans bx.2.2,?_⟩;exact(K.trans (z.below (by have:=K.size;have:=hi.out;omega) (fun _ hb=>False.elim hb))).trans bx.2.1
      case measure=>simp[intOf];omega
    ·have c2:Hid (calls=bX labels N (dJ.take (k+1))):=Z (by rw[ge.out,if_neg hle,List.append_nil];exact c3)
     have m7:N<x.oZ:=(by omega);clear S a1 cQ cm hle;go_wp2
     go_quiet (fail)
     go_wp2
     go_roundw
     case rel=>exact⟨k+1,vk,calls,t,by omega,rfl,rfl,by go_num,by repeat(first|exact c6|refine m8.af ?_ (Ch.drewN (Ch.refl _ _) _)|refine m8.af ?_ (Ch.drew (Ch.refl _ _))),c2,by omega,by repeat(first|exact M|refine dQ.trans ?_ (dQ.fj (Ch.drewN (Ch.refl _ _) _) (fun _ _ _ _ P _=>False.elim P))|refine dQ.trans ?_ (dQ.fj (Ch.drew (Ch.refl _ _)) (fun _ _ _ _ P _=>False.elim P))),by repeat(first|exact K|exact K.drew|exact below_drewN K _)⟩
     case measure=>simp[intOf];omega
   ·have hu:Hid (calls=bX labels N dJ):=Z (by rw[c3,List.take_of_length_le (by rw[jf];omega)])
    go_wp2
    go_meet
    rw[<-hu];exact⟨rfl,vk,c6,M,K⟩
 case rest=>
  obtain⟨rfl,vk,I,Q,H⟩:=hcut;obtain⟨d,gk⟩:=nm wc;rw[gk]at I Q H⊢;obtain⟨c9,cb,gf⟩:=au I.own;obtain⟨c8,ch⟩:=nm ((bX labels N dJ).length);rw[ch]at gf;subst gf;have li:=Z ch;have a4:=Z I;have hK:=Z Q;have hm:=Z H;have O:Hid (Row d (B+1) 62 [.slice none 0 0,.int .i64 0,.slice none 0 0]):=Z (by
   have f:=eC.ch R id;unfold Row;rw[H.block (B+1) (by omega)];exact f)
  clear gk I Q H ch;have kk:lb≠B+1:=by have:=c5.out;omega
  have mh:B+1≠lb:=kk.symm;obtain⟨le,mp,ms⟩:=a4.row.c3;obtain⟨x0,x1,x2⟩:=O.c3;have lt:=O.free 0;have lv:=O.free 1;have eS:=O.free 2;go_wp2
  obtain⟨q,bv⟩:=nm ((((d.setCell (B+1,0) (.slice A o C)).setCell (B+1,1) (.int .i64 lp)).setCell (B+1,2) (.slice c9 c8 cb)));have i9:Hid (Row q (B+1) 62 [.slice A o C,lp,.slice c9 c8 cb]):=Z (by rw[<-bv];exact((O.set 0 _).set 1 _).set 2 _);have L:Hid (Ch (aH (B+1)) d q):=Z (by rw[<-bv];exact ay);rw[bv];clear bv;obtain⟨y0,a2,dr⟩:=i9.c3;refine bodyPost_ret (v:=.tuple #[.agg #[.slice A o C,lp,.slice c9 c8 cb],.bool true]) ?_ rfl ?_
  ·simp[results,Tryz.f27,go_sem,y0,a2,dr]
  ·have g5:∀{e:TypeId} {s n:Nat} {v:Value} {xs:List Value} {dC:Nat},d.ownsRow dC e s v n xs->e≠62->q.ownsRow dC e s v n xs:=fun g4 k4=>ak g4 L (fun g k5 e=>by
    have eS:g=B+1:=e;subst eS;obtain⟨_,_,l⟩:=bW g4 k5;exact k4 (eM O l))
   refine⟨_,_,rfl,?_,?_,?_⟩
   ·rw[i3]
    exact J5 (g5 (hK.own (ak i4 R (fun _ _ e=>e)) (by decide) (by decide)) (by decide)) bw.size
   ·exact J5 (g5 a4.own (by decide)) (by have:=c0.out;omega)
   ·have f:Below (B+2) F d:=hm.out
    have l:Ch ag w F:=hd.trans R;refine⟨?_,?_,?_,?_,fun b hb _=> ?_⟩
    ·exact L.os.trans (f.os.trans l.os)
    ·exact L.tape.trans (f.tape.trans l.tape)
    ·exact L.out.output.trans (f.output.trans l.output)
    ·exact Nat.le_trans l.size (Nat.le_trans f.size L.size)
    ·exact(L.same b (by have:=f.size;have:=l.size;omega) (fun e=>by have e:b=B+1:=e;have:=c0.out;omega)).trans ((f.block b (by have:=c0.out;omega)).trans (l.same b hb id))
noncomputable def Fa:List UInt8:=Mr Tryz.f18.body 1++Mr Tryz.f19.body 1++Mr Tryz.f20.body 1++Mr Tryz.f21.body 1++Mr Tryz.f22.body 1
noncomputable def uText18:Except (Bool×Int) (List be×List (ByteArray×Int)):=J7 ((IM Fa).map LO)
set_option maxRecDepth 1000000 in
theorem yZ:Nw uText18=e':=by kernel_rfl
noncomputable def vt:Bool:=decide (0<(Mq uText18).length/\(Mq uText18).length<=1000000)&&decide (Jk ⟨#[108,111,111,112]⟩ (Mq uText18)=(90,true))&& !(Jk ⟨#[120,98,111,114,110]⟩ (Mq uText18)).2&&dJ.all (fun x=> !decide (x.oZ<=18)||(Jk x.Bd (Mq uText18)).2)&&decide (bX (Mq uText18) 18 dJ=hh)&&decide (Fa.length<=65536)
set_option maxRecDepth 1000000 in
theorem y1:vt=true:=by kernel_rfl
structure fK(A B D E F:ByteArray)(L:List (ByteArray×Int)):Prop where
 a:A=((Tryz.f18.body.map MF).getD []).getD 1 ByteArray.empty
 b:B=((Tryz.f19.body.map MF).getD []).getD 1 ByteArray.empty
 d:D=((Tryz.f20.body.map MF).getD []).getD 1 ByteArray.empty
 e:E=((Tryz.f21.body.map MF).getD []).getD 1 ByteArray.empty
 f:F=((Tryz.f22.body.map MF).getD []).getD 1 ByteArray.empty
 p:Iu (A++B++D++E++F)=.ok (e',L)
 s:(A++B++D++E++F).size<=65536
 l0:0<L.length
 l1:L.length<=1000000
 loop:Jk ⟨#[108,111,111,112]⟩ L=(90,true)
 born:∃x,Jk ⟨#[120,98,111,114,110]⟩ L=(x,false)
 rt:∀x∈dJ,x.oZ<=18->(Jk x.Bd L).2=true
 rows:bX L 18 dJ=hh
theorem y2:∃A B D E F L,fK A B D E F L:=by
 have h:=y1;have j:=yZ;obtain⟨A,d⟩:∃T,((Tryz.f18.body.map MF).getD []).getD 1 ByteArray.empty=T:=⟨_,rfl⟩;obtain⟨B,f⟩:∃T,((Tryz.f19.body.map MF).getD []).getD 1 ByteArray.empty=T:=⟨_,rfl⟩;obtain⟨D,g⟩:∃T,((Tryz.f20.body.map MF).getD []).getD 1 ByteArray.empty=T:=⟨_,rfl⟩;obtain⟨E,i⟩:∃T,((Tryz.f21.body.map MF).getD []).getD 1 ByteArray.empty=T:=⟨_,rfl⟩;obtain⟨F,hF⟩:∃T,((Tryz.f22.body.map MF).getD []).getD 1 ByteArray.empty=T:=⟨_,rfl⟩;have k:Fa=(A++B++D++E++F).data.toList:=by
  unfold Fa Mr;rw[d,f,g,i,hF];simp
 obtain⟨R,a⟩:=nm uText18;unfold vt at h;rw[a]at h j;simp only[Bool.and_eq_true,decide_eq_true_eq,List.all_eq_true,Bool.or_eq_true,Bool.not_eq_true',decide_eq_false_iff_not]at h;obtain⟨⟨⟨⟨⟨b,l⟩,m⟩,n⟩,o⟩,c⟩:=h;refine⟨A,B,D,E,F,Mq R,d.symm,f.symm,g.symm,i.symm,hF.symm,?_,?_,b.1,b.2,l,⟨_,Prod.ext rfl m⟩,fun x q p=>(n x q).resolve_left (fun h=>h p),o⟩
 ·unfold uText18 at a
  rw[k,show(A++B++D++E++F).data.toList=(A++B++D++E).data.toList++F.data.toList from by simp]at a;rw[LP,LQ,a];exact Nh j (fun e=>by cases e)
 ·rw[k]at c
  simp at c⊢;omega
