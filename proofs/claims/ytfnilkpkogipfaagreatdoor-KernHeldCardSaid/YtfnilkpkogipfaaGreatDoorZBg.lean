import Derived.Test.YtfnilkpkogipfaaGreatDoorZBf
set_option linter.all false
set_option maxRecDepth 100000
set_option maxHeartbeats 8000000
namespace Go.Proofs.YtfnilkpkogipfaaGreatDoor
open Go.RowKit Go.Proofs.Tryz
theorem tO(N:Nat)(a:Option Addr)(c:Nat)(d:Bool)(b:2048<N)(w:World):
 Calls prog 115 #[.slice a N c,.bool d] w (fun e w'=>∃t x,e=.returned (.iface 197 (.pointer (some (w.heap.size,0))))/\w.alloc (.cells #[.string ⟨#[99,111,100,101]⟩,.int .i64 0,.iface t x] 199)=w'):=by
 have f:(2048:Int)<(N:Int):=by omega
 clear b;go_enter func115,ntmps115
 go_wp2_with (go_at_call 88;refine(bk _ _ _ _).mono ?_;rintro e w' ⟨rfl,rfl⟩)
 go_ret;exact⟨_,_,rfl,rfl⟩
theorem qA(N:Nat)(a:Option Addr)(c:Nat)(v:Bool)(r:2048<N)(w:World)
 (o:w.cell? (0,0)=some (.iface 335 (.agg #[(1,40)]))):
 Calls prog 89 #[.slice a N c,.bool v] w (qz false w):=by
 obtain⟨w1,s⟩:=nm (w.alloc (.cells #[.pointer none] 197));have d:=Z (Ch.al (D:=ag) s);have g:=Z (Row.al s);have m:Hid (w1.cell? (0,0)=some (.iface 335 (.agg #[(1,40)]))):=Z (d.k o);have y:=Z (tO N a c v r w1);clear o r;go_enter func89,ntmps89
 go_wp2_with (first|(go_at_call 115;refine y.mono ?_;rintro e w2 ⟨t,x,rfl,u⟩;have n:=Z u;clear u))
 have b:Hid (Ch ag w1 w2):=Z (by rw[<-n];exact(Ch.refl _ _).alloc _);have l:Hid (Row w2 w1.heap.size 199 [.string ⟨#[99,111,100,101]⟩,.int .i64 0,.iface t x]):=Z (by rw[<-n];exact Row.new w1 _ _);refine(vb ⟨w1.heap.size,0,none⟩ w.heap.size (.pointer none) w2 ((b.cell (aE m) (fun h=>h)).trans m) ((g.ch b (fun h=>h)).cell (i:=0) rfl) ((g.ch b (fun h=>h)).free 0)).mono ?_;rintro e A ⟨rfl,C,k⟩;have f:=Z k;have E:w.heap.size<w1.heap.size:=g.lt;have B:A.cell? (w1.heap.size,1)=some (.int .i64 0):=(k.cell (p:=⟨w1.heap.size,1,none⟩) l.lt (fun e=>by have:w1.heap.size=w.heap.size:=e;omega)).trans (l.cell (i:=1) rfl);clear k;go_wp2_with (go_at_call 88;refine(bk _ _ _ _).mono ?_;rintro e w' ⟨rfl,rfl⟩)
 go_ret;refine⟨⟨_,rfl,aq.mk _ _⟩,Ch.alloc ?_ _⟩;exact⟨f.os.trans (d.trans b).os,f.tape.trans (d.trans b).tape,f.out.output.trans (d.trans b).output,Nat.le_trans (d.trans b).size f.size,fun j q z=>(f.same j (Nat.lt_of_lt_of_le q (d.trans b).size) (fun e=>by have:j=w.heap.size:=e;omega)).trans ((d.trans b).same j q z)⟩
theorem Ch.fresh{D:Nat->Prop}{w a b:World}(c:Ch ag w a)(d:Ch D a b)(f:∀i,i<w.heap.size->¬D i):Ch ag w b:=
 ⟨d.os.trans c.os,d.tape.trans c.tape,d.output.trans c.output,Nat.le_trans c.size d.size,fun j e g=>(d.same j (Nat.lt_of_lt_of_le e c.size) (f j e)).trans (c.same j e g)⟩
def ja(l:List aV)(a:Bool):Bool:=decide (l.length<=2048)&&(gE l.length a l 0).isNone
theorem kL(l:List aV)(a:Option Addr)(c:Nat)(b:Bool)(f:l.length<=c)(w:World)(h:l≠[]->∃g,a=some ⟨g,0,none⟩/\eE w g l)
 (e:w.cell? (0,0)=some (.iface 335 (.agg #[(1,40)]))):
 Calls prog 89 #[.slice a l.length c,.bool b] w (qz (ja l b) w):=by
 unfold ja;by_cases d:l.length<=2048
 ·rw[decide_eq_true d,Bool.true_and];exact sh l a c b d f w h e
 ·rw[decide_eq_false d,Bool.false_and];exact qA _ a c b (by omega) w e
def iM(k:Int):Bool:=decide (0<=k/\k<=7)
def gl(n:Int)(s:List Bool)(r:br):Bool:=(decide (1<=r.num/\r.num<=999)&& !(s.getD r.num.toNat false)&&decide (0<=r.at_/\r.at_<n))&&(iM r.k0&&iM r.k1&&iM r.k2&&iM r.k3)
def jb(n:Int):List br->List Bool->Bool
 |[],_=>true
 |r::l,s=>gl n s r&&jb n l (s.set r.num.toNat true)
def e2(l:List aV)(loop:Int)(calls:List br):Bool:=decide (l.length≠0)&&ja l true&&decide (0<=loop/\loop<l.length)&&jb l.length calls (List.replicate 1000 false)
def fy(n:Int)(calls:List br)(k:Nat)(s:List Bool)(r:Bool):Prop:=s.length=1000/\jb n (calls.drop k) s=r
theorem fy.next{n:Int}{calls:List br}{k:Nat}{s:List Bool}{r:Bool}{X:br}(h:fy n calls k s r)(a:calls[k]?=some X)(d:gl n s X=true):fy n calls (k+1) (s.set X.num.toNat true) r:=by
 refine⟨by simpa using h.1,?_⟩;obtain⟨c,b⟩:=List.getElem?_eq_some_iff.1 a;rw[<-h.2,List.drop_eq_getElem_cons c,b,jb,d,Bool.true_and]
theorem fy.bad{n:Int}{calls:List br}{k:Nat}{s:List Bool}{r:Bool}{X:br}(h:fy n calls k s r)(a:calls[k]?=some X)(d:gl n s X=false):r=false:=by
 obtain⟨c,b⟩:=List.getElem?_eq_some_iff.1 a;rw[<-h.2,List.drop_eq_getElem_cons c,b,jb,d,Bool.false_and]
theorem fy.all{n:Int}{calls:List br}{k:Nat}{s:List Bool}{r:Bool}(h:fy n calls k s r)(a:calls.length<=k):r=true:=by
 rw[<-h.2,List.drop_eq_nil_of_le a];rfl
theorem EZ(a b c d:Int):([a,b,c,d].drop 0).all iM=(iM a&&([a,b,c,d].drop 1).all iM):=rfl
theorem E0(a b c d:Int):([a,b,c,d].drop 1).all iM=(iM b&&([a,b,c,d].drop 2).all iM):=rfl
theorem E1(a b c d:Int):([a,b,c,d].drop 2).all iM=(iM c&&([a,b,c,d].drop 3).all iM):=rfl
theorem E2(a b c d:Int):([a,b,c,d].drop 3).all iM=(iM d&&([a,b,c,d].drop 4).all iM):=rfl
theorem C'(a b c e:Int)(d:World):(Instr.index 47 (.agg #[a,b,c,e]) (.int .i64 0)).run prog d=.ok (.int .i64 a) d:=by kernel_rfl
theorem Da(a b c e:Int)(d:World):(Instr.index 47 (.agg #[a,b,c,e]) (.int .i64 1)).run prog d=.ok (.int .i64 b) d:=by kernel_rfl
theorem Db(a b c e:Int)(d:World):(Instr.index 47 (.agg #[a,b,c,e]) (.int .i64 2)).run prog d=.ok (.int .i64 c) d:=by kernel_rfl
theorem Dc(a b c e:Int)(d:World):(Instr.index 47 (.agg #[a,b,c,e]) (.int .i64 3)).run prog d=.ok (.int .i64 e) d:=by kernel_rfl
theorem jc(l:List aV)(S:Option Addr)(a3:Nat)(loop:Int)(calls:List br)(c0:Option Addr)(ci:Nat)(dr:l.length<=a3)(he:calls.length<=100000)(w:World)(a1:l≠[]->∃g,S=some ⟨g,0,none⟩/\eE w g l)
 (dN:calls≠[]->∃g R,c0=some ⟨g,0,none⟩/\Row w g 49 (calls.flatMap br.cells++R))
 (a0:w.cell? (0,0)=some (.iface 335 (.agg #[(1,40)]))):
 Calls prog 50 #[.agg #[.slice S l.length a3,loop,.slice c0 calls.length ci]] w (qz (e2 l loop calls) w):=by
 obtain⟨w1,ch⟩:=nm (w.alloc (.cells #[.slice S l.length a3,loop,.slice c0 calls.length ci] 33));have I:=Z (Ch.al (D:=ag) ch);have fz:Hid (l≠[]->∃g,S=some ⟨g,0,none⟩/\eE w1 g l):=Z (fun h=>by obtain⟨g,e,a0⟩:=a1 h;exact⟨g,e,a0.ch I (fun h=>h)⟩);have fr:Hid (calls≠[]->∃g R,c0=some ⟨g,0,none⟩/\Row w1 g 49 (calls.flatMap br.cells++R)):=Z (fun h=>by obtain⟨g,R,e,a0⟩:=dN h;exact⟨g,R,e,a0.ch I (fun h=>h)⟩);have cs:Hid (w1.cell? (0,0)=some (.iface 335 (.agg #[(1,40)]))):=Z (I.k a0);have U:=Z (kL l S a3 true dr w1 fz cs);have am:=Z (Row.al ch);obtain⟨N,av⟩:=mn l.length;obtain⟨M,c1⟩:=mn calls.length;obtain⟨n,c8⟩:=nm (e2 l loop calls);obtain⟨u,cf⟩:=nm (ja l true);obtain⟨q,c9⟩:=nm (jb N calls (List.replicate 1000 false));have K:Hid (n=(decide (N≠0)&&u&&decide (0<=loop/\loop<N)&&q)):=Z (by rw[<-c8,av,<-cf,<-c9,av];rfl);have fd:Hid (fy N calls 0 (List.replicate 1000 false) q):=Z ⟨by simp,by rw[List.drop_zero];exact c9⟩;have c5:=Z c1;rw[cf]at U;rw[c8];rw[<-av,<-c1]at am ch⊢;rw[<-av]at U;rw[<-c1]at he;clear a1 dN a0 dr av c1 c8 cf c9;obtain⟨t0,t1,t2⟩:=am.c3;by_cases cS:N=0
 ·have E:Hid (n=false):=Z (by rw[K.out,decide_eq_false (by omega)];rfl)
  subst cS;go_enter func50,ntmps50
  go_wp2_with (go_at_call 88;refine(bk _ _ _ _).mono ?_;rintro e w' ⟨rfl,rfl⟩)
  go_ret;rw[E];exact⟨⟨_,rfl,aq.mk _ _⟩,I.alloc _⟩
 have hu:(N==0)=false:=by simpa using cS
 cases u
 ·have E:Hid (n=false):=Z (by rw[K.out,Bool.and_false];rfl)
  go_enter func50,ntmps50
  go_wp2_with (go_at_call 89;refine U.mono ?_;rintro e w2 ⟨⟨y,rfl,C⟩,A⟩;obtain⟨tt,hn,rfl⟩:aq y:=C;have J:=Z A;clear A)
  go_ret;rw[E];exact⟨⟨_,rfl,aq.mk _ _⟩,I.trans J⟩
 by_cases H:¬(0<=loop/\loop<(N:Int))
 ·have E:Hid (n=false):=Z (by rw[K.out,decide_eq_false H,Bool.and_false];rfl)
  have bv:decide (0<=loop/\loop<(N:Int))=false:=decide_eq_false H;have V:=Z (fun w=>lF loop N w);rw[bv]at V;clear bv H;go_enter func50,ntmps50
  go_wp2_with (first|(go_at_call 89;refine U.mono ?_;rintro e w2 ⟨⟨y,rfl,C⟩,A⟩;obtain rfl:y=.nilIface:=C;have J:=Z A;have W:=am.ch A (fun h=>h);obtain⟨eC,eL⟩:=W.c2;clear A W t0 t1 t2)|(go_at_call 90;refine(V _).mono ?_;rintro e ck ⟨⟨y,rfl,C⟩,Y⟩;have ab:=Z Y;obtain⟨tt,hn,rfl⟩:aq y:=C;clear Y))
  go_ret;rw[E];exact⟨⟨_,rfl,aq.mk _ _⟩,(I.trans J).trans ab⟩
 have H:=Decidable.not_not.1 H;have E:Hid (n=q):=Z (by rw[K.out,decide_eq_true (by omega),decide_eq_true H];simp);have bv:decide (0<=loop/\loop<(N:Int))=true:=decide_eq_true H;have V:=Z (fun w=>lF loop N w);rw[bv]at V;clear bv H K;go_enter func50,ntmps50
 go_wp2_with (first|(go_at_call 89;refine U.mono ?_;rintro e w2 ⟨⟨y,rfl,C⟩,A⟩;obtain rfl:y=.nilIface:=C;have J:=Z A;have W:=Z (am.ch A (fun h=>h));obtain⟨eC,eL,hm⟩:=W.c3;clear A t0 t1 t2)|(go_at_call 90;refine(V _).mono ?_;rintro e ck ⟨⟨y,rfl,C⟩,Y⟩;have ab:=Z Y;obtain rfl:y=.nilIface:=C;have c6:=Z (W.ch Y (fun h=>h));have cC:=Z (c6.alloc (.cells Tryz.zeroCells202 202));obtain⟨et,ex,eA⟩:=cC.c3;clear Y eC eL hm))
 have eS:Hid (Tryz.zeroCells202.toList=(List.replicate 1000 false).map Value.bool):=Z (by kernel_rfl);obtain⟨w4,a2⟩:=nm (ck.alloc (.cells Tryz.zeroCells202 202));obtain⟨o,bw⟩:=nm ck.heap.size;have cA:Hid (Row w4 o 202 ((List.replicate 1000 false).map Value.bool)):=Z (by rw[<-a2,<-bw,<-eS];exact Row.new _ _ _);have c4:Hid (Ch ag w w4):=Z (by rw[<-a2];exact((I.trans J).trans ab).alloc _);have T:Hid (w.heap.size<o/\w1.heap.size<=o/\o<w4.heap.size):=Z (by
  refine⟨by rw[<-bw];exact c6.lt,by rw[<-bw];exact(J.trans ab).size,cA.lt⟩)
 have cm:Hid (Ch ag w1 w4):=Z (by rw[<-a2];exact(J.trans ab).alloc _);have cL:Hid (Row w4 w.heap.size 33 [.slice S N a3,loop,.slice c0 M ci]):=Z (am.ch cm (fun h=>h));rw[a2,bw];rw[a2]at et ex eA;clear cC c6 W V U cs a2 bw et ex eA;go_loopg [34] (M+1) (fun gk i wr=>∃(k:Nat) (s:List Bool),k<=M/\gk=M-k+1/\i=.int .i64 k/\Hid (fy N calls k s q)/\Hid (Row wr o 202 (s.map Value.bool))/\Hid (Ch (aK o) w4 wr))
 case atStart=>exact⟨0,_,by omega,by omega,rfl,fd,cA,Z (Ch.refl _ _)⟩
 case round=>
  obtain⟨k,s,dC,rfl,rfl,t,al,L⟩:=hrel;by_cases ec:k<M
  ·obtain⟨X,bi⟩:∃X,calls[k]?=some X:=⟨_,List.getElem?_eq_getElem (by rw[<-c5];exact ec)⟩
   have d:=Z bi;obtain⟨g,R,rfl,ce⟩:=fr (by intro e;rw[e]at bi;cases bi);have es:=ce.ch (cm) (fun h=>h);have en:Hid (Row wr g 49 (calls.flatMap br.cells++R)):=Z (es.ch L (fun e=>by have P:g=o:=e;have cW:=ce.lt;have ap:=T.2.1;omega));have Q:∀j v,j<6->X.cells[j]?=some v->wr.cell? ⟨g,k*6+j,none⟩=some v:=fun j v c2 hi=>en.out.cell (by
    rw[List.getElem?_append_left (by
     have P:=List.length_flatMap (f:=br.cells) (l:=calls);have cW:(calls.flatMap br.cells).length=calls.length*6:=by
      rw[P];simp only[br.len];rw[List.map_const',List.sum_replicate_nat]
     rw[cW,<-c5];have:(k+1)*6<=M*6:=Nat.mul_le_mul_right _ ec;omega)]
    exact(bP br.len bi c2).trans hi)
   obtain⟨num,at_,k0,k1,k2,k3⟩:=X;have cQ:=Q 0 _ (by omega) rfl;have ge:=Q 1 _ (by omega) rfl;have gf:=Q 2 _ (by omega) rfl;have go:=Q 3 _ (by omega) rfl;have gr:=Q 4 _ (by omega) rfl;have gs:=Q 5 _ (by omega) rfl;rw[Nat.add_zero]at cQ;have hl:wr.cell? ⟨w.heap.size,0,none⟩=some (.slice S N a3):=(cL.ch L (fun e=>by have P:w.heap.size=o:=e;have ap:=T.1;omega)).cell (i:=0) rfl;have dC:(k:Int)<M:=by omega
   have hf:g<wr.heap.size/\w.heap.size<wr.heap.size/\o<wr.heap.size:=⟨en.out.lt,(cL.ch L (fun e=>by have P:w.heap.size=o:=e;have ap:=T.1;omega)).lt,al.lt⟩;obtain⟨i0,i1,i2⟩:=hf;clear Q bi ce es;have F:Hid (Ch ag w wr):=Z (c4.fresh L (fun b hb e=>by have P:b=o:=e;have ap:=T.1;omega));by_cases i3:num<1
   ·have B:Hid (gl N s ⟨num,at_,k0,k1,k2,k3⟩=false):=Z (by unfold gl;dsimp only;rw[decide_eq_false (by omega)];rfl)
    have a:Hid (n=false):=Z (E.trans (t.bad d B));clear d;go_wp2_with (go_at_call 88;refine(bk _ _ _ _).mono ?_;rintro e w' ⟨rfl,rfl⟩)
    go_ret;rw[a];exact⟨⟨_,rfl,aq.mk _ _⟩,(F.alloc _).alloc _⟩
   by_cases i4:999<num
   ·have B:Hid (gl N s ⟨num,at_,k0,k1,k2,k3⟩=false):=Z (by unfold gl;dsimp only;rw[decide_eq_false (by omega)];rfl)
    have a:Hid (n=false):=Z (E.trans (t.bad d B));clear d;go_wp2_with (go_at_call 88;refine(bk _ _ _ _).mono ?_;rintro e w' ⟨rfl,rfl⟩)
    go_ret;rw[a];exact⟨⟨_,rfl,aq.mk _ _⟩,(F.alloc _).alloc _⟩
   obtain⟨m,rfl⟩:∃m:Nat,num=m:=⟨num.toNat,by omega⟩;have hF:(m:Int)<1000:=by omega
   have hB:m<1000:=by omega
   have hw:(0:Int)<=m:=by omega
   obtain⟨b,hb⟩:∃b,s[m]?=some b:=⟨_,List.getElem?_eq_getElem (by rw[t.1];omega)⟩;have gt:wr.cell? (o,m)=some (.bool b):=al.cell (by rw[List.getElem?_map,hb];rfl);have ad:Hid (s.getD (m:Int).toNat false=b):=Z (by rw[Int.toNat_natCast,List.getD_eq_getElem?_getD,hb];rfl);clear hb;have c2:decide (1<=(m:Int)/\(m:Int)<=999)=true:=decide_eq_true (by omega);have c:=Z c2;clear c2;cases b
   rotate_left
   ·have B:Hid (gl N s ⟨m,at_,k0,k1,k2,k3⟩=false):=Z (by unfold gl;dsimp only;rw[c,ad];rfl)
    have a:Hid (n=false):=Z (E.trans (t.bad d B));clear d;go_wp2_with (go_at_call 88;refine(bk _ _ _ _).mono ?_;rintro e w' ⟨rfl,rfl⟩)
    go_ret;rw[a];exact⟨⟨_,rfl,aq.mk _ _⟩,(F.alloc _).alloc _⟩
   by_cases i5:at_<0
   ·have B:Hid (gl N s ⟨m,at_,k0,k1,k2,k3⟩=false):=Z (by unfold gl;dsimp only;rw[c,ad,decide_eq_false (p:=0<=at_/\at_<(N:Int)) (by omega)];rfl)
    have a:Hid (n=false):=Z (E.trans (t.bad d B));clear d;go_wp2_with (go_at_call 88;refine(bk _ _ _ _).mono ?_;rintro e w' ⟨rfl,rfl⟩)
    go_ret;rw[a];exact⟨⟨_,rfl,aq.mk _ _⟩,(F.alloc _).alloc _⟩
   by_cases i6:(N:Int)<=at_
   ·have B:Hid (gl N s ⟨m,at_,k0,k1,k2,k3⟩=false):=Z (by unfold gl;dsimp only;rw[c,ad,decide_eq_false (p:=0<=at_/\at_<(N:Int)) (by omega)];rfl)
    have a:Hid (n=false):=Z (E.trans (t.bad d B));clear d;go_wp2_with (go_at_call 88;refine(bk _ _ _ _).mono ?_;rintro e w' ⟨rfl,rfl⟩)
    go_ret;rw[a];exact⟨⟨_,rfl,aq.mk _ _⟩,(F.alloc _).alloc _⟩
   have z:Hid (gl N s ⟨m,at_,k0,k1,k2,k3⟩=[k0,k1,k2,k3].all iM):=Z (by unfold gl;dsimp only;rw[c,ad,decide_eq_true (p:=0<=at_/\at_<(N:Int)) (by omega)];simp[Bool.and_assoc]);clear c ad;have fb:=al.free m;go_wp2_with fail
   obtain⟨cl,c3⟩:=mn (((wr.setCell (o,m) (.bool true)).alloc (.cells #[.int .i64 m,at_,k0,k1,k2,k3] 49)));have cq:Hid (Ch (aK o) w4 cl):=Z (by rw[c3];exact(L.only _ _).alloc _);have gc:Hid (Row cl o 202 ((s.set m true).map Value.bool)):=Z (by rw[c3,List.map_set];exact(al.set _ _).alloc _);have G:Hid (Ch ag w cl):=Z (c4.fresh cq (fun b hb e=>by have P:b=o:=e;have ap:=T.1;omega));rw[<-c3];clear c3 cQ ge gf go gr gs hl gt fb al L F;obtain⟨r,a1⟩:=nm ([k0,k1,k2,k3].all iM);rw[a1]at z;have fn:Hid (([k0,k1,k2,k3].drop 0).all iM=r):=Z a1;clear a1;go_loop [74] (fun s=>∃j:Nat,s=.int .i64 j/\j<=4/\Hid (([k0,k1,k2,k3].drop j).all iM=r)) (fun s=>4-(intOf s).toNat)
   case atStart=>exact⟨0,rfl,by omega,fn⟩
   case round=>
    obtain⟨j,rfl,hv,c⟩:=hrel;obtain rfl|rfl|rfl|rfl|rfl:j=0∨j=1∨j=2∨j=3∨j=4:=by omega
    ·have c7:=C' k0 k1 k2 k3
     by_cases cb:k0<0
     ·have x:Hid (r=false):=Z (by rw[<-c,EZ,show iM k0=false from decide_eq_false (show¬(0<=k0/\k0<=7)by omega)];rfl)
      have a:Hid (n=false):=Z (E.trans (t.bad d (z.trans x)));go_wp2_with (go_at_call 88;refine(bk _ _ _ _).mono ?_;rintro e w' ⟨rfl,rfl⟩)
      go_ret;rw[a];exact⟨⟨_,rfl,aq.mk _ _⟩,G.alloc _⟩
     by_cases cd:7<k0
     ·have x:Hid (r=false):=Z (by rw[<-c,EZ,show iM k0=false from decide_eq_false (show¬(0<=k0/\k0<=7)by omega)];rfl)
      have a:Hid (n=false):=Z (E.trans (t.bad d (z.trans x)));go_wp2_with (go_at_call 88;refine(bk _ _ _ _).mono ?_;rintro e w' ⟨rfl,rfl⟩)
      go_ret;rw[a];exact⟨⟨_,rfl,aq.mk _ _⟩,G.alloc _⟩
     have O:Hid (([k0,k1,k2,k3].drop 1).all iM=r):=Z (by rw[<-c,EZ,show iM k0=true from decide_eq_true (show(0<=k0/\k0<=7)by omega)];rfl);go_wp2_with fail
     go_round
     case rel=>exact⟨1,rfl,by omega,O⟩
     case measure=>simp[intOf]
    ·have c7:=Da k0 k1 k2 k3
     by_cases cb:k1<0
     ·have x:Hid (r=false):=Z (by rw[<-c,E0,show iM k1=false from decide_eq_false (show¬(0<=k1/\k1<=7)by omega)];rfl)
      have a:Hid (n=false):=Z (E.trans (t.bad d (z.trans x)));go_wp2_with (go_at_call 88;refine(bk _ _ _ _).mono ?_;rintro e w' ⟨rfl,rfl⟩)
      go_ret;rw[a];exact⟨⟨_,rfl,aq.mk _ _⟩,G.alloc _⟩
     by_cases cd:7<k1
     ·have x:Hid (r=false):=Z (by rw[<-c,E0,show iM k1=false from decide_eq_false (show¬(0<=k1/\k1<=7)by omega)];rfl)
      have a:Hid (n=false):=Z (E.trans (t.bad d (z.trans x)));go_wp2_with (go_at_call 88;refine(bk _ _ _ _).mono ?_;rintro e w' ⟨rfl,rfl⟩)
      go_ret;rw[a];exact⟨⟨_,rfl,aq.mk _ _⟩,G.alloc _⟩
     have O:Hid (([k0,k1,k2,k3].drop 2).all iM=r):=Z (by rw[<-c,E0,show iM k1=true from decide_eq_true (show(0<=k1/\k1<=7)by omega)];rfl);go_wp2_with fail
     go_round
     case rel=>exact⟨2,rfl,by omega,O⟩
     case measure=>simp[intOf]
    ·have c7:=Db k0 k1 k2 k3
     by_cases cb:k2<0
     ·have x:Hid (r=false):=Z (by rw[<-c,E1,show iM k2=false from decide_eq_false (show¬(0<=k2/\k2<=7)by omega)];rfl)
      have a:Hid (n=false):=Z (E.trans (t.bad d (z.trans x)));go_wp2_with (go_at_call 88;refine(bk _ _ _ _).mono ?_;rintro e w' ⟨rfl,rfl⟩)
      go_ret;rw[a];exact⟨⟨_,rfl,aq.mk _ _⟩,G.alloc _⟩
     by_cases cd:7<k2
     ·have x:Hid (r=false):=Z (by rw[<-c,E1,show iM k2=false from decide_eq_false (show¬(0<=k2/\k2<=7)by omega)];rfl)
      have a:Hid (n=false):=Z (E.trans (t.bad d (z.trans x)));go_wp2_with (go_at_call 88;refine(bk _ _ _ _).mono ?_;rintro e w' ⟨rfl,rfl⟩)
      go_ret;rw[a];exact⟨⟨_,rfl,aq.mk _ _⟩,G.alloc _⟩
     have O:Hid (([k0,k1,k2,k3].drop 3).all iM=r):=Z (by rw[<-c,E1,show iM k2=true from decide_eq_true (show(0<=k2/\k2<=7)by omega)];rfl);go_wp2_with fail
     go_round
     case rel=>exact⟨3,rfl,by omega,O⟩
     case measure=>simp[intOf]
    ·have c7:=Dc k0 k1 k2 k3
     by_cases cb:k3<0
     ·have x:Hid (r=false):=Z (by rw[<-c,E2,show iM k3=false from decide_eq_false (show¬(0<=k3/\k3<=7)by omega)];rfl)
      have a:Hid (n=false):=Z (E.trans (t.bad d (z.trans x)));go_wp2_with (go_at_call 88;refine(bk _ _ _ _).mono ?_;rintro e w' ⟨rfl,rfl⟩)
      go_ret;rw[a];exact⟨⟨_,rfl,aq.mk _ _⟩,G.alloc _⟩
     by_cases cd:7<k3
     ·have x:Hid (r=false):=Z (by rw[<-c,E2,show iM k3=false from decide_eq_false (show¬(0<=k3/\k3<=7)by omega)];rfl)
      have a:Hid (n=false):=Z (E.trans (t.bad d (z.trans x)));go_wp2_with (go_at_call 88;refine(bk _ _ _ _).mono ?_;rintro e w' ⟨rfl,rfl⟩)
      go_ret;rw[a];exact⟨⟨_,rfl,aq.mk _ _⟩,G.alloc _⟩
     have O:Hid (([k0,k1,k2,k3].drop 4).all iM=r):=Z (by rw[<-c,E2,show iM k3=true from decide_eq_true (show(0<=k3/\k3<=7)by omega)];rfl);go_wp2_with fail
     go_round
     case rel=>exact⟨4,rfl,by omega,O⟩
     case measure=>simp[intOf]
    ·have eW:Hid (gl N s ⟨m,at_,k0,k1,k2,k3⟩=true):=Z (z.trans c.symm)
     go_wp2_with fail
     go_roundg (M-k)
     case measure=>omega
     case rel=>exact⟨k+1,_,by omega,by omega,by go_num,Z (t.next d eW),gc,cq⟩
  ·skip
   have a:Hid (n=true):=Z (E.trans (t.all (by rw[<-c5];omega)));have F:Hid (Ch ag w wr):=Z (c4.fresh L (fun b hb e=>by have P:b=o:=e;have ap:=T.1;omega));have dC:¬(k:Int)<M:=by omega
   go_wp2_with fail
   go_ret;rw[a];exact⟨⟨_,rfl,rfl⟩,F⟩
def ei(l:List aV)(en a b:Int):Bool:=
 decide (0<=a/\0<=b/\a<=256/\b<=256-a/\l.length≠0)&&ja l false&&decide (0<=en/\en<l.length)
theorem jd(l:List aV)(a:Option Addr)(c:Nat)(en b d:Int)(G:l.length<=c)(w:World)(J:l≠[]->∃g,a=some ⟨g,0,none⟩/\eE w g l)
 (p:w.cell? (0,0)=some (.iface 335 (.agg #[(1,40)]))):
 Calls prog 51 #[.agg #[.slice a l.length c,en,b,d]] w (qz (ei l en b d) w):=by
 obtain⟨w1,B⟩:=nm (w.alloc (.cells #[.slice a l.length c,en,b,d] 36));have f:=Z (Ch.al (D:=ag) B);have P:Hid (l≠[]->∃g,a=some ⟨g,0,none⟩/\eE w1 g l):=Z (fun h=>by obtain⟨g,e,p⟩:=J h;exact⟨g,e,p.ch f (fun h=>h)⟩);have O:Hid (w1.cell? (0,0)=some (.iface 335 (.agg #[(1,40)]))):=Z (f.k p);have n:=Z (kL l a c false G w1 P O);have s:=Z (Row.al B);obtain⟨N,x⟩:=mn l.length;obtain⟨k,z⟩:=nm (ei l en b d);obtain⟨u,A⟩:=nm (ja l false);have I:k=(decide (0<=b/\0<=d/\b<=256/\d<=256-b/\N≠0)&&u&&decide (0<=en/\en<N)):=by rw[<-z,x,<-A];rfl
 rw[A]at n;rw[z];rw[<-x]at n s B⊢;clear J p G x z A;obtain⟨t0,t1,t2,t3⟩:=s.c4;have K:Hid (k=(decide (0<=b/\0<=d/\b<=256/\d<=256-b/\N≠0)&&u&&decide (0<=en/\en<N))):=Z I;clear I;have R:b<0∨(¬b<0/\d<0)∨(¬b<0/\¬d<0/\256<b)∨(¬b<0/\¬d<0/\¬256<b/\256-b<d)∨(¬b<0/\¬d<0/\¬256<b/\¬256-b<d/\N=0)∨(¬b<0/\¬d<0/\¬256<b/\¬256-b<d/\N≠0):=by omega
 rcases R with m|⟨m,o⟩|⟨m,o,t⟩|⟨m,o,t,F⟩|⟨m,o,t,F,v⟩|⟨m,o,t,F,v⟩
 ·have E:Hid (k=false):=Z (by rw[K.out,decide_eq_false (by omega)];rfl)
  go_enter func51,ntmps51
  go_wp2_with (go_at_call 88;refine(bk _ _ _ _).mono ?_;rintro e w' ⟨rfl,rfl⟩)
  go_ret;rw[E];exact⟨⟨_,rfl,aq.mk _ _⟩,f.alloc _⟩
 ·have E:Hid (k=false):=Z (by rw[K.out,decide_eq_false (by omega)];rfl)
  go_enter func51,ntmps51
  go_wp2_with (go_at_call 88;refine(bk _ _ _ _).mono ?_;rintro e w' ⟨rfl,rfl⟩)
  go_ret;rw[E];exact⟨⟨_,rfl,aq.mk _ _⟩,f.alloc _⟩
 ·have E:Hid (k=false):=Z (by rw[K.out,decide_eq_false (by omega)];rfl)
  go_enter func51,ntmps51
  go_wp2_with (go_at_call 88;refine(bk _ _ _ _).mono ?_;rintro e w' ⟨rfl,rfl⟩)
  go_ret;rw[E];exact⟨⟨_,rfl,aq.mk _ _⟩,f.alloc _⟩
 ·have E:Hid (k=false):=Z (by rw[K.out,decide_eq_false (by omega)];rfl)
  have L:IntKind.i64.wrap (256-b)=256-b:=IntWalk.i64_in _ (by omega);go_enter func51,ntmps51
  go_wp2_with (go_at_call 88;refine(bk _ _ _ _).mono ?_;rintro e w' ⟨rfl,rfl⟩)
  go_ret;rw[E];exact⟨⟨_,rfl,aq.mk _ _⟩,f.alloc _⟩
 ·have E:Hid (k=false):=Z (by rw[K.out,decide_eq_false (by omega)];rfl)
  have L:IntKind.i64.wrap (256-b)=256-b:=IntWalk.i64_in _ (by omega);subst v;go_enter func51,ntmps51
  go_wp2_with (go_at_call 88;refine(bk _ _ _ _).mono ?_;rintro e w' ⟨rfl,rfl⟩)
  go_ret;rw[E];exact⟨⟨_,rfl,aq.mk _ _⟩,f.alloc _⟩
 ·have L:IntKind.i64.wrap (256-b)=256-b:=IntWalk.i64_in _ (by omega)
  have E:Hid (k=(u&&decide (0<=en/\en<N))):=Z (by rw[K.out,decide_eq_true (by omega),Bool.true_and]);have S:(N==0)=false:=by simpa using v
  cases u
  ·have r:Hid (k=false):=Z (by rw[E];rfl)
   go_enter func51,ntmps51
   go_wp2_with (go_at_call 89;refine n.mono ?_;rintro e w2 ⟨⟨y,rfl,j⟩,i⟩;obtain⟨tt,W,rfl⟩:aq y:=j;have q:=Z i;clear i)
   go_ret;rw[r];exact⟨⟨_,rfl,aq.mk _ _⟩,f.trans q⟩
  ·have r:Hid (k=decide (0<=en/\en<N)):=Z (by rw[E,Bool.true_and])
   go_enter func51,ntmps51
   go_wp2_with (first|(go_at_call 89;refine n.mono ?_;rintro e w2 ⟨⟨y,rfl,j⟩,i⟩;obtain rfl:y=.nilIface:=j;have q:=Z i;have C:=s.ch i (fun h=>h);obtain⟨T,U⟩:=C.c2;clear i C t0 t1 t2 t3)|(go_at_call 90;refine(lF _ _ _).mono ?_;rintro e V ⟨⟨y,rfl,j⟩,H⟩;have M:=Z H;have Q:=Z j;clear H j))
   go_ret;rw[r];exact⟨⟨_,rfl,Q⟩,(f.trans q).trans M⟩
section
structure NM(w:World)(mb:Nat)(pre:List Value)(rows:List Int)(post:List Value):Prop where
 row:Row w mb 137 (pre++(rows.map (Value.int .i64)++post))
 n1:pre.length=7
 n2:rows.length=1000
section
variable{w w':World}{mb:Nat}{pre:List Value}{rows:List Int}{post:List Value}
theorem NM.pc(h:NM w mb pre rows post){i:Nat}{v:Value}(a:pre[i]?=some v):w.cell? (mb,i)=some v:=h.row.cell (by
 rw[List.getElem?_append_left (List.getElem?_eq_some_iff.1 a).1];exact a)
theorem NM.rc(h:NM w mb pre rows post){i:Nat}{v:Int}(a:rows[i]?=some v):w.cell? (mb,7+i)=some (.int .i64 v):=h.row.cell (by
 have b:=(List.getElem?_eq_some_iff.1 a).1;rw[List.getElem?_append_right (by rw[h.n1];omega),h.n1,List.getElem?_append_left (by rw[List.length_map];omega),List.getElem?_map,show 7+i-7=i by omega,a];rfl)
theorem NM.qc(h:NM w mb pre rows post){j:Nat}{v:Value}(a:post[j]?=some v):w.cell? (mb,1007+j)=some v:=h.row.cell (by
 rw[List.getElem?_append_right (by rw[h.n1];omega),h.n1,List.getElem?_append_right (by rw[List.length_map,h.n2];omega),List.length_map,h.n2,show 1007+j-7-1000=j by omega,a])
theorem NM.fz(h:NM w mb pre rows post)(i:Nat):w.frozen? (mb,i)=false:=h.row.free i
theorem NM.lt(h:NM w mb pre rows post):mb<w.heap.size:=h.row.lt
theorem NM.ch{D:Nat->Prop}(h:NM w mb pre rows post)(c:Ch D w w')(a:¬D mb):NM w' mb pre rows post:=⟨h.row.ch c a,h.n1,h.n2⟩
theorem NM.alloc(h:NM w mb pre rows post)(a:Obj):NM (w.alloc a) mb pre rows post:=⟨h.row.alloc a,h.n1,h.n2⟩
theorem NM.drew(h:NM w mb pre rows post):NM w.drew mb pre rows post:=⟨h.row.drew,h.n1,h.n2⟩
theorem NM.tP(h:NM w mb pre rows post){i:Nat}(a:i<7)(v:Value):NM (w.setCell (mb,i) v) mb (pre.set i v) rows post:=
 ⟨h.row.a' i v (by rw[List.set_append_left _ _ (by rw[h.n1];exact a)]),by rw[List.length_set];exact h.n1,h.n2⟩
theorem NM.au(h:NM w mb pre rows post){i:Nat}(a:i<1000)(v:Int):NM (w.setCell (mb,7+i) (.int .i64 v)) mb pre (rows.set i v) post:=
 ⟨h.row.a' (7+i) _ (by rw[List.set_append_right _ _ (by rw[h.n1];omega),h.n1,List.set_append_left _ _ (by rw[List.length_map,h.n2];omega),show 7+i-7=i by omega,List.map_set]),h.n1,by rw[List.length_set];exact h.n2⟩
theorem NM.jZ(h:NM w mb pre rows post)(j:Nat)(v:Value):NM (w.setCell (mb,1007+j) v) mb pre rows (post.set j v):=
 ⟨h.row.a' (1007+j) _ (by rw[List.set_append_right _ _ (by rw[h.n1];omega),h.n1,List.set_append_right _ _ (by rw[List.length_map,h.n2];omega),List.length_map,h.n2,show 1007+j-7-1000=j by omega]),h.n1,h.n2⟩
structure NR(pre post:List Value)(wb n:Nat)(wi na:Int):Prop where
 p8:post[8]?=some (.slice (some (wb,0)) n n)
 r5:pre[5]?=some (.int .i64 wi)
 r6:pre[6]?=some (.int .i64 na)
 n0:1<=n
 E3:n<=64
 Fi:0<=wi
 E4:wi<=256
 Fj:0<=na
 E5:na<=256
theorem lG{b n:Nat}{d a:Int}(h:NM w mb pre rows post)(r:NR pre post b n d a):Calls prog 32 #[(mb,0)] w (d' (.int .i64 (17+8*(n:Int))) w):=by
 have c:=h.qc r.p8;have e:(n:Int)<=64:=by have:=r.E3;omega
 clear h r;go_enter func32,ntmps32
 go_wp2
 go_ret;exact d'.mk rfl
theorem tQ{c n:Nat}{b a:Int}(h:NM w mb pre rows post)(r:NR pre post c n b a):Calls prog 97 #[(mb,0)] w (fun e w'=>e=.returned (.int .i64 (b+a))/\∃n,w'=w.drewN n):=by
 have d:=h.pc r.r5;have f:=h.pc r.r6;have g:IntKind.i64.wrap (b+a)=b+a:=IntWalk.i64_in _ (by have:=r.Fi;have:=r.E4;have:=r.Fj;have:=r.E5;omega);clear h r;go_enter func97,ntmps97
 go_wp2_with fail
 go_quiet (fail)
 go_wp2
 go_ret;exact⟨rfl,nq,rfl⟩
end
def nY(S:aF)(n i:Nat):aF:=
 let a:=(S.acc 1 (gY i) 0 1).2
 let b:=(a.acc 1 (IntKind.u64.wrap (gY i+1)) 0 1).2
 let c:=(b.acc 1 (IntKind.u64.wrap (gY i+2)) 0 (17+3*n+5*i)).2
 (c.acc 1 (17+3*n+5*i) 0 4).2
def mh(S:aF)(n:Nat):Nat->aF
 |0=>S
 |k+1=>nY (mh S n k) n k
def fQ(tt n a d:Nat):aF:=
 let e:=((aF.new tt).map 0 (17+8*n) 64).2
 let b:=mh e n n
 let c:=if 0<a then(b.map (17+8*n) a 64).2 else b
 if 0<d then(c.map (17+8*n+a) d 32).2 else c
theorem xe{S:aF}(h:bX S)(n i:Nat)(e:n<=64)(d:i<=64):bX (nY S n i):=by
 unfold nY;have a:=(h.acc 1 (gY i) 0 1 ⟨by decide,by decide⟩).1;have b:=(a.acc 1 (IntKind.u64.wrap (gY i+1)) 0 1 ⟨by decide,by decide⟩).1;have c:=(b.acc 1 (IntKind.u64.wrap (gY i+2)) 0 (17+3*n+5*i) ⟨by omega,by omega⟩).1;exact(c.acc 1 (17+3*n+5*i) 0 4 ⟨by decide,by decide⟩).1
theorem si{S:aF}(h:bX S)(n:Nat)(a:n<=64):∀k,k<=64->bX (mh S n k)
 |0,_=>h
 |k+1,b=>xe (si h n a k (by omega)) n k a (by omega)
theorem bX.new{tt:Nat}(h:tt<=65536):bX (aF.new tt):=⟨fun x a=>by
 have:x=0:=(List.mem_replicate.1 a).2;rw[this];exact bx,by show(List.replicate tt (0:Int)).length<=_;rw[List.length_replicate];exact h⟩
theorem xf(tt n f d:Nat)(c:tt<=65536)(b:n<=64):bX (fQ tt n f d):=by
 unfold fQ;have e:=(bX.new c).map 0 (17+8*n) 64;have a:=si e n b n b;dsimp only;split
 ·split
  ·exact(a.map _ _ _).map _ _ _
  ·exact a.map _ _ _
 ·split
  ·exact a.map _ _ _
  ·exact a
end
end Go.Proofs.YtfnilkpkogipfaaGreatDoor
