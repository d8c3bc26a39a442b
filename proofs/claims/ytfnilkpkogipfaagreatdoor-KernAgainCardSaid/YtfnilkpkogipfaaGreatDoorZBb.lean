import Derived.ChangeKeysEq
import Derived.RangeFuncBox
import Derived.Test.YtfnilkpkogipfaaGreatDoorZAz
set_option linter.all false
set_option maxRecDepth 100000
set_option maxHeartbeats 8000000
namespace Go.Proofs.YtfnilkpkogipfaaGreatDoor
open Go.RowKit Go.Proofs.Tryz
structure oQ where
 num:Int
 name:ByteArray
 AP:ByteArray
 oR:Int
 k0:Int
 k1:Int
 k2:Int
 k3:Int
def p0(r:oQ):List Value:=[.int .i64 r.num,.string r.name,.string r.AP,.int .i64 r.oR,.int .i64 r.k0,.int .i64 r.k1,.int .i64 r.k2,.int .i64 r.k3]
theorem yx(r:oQ):(p0 r).length=8:=rfl
def dI:List oQ:=[⟨1,⟨#[99,114,101,97,116,101]⟩,⟨#[99,98,111,114,110]⟩,17,0,0,0,0⟩,
 ⟨2,⟨#[101,120,105,116]⟩,⟨#[99,101,120,105,116]⟩,17,0,0,0,0⟩,
 ⟨3,⟨#[106,111,105,110]⟩,⟨#[99,106,111,105,110]⟩,17,0,0,0,0⟩,
 ⟨4,⟨#[100,101,116,97,99,104]⟩,⟨#[99,108,111,111,115,101]⟩,17,0,0,0,0⟩,
 ⟨5,⟨#[115,101,108,102]⟩,⟨#[99,115,101,108,102]⟩,17,0,0,0,0⟩,
 ⟨6,⟨#[121,105,101,108,100]⟩,⟨#[99,121,105,101,108,100]⟩,17,0,0,0,0⟩,
 ⟨7,⟨#[115,108,101,101,112]⟩,⟨#[99,115,108,101,101,112]⟩,17,0,0,0,0⟩,
 ⟨8,⟨#[110,111,119]⟩,⟨#[99,110,111,119]⟩,17,0,0,0,0⟩,
 ⟨10,⟨#[109,117,116,101,120,32,105,110,105,116]⟩,⟨#[99,109,105,110,105,116]⟩,18,0,0,0,0⟩,
 ⟨11,⟨#[109,117,116,101,120,32,100,101,115,116,114,111,121]⟩,⟨#[99,109,103,111,110,101]⟩,18,1,0,0,0⟩,
 ⟨12,⟨#[109,117,116,101,120,32,108,111,99,107]⟩,⟨#[99,109,108,111,99,107]⟩,18,1,0,0,0⟩,
 ⟨13,⟨#[109,117,116,101,120,32,116,114,121,108,111,99,107]⟩,⟨#[99,109,116,114,121]⟩,18,1,0,0,0⟩,
 ⟨14,⟨#[109,117,116,101,120,32,116,105,109,101,100,108,111,99,107]⟩,⟨#[99,109,116,105,109,101,100]⟩,18,1,0,0,0⟩,
 ⟨15,⟨#[109,117,116,101,120,32,117,110,108,111,99,107]⟩,⟨#[99,109,102,114,101,101]⟩,18,1,0,0,0⟩,
 ⟨20,⟨#[115,101,109,32,105,110,105,116]⟩,⟨#[99,115,105,110,105,116]⟩,19,0,0,0,0⟩,
 ⟨21,⟨#[115,101,109,32,100,101,115,116,114,111,121]⟩,⟨#[99,115,103,111,110,101]⟩,19,2,0,0,0⟩,
 ⟨22,⟨#[115,101,109,32,119,97,105,116]⟩,⟨#[99,115,119,97,105,116]⟩,19,2,0,0,0⟩,
 ⟨23,⟨#[115,101,109,32,116,114,121,119,97,105,116]⟩,⟨#[99,115,116,114,121]⟩,19,2,0,0,0⟩,
 ⟨24,⟨#[115,101,109,32,116,105,109,101,100,119,97,105,116]⟩,⟨#[99,115,116,105,109,101,100]⟩,19,2,0,0,0⟩,
 ⟨25,⟨#[115,101,109,32,112,111,115,116]⟩,⟨#[99,115,112,111,115,116]⟩,19,2,0,0,0⟩,
 ⟨26,⟨#[115,101,109,32,103,101,116]⟩,⟨#[99,115,103,101,116]⟩,19,2,0,0,0⟩,
 ⟨30,⟨#[111,110,99,101,32,105,110,105,116]⟩,⟨#[99,111,105,110,105,116]⟩,20,0,0,0,0⟩,
 ⟨31,⟨#[111,110,99,101]⟩,⟨#[99,111,110,99,101]⟩,20,3,0,0,0⟩,
 ⟨40,⟨#[98,97,114,114,105,101,114,32,105,110,105,116]⟩,⟨#[99,98,105,110,105,116]⟩,21,0,0,0,0⟩,
 ⟨41,⟨#[98,97,114,114,105,101,114,32,100,101,115,116,114,111,121]⟩,⟨#[99,98,103,111,110,101]⟩,21,4,0,0,0⟩,
 ⟨42,⟨#[98,97,114,114,105,101,114,32,119,97,105,116]⟩,⟨#[99,98,119,97,105,116]⟩,21,4,0,0,0⟩,
 ⟨50,⟨#[114,119,108,111,99,107,32,105,110,105,116]⟩,⟨#[99,114,105,110,105,116]⟩,22,0,0,0,0⟩,
 ⟨51,⟨#[114,119,108,111,99,107,32,100,101,115,116,114,111,121]⟩,⟨#[99,114,103,111,110,101]⟩,22,5,0,0,0⟩,
 ⟨52,⟨#[114,119,108,111,99,107,32,114,101,97,100]⟩,⟨#[99,114,114,101,97,100]⟩,22,5,0,0,0⟩,
 ⟨53,⟨#[114,119,108,111,99,107,32,116,114,121,114,101,97,100]⟩,⟨#[99,114,116,114,121,114]⟩,22,5,0,0,0⟩,
 ⟨54,⟨#[114,119,108,111,99,107,32,116,105,109,101,100,114,101,97,100]⟩,⟨#[99,114,116,114,101,97,100]⟩,22,5,0,0,0⟩,
 ⟨55,⟨#[114,119,108,111,99,107,32,119,114,105,116,101]⟩,⟨#[99,114,119,114,105,116,101]⟩,22,5,0,0,0⟩,
 ⟨56,⟨#[114,119,108,111,99,107,32,116,114,121,119,114,105,116,101]⟩,⟨#[99,114,116,114,121,119]⟩,22,5,0,0,0⟩,
 ⟨57,⟨#[114,119,108,111,99,107,32,116,105,109,101,100,119,114,105,116,101]⟩,⟨#[99,114,116,119,114,105,116]⟩,22,5,0,0,0⟩,
 ⟨58,⟨#[114,119,108,111,99,107,32,117,110,108,111,99,107]⟩,⟨#[99,114,102,114,101,101]⟩,22,5,0,0,0⟩,
 ⟨60,⟨#[99,111,110,100,32,105,110,105,116]⟩,⟨#[99,99,105,110,105,116]⟩,23,0,0,0,0⟩,
 ⟨61,⟨#[99,111,110,100,32,100,101,115,116,114,111,121]⟩,⟨#[99,99,103,111,110,101]⟩,23,6,0,0,0⟩,
 ⟨62,⟨#[99,111,110,100,32,119,97,105,116]⟩,⟨#[99,99,119,97,105,116]⟩,23,6,1,0,0⟩,
 ⟨63,⟨#[99,111,110,100,32,116,105,109,101,100,119,97,105,116]⟩,⟨#[99,99,116,105,109,101,100]⟩,23,6,1,0,0⟩,
 ⟨64,⟨#[99,111,110,100,32,115,105,103,110,97,108]⟩,⟨#[99,99,115,105,103,110]⟩,23,6,0,0,0⟩,
 ⟨65,⟨#[99,111,110,100,32,98,114,111,97,100,99,97,115,116]⟩,⟨#[99,99,98,114,111,97,100]⟩,23,6,0,0,0⟩,
 ⟨70,⟨#[102,117,116,101,120,32,119,97,105,116]⟩,⟨#[99,102,119,97,105,116]⟩,16,7,0,0,0⟩,
 ⟨71,⟨#[102,117,116,101,120,32,119,97,107,101]⟩,⟨#[99,102,119,97,107,101]⟩,16,7,0,0,0⟩,
 ⟨72,⟨#[102,117,116,101,120,32,114,101,113,117,101,117,101]⟩,⟨#[99,102,114,101,113]⟩,16,7,0,7,0⟩,
 ⟨73,⟨#[102,117,116,101,120,32,99,109,112,114,101,113,117,101,117,101]⟩,⟨#[99,102,99,109,112]⟩,16,7,0,7,0⟩]
def rf:Operand->List ByteArray
 |.const (.string s)=>[s]
 |_=>[]
def ES:Op->List ByteArray
 |.buildSlice _ _ a=>a.toList.flatMap fun x=>rf x.2
 |.call c=>c.args.toList.flatMap rf
 |.binOp _ _ _ b _=>rf b
 |_=>[]
def gG:Code->List ByteArray
 |.seq a b=>gG a++gG b
 |.region _ ops _=>ops.toList.flatMap fun c=>ES c.op
 |_=>[]
set_option maxRecDepth 1000000 in
theorem AQ:∃l:List ByteArray,l.length=10/\l=(Tryz.f44.body.map gG).getD []/\(∀x∈l,x.size<=20000)/\
 ∀w,Calls prog 44 #[.int .i64 16] w (fun e w'=>e=.returned (.string (((ByteArray.empty++l.getD 0 ByteArray.empty)++l.getD 1 ByteArray.empty)++l.getD 2 ByteArray.empty))/\Ch ag w w'):=by
 have hlen:((Tryz.f44.body.map gG).getD []).length=10:=by kernel_rfl
 have f:((Tryz.f44.body.map gG).getD []).all (fun x=>decide (x.size<=20000))=true:=by kernel_rfl
 refine⟨(Tryz.f44.body.map gG).getD [],hlen,rfl,fun x d=>of_decide_eq_true (List.all_eq_true.1 f x d),fun w=> ?_⟩;obtain⟨a,h⟩:=nm ((Tryz.f44.body.map gG).getD []);rw[h]at hlen f⊢;have B:=Z h;have y:=Z hlen;have v:=Z (fun x (d:x∈a)=>(of_decide_eq_true (List.all_eq_true.1 f x d):x.size<=20000));clear h hlen f;go_in
 go_upto_block 0 with fail
 generalize m:World.alloc w _=w1;obtain⟨r,j⟩:=nm w.heap.size;have z:Hid (Row w1 r 9 (a.map Value.string)):=Z (by
  rw[<-B,<-m,<-j];exact Row.new w _ _)
 have u:=Z (Ch.al (D:=ag) m);rw[j];clear m j;go_cut [4] (fun s wc=>s=.string (((ByteArray.empty++a.getD 0 ByteArray.empty)++a.getD 1 ByteArray.empty)++a.getD 2 ByteArray.empty)/\w1=wc)
 case first=>
  go_wp2
  go_loop [4,5] (fun s i=>∃(k:Nat) (t:ByteArray),k<=3/\s=.string t/\i=.int .i64 k/\t.size<=20000*k/\((k<=0/\t=ByteArray.empty)∨(k=1/\t=ByteArray.empty++a.getD 0 ByteArray.empty)∨(k=2/\t=(ByteArray.empty++a.getD 0 ByteArray.empty)++a.getD 1 ByteArray.empty)∨(k=3/\t=((ByteArray.empty++a.getD 0 ByteArray.empty)++a.getD 1 ByteArray.empty)++a.getD 2 ByteArray.empty))) (fun _ i=>3-(intOf i).toNat)
  case atStart=>exact⟨0,ByteArray.empty,by omega,rfl,rfl,by decide,Or.inl ⟨by omega,rfl⟩⟩
  case round=>
   obtain⟨k,t,F,rfl,rfl,H,p⟩:=hrel;have n:=Z p;clear p;by_cases G:k<3
   ·have o:k<a.length:=by have:=y.out;omega
    obtain⟨x,d⟩:=nm (a[k]);have I:x.size<=20000:=(by rw[<-d];exact v _ (List.getElem_mem _));have y0:w1.cell? (r,k)=some (.string x):=z.cell (by rw[List.getElem?_map,List.getElem?_eq_getElem o,d];rfl);have q:a.getD k ByteArray.empty=x:=(by rw[List.getD_eq_getElem?_getD,List.getElem?_eq_getElem o,d];rfl);have g:=Z q;clear q d;have C:(t++x).size<=20000*(k+1):=(by rw[ByteArray.size_append];omega);go_wp2
    go_round
    case rel=>
     refine⟨k+1,t++x,by omega,rfl,by go_num,C,?_⟩;rcases n with⟨c,b⟩|⟨c,b⟩|⟨c,b⟩|⟨c,b⟩
     ·obtain rfl:k=0:=by omega
      exact Or.inr (Or.inl ⟨rfl,by rw[b,g]⟩)
     ·subst c
      exact Or.inr (Or.inr (Or.inl ⟨rfl,by rw[b,g]⟩))
     ·subst c
      exact Or.inr (Or.inr (Or.inr ⟨rfl,by rw[b,g]⟩))
     ·omega
    case measure=>simp[intOf];omega
   ·have E:¬(14+(k:Int)<=16):=by omega
    have A:Hid (t=((ByteArray.empty++a.getD 0 ByteArray.empty)++a.getD 1 ByteArray.empty)++a.getD 2 ByteArray.empty):=Z (by
     rcases n with⟨c,b⟩|⟨c,b⟩|⟨c,b⟩|⟨c,b⟩
     ·omega
     ·omega
     ·omega
     ·exact b)
    go_wp2
    go_meet
    exact⟨congrArg Value.string A,rfl⟩
 case rest=>
  obtain⟨rfl,rfl⟩:=hcut;go_wp2
  go_ret;exact⟨rfl,u⟩
def AR:ByteArray:=⟨#[120,98,111,114,110]⟩
def uY(L:List (ByteArray×Int))(r:oQ):bB:=⟨r.num,(q7 (cR L r.AP)).1,r.k0,r.k1,r.k2,r.k3⟩
def e4(L:List (ByteArray×Int)):List bB:=match cR L AR with
 |some b=>[⟨1,b,0,0,0,0⟩]
 |none=>[]
def hI(L:List (ByteArray×Int))(n:Int)(l:List oQ):List bB:=(l.filter fun r=>decide (r.oR<=n)).map (uY L)
def gH(L:List (ByteArray×Int))(n:Int):List bB:=e4 L++hI L n dI
theorem rh(L:List (ByteArray×Int))(n:Int)(l:List oQ)(k:Nat)(x:oQ)(a:l[k]?=some x):hI L n (l.take (k+1))=hI L n (l.take k)++(if x.oR<=n then [uY L x]else []):=by
 unfold hI;rw[List.take_add_one,a];simp only[Option.toList,List.filter_append,List.map_append]
 congr 1
 by_cases h:x.oR<=n<;>simp[h]
def dP(w w':World):Prop:=∀(k:Nat) (c:Array Value) (t:TypeId) (f:Nat×Nat),t≠33->t≠49->w.heap[k]?=some (.cells c t f)->w'.heap[k]?=some (.cells c t f)
theorem dP.refl(w:World):dP w w:=fun _ _ _ _ _ _ h=>h
theorem dP.trans{a b c:World}(h:dP a b)(g:dP b c):dP a c:=fun k x t f d e i=>g k x t f d e (h k x t f d e i)
theorem dP.row{w w':World}(h:dP w w'){b:Nat}{t:TypeId}{l:List Value}(d:Row w b t l)(a:t≠33)(c:t≠49):Row w' b t l:=h b _ t _ a c d
theorem dP.fQ{w w':World}{D:Nat->Prop}(c:Ch D w w')(b:∀k x t f,D k->w.heap[k]?=some (.cells x t f)->t=33∨t=49):dP w w':=by
 intro k x t f e g a;rw[c.same k (Array.getElem?_eq_some_iff.1 a).1 (fun d=>by rcases b k x t f d a with h|h<;>contradiction)];exact a
theorem dP.own{w w':World}(h:dP w w'){B:Nat}{e:TypeId}{s n:Nat}{v:Value}{b:List Value}(a:w.ownsRow B e s v n b)(c:e≠33)(d:e≠49):w'.ownsRow B e s v n b:=by
 refine⟨a.1,?_⟩;rcases a.2 with f|⟨g,cap,cur,rfl,j,k,i⟩
 ·exact Or.inl f
 ·exact Or.inr ⟨g,cap,cur,rfl,j,h g _ e _ c d k,i⟩
structure mX(w:World)(B lb:Nat)(vc vk:Value)(loop:Int)(calls:List bB):Prop where
 row:Row w lb 33 [vc,loop,vk]
 hB:B<=lb
 own:w.ownsRow B 49 6 vk calls.length (calls.flatMap bB.cells)
theorem mX.af{w w':World}{B lb:Nat}{a b:Value}{loop:Int}{calls:List bB}(h:mX w B lb a b loop calls)(c:Ch ag w w'):mX w' B lb a b loop calls:=⟨h.row.ch c id,h.hB,aj h.own c (fun _ _ e=>e)⟩
theorem mX.app{w w1:World}{B lb:Nat}{g i a:Value}{loop:Int}{calls:List bB}(h:mX w B lb g i loop calls)(r:B<=w.heap.size)(y:bB)
 (q:w1.ownsRow B 49 6 a (calls.length+1) (calls.flatMap bB.cells++y.cells)) (l:w.grownBy w1 i.ownBlock):
 mX (w1.setCell (lb,2) a) B lb g a loop (calls++[y])/\Below B w (w1.setCell (lb,2) a)/\dP w (w1.setCell (lb,2) a):=by
 have c:=kp (p:=lb) (j:=2) (u:=a) l;have m:Row w1 lb 33 [g,loop,i]:=by
  unfold Row;rw[l.block lb h.row.lt (fun e=>bl h.own h.row (by decide) e.symm)];exact h.row
 refine⟨⟨m.bc _ _ rfl,h.hB,?_⟩,fZ c h.own h.hB r,?_⟩
 ·have:=dR (j:=2) (u:=a) q m (by decide)
  rw[List.flatMap_append,List.length_append];simpa using this
 ·refine dP.fQ c (fun k x t f d b=> ?_)
  rcases d with rfl|d
  ·exact Or.inl (e3 h.row b)
  ·obtain⟨_,cs,n⟩:=bS h.own d
   rw[n]at b;injection b with b;injection b with _ o _
   exact Or.inr o.symm
theorem AS:(prog.info? 49).map (fun i=>(i.zero,i.size,i.bytes))=some (some (.agg #[.int .i64 0,.int .i64 0,.int .i64 0,.int .i64 0,.int .i64 0,.int .i64 0]),6,48):=by kernel_rfl
theorem yy{P:Program}{b:Oper}{a:Act}{w w':World}{next:Act->World->Prop}{Q:Exit->Act->World->Prop}{v:Value}(h:(execOp a.eval b).run P w=.ok (.value v) w')(k:next (a.put b.dst v) w'):b.wp P a w next Q:=by
 unfold Oper.wp;rw[h];exact k
set_option maxRecDepth 1000000 in
theorem yz(w:World):Calls prog 83 #[] w (fun e w'=>e=.returned (.slice (some (w.heap.size,0)) 45 45)/\Row w' w.heap.size 194 (dI.flatMap p0)/\Ch ag w w'):=by
 go_wp2
 refine yy (v:=.slice (some (w.heap.size,0)) 45 45) (w':=w.alloc (.cells (dI.flatMap p0).toArray 194)) (by kernel_rfl) ?_;go_wp2
 go_ret;refine⟨rfl,?_,(Ch.refl _ _).alloc _⟩;have h:=Row.new w (dI.flatMap p0).toArray 194;exact h
theorem lq:dI.length=45:=by kernel_rfl
theorem yA(T:ByteArray)(R:List aR×List (ByteArray×Int))(hd:iK T=some R)(ad:R.2.length<=1000000)(n:Int)(os:n<=1000)(w:World):
 Calls prog 43 #[.string T,.int .i64 n] w (oG R.1 (q7 (cR R.2 ⟨#[108,111,111,112]⟩)).1 (gH R.2 n) w):=by
 obtain⟨C,L⟩:=R;dsimp only at ad⊢;have k4:=Z (fun w=>l5 T (C,L) hd w);have k0:=Z (fun s r W v B w h=>hk L s r W v B w h ad);have jp:=Z (fun w=>yz w);obtain⟨i9,dC⟩:=nm (q7 (cR L ⟨#[108,111,111,112]⟩));have k2:=Z (fun v B w h=>hk L ⟨#[108,111,111,112]⟩ i9 dC v B w h ad);obtain⟨c6,eA⟩:=nm (q7 (cR L ⟨#[120,98,111,114,110]⟩));have l1:=Z (fun v B w h=>hk L ⟨#[120,98,111,114,110]⟩ c6 eA v B w h ad);have a3:Hid (e4 L=if c6.2=true then [⟨1,c6.1,0,0,0,0⟩]else []):=Z (by
  unfold e4 AR;rw[<-eA];generalize cR L ⟨#[120,98,111,114,110]⟩=mA;cases mA<;>rfl)
 rw[dC];clear hd dC eA;obtain⟨A,p1⟩:=i9;obtain⟨c7,n0⟩:=c6;obtain⟨B,cr⟩:=nm w.heap.size;have fz:=Z cr;go_in
 go_wp2_with fail
 obtain⟨mW,bi⟩:=nm (w.alloc (.cells #[.slice none 0 0,.int .i64 0,.slice none 0 0] 33));have kT:Hid (Row mW B 33 [.slice none 0 0,.int .i64 0,.slice none 0 0]):=Z (by rw[<-bi,<-cr];exact Row.new _ _ _);have fd:=Z (Ch.al (D:=ag) bi);rw[bi];clear bi cr;with_reducible refine(k4.out _).mono ?_
 rintro e w1 ⟨p2,eC,rfl,U,hn,cQ⟩;obtain⟨ac,o,rfl⟩:=ao U;have it:=Z U;have ch:=Z hn;have K:Hid (Ch ag w w1):=Z (fd.trans cQ);have go:=Z (kT.ch cQ (fun e=>e));have nx:B<w1.heap.size:=go.lt;obtain⟨m,cA⟩:=nm C.length;rw[cA];have k3:=Z cA;clear U hn cQ cA;obtain⟨lb,ap⟩:=nm w1.heap.size;have n8:=Z ap;go_wp2_with fail
 obtain⟨w2,bv⟩:=nm (w1.alloc (.cells #[.slice ac m o,.int .i64 0,.slice none 0 0] 33));have H:Hid (mX w2 (B+1) lb (.slice ac m o) (.slice none 0 0) 0 []):=Z ⟨by rw[<-bv,<-ap];exact Row.new _ _ _,by have:=ap;omega,World.ownsRow_nil _ _ _ _⟩;have a2:=Z (Ch.al (D:=ag) bv);rw[bv];clear bv ap;have io:=H.row.k 1 rfl;have f1:=H.row.free 1;with_reducible refine(k2.out eC _ _ (aj ch.out a2.out (fun _ _ e=>e))).mono ?_
 rintro e w' ⟨rfl,ih,rfl⟩;go_wp2_with fail
 obtain⟨w3,bw⟩:=nm ((w2.drewN ih).setCell (lb,1) (.int .i64 A));have cd:Ch (aL lb) w2 w3:=by rw[<-bw];exact((Ch.refl _ _).drewN _).only _ _
 have k5:Hid (mX w3 (B+1) lb (.slice ac m o) (.slice none 0 0) A []):=Z ⟨by rw[<-bw];exact(H.row.drewN ih).bc _ _ rfl,H.hB,World.ownsRow_nil _ _ _ _⟩;have gr:Hid (dP w1 w3):=Z ((dP.fQ a2 (fun _ _ _ _ q _=>False.elim q)).trans (dP.fQ cd (fun k x t f q U=>by have e:k=lb:=q;subst e;exact Or.inl (e3 H.row U))));have eL:Hid (Below (B+1) w1 w3):=Z ((a2.below (by omega) (fun _ hb=>False.elim hb)).trans (cd.below (by have:=a2.size;omega) (fun b hb=>by have e:b=lb:=hb;have:=H.hB;omega)));rw[bw];clear bw io f1 cd;with_reducible refine(l1.out eC _ _ (gr.out.own ch.out (by decide) (by decide))).mono ?_
 rintro e w' ⟨rfl,mp,rfl⟩;obtain⟨w4,es⟩:=nm (w3.drewN mp);have c9:=Z (Ch.dN (D:=ag) es);have ge:=Z (k5.af c9);have gs:Hid (dP w1 w4):=Z (gr.trans (dP.fQ c9 (fun _ _ _ _ q _=>False.elim q)));have c8:Hid (Below (B+1) w1 w4):=Z (eL.trans (c9.below (by have:=eL.size;omega) (fun _ hb=>False.elim hb)));rw[es];clear es;dsimp only at a3⊢;have lo:B+1<=w4.heap.size:=by have:=c8.size;omega
 obtain⟨i8,hl,i5,i6,i7⟩:=info_parts AS;have gc:=Z hl;clear hl;go_upto_if 34 with fail
 go_cut [] (fun wc=>∃a,mX wc (B+1) lb (.slice ac m o) a A (e4 L)/\dP w1 wc/\Below (B+1) w1 wc)
 case first=>
  cases n0 with
  |false=>
   have M:Hid (e4 L=[]):=Z (by rw[a3];rfl);go_wp2
   go_meet
   rw[M];exact⟨_,ge,gs,c8⟩
  |true=>
   have M:Hid (e4 L=[⟨1,c7,0,0,0,0⟩]):=Z (by rw[a3];rfl);obtain⟨c1,E⟩:∃a,mX w4 (B+1) lb (.slice ac m o) a A []:=⟨_,ge⟩;have ci:=Z E;have c0:w4.cell? (lb,2)=some c1:=E.row.cell rfl;have Q:=E.row.free 2;have V:=E.row.lt;have S:=E.own;have Y:c1.ownBlock≠some lb:=bl E.own E.row (by decide);clear E;go_wp2_with (at_builtin;refine wpList_append_lies _ rfl _ _ _ rfl (B+1) 49 i8 _ 6 48 underlying31 gc i5 i6 i7 rfl (by omega) c1 0 [] rfl (S.alloc _) ⟨w4.heap.size,0,none⟩ 1 1 [.int .i64 1,c7,.int .i64 0,.int .i64 0,.int .i64 0,.int .i64 0] rfl rfl (World.news_of_block (cs:=#[.int .i64 1,c7,.int .i64 0,.int .i64 0,.int .i64 0,.int .i64 0]) (t:=49) (fr:=(0,0)) (heap_alloc_new w4 _)) (by simp[Value.oneCell']) (by omega) (by unfold maxLen;omega) (by omega) (by simp;omega) (w4.heap.size+1) (by simp) ?_)
   intro ll ni c3 hw am lv ok;have mC:c3.cell? (lb,2)=some c1:=(am.cell_far ⟨lb,2,none⟩ (by simp;omega) (Ne.symm Y)).trans (by simp[go_sem,World.cell?_alloc_past,V,c0]);have mL:c3.frozen? (lb,2)=false:=(am.frozen_far ⟨lb,2,none⟩ (by simp;omega) (Ne.symm Y)).trans (by simp[go_sem,World.frozen?_alloc_past,V,Q]);have F:=Z (ci.app lo ⟨1,c7,0,0,0,0⟩ hw (au am));clear hw am lv S c0 Q;go_wp2
   go_meet
   rw[M];exact⟨_,F.1,gs.trans F.2.2,c8.trans F.2.1⟩
 case rest=>
  obtain⟨mS,dN,cS,cL⟩:=hcut;obtain⟨c3,i3⟩:=nm wc;rw[i3]at dN cS cL⊢;have ci:=Z dN;have lc:=Z cS;have eS:=Z cL;clear i3 dN cS cL;go_upto_block 0 with(go_at_call 83;(with_reducible refine(jp.out _).mono ?_);rintro e c4 ⟨rfl,i1,hf⟩;have gk:=Z i1;have cb:=Z hf;clear i1 hf)
  obtain⟨tb,i2⟩:=nm c3.heap.size;rw[i2]at gk⊢;clear i2;have kb:=Z (ci.af cb);have gt:Hid (dP w1 c4):=Z (lc.trans (dP.fQ cb (fun _ _ _ _ q _=>False.elim q)));have eW:Hid (Below (B+1) w1 c4):=Z (eS.trans (cb.below (by have:=eS.size;omega) (fun _ hb=>False.elim hb)));go_cut [] (fun wc=>∃a,mX wc (B+1) lb (.slice ac m o) a A (gH L n)/\dP w1 wc/\Below (B+1) w1 wc)
  case first=>
   go_wp2
   go_loopw [12] (fun i wr=>∃(k:Nat) (a:Value) (calls:List bB),k<=45/\i=.int .i64 k/\mX wr (B+1) lb (.slice ac m o) a A calls/\calls=e4 L++hI L n (dI.take k)/\calls.length<=k+1/\dP c4 wr/\Below (B+1) c4 wr) (fun i _=>45-(intOf i).toNat)
   case atStart=>exact⟨0,mS,e4 L,by omega,rfl,kb,by simp[hI],by rw[a3];split<;>simp,dP.refl _,Below.refl _ _⟩
   case round=>
    obtain⟨k,a,calls,q,rfl,hF,hi,nC,hm,he⟩:=hrel;have ck:=Z hF;have cf:=Z hi;have N:=Z hm;have ab:=Z he;clear hF hi hm he;by_cases md:k<45
    ·have dr:k<dI.length:=by rw[lq];exact md
     obtain⟨x,ex⟩:=nm (dI[k]);have bx:dI[k]?=some x:=(by rw[List.getElem?_eq_getElem dr,ex]);have gf:Hid (Row wr tb 194 (dI.flatMap p0)):=Z (N.row gk (by decide) (by decide));have O:∀j u,j<8->(p0 x)[j]?=some u->wr.cell? ⟨tb,k*8+j,none⟩=some u:=(fun j u mc mn=>gf.cell ((bD yx bx mc).trans mn));have n1:wr.cell? ⟨tb,k*8+3,none⟩=some (.int .i64 x.oR):=O 3 _ (by omega) rfl;have i0:=Z (rh L n dI k x bx);by_cases hle:x.oR<=n
     ·have ip:wr.cell? ⟨tb,k*8+2,none⟩=some (.string x.AP):=O 2 _ (by omega) rfl
      have l:=Z O;obtain⟨r,W⟩:=nm (q7 (cR L x.AP));have kv:=Z W;have k1:=Z (fun(a1:Nat) w h=>k0 x.AP r W eC a1 w h);obtain⟨P,ne⟩:=r;have ce:Hid (calls++[⟨x.num,P,x.k0,x.k1,x.k2,x.k3⟩]=e4 L++hI L n (dI.take (k+1))):=Z (by
       rw[i0.out,if_pos hle,cf,List.append_assoc];unfold uY;rw[kv])
      clear O bx ex W dr;go_wp2_with fail
      with_reducible refine(k1.out _ _ (((gt.out.trans N.out)).own ch.out (by decide) (by decide))).mono ?_
      rintro e w' ⟨rfl,ms,rfl⟩;go_wp2
      obtain⟨d,et⟩:=nm (wr.drewN ms);have y:=Z (Ch.dN (D:=ag) et);rw[et];clear et ip n1;have c:=ck.af y;have kd:=Z c;have av:=gf.ch y (fun e=>e);have x0:d.cell? ⟨tb,k*8,none⟩=some (.int .i64 x.num):=((y.cell (aP (l 0 _ (by omega) rfl)) (fun e=>e)).trans (l 0 _ (by omega) rfl));have x4:d.cell? ⟨tb,k*8+4,none⟩=some (.int .i64 x.k0):=((y.cell (aP (l 4 _ (by omega) rfl)) (fun e=>e)).trans (l 4 _ (by omega) rfl));have x5:d.cell? ⟨tb,k*8+5,none⟩=some (.int .i64 x.k1):=((y.cell (aP (l 5 _ (by omega) rfl)) (fun e=>e)).trans (l 5 _ (by omega) rfl));have x6:d.cell? ⟨tb,k*8+6,none⟩=some (.int .i64 x.k2):=((y.cell (aP (l 6 _ (by omega) rfl)) (fun e=>e)).trans (l 6 _ (by omega) rfl));have x7:d.cell? ⟨tb,k*8+7,none⟩=some (.int .i64 x.k3):=((y.cell (aP (l 7 _ (by omega) rfl)) (fun e=>e)).trans (l 7 _ (by omega) rfl));have X:tb<d.heap.size:=av.lt;have c0:d.cell? (lb,2)=some a:=c.row.cell rfl;have Q:=c.row.free 2;have V:=c.row.lt;have S:=c.own;have Y:a.ownBlock≠some lb:=bl c.own c.row (by decide);have a0:a.ownBlock≠some tb:=bl c.own av (by decide);have mk:lb≠tb:=(fun e=>by subst e;exact absurd (e3 c.row av) (by decide));have og:tb≠lb:=Ne.symm mk;have ls:B+1<=d.heap.size:=(by have:=c.hB;omega);clear c av;go_region_law (first|(refine step_append_lies _ (by rfl) _ _ _ (by rfl) (B+1) 49 i8 _ 6 48 underlying31 gc i5 i6 i7 rfl (by omega) a calls.length (calls.flatMap bB.cells) (by rfl) ((S.alloc _).drew) ⟨d.heap.size,0,none⟩ 1 1 [.int .i64 x.num,P,.int .i64 x.k0,.int .i64 x.k1,.int .i64 x.k2,.int .i64 x.k3] (by rfl) (by rfl) (World.news_of_block (cs:=#[.int .i64 x.num,P,.int .i64 x.k0,.int .i64 x.k1,.int .i64 x.k2,.int .i64 x.k3]) (t:=49) (fr:=(0,0)) (heap_alloc_new d _)) (by simp[Value.oneCell']) (by omega) (by unfold maxLen;omega) (by omega) (by simp;omega) (d.heap.size+1) (by simp) ?_;intro ll no G hB z lt on;have mC:G.cell? (lb,2)=some a:=(z.cell_far ⟨lb,2,none⟩ (by simp;omega) (Ne.symm Y)).trans (by simp[go_sem,World.cell?_alloc_past,V,c0]);have mL:G.frozen? (lb,2)=false:=(z.frozen_far ⟨lb,2,none⟩ (by simp;omega) (Ne.symm Y)).trans (by simp[go_sem,World.frozen?_alloc_past,V,Q]);have n2:G.cell? ⟨tb,k*8,none⟩=some (.int .i64 x.num):=(z.cell_far ⟨tb,k*8,none⟩ (by simp;omega) (Ne.symm a0)).trans (by simp[go_sem,World.cell?_alloc_past,X,x0]);have pc:G.cell? ⟨tb,k*8+4,none⟩=some (.int .i64 x.k0):=(z.cell_far ⟨tb,k*8+4,none⟩ (by simp;omega) (Ne.symm a0)).trans (by simp[go_sem,World.cell?_alloc_past,X,x4]);have pi:G.cell? ⟨tb,k*8+5,none⟩=some (.int .i64 x.k1):=(z.cell_far ⟨tb,k*8+5,none⟩ (by simp;omega) (Ne.symm a0)).trans (by simp[go_sem,World.cell?_alloc_past,X,x5]);have pl:G.cell? ⟨tb,k*8+6,none⟩=some (.int .i64 x.k2):=(z.cell_far ⟨tb,k*8+6,none⟩ (by simp;omega) (Ne.symm a0)).trans (by simp[go_sem,World.cell?_alloc_past,X,x6]);have pm:G.cell? ⟨tb,k*8+7,none⟩=some (.int .i64 x.k3):=(z.cell_far ⟨tb,k*8+7,none⟩ (by simp;omega) (Ne.symm a0)).trans (by simp[go_sem,World.cell?_alloc_past,X,x7])))
      all_goals
       have F:=Z (kd.app ls ⟨x.num,P,x.k0,x.k1,x.k2,x.k3⟩ hB (au (cT z)));clear hB z lt S;go_wp2
       go_roundw
       case rel=>
        refine⟨k+1,_,calls++[⟨x.num,P,x.k0,x.k1,x.k2,x.k3⟩],by omega,by go_num,F.1,(ce).out,by simp;omega,(N.trans (dP.fQ y (fun _ _ _ _ q _=>False.elim q))).trans F.2.2,?_⟩;exact(ab.trans (y.below (by have:=ab.size;have:=eW.size;omega) (fun _ hb=>False.elim hb))).trans F.2.1
       case measure=>simp[intOf];omega
     ·have ce:Hid (calls=e4 L++hI L n (dI.take (k+1))):=Z (by rw[i0.out,if_neg hle,List.append_nil];exact cf)
      have ob:n<x.oR:=(by omega);clear O bx ex dr hle;go_wp2
      go_roundw
      case rel=>exact⟨k+1,a,calls,by omega,by go_num,ck,ce,by omega,N,ab⟩
      case measure=>simp[intOf];omega
    ·have M:Hid (calls=gH L n):=Z (by rw[cf,List.take_of_length_le (by rw[lq];omega)];rfl)
     go_wp2
     go_meet
     rw[<-M];exact⟨a,ck,gt.trans N,eW.trans ab⟩
  case rest=>
   obtain⟨p3,J,cW,al⟩:=hcut;obtain⟨c5,i4⟩:=nm wc;rw[i4]at J cW al⊢;have kf:=Z J;have le:=Z cW;have fb:=Z al;obtain⟨cm,cq,ax⟩:=ao J.own;obtain⟨cl,cC⟩:=nm ((gH L n).length);rw[cC]at ax;have kw:=Z ax;have nd:=Z cC;have ec:=J.row;rw[ax]at ec;obtain⟨y0,io,ip⟩:=ec.c3;have I:Hid (Row c5 B 33 [.slice none 0 0,.int .i64 0,.slice none 0 0]):=Z (by
    unfold Row;rw[al.block B (by omega)];exact go)
   obtain⟨n2,p8,pa⟩:=I.c3;have nq:=I.free 0;have nw:=I.free 1;have Q:=I.free 2;have mm:lb≠B:=(by have:=J.hB;omega);have ov:B≠lb:=Ne.symm mm;clear i4 J cW al ax cC ec;go_wp2
   obtain⟨c2,en⟩:=nm (((c5.setCell ⟨B,0,none⟩ (.slice ac m o)).setCell ⟨B,1,none⟩ (.int .i64 A)).setCell ⟨B,2,none⟩ (.slice cm cl cq));have fn:Ch (aL B) c5 c2:=(by rw[<-en];exact(((Ch.refl _ _).only _ _).only _ _).only _ _);have l0:Row c2 B 33 [.slice ac m o,A,.slice cm cl cq]:=(by rw[<-en];exact((I.set 0 _).set 1 _).set 2 _);rw[en];obtain⟨t0,t1,t2⟩:=l0.c3;refine bodyPost_ret (v:=.agg #[.slice ac m o,A,.slice cm cl cq]) ?_ rfl ?_
   ·simp[results,Tryz.f43,go_sem,t0,t1,t2]
   ·have lw:=fd.size
    have hv:∀{e:TypeId} {s n:Nat} {v:Value} {ii:List Value} {a1:Nat},c5.ownsRow a1 e s v n ii->e≠33->c2.ownsRow a1 e s v n ii:=fun hu l'=>aj hu fn (fun g mb e=>by
     have li:g=B:=e;subst li;obtain⟨_,_,lm⟩:=bS hu mb;exact l' (e3 I lm))
    refine⟨_,rfl,⟨_,_,rfl,?_,?_⟩,?_⟩
    ·have p:=hv (le.own it (by decide) (by decide)) (by decide)
     rw[k3]at p⊢;exact dS p lw
    ·have p:=hv kf.own (by decide)
     rw[<-kw];exact dS p (by have:=fz.out;omega)
    ·have p:Below B w1 c2:=(fb.mono (by omega)).trans (fn.below (by have:=fb.size;omega) (fun b hb=>by have e:b=B:=hb;omega))
     refine⟨p.os.trans K.os,p.tape.trans K.tape,p.output.trans K.out.output,Nat.le_trans K.size p.size,fun b hb _=> ?_⟩;exact(p.block b (by have:=fz.out;omega)).trans (K.same b hb (fun e=>e))
def AT(T:ByteArray):Bool:=match iK T with
 |some R=>fF R.1 (q7 (cR R.2 ⟨#[108,111,111,112]⟩)).1 (gH R.2 16)&&uX R.1&&decide (R.2.length<=1000)&&decide (1<=(gH R.2 16).length)&&decide ((gH R.2 16).length<=100)
 |none=>false
def CK(a:List ByteArray):ByteArray:=(((ByteArray.empty++a.getD 0 ByteArray.empty)++a.getD 1 ByteArray.empty)++a.getD 2 ByteArray.empty)++⟨#[120,98,111,114,110,58,10,116,110,119,32,114,50,32,114,48,32,114,49,32,33,49,10,106,115,114,32,112,117,115,104,10,109,111,118,32,114,49,32,114,50,10,115,101,116,32,114,48,32,48,10,102,105,110,10]⟩
set_option maxRecDepth 1000000 in
theorem yB:AT (CK ((Tryz.f44.body.map gG).getD []))=true:=by kernel_rfl
structure tu(l:List aR)(loop:Int)(calls:List bB):Prop where
 ok:fF l loop calls=true
 u:uX l=true
 c0:0<calls.length
 c1:calls.length<=100
theorem AU:∃(l:List aR) (loop:Int) (calls:List bB),tu l loop calls/\∀w,Calls prog 9 #[.int .i64 16] w (oG l loop calls w):=by
 obtain⟨a,bi,d,U,V⟩:=AQ;have b:=yB;rw[<-d]at b;unfold AT at b;cases j:iK (CK a)with
 |none=>rw[j]at b;cases b
 |some R=>
  rw[j]at b;simp only[Bool.and_eq_true,decide_eq_true_eq]at b;obtain⟨⟨⟨⟨O,P⟩,ax⟩,Q⟩,S⟩:=b;refine⟨_,_,_,⟨O,P,Q,S⟩,fun w=> ?_⟩;have o:=Z (fun w=>yA (CK a) R j (by omega) 16 (by decide) w);have N:=Z V;have bx:(((ByteArray.empty++a.getD 0 ByteArray.empty)++a.getD 1 ByteArray.empty)++a.getD 2 ByteArray.empty).size<=60000:=by
   have g:∀i,(a.getD i ByteArray.empty).size<=20000:=fun i=>by
    rw[List.getD_eq_getElem?_getD];cases c0:a[i]? with
    |none=>decide
    |some x=>exact U x (List.mem_of_getElem? c0)
   rw[ByteArray.size_append,ByteArray.size_append,ByteArray.size_append];have:=g 0;have:=g 1;have:=g 2;have:ByteArray.empty.size=0:=rfl;omega
  unfold CK at o;obtain⟨c2,W⟩:=nm ((((ByteArray.empty++a.getD 0 ByteArray.empty)++a.getD 1 ByteArray.empty)++a.getD 2 ByteArray.empty));rw[W]at o N bx;clear bi d U V j O P ax Q S W;obtain⟨B,y⟩:=nm w.heap.size;have a3:=Z y;go_in
  go_wp2_with fail
  obtain⟨c1,k⟩:=nm (w.alloc (.cells #[.slice none 0 0,.int .i64 0,.slice none 0 0] 33));have am:Hid (Row c1 B 33 [.slice none 0 0,.int .i64 0,.slice none 0 0]):=Z (by rw[<-k,<-y];exact Row.new _ _ _);have a1:=Z (Ch.al (D:=ag) k);rw[k];clear k y;with_reducible refine(N.out _).mono ?_
  rintro e w1 ⟨rfl,z⟩;have m:=Z (a1.trans z);have ap:=Z (am.ch z (fun e=>e));clear z;go_wp2_with fail
  with_reducible refine(o.out _).mono ?_
  rintro e w2 ⟨c7,rfl,⟨c8,c9,rfl,C,E⟩,A⟩;obtain⟨ac,t,rfl⟩:=ao C;obtain⟨r,u,rfl⟩:=ao E;have L:=Z C;have M:=Z E;have a2:=Z (m.trans A);have c:=Z (ap.ch A (fun e=>e));obtain⟨p,f⟩:=nm R.1.length;obtain⟨q,h⟩:=nm ((gH R.2 16).length);rw[f,h];rw[f]at L;rw[h]at M;have ad:=Z f;have al:=Z h;obtain⟨cb,cd,ce⟩:=c.c3;have c3:=c.free 0;have c4:=c.free 1;have c5:=c.free 2;clear C E A f h;obtain⟨H,F⟩:=nm ((q7 (cR R.2 ⟨#[108,111,111,112]⟩)).1);rw[F];have ab:=Z F;clear F;go_wp2
  obtain⟨I,G⟩:=nm (((w2.setCell (B,0) (.slice ac p t)).setCell (B,1) (.int .i64 H)).setCell (B,2) (.slice r q u));have K:Ch (aL B) w2 I:=by rw[<-G];exact(((Ch.refl _ _).only _ _).only _ _).only _ _
  have av:Row I B 33 [.slice ac p t,H,.slice r q u]:=by rw[<-G];exact((c.set 0 _).set 1 _).set 2 _
  rw[G];obtain⟨t0,t1,t2⟩:=av.c3;refine bodyPost_ret (v:=.agg #[.slice ac p t,H,.slice r q u]) ?_ rfl ?_
  ·simp[results,Tryz.f9,go_sem,t0,t1,t2]
  ·have Y:∀{e:TypeId} {s n:Nat} {v:Value} {a0:List Value} {J:Nat},w2.ownsRow J e s v n a0->e≠33->I.ownsRow J e s v n a0:=fun X bv=>aj X K (fun g bw e=>by
    have T:g=B:=e;subst T;obtain⟨_,_,d⟩:=bS X bw;exact bv (e3 c d))
   rw[ab];refine⟨_,rfl,⟨_,_,rfl,?_,?_⟩,a2.fresh K (fun i c6 e=>by have T:i=B:=e;have:=a3.out;omega)⟩
   ·rw[ad];exact dS (Y L (by decide)) m.size
   ·rw[al];exact dS (Y M (by decide)) m.size
theorem A'{w:World}{g k:Nat}{t:TypeId}{L:List Ev}{d:List Value}{X:Ev}(r:Row w g t (L.flatMap Ev.cells++d))(a:L[k]?=some X):
 w.cell? (g,k*11)=some (.int .i64 X.kind)/\w.cell? (g,k*11+1)=some (.int .i64 X.at_)/\w.cell? (g,k*11+2)=some (.int .i64 X.w)/\w.cell? (g,k*11+3)=some (.int .u64 X.t)/\w.cell? (g,k*11+4)=some (.int .i64 X.num)/\w.cell? (g,k*11+5)=some (.int .u64 X.a0)/\w.cell? (g,k*11+6)=some (.int .u64 X.a1)/\w.cell? (g,k*11+7)=some (.int .u64 X.a2)/\w.cell? (g,k*11+8)=some (.int .u64 X.a3)/\w.cell? (g,k*11+9)=some (.int .u64 X.v)/\w.cell? (g,k*11+10)=some (.int .u64 X.code):=by
 have f:∀j v,j<11->X.cells[j]?=some v->w.cell? ⟨g,k*11+j,none⟩=some v:=fun j v b c=>r.cell (by
  have e:=(List.getElem?_eq_some_iff.1 a).1;rw[List.getElem?_append_left (by rw[a4 (enc:=Ev.cells) (k:=11) (fun _=>rfl)];omega)];exact(bD (enc:=Ev.cells) (k:=11) (fun _=>rfl) a b).trans c)
 exact⟨f 0 _ (by omega) rfl,by and_intros<;>exact f _ _ (by decide) rfl⟩
theorem GZ(a b c e:Int)(w:World):(Op.equalIn 9999 60 (.agg #[.int .u64 a,.int .u64 b,.int .u64 c,.int .u64 e]) (.agg #[.int .u64 a,.int .u64 b,.int .u64 c,.int .u64 e])).run prog w=.ok true w:=by
 obtain⟨j,d,f,g,i⟩:=info_parts ix;rw[run_equalIn_array w 9998 _ _ underlying60 d];have h:prog.cellsOf 56=1:=by kernel_rfl
 rw[h];simp[Op.eqItems,List.range_succ,go_sem]
theorem CV(L:List Ev){B1 B2:Nat}{m n:Value}(w:World)(a:w.ownsRow B1 62 11 m L.length (L.flatMap Ev.cells))(c:w.ownsRow B2 62 11 n L.length (L.flatMap Ev.cells)):
 Calls prog 17 #[m,n] w (dc (.bool true) w):=by
 obtain⟨N,g⟩:=nm L.length;rw[g]at a c;have I:N<=9223372036854775807:=by
  rcases Nat.eq_zero_or_pos N with e|e
  ·omega
  ·obtain⟨_,_,_,_,_,r,t,_,_⟩:=aF a e
   exact Nat.le_trans r t
 have q:=Z g;have o:=Z a;have p:=Z c;obtain⟨a1,B,rfl⟩:=ao a;obtain⟨a2,C,rfl⟩:=ao c;clear a c g;go_wp2
 go_loopw [5] (fun s v=>∃k:Nat,k<=N/\s=.int .i64 k/\Ch ag w v) (fun s _=>N-(intOf s).toNat)
 case atStart=>exact⟨0,by omega,rfl,Ch.refl _ _⟩
 case round=>
  obtain⟨k,G,rfl,hb⟩:=hrel;have b:=Z hb;clear hb;by_cases u:k<N
  ·obtain⟨X,i⟩:∃X,L[k]?=some X:=⟨_,List.getElem?_eq_getElem (by rw[q];exact u)⟩
   obtain⟨D,M,J,d,-,-,-,j,-⟩:=aF o (by omega);obtain⟨E,O,K,f,-,-,-,l,-⟩:=aF p (by omega);injection d with d x y
   injection f with f z A
   subst d f;clear x y z A;obtain⟨x0,x1,x2,x3,x4,x5,x6,x7,x8,x9,P⟩:=A' (j.ch b (fun h=>h)) i;obtain⟨y0,Q,S,T,U,V,W,Y,a0,a3,R⟩:=A' (l.ch b (fun h=>h)) i;have H:(k:Int)<N:=(by omega);have F:=GZ;clear i j l;go_wp2
   go_quiet (fail)
   go_wp2
   go_roundw
   case rel=>exact⟨k+1,by omega,by go_num,b.trans ((Ch.refl _ _).drewN _)⟩
   case measure=>simp[intOf];omega
  ·obtain rfl:k=N:=by omega
   go_wp2
   go_ret;exact⟨rfl,b⟩
section
attribute [local go_sem] Oper.semAt_some
def CW(a:Nat)(A:World)(k:Nat):Prop:=∃v,Boxed A a 29 v/\v.ownBlock=some k
structure CX(lc:Nat)(A B:World):Prop where
 size:A.heap.size<=B.heap.size
 same:∀k o,A.heap[k]?=some o->o.isCells=true->k≠lc->¬CW lc A k->B.heap[k]?=some o
 own:∀k,CW lc B k->CW lc A k∨A.heap.size<=k
theorem oZ{A:World}{k:Nat}{a:Obj}(h:A.heap[k]?=some a):k<A.heap.size:=(Array.getElem?_eq_some_iff.1 h).1
theorem CX.trans{b:Nat}{A B C:World}(h:CX b A B)(a:CX b B C):CX b A C where
 size:=Nat.le_trans h.size a.size
 same:=fun k i c g d f=>a.same k i (h.same k i c g d f) g d fun e=>(h.own k e).elim f fun e=>by have:=oZ c;omega
 own:=fun k e=>(a.own k e).elim (fun e=>h.own k e) fun e=>Or.inr (by have:=h.size;omega)
theorem CX.put{d:Nat}(a:World)(l:Nat)(f g:Obj)(i:l≠d)(h:a.heap[l]?=some f)(j:f.isCells=false):CX d a (a.putObj l g) where
 size:=by show _<=(a.heap.setIfInBounds l g).size;rw[Array.size_setIfInBounds];exact Nat.le_refl _
 same:=fun k n b c _ _=>by
  by_cases e:k=l
  ·subst e;rw[h]at b;cases b;rw[j]at c;cases c
  ·exact(World.putObj_heap_other e).trans b
 own:=fun k ⟨v,m,e⟩=>Or.inl ⟨v,(World.putObj_heap_other (fun e=>i e.symm)).symm.trans m,e⟩
def G1(a:Nat)(A:World)(k:Nat):Prop:=(∃b,A.heap[k]?=some b/\b.isCells=true)/\k≠a/\¬CW a A k
theorem Ga(g:Nat):Ca (CX g) (G1 g):=⟨fun {A B k} h ⟨⟨f,a,b⟩,c,d⟩ i=>
 ⟨(h.same k f a b c d).trans a.symm,⟨f,h.same k f a b c d,b⟩,c,fun e=>(h.own k e).elim d fun e=>by omega⟩⟩
theorem jC{F:Fence}{n:Nat}{P:Program}(w:World){ops:Array Oper}{rest:List Oper}{b:Oper}{a:Act}{Q:Exit->Act->World->Prop}
 (N:b.guard=none) (s x:Operand) (t:TypeId) (f:b.op=Op.call {callee:=Callee.builtin Builtin.append,args:=#[s,x],argTypes:=#[t,t]})
 (base:Nat) (e:TypeId) (i:TypeInfo) (z:Value) (size bytes:Nat) (q:P.underlying t=some (.slice e)) (y:P.info? e=some i) (A:i.zero=some z) (B:i.size=size) (D:i.bytes=bytes) (E:z.cells.size=size) (G:0<size)
 (v:Value) (k:Nat) (h:List Value) (U:a.eval s=v) (S:w.ownsRow base e size v k h) (d:Addr) (m c:Nat) (news:List Value) (V:a.eval x=.slice (some d) m c) (R:news.length=m*size)
 (J:∀j u,news[j]?=some u->w.cell? (d.add j)=some u) (r:∀u∈news,u.oneCell'=true) (O:0<m) (l:k+m<=maxLen) (o:(k+m)*bytes<=140737488355328) (p:base<=w.heap.size)
 (H:∀g cap w',w'.ownsRow base e size (.slice (some ⟨g,0,none⟩) (k+m) cap) (k+m) (h++news)->w.grownBy w' v.ownBlock->(v.ownBlock=some g∨g=w.heap.size)->wpListIn F n P ops Q rest (a.put b.dst (.slice (some ⟨g,0,none⟩) (k+m) cap)) w'):
 wpListIn F n P ops Q (b::rest) a w:=by
 refine wpListIn_plain N fun K I=> ?_
 obtain⟨g,cap,w',T,W,X,Z,-⟩:=run_append_lies (P:=P) w t b.type base e i z size bytes q y A B D E G v k h S d m c news R J r O l o p _ rfl;unfold Oper.wpIn;refine⟨?_,?_⟩
 ·simp[Oper.about,f,resolve,Target.leads,Sem.run_pure]
 ·rw[Oper.semAt_plain F _ _ (by rw[f];intro c M;cases M)]
  simp[execOp,f,resolve,invoke,builtin,U,V,T,Result.andThen];exact I _ _ (H g cap w' W X Z)
structure vg(l:List Int)(w:World)(e:Ending)(w':World):Prop where
 ret:∃v,e=.returned v/\w'.ownsRow w.heap.size 56 1 v l.length (l.map (Value.int .u64))
 ch:Ch ag w w'
section
variable{w:World}{χ:Nat->aX}{L:cz}{Y:Var}{C:KC}{K:KS}
theorem p7(h:ae w χ L Y C K):Calls prog 22 #[.pointer (some ⟨L.mb,0,none⟩)] w (vg K.ring w):=by
 obtain⟨b,B⟩:=nm w.heap.size;obtain⟨w1,Q⟩:=nm (w.alloc (.cells #[.slice none 0 0] 29));have a1:Hid (Boxed w1 b 29 (.slice none 0 0)):=Z (by rw[<-Q,<-B];exact Boxed.new _ _ _);have g:Hid (Ch ag w w1):=Z (Ch.al Q);have J:=Z (h.af g);have al:Hid (w1.heap.size=b+1):=Z (by rw[<-Q,<-B];simp);have c9:=J.nN;have bw:=(J.ring (by simp)).is;obtain⟨c8,W,c5,c6,c7⟩:=info_parts ix;have ab:=Z W;clear W bw;refine eb func22 rfl ?_;simp only[ntmps22,List.size_toArray,List.length_cons,List.length_nil,Nat.reduceAdd,Nat.reduceSub,Array.replicate_succ,Array.replicate_zero,List.push_toArray,List.append_toArray,List.nil_append,List.cons_append];go_wp2_with fail
 refine(mz L.rb w1).mono ?_;rintro e w4 ⟨rfl,t⟩;have j:Hid (Ch ag w1 w4):=Z (Ch.al t);have ad:Hid (Row w4 w1.heap.size 132 [.pointer (some ⟨L.rb,0,none⟩)]):=Z (Row.al t);have R:Hid (Boxed w4 b 29 (.slice none 0 0)):=Z (by rw[<-t];exact a1.alloc _);have u:Hid (w4.heap.size=b+2):=Z (by rw[<-t];simp[al.out]);have T:=Z (J.af j);clear t c9;go_wp2_with fail
 have X:=kY (5-1) (by omega) w1.heap.size L.rb L.rg K.ring (Ga b) w4 (ad.cell (i:=0) rfl) (T.ring (by simp)).is (fun a U k G hb O P M N=>by
  have c2:=hb.size;have c4:Boxed U b 29 (.slice none 0 0):=((show Row w4 b 29 [.slice none 0 0]from R.out).ch (Ch.b4 hb) (fun h=>h)).ch O (fun h=>h);refine⟨⟨G,M,N⟩,by rw[u]at c2;omega,fun⟨v,f,e⟩=> ?_⟩;have:=(show U.heap[b]?=_ from f).symm.trans c4;simp at this;subst this;simp[Value.ownBlock]at e)
 refine(wpIn_wide (n:=5)).1 ?_;apply wpIn_rangeFunc_ownG (F:=Fence.wide) (n:=5) rfl (by omega) (gf:=114) (lb:=#[.pointer (some ⟨w1.heap.size,0,none⟩)]) rfl trivial (enters_of func114 (by kernel_rfl) rfl) X (fun h k=>CX.trans h k) (fun a l G cb bi M N _=>CX.put a l G cb (by rw[u]at bi;omega) M N) (Below.refl _ _) (fun _=>rfl)
  (fun pre a=>Below w.heap.size w4 a/\∃v,Boxed a b 29 v/\a.ownsRow b 56 1 v pre.length (pre.map fun p=>Value.int .u64 p.2)/\True) (fun c pre a=>False)
  (OwnFrom.and (ownFrom_below (by have:=g.size;have:=j.size;omega) (by have:=g.size;have:=j.size;omega)) ((holdsRow_own b b 29 56 1 (fun pre:List (Nat×Int)=>pre.length) (fun pre=>pre.map fun p=>Value.int .u64 p.2) (fun _ _=>True)).from _))
  (fun c=>fun _ _ _ _ h _ _=>h)
  ⟨Below.refl _ _,_,R,⟨by simp,Or.inl ⟨rfl,rfl⟩⟩,trivial⟩
 ·intro l x a K o
  gi_wp2
  exact o
 ·rintro l pre ⟨cq,ce⟩ a ⟨m,v,f,d,-⟩ hlen
  have cm:=m.size;have ck:K.ring.length<=64:=by obtain⟨cs,fr,O,-⟩:=(T.ring (by simp)).is;exact O.hn
  have am:=f.cell;have fb:=f.frozen;have I:=Z f;have S:=Z d;have a2:=Z m
  gi_wp2_with (first|(gi_at_builtin;refine jC _ rfl _ _ 29 rfl b 56 c8 (.int .u64 0) 1 8 underlying29 ab c5 c6 c7 rfl (by decide) _ _ _ rfl (S.alloc _) ⟨a.heap.size,0,none⟩ 1 1 [.int .u64 ce] rfl rfl (cell_one_new _ _ _) (by simp[Value.oneCell']) (by omega) (by unfold maxLen;omega) (by omega) (by have:=u.out;simp;omega) ?_;intro ap ch w3 c1 r z;obtain⟨a0,q,E,s,A⟩:=I.appended (by decide) S (by have:=u.out;omega) (Nat.le_refl _) c1 r;have cf:=a0.cell;have f3:=a0.frozen;have y:=Z (And.intro q (And.intro E (And.intro s A)));have a3:=Z (And.intro r z);clear r z q E s A))
  obtain⟨q,E,s,A⟩:=y.out;obtain⟨r,z⟩:=a3.out;refine⟨s.from _,⟨s.size,fun k G P cl bx c0=> ?_,fun k ⟨cd,c3,e⟩=> ?_⟩,⟨(show Below b w4 a from B▸a2).trans A,_,q,?_⟩⟩
  ·have ax:=oZ P
   refine(Below.heap_setCell _ _ _ k (fun e=>bx e)).trans ((r.block k (by simp;omega) (fun e=>c0 ⟨v,I,e.symm⟩)).trans ((heap_alloc_old _ _ _ ax).trans P))
  ·have:=(show _=some (Obj.cells #[cd] 29 (0,0))from c3).symm.trans q
   simp at this;subst this;obtain rfl:ap=k:=by simpa[Value.ownBlock]using e
   rcases z with h|h
   ·exact Or.inl ⟨v,I,h⟩
   ·exact Or.inr (by rw[h];simp)
  ·simpa using E
 ·rintro D cr a V rfl ⟨m,v,f,d,-⟩ o
  have am:=f.cell;have H:=Z o;have y:=Z (And.intro m d);clear X m o d;go_wp2_with fail
  refine⟨by simp,.inl ⟨_,_,rfl,run_takeDeferred H,?_⟩⟩;refine⟨_,results_tmp rfl _ _ _,?_⟩;have d:=ownsRow_putObj y.2 (.deferred none) H rfl;rw[pB]at d;have av:Below w.heap.size w (a.putObj D (.deferred none)):=(((g.trans j).hR).trans y.1).trans (belowK_b (w:=w4) (by have:=g.size;have:=j.size;omega) a D (.deferred (some [])) (.deferred none) V H rfl rfl);have bv:(gx K.ring K.ring.length).map (fun p=>Value.int .u64 p.2)=K.ring.map (Value.int .u64):=by
   have:=congrArg (List.map (Value.int .u64)) (lQ K.ring (Nat.le_refl _));rw[List.map_map,List.take_length]at this;exact this
  rw[bv]at d;exact⟨⟨_,rfl,by rw[B];exact d⟩,Ch.b4 av⟩
 ·rintro D c pre a V ci hF o
  exact hF.elim
end
end
theorem Hk{w wr:World}{l pre r:List Sl}{s:Sl}(a:bJ w none none l)(d:l=pre++s::r)(c:Ch ag w wr):wr.cell? (s.b,4)=some (ptrTo (r.head?.map Sl.b)):=by
 rw[d]at a;obtain⟨-,b,-⟩:=bJ.mid.1 a;have:=(b.ch c (fun h=>h)).cell (i:=4) rfl
 rwa [Option.or_none]at this
theorem Ba(qb lb mb k:Nat)(B:List (List Sl))(l:List Sl)(w:World)(h:im w qb lb mb B)(d:B[k]?=some l)(z:l.length<=100000):
 Calls prog 76 #[(qb,0),.int .i64 k] w (vg (l.map Sl.id) w):=by
 obtain⟨O,y,L,M,N⟩:=info_parts ix;have C:=Z y;have X:k<8:=by rw[<-h.len];exact(List.getElem?_eq_some_iff.1 d).1
 have p:=Z (h.chain k l d);have D:=Z z;have R:=h.head.c1;have H:w.cell? (lb,k*2)=some (ptrTo (l.head?.map Sl.b)):=h.ends.at ep d (j:=0) (by omega) rfl;have Y:(k:Int)<8:=by omega
 have a0:(0:Int)<=k:=by omega
 obtain⟨a2,m⟩:=nm (ptrTo (l.head?.map Sl.b));rw[m]at H;have G:=Z m;have V:decide ((k:Int)<0)=false:=decide_eq_false (by omega);have W:decide ((8:Int)<=k)=false:=decide_eq_false (by omega);clear y h d z m;go_wp2
 go_loopg [5,6] (l.length+1) (fun gk P pv wr=>∃pre post:List Sl,l=pre++post/\gk=post.length+1/\pv=ptrTo (post.head?.map Sl.b)/\Hid (Ch ag w wr/\wr.ownsRow w.heap.size 56 1 P pre.length ((pre.map Sl.id).map (Value.int .u64))))
 case atStart=>exact⟨[],l,rfl,rfl,G.symm,Z ⟨Ch.refl _ _,⟨by simp,Or.inl ⟨rfl,rfl⟩⟩⟩⟩
 case round=>
  obtain⟨pre,post,g,rfl,rfl,a⟩:=hrel;obtain⟨Q,S,rfl⟩:=ao a.2;have b:=Z g;have o:pre.length+post.length<=100000:=by have:=D.out;rw[g,List.length_append]at this;exact this
  clear g;cases post with
  |nil=>
   rw[show ptrTo (([]:List Sl).head?.map Sl.b)=.pointer none from rfl];go_wp2
   go_ret;refine⟨⟨_,rfl,?_⟩,a.1⟩;have U:=a.2;rw[b,List.append_nil]
   rwa [List.length_map]
  |cons s r=>
   have f:=p.out;rw[b]at f;obtain⟨-,c,-⟩:=bJ.mid.1 f;have c:=c.ch a.1 (fun h=>h);have y0:=c.c1;obtain⟨n,e⟩:=nm pre.length;have E:=Z e;have K:=a.1.size;rw[e]at o⊢;have a1:n+1<=100000:=(by rw[List.length_cons]at o;omega);have i:=a.2;rw[e]at i;have u:=Z i;clear c f i e o;rw[show ptrTo ((s::r).head?.map Sl.b)=.pointer (some (s.b,0))from rfl];go_wp2_with (at_builtin;refine wpList_append_lies _ rfl _ _ _ rfl w.heap.size 56 O _ 1 8 underlying29 C L M N rfl (by omega) _ n ((pre.map Sl.id).map (Value.int .u64)) rfl (u.alloc _) ⟨wr.heap.size,0,none⟩ 1 1 [.int .u64 s.id] rfl rfl (World.news_of_block (cs:=#[.int .u64 s.id]) (t:=56) (fr:=(0,0)) (heap_alloc_new wr _)) (by simp[Value.oneCell']) (by omega) (by unfold maxLen;omega) (by omega) (by simp;omega) (wr.heap.size+1) (by simp) ?_)
   intro T cap a3 A x I J;have v:=au x;have F:=Z A;have q:=Z (gq a.1 u (Nat.le_refl _) v);have ab:=(Hk p b q);clear x v A I J K y0;go_wp2
   go_roundg (r.length+1)
   case measure=>simp
   case rel=>exact⟨pre++[s],r,by rw[b];simp,rfl,rfl,Z ⟨q,by simpa[E.out]using F.out⟩⟩
theorem jT{α:Type}{enc:α->List Value}{k:Nat}(a:∀x,(enc x).length=k){w:World}{g q:Nat}{t:TypeId}{L:List α}{f:List Value}{X:α}(r:Row w g t (L.flatMap enc++f))(c:L[q]?=some X)(j:Nat)(b:j<k)(v:Value)(e:(enc X)[j]?=some v):
 w.cell? (g,q*k+j)=some v:=r.cell (by
 have d:=(List.getElem?_eq_some_iff.1 c).1;rw[List.getElem?_append_left (by rw[a4 a];exact Nat.lt_of_lt_of_le (Nat.add_lt_add_left b _) (by rw[<-Nat.succ_mul];exact Nat.mul_le_mul_right _ d))];exact(bD a c b).trans e)
theorem lz{w:World}{B n s:Nat}{t:TypeId}{v:Value}{c:List Value}(h:w.ownsRow B t s v n c):n<=9223372036854775807:=by
 rcases Nat.eq_zero_or_pos n with e|e
 ·omega
 ·obtain⟨_,_,_,_,_,a,b,_,_⟩:=aF h e
  exact Nat.le_trans a b
structure yT where
 t:Int
 a:Int
 m:Int
 d:Int
def yT.cells(x:yT):List Value:=[.int .u64 x.t,.int .u64 x.a,.int .u64 x.m,.int .u64 x.d]
theorem p6(L:List Int):L.map (Value.int .u64)=L.flatMap fun x=>[Value.int .u64 x]:=by
 induction L with
 |nil=>rfl
 |cons x L ih=>rw[List.map_cons,List.flatMap_cons,ih];rfl
theorem yK(L:List Int){B1 B2:Nat}{n o:Value}(w:World)(a:w.ownsRow B1 56 1 n L.length (L.map (Value.int .u64)))(b:w.ownsRow B2 56 1 o L.length (L.map (Value.int .u64))):
 Calls prog 36 #[n,o] w (dc (.bool true) w):=by
 rw[p6]at a b;obtain⟨N,f⟩:=nm L.length;rw[f]at a b;have G:N<=9223372036854775807:=lz a;have r:=Z f;have p:=Z a;have q:=Z b;obtain⟨a1,A,rfl⟩:=ao a;obtain⟨a2,B,rfl⟩:=ao b;clear a b f;go_wp2
 go_loopw [5] (fun s u=>∃k:Nat,k<=N/\s=.int .i64 k/\Ch ag w u) (fun s _=>N-(intOf s).toNat)
 case atStart=>exact⟨0,by omega,rfl,Ch.refl _ _⟩
 case round=>
  obtain⟨k,E,rfl,hb⟩:=hrel;have c:=Z hb;clear hb;by_cases t:k<N
  ·obtain⟨X,g⟩:∃X,L[k]?=some X:=⟨_,List.getElem?_eq_getElem (by rw[r];exact t)⟩
   obtain⟨C,J,H,d,-,-,-,l,-⟩:=aF p (by omega);obtain⟨D,K,I,e,-,-,-,m,-⟩:=aF q (by omega);injection d with d v x
   injection e with e y z
   subst d e;clear v x y z;have i:=jT (k:=1) (fun _=>rfl) (l.ch c (fun h=>h)) g;have j:=jT (k:=1) (fun _=>rfl) (m.ch c (fun h=>h)) g;have x0:=i 0 (by decide) _ rfl;have y0:=j 0 (by decide) _ rfl;rw[Nat.add_zero,Nat.mul_one]at x0 y0;have F:(k:Int)<N:=(by omega);clear g l m i j;go_wp2
   go_quiet (fail)
   go_wp2
   go_roundw
   case rel=>exact⟨k+1,by omega,by go_num,c.trans ((Ch.refl _ _).drewN _)⟩
   case measure=>simp[intOf];omega
  ·obtain rfl:k=N:=by omega
   go_wp2
   go_ret;exact⟨rfl,c⟩
theorem tI(L:List iZ){B1 B2:Nat}{n o:Value}(w:World)(c:w.ownsRow B1 101 7 n L.length (L.flatMap iZ.cells))(e:w.ownsRow B2 101 7 o L.length (L.flatMap iZ.cells)):
 Calls prog 34 #[n,o] w (dc (.bool true) w):=by
 obtain⟨N,i⟩:=nm L.length;rw[i]at c e;have G:N<=9223372036854775807:=lz c;have r:=Z i;have p:=Z c;have q:=Z e;obtain⟨a1,A,rfl⟩:=ao c;obtain⟨a2,B,rfl⟩:=ao e;clear c e i;go_wp2
 go_loopw [5] (fun s u=>∃k:Nat,k<=N/\s=.int .i64 k/\Ch ag w u) (fun s _=>N-(intOf s).toNat)
 case atStart=>exact⟨0,by omega,rfl,Ch.refl _ _⟩
 case round=>
  obtain⟨k,E,rfl,hb⟩:=hrel;have d:=Z hb;clear hb;by_cases t:k<N
  ·obtain⟨X,j⟩:∃X,L[k]?=some X:=⟨_,List.getElem?_eq_getElem (by rw[r];exact t)⟩
   obtain⟨C,J,H,f,-,-,-,l,-⟩:=aF p (by omega);obtain⟨D,K,I,g,-,-,-,m,-⟩:=aF q (by omega);injection f with f v x
   injection g with g y z
   subst f g;clear v x y z;have a:=jT (k:=7) (fun _=>rfl) (l.ch d (fun h=>h)) j;have b:=jT (k:=7) (fun _=>rfl) (m.ch d (fun h=>h)) j;have x0:=a 0 (by decide) _ rfl;have y0:=b 0 (by decide) _ rfl;have x1:=a 1 (by decide) _ rfl;have M:=b 1 (by decide) _ rfl;have x2:=a 2 (by decide) _ rfl;have O:=b 2 (by decide) _ rfl;have x3:=a 3 (by decide) _ rfl;have P:=b 3 (by decide) _ rfl;have x4:=a 4 (by decide) _ rfl;have Q:=b 4 (by decide) _ rfl;have x5:=a 5 (by decide) _ rfl;have R:=b 5 (by decide) _ rfl;have x6:=a 6 (by decide) _ rfl;have S:=b 6 (by decide) _ rfl;rw[Nat.add_zero]at x0 y0;have F:(k:Int)<N:=(by omega);clear j l m a b;go_wp2
   go_quiet (fail)
   go_wp2
   go_roundw
   case rel=>exact⟨k+1,by omega,by go_num,d.trans ((Ch.refl _ _).drewN _)⟩
   case measure=>simp[intOf];omega
  ·obtain rfl:k=N:=by omega
   go_wp2
   go_ret;exact⟨rfl,d⟩
theorem tJ(L:List yT){B1 B2:Nat}{n o:Value}(w:World)(a:w.ownsRow B1 103 4 n L.length (L.flatMap yT.cells))(e:w.ownsRow B2 103 4 o L.length (L.flatMap yT.cells)):
 Calls prog 37 #[n,o] w (dc (.bool true) w):=by
 obtain⟨N,i⟩:=nm L.length;rw[i]at a e;have G:N<=9223372036854775807:=lz a;have r:=Z i;have p:=Z a;have q:=Z e;obtain⟨a1,A,rfl⟩:=ao a;obtain⟨a2,B,rfl⟩:=ao e;clear a e i;go_wp2
 go_loopw [5] (fun s u=>∃k:Nat,k<=N/\s=.int .i64 k/\Ch ag w u) (fun s _=>N-(intOf s).toNat)
 case atStart=>exact⟨0,by omega,rfl,Ch.refl _ _⟩
 case round=>
  obtain⟨k,E,rfl,hb⟩:=hrel;have d:=Z hb;clear hb;by_cases t:k<N
  ·obtain⟨X,j⟩:∃X,L[k]?=some X:=⟨_,List.getElem?_eq_getElem (by rw[r];exact t)⟩
   obtain⟨C,J,H,f,-,-,-,l,-⟩:=aF p (by omega);obtain⟨D,K,I,g,-,-,-,m,-⟩:=aF q (by omega);injection f with f v x
   injection g with g y z
   subst f g;clear v x y z;have b:=jT (k:=4) (fun _=>rfl) (l.ch d (fun h=>h)) j;have c:=jT (k:=4) (fun _=>rfl) (m.ch d (fun h=>h)) j;have x0:=b 0 (by decide) _ rfl;have y0:=c 0 (by decide) _ rfl;have x1:=b 1 (by decide) _ rfl;have M:=c 1 (by decide) _ rfl;have x2:=b 2 (by decide) _ rfl;have O:=c 2 (by decide) _ rfl;have x3:=b 3 (by decide) _ rfl;have P:=c 3 (by decide) _ rfl;rw[Nat.add_zero]at x0 y0;have F:(k:Int)<N:=(by omega);clear j l m b c;go_wp2
   go_quiet (fail)
   go_wp2
   go_roundw
   case rel=>exact⟨k+1,by omega,by go_num,d.trans ((Ch.refl _ _).drewN _)⟩
   case measure=>simp[intOf];omega
  ·obtain rfl:k=N:=by omega
   go_wp2
   go_ret;exact⟨rfl,d⟩
section
theorem CY:(prog.info? 103).map (fun i=>(i.zero,i.size,i.bytes))=some (some (.agg #[.int .u64 0,.int .u64 0,.int .u64 0,.int .u64 0]),4,32):=by kernel_rfl
def jD(K:KS)(id:Int):yT:=⟨id,((gV K.q id).map fO.ad).getD 0,((gV K.q id).map fO.mask).getD 0,if(dm K.clock id).2 then(dm K.clock id).1 else 18446744073709551615⟩
def jE(K:KS)(k:Nat):List yT:=((K.q.take k).flatten.map fO.id).map (jD K)
theorem o0{K:KS}{k:Nat}{l:List fO}(h:K.q[k]?=some l):jE K (k+1)=jE K k++(l.map fO.id).map (jD K):=by
 unfold jE;rw[List.take_add_one,h,Option.toList_some,List.flatten_append,List.map_append,List.map_append];simp
structure E1(l:List yT)(w:World)(e:Ending)(w':World):Prop where
 ret:∃v,e=.returned v/\w'.ownsRow w.heap.size 103 4 v l.length (l.flatMap yT.cells)
 ch:Ch ag w w'
theorem kQ.o9{s:Option fO}{w w':World}{e:Ending}(h:kQ s w e w'):∃x y,e=.returned (.tuple #[.int .u64 ((s.map fO.ad).getD 0),.int .u64 ((s.map fO.mask).getD 0),.int .i64 x,.bool y])/\Ch ag w w':=by
 obtain⟨a,n,rfl⟩:=h;cases s with
 |none=>exact⟨_,_,a,(Ch.refl _ _).drewN _⟩
 |some s=>exact⟨_,_,a,(Ch.refl _ _).drewN _⟩
section
variable{w:World}{χ:Nat->aX}{L:cz}{Y:Var}{C:KC}{K:KS}
theorem CZ{k:Nat}{l:List fO}(a:K.q[k]?=some l)(d:l.length<=100000)(h:ae w χ L Y C K):Calls prog 76 #[(L.qb,0),.int .i64 k] w (vg (l.map fO.id) w):=by
 have c:=h.q (by simp);have e:=c.bZ;rw[<-e]at a;unfold bZ at a;rw[List.getElem?_map]at a;cases b:Y.ls[k]? with
 |none=>rw[b]at a;cases a
 |some l'=>
  rw[b]at a;obtain rfl:l'.map Sl.s=l:=by simpa using a
  have:=Ba L.qb L.ql L.qm k Y.ls l' w c.is b (by simpa using d);rw[List.map_map];exact this
theorem p9(cS:K.q.flatten.length<=100000)(h:ae w χ L Y C K):Calls prog 38 #[(L.mb,0)] w (E1 (jE K 8) w):=by
 obtain⟨hn,cC,hi,hl,hm⟩:=info_parts CY;have eC:=Z cC;have H:=Z h;have he:Hid (K.q.length=8):=Z (by have r:=h.q (by simp);rw[<-r.bZ];unfold bZ;rw[List.length_map];exact r.is.len);have eS:=Z cS;clear cC h cS;go_wp2
 go_loopw [3,10] (fun c5 bv wr=>∃k n:Nat,k<=8/\bv=.int .i64 k/\n=(jE K k).length/\Ch ag w wr/\wr.ownsRow w.heap.size 103 4 c5 n ((jE K k).flatMap yT.cells)) (fun _ bv _=>8-(intOf bv).toNat)
 case atStart=>exact⟨0,0,by omega,rfl,rfl,Ch.refl _ _,⟨rfl,Or.inl ⟨rfl,rfl⟩⟩⟩
 case round=>
  obtain⟨k,n,i3,rfl,D,ad,c0⟩:=hrel;have a:=Z (And.intro ad (And.intro c0 D));obtain⟨hF,i1,rfl⟩:=ao c0;have cm:=Z (H.af ad);have V:=cm.vK;clear ad c0 D;by_cases hb:k<8
  ·obtain⟨l,B⟩:∃l,K.q[k]?=some l:=⟨_,List.getElem?_eq_getElem (by rw[he.out];exact hb)⟩
   have i4:(k:Int)<8:=(by omega);have cL:(jE K k).length+l.length<=100000:=by
    have e:=congrArg List.length (er B).1;rw[List.length_append,List.length_append]at e;have:(jE K k).length=(K.q.take k).flatten.length:=(by unfold jE;rw[List.length_map,List.length_map]);have:=eS.out;omega
   have ex:=Z (fun gf (c:Ch ag wr gf)=>CZ B (by omega) (cm.af c));have ck:=Z B;have D:n+l.length<=100000:=(by rw[a.2.2];exact cL);obtain⟨N,a0⟩:=nm l.length;have j:=Z a0;rw[a0]at D;clear B cL a0;go_wp2_with fail
   with_reducible refine(ex.out _ (Ch.refl _ _)).mono ?_
   rintro e w2 ⟨⟨ih,rfl,E⟩,al⟩;rw[List.length_map,j]at E;have cl:=Z E;have en:=Z (a.1.trans al);have fb:=Z (aj a.2.1 al (fun _ _ h=>h));obtain⟨a2,go,rfl⟩:=ao E;clear E al V;obtain⟨B2,X⟩:=nm wr.heap.size;have hB:Hid (w.heap.size<=B2):=Z (by rw[<-X];exact a.1.size);rw[X]at cl;clear X;go_wp2
   go_loopw [3,20] (fun c5 c4 wq=>∃m q:Nat,m<=N/\c4=.int .i64 m/\q=n+m/\Ch ag w wq/\wq.ownsRow w.heap.size 103 4 c5 q ((jE K k++((l.take m).map fO.id).map (jD K)).flatMap yT.cells)/\wq.ownsRow B2 56 1 (.slice a2 N go) N ((l.map fO.id).map (Value.int .u64))) (fun _ c4 _=>N-(intOf c4).toNat)
   case atStart=>exact⟨0,n,by omega,rfl,rfl,en,by simpa using fb.out,cl⟩
   case round=>
    obtain⟨m,q,i5,rfl,r,am,c3,A⟩:=hrel;have o:=Z (And.intro am (And.intro c3 A));have S:=Z r;have U:=Z (H.af am);obtain⟨a3,i0,rfl⟩:=ao c3;clear am c3;by_cases cQ:m<N
    ·obtain⟨s,c2⟩:∃s,l[m]?=some s:=⟨_,List.getElem?_eq_getElem (by rw[j];exact cQ)⟩
     obtain⟨gs,k2,i9,W,-,-,-,dC,-⟩:=aF A (by omega);injection W with W c6 c7
     subst W;have x0:wr.cell? (gs,m)=some (.int .u64 s.id):=dC.cell (by
      rw[List.getElem?_append_left (by rw[List.length_map,List.length_map,j];exact cQ),List.getElem?_map,List.getElem?_map,c2];rfl)
     obtain⟨id,hid⟩:=nm s.id;rw[hid]at x0;have fd:Hid ((((l.take (m+1)).map fO.id).map (jD K))=(((l.take m).map fO.id).map (jD K))++[jD K id]):=Z (by
      rw[List.take_add_one,c2,Option.toList_some,List.map_append,List.map_append,<-hid];rfl)
     have i6:(m:Int)<N:=(by omega);have i7:(0:Int)<=m:=(by omega);clear c2 A dC c6 c7 hid r;go_upto_region 9 with fail
     obtain⟨w4,F⟩:=nm (wr.alloc (.cells #[.int .u64 id,.int .u64 0,.int .u64 0,.int .u64 18446744073709551615] 103));have c9:Hid (Ch ag wr w4):=Z (Ch.al F);obtain⟨f,J⟩:=nm wr.heap.size;have gc:Hid (Row w4 f 103 [.int .u64 id,.int .u64 0,.int .u64 0,.int .u64 18446744073709551615]):=Z (by rw[<-J];exact Row.al F);have cq:=Z (U.af c9);have T:Hid (f=wr.heap.size):=Z J.symm;have V:=cq.vK;have fn:=Z (qG id cq);obtain⟨b,ab⟩:=nm (((gV K.q id).map fO.ad).getD 0);obtain⟨mk,bx⟩:=nm (((gV K.q id).map fO.mask).getD 0);obtain⟨z,bi⟩:=nm (dm K.clock id).1;obtain⟨cr,ax⟩:=nm (dm K.clock id).2;have cf:Hid (jD K id=⟨id,b,mk,if cr=true then z else 18446744073709551615⟩):=Z (by unfold jD;rw[ab,bx,bi,ax]);have cd:=Z (And.intro ab bx);have ce:=Z (And.intro bi ax);rw[F,J];clear F J ab bx bi ax x0;go_wp2_with fail
     with_reducible refine fn.out.mono ?_
     intro e hu dr;obtain⟨x5,io,rfl,ap⟩:=dr.o9;rw[cd.1,cd.2];have v:=Z (gc.ch ap (fun h=>h));have es:=Z (c9.trans ap);obtain⟨y0,M,O,P⟩:=v.c4;have f1:=v.free 1;have f2:=v.free 2;clear dr ap V;go_upto_region 10 with fail
     obtain⟨dN,G⟩:=nm ((hu.setCell (f,1) (.int .u64 b)).setCell (f,2) (.int .u64 mk));have Q:Hid (Ch ag wr dN):=Z (by rw[<-G];exact(es.set (Or.inr (Nat.le_of_eq T.symm)) _).set (Or.inr (Nat.le_of_eq T.symm)) _);have ge:Hid (Row dN f 103 [.int .u64 id,.int .u64 b,.int .u64 mk,.int .u64 18446744073709551615]):=Z (by rw[<-G];exact(v.set 1 _).set 2 _);have eA:=Z (xj id (U.af Q));have gr:=(U.af Q).j1;rw[G,ce.1,ce.2]at*;clear G y0 M O P f1 f2;go_wp2_with fail
     with_reducible refine eA.out.mono ?_
     rintro e ec ⟨rfl,av⟩;have cb:=Z (Q.trans av);have x:=Z (ge.ch av (fun h=>h));obtain⟨y0,M,O,P⟩:=x.c4;have f3:=x.free 3;clear gr av;have i8:q+1<=100000:=(by have:=S.out;omega);cases cr
     case' true=>
      go_upto_region 13 with fail
      obtain⟨i,I⟩:=nm (ec.setCell (f,3) (.int .u64 z));have u:Hid (Ch ag wr i):=Z (by rw[<-I];exact cb.set (Or.inr (Nat.le_of_eq T.symm)) _);have y:Hid (Row i f 103 [.int .u64 id,.int .u64 b,.int .u64 mk,.int .u64 z]):=Z (by rw[<-I];exact x.set 3 _);obtain⟨p,d⟩:=nm z;rw[d]at y;have ch:Hid (jD K id=⟨id,b,mk,p⟩):=Z (by rw[cf,<-d];rfl);rw[I];clear I d y0 M O P f3
     case' false=>
      go_upto_region 13 with fail
      obtain⟨i,rfl⟩:=mn ec;have u:=cb;have y:=x;obtain⟨p,d⟩:=nm (18446744073709551615:Int);rw[d]at y;have ch:Hid (jD K id=⟨id,b,mk,p⟩):=Z (by rw[cf,<-d];rfl);clear d y0 M O P f3
     all_goals
      obtain⟨hv,c6,c7,hw⟩:=y.c4;obtain⟨gk,a1⟩:=nm ((jE K k++((l.take m).map fO.id).map (jD K)).flatMap yT.cells);have c1:=aj o.2.1 u (fun _ _ h=>h);rw[a1]at c1;have R:=Z c1;have fz:=Z a1;clear c1 a1;have ci:=Z (aj o.2.2 u (fun _ _ h=>h));have c8:=Z (o.1.trans u);have hf:=c8.size;go_wp2_with (at_builtin;refine wpList_append_lies _ rfl _ _ _ rfl w.heap.size 103 hn _ 4 32 underlying97 eC hi hl hm rfl (by omega) _ q gk rfl (R.alloc _) ⟨i.heap.size,0,none⟩ 1 1 [.int .u64 id,.int .u64 b,.int .u64 mk,.int .u64 p] rfl rfl (World.news_of_block (cs:=#[.int .u64 id,.int .u64 b,.int .u64 mk,.int .u64 p]) (t:=103) (fr:=(0,0)) (heap_alloc_new i _)) (by simp[Value.oneCell']) (by omega) (by unfold maxLen;omega) (by omega) (by simp;omega) (i.heap.size+1) (by simp) ?_)
      intro i2 cap ii cW cA gt hd;have bw:=au cA;have eW:=Z cW;have et:=Z (gq c8 R (Nat.le_refl _) bw);have eL:=Z (aj ci (Ch.bM bw) (fun g e=>iy ci R (by decide) e));clear cA bw cW gt hd hf hv c6 c7 hw;go_wp2
      go_roundw
      case rel=>
       refine⟨m+1,q+1,by omega,by go_num,by have:=S.out;omega,et,?_,eL⟩;rw[fd,ch,<-List.append_assoc,List.flatMap_append,fz];exact eW
      case measure=>simp[intOf];omega
    ·obtain rfl:m=N:=by omega
     clear A;go_wp2
     go_roundw
     case rel=>
      refine⟨k+1,q,by omega,by go_num,?_,o.1,?_⟩
      ·rw[o0 ck,List.length_append,List.length_map,List.length_map,j,<-a.2.2];exact S
      ·have h:=o.2.1
       rwa [<-j,List.take_length,<-o0 ck]at h
     case measure=>simp[intOf];omega
  ·obtain rfl:k=8:=by omega
   go_wp2
   go_ret;exact⟨⟨_,rfl,by rw[<-a.2.2];exact a.2.1⟩,a.1⟩
end
end
def p'(n:Int)(x:jW):Prop:=aI x.draw/\(x.kind=1/\0<=x.wk/\x.wk<n∨x.kind=2)
structure vh(n:Int)(most:Nat)(w:World)(e:Ending)(w':World):Prop where
 ret:∃(S:List jW) (v:Value),e=.returned v/\w'.ownsRow w.heap.size 58 3 v S.length (S.flatMap ly)/\S.length<=most/\∀x∈S,p' n x
 ch:Ch ag w w'
theorem C0:(prog.info? 58).map (fun i=>(i.zero,i.size,i.bytes))=some (some (.agg #[.int .i64 0,.int .i64 0,.int .u64 0]),3,24):=by kernel_rfl
theorem o1(n:Int)(dr:1<=n)(dC:n<=64)(e:Nat)(c2:e<=1000)(l:List Int)(R:∀x∈l,aI x)(v:Value)(w:World)(h:gQ w w.heap.size v 1 (fun x=>[.int .u64 x]) l):
 Calls prog 16 #[n,v,.int .i64 e] w (vh n e w):=by
 obtain⟨a,c,rfl,bx,W⟩:=h;obtain⟨N,z⟩:=nm l.length;have ab:=Z z;have am:=Z W;have a2:=Z R;have a3:=Z c2;have T:(e:Int)<=1000:=by omega
 rw[z]at bx⊢;clear z W R;go_wp2
 go_loopg [7,8] (e+1) (fun gk u i wr=>∃(k:Nat) (S:List jW),k<=e/\gk=e-k+1/\i=.int .i64 k/\Hid (Ch ag w wr/\wr.ownsRow w.heap.size 58 3 u k (S.flatMap ly)/\S.length=k/\∀x∈S,p' n x))
 case atStart=>exact⟨0,[],by omega,by omega,rfl,Ch.refl _ _,⟨by simp,Or.inl ⟨rfl,rfl⟩⟩,rfl,by simp⟩
 case round=>
  obtain⟨k,S,P,rfl,rfl,d⟩:=hrel;obtain⟨cf,ch,rfl⟩:=ao d.2.1;have cL:(k:Int)<=1000:=by have:=a3.out;omega
  by_cases cS:k<e
  ·have cW:(k:Int)<(e:Int):=by omega
   by_cases ax:0<N
   ·have cr:(0:Int)<(N:Int):=by omega
    have cq:(N:Int)≠0:=(by omega);have c4:Int.tmod (k:Int) (N:Int)=((k%N:Nat):Int):=(by rw[Int.tmod_eq_emod_of_nonneg (by omega)];rfl);have U:k%N<N:=Nat.mod_lt _ ax;have T:((k%N:Nat):Int)<(N:Int):=(by omega);obtain⟨x,A⟩:∃x,l[k%N]?=some x:=⟨_,List.getElem?_eq_getElem (by rw[ab];exact U)⟩;obtain⟨g,ce,rfl,c0,K⟩:=am _ _ A;have s:=K 0 _ rfl;have H:wr.cell? (g,ce+k%N)=some (.int .u64 x):=by
     have:=(d.1.cell (aP s) (fun h=>h)).trans s;simpa using this
    obtain⟨cd,Q⟩:∃m,k%N=m:=⟨_,rfl⟩;rw[Q]at c4 U T H;have cQ:(0:Int)<=(cd:Int):=(by omega);have cA:=Z (a2 x (List.mem_of_getElem? A));clear A K s c0 Q;go_wp2
    go_quiet (fail)
    generalize Y:wr.drewN nq=w1;have r:Hid (Ch ag wr w1):=Z (Ch.dN Y);clear Y H;generalize X:IntKind.u64.wrap (x+IntKind.u64.wrap (IntKind.u64.wrap (wrap64 ((k:Int)/(N:Int)))*2654435761))=p;have c5:aI p:=(by rw[<-X];exact cx _);clear X;obtain⟨dN,ec⟩:=c5;go_upto_region 8 with fail
    generalize hb:bits .xor .u64 p (p/131072)=o;have cC:0<=o:=(by rw[<-hb];exact(iX .xor p (p/131072)).1);obtain⟨j,J,bi,bv⟩:∃j,wrap64 ((o/256).tmod n)=j/\0<=j/\j<n:=by
     have ap:(o/256).tmod n=o/256%n:=Int.tmod_eq_emod_of_nonneg (by omega);have ck:=Int.emod_nonneg (o/256) (b:=n) (by omega);have cl:=Int.emod_lt_of_pos (o/256) (b:=n) (by omega);rw[ap];exact⟨_,rfl,by unfold wrap64;omega,by unfold wrap64;omega⟩
    obtain⟨D,I,av,cm⟩:∃D,(o/65536).tmod 64=D/\0<=D/\D<64:=by
     rw[Int.tmod_eq_emod_of_nonneg (by omega)];exact⟨_,rfl,by omega,by omega⟩
    try rw[J]
    try rw[I]
    clear hb;have ad:=Z (aj d.2.1 r (fun _ _ h=>h));have C:Hid (p' n ⟨1,j,D⟩/\p' n ⟨2,0,0⟩):=Z ⟨⟨⟨av,by show D<_;omega⟩,Or.inl ⟨rfl,bi,bv⟩⟩,⟨⟨by decide,by decide⟩,Or.inr rfl⟩⟩;obtain⟨cb,O,c7,c8,c9⟩:=info_parts C0;have a1:=Z O;clear O J I;go_upto_region 10 with fail
    all_goals
     first
      |(obtain⟨w2,f⟩:=nm (w1.alloc (.cells #[.int .i64 2,.int .i64 0,.int .u64 0] 58));rw[f];obtain⟨E,F,q,B⟩:∃E,Hid (p' n E)/\Hid (Ch ag w1 w2)/\Hid (Row w2 w1.heap.size 58 (ly E)):=⟨⟨2,0,0⟩,C.2,Ch.al f,Row.al f⟩;clear f)
      |(obtain⟨w2,f⟩:=nm (w1.alloc (.cells #[.int .i64 1,.int .i64 j,.int .u64 D] 58));rw[f];obtain⟨E,F,q,B⟩:∃E,Hid (p' n E)/\Hid (Ch ag w1 w2)/\Hid (Row w2 w1.heap.size 58 (ly E)):=⟨⟨1,j,D⟩,C.1,Ch.al f,Row.al f⟩;clear f)
     obtain⟨x0,x1,x2⟩:=B.c3;have G:=Z (aj ad q (fun _ _ h=>h));have c3:=((d.1.trans r).trans q|>.size);go_wp2_with (at_builtin;refine wpList_append_lies _ rfl _ _ _ rfl w.heap.size 58 cb _ 3 24 underlying51 a1 c7 c8 c9 rfl (by omega) _ k (S.flatMap ly) rfl (G.alloc _) ⟨w2.heap.size,0,none⟩ 1 1 (ly E) rfl rfl (World.news_of_block (cs:=#[.int .i64 E.kind,.int .i64 E.wk,.int .u64 E.draw]) (t:=58) (fr:=(0,0)) (heap_alloc_new w2 _)) (by simp[Value.oneCell',ly]) (by omega) (by unfold maxLen;omega) (by omega) (by simp;omega) (w2.heap.size+1) (by simp) ?_)
     intro ci cap w4 V M bw c1;have L:=au M;have al:=Z V;have a0:=Z (gq ((d.1.trans r).trans q) G (Nat.le_refl _) L);clear M L V bw c1 x0 x1 x2 c3;go_wp2
     go_roundg (e-(k+1)+1)
     case measure=>omega
     case rel=>
      exact⟨k+1,S++[E],by omega,rfl,rfl,a0,by rw[List.flatMap_append];simpa using al.out,by rw[List.length_append,d.2.2.1];rfl,fun y c6=>by
       rcases List.mem_append.1 c6 with h|h
       ·exact d.2.2.2 y h
       ·rw[List.mem_singleton.1 h];exact F⟩
   ·go_wp2_with fail
    go_ret;exact⟨⟨S,_,rfl,d.2.2.1▸d.2.1,by rw[d.2.2.1];exact P,d.2.2.2⟩,d.1⟩
  ·go_wp2_with fail
   go_ret;exact⟨⟨S,_,rfl,d.2.2.1▸d.2.1,by rw[d.2.2.1];exact P,d.2.2.2⟩,d.1⟩
theorem C1:(prog.info? 101).map (fun i=>(i.zero,i.size,i.bytes))=some (some (.agg #[.int .u64 0,.int .i64 0,.int .u64 0,.int .u64 0,.int .u64 0,.bool false,.bool false]),7,48):=by kernel_rfl
def rm(l:List aE):List iZ:=(l.filter aE.taken).map aE.t
theorem jU{l:List aE}{k:Nat}{r:aE}(h:l[k]?=some r):rm (l.take (k+1))=rm (l.take k)++(if r.taken then [r.t]else []):=by
 rw[List.take_succ,h];unfold rm;rw[List.filter_append,List.map_append];cases a:r.taken<;>simp[a]
def Bb(l:List iZ)(w:World)(e:Ending)(w':World):Prop:=∃v,e=.returned v/\w'.ownsRow w.heap.size 101 7 v l.length (l.flatMap iZ.cells)/\Ch ag w w'
theorem vi(b g:Nat)(l:List aE)(w:World)(h:a5 w b g l):Calls prog 75 #[(b,0)] w (Bb (rm l) w):=by
 obtain⟨J,p,F,G,I⟩:=info_parts C1;have y:=Z p;have H:=Z h;have V:=h.head.c1;clear p h;go_wp2
 go_loopw [3,10] (fun K j wr=>∃k n:Nat,k<=64/\n<=k/\j=.int .i64 k/\n=(rm (l.take k)).length/\Ch ag w wr/\wr.ownsRow w.heap.size 101 7 K n ((rm (l.take k)).flatMap iZ.cells)) (fun _ j _=>64-(intOf j).toNat)
 case atStart=>exact⟨0,0,by omega,by omega,rfl,rfl,Ch.refl _ _,⟨by simp[rm],Or.inl ⟨rfl,rfl⟩⟩⟩
 case round=>
  obtain⟨k,n,a0,a3,rfl,q,d,e⟩:=hrel;have a:=Z (And.intro d (And.intro e q));obtain⟨U,X,rfl⟩:=ao e;have W:=((H.ch d (fun h=>h) (fun h=>h)).head).cell (i:=0) rfl;clear d e q;by_cases C:k<64
  ·obtain⟨r,f⟩:∃r,l[k]?=some r:=⟨_,List.getElem?_eq_getElem (by rw[H.len];exact C)⟩
   have c:=Z f;obtain⟨times,taken,ab,⟨tid,state,home,value,u,loose,v⟩⟩:=r;obtain⟨y0,L,M,N,O,P,Q,R,S,T,fr,a2⟩:=(H.ch a.1 (fun h=>h) (fun h=>h)).cells f;dsimp only at L N O P Q R S T;have a1:(k:Int)<64:=(by omega);clear fr f y0 M;cases taken with
   |false=>
    go_wp2
    go_roundw
    case rel=>exact⟨k+1,n,by omega,by omega,by go_num,by rw[jU c];simpa using a.out.2.2,a.1,by rw[jU c];simpa using a.out.2.1⟩
    case measure=>simp[intOf];omega
   |true=>
    have E:=a.1.size;go_wp2_with (at_builtin;refine wpList_append_lies _ rfl _ _ _ rfl w.heap.size 101 J _ 7 48 underlying93 y F G I rfl (by omega) _ n ((rm (l.take k)).flatMap iZ.cells) rfl (a.2.1.alloc _) ⟨wr.heap.size,0,none⟩ 1 1 [.int .u64 tid,state,.int .u64 home,.int .u64 value,.int .u64 u,.bool loose,.bool v] rfl rfl (World.news_of_block (cs:=#[.int .u64 tid,state,.int .u64 home,.int .u64 value,.int .u64 u,.bool loose,.bool v]) (t:=101) (fr:=(0,0)) (heap_alloc_new wr _)) (by simp[Value.oneCell']) (by omega) (by unfold maxLen;omega) (by omega) (by simp;omega) (wr.heap.size+1) (by simp) ?_)
    intro Y cap ad s o B D;have m:=au o;have z:=Z s;have x:=Z (gq a.1 a.2.1 (Nat.le_refl _) m);clear o m s B D E;go_wp2
    go_roundw
    case rel=>exact⟨k+1,n+1,by omega,by omega,by go_num,by rw[jU c];simpa using a.out.2.2,x,by rw[jU c,List.flatMap_append];simpa[iZ.cells]using z.out⟩
    case measure=>simp[intOf];omega
  ·obtain rfl:k=64:=by omega
   go_wp2
   go_ret;refine⟨_,rfl,?_,a.1⟩;have A:=a.2.1;rw[a.2.2,List.take_of_length_le (by rw[H.len];omega)]at A
   rwa [a.2.2,List.take_of_length_le (by rw[H.len];omega)]
theorem tK{w:World}{χ:Nat->aX}{L:cz}{Y:Var}{C:KC}{K:KS}(h:ae w χ L Y C K):Calls prog 35 #[(L.mb,0)] w (Bb (rm K.table) w):=by
 have c:=h.ea;have f:=Z (vi L.tb L.tg K.table w (h.cU (by simp)).is);clear h;go_in
 go_wp2_with (go_at_call 75;refine f.mono ?_;rintro e w' ⟨v,rfl,d,b⟩;have a:=Z (And.intro d b);clear d b)
 go_ret;exact⟨v,rfl,a.1,a.2⟩
theorem vj{B n:Nat}{v:Value}{y:List Value}(w:World)(h:w.ownsRow B 62 11 v n y):
 Calls prog 33 #[v] w (fun e w'=>e=.returned (.tuple #[])/\Ch (fun i=>v.ownBlock=some i) w w'):=by
 rcases h.2 with⟨rfl,rfl⟩|⟨g,N,cur,rfl,-,p,F,m,o,-⟩
 ·clear h
  go_wp2
  go_loopw [2] (fun s d=>s=.int .i64 0/\w=d) (fun _ _=>0)
  case atStart=>exact⟨rfl,rfl⟩
  case round=>
   obtain⟨rfl,rfl⟩:=hrel;go_wp2
   go_end0
   exact⟨rfl,Ch.refl _ _⟩
 have t:Hid (Row w g 62 cur.toList):=Z p;have r:Hid (cur.toList.length=N*11):=Z o;have m:N<=9223372036854775807:=m;clear h p o;go_wp2
 go_loopw [2] (fun s d=>∃k:Nat,k<=N/\s=.int .i64 k/\Ch (aL g) w d/\∃l,Row d g 62 l/\l.length=N*11) (fun s _=>N-(intOf s).toNat)
 case atStart=>exact⟨0,by omega,rfl,Ch.refl _ _,_,t,r⟩
 case round=>
  obtain⟨k,A,rfl,hb,l,c,q⟩:=hrel;have b:=Z (And.intro hb (And.intro c q));clear hb c q;by_cases D:k<N
  ·have f:∀j,j<11->∃u,wr.cell? ⟨g,k*11+j,none⟩=some u:=fun j z=>by
    have c:=b.2.1;exact⟨_,c.cell (List.getElem?_eq_getElem (by rw[b.2.2];omega))⟩
   obtain⟨u0,y0⟩:=f 0 (by omega);obtain⟨u1,G⟩:=f 1 (by omega);obtain⟨u2,I⟩:=f 2 (by omega);obtain⟨u3,J⟩:=f 3 (by omega);obtain⟨u4,K⟩:=f 4 (by omega);obtain⟨u5,L⟩:=f 5 (by omega);obtain⟨u6,M⟩:=f 6 (by omega);obtain⟨u7,O⟩:=f 7 (by omega);obtain⟨u8,P⟩:=f 8 (by omega);obtain⟨u9,Q⟩:=f 9 (by omega);obtain⟨u10,H⟩:=f 10 (by omega);rw[Nat.add_zero]at y0;have a:∀j,wr.frozen? ⟨g,j,none⟩=false:=b.2.1.free;have f0:=a (k*11);have f1:=a (k*11+1);have f2:=a (k*11+2);have f3:=a (k*11+3);have f4:=a (k*11+4);have f5:=a (k*11+5);have f6:=a (k*11+6);have f7:=a (k*11+7);have f8:=a (k*11+8);have f9:=a (k*11+9);have f10:=a (k*11+10);have C:(k:Int)<N:=(by omega);have E:=b.2.1.lt;clear f a;go_wp2
   go_roundw
   case rel=>exact⟨k+1,by omega,by go_num,((((((((((b.1.only _ _).only _ _).only _ _).only _ _).only _ _).only _ _).only _ _).only _ _).only _ _).only _ _).only _ _,_,((((((((((b.2.1.set _ _).set _ _).set _ _).set _ _).set _ _).set _ _).set _ _).set _ _).set _ _).set _ _).set _ _,by simp only[List.length_set];exact b.2.2⟩
   case measure=>simp[intOf];omega
  ·obtain rfl:k=N:=by omega
   go_wp2
   go_end0
   exact⟨rfl,b.1.mono (fun i (x:i=g)=>by rw[x];rfl)⟩
end Go.Proofs.YtfnilkpkogipfaaGreatDoor
