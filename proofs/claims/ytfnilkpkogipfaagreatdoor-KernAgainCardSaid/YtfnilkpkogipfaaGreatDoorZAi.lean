import Derived.Laws.Concat
import Derived.Deep.RegionHeldLaw
import Derived.Test.YtfnilkpkogipfaaGreatDoorZAe
set_option linter.all false
set_option maxRecDepth 100000
set_option maxHeartbeats 8000000
namespace Go.Proofs.YtfnilkpkogipfaaGreatDoor
open Go.RowKit Go.Proofs.Tryz
theorem m7{w:World}{b i:Nat}{c:Array Value}{t:TypeId}(h:w.heap[b]?=some (.cells c t (0,0))):w.cell? (b,i)=c[i]?:=cell_of_row w b i _ _ _ h
theorem lg:(prog.info? 3).map (fun i=>(i.zero,i.size,i.bytes))=some (some (.int .i64 0),1,8):=by kernel_rfl
abbrev Gh:=Bool×Bool×Bool×Bool×Bool×Bool×Bool×Bool
def AA(op:Int):Gh:=
 if op=1 then(true,false,false,true,false,false,false,true)
 else if op=2∨op=23∨op=49∨op=50∨op=47∨op=39∨op=54 then(true,true,false,false,false,false,false,true)
 else if op=3∨op=4∨op=5∨op=6∨op=7∨op=8∨op=9∨op=10∨op=11 then(true,true,true,true,false,true,false,true)
 else if op=12∨op=15 then(false,false,false,true,false,false,true,true)
 else if op=13∨op=14 then(true,false,false,true,false,false,true,true)
 else if op=16∨op=33∨op=55∨op=56∨op=58 then(false,false,false,false,false,false,false,true)
 else if op=17∨op=18∨op=19∨op=20∨op=31 then(true,true,false,true,true,false,false,true)
 else if op=21∨op=32 then(true,true,true,true,true,false,false,true)
 else if op=22 then(false,false,false,true,false,false,false,true)
 else if op=43 then(true,true,false,true,true,false,false,true)
 else if op=45 then(true,true,false,true,false,false,false,true)
 else if op=24∨op=25∨op=26∨op=27∨op=48 then(true,true,true,false,false,false,false,true)
 else if op=28∨op=29∨op=30∨op=34∨op=35∨op=36∨op=37∨op=38∨op=40∨op=41∨op=42∨op=44∨op=46∨op=51∨op=52∨op=53∨op=57 then(true,false,false,false,false,false,false,true)
 else(false,false,false,false,false,false,false,false)
def Ha(p:Gh):Value:=.agg #[.bool p.1,.bool p.2.1,.bool p.2.2.1,.bool p.2.2.2.1,.bool p.2.2.2.2.1,.bool p.2.2.2.2.2.1,.bool p.2.2.2.2.2.2.1,.bool p.2.2.2.2.2.2.2]
def v9(p:Gh)(w:World)(e:Ending)(w':World):Prop:=e=.returned (Ha p)/\Below w.heap.size w w'
theorem v9.mk{p:Gh}{a b c d x y z i:Bool}{w w':World}(h:p=(a,b,c,d,x,y,z,i))(hb:Below w.heap.size w w'):v9 p w (.returned (.agg #[.bool a,.bool b,.bool c,.bool d,.bool x,.bool y,.bool z,.bool i])) w':=by subst h;exact⟨rfl,hb⟩
set_option maxHeartbeats 16000000 in
theorem EG(op:Int)(w:World):Calls prog 155 #[op] w (v9 (AA op) w):=by
 go_wp2
 all_goals
  simp only[beq_iff_eq,beq_eq_false_iff_ne,ne_eq]at*;simp[bodyPost,results,Tryz.results155,go_sem];refine v9.mk ?_ ?_
  ·unfold AA
   repeat first
    |rfl
    |rw[if_pos (by omega)]
    |rw[if_neg (by omega)]
  ·repeat first
    |exact Below.refl _ _
    |refine Below.alloc ?_ (by simp) _
    |refine Below.setCell ?_ (by simp) _
def oB(op:Int):Bool:=decide (op=17∨op=18∨op=19∨op=20∨op=31∨op=21∨op=32)
theorem uP(op:Int)(w:World):Calls prog 156 #[op] w (kx (oB op) w):=by
 go_wp2
 all_goals
  go_ret;simp only[beq_iff_eq,beq_eq_false_iff_ne,ne_eq]at*;refine kx.mk ?_;unfold oB
  first
   |exact decide_eq_true (by omega)
   |exact decide_eq_false (by omega)
def cc:List ByteArray:=[⟨#[115,101,116]⟩,⟨#[109,111,118]⟩,⟨#[97,100,100]⟩,⟨#[115,117,98]⟩,⟨#[97,110,100]⟩,⟨#[111,114]⟩,⟨#[120,111,114]⟩,⟨#[115,104,108]⟩,⟨#[115,104,114]⟩,⟨#[101,113]⟩,⟨#[108,116]⟩,⟨#[106,109,112]⟩,⟨#[106,122]⟩,⟨#[106,110,122]⟩,⟨#[106,115,114]⟩,⟨#[114,101,116]⟩,⟨#[108,100]⟩,⟨#[115,116]⟩,⟨#[115,119,112]⟩,⟨#[102,97,100]⟩,⟨#[99,97,115]⟩,⟨#[99,97,108,108]⟩,⟨#[104,115,104]⟩,⟨#[113,112,116]⟩,⟨#[113,116,107]⟩,⟨#[113,109,118]⟩,⟨#[113,104,115]⟩,⟨#[115,108,112]⟩,⟨#[104,110,100]⟩,⟨#[112,105,107]⟩,⟨#[108,97,121]⟩,⟨#[116,97,107]⟩,⟨#[105,110,106]⟩,⟨#[105,106,116]⟩,⟨#[114,117,110]⟩,⟨#[112,114,107]⟩,⟨#[115,108,102]⟩,⟨#[119,114,107]⟩,⟨#[119,107,100]⟩,⟨#[119,107,110]⟩,⟨#[110,111,119]⟩,⟨#[100,114,119]⟩,⟨#[103,101,116]⟩,⟨#[102,114,101]⟩,⟨#[111,98,106]⟩,⟨#[100,101,108]⟩,⟨#[99,107,112]⟩,⟨#[116,110,119]⟩,⟨#[116,115,116]⟩,⟨#[116,104,109]⟩,⟨#[116,106,110]⟩,⟨#[116,100,116]⟩,⟨#[116,101,120]⟩,⟨#[116,114,112]⟩,⟨#[101,110,100]⟩,⟨#[121,108,100]⟩,⟨#[99,98,107]⟩,⟨#[102,105,110]⟩]
theorem uQ(w:World):Calls prog 132 #[] w fun e w'=>e=.returned (.slice (some (w.heap.size,0)) 58 58)/\Row w' w.heap.size 9 (cc.map Value.string)/\Ch ag w w':=by
 go_wp2
 go_ret;exact⟨rfl,Row.new w (cc.map Value.string).toArray _,(Ch.refl _ _).alloc _⟩
def gD(op:Int):List Int:=
 if op=1 then [0,8]else if op=12∨op=15 then [6]else if op=13∨op=14 then [0,6]else if op=22 then [7]else if op=43 then [0,3]else if op=45 then [0,1,7]
 else(if(AA op).1 then [0]else [])++(if oB op then [5]else if(AA op).2.1 then [1]else [])++(if(AA op).2.2.2.2.2.1 then [4]else if(AA op).2.2.1 then [2]else [])
def CB(l:List Int)(w:World)(e:Ending)(w':World):Prop:=∃v,e=.returned v/\w'.ownsRow w.heap.size 3 1 v l.length (l.map (Value.int .i64))/\Below w.heap.size w w'
theorem CB.lit{l:List Int}{n:Nat}{w:World}(a:n=l.length)(b:l.length<=10):CB l w (.returned (.slice (some (w.heap.size,0)) n n)) (w.alloc (.cells (l.map (Value.int .i64)).toArray 3)):=by
 subst a;refine⟨_,rfl,⟨by simp,Or.inr ⟨w.heap.size,l.length,_,rfl,Nat.le_refl _,hK,Nat.le_refl _,?_,by simp,?_⟩⟩,(Below.refl _ _).alloc (Nat.le_refl _) _⟩
 ·unfold maxLen;omega
 ·rw[List.take_of_length_le (by simp)]
theorem dS{w:World}{B d:Nat}{e:TypeId}{size n:Nat}{v:Value}{f:List Value}(h:w.ownsRow B e size v n f)(i:d<=B):w.ownsRow d e size v n f:=
 ⟨h.1,h.2.elim Or.inl fun⟨g,cap,cur,a,b,c⟩=>Or.inr ⟨g,cap,cur,a,Nat.le_trans i b,c⟩⟩
def q6(l:List Int):List Value:=l.map (Value.int .i64)
structure ie(B:Nat)(w0 w:World)(v:Value)(acc:List Int):Prop where
 own:w.ownsRow B 3 1 v acc.length (q6 acc)
 below:Below B w0 w
theorem ie.keep{B:Nat}{a w w':World}{v:Value}{acc:List Int}(h:ie B a w v acc)(hb:Below w.heap.size w w')(b:B<=w.heap.size):ie B a w' v acc:=
 ⟨h.own.kept (row:=none) ⟨hb.os,hb.tape,hb.output,hb.size,fun k c _=>hb.block k c⟩ (by cases v.ownBlock<;>simp),h.below.trans (hb.mono b)⟩
theorem lh{ops:Array Oper}{rest:List Oper}{d:Oper}{a:Act}{Q:Exit->Act->World->Prop}{B:Nat}{m w:World}{v:Value}{acc:List Int}(q:d.guard=none)(l x:Operand)
 (t:d.op=.call {callee:=.builtin .append,args:=#[l,x],argTypes:=#[79,79]}) (z:a.eval l=v) (hb:ie B m w v acc) (c:Int) (g:Nat) (D:a.eval x=.slice (some (g,0)) 1 1) (p:w.cell? (g,0)=some (.int .i64 c)) (hlen:acc.length+1<=1000000) (n:B<=w.heap.size)
 (h:∀f w',ie B m w' f (acc++[c])->w.heap.size<=w'.heap.size->wpList prog ops Q rest (a.put d.dst f) w'):wpList prog ops Q (d::rest) a w:=by
 obtain⟨F,r,E,A,o⟩:=info_parts lg;refine wpList_append_own w q l x 79 t B 3 F (.int .i64 0) 1 8 underlying79 r E A o rfl (by decide) v acc.length (q6 acc) z hb.own ⟨g,0,none⟩ 1 1 (q6 [c]) D rfl ?_ ?_ (by unfold maxLen;omega) (by omega) n ?_
 ·intro j u i
  match j,i with
  |0,i=>
   have:Value.int .i64 c=u:=(by simpa[q6]using i);subst this;simpa[Addr.add]using p
 ·intro u C
  have:u=Value.int .i64 c:=by simpa[q6]using C
  subst this;rfl
 intro f w' y b _;refine h f w' ⟨?_,?_⟩ b.size
 ·have e:q6 (acc++[c])=q6 acc++q6 [c]:=by unfold q6;simp
  rw[e,List.length_append];exact y
 ·exact⟨b.os.trans hb.below.os,b.tape.trans hb.below.tape,b.output.trans hb.below.output,Nat.le_trans hb.below.size b.size,fun k s=>(b.block k (by have:=hb.below.size;omega) (fun e=>by have:=(hb.own.lt k e.symm).1;omega)).trans (hb.below.block k s)⟩
theorem uR(op:Int)(w:World):Calls prog 133 #[op] w (CB (gD op) w):=by
 by_cases Q:op=1∨op=12∨op=15∨op=13∨op=14∨op=22∨op=43∨op=45
 ·rcases Q with rfl|rfl|rfl|rfl|rfl|rfl|rfl|rfl
  all_goals
   go_wp2
   go_ret;exact CB.lit (by decide) (by decide)
 ·have h:op≠1/\op≠12/\op≠15/\op≠13/\op≠14/\op≠22/\op≠43/\op≠45:=by omega
  have M:Hid (gD op=(if(AA op).1 then [0]else [])++(if oB op then [5]else if(AA op).2.1 then [1]else [])++(if(AA op).2.2.2.2.2.1 then [4]else if(AA op).2.2.1 then [2]else [])):=by
   show _=_
   unfold gD;rw[if_neg (by omega),if_neg (by omega),if_neg (by omega),if_neg (by omega),if_neg (by omega),if_neg (by omega)]
  have Y:(op==1)=false:=by rw[beq_eq_false_iff_ne];exact h.1
  have a0:(op==12)=false:=by rw[beq_eq_false_iff_ne];exact h.2.1
  have a1:(op==15)=false:=by rw[beq_eq_false_iff_ne];exact h.2.2.1
  have a2:(op==13)=false:=by rw[beq_eq_false_iff_ne];exact h.2.2.2.1
  have a3:(op==14)=false:=by rw[beq_eq_false_iff_ne];exact h.2.2.2.2.1
  have ab:(op==22)=false:=by rw[beq_eq_false_iff_ne];exact h.2.2.2.2.2.1
  have ad:(op==43)=false:=by rw[beq_eq_false_iff_ne];exact h.2.2.2.2.2.2.1
  have al:(op==45)=false:=by rw[beq_eq_false_iff_ne];exact h.2.2.2.2.2.2.2
  have D:=Z (fun w=>EG op w);have L:=Z (fun w=>uP op w);obtain⟨r,J⟩:=nm (gD op);obtain⟨F,H⟩:=nm (AA op);obtain⟨G,I⟩:∃F,oB op=F:=⟨_,rfl⟩;rw[J,H,I]at M;rw[J];rw[H]at D;rw[I]at L;clear H J I h Q;obtain⟨o,k,p,U,R,n,T,S⟩:=F;go_in
  go_wp2_with fail
  refine(D _).mono ?_;rintro e w1 ⟨rfl,hb⟩;have y:=Z hb;unfold Ha;clear Y a0 a1 a2 a3 ab ad al hb;go_upto_region 18 with fail
  obtain⟨C,u⟩:=mn w1.heap.size;obtain⟨c,x⟩:=mn (w1.alloc (.cells #[.bool o,.bool k,.bool p,.bool U,.bool R,.bool n,.bool T,.bool S] 313));rw[<-x,<-u];have A:Hid (Below w.heap.size w c):=by show Below _ w c;rw[x];exact y.alloc y.size _
  have v:c.heap[C]?=some (.cells #[.bool o,.bool k,.bool p,.bool U,.bool R,.bool n,.bool T,.bool S] 313 (0,0)):=by
   rw[x,u];exact hK
  have ap:c.heap.size=C+1:=by rw[x,u];simp
  have bx:w.heap.size<=C:=by rw[u];exact y.size
  have am:c.cell? (C,0)=some (.bool o):=m7 v;have V:Hid (c.cell? (C,1)=some (.bool k)):=m7 v;have W:Hid (c.cell? (C,2)=some (.bool p)):=m7 v;have X:Hid (c.cell? (C,5)=some (.bool n)):=m7 v;have B:C+1<=c.heap.size:=by omega
  clear v x u y D ap;have O:Hid (ie (C+1) c c (.slice none 0 0) []):=⟨World.ownsRow_nil _ _ _ _,Below.refl _ _⟩;obtain⟨g,m⟩:∃g:List Int,g=if o then [0]else []:=⟨_,rfl⟩
  have N:=Z m;go_upto_if 29 with fail
  go_cut [4] (fun s K=>Hid (ie (C+1) c K s g))
  case first=>
   cases o
   ·have b:Hid (g=[]):=m
    clear m;have a:Hid (ie (C+1) c c (.slice none 0 0) g):=(by show ie _ _ _ _ _;rw[b];exact O);clear b;go_wp2
    go_meet
    first|exact a|exact⟨a,rfl⟩
   ·have b:Hid (g=[]++[0]):=m
    have j:C+1<=c.heap.size:=B;have av:([]:List Int).length<=10:=(by decide);clear m;go_wp2_with (at_builtin;refine lh rfl _ _ rfl rfl (O.keep ((Below.refl _ _).alloc (Nat.le_refl _) _) j) 0 c.heap.size rfl ?_ (by omega) (by simp;omega) ?_)
    intro i w' d z;have a:Hid (ie (C+1) c w' i g):=(by show ie _ _ _ _ _;rw[b];exact d);clear d b;go_wp2
    go_meet
    first|exact a|exact⟨a,rfl⟩
  case rest=>
   clear m am;have q:=Z hcut;have av:g.length<=1:=(by rw[N];cases o<;>simp);clear hcut;obtain⟨f,P⟩:∃f:List Int,f=g++(if G then [5]else if k then [1]else []):=⟨_,rfl⟩;have t:=Z P;clear P;go_wp2_with fail
   refine(L _).mono ?_;rintro e w' ⟨rfl,rfl⟩;go_upto_if 34 with fail
   go_cut [4] (fun s K=>Hid (ie (C+1) c K s f))
   case first=>
    have ax:wc.cell? (C,1)=some (.bool k):=(fa q.below (by omega)).trans V;have j:C+1<=wc.heap.size:=(by have:=q.below.size;have:=B;omega);cases G
    ·cases k
     ·have b:Hid (f=g):=by show _=_;rw[t];simp
      have a:=q.out;rw[<-b]at a;clear b;go_wp2
      go_meet
      first|exact a|exact⟨a,rfl⟩
     ·have b:Hid (f=g++[1]):=t.out
      go_wp2_with (at_builtin;refine lh rfl _ _ rfl rfl (q.keep ((Below.refl _ _).alloc (Nat.le_refl _) _) j) 1 wc.heap.size rfl ?_ (by omega) (by simp;omega) ?_)
      intro i w' d z;have a:Hid (ie (C+1) c w' i f):=(by show ie _ _ _ _ _;rw[b];exact d);clear d b;go_wp2
      go_meet
      first|exact a|exact⟨a,rfl⟩
    ·have b:Hid (f=g++[5]):=t.out
     go_wp2_with (at_builtin;refine lh rfl _ _ rfl rfl (q.keep ((Below.refl _ _).alloc (Nat.le_refl _) _) j) 5 wc.heap.size rfl ?_ (by omega) (by simp;omega) ?_)
     intro i w' d z;have a:Hid (ie (C+1) c w' i f):=(by show ie _ _ _ _ _;rw[b];exact d);clear d b;go_wp2
     go_meet
     first|exact a|exact⟨a,rfl⟩
   case rest=>
    have l:=Z hcut;have bw:f.length<=2:=(by rw[t];simp;cases G<;>cases k<;>simp<;>omega);clear hcut;have E:Hid (r=f++(if n then [4]else if p then [2]else [])):=by
     show _=_
     rw[M,t,N]
    have bv:wc.cell? (C,5)=some (.bool n):=(fa l.below (by omega)).trans X;have bi:wc.cell? (C,2)=some (.bool p):=(fa l.below (by omega)).trans W;have j:C+1<=wc.heap.size:=(by have:=l.below.size;have:=B;omega);cases n
    ·cases p
     ·have b:Hid (r=f):=by show _=_;rw[E];simp
      have a:=l.out;rw[<-b]at a;clear b;go_wp2
      go_ret;exact⟨_,rfl,dS a.own (by omega),A.trans (a.below.mono (by omega))⟩
     ·have b:Hid (r=f++[2]):=E.out
      go_wp2_with (at_builtin;refine lh rfl _ _ rfl rfl (l.keep ((Below.refl _ _).alloc (Nat.le_refl _) _) j) 2 wc.heap.size rfl ?_ (by omega) (by simp;omega) ?_)
      intro i w' d z;have a:Hid (ie (C+1) c w' i r):=(by show ie _ _ _ _ _;rw[b];exact d);clear d b;go_wp2
      go_ret;exact⟨_,rfl,dS a.own (by omega),A.trans (a.below.mono (by omega))⟩
    ·have b:Hid (r=f++[4]):=E.out
     go_wp2_with (at_builtin;refine lh rfl _ _ rfl rfl (l.keep ((Below.refl _ _).alloc (Nat.le_refl _) _) j) 4 wc.heap.size rfl ?_ (by omega) (by simp;omega) ?_)
     intro i w' d z;have a:Hid (ie (C+1) c w' i r):=(by show ie _ _ _ _ _;rw[b];exact d);clear d b;go_wp2
     go_ret;exact⟨_,rfl,dS a.own (by omega),A.trans (a.below.mono (by omega))⟩
end Go.Proofs.YtfnilkpkogipfaaGreatDoor
