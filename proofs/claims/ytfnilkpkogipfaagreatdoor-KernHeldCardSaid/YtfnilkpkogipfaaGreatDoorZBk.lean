import Derived.Deep.RegionHeldLaw
import Derived.Test.YtfnilkpkogipfaaGreatDoorZBj
set_option linter.all false
set_option maxRecDepth 100000
set_option maxHeartbeats 8000000
namespace Go.Proofs.YtfnilkpkogipfaaGreatDoor
open Go.RowKit Go.Proofs.Tryz
theorem mN{w:World}{b i:Nat}{c:Array Value}{t:TypeId}(h:w.heap[b]?=some (.cells c t (0,0))):w.cell? (b,i)=c[i]?:=cell_of_row w b i _ _ _ h
theorem kN:(prog.info? 3).map (fun i=>(i.zero,i.size,i.bytes))=some (some (.int .i64 0),1,8):=by kernel_rfl
abbrev Ez:=Bool×Bool×Bool×Bool×Bool×Bool×Bool×Bool
def zF(op:Int):Ez:=
 if op=1 then(true,false,false,true,false,false,false,true)
 else if op=2∨op=23∨op=49∨op=50∨op=47∨op=39∨op=54 then(true,true,false,false,false,false,false,true)
 else if op=3∨op=4∨op=5∨op=6∨op=7∨op=8∨op=9∨op=10∨op=11 then(true,true,true,true,false,true,false,true)
 else if op=12∨op=15 then(false,false,false,true,false,false,true,true)
 else if op=13∨op=14 then(true,false,false,true,false,false,true,true)
 else if op=16∨op=33∨op=55∨op=56∨op=58 then(false,false,false,false,false,false,false,true)
 else if op=17∨op=18∨op=19∨op=20∨op=31 then(true,true,false,true,true,false,false,true)
 else if op=21∨op=32 then(true,true,true,true,true,false,false,true)
 else if op=22 then(false,false,false,true,false,false,false,true)
 else if op=43 then(true,true,false,true,true,false,false,true)
 else if op=45 then(true,true,false,true,false,false,false,true)
 else if op=24∨op=25∨op=26∨op=27∨op=48 then(true,true,true,false,false,false,false,true)
 else if op=28∨op=29∨op=30∨op=34∨op=35∨op=36∨op=37∨op=38∨op=40∨op=41∨op=42∨op=44∨op=46∨op=51∨op=52∨op=53∨op=57 then(true,false,false,false,false,false,false,true)
 else(false,false,false,false,false,false,false,false)
def Fm(p:Ez):Value:=.agg #[.bool p.1,.bool p.2.1,.bool p.2.2.1,.bool p.2.2.2.1,.bool p.2.2.2.2.1,.bool p.2.2.2.2.2.1,.bool p.2.2.2.2.2.2.1,.bool p.2.2.2.2.2.2.2]
def vl(p:Ez)(w:World)(e:Ending)(w':World):Prop:=e=.returned (Fm p)/\Below w.heap.size w w'
theorem vl.mk{p:Ez}{a b c d x y z i:Bool}{w w':World}(h:p=(a,b,c,d,x,y,z,i))(hb:Below w.heap.size w w'):vl p w (.returned (.agg #[.bool a,.bool b,.bool c,.bool d,.bool x,.bool y,.bool z,.bool i])) w':=by subst h;exact⟨rfl,hb⟩
set_option maxHeartbeats 16000000 in
theorem Dg(op:Int)(w:World):Calls prog 155 #[op] w (vl (zF op) w):=by
 go_enter func155,ntmps155
 go_wp2
 all_goals
  simp only[beq_iff_eq,beq_eq_false_iff_ne,ne_eq]at*;simp[bodyPost,results,Tryz.results155,go_sem];refine vl.mk ?_ ?_
  ·unfold zF
   repeat first
    |rfl
    |rw[if_pos (by omega)]
    |rw[if_neg (by omega)]
  ·repeat first
    |exact Below.refl _ _
    |refine Below.alloc ?_ (by simp) _
    |refine Below.setCell ?_ (by simp) _
def n7(op:Int):Bool:=decide (op=17∨op=18∨op=19∨op=20∨op=31∨op=21∨op=32)
theorem tY(op:Int)(w:World):Calls prog 156 #[op] w (j9 (n7 op) w):=by
 go_enter func156,ntmps156
 go_wp2
 all_goals
  go_ret;simp only[beq_iff_eq,beq_eq_false_iff_ne,ne_eq]at*;refine j9.mk ?_;unfold n7
  first
   |exact decide_eq_true (by omega)
   |exact decide_eq_false (by omega)
def b4:List ByteArray:=[⟨#[115,101,116]⟩,⟨#[109,111,118]⟩,⟨#[97,100,100]⟩,⟨#[115,117,98]⟩,⟨#[97,110,100]⟩,⟨#[111,114]⟩,⟨#[120,111,114]⟩,⟨#[115,104,108]⟩,⟨#[115,104,114]⟩,⟨#[101,113]⟩,⟨#[108,116]⟩,⟨#[106,109,112]⟩,⟨#[106,122]⟩,⟨#[106,110,122]⟩,⟨#[106,115,114]⟩,⟨#[114,101,116]⟩,⟨#[108,100]⟩,⟨#[115,116]⟩,⟨#[115,119,112]⟩,⟨#[102,97,100]⟩,⟨#[99,97,115]⟩,⟨#[99,97,108,108]⟩,⟨#[104,115,104]⟩,⟨#[113,112,116]⟩,⟨#[113,116,107]⟩,⟨#[113,109,118]⟩,⟨#[113,104,115]⟩,⟨#[115,108,112]⟩,⟨#[104,110,100]⟩,⟨#[112,105,107]⟩,⟨#[108,97,121]⟩,⟨#[116,97,107]⟩,⟨#[105,110,106]⟩,⟨#[105,106,116]⟩,⟨#[114,117,110]⟩,⟨#[112,114,107]⟩,⟨#[115,108,102]⟩,⟨#[119,114,107]⟩,⟨#[119,107,100]⟩,⟨#[119,107,110]⟩,⟨#[110,111,119]⟩,⟨#[100,114,119]⟩,⟨#[103,101,116]⟩,⟨#[102,114,101]⟩,⟨#[111,98,106]⟩,⟨#[100,101,108]⟩,⟨#[99,107,112]⟩,⟨#[116,110,119]⟩,⟨#[116,115,116]⟩,⟨#[116,104,109]⟩,⟨#[116,106,110]⟩,⟨#[116,100,116]⟩,⟨#[116,101,120]⟩,⟨#[116,114,112]⟩,⟨#[101,110,100]⟩,⟨#[121,108,100]⟩,⟨#[99,98,107]⟩,⟨#[102,105,110]⟩]
theorem tZ(w:World):Calls prog 132 #[] w fun e w'=>e=.returned (.slice (some (w.heap.size,0)) 58 58)/\Row w' w.heap.size 9 (b4.map Value.string)/\Ch ag w w':=by
 go_enter func132,ntmps132
 go_wp2
 go_ret;exact⟨rfl,Row.new w (b4.map Value.string).toArray _,(Ch.refl _ _).alloc _⟩
def gn(op:Int):List Int:=
 if op=1 then [0,8]else if op=12∨op=15 then [6]else if op=13∨op=14 then [0,6]else if op=22 then [7]else if op=43 then [0,3]else if op=45 then [0,1,7]
 else(if(zF op).1 then [0]else [])++(if n7 op then [5]else if(zF op).2.1 then [1]else [])++(if(zF op).2.2.2.2.2.1 then [4]else if(zF op).2.2.1 then [2]else [])
def By(l:List Int)(w:World)(e:Ending)(w':World):Prop:=∃v,e=.returned v/\w'.ownsRow w.heap.size 3 1 v l.length (l.map (Value.int .i64))/\Below w.heap.size w w'
theorem By.lit{l:List Int}{n:Nat}{w:World}(a:n=l.length)(b:l.length<=10):By l w (.returned (.slice (some (w.heap.size,0)) n n)) (w.alloc (.cells (l.map (Value.int .i64)).toArray 3)):=by
 subst a;refine⟨_,rfl,⟨by simp,Or.inr ⟨w.heap.size,l.length,_,rfl,Nat.le_refl _,hs,Nat.le_refl _,?_,by simp,?_⟩⟩,(Below.refl _ _).alloc (Nat.le_refl _) _⟩
 ·unfold maxLen;omega
 ·rw[List.take_of_length_le (by simp)]
theorem dM{w:World}{B d:Nat}{e:TypeId}{size n:Nat}{v:Value}{f:List Value}(h:w.ownsRow B e size v n f)(i:d<=B):w.ownsRow d e size v n f:=
 ⟨h.1,h.2.elim Or.inl fun⟨g,cap,cur,a,b,c⟩=>Or.inr ⟨g,cap,cur,a,Nat.le_trans i b,c⟩⟩
def qE(l:List Int):List Value:=l.map (Value.int .i64)
structure hR(B:Nat)(w0 w:World)(v:Value)(acc:List Int):Prop where
 own:w.ownsRow B 3 1 v acc.length (qE acc)
 below:Below B w0 w
theorem hR.keep{B:Nat}{a w w':World}{v:Value}{acc:List Int}(h:hR B a w v acc)(hb:Below w.heap.size w w')(b:B<=w.heap.size):hR B a w' v acc:=
 ⟨h.own.kept (row:=none) ⟨hb.os,hb.tape,hb.output,hb.size,fun k c _=>hb.block k c⟩ (by cases v.ownBlock<;>simp),h.below.trans (hb.mono b)⟩
theorem kO{ops:Array Oper}{rest:List Oper}{d:Oper}{a:Act}{Q:Exit->Act->World->Prop}{B:Nat}{m w:World}{v:Value}{acc:List Int}(q:d.guard=none)(l x:Operand)
 (t:d.op=.call {callee:=.builtin .append,args:=#[l,x],argTypes:=#[79,79]}) (z:a.eval l=v) (hb:hR B m w v acc) (c:Int) (g:Nat) (D:a.eval x=.slice (some (g,0)) 1 1) (p:w.cell? (g,0)=some (.int .i64 c)) (hlen:acc.length+1<=1000000) (n:B<=w.heap.size)
 (h:∀f w',hR B m w' f (acc++[c])->w.heap.size<=w'.heap.size->wpList prog ops Q rest (a.put d.dst f) w'):wpList prog ops Q (d::rest) a w:=by
 obtain⟨F,r,E,A,o⟩:=info_parts kN;refine wpList_append_own w q l x 79 t B 3 F (.int .i64 0) 1 8 underlying79 r E A o rfl (by decide) v acc.length (qE acc) z hb.own ⟨g,0,none⟩ 1 1 (qE [c]) D rfl ?_ ?_ (by unfold maxLen;omega) (by omega) n ?_
 ·intro j u i
  match j,i with
  |0,i=>
   have:Value.int .i64 c=u:=by simpa[qE]using i
   subst this;simpa[Addr.add]using p
 ·intro u C
  have:u=Value.int .i64 c:=by simpa[qE]using C
  subst this;rfl
 intro f w' y b _;refine h f w' ⟨?_,?_⟩ b.size
 ·have e:qE (acc++[c])=qE acc++qE [c]:=by unfold qE;simp
  rw[e,List.length_append];exact y
 ·exact⟨b.os.trans hb.below.os,b.tape.trans hb.below.tape,b.output.trans hb.below.output,Nat.le_trans hb.below.size b.size,fun k s=>(b.block k (by have:=hb.below.size;omega) (fun e=>by have:=(hb.own.lt k e.symm).1;omega)).trans (hb.below.block k s)⟩
theorem t'(op:Int)(w:World):Calls prog 133 #[op] w (By (gn op) w):=by
 by_cases Q:op=1∨op=12∨op=15∨op=13∨op=14∨op=22∨op=43∨op=45
 ·rcases Q with rfl|rfl|rfl|rfl|rfl|rfl|rfl|rfl
  all_goals
   go_enter func133,ntmps133
   go_wp2
   go_ret;exact By.lit (by decide) (by decide)
 ·have h:op≠1/\op≠12/\op≠15/\op≠13/\op≠14/\op≠22/\op≠43/\op≠45:=by omega
  have M:Hid (gn op=(if(zF op).1 then [0]else [])++(if n7 op then [5]else if(zF op).2.1 then [1]else [])++(if(zF op).2.2.2.2.2.1 then [4]else if(zF op).2.2.1 then [2]else [])):=by
   show _=_
   unfold gn;rw[if_neg (by omega),if_neg (by omega),if_neg (by omega),if_neg (by omega),if_neg (by omega),if_neg (by omega)]
  have Y:(op==1)=false:=by rw[beq_eq_false_iff_ne];exact h.1
  have a0:(op==12)=false:=by rw[beq_eq_false_iff_ne];exact h.2.1
  have a1:(op==15)=false:=by rw[beq_eq_false_iff_ne];exact h.2.2.1
  have a2:(op==13)=false:=by rw[beq_eq_false_iff_ne];exact h.2.2.2.1
  have a3:(op==14)=false:=by rw[beq_eq_false_iff_ne];exact h.2.2.2.2.1
  have ab:(op==22)=false:=by rw[beq_eq_false_iff_ne];exact h.2.2.2.2.2.1
  have ad:(op==43)=false:=by rw[beq_eq_false_iff_ne];exact h.2.2.2.2.2.2.1
  have al:(op==45)=false:=by rw[beq_eq_false_iff_ne];exact h.2.2.2.2.2.2.2
  have D:=Z (fun w=>Dg op w);have L:=Z (fun w=>tY op w);obtain⟨r,J⟩:=nm (gn op);obtain⟨F,H⟩:=nm (zF op);obtain⟨G,I⟩:∃F,n7 op=F:=⟨_,rfl⟩;rw[J,H,I]at M;rw[J];rw[H]at D;rw[I]at L;clear H J I h Q;obtain⟨o,k,p,U,R,n,T,S⟩:=F;go_enter func133,ntmps133
  go_wp2_with fail
  refine(D _).mono ?_;rintro e w1 ⟨rfl,hb⟩;have y:=Z hb;unfold Fm;clear Y a0 a1 a2 a3 ab ad al hb;go_upto_region 18 with fail
  obtain⟨C,u⟩:=mn w1.heap.size;obtain⟨c,x⟩:=mn (w1.alloc (.cells #[.bool o,.bool k,.bool p,.bool U,.bool R,.bool n,.bool T,.bool S] 313));rw[<-x,<-u];have A:Hid (Below w.heap.size w c):=by show Below _ w c;rw[x];exact y.alloc y.size _
  have v:c.heap[C]?=some (.cells #[.bool o,.bool k,.bool p,.bool U,.bool R,.bool n,.bool T,.bool S] 313 (0,0)):=by
   rw[x,u];exact hs
  have ap:c.heap.size=C+1:=by rw[x,u];simp
  have c1:w.heap.size<=C:=by rw[u];exact y.size
  have am:c.cell? (C,0)=some (.bool o):=mN v;have V:Hid (c.cell? (C,1)=some (.bool k)):=mN v;have W:Hid (c.cell? (C,2)=some (.bool p)):=mN v;have X:Hid (c.cell? (C,5)=some (.bool n)):=mN v;have B:C+1<=c.heap.size:=by omega
  clear v x u y D ap;have O:Hid (hR (C+1) c c (.slice none 0 0) []):=⟨World.ownsRow_nil _ _ _ _,Below.refl _ _⟩;obtain⟨g,m⟩:∃g:List Int,g=if o then [0]else []:=⟨_,rfl⟩
  have N:=Z m;go_upto_if 29 with fail
  go_cut [4] (fun s K=>Hid (hR (C+1) c K s g))
  case first=>
   cases o
   ·have b:Hid (g=[]):=m
    clear m;have a:Hid (hR (C+1) c c (.slice none 0 0) g):=by show hR _ _ _ _ _;rw[b];exact O
    clear b;go_wp2
    go_meet
    first|exact a|exact⟨a,rfl⟩
   ·have b:Hid (g=[]++[0]):=m
    have j:C+1<=c.heap.size:=B;have av:([]:List Int).length<=10:=by decide
    clear m;go_wp2_with (at_builtin;refine kO rfl _ _ rfl rfl (O.keep ((Below.refl _ _).alloc (Nat.le_refl _) _) j) 0 c.heap.size rfl ?_ (by omega) (by simp;omega) ?_)
    intro i w' d z;have a:Hid (hR (C+1) c w' i g):=by show hR _ _ _ _ _;rw[b];exact d
    clear d b;go_wp2
    go_meet
    first|exact a|exact⟨a,rfl⟩
  case rest=>
   clear m am;have q:=Z hcut;have av:g.length<=1:=by rw[N];cases o<;>simp
   clear hcut;obtain⟨f,P⟩:∃f:List Int,f=g++(if G then [5]else if k then [1]else []):=⟨_,rfl⟩;have t:=Z P;clear P;go_wp2_with fail
   refine(L _).mono ?_;rintro e w' ⟨rfl,rfl⟩;go_upto_if 34 with fail
   go_cut [4] (fun s K=>Hid (hR (C+1) c K s f))
   case first=>
    have bi:wc.cell? (C,1)=some (.bool k):=(e4 q.below (by omega)).trans V;have j:C+1<=wc.heap.size:=by have:=q.below.size;have:=B;omega
    cases G
    ·cases k
     ·have b:Hid (f=g):=by show _=_;rw[t];simp
      have a:=q.out;rw[<-b]at a;clear b;go_wp2
      go_meet
      first|exact a|exact⟨a,rfl⟩
     ·have b:Hid (f=g++[1]):=t.out
      go_wp2_with (at_builtin;refine kO rfl _ _ rfl rfl (q.keep ((Below.refl _ _).alloc (Nat.le_refl _) _) j) 1 wc.heap.size rfl ?_ (by omega) (by simp;omega) ?_)
      intro i w' d z;have a:Hid (hR (C+1) c w' i f):=by show hR _ _ _ _ _;rw[b];exact d
      clear d b;go_wp2
      go_meet
      first|exact a|exact⟨a,rfl⟩
    ·have b:Hid (f=g++[5]):=t.out
     go_wp2_with (at_builtin;refine kO rfl _ _ rfl rfl (q.keep ((Below.refl _ _).alloc (Nat.le_refl _) _) j) 5 wc.heap.size rfl ?_ (by omega) (by simp;omega) ?_)
     intro i w' d z;have a:Hid (hR (C+1) c w' i f):=by show hR _ _ _ _ _;rw[b];exact d
     clear d b;go_wp2
     go_meet
     first|exact a|exact⟨a,rfl⟩
   case rest=>
    have l:=Z hcut;have c0:f.length<=2:=by rw[t];simp;cases G<;>cases k<;>simp<;>omega
    clear hcut;have E:Hid (r=f++(if n then [4]else if p then [2]else [])):=by
     show _=_
     rw[M,t,N]
    have bw:wc.cell? (C,5)=some (.bool n):=(e4 l.below (by omega)).trans X;have bv:wc.cell? (C,2)=some (.bool p):=(e4 l.below (by omega)).trans W;have j:C+1<=wc.heap.size:=by have:=l.below.size;have:=B;omega
    cases n
    ·cases p
     ·have b:Hid (r=f):=by show _=_;rw[E];simp
      have a:=l.out;rw[<-b]at a;clear b;go_wp2
      go_ret;exact⟨_,rfl,dM a.own (by omega),A.trans (a.below.mono (by omega))⟩
     ·have b:Hid (r=f++[2]):=E.out
      go_wp2_with (at_builtin;refine kO rfl _ _ rfl rfl (l.keep ((Below.refl _ _).alloc (Nat.le_refl _) _) j) 2 wc.heap.size rfl ?_ (by omega) (by simp;omega) ?_)
      intro i w' d z;have a:Hid (hR (C+1) c w' i r):=by show hR _ _ _ _ _;rw[b];exact d
      clear d b;go_wp2
      go_ret;exact⟨_,rfl,dM a.own (by omega),A.trans (a.below.mono (by omega))⟩
    ·have b:Hid (r=f++[4]):=E.out
     go_wp2_with (at_builtin;refine kO rfl _ _ rfl rfl (l.keep ((Below.refl _ _).alloc (Nat.le_refl _) _) j) 4 wc.heap.size rfl ?_ (by omega) (by simp;omega) ?_)
     intro i w' d z;have a:Hid (hR (C+1) c w' i r):=by show hR _ _ _ _ _;rw[b];exact d
     clear d b;go_wp2
     go_ret;exact⟨_,rfl,dM a.own (by omega),A.trans (a.below.mono (by omega))⟩
def cM:List (ByteArray×Int)->ByteArray->Option Int
 |[],_=>none
 |b::l,n=>if(b.1.data.toList==n.data.toList)=true then some b.2 else cM l n
def qF:Option Int->Int×Bool
 |none=>(0,false)
 |some v=>(v,true)
theorem hS(b:ByteArray×Int):(oK b).length=2:=rfl
theorem xl(l:List (ByteArray×Int))(n:ByteArray)(v:Value)(B:Nat)(w:World)(h:w.ownsRow B 238 2 v l.length (l.flatMap oK))(G:l.length<=1000000):
 Calls prog 82 #[v,.string n] w (xN .i64 (qF (cM l n)) w):=by
 have C:=Z h;obtain⟨a,c,rfl⟩:=aA h;have z:Hid (∀(k:Nat) (b:k<l.length),∃g,a=some ⟨g,0,none⟩/\l.length<=c/\w.cell? ⟨g,k*2,none⟩=some (.string l[k].1)/\w.cell? ⟨g,k*2+1,none⟩=some (.int .i64 l[k].2)):=Z (fun k b=>by
  obtain⟨g,cap,K,F,I,q,J,s,_⟩:=aS C (by omega);obtain⟨rfl,rfl⟩:a=some ⟨g,0,none⟩/\c=cap:=by injection F with D _ E;exact⟨D,E⟩
  have u:l[k]?=some l[k]:=List.getElem?_eq_getElem b;refine⟨g,rfl,q,?_,?_⟩
  ·refine s.cell ?_
   rw[List.getElem?_append_left (by rw[a7 hS];omega)];exact(bP hS u (j:=0) (by omega)).trans rfl
  ·refine s.cell ?_
   rw[List.getElem?_append_left (by rw[a7 hS];omega)];exact(bP hS u (j:=1) (by omega)).trans rfl)
 clear h;obtain⟨N,p⟩:=mn l.length;have o:=Z p;rw[<-p]at G⊢;have A:Hid (∀k,k<N->∃(b:k<l.length),True):=Z (fun k b=>⟨by rw[<-o];exact b,trivial⟩);clear p;go_enter func82,ntmps82
 go_wp2_with fail
 go_loopw [6] (fun i wr=>∃(k m:Nat),k<=N/\i=.int .i64 k/\wr=w.drewN m/\Hid (cM (l.drop k) n=cM l n)) (fun i _=>N-(intOf i).toNat)
 case atStart=>exact⟨0,0,by omega,rfl,rfl,rfl⟩
 case round=>
  obtain⟨k,m,b,rfl,rfl,f⟩:=hrel;by_cases H:k<N
  ·obtain⟨r,_⟩:=A k H
   obtain⟨g,rfl,q,x0,x1⟩:=z k r;have e:Hid (l.drop k=l[k]::l.drop (k+1)):=Z (List.drop_eq_getElem_cons r);obtain⟨y,x⟩:=nm (l[k]);rw[x]at x0 x1 e;clear x;have y0:(w.drewN m).cell? ⟨g,k*2,none⟩=some (.string y.1):=x0;have L:(w.drewN m).cell? ⟨g,k*2+1,none⟩=some (.int .i64 y.2):=x1;rw[<-o]at q;clear x0 x1;cases t:(y.1.toList==n.toList)with
   |true=>
    have d:Hid (cM l n=some y.2):=Z (by
     rw[<-f,e,cM,if_pos (by rw[<-ByteArray.toList_eq,<-ByteArray.toList_eq];exact t)])
    go_wp2
    go_ret2;exact⟨by rw[d];rfl,m,rfl⟩
   |false=>
    have d:Hid (cM (l.drop (k+1)) n=cM l n):=Z (by
     rw[<-f,e,cM,if_neg (by rw[<-ByteArray.toList_eq,<-ByteArray.toList_eq,t];decide)])
    go_wp2
    go_roundw
    case rel=>exact⟨k+1,m,by omega,by go_num,rfl,d⟩
    case measure=>simp[intOf];omega
  ·have d:Hid (cM l n=none):=Z (by
    rw[<-f,List.drop_of_length_le (by have:=o.out;omega)];rfl)
   go_wp2
   go_ret2;exact⟨by rw[d];rfl,m,rfl⟩
theorem Bz:(prog.info? 238).map (fun i=>(i.zero,i.size,i.bytes))=some (some (.agg #[.string ByteArray.empty,.int .i64 0]),2,24):=by kernel_rfl
theorem n5.Dh{w w1:World}{B p F:Nat}{r i x z a:Value}{S:gm}(h:n5 w B p F r i x z S)(I:B<=w.heap.size)(y:ByteArray×Int)
 (H:w1.ownsRow B 238 2 a (S.labels.length+1) (S.labels.flatMap oK++oK y)) (l:w.grownBy w1 i.ownBlock):
 dD (w1.setCell (p,1) a) B p p {S with labels:=S.labels++[y]}/\Below B w (w1.setCell (p,1) a):=by
 have c:=j3 (p:=p) (j:=1) (u:=a) l;have J:∀{k:Nat} {cs:Array Value} {t:TypeId} {f:Nat×Nat},w.heap[k]?=some (.cells cs t f)->t≠232->t≠238->¬vk p i k:=fun m b d C=>by
  rcases C with rfl|C
  ·exact b (eD h.row m)
  ·exact bh h.labels m d C
 have K:∀{e:TypeId} {s:Nat} {v:Value} {n:Nat} {A:List Value},w.ownsRow B e s v n A->e≠232->e≠238->∀g,v.ownBlock=some g->¬vk p i g:=fun o b d g l=>by
  obtain⟨_,cs,m⟩:=bJ o l;exact J m b d
 have D:Row w1 p 232 [r,i,x,z,.int .i64 S.line]:=by
  unfold Row;rw[l.block p h.row.lt (fun e=>bh h.labels h.row (by decide) e.symm)];exact h.row
 have G:(w1.setCell (p,1) a).ownsRow B 238 2 a (S.labels++[y]).length ((S.labels++[y]).flatMap oK):=by
  have:=dL (j:=1) (u:=a) H D (by decide);rw[List.flatMap_append,List.length_append];simpa using this
 have E:Row (w1.setCell (p,1) a) p 232 [r,a,x,z,.int .i64 S.line]:=D.a' _ _ rfl;have q:∀{e:TypeId} {s:Nat} {v:Value} {n:Nat} {A:List Value},w.ownsRow B e s v n A->e≠232->e≠238->(w1.setCell (p,1) a).ownsRow B e s v n A:=fun o b d=>ar o c (K o b d)
 exact⟨⟨r,a,x,z,E,h.hB,q h.code (by decide) (by decide),bh (q h.code (by decide) (by decide)) E (by decide),G,q h.lines (by decide) (by decide),q h.bp (by decide) (by decide)⟩,fS c h.labels h.hB I⟩
theorem n5.BA{w w1:World}{B p F:Nat}{r x i z a:Value}{S:gm}(h:n5 w B p F r x i z S)(I:B<=w.heap.size)(y:Int)
 (H:w1.ownsRow B 3 1 a (S.lines.length+1) (S.lines.flatMap iu++iu y)) (l:w.grownBy w1 i.ownBlock):
 dD (w1.setCell (p,2) a) B p p {S with lines:=S.lines++[y]}/\Below B w (w1.setCell (p,2) a):=by
 have c:=j3 (p:=p) (j:=2) (u:=a) l;have J:∀{k:Nat} {cs:Array Value} {t:TypeId} {f:Nat×Nat},w.heap[k]?=some (.cells cs t f)->t≠232->t≠3->¬vk p i k:=fun m b d C=>by
  rcases C with rfl|C
  ·exact b (eD h.row m)
  ·exact bh h.lines m d C
 have K:∀{e:TypeId} {s:Nat} {v:Value} {n:Nat} {A:List Value},w.ownsRow B e s v n A->e≠232->e≠3->∀g,v.ownBlock=some g->¬vk p i g:=fun o b d g l=>by
  obtain⟨_,cs,m⟩:=bJ o l;exact J m b d
 have D:Row w1 p 232 [r,x,i,z,.int .i64 S.line]:=by
  unfold Row;rw[l.block p h.row.lt (fun e=>bh h.lines h.row (by decide) e.symm)];exact h.row
 have G:(w1.setCell (p,2) a).ownsRow B 3 1 a (S.lines++[y]).length ((S.lines++[y]).flatMap iu):=by
  have:=dL (j:=2) (u:=a) H D (by decide);rw[List.flatMap_append,List.length_append];simpa using this
 have E:Row (w1.setCell (p,2) a) p 232 [r,x,a,z,.int .i64 S.line]:=D.a' _ _ rfl;have q:∀{e:TypeId} {s:Nat} {v:Value} {n:Nat} {A:List Value},w.ownsRow B e s v n A->e≠232->e≠3->(w1.setCell (p,2) a).ownsRow B e s v n A:=fun o b d=>ar o c (K o b d)
 exact⟨⟨r,x,a,z,E,h.hB,q h.code (by decide) (by decide),bh (q h.code (by decide) (by decide)) E (by decide),q h.labels (by decide) (by decide),G,q h.bp (by decide) (by decide)⟩,fS c h.lines h.hB I⟩
theorem n5.iv{w w1:World}{B p G:Nat}{i r x z a:Value}{S:gm}(h:n5 w B p G i r x z S)(I:B<=w.heap.size)(y:aV)
 (H:w1.ownsRow B 121 7 a (S.code.length+1) (S.code.flatMap dg++dg y)) (l:w.grownBy w1 i.ownBlock):
 dD (w1.setCell (p,0) a) B p p {S with code:=S.code++[y]}/\Below B w (w1.setCell (p,0) a):=by
 have c:=j3 (p:=p) (j:=0) (u:=a) l;have J:∀{k:Nat} {cs:Array Value} {t:TypeId} {f:Nat×Nat},w.heap[k]?=some (.cells cs t f)->t≠232->t≠121->¬vk p i k:=fun m b d C=>by
  rcases C with rfl|C
  ·exact b (eD h.row m)
  ·exact bh h.code m d C
 have K:∀{e:TypeId} {s:Nat} {v:Value} {n:Nat} {A:List Value},w.ownsRow B e s v n A->e≠232->e≠121->∀g,v.ownBlock=some g->¬vk p i g:=fun o b d g l=>by
  obtain⟨_,cs,m⟩:=bJ o l;exact J m b d
 have E:Row w1 p 232 [i,r,x,z,.int .i64 S.line]:=by
  unfold Row;rw[l.block p h.row.lt (fun e=>bh h.code h.row (by decide) e.symm)];exact h.row
 have D:(w1.setCell (p,0) a).ownsRow B 121 7 a (S.code++[y]).length ((S.code++[y]).flatMap dg):=by
  have:=dL (j:=0) (u:=a) H E (by decide);rw[List.flatMap_append,List.length_append];simpa using this
 have F:Row (w1.setCell (p,0) a) p 232 [a,r,x,z,.int .i64 S.line]:=E.a' _ _ rfl;have q:∀{e:TypeId} {s:Nat} {v:Value} {n:Nat} {A:List Value},w.ownsRow B e s v n A->e≠232->e≠121->(w1.setCell (p,0) a).ownsRow B e s v n A:=fun o b d=>ar o c (K o b d)
 exact⟨⟨a,r,x,z,F,h.hB,D,bh D F (by decide),q h.labels (by decide) (by decide),q h.lines (by decide) (by decide),q h.bp (by decide) (by decide)⟩,fS c h.code h.hB I⟩
def n9(S:gm)(B p:Nat)(w:World)(e:Ending)(w':World):Prop:=e=.returned (.pointer none)/\dD w' B p p S/\Below B w w'
def dY(w:World)(g:Nat)(l:List ByteArray):Prop:=∃a,Row w g 9 (l.map Value.string++a)
theorem dY.cell{w:World}{g:Nat}{l:List ByteArray}(h:dY w g l){k:Nat}{x:ByteArray}(a:l[k]?=some x):w.cell? (g,k)=some (.string x):=by
 obtain⟨b,h⟩:=h;refine h.cell ?_;rw[List.getElem?_append_left (by rw[List.length_map];exact(List.getElem?_eq_some_iff.1 a).1),List.getElem?_map,a];rfl
theorem dY.af{w w':World}{g:Nat}{l:List ByteArray}(h:dY w g l)(c:Ch ag w w'):dY w' g l:=by
 obtain⟨a,h⟩:=h;exact⟨a,h.ch c (fun e=>e)⟩
theorem g4(l:List (ByteArray×Int))(n:ByteArray)(r:Int×Bool)(b:qF (cM l n)=r)(v:Value)(B:Nat)(w:World)(h:w.ownsRow B 238 2 v l.length (l.flatMap oK))(a:l.length<=1000000):
 Calls prog 82 #[v,.string n] w (xN .i64 r w):=by rw[<-b];exact xl l n v B w h a
theorem ua(b n:ByteArray)(M:b.extract 0 (b.size-1)=n)(cL:1<=b.size)(cQ:b.size<=65536)(H:b3 b (b.size-1)=58)(g cap B p:Nat)(S:gm)(w:World)(P:dY w g [b])(cS:1<=cap)(c7:dD w B p p S)(bi:B<=w.heap.size)
 (N:fR n=true) (J:cM S.labels n=none) (x:S.labels.length<=1000000) (V:S.lines.length<=1000000):
 Calls prog 104 #[(p,0),.slice (some (g,0)) 1 cap] w (n9 {S with labels:=S.labels++[(n,(S.code.length:Int))],lines:=S.lines++[S.line]} B p w):=by
 have p1:b.size-1<b.size:=by omega
 have ab:((b[b.size-1].toNat:Int)==58)=true:=by rw[b6,beq_iff_eq];exact H
 have t0:w.cell? (g,0)=some (.string b):=P.cell rfl;have O:n.size<=maxLen:=by rw[<-M];unfold maxLen;simp;omega
 have a2:=Z (j5 n O true N);have Y:=Z (fun v w h=>g4 S.labels n (0,false) (by rw[J];rfl) v B w h x);obtain⟨dr,i,ec,en,a⟩:=c7;have y:=Z a;have m:w.cell? (p,1)=some i:=a.row.cell rfl;have c0:=Z x;have c1:=Z V;clear a P N J O H x V;go_enter func104,ntmps104
 go_wp2_with (first|(go_at_call 82;(with_reducible refine(Y.out _ _ ?_).mono ?_);exact y.out.labels;rintro e w' ⟨rfl,cf,rfl⟩)|(go_at_call 130;(with_reducible refine(a2.out _).mono ?_);rintro e w' ⟨rfl,ch,rfl⟩))
 obtain⟨w1,s⟩:=nm (w.drewN (cf+ch));have o:=Z (Ch.dN (D:=ag) s);rw[s];clear s m t0 ab M;have a:=y.af o;have a3:=Z a;obtain⟨A,C,I⟩:=aA a.code;have X:=Z I;have W:w1.cell? (p,0)=some (.slice A S.code.length C):=by rw[<-X];exact a.row.cell rfl
 have m:w1.cell? (p,1)=some i:=a.row.cell rfl;have E:=a.row.free 1;have k:=a.row.lt;have l:i.ownBlock≠some p:=bh a.labels a.row (by decide);have F:=a.labels;have ap:B<=w1.heap.size:=by have:=o.size;omega
 obtain⟨cd,K,R,T,U⟩:=info_parts Bz;have a0:=Z K;have c2:=c0.out;clear a I K;go_cut [] (fun wc=>dD wc B p p {S with labels:=S.labels++[(n,(S.code.length:Int))]}/\Below B w1 wc)
 case first=>
  go_region_law (first|(refine step_append_lies _ (by rfl) _ _ _ (by rfl) B 238 cd _ 2 24 underlying151 a0 R T U rfl (by omega) i S.labels.length (S.labels.flatMap oK) (by rfl) ((F.alloc _).drew) ⟨w1.heap.size,0,none⟩ 1 1 [.string n,.int .i64 S.code.length] (by rfl) (by rfl) (World.news_of_block (cs:=#[.string n,.int .i64 S.code.length]) (t:=238) (fr:=(0,0)) (heap_alloc_new w1 _)) (by simp[Value.oneCell']) (by omega) (by unfold maxLen;omega) (by omega) (by simp;omega) (w1.heap.size+1) (by simp) ?_;intro am ad w2 c4 d bw c3;have cA:w2.cell? (p,1)=some i:=(d.cell_far ⟨p,1,none⟩ (by simp;omega) (Ne.symm l)).trans (by simp[go_sem,World.cell?_alloc_past,k,m]);have cC:w2.frozen? (p,1)=false:=(d.frozen_far ⟨p,1,none⟩ (by simp;omega) (Ne.symm l)).trans (by simp[go_sem,World.frozen?_alloc_past,k,E]);have cl:w2.cell? (p,0)=some (.slice A S.code.length C):=(d.cell_far ⟨p,0,none⟩ (by simp;omega) (Ne.symm l)).trans (by simp[go_sem,World.cell?_alloc_past,k,W])))
  all_goals
   go_wp2_with fail
   go_meet
   exact a3.Dh ap (n,(S.code.length:Int)) c4 (ax (cO d))
 case rest=>
  obtain⟨c6,G⟩:=hcut;have q:=Z G;obtain⟨dC,dN,j,es,c⟩:=c6;have z:=Z c;obtain⟨f,Q⟩:=nm wc;rw[Q]at z q c⊢;have ci:f.cell? (p,2)=some j:=c.row.cell rfl;have ck:f.cell? (p,4)=some (.int .i64 S.line):=c.row.cell rfl;have al:=c.row.free 2;have r:=c.row.lt;have u:j.ownBlock≠some p:=bh c.lines c.row (by decide);have bv:f.ownsRow B 3 1 j S.lines.length (S.lines.flatMap iu):=c.lines;have av:B<=f.heap.size:=by have:=q.size;omega
  obtain⟨ce,L,c8,c9,cb⟩:=info_parts kN;have a1:=Z L;have cW:=c1.out;clear c L W m E k l F R T U c2 G;clear Q;go_wp2_with fail
  go_region_law (first|(refine step_append_lies _ (by rfl) _ _ _ (by rfl) B 3 ce _ 1 8 underlying79 a1 c8 c9 cb rfl (by omega) j S.lines.length (S.lines.flatMap iu) (by rfl) ((bv.alloc _).drew) ⟨f.heap.size,0,none⟩ 1 1 [.int .i64 S.line] (by rfl) (by rfl) (World.news_of_block (cs:=#[.int .i64 S.line]) (t:=3) (fr:=(0,0)) (heap_alloc_new f _)) (by simp[Value.oneCell']) (by omega) (by unfold maxLen;omega) (by omega) (by simp;omega) (f.heap.size+1) (by simp) ?_;intro am ad w4 c5 d bw c3;have cA:w4.cell? (p,2)=some j:=(d.cell_far ⟨p,2,none⟩ (by simp;omega) (Ne.symm u)).trans (by simp[go_sem,World.cell?_alloc_past,r,ci]);have cC:w4.frozen? (p,2)=false:=(d.frozen_far ⟨p,2,none⟩ (by simp;omega) (Ne.symm u)).trans (by simp[go_sem,World.frozen?_alloc_past,r,al]);have cl:w4.cell? (p,4)=some (.int .i64 S.line):=(d.cell_far ⟨p,4,none⟩ (by simp;omega) (Ne.symm u)).trans (by simp[go_sem,World.cell?_alloc_past,r,ck])))
  all_goals
   go_wp2_with fail
   go_ret;obtain⟨cm,cq⟩:=z.BA av S.line c5 (ax (cO d));exact⟨rfl,cm,((o.below bi (fun _ hb=>False.elim hb)).trans q).trans cq⟩
def iJ(w:ByteArray):List ByteArray->Int->Int->Int
 |[],_,x=>x
 |n::l,i,x=>iJ w l (i+1) (if(n.data.toList==w.data.toList)=true then 1+i else x)
def BB(op:Int):aV:=⟨op,0,0,0,0,0,0⟩
def iw:List Int->List ByteArray->gm->aV->Option (gm×aV)
 |[],_,S,X=>some (S,X)
 |_::_,[],_,_=>none
 |k::c,s::l,S,X=>match sn k s S X with|none=>none|some (a,b)=>iw c l a b
def qG(a:List Int)(l:List ByteArray):Bool:=decide (l.length=a.length+2)&&(b3 (l.getD (l.length-1) ByteArray.empty) 0==33)
def vm(b:List Int)(l:List ByteArray):Option (gm×aV)->Option gm
 |none=>none
 |some (S,X)=>if qG b l=true then(qC (l.getD (l.length-1) ByteArray.empty) X).map fun a=>{S with code:=S.code++[a]}else some {S with code:=S.code++[X]}
def pq(S:gm)(l:List ByteArray)(op:Int):Option gm:=
 if op=0 then none
 else if l.length=(gn op).length+1∨qG (gn op) l=true then vm (gn op) l (iw (gn op) (l.drop 1) S (BB op))else none
def sq(S:gm)(n:ByteArray):Option gm:=
 if fR n=true/\cM S.labels n=none then some {S with labels:=S.labels++[(n,(S.code.length:Int))],lines:=S.lines++[S.line]}else none
def lK(S:gm):List ByteArray->Option gm
 |[]=>none
 |w::l=>if b3 w (w.size-1)=58/\l.length=0 then sq S (w.extract 0 (w.size-1))else pq S (w::l) (iJ w b4 0 0)
theorem kP:b4.length=58:=by decide+kernel
theorem n5.ub{w w':World}{B p b:Nat}{d f i j:Value}{S:gm}(h:n5 w B p p d f i j S)(c:Ch ag w w')(l:w.heap.size<=b):n5 w' B p b d f i j S:=
 ⟨h.row.ch c (fun e=>e),h.hB,ar h.code c (fun g a e=>e),fun e=>by obtain⟨_,_,k⟩:=bJ h.code e;have:=(Array.getElem?_eq_some_iff.1 k).1;omega,ar h.labels c (fun g a e=>e),ar h.lines c (fun g a e=>e),ar h.bp c (fun g a e=>e)⟩
theorem dD.ub{w w':World}{B p a:Nat}{S:gm}(h:dD w B p p S)(c:Ch ag w w')(b:w.heap.size<=a):dD w' B p a S:=by
 obtain⟨d,e,f,g,h⟩:=h;exact⟨d,e,f,g,h.ub c b⟩
theorem dY.keep{w w':World}{g:Nat}{l:List ByteArray}(h:dY w g l)(k:g7 w w'):dY w' g l:=by
 obtain⟨a,h⟩:=h;exact⟨a,k.row h (by decide) (by decide) (by decide)⟩
theorem ao.Di{w:World}{b:Nat}{X:aV}(h:ao w b X)(n:Int):ao (w.setCell (b,0) (.int .i64 n)) b {X with op:=n}:=Row.a' h _ _ rfl
theorem zG{w w':World}{a:Nat}{X:aV}(g:ao w a X)(c:Ch (aK a) w w'):g7 w w':=
 g7.fa c (fun k x t f d b=>by have e:k=a:=d;subst e;exact Or.inr (Or.inl (eD g b)))
theorem zH(op:Int):∀k∈gn op,0<=k/\k<=8:=by
 intro k a;unfold gn at a;have e:∀{b:Bool} {x:Int},k∈(if b=true then [x]else [])->k=x:=fun {b x} h=>by
  cases b<;>simp at h;exact h
 split at a
 ·simp at a;omega
 ·split at a
  ·simp at a;omega
  ·split at a
   ·simp at a;omega
   ·split at a
    ·simp at a;omega
    ·split at a
     ·simp at a;omega
     ·split at a
      ·simp at a;omega
      ·rcases List.mem_append.1 a with h|h
       ·rcases List.mem_append.1 h with h|h
        ·have:=e h;omega
        ·split at h
         ·simp at h;omega
         ·have:=e h;omega
       ·split at h
        ·simp at h;omega
        ·have:=e h;omega
theorem pr(op:Int):(gn op).length<=3:=by
 unfold gn
 repeat' split
 all_goals simp
theorem mj{k:Int}{d:List Int}{l:List ByteArray}{S:gm}{X:aV}{r:gm×aV}(h:iw (k::d) l S X=some r):∃s l' a b,l=s::l'/\sn k s S X=some (a,b)/\iw d l' a b=some r:=by
 cases l with
 |nil=>cases h
 |cons s l'=>
  unfold iw at h;cases c:sn k s S X with
  |none=>rw[c]at h;cases h
  |some p=>
   obtain⟨a,b⟩:=p;rw[c]at h;exact⟨s,l',a,b,rfl,c,h⟩
theorem ps{k:Int}{s:ByteArray}{S a:gm}{X b:aV}(h:sn k s S X=some (a,b)):a.code=S.code/\a.labels=S.labels/\a.lines=S.lines/\a.line=S.line/\a.bp.length<=S.bp.length+1:=by
 unfold sn at h
 repeat' split at h
 all_goals first
  |(cases h;done)
  |(obtain⟨rfl,rfl⟩:=Prod.mk.inj (Option.some.inj h);simp)
  |(rw[Option.map_eq_some_iff]at h;obtain⟨_,_,h⟩:=h;obtain⟨rfl,rfl⟩:=Prod.mk.inj h;simp)
theorem jh:∀(b:List Int) {l:List ByteArray} {S a:gm} {X c:aV},iw b l S X=some (a,c)->a.code=S.code/\a.labels=S.labels/\a.lines=S.lines/\a.line=S.line/\a.bp.length<=S.bp.length+b.length
 |[],l,S,a,X,c,h=>by
  obtain⟨rfl,rfl⟩:=Prod.mk.inj (Option.some.inj h);simp
 |k::b,l,S,a,X,c,h=>by
  obtain⟨s,l',n,o,rfl,j,m⟩:=mj h;obtain⟨a1,a2,a3,d,p⟩:=ps j;obtain⟨e,f,g,i,q⟩:=jh b m;exact⟨e.trans a1,f.trans a2,g.trans a3,i.trans d,by simp only[List.length_cons];omega⟩
theorem ml{S f:gm}{l:List ByteArray}{op:Int}(h:pq S l op=some f):op≠0/\∃b a d e,iw (gn op) (l.drop 1) S (BB op)=some (b,a)/\f={b with code:=b.code++[d]}/\
 ((e=true/\l.length=(gn op).length+2/\b3 (l.getD (l.length-1) ByteArray.empty) 0=33/\qC (l.getD (l.length-1) ByteArray.empty) a=some d)∨(e=false/\l.length=(gn op).length+1/\d=a)):=by
 unfold pq at h;split at h
 ·cases h
 ·rename_i i
  refine⟨i,?_⟩;split at h
  ·rename_i j
   unfold vm at h;cases g:iw (gn op) (l.drop 1) S (BB op)with
   |none=>rw[g]at h;cases h
   |some q=>
    obtain⟨b,a⟩:=q;rw[g]at h;dsimp only at h;split at h
    ·rename_i c
     rw[Option.map_eq_some_iff]at h;obtain⟨d,k,rfl⟩:=h;unfold qG at c;rw[Bool.and_eq_true,decide_eq_true_eq,beq_iff_eq]at c;exact⟨b,a,d,true,rfl,rfl,Or.inl ⟨rfl,c.1,c.2,k⟩⟩
    ·rename_i c
     exact⟨b,a,a,false,rfl,(Option.some.inj h).symm,Or.inr ⟨rfl,j.resolve_right c,rfl⟩⟩
  ·cases h
end Go.Proofs.YtfnilkpkogipfaaGreatDoor
