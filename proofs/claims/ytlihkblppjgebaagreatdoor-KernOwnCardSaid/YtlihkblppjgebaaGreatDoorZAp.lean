import Derived.Deep.RegionWith
import Derived.Deep.RegionHeldLaw
import Derived.Deep.RegionLawGrows
import Derived.ProofKit
import Derived.ChangeAt
import Derived.LaidMore
import Derived.HandedShaped
import Derived.Deep.Slices
import Derived.Deep.Fields
import Derived.ChangeSame
import Derived.SizedLaws
import Derived.OpenShut
import Derived.ChangeKeysEq
import Derived.Test.YtlihkblppjgebaaGreatDoorZAo
set_option linter.all false
set_option maxRecDepth 100000
set_option maxHeartbeats 0
namespace Go.Proofs.YtlihkblppjgebaaGreatDoor
open Go.RowKit Go.Proofs.Tryz
variable{l:List be}{W w:World}{b k:Nat}{t:TypeId}{en na wi:Int}
theorem E1:(prog.info? 120).map (fun i=>(i.zero,i.size,i.bytes))=some (some (.agg (#[.int .u64 0,.int .u64 0,.bool false,.int .i64 0,.int .i64 0]++Array.replicate 32 (.int .u64 0)++#[.slice none 0 0])),38,320):=by kernel_rfl
theorem jX{loop:Int}{calls:List bB}(h:fG l loop calls=true):0<l.length/\l.length<=2048:=by
 unfold fG jw at h;simp only[Bool.and_eq_true,decide_eq_true_eq]at h;have a:=h.1.1.1;have c:=h.1.1.2.1;omega
def aC.zero:aC:=⟨0,0,false,0,⟨0,DE,[]⟩⟩
theorem tz:(prog.info? 184).map (fun i=>(i.zero,i.size,i.bytes))=some (some (.agg #[.int .i64 0,.int .i64 0,.int .i64 0,.int .i64 0,.int .u64 0,.int .i64 0,.int .i64 0]),7,56):=by kernel_rfl
theorem A3:(prog.info? 158).map (fun i=>(i.zero,i.size,i.bytes))=some (some (.agg #[.int .i64 0,.int .i64 0,.int .i64 0,.int .i64 0,.int .i64 0,.int .i64 0]),6,48):=by kernel_rfl
theorem ri{g:Nat}{L:List Value}(h:∀(j:Nat) (u:Value),L[j]?=some u->W.cell? ⟨g,j,none⟩=some u):∀(j:Nat) (u:Value),L[j]?=some u->W.cell? ((⟨g,0,none⟩:Addr).add j)=some u:=fun j u c=>by
 have a:(⟨g,0,none⟩:Addr).add j=⟨g,j,none⟩:=by unfold Addr.add;split<;>simp_all
 rw[a];exact h j u c
theorem jF(l:List be):∀u∈b4 l,u.oneCell'=true:=fun u c=>by
 obtain⟨X,_,a⟩:=List.mem_flatMap.1 c;have:u∈[Value.int .i64 X.op,X.a,X.b,X.c,.int .u64 X.v,X.m,X.wh]:=a;simp only[List.mem_cons,List.not_mem_nil,or_false]at this;rcases this with rfl|rfl|rfl|rfl|rfl|rfl|rfl<;>rfl
theorem A4(l:List bB):∀u∈l.flatMap bB.cells,u.oneCell'=true:=fun u c=>by
 obtain⟨X,_,a⟩:=List.mem_flatMap.1 c;simp only[bB.cells,List.mem_cons,List.not_mem_nil,or_false]at a;rcases a with rfl|rfl|rfl|rfl|rfl|rfl<;>rfl
theorem lr(l:List bB):(l.flatMap bB.cells).length=l.length*6:=by
 rw[List.length_flatMap];simp only[bB.len];rw[List.map_const',List.sum_replicate_nat]
theorem m7{P:Program}{ops:Array Oper}{o:Oper}{a:Act}{K:Act->World->Prop}{Q:Exit->Act->World->Prop}{E:Prop}
 (h:o.guard=none) (s x:Operand) (t:TypeId) (m:o.op=Op.call {callee:=Callee.builtin Builtin.append,args:=#[s,x],argTypes:=#[t,t]})
 (e:TypeId) (i:TypeInfo) (d:P.underlying t=some (.slice e)) (f:P.info? e=some i) (c:Option Addr) (n cap:Nat) (q:a.eval s=.slice c n cap) (j:n<=cap) (u:a.eval x=.slice none 0 0)
 (g:∀v' w',v'=.slice c n cap->w'=w->K (a.put o.dst v') w'):
 if Region.wanted o (yielded ops a.tmps)=true then Oper.wp P o a w K Q else E:=by
 have r:Region.wanted o (yielded ops a.tmps)=true:=by simp[Region.wanted,h]
 rw[if_pos r];have p:(Builtin.append_ #[t,t] o.type #[.slice c n cap,.slice none 0 0]).run P w=.ok (.slice c n cap) w:=by
  simp[Builtin.append_,run_underlying d,sizeOf,typeInfo,f,Builtin.lenOf,Builtin.firstCells,j,storeCells];cases c<;>rfl
 unfold Oper.wp;simp[execOp,m,resolve,invoke,builtin,q,u,p,Result.andThen];exact g _ _ rfl rfl
def A5(w:World)(t:TypeId)(n:Nat)(xs:List Value)(B c cap:Nat)(wc:World):Prop:=(∃a,Row wc c t (xs++a))/\n<=cap/\B<=c
def Hf(mb:Nat)(post:List Value)(rest:List Value)(loop:Int)(l:List be)(calls:List bB)(c a:Nat)(w wc:World):Prop:=
 ∃d f e g,NM wc mb ([.slice (some ⟨d,0,none⟩) c f,.int .i64 loop,.slice (some ⟨e,0,none⟩) a g]++rest) (List.replicate 1000 0) post/\A5 w 184 c (b4 l) w.heap.size d f wc/\A5 w 158 a (calls.flatMap bB.cells) w.heap.size e g wc/\Ch (aH mb) w wc
def rj(n:Nat)(w:World)(p:Value)(wc:World):Prop:=
 ∃mb tm wb a e c d,p=.pointer (some ⟨mb,0,none⟩)/\NM wc mb [.slice none 0 0,.int .i64 0,.slice none 0 0,.slice none 0 0,.int .i64 0,.int .i64 0,.int .i64 0] (List.replicate 1000 0)
  [.pointer none,.pointer none,bk a,.pointer none,.pointer none,.pointer none,.pointer none,.map (some tm),.slice (some ⟨wb,0,none⟩) n n,.int .i64 0,.int .i64 0,.int .i64 0,.int .u64 0,.slice none 0 0]/\
  bS (α:=Nat) wc tm .u64 bk []/\Row wc wb 120 ((List.replicate n aC.zero).flatMap fun x=>x.cells (.slice none 0 0))/\aX wc a e c d (.slice none 0 0) aN.new/\
  (w.heap.size<=mb/\w.heap.size<=tm/\w.heap.size<=wb/\w.heap.size<=a/\w.heap.size<=e/\w.heap.size<=c/\w.heap.size<=d)/\tm≠c/\tm≠d/\Ch ag w wc
theorem A6:Tryz.zeroCells113.toList=[.slice none 0 0,.int .i64 0,.slice none 0 0,.slice none 0 0,.int .i64 0,.int .i64 0,.int .i64 0]++((List.replicate 1000 (0:Int)).map (Value.int .i64)++[.pointer none,.pointer none,.pointer none,.pointer none,.pointer none,.pointer none,.pointer none,.map none,.slice none 0 0,.int .i64 0,.int .i64 0,.int .i64 0,.int .u64 0,.slice none 0 0]):=by kernel_rfl
theorem bS.A7{α:Type}{q:IntKind}{enc:α->Value}{l:List (Int×α)}(h:bS w b q enc l):bS w.drew b q enc l:=h
theorem mf(W:World)(a:W.heap.size=k):bS (α:=Nat) (W.alloc (.map #[] 0)) k .u64 bk []:=⟨#[],0,by rw[<-a];exact heap_alloc_new W _,rfl⟩
theorem iW(W:World)(a:W.heap.size=k){cs:Array Value}{l:List Value}(h:cs.toList=l):Row (W.alloc (.cells cs t)) k t l:=by rw[<-a,<-h];exact Row.new W cs t
theorem A8(pre:List Value)(rows:List Int)(post:List Value)(j:Nat)(v:Value)(a:pre.length=7)(c:rows.length=1000):(pre++(rows.map (Value.int .i64)++post)).set (1007+j) v=pre++(rows.map (Value.int .i64)++post.set j v):=by
 rw[List.set_append_right _ _ (by rw[a];omega),a,List.set_append_right _ _ (by rw[List.length_map,c];omega),List.length_map,c,show 1007+j-7-1000=j by omega]
theorem rj.of{n:Nat}{a:World}{tm wb e i f h:Nat}(q:a.heap.size=k)(j:bS (α:=Nat) a tm .u64 bk [])(m:Row a wb 120 ((List.replicate n aC.zero).flatMap fun x=>x.cells (.slice none 0 0)))
 (o:aX a e i f h (.slice none 0 0) aN.new) (d:w.heap.size<=tm/\w.heap.size<=wb/\w.heap.size<=e/\w.heap.size<=i/\w.heap.size<=f/\w.heap.size<=h) (r:tm≠f) (s:tm≠h) (c:Ch ag w a):
 rj n w (.pointer (some (k,0))) (a.alloc (Obj.cells (((Tryz.zeroCells113.setIfInBounds 1014 (.map (some tm))).setIfInBounds 1015 (.slice (some (wb,0)) n n)).setIfInBounds 1009 (.pointer (some (e,0)))) 113)):=by
 subst q;refine⟨a.heap.size,tm,wb,e,i,f,h,rfl,⟨?_,rfl,by rw[List.length_replicate]⟩,j.alloc _,m.alloc _,o.ch (c:=(Ch.refl (fun _=>False) a).alloc _) id id id id (fun g p=>by cases p),⟨c.size,d.1,d.2.1,d.2.2.1,d.2.2.2.1,d.2.2.2.2.1,d.2.2.2.2.2⟩,r,s,c.alloc _⟩;have:=Row.new a (((Tryz.zeroCells113.setIfInBounds 1014 (.map (some tm))).setIfInBounds 1015 (.slice (some (wb,0)) n n)).setIfInBounds 1009 (.pointer (some (e,0)))) 113;rw[Array.toList_setIfInBounds,Array.toList_setIfInBounds,Array.toList_setIfInBounds,A6,show 1014=1007+7 from rfl,show 1015=1007+8 from rfl,show 1009=1007+2 from rfl,A8 _ _ _ _ _ rfl (List.length_replicate),A8 _ _ _ _ _ rfl (List.length_replicate),A8 _ _ _ _ _ rfl (List.length_replicate)]at this;exact this
def fJ(l:List bB):Nat->List Int
 |0=>List.replicate 1000 0
 |k+1=>(fJ l k).set ((l.getD k default).num.toNat) ((k:Int)+1)
theorem oT{n:Int}:∀{l:List bB} {s:List Bool},jx n l s=true->∀r∈l,1<=r.num/\r.num<=999
 |[],_,_=>fun r c=>by cases c
 |x::l,s,h=>fun r c=>by
  rw[jx,Bool.and_eq_true]at h;rcases List.mem_cons.1 c with rfl|d
  ·have a:=h.1
   unfold gC at a;simp only[Bool.and_eq_true,decide_eq_true_eq]at a;exact a.1.1.1
  ·exact oT h.2 r d
theorem yM{loop:Int}{calls:List bB}(h:fG l loop calls=true):∀r∈calls,1<=r.num/\r.num<=999:=by
 unfold fG at h;rw[Bool.and_eq_true]at h;exact oT h.2
def rk(n:Nat)(loop:Int):Nat->List aC
 |0=>List.replicate n aC.zero
 |k+1=>(rk n loop k).set k (aC.new loop)
theorem oU(n:Nat)(loop:Int):∀k,(rk n loop k).length=n
 |0=>List.length_replicate
 |k+1=>by rw[rk,List.length_set];exact oU n loop k
theorem oV(n:Nat)(loop:Int):∀k i,i<n->(rk n loop k)[i]?=some (if i<k then aC.new loop else aC.zero)
 |0,i,a=>by rw[rk,List.getElem?_replicate,if_pos a,if_neg (by omega)]
 |k+1,i,a=>by
  rw[rk,List.getElem?_set];split
  ·rename_i e;subst e;rw[oU,if_pos a,if_pos (by omega)]
  ·rw[oV n loop k i a]
   by_cases h:i<k
   ·rw[if_pos h,if_pos (by omega)]
   ·rw[if_neg h,if_neg (by omega)]
theorem A9(n:Nat)(loop:Int):rk n loop n=List.replicate n (aC.new loop):=by
 apply List.ext_getElem?;intro i;by_cases a:i<n
 ·rw[oV n loop n i a,if_pos a,List.getElem?_replicate,if_pos a]
 ·rw[List.getElem?_eq_none (by rw[oU];omega),List.getElem?_eq_none (by rw[List.length_replicate];omega)]
theorem wN(h:eQ l en wi na=true):0<=wi/\wi<=256/\0<=na/\na<=256:=by
 unfold eQ at h;simp only[Bool.and_eq_true,decide_eq_true_eq]at h;obtain⟨⟨⟨a,c,d,e,_⟩,_⟩,_⟩:=h;omega
def E2(C:KC)(n tt:Nat)(w:World)(e:Ending)(w':World):Prop:=
 ∃χ L Y,e=.returned (.tuple #[.pointer (some ⟨L.mb,0,none⟩),.nilIface])/\ae w' χ L Y C (hY C n tt)/\(∀i,χ i≠ .no->w.heap.size<=i)/\(∀i,χ i≠ .out)/\Ch ag w w'
theorem gb{α:Type}{a:Nat}{l:List Value}{q:IntKind}{enc:α->Value}{m:List (Int×α)}(h:Row W a t l)(f:bS W b q enc m):a≠b:=fun e=>by
 obtain⟨g,c,d,_⟩:=f;rw[<-e,show W.heap[a]?=some (.cells l.toArray t (0,0))from h]at d;cases d
def vf(l:List be)(loop:Int)(calls:List bB)(p:List be)(en wi na:Int):KC:=⟨l,loop,calls,p,en,wi,na,fJ calls calls.length⟩
def Hg(mb:Nat)(post:List Value)(pre:List Value)(en wi na:Int)(p:List be)(a:Nat)(w wc:World):Prop:=
 ∃c d,NM wc mb (pre++[.slice (some ⟨c,0,none⟩) a d,.int .i64 en,.int .i64 wi,.int .i64 na]) (List.replicate 1000 0) post/\A5 w 184 a (b4 p) w.heap.size c d wc/\Ch (aH mb) w wc
theorem mg(h:eQ l en wi na=true):0<l.length/\l.length<=2048:=by
 unfold eQ jw at h;simp only[Bool.and_eq_true,decide_eq_true_eq]at h;have a:=h.1.1;have c:=h.1.2.1;omega
theorem tA(n tt:Nat)(Ev:1<=n/\n<=64)(FS:1<=tt/\tt<=65536)(l:List be)(O:Nat)(lc:Nat)(loop:Int)(calls:List bB)(bv:Option Addr)(bw:Nat)(p:List be)(U:Nat)(pc:Nat)(en:Int)(wi na:Nat)
 (At:l.length<=lc) (J3:calls.length<=bw) (Fr:p.length<=pc) (pu:calls.length<=100000) (w:World) (pv:fN w O l) (rd:fN w U p)
 (mp:(∃gk M,bv=some ⟨gk,0,none⟩/\0<calls.length/\Row w gk 158 (calls.flatMap bB.cells++M))∨bv=none/\calls=[]/\bw=0)
 (lo:fG l loop calls=true) (lt:eQ p en wi na=true)
 (J:w.cell? (0,0)=some (.iface 390 (.agg #[(4,85)]))):
 Calls prog 34 #[.agg #[.int .i64 n,.int .i64 tt],.agg #[.slice (some (O,0)) l.length lc,loop,.slice bv calls.length bw],.agg #[.slice (some (U,0)) p.length pc,en,.int .i64 wi,.int .i64 na]] w (fun e w'=>(17+8*n+wi+na+1<=tt/\E2 (vf l loop calls p en wi na) n tt w e w')∨(tt<17+8*n+wi+na+1/\A2 w e w')):=by
 obtain⟨w1,ii⟩:=nm (((w.alloc (.cells #[.int .i64 n,.int .i64 tt] 35)).alloc (.cells #[.slice (some (O,0)) l.length lc,loop,.slice bv calls.length bw] 90)).alloc (.cells #[.slice (some (U,0)) p.length pc,en,.int .i64 wi,.int .i64 na] 77));have cb:Hid (Ch ag w w1):=Z (by rw[<-ii];exact(((Ch.refl _ _).alloc _).alloc _).alloc _);have li:Hid (Row w1 w.heap.size 35 [.int .i64 n,.int .i64 tt]):=Z (by rw[<-ii];exact((Row.new w _ _).alloc _).alloc _);have c0:Hid (Row w1 (w.heap.size+1) 90 [.slice (some (O,0)) l.length lc,loop,.slice bv calls.length bw]):=Z (by
  rw[<-ii];have:=Row.new (w.alloc (.cells #[.int .i64 n,.int .i64 tt] 35)) #[.slice (some (O,0)) l.length lc,loop,.slice bv calls.length bw] 90;rw[World.size_alloc]at this;exact this.alloc _)
 have S:Hid (Row w1 (w.heap.size+2) 77 [.slice (some (U,0)) p.length pc,en,.int .i64 wi,.int .i64 na]):=Z (by
  rw[<-ii];have:=Row.new ((w.alloc (.cells #[.int .i64 n,.int .i64 tt] 35)).alloc (.cells #[.slice (some (O,0)) l.length lc,loop,.slice bv calls.length bw] 90)) #[.slice (some (U,0)) p.length pc,en,.int .i64 wi,.int .i64 na] 77;rw[World.size_alloc,World.size_alloc]at this;exact this)
 have tg:Hid (fN w1 O l):=Z (pv.ch cb id);have us:Hid (fN w1 U p):=Z (rd.ch cb id);have nb:Hid ((∃gk M,bv=some ⟨gk,0,none⟩/\0<calls.length/\gk<w.heap.size/\Row w1 gk 158 (calls.flatMap bB.cells++M))∨bv=none/\calls=[]/\bw=0):=Z (by
  rcases mp with⟨gk,M,f,V,c2⟩|h
  ·exact Or.inl ⟨gk,M,f,V,c2.lt,c2.ch cb id⟩
  ·exact Or.inr h)
 have n8:Hid (w1.cell? (0,0)=some (.iface 390 (.agg #[(4,85)]))):=Z (cb.k J);have hf:=mQ l (some ⟨O,0,none⟩) lc loop calls bv bw At pu w1 (fun _=>⟨O,rfl,tg⟩) (fun qr=>by
  rcases nb with⟨gk,M,f,_,_,c2⟩|⟨_,h,_⟩
  ·exact⟨gk,M,f,c2⟩
  ·exact absurd h qr) n8
 rw[lo]at hf;have hf:=Z hf;have sz:Hid (∀w2,Ch ag w1 w2->Calls prog 61 #[.agg #[.slice (some (U,0)) p.length pc,en,.int .i64 wi,.int .i64 na]] w2 (tc true w2)):=Z (fun w2 a4=>by
  have:=mR p (some ⟨U,0,none⟩) pc en wi na Fr w2 (fun _=>⟨U,rfl,us.ch a4 id⟩) ((a4.cell (aQ n8) id).trans n8)
  rwa [lt]at this)
 obtain⟨ad,i6⟩:=mn l.length;obtain⟨E,i5⟩:=mn calls.length;obtain⟨ci,i7⟩:=mn p.length;have I9:Hid (U<w.heap.size/\O<w.heap.size):=Z ⟨rd.lt,pv.lt⟩;have I6:=Z (yM lo);have l1:=Z (wN lt);have nq:=Z i6;have c4:=Z i5;have nw:=Z i7;rw[<-i6,<-i5]at c0 hf;rw[<-i7]at S sz;rw[<-i6,<-i5,<-i7]at ii⊢;have dr:=Z Ev;have nC:=Z FS;obtain⟨s0,K8⟩:=li.c2;obtain⟨t10,t11,t12⟩:=c0.c3;obtain⟨t20,t21,t22,t23⟩:=S.c4;have x6:0<ad/\ad<=2048:=by rw[i6];exact jX lo
 have x4:E<=100000:=by rw[i5];exact pu
 have B3:Hid (0<ci/\ci<=2048):=Z (by rw[i7];exact mg lt);have B1:=Z x6;have B2:=Z x4;have i1:(1:Int)<=n:=by omega
 have i2:(n:Int)<=64:=by omega
 have JV:(1:Int)<=tt:=by omega
 have JW:(tt:Int)<=65536:=by omega
 clear x6 x4 i6 i5 i7 At J3 Fr pu pv rd mp lo lt J Ev FS;go_in
 go_wp2_with (first|(go_at_call 60;refine hf.mono ?_;rintro e w2 ⟨⟨y,rfl,rx⟩,g4⟩;obtain rfl:y=.nilIface:=rx;have s5:=Z g4;have u20:=(S.ch g4 id).cell (i:=0) rfl;have u21:=(S.ch g4 id).cell (i:=1) rfl;have u22:=(S.ch g4 id).cell (i:=2) rfl;have u23:=(S.ch g4 id).cell (i:=3) rfl;clear g4)|(go_at_call 61;refine(sz _ s5).mono ?_;rintro e w3 ⟨⟨y,rfl,rx⟩,z3⟩;obtain rfl:y=.nilIface:=rx;have c3:=Z (s5.trans z3);clear z3))
 obtain⟨eA,g6,es,et,ex⟩:=info_parts E1;have J5:=fun w=>run_make (P:=prog) w 111 120 eA _ underlying111 g6 es .i64 .i64 (n:Int) (n:Int) (by omega) (by omega) (by rw[ex];omega) (by omega)
 obtain⟨cs,mk⟩:=nm (madeCells (Value.agg (#[.int .u64 0,.int .u64 0,.bool false,.int .i64 0,.int .i64 0]++Array.replicate 32 (.int .u64 0)++#[.slice none 0 0])).cells ((n:Int).toNat*eA.size));simp only[mk]at J5;rw[et,Int.toNat_natCast]at mk;have HX:=Z mk;have fd:Hid (cs.toList=(List.replicate n aC.zero).flatMap fun x=>x.cells (.slice none 0 0)):=Z (by
  rw[<-HX];exact iu (enc:=fun x:aC=>x.cells (.slice none 0 0)) (k:=38) (fun x=>aC.len (x,_)) (by omega) aC.zero _ rfl n)
 have JR:= @run_makeMap prog;clear mk g6 es et ex;have s0:=li.c1;have s4:w3.cell? ⟨w.heap.size,0,none⟩=some (.int .i64 n):=c3.k s0;clear s0;go_cut [10] (fun p wc=>rj n w3 p wc)
 case first=>
  have ip:=World.new_ne w3 ⟨w.heap.size,0,none⟩ s4;have it:w.heap.size<w3.heap.size:=aQ s4;go_region_held3 (fun w'=>w'.cell? ⟨w.heap.size,0,none⟩=some (.int .i64 n)) (go_keep) ((go_at_call 62;refine(qq _).mono ?_;rintro e a ⟨b,hb,mb,qb,rfl,g5,cl,cm,cq,i3,pa⟩;have ab:=Z g5;have A:Hid (Ch ag w3 a):=Z (Ch.trans (by repeat(first|exact Ch.refl _ _|with_reducible refine Ch.drew ?_|with_reducible refine Ch.alloc ?_ _)) pa);have eL:=Z pa;have a9:=Z (And.intro cl (And.intro cm (And.intro cq i3)));have x5:=A.out.k s4;clear g5 pa cl cm cq i3))
  all_goals(go_wp2_with fail;go_meet)
  ·exact rj.of (by simp) (((mf w3 rfl).alloc _).A7.ch eL id) ((iW (w3.alloc (.map #[] 0)) (k:=w3.heap.size+1) (by simp) fd).drew.ch eL id) ab (by have f:=a9.out;simp only[World.size_alloc,World.size_drew]at f;omega) (by have f:=a9.out;simp only[World.size_alloc,World.size_drew]at f;omega) (by have f:=a9.out;simp only[World.size_alloc,World.size_drew]at f;omega) A
  ·exact rj.of (by simp) ((((mf w3 rfl)).A7.ch eL id).alloc _) (iW _ rfl fd) (ab.ch (c:=(Ch.refl (fun _=>False) a).alloc _) id id id id (fun g J=>by cases J)) (by have f:=a9.out;have V:=A.size;simp only[World.size_alloc,World.size_drew]at f;omega) (by have f:=a9.out;simp only[World.size_alloc,World.size_drew]at f;omega) (by have f:=a9.out;simp only[World.size_alloc,World.size_drew]at f;omega) (A.alloc _)
  ·exact rj.of (by simp) ((mf (w3.alloc (.cells cs 120)) (k:=w3.heap.size+1) (by simp)).A7.ch eL id) (((iW _ rfl fd).alloc _).drew.ch eL id) ab (by have f:=a9.out;simp only[World.size_alloc,World.size_drew]at f;omega) (by have f:=a9.out;simp only[World.size_alloc,World.size_drew]at f;omega) (by have f:=a9.out;simp only[World.size_alloc,World.size_drew]at f;omega) A
  ·exact rj.of (by simp) (mf _ rfl) (((iW _ rfl fd).drew.ch eL id).alloc _) (ab.ch (c:=(Ch.refl (fun _=>False) a).alloc _) id id id id (fun g J=>by cases J)) (by have f:=a9.out;have V:=A.size;simp only[World.size_alloc,World.size_drew]at f;omega) (by have:=ab.heap.map.lt;omega) (by have:=ab.fl.lt;omega) (A.alloc _)
  ·exact rj.of (by simp) ((mf _ rfl).alloc _) (iW (a.alloc (.map #[] 0)) (k:=a.heap.size+1) (by simp) fd) (ab.ch (c:=((Ch.refl (fun _=>False) a).alloc _).alloc _) id id id id (fun g J=>by cases J)) (by have f:=a9.out;have V:=A.size;simp only[World.size_alloc,World.size_drew]at f;omega) (by have:=ab.heap.map.lt;omega) (by have:=ab.fl.lt;omega) ((A.alloc _).alloc _)
  ·exact rj.of (by simp) (mf (a.alloc (.cells cs 120)) (k:=a.heap.size+1) (by simp)) ((iW _ rfl fd).alloc _) (ab.ch (c:=((Ch.refl (fun _=>False) a).alloc _).alloc _) id id id id (fun g J=>by cases J)) (by have f:=a9.out;have V:=A.size;simp only[World.size_alloc,World.size_drew]at f;omega) (by have:=ab.heap.map.lt;omega) (by have:=ab.fl.lt;omega) ((A.alloc _).alloc _)
 case rest=>
  obtain⟨mb,tm,wb,c1,g2,c7,g3,rfl,r5,qc,g7,g5,FL,ip,it,lv⟩:=hcut;obtain⟨w4,Gr⟩:=nm wc;rw[Gr]at r5 qc g7 g5 lv⊢;have bx:=Z r5;have gr:Hid (Ch ag w1 w4):=Z (c3.trans lv.af);have fr:=Z FL;have l0:=Z qc;have c6:=Z g7;have av:=Z g5;have un:=Z (And.intro ip it);have HV:=Z lv;clear r5 qc g7 g5 FL ip it lv Gr;have I5:=Z (fun(w:World) pre rows post (h:NM w mb pre rows post) (r:NR pre post wb n 0 0)=>pV h r);have n1:=Z (I5 w4.drew _ _ _ bx.drew ⟨rfl,rfl,rfl,dr.1,dr.2,by omega,by omega,by omega,by omega⟩);have Ju:=((li.ch gr id).cell (i:=1) rfl);have Jv:=((S.ch gr id).cell (i:=2) rfl);have Jw:=((S.ch gr id).cell (i:=3) rfl);have JU:(wi:Int)<=65536:=by have:=l1.out;omega
  have JS:(na:Int)<=65536:=by have:=l1.out;omega
  rcases Nat.lt_or_ge tt (17+8*n+wi+na+1)with i9|i9
  ·have FC:((tt:Int)<17+8*(n:Int)+wi+na+1):=by omega
   have hm:=Z i9;clear i9;go_wp2_with fail
   have Jq:IntKind.i64.wrap (17+8*(n:Int)+wi)=17+8*(n:Int)+wi:=IntWalk.i64_in _ (by omega);have Jr:IntKind.i64.wrap (17+8*(n:Int)+wi+na)=17+8*(n:Int)+wi+na:=IntWalk.i64_in _ (by omega);have Js:IntKind.i64.wrap (17+8*(n:Int)+wi+na+1)=17+8*(n:Int)+wi+na+1:=IntWalk.i64_in _ (by omega);refine wp_region_still (by kernel_rfl) (by kernel_rfl) ?_;try simp only[]
   repeat still_step
   still_call (b5 n1)
   repeat still_step
   try refine wpStill_nil ?_
   go_wp2_with (go_at_call 59;refine(fg _ _ _ _).mono ?_;rintro e w' ⟨rfl,rfl⟩)
   any_goals (first|(exfalso;omega)|skip)
   go_ret2;exact Or.inr ⟨hm,⟨_,rfl,ar.mk _ _⟩,(cb.trans gr.drew).alloc _⟩
  have FC:¬((tt:Int)<17+8*(n:Int)+wi+na+1):=by omega
  have hm:=Z i9;clear i9;go_wp2_with fail
  have Jq:IntKind.i64.wrap (17+8*(n:Int)+wi)=17+8*(n:Int)+wi:=IntWalk.i64_in _ (by omega);have Jr:IntKind.i64.wrap (17+8*(n:Int)+wi+na)=17+8*(n:Int)+wi+na:=IntWalk.i64_in _ (by omega);have Js:IntKind.i64.wrap (17+8*(n:Int)+wi+na+1)=17+8*(n:Int)+wi+na+1:=IntWalk.i64_in _ (by omega);refine wp_region_still (by kernel_rfl) (by kernel_rfl) ?_;try simp only[]
  repeat still_step
  still_call (b5 n1)
  repeat still_step
  try refine wpStill_nil ?_
  go_wp2_with fail
  any_goals (first|(exfalso;omega)|skip)
  change Code.wp _ _ _ _ w4.drew;obtain⟨a,mA⟩:=nm w4.drew;have A:Hid (Ch ag w1 a):=Z (by rw[<-mA];exact gr.drew);have s7:Hid (Ch ag w4 a):=Z (by rw[<-mA];exact(Ch.refl _ _).drew);have D:=Z (bx.ch s7 id);rw[mA];clear mA Ju Jv Jw n1 FC;have gf:=((c0.ch A id).cell (i:=0) rfl);have go:=((c0.ch A id).cell (i:=1) rfl);have z12:=((c0.ch A id).cell (i:=2) rfl);go_cut [] (fun wc=>Hf mb [.pointer none,.pointer none,bk c1,.pointer none,.pointer none,.pointer none,.pointer none,.map (some tm),.slice (some (wb,0)) n n,.int .i64 0,.int .i64 0,.int .i64 0,.int .u64 0,.slice none 0 0] [.slice none 0 0,.int .i64 0,.int .i64 0,.int .i64 0] loop l calls ad E a wc)
  case first=>
   have H2:=D.pc (i:=0) rfl;have H3:=D.pc (i:=1) rfl;have H4:=D.pc (i:=2) rfl;have f0:=D.fz 0;have f1:=D.fz 1;have f2:=D.fz 2;have IU:w.heap.size+1<mb:=Nat.lt_of_lt_of_le c0.lt (Nat.le_trans c3.size fr.1);have d1:mb≠w.heap.size+1:=(by omega);have d2:w.heap.size+1≠mb:=(by omega);have ip:=World.new_ne a _ gf;have it:=World.new_ne a _ go;have Jg:=World.new_ne a _ z12;obtain⟨eA,g6,es,et,ex⟩:=info_parts tz;obtain⟨i1,IY,Jb,Jc,Jd⟩:=info_parts A3;have kw:=Z g6;have sC:=Z IY;have th:Hid (fN a O l):=Z (tg.ch A id);have vh:Hid ((b4 l).length=ad*7):=Z (by rw[mu,nq];omega);rcases nb with⟨gk,M,rfl,FA,cA,ms⟩|⟨rfl,pl,rfl⟩
   ·have I2:Hid (Row a gk 158 (calls.flatMap bB.cells++M)):=Z (ms.ch A id)
    have FA:0<E/\E<=100000:=⟨by rw[c4];exact FA,B2⟩;clear ms cA;have Ix:Hid ((calls.flatMap bB.cells).length=E*6):=Z (by rw[lr,c4]);go_region_held_law (fun w'=>w'.cell? ⟨w.heap.size+1,0,none⟩=some (.slice (some (O,0)) ad lc)/\w'.cell? ⟨w.heap.size+1,1,none⟩=some (.int .i64 loop)/\w'.cell? ⟨w.heap.size+1,2,none⟩=some (.slice (some ⟨gk,0,none⟩) E bw)) (go_keep) (first
     |(refine step_append_grows (by rfl) _ _ 75 (by rfl) 184 eA _ 7 56 underlying75 kw.out es et ex (by rfl) (by omega) _ 0 0 [] (by rfl) (fun h=>⟨rfl,rfl⟩) (by rfl) (fun _ _ _ _ h=>by cases h) ⟨O,0,none⟩ ad lc (b4 l) (by rfl) vh.out (ri (fun j u cQ=>(th.out.ch (show Ch ag a _ by repeat(first|exact Ch.refl _ _|exact z.out|with_reducible refine Ch.drew ?_|with_reducible refine Ch.alloc ?_ _)) id).cell j u cQ)) (jF l) (by have:=B1.out;omega) (by have:=B1.out;unfold maxLen;omega) (by have:=B1.out;omega) ?_;intro v' al cC c8;have o:Hid (Ch ag a al):=Z ((show Ch ag a _ by repeat(first|exact Ch.refl _ _|exact z.out|with_reducible refine Ch.drew ?_|with_reducible refine Ch.alloc ?_ _)).trans ((Ch.bK c8).mono (fun i F=>by cases F)));obtain⟨R,ck,io,rfl,hA1,hA2,hA3,hA4,hA5⟩:=aE cC (by have:=B1.out;omega);have hn:=Z hA4;have cf:=Z (And.intro hA1 hA2);have IF:=o.out.k gf;have IG:=o.out.k go;have a12:=o.out.k z12;clear cC c8 hA1 hA2 hA3 hA4 hA5)
     |(refine step_append_grows (by rfl) _ _ 88 (by rfl) 158 i1 _ 6 48 underlying88 sC.out Jb Jc Jd (by rfl) (by omega) _ 0 0 [] (by rfl) (fun h=>⟨rfl,rfl⟩) (by rfl) (fun _ _ _ _ h=>by cases h) ⟨gk,0,none⟩ E bw (calls.flatMap bB.cells) (by rfl) Ix.out (ri (fun j u cQ=>(I2.out.ch (show Ch ag a _ by repeat(first|exact Ch.refl _ _|exact o.out|with_reducible refine Ch.drew ?_|with_reducible refine Ch.alloc ?_ _)) id).cell (by rw[List.getElem?_append_left (List.getElem?_eq_some_iff.1 cQ).1];exact cQ))) (A4 calls) (by omega) (by unfold maxLen;omega) (by omega) ?_;intro v' am EQ pp;have z:Hid (Ch ag a am):=Z ((show Ch ag a _ by repeat(first|exact Ch.refl _ _|exact o.out|with_reducible refine Ch.drew ?_|with_reducible refine Ch.alloc ?_ _)).trans ((Ch.bK pp).mono (fun i F=>by cases F)));obtain⟨T,w0,Je,rfl,ws,wv,IV,ww,IW⟩:=aE EQ (by omega);have og:=Z ww;have kf:=Z (And.intro ws wv);have n0:=Z (Ch.bK pp);have IH:=z.out.k gf;have II:=z.out.k go;have IJ:=z.out.k z12;have H2:=(D.out.ch z.out id).pc (i:=0) rfl;have H3:=(D.out.ch z.out id).pc (i:=1) rfl;have H4:=(D.out.ch z.out id).pc (i:=2) rfl;have f0:=(D.out.ch z.out id).fz 0;have f1:=(D.out.ch z.out id).fz 1;have f2:=(D.out.ch z.out id).fz 2;clear EQ pp ws wv IV ww IW))
    all_goals(go_wp2_with fail;go_meet)
    all_goals
     have dC:a.heap.size<=R:=Nat.le_trans ((show Ch ag a _ by repeat(first|exact Ch.refl _ _|exact o.out|with_reducible refine Ch.drew ?_|with_reducible refine Ch.alloc ?_ _))).size cf.out.1;have hF:a.heap.size<=T:=Nat.le_trans ((show Ch ag a _ by repeat(first|exact Ch.refl _ _|exact o.out|with_reducible refine Ch.drew ?_|with_reducible refine Ch.alloc ?_ _))).size kf.out.1;have i0:Ch ag al am:=((show Ch ag al _ by repeat(first|exact Ch.refl _ _|exact o.out|with_reducible refine Ch.drew ?_|with_reducible refine Ch.alloc ?_ _))).trans (n0.out.mono (fun i F=>by cases F));have lm:mb<a.heap.size:=D.lt;have a4:Ch (aH mb) am (((am.setCell (mb,0) (.slice (some (R,0)) ad ck)).setCell (mb,1) (.int .i64 loop)).setCell (mb,2) (.slice (some ⟨T,0,none⟩) E w0)):=(((Ch.refl _ _).only _ _).only _ _).only _ _;refine⟨R,ck,T,w0,(((D.ch z id).pg (i:=0) (by omega) _).pg (i:=1) (by omega) _).pg (i:=2) (by omega) _,⟨⟨io,?_⟩,?_,dC⟩,⟨⟨Je,?_⟩,?_,hF⟩,z.af.trans a4⟩
     ·exact(hn.ch i0 id).ch a4 (fun e=>by have:R=mb:=e;omega)
     ·have:=cf.2;omega
     ·exact og.ch a4 (fun e=>by have:T=mb:=e;omega)
     ·have:=kf.2;omega
   ·have HW:=Z pl
    obtain rfl:E=0:=by rw[c4,pl];rfl
    clear pl;go_region_held_law (fun w'=>w'.cell? ⟨w.heap.size+1,0,none⟩=some (.slice (some (O,0)) ad lc)/\w'.cell? ⟨w.heap.size+1,1,none⟩=some (.int .i64 loop)/\w'.cell? ⟨w.heap.size+1,2,none⟩=some (.slice none 0 0)) (go_keep) (first
     |(refine step_append_grows (by rfl) _ _ 75 (by rfl) 184 eA _ 7 56 underlying75 kw.out es et ex (by rfl) (by omega) _ 0 0 [] (by rfl) (fun h=>⟨rfl,rfl⟩) (by rfl) (fun _ _ _ _ h=>by cases h) ⟨O,0,none⟩ ad lc (b4 l) (by rfl) vh.out (ri (fun j u cQ=>(th.out.ch (show Ch ag a _ by repeat(first|exact Ch.refl _ _|exact z.out|with_reducible refine Ch.drew ?_|with_reducible refine Ch.alloc ?_ _)) id).cell j u cQ)) (jF l) (by have:=B1.out;omega) (by have:=B1.out;unfold maxLen;omega) (by have:=B1.out;omega) ?_;intro v' al cC c8;have o:Hid (Ch ag a al):=Z ((show Ch ag a _ by repeat(first|exact Ch.refl _ _|exact z.out|with_reducible refine Ch.drew ?_|with_reducible refine Ch.alloc ?_ _)).trans ((Ch.bK c8).mono (fun i F=>by cases F)));obtain⟨R,ck,io,rfl,hA1,hA2,hA3,hA4,hA5⟩:=aE cC (by have:=B1.out;omega);have hn:=Z hA4;have cf:=Z (And.intro hA1 hA2);have HZ:=Z (Ch.bK c8);have IF:=o.out.k gf;have IG:=o.out.k go;have a12:=o.out.k z12;clear cC c8 hA1 hA2 hA3 hA4 hA5)
     |(refine m7 (by rfl) _ _ 88 (by rfl) 158 i1 underlying88 sC.out _ 0 0 (by rfl) (Nat.le_refl _) (by rfl) ?_;intro v' am FW mC;have z:Hid (Ch ag a am):=Z (by rw[mC];exact(show Ch ag a _ by repeat(first|exact Ch.refl _ _|exact o.out|with_reducible refine Ch.drew ?_|with_reducible refine Ch.alloc ?_ _)));obtain⟨T,rfl,vl,sb⟩:∃T,v'=.slice (some ⟨T,0,none⟩) 0 0/\Row am T 158 []/\a.heap.size<=T:=⟨_,FW,by rw[mC];repeat(first|exact iW _ (by first|rfl|simp) rfl|with_reducible refine Row.drew ?_|with_reducible refine Row.alloc ?_ _|refine Row.ch ?_ HZ.out (fun h=>by cases h)),by first|exact Nat.le_refl _|exact Nat.le_add_right _ _|exact o.out.size|exact Nat.le_trans o.out.size (Nat.le_add_right _ _)|(have:=o.out.size;simp;omega)⟩;have og:=Z vl;have kf:=Z sb;have n0:Hid (Ch ag al am):=Z (by rw[mC];exact(show Ch ag al _ by repeat(first|exact Ch.refl _ _|with_reducible refine Ch.drew ?_|with_reducible refine Ch.alloc ?_ _)));have IH:=z.out.k gf;have II:=z.out.k go;have IJ:=z.out.k z12;have H2:=(D.out.ch z.out id).pc (i:=0) rfl;have H3:=(D.out.ch z.out id).pc (i:=1) rfl;have H4:=(D.out.ch z.out id).pc (i:=2) rfl;have f0:=(D.out.ch z.out id).fz 0;have f1:=(D.out.ch z.out id).fz 1;have f2:=(D.out.ch z.out id).fz 2;clear FW mC vl sb))
    all_goals(go_wp2_with fail;go_meet)
    all_goals
     have dC:a.heap.size<=R:=Nat.le_trans ((show Ch ag a _ by repeat(first|exact Ch.refl _ _|exact o.out|with_reducible refine Ch.drew ?_|with_reducible refine Ch.alloc ?_ _))).size cf.out.1;have hF:a.heap.size<=T:=kf.out;have i0:Ch ag al am:=n0.out;have lm:mb<a.heap.size:=D.lt;have a4:Ch (aH mb) am (((am.setCell (mb,0) (.slice (some (R,0)) ad ck)).setCell (mb,1) (.int .i64 loop)).setCell (mb,2) (.slice (some ⟨T,0,none⟩) 0 0)):=(((Ch.refl _ _).only _ _).only _ _).only _ _;refine⟨R,ck,T,0,(((D.ch z id).pg (i:=0) (by omega) _).pg (i:=1) (by omega) _).pg (i:=2) (by omega) _,⟨⟨io,?_⟩,?_,dC⟩,⟨⟨[],?_⟩,?_,hF⟩,z.af.trans a4⟩
     ·exact(hn.ch i0 id).ch a4 (fun e=>by have:R=mb:=e;omega)
     ·have:=cf.2;omega
     ·rw[HW];exact og.ch a4 (fun e=>by have:T=mb:=e;omega)
     ·exact Nat.le_refl _
  case rest=>
   obtain⟨hu,g0,hv,g1,r6,ec,cL,pi⟩:=hcut;obtain⟨a5,H0⟩:=nm wc;rw[H0]at r6 ec cL pi⊢;have bi:=Z r6;have Ie:=Z ec;have If:=Z cL;have cW:=Z pi;clear r6 ec cL pi H0 gf go z12;have Jy:Hid (Ch ag w a5):=Z ((cb.trans A).fresh cW (fun b hb e=>by have f:b=mb:=e;have V:=fr.1;have c2:=Nat.lt_of_lt_of_le c0.lt c3.size;omega));have hd:∀x,x<w.heap.size+3->¬aH mb x:=(fun x g9 e=>by have f:x=mb:=e;have V:=fr.1;have c2:=Nat.lt_of_lt_of_le S.lt c3.size;omega);have ID:=Z ((S.ch A id).ch cW (hd _ (by omega)));obtain⟨s1,v1,v2,s2⟩:=ID.c4;go_wp2
   go_cut [] (fun wc=>Hg mb [.pointer none,.pointer none,bk c1,.pointer none,.pointer none,.pointer none,.pointer none,.map (some tm),.slice (some (wb,0)) n n,.int .i64 0,.int .i64 0,.int .i64 0,.int .u64 0,.slice none 0 0] [.slice (some (hu,0)) ad g0,loop,.slice (some (hv,0)) E g1] en wi na p ci a5 wc)
   case first=>
    have Jf:=bi.pc (i:=3) rfl;have IU:w.heap.size+2<mb:=Nat.lt_of_lt_of_le S.lt (Nat.le_trans c3.size fr.1);have d1:mb≠w.heap.size+2:=(by omega);have d2:w.heap.size+2≠mb:=(by omega);have d3:mb≠w.heap.size+1+1:=(by omega);have d4:w.heap.size+1+1≠mb:=(by omega);have ip:=World.new_ne a5 _ s1;have it:=World.new_ne a5 _ v1;have Jg:=World.new_ne a5 _ v2;have K6:=World.new_ne a5 _ s2;obtain⟨eA,g6,es,et,ex⟩:=info_parts tz;have kw:=Z g6;have Ia:Hid (fN a5 U p):=Z ((us.ch A id).ch cW (hd _ (by have:=I9.out;omega)));have Iy:Hid ((b4 p).length=ci*7):=Z (by rw[mu,nw];omega);go_region_held_law (fun w'=>w'.cell? ⟨w.heap.size+2,0,none⟩=some (.slice (some (U,0)) ci pc)/\w'.cell? ⟨w.heap.size+2,1,none⟩=some (.int .i64 en)/\w'.cell? ⟨w.heap.size+2,2,none⟩=some (.int .i64 wi)/\w'.cell? ⟨w.heap.size+2,3,none⟩=some (.int .i64 na)) (go_keep) ((refine step_append_grows (by rfl) _ _ 75 (by rfl) 184 eA _ 7 56 underlying75 kw.out es et ex (by rfl) (by omega) _ 0 0 [] (by rfl) (fun h=>⟨rfl,rfl⟩) (by rfl) (fun _ _ _ _ h=>by cases h) ⟨U,0,none⟩ ci pc (b4 p) (by rfl) Iy.out (ri (fun j u cQ=>(Ia.out.ch (show Ch ag a5 _ by repeat(first|exact Ch.refl _ _|with_reducible refine Ch.drew ?_|with_reducible refine Ch.alloc ?_ _)) id).cell j u cQ)) (jF p) (by have:=B3.out;omega) (by have:=B3.out;unfold maxLen;omega) (by have:=B3.out;omega) ?_;intro v' al cC c8;have o:Hid (Ch ag a5 al):=Z ((show Ch ag a5 _ by repeat(first|exact Ch.refl _ _|with_reducible refine Ch.drew ?_|with_reducible refine Ch.alloc ?_ _)).trans ((Ch.bK c8).mono (fun i F=>by cases F)));obtain⟨R,ck,io,rfl,hA1,hA2,hA3,hA4,hA5⟩:=aE cC (by have:=B3.out;omega);have hn:=Z hA4;have cf:=Z (And.intro hA1 hA2);have a0:=o.out.k s1;have a1:=o.out.k v1;have a2:=o.out.k v2;have a3:=o.out.k s2;have Jf:=(bi.out.ch o.out id).pc (i:=3) rfl;have K3:=(bi.out.ch o.out id).pc (i:=4) rfl;have K4:=(bi.out.ch o.out id).pc (i:=5) rfl;have K5:=(bi.out.ch o.out id).pc (i:=6) rfl;have f3:=(bi.out.ch o.out id).fz 3;have f4:=(bi.out.ch o.out id).fz 4;have f5:=(bi.out.ch o.out id).fz 5;have f6:=(bi.out.ch o.out id).fz 6;clear cC c8 hA1 hA2 hA3 hA4 hA5))
    all_goals(go_wp2_with fail;go_meet)
    all_goals
     have dC:a5.heap.size<=R:=Nat.le_trans ((show Ch ag a5 _ by repeat(first|exact Ch.refl _ _|with_reducible refine Ch.drew ?_|with_reducible refine Ch.alloc ?_ _))).size cf.out.1;have lm:mb<a5.heap.size:=bi.lt;have a4:Ch (aH mb) al ((((al.setCell (mb,3) (.slice (some (R,0)) ci ck)).setCell (mb,4) (.int .i64 en)).setCell (mb,5) (.int .i64 wi)).setCell (mb,6) (.int .i64 na)):=((((Ch.refl _ _).only _ _).only _ _).only _ _).only _ _;refine⟨R,ck,((((bi.ch o id).pg (i:=3) (by omega) _).pg (i:=4) (by omega) _).pg (i:=5) (by omega) _).pg (i:=6) (by omega) _,⟨⟨io,?_⟩,?_,dC⟩,o.af.trans a4⟩
     ·exact hn.ch a4 (fun e=>by have:R=mb:=e;omega)
     ·have:=cf.2;omega
   case rest=>
    obtain⟨ll,hw,rb,ih,pk⟩:=hcut;obtain⟨ge,H1⟩:=nm wc;rw[H1]at rb ih pk⊢;have up:=Z rb;have Ig:=Z ih;have he:=Z pk;clear rb ih pk H1 s1 v1 v2 s2;obtain⟨pre,ro⟩:=nm ([Value.slice (some (hu,0)) ad g0,loop,.slice (some (hv,0)) E g1,.slice (some (ll,0)) ci hw,en,.int .i64 wi,.int .i64 na]);have nx:=Z ro;have mW:Hid (Ch (aH mb) a ge):=Z (cW.trans he);have ce:=Z hd;have IC:=Z ((c0.ch A id).ch mW (hd _ (by omega)));have ls:=up.out;have ls:NM ge mb pre (List.replicate 1000 0) [.pointer none,.pointer none,bk c1,.pointer none,.pointer none,.pointer none,.pointer none,.map (some tm),.slice (some (wb,0)) n n,.int .i64 0,.int .i64 0,.int .i64 0,.int .u64 0,.slice none 0 0]:=(by rw[<-ro];exact up);obtain⟨post,rg⟩:=nm ([.pointer none,.pointer none,bk c1,.pointer none,.pointer none,.pointer none,.pointer none,.map (some tm),.slice (some (wb,0)) n n,.int .i64 0,.int .i64 0,.int .i64 0,.int .u64 0,.slice none 0 0]);rw[rg]at ls;have c5:=Z rg;have I3:=Z ls;have v2:=IC.k 2 rfl;have JL:(E:Int)<=100000:=(by have:=B2.out;omega);clear ls ro rg hd;go_wp2
    go_loopg [99] (E+1) (fun ov i wr=>∃k:Nat,k<=E/\ov=E-k+1/\i=.int .i64 k/\Hid (NM wr mb pre (fJ calls k) post)/\Hid (Ch (aH mb) ge wr))
    case atStart=>exact⟨0,by omega,by omega,rfl,I3,Z (Ch.refl _ _)⟩
    case round=>
     obtain⟨k,J2,rfl,rfl,fn,k5⟩:=hrel;by_cases cA:k<E
     ·obtain⟨gk,M,mp,JN,ms⟩:∃gk M,bv=some ⟨gk,0,none⟩/\gk<w.heap.size/\Row w1 gk 158 (calls.flatMap bB.cells++M):=by
       rcases nb with⟨gk,M,f,_,V,c2⟩|⟨_,h,_⟩
       ·exact⟨gk,M,f,V,c2⟩
       ·rw[c4,h]at cA;exact absurd cA (Nat.not_lt_zero _)
      subst mp;have I1:Hid (Row ge gk 158 (calls.flatMap bB.cells++M)):=Z ((ms.ch A id).ch mW (ce _ (by omega)));obtain⟨X,i8⟩:∃X,calls[k]?=some X:=⟨_,List.getElem?_eq_getElem (by rw[<-c4];exact cA)⟩;have JC:=Z i8;have g7:Hid (Row wr gk 158 (calls.flatMap bB.cells++M)):=Z (I1.ch k5 (ce _ (by omega)));have dN:∀j v,j<6->X.cells[j]?=some v->wr.cell? ⟨gk,k*6+j,none⟩=some v:=fun j v IZ J9=>g7.out.cell (by
       rw[List.getElem?_append_left (by
        rw[lr,<-c4];have:(k+1)*6<=E*6:=Nat.mul_le_mul_right _ cA;omega)]
       exact(bJ bB.len i8 IZ).trans J9)
      have rc:=I6 X (List.mem_of_getElem? i8);have x2:fJ calls (k+1)=(fJ calls k).set X.num.toNat ((k:Int)+1):=by
       rw[fJ,List.getD_eq_getElem?_getD,i8];rfl
      obtain⟨num,at_,k0,k1,k2,k3⟩:=X;obtain⟨m,rfl⟩:∃m:Nat,num=m:=⟨num.toNat,by have:=rc.1;dsimp only at this;omega⟩;have AC:m<1000:=(by have:=rc.2;dsimp only at this;omega);have JQ:(m:Int)<1000:=(by omega);have JP:(0:Int)<=m:=(by omega);have HY:=Z x2;have vw:=dN 0 _ (by omega) rfl;have IK:=dN 1 _ (by omega) rfl;have IL:=dN 2 _ (by omega) rfl;have IM:=dN 3 _ (by omega) rfl;have IN:=dN 4 _ (by omega) rfl;have IP:=dN 5 _ (by omega) rfl;rw[Nat.add_zero]at vw;obtain⟨r',hold⟩:∃r',(fJ calls k)[m]?=some r':=⟨_,List.getElem?_eq_getElem (by rw[fn.n2];exact AC)⟩;have c7:=fn.rc hold;have IS:=fn.fz (7+m);have JO:(k:Int)<E:=(by omega);have ec:=g7.out.lt;have cL:=fn.lt;clear dN i8 rc x2 hold;go_wp2_with fail
      obtain⟨jp,g8⟩:=nm (wr.alloc (.cells #[.int .i64 m,at_,k0,k1,k2,k3] 158));obtain⟨Jt,rt⟩:=nm wr.heap.size;have Ij:Hid (Row jp Jt 158 [.int .i64 m,at_,k0,k1,k2,k3]):=Z (by rw[<-g8,<-rt];exact Row.new _ _ _);have ut:Hid (NM jp mb pre (fJ calls k) post):=Z (by rw[<-g8];exact fn.alloc _);have HP:Hid (Ch (aH mb) ge jp):=Z (by rw[<-g8];exact k5.alloc _);have x0:=Ij.c1;have JD:jp.cell? (mb,7+m)=some (.int .i64 r'):=(by rw[<-g8,World.cell?_alloc_past _ _ _ cL];exact c7);have JH:=ut.fz (7+m);rw[g8,rt];clear g8 rt ec cL vw IK IL IM IN IP c7 IS;refine wp_region_still_tail 8 (by kernel_rfl) (by kernel_rfl) ?_;simp only[List.take_succ_cons,List.take_zero,List.drop_succ_cons,List.drop_zero]
      repeat still_step
      try refine wpStill_nil ?_
      change wpList _ _ _ _ _ jp.drew;go_wp2
      go_roundg (E-k)
      case measure=>omega
      case rel=>exact⟨k+1,by omega,by omega,by go_num,Z (by rw[HY];exact ut.drew.ax AC _),Z (HP.drew.only _ _)⟩
     ·have J2:¬(k:Int)<E:=by omega
      have J4:k=E:=(by omega);subst J4;have Ja:∃G,G=wr:=⟨_,rfl⟩;obtain⟨G,rfl⟩:=Ja;have cS:Hid (Ch (aH mb) a G):=Z (mW.trans k5);have IB:=Z ((li.ch A id).ch cS (ce _ (by omega)));have hB:¬aH mb w.heap.size:=ce _ (by omega);have JF:mb≠w.heap.size:=(fun e=>hB e.symm);have JG:w.heap.size≠mb:=(fun e=>hB e);go_wp2_with (first
       |(go_at_call 63;refine(ta _).mono ?_;rintro e eC ⟨rfl,x9,mc⟩;have v0:=Z x9;have s8:=Z mc;have IX:=Z mc;have ni:=Z (fn.ch mc id);have Ji:=ni.qc (j:=3) (by rw[<-c5];rfl);have Jp:=ni.fz 1010;clear x9 mc)
       |(go_at_call 64;refine(pf _).mono ?_;rintro e ap ⟨qb,gc,qm,rfl,x8,cl,cm,cq,l'⟩;have Ib:=Z x8;have HT:=Z (And.intro cl (And.intro cm cq));have JA:=Z l';have kb:Hid (Ch (aH mb) eC ap):=Z ((((Ch.refl _ _).only _ _)).trans l'.af);have ne:=Z ((ni.km 3 (bk (G.heap.size+1))).ch l' id);have Jj:=ne.qc (j:=4) (by rw[<-c5];rfl);have Jk:=ne.fz 1011;clear x8 l' cl cm cq)
       |(go_at_call 65;refine(q5 _).mono ?_;rintro e Q ⟨rfl,xs,md⟩;have Ih:=Z xs;have JB:=Z md;have gt:Hid (Ch (aH mb) ap Q):=Z ((((Ch.refl _ _).only _ _)).trans md.af);have no:=Z ((ne.km 4 (bk qb)).ch md id);have Jl:=no.qc (j:=5) (by rw[<-c5];rfl);have Jm:=no.fz 1012;clear xs md)
       |(go_at_call 66;refine(oF _).mono ?_;rintro e k4 ⟨rfl,x7,lw⟩;have I8:=Z x7;have Jz:=Z lw;have fb:Hid (Ch (aH mb) Q k4):=Z ((((Ch.refl _ _).only _ _)).trans lw.af);have nd:=Z ((no.km 5 (bk _)).ch lw id);have Jn:=nd.qc (j:=6) (by rw[<-c5];rfl);have Jo:=nd.fz 1013;have Jh:=((((IB.ch IX.out id).ch kb hB).ch gt hB).ch fb hB).cell (i:=1) rfl;clear x7 lw)
       |fail)
      obtain⟨s3,mL⟩:=nm (k4.setCell (mb,1013) (.pointer (some (Q.heap.size+1,0))));have hi:=nd.km 6 (bk (Q.heap.size+1));rw[show k4.setCell (mb,1007+6) (bk (Q.heap.size+1))=s3 from mL]at hi;have eW:Hid (Ch (aH mb) k4 s3):=Z (by rw[<-mL];exact(Ch.refl _ _).only _ _);obtain⟨H8,re⟩:∃q,(((post.set 3 (bk (G.heap.size+1))).set 4 (bk qb)).set 5 (bk (ap.heap.size+1))).set 6 (bk (Q.heap.size+1))=q:=⟨_,rfl⟩;rw[re]at hi;have hl:=Z re;have hi:=Z hi;have tb:=AO mb pre (fJ calls k) H8 wb n wi na tt s3 hi ⟨by rw[<-hl,<-c5];rfl,by rw[<-nx];rfl,by rw[<-nx];rfl,dr.1,dr.2,by omega,l1.2.1,by omega,l1.2.2.2⟩ (by rw[<-hl,<-c5];simp) nC.1 nC.2 (by have:=hm.out;omega);rw[mL];clear mL re Ji Jp Jj Jk Jl Jm Jn Jo Jh
      (with_reducible refine tb.mono ?_)
      clear tb;rintro e c9 ⟨rfl,m,c,d,fz,x3,Do,y0,cl,cm,cq,i3,z4⟩;have tw:=Z x3;have I4:=Z Do;have HU:=Z y0;have HS:=Z (And.intro cl (And.intro cm (And.intro cq i3)));have eS:=Z z4;clear x3 Do y0 cl cm cq i3 z4;have kd:Hid (Ch (aH mb) G c9):=Z (((((s8.af.trans kb).trans gt).trans fb).trans eW).trans eS);have vn:=Z (((c0.ch A id).ch cS (ce _ (by omega))).ch kd (ce _ (by omega)));have x1:=vn.k 1 rfl;have K7:=tw.qc (j:=8) (v:=.slice (some (wb,0)) n n) (by rw[<-hl,<-c5];rfl);have cd:Hid (Ch (aH mb) w4 a):=Z s7.af;have wh:wb≠mb:=Row.ne c6 bx.row (by decide);have Ii:Hid (Row c9 wb 120 ((rk n loop 0).flatMap fun x=>x.cells (.slice none 0 0))):=Z (c6.ch ((cd.trans cS).trans kd) (fun e=>wh e));go_wp2
      go_loopg [150] (n+1) (fun ov i wr=>∃q:Nat,q<=n/\ov=n-q+1/\i=.int .i64 q/\Hid (Row wr wb 120 ((rk n loop q).flatMap fun x=>x.cells (.slice none 0 0)))/\Hid (Ch (aH wb) c9 wr))
      case atStart=>exact⟨0,by omega,by omega,rfl,Ii,Z (Ch.refl _ _)⟩
      case round=>
       obtain⟨q,JT,rfl,rfl,lb,I⟩:=hrel;have Kb:=(vn.ch I (fun e=>by have f:w.heap.size+1=wb:=e;have V:=fr.2.2.1;have c2:=Nat.lt_of_lt_of_le c0.lt c3.size;omega)).cell (i:=1) rfl;have ty:=Z (tw.ch I (fun e=>wh e.symm));have Kf:=ty.qc (j:=8) (v:=.slice (some (wb,0)) n n) (by rw[<-hl,<-c5];rfl);by_cases cA:q<n
       ·have J6:(q:Int)<n:=by omega
        have mv:=oV n loop q q cA;rw[if_neg (by omega)]at mv;have JE:wr.cell? ⟨wb,q*38+4,none⟩=some (.int .i64 0):=lb.at (fun x=>aC.len (x,_)) mv (by omega) rfl;have JI:=lb.free (q*38+4);have Ic:=Z mv;clear mv;go_wp2_with fail
        refine wp_region_still_tail 10 (by kernel_rfl) (by kernel_rfl) ?_;simp only[List.take_succ_cons,List.take_zero,List.drop_succ_cons,List.drop_zero]
        repeat still_step
        try refine wpStill_nil ?_
        change wpList _ _ _ _ _ wr.drew;go_wp2
        go_roundg (n-q)
        case measure=>omega
        case rel=>
         exact⟨q+1,by omega,by omega,by go_num,Z (lb.drew.put (fun x=>aC.len (x,_)) Ic (by omega) rfl),Z (I.drew.only _ _)⟩
       ·have J6:¬(q:Int)<n:=by omega
        have J7:q=n:=(by omega);subst J7;have tl:Hid (mb<G.heap.size/\wb<G.heap.size):=Z ⟨Nat.lt_of_lt_of_le bx.lt (Nat.le_trans cd.size cS.size),Nat.lt_of_lt_of_le c6.lt (Nat.le_trans cd.size cS.size)⟩;have s6:Hid (Ch (aH mb) w4 c9):=Z ((cd.trans cS).trans kd);have d1:c1≠mb:=Row.ne av.head bx.row (by decide);have d2:g2≠mb:=Row.ne av.heap.head bx.row (by decide);have d3:mb≠c7:=gb bx.row av.heap.map;have d4:mb≠g3:=gb bx.row av.fl;have d5:mb≠tm:=gb bx.row l0;have dC:c1≠wb:=Row.ne av.head c6 (by decide);have hF:g2≠wb:=Row.ne av.heap.head c6 (by decide);have i0:wb≠c7:=gb c6 av.heap.map;have lm:wb≠g3:=gb c6 av.fl;have IR:wb≠tm:=gb c6 l0;have Ip:Hid (aX wr c1 g2 c7 g3 (.slice none 0 0) aN.new):=Z ((av.ch s6 d1 d2 (fun e=>d3 e.symm) (fun e=>d4 e.symm) (fun g J=>by cases J)).ch I dC hF (fun e=>i0 e.symm) (fun e=>lm e.symm) (fun g J=>by cases J));have Iv:Hid (bS (α:=Nat) wr tm .u64 bk []):=Z ((l0.ch s6 (fun e=>d5 e.symm)).ch I (fun e=>IR e.symm));have H:∀x,G.heap.size<=x->¬aH mb x/\¬aH wb x:=(fun x g9=>⟨fun e=>by have f:x=mb:=e;have:=tl.1;omega,fun e=>by have f:x=wb:=e;have:=tl.2;omega⟩);have Kg:=s8.size;have Kl:=kb.size;have Kk:=gt.size;have Km:=fb.size;have Ki:=eW.size;have Kj:=eS.size;have HQ:Hid (Ch (aH mb) eC c9):=Z ((((kb.trans gt).trans fb).trans eW).trans eS);have HO:Hid (Ch (aH mb) ap c9):=Z (((gt.trans fb).trans eW).trans eS);have HR:Hid (Ch (aH mb) Q c9):=Z ((fb.trans eW).trans eS);have HN:Hid (Ch (aH mb) k4 c9):=Z (eW.trans eS);have It:Hid (eP wr (G.heap.size+1) G.heap.size []):=Z ((v0.ch HQ (H _ (by omega)).1 (H _ (by omega)).1).ch I (H _ (by omega)).2 (H _ (by omega)).2);have IT:=HT.out;have H9:∀x,eC.heap.size<=x->¬aH mb x/\¬aH wb x:=(fun x g9=>H x (by omega));have os:eC.heap.size<=qb/\eC.heap.size<=gc/\eC.heap.size<=qm:=(by simpa using IT);have Is:Hid (iE wr qb gc qm (List.replicate 8 [])):=Z (by
         have yk:∀i,QD qb gc qm (List.replicate 8 []) i->eC.heap.size<=i:=fun i F=>by
          rcases F with rfl|rfl|rfl|⟨s,J8,_⟩
          ·exact os.1
          ·exact os.2.1
          ·exact os.2.2
          ·have:s∈(List.replicate 8 ([]:List Sl)).flatten:=J8
           simp at this
         exact(Ib.ch HO (fun i F=>(H9 i (yk i F)).1)).ch I (fun i F=>(H9 i (yk i F)).2))
        have Iu:=Z ((Ih.ch HR (H _ (by simp;omega)).1 (H _ (by simp;omega)).1).ch I (H _ (by simp;omega)).2 (H _ (by simp;omega)).2);have Ir:=Z ((I8.ch HN (H _ (by simp;omega)).1 (H _ (by simp;omega)).1).ch I (H _ (by simp;omega)).2 (H _ (by simp;omega)).2);have JJ:=HS.out;have Iq:=Z (I4.ch I (H _ (by omega)).2 (H _ (by omega)).2 (H _ (by omega)).2);have Ik:=Z (HU.ch I (H _ (by omega)).2 (fun g J=>by cases J));have gs:Hid (Ch (aH mb) ge c9):=Z (k5.trans kd);have Kn:wb<a.heap.size/\mb<a.heap.size:=⟨Nat.lt_of_lt_of_le c6.lt cd.size,Nat.lt_of_lt_of_le bx.lt cd.size⟩;have Ke:=cW.size;have ec:=Ie.out;have cL:=If.out;have ih:=Ig.out;obtain⟨⟨JX,z5⟩,I',p3⟩:=ec;obtain⟨⟨JY,z9⟩,J0,p8⟩:=cL;obtain⟨⟨JZ,zh⟩,J1,JM⟩:=ih;have ch:∀x,a.heap.size<=x->¬aH mb x/\¬aH wb x:=(fun x g9=>⟨fun e=>by have f:x=mb:=e;omega,fun e=>by have f:x=wb:=e;omega⟩);have Il:=Z (((z5.ch he (ch _ p3).1).ch gs (ch _ p3).1).ch I (ch _ p3).2);have Im:=Z (((z9.ch he (ch _ p8).1).ch gs (ch _ p8).1).ch I (ch _ p8).2);have Io:=Z ((zh.ch gs (ch _ (by omega)).1).ch I (ch _ (by omega)).2);obtain⟨N,Y⟩:=nm (vf l loop calls p en wi na);have Iw:Hid (Row wr wb 120 ((List.replicate q (aC.new N.loop)).flatMap fun x=>x.cells (.slice none 0 0))):=Z (by
         have:=lb.out;rw[A9]at this;rw[<-Y];exact this)
        have wk:pre=kV N (l7 mb m c d fz c1 g2 c7 g3 (G.heap.size+1) G.heap.size qb gc qm (ap.heap.size+1) ap.heap.size (Q.heap.size+1) Q.heap.size tm wb hu g0 hv g1 ll hw):=(by rw[<-nx,<-Y,nq,c4,nw];rfl);have wl:(H8.set 0 (bk m)).set 1 (bk fz)=hx (l7 mb m c d fz c1 g2 c7 g3 (G.heap.size+1) G.heap.size qb gc qm (ap.heap.size+1) ap.heap.size (Q.heap.size+1) Q.heap.size tm wb hu g0 hv g1 ll hw) (.slice none 0 0) q 0 0 0 0:=(by rw[<-hl,<-c5];rfl);have wn:fJ calls k=N.rows:=(by rw[<-Y,c4];rfl);have ob:=ty.out;rw[wk,wl,wn]at ob;have on:N.wide.toNat=wi:=(by rw[<-Y];exact Int.toNat_natCast wi);have ok:N.narrow.toNat=na:=(by rw[<-Y];exact Int.toNat_natCast na);have v5:aO wr m c d (kp N q tt).mem:=(by show aO wr m c d (fY tt q N.wide.toNat N.narrow.toNat);rw[on,ok];exact Iq);have v4:aT wr fz m (.slice none 0 0) (kp N q tt).blocks:=(by show aT wr fz m (.slice none 0 0) ⟨17+8*q+N.wide.toNat+N.narrow.toNat,tt,[]⟩;rw[on,ok];exact Ik);have Kh:w.heap.size<=w3.heap.size:=Nat.le_trans cb.size c3.size;have Kc:w3.heap.size<=a.heap.size:=Nat.le_trans HV.size cd.size;have z59:=cS.size;have JK:=fr.out;have J':=av.heap.map.lt;have K0:=av.fl.lt;have K2:=l0.lt;have Kd:=cd.size;have K1:=v0.Co;have v9:aW wr (ap.heap.size+1) ap.heap.size (List.replicate 64 aF.zero):=(by have h:=Iu.out;rw[World.size_setCell]at h;exact h);have v6:bP wr (Q.heap.size+1) Q.heap.size (List.replicate 64 bq.zero):=(by have h:=Ir.out;rw[World.size_setCell]at h;exact h);have vk:=uU (B:=w.heap.size) (C:=N) (n:=q) (tt:=tt) dr.2 ob v5 v4 Ip It Is v9 v6 Iv Iw (by rw[<-Y];exact Il) (by rw[<-Y];exact Im) (by rw[<-Y];exact Io)
         (by rw[<-Y];show l.length<=g0;rw[<-nq];exact I') (by rw[<-Y];show calls.length<=g1;rw[<-c4];exact J0) (by rw[<-Y];show p.length<=hw;rw[<-nw];exact J1)
         (by omega) (fun e=>un.1 e.symm) (fun e=>un.2 e.symm) (by omega) (by omega) (by omega) (by omega) (by omega) (by omega) (by omega) (by omega) (by omega)
        have kT:=Z vk;have n2:=Z Y;have i4:=wM N q tt dr.1 dr.2 nC.2 (by rw[on,ok];have:=hm.out;omega);obtain⟨HM,mS⟩:∃χ,hZ wr w.heap.size G.heap.size tm qm=χ:=⟨_,rfl⟩;rw[mS]at kT;have v3:Hid (∀i,HM i≠ .no->w.heap.size<=i):=Z (fun i F=>by rw[<-mS]at F;exact(pW F).1);have I7:Hid (hD HM):=Z (fun i=>by rw[<-mS];exact uS i);obtain⟨vc,p2⟩:∃L,(l7 mb m c d fz c1 g2 c7 g3 (G.heap.size+1) G.heap.size qb gc qm (ap.heap.size+1) ap.heap.size (Q.heap.size+1) Q.heap.size tm wb hu g0 hv g1 ll hw)=L:=⟨_,rfl⟩;rw[p2]at kT;have ql:vc.mb=mb:=(by rw[<-p2];rfl);obtain⟨le,p1⟩:∃K,kp N q tt=K:=⟨_,rfl⟩;rw[p1]at kT i4;have I0:=Z p1;have z0:=i4.bI.ok (by omega);have z2:=(nk i4.bI i4.mem 1).1.ok (by omega);have pm:=i4.fresh (by omega);have sv:=Z (vd en 0 z0 z2 pm kT);have H':=Z (k6 (K:=le) en 0 pm);rw[ql]at sv;have tr:=Z ql;have s9:Hid (Ch ag w wr):=Z (((cb.trans A).fresh ((cW.trans he).trans gs) (fun x g9 e=>(ce x (by omega)) e)).fresh I (fun x g9 e=>by have f:x=wb:=e;omega));have Ka:=(((S.ch A id).ch ((cW.trans he).trans gs) (ce _ (by omega))).ch I (fun e=>by have f:w.heap.size+2=wb:=e;have c2:=Nat.lt_of_lt_of_le S.lt c3.size;omega)).cell (i:=1) rfl;clear wk wl wn ob v5 v4 v9 v6 vk mS p2 p1 z0 z2 pm ql Y z5 z9 zh;go_wp2_with fail
        (with_reducible refine sv.out.mono ?_)
        rintro e am ⟨rfl,dZ,Y1,f,H6⟩;have Iz:=Z (H6 I7);clear H6;have sl:=Z f;have wd:=f.at_.nX;rw[tr]at wd;clear f;go_wp2_with fail
        (with_reducible refine(yL _ sl.out.at_).mono ?_)
        rintro e K9 ⟨⟨v,rfl,_⟩,Jx,IE,V,H7⟩;have IA:=Z (H7 Iz);clear H7;have st:=Z (sl.trans H' V);clear V wd;go_wp2
        go_ret2;have H5:=st.nx;refine Or.inl ⟨hm,Jx,vc,IE,by rw[tr];rfl,?_,?_,IA,?_⟩
        ·have IQ:hY (vf l loop calls p en wi na) q tt={(bQ le en 0).2 with ring:=(hG (bQ le en 0).2.ring (bQ le en 0).1).2}:=by rw[n2,<-I0];unfold hY;rw[show N.entry=en by rw[<-n2];rfl]
         rw[IQ,n2];exact st.at_
        ·intro i F
         rcases Nat.lt_or_ge i wr.heap.size with h|h
         ·exact v3 i (by rw[<-H5.same i h];exact F)
         ·exact Nat.le_trans s9.size h
        ·exact s9.fresh H5.ch (fun x g9 qr=>by have:=v3 x qr;omega)
section
variable{cg:Bool}{l:List be}
theorem Inv.C4{N M:Nat}{K:KS}(h:Inv N M K)(id:Int)(b:id≠0->(aw K.ai id).isSome=true/\ev K.wk K.ring id=0/\st K.table id≠3):Inv N M {K with ring:=(hG K.ring id).2}:=by
 refine⟨?_,h.nd,h.q,h.b2,h.bI,h.mem,h.obj,h.draw,h.w0,h.w1,h.out⟩;have c:=h.core;refine c.fW id c.cZ (fun _ _=>rfl) (fun _ _=>rfl) (fun j g _=>⟨Nat.le_refl _,?_⟩) c.wk (fun r k f=>c.al id r k f) (fun t m=>c.ai id t m) (fun a=> ?_) (fun a _=>⟨(b a).1,(b a).2.2⟩) (fun a i=> ?_)
 ·show ev K.wk (hG K.ring id).2 j<=ev K.wk K.ring j
  unfold ev;rw[(gz K.ring id j).2 g];exact Nat.le_refl _
 ·show ev K.wk (hG K.ring id).2 id<=1
  have d:=(b a).2.1;have e:=(gz K.ring id id).1;rw[if_pos rfl]at e;unfold ev at d⊢;omega
 ·have d:=(b a).2.1
  have e:0<iO K.wk id:=i;unfold ev at d;omega
theorem yN(home:Int):dh (List.replicate 64 aF.zero) home=(some 64,(List.replicate 64 aF.zero).set 0 ⟨1,true,aF.zero.bL,⟨64,1,home,0,0,false,false⟩⟩):=by rfl
theorem E3(home:Int):st ((List.replicate 64 aF.zero).set 0 ⟨1,true,aF.zero.bL,⟨64,1,home,0,0,false,false⟩⟩) 64=1:=by rfl
theorem tB(C:KC)(n tt:Nat)(g:1<=n)(h:n<=64)(j:tt<=65536)(i:17+8*n+C.wide.toNat+C.narrow.toNat<=tt):Inv 1 0 (hY C n tt):=by
 have f:=wM C n tt g h j i;obtain⟨d,_,e⟩:=f.born (by omega) C.entry 0 bE;unfold hY;dsimp only;refine d.C4 _ (fun c=> ?_);obtain⟨t,k,q⟩:=e c;refine⟨by rw[k];rfl,q,?_⟩;generalize a:bQ (kp C n tt) C.entry 0=x at c⊢;unfold bQ at a
 revert a
 cases df (kp C n tt).blocks (kp C n tt).mem 1 with
 |mk o p=>
  obtain⟨b,m⟩:=p;cases o with
  |none=>intro a;subst a;exact absurd rfl c
  |some r=>
   dsimp only;rw[show(kp C n tt).table=List.replicate 64 aF.zero from rfl,yN];intro a;subst a;dsimp only;rw[E3];decide
theorem p7(l:List bB):∀k,∀r∈fJ l k,0<=r/\r<=k
 |0,r,a=>by
  rw[(List.mem_replicate.1 a).2];exact⟨Int.le_refl _,Int.le_refl _⟩
 |k+1,r,a=>by
  rw[fJ]at a;rcases List.mem_or_eq_of_mem_set a with h|h
  ·have:=p7 l k r h;omega
  ·rw[h];omega
theorem oW(l:List bB):∀k,(fJ l k).length=1000
 |0=>List.length_replicate
 |k+1=>by rw[fJ,List.length_set];exact oW l k
theorem oX{n:Int}:∀{l:List be} {i:Nat},gQ n cg l i=none->∀x∈l,eD x n cg=true
 |[],_,_=>fun x a=>by cases a
 |y::l,i,h=>fun x a=>by
  unfold gQ at h;split at h
  ·rename_i c
   rcases List.mem_cons.1 a with rfl|b
   ·exact c
   ·exact oX h x b
  ·cases h
theorem yO(h:jw l cg=true):∀x∈l,eD x l.length cg=true:=by
 unfold jw at h;rw[Bool.and_eq_true]at h;exact oX (Option.isNone_iff_eq_none.1 h.2)
theorem wO{loop:Int}{calls:List bB}{p:List be}{en wi na:Int}(b:fG l loop calls=true)(a:eQ p en wi na=true)(d:calls.length<=2048)
 (u1:∀x∈l,aK x.v) (u2:∀x∈p,aK x.v):ow (vf l loop calls p en wi na) where
 ll:=(jX b).2
 pl:=(mg a).2
 cl:=d
 lv:=u1
 pv:=u2
 F4:=by
  have c:jw p false=true:=by
   unfold eQ at a;simp only[Bool.and_eq_true]at a;exact a.1.2
  exact yO c
 bw:=by have:=wN a;exact this
 Eu:=oW calls _
 rows:=p7 calls _
end
section
variable{w w':World}{χ aY:Nat->a'}{C:KC}{K:KS}{D:Nat->Prop}{B1 B3 mb:Nat}
theorem ae.rl{L:cU}{Y:Var}(h:ae w χ L Y C K)(c:Ch D w w')(f:∀i,i<w.heap.size->D i->χ i=.no):ae w' χ L Y C K:=by
 have s:eT [.no] χ χ D w w':=⟨c,fun i d hd=>by rw[f i d hd];simp,fun _ _=>rfl,fun i d=>Nat.lt_of_lt_of_le (h.small i d) c.size⟩;have b:=h.step s (by simp);exact {
  head:=fun _=>b.head (by simp)
  mem:=fun _=>b.mem (by simp)
  al:=fun _=>b.al (by simp)
  b2:=fun _=>b.b2 (by simp)
  ring:=fun _=>b.ring (by simp)
  q:=fun _=>b.q (by simp)
  cZ:=fun _=>b.cZ (by simp)
  obj:=fun _=>b.obj (by simp)
  tm:=fun _=>b.tm (by simp)
  th:=fun j u a _=>b.th j u a (by simp)
  tl:=fun j u a _=>b.tl j u a (by simp)
  fr:=fun j u k e a g _=>b.fr j u k e a g (by simp)
  wk:=fun _=>b.wk (by simp)
  out:=fun _=>b.out (by simp)
  code:=fun _=>b.code (by simp)
  small:=b.small}
def MS(w:World)(χ:Nat->a')(mb:Nat)(C:KC)(K:KS):Prop:=∃L Y,L.mb=mb/\ae w χ L Y C K/\∀i,χ i≠ .out
theorem MS.rl(h:MS w χ mb C K)(c:Ch D w w')(e:∀i,i<w.heap.size->D i->χ i=.no):MS w' χ mb C K:=by
 obtain⟨L,Y,a,b,d⟩:=h;exact⟨L,Y,a,b.rl c e,d⟩
theorem MS.af(h:MS w χ mb C K)(c:Ch ag w w'):MS w' χ mb C K:=h.rl c (fun _ _ e=>False.elim e)
theorem MS.small(h:MS w χ mb C K):∀i,χ i≠ .no->i<w.heap.size:=by
 obtain⟨L,Y,b,a,c⟩:=h;exact a.small
def HI(x:List Ev×KS)(χ:Nat->a')(mb:Nat)(C:KC)(w:World)(e:Ending)(w':World):Prop:=
 ∃v aY,e=.returned v/\w'.ownsRow w.heap.size 82 11 v x.1.length (x.1.flatMap Ev.cells)/\(∀g,v.ownBlock=some g->aY g=.no)/\MS w' aY mb C x.2/\Nx χ aY w w'
theorem A'{N:Nat}(j:ow C)(k:Inv N 0 K)(l:N<=300000)(kind wk draw:Int)(hd:aK draw)(h:MS w χ mb C K):
 Calls prog 13 #[(mb,0),.agg #[kind,wk,.int .u64 draw]] w (HI (ht C K kind wk draw) χ mb C w):=by
 obtain⟨L,Y,rfl,a,b⟩:=h;refine(CP j k l kind wk draw hd b a).mono ?_;rintro e w' ⟨v,aY,Y',rfl,c,d,f,g,i⟩;exact⟨v,aY,rfl,c,d,⟨L,Y',rfl,f,i⟩,g⟩
theorem rm{B:Nat}(c:∀i,χ i≠ .no->B<=i)(h:Nx χ aY w w')(d:B<=w.heap.size):∀i,aY i≠ .no->B<=i:=fun i b=>by
 rcases Nat.lt_or_ge i w.heap.size with a|a
 ·rw[h.same i a]at b;exact c i b
 ·omega
theorem iA{w0:World}(b:∀i,χ i≠ .no->w0.heap.size<=i)(h:Nx χ aY w w')(c:Ch ag w0 w):Ch ag w0 w':=c.fresh h.ch (fun i d a=>by have:=b i a;omega)
def E4(C:KC)(n tt:Nat)(w:World)(e:Ending)(w':World):Prop:=
 ∃mb χ,e=.returned (.tuple #[.pointer (some ⟨mb,0,none⟩),.nilIface])/\MS w' χ mb C (hY C n tt)/\(∀i,χ i≠ .no->w.heap.size<=i)/\Ch ag w w'
theorem iB{g:Nat}{l:List be}{c:List Value}(h:Row w g 184 (l.flatMap dn++c)):fN w g l:=
 ⟨h.lt,fun j u a=>h.cell (by
  have b:j<(l.flatMap dn).length:=(List.getElem?_eq_some_iff.1 a).1;rw[List.getElem?_append_left b];exact a)⟩
theorem Ba(n tt:Nat)(z:1<=n/\n<=64)(A:1<=tt/\tt<=65536)(l:List be)(loop:Int)(calls:List bB)(p:List be)(en:Int)(wi na:Nat)(y:calls.length<=100000)(d:0<calls.length)
 (b:fG l loop calls=true) (c:eQ p en wi na=true) (M:17+8*n+wi+na+1<=tt) (vc vk f:Value) {B2:Nat} (w:World)
 (o:w.ownsRow B1 184 7 vc l.length (l.flatMap dn)) (q:w.ownsRow B2 158 6 vk calls.length (calls.flatMap bB.cells)) (r:w.ownsRow B3 184 7 f p.length (p.flatMap dn))
 (x:w.cell? (0,0)=some (.iface 390 (.agg #[(4,85)]))):
 Calls prog 34 #[.agg #[.int .i64 n,.int .i64 tt],.agg #[vc,loop,vk],.agg #[f,en,.int .i64 wi,.int .i64 na]] w (E4 (vf l loop calls p en wi na) n tt w):=by
 obtain⟨k,g,N,rfl,_,E,_,H,_⟩:=aE o (jX b).1;obtain⟨a,i,B,rfl,_,F,_,I,_⟩:=aE q d;obtain⟨m,j,O,rfl,_,G,_,J,_⟩:=aE r (mg c).1;refine(tA n tt z A l k g loop calls (some ⟨a,0,none⟩) i p m j en wi na E F G y w (iB H) (iB J) (Or.inl ⟨a,B,rfl,d,I⟩) b c x).mono ?_;rintro e w' (⟨_,χ,L,Y,rfl,s,t,u,v⟩|⟨h,_⟩)
 rotate_left
 ·omega
 exact⟨L.mb,χ,rfl,⟨L,Y,rfl,s,u⟩,t,v⟩
end
def Fu:List be×List (ByteArray×Int):=(iV ⟨#[115,101,116,32,114,49,32,53,10,115,116,32,114,49,32,91,48,93,10,114,101,116,10]⟩).getD ([],[])
theorem E5:iV ⟨#[115,101,116,32,114,49,32,53,10,115,116,32,114,49,32,91,48,93,10,114,101,116,10]⟩=some Fu:=by kernel_rfl
def nr:KC:=vf jE.1 0 [⟨6,3,0,0,0,0⟩] Fu.1 0 1 0
def Bb:KS:=hY nr 1 90
def yP:KS:=(ht nr Bb 1 0 0).2
def yQ:KS:=(ht nr yP 1 0 0).2
def po:KS:=(ht nr yQ 1 0 0).2
def Hh:KS:=(ht nr po 1 0 0).2
theorem Bc:fG jE.1 0 [⟨6,3,0,0,0,0⟩]=true:=by kernel_rfl
theorem wP:eQ Fu.1 0 1 0=true:=by kernel_rfl
theorem Gi:(ht nr Bb 1 0 0).1=[]:=by kernel_rfl
theorem Gj:(ht nr yP 1 0 0).1=[]:=by kernel_rfl
theorem Gk:(ht nr yQ 1 0 0).1=[]:=by kernel_rfl
theorem Gl:(ht nr po 1 0 0).1=[⟨3,3,0,64,18,0,5,0,0,0,0⟩]:=by kernel_rfl
theorem C5:gT Hh=25:=by kernel_rfl
def vg(l:List be):Bool:=l.all fun x=>decide (0<=x.v)&&decide (x.v<18446744073709551616)
theorem mh{l:List be}(h:vg l=true):∀x∈l,aK x.v:=fun x a=>by
 have:=List.all_eq_true.1 h x a;rw[Bool.and_eq_true,decide_eq_true_eq,decide_eq_true_eq]at this;exact this
theorem tC:ow nr:=wO Bc wP (by decide) (mh (by kernel_rfl)) (mh (by kernel_rfl))
theorem DL:Inv 1 0 Bb:=tB nr 1 90 (by decide) (by decide) (by decide) (by decide+kernel)
theorem DM:Inv 2 0 yP:=q4 tC DL (by decide) 1 0 0 bE
theorem DN:Inv 3 0 yQ:=q4 tC DM (by decide) 1 0 0 bE
theorem Gm:Inv 4 0 po:=q4 tC DN (by decide) 1 0 0 bE
def E6:Nat->KS
 |0=>Bb
 |1=>yP
 |2=>yQ
 |_=>po
def Hi(k:Nat)(χ:Nat->a')(mb:Nat)(w:World)(e:Ending)(w':World):Prop:=∃a c aY,e=.returned (.slice a 0 c)/\MS w' aY mb nr (E6 (k+1))/\Nx χ aY w w'
theorem Gn(k:Nat)(n:k<3)(w:World)(χ:Nat->a')(mb:Nat)(h:MS w χ mb nr (E6 k)):
 Calls prog 13 #[(mb,0),.agg #[.int .i64 1,.int .i64 0,.int .u64 0]] w (Hi k χ mb w):=by
 have H:∀(K K':KS) (N:Nat),Inv N 0 K->N<=300000->(ht nr K 1 0 0).1=[]->(ht nr K 1 0 0).2=K'->MS w χ mb nr K->Calls prog 13 #[(mb,0),.agg #[.int .i64 1,.int .i64 0,.int .u64 0]] w (fun e w'=>∃a c aY,e=.returned (.slice a 0 c)/\MS w' aY mb nr K'/\Nx χ aY w w'):=by
  intro K K' N i j f g l;refine(A' tC i j 1 0 0 bE l).mono ?_;rintro e w' ⟨v,aY,rfl,d,_,b,m⟩;rw[f]at d;obtain⟨a,c,rfl⟩:=au d;rw[g]at b;exact⟨a,c,aY,rfl,b,m⟩
 rcases(show k=0∨k=1∨k=2 by omega)with rfl|rfl|rfl
 ·exact H Bb yP 1 DL (by decide) Gi rfl h
 ·exact H yP yQ 2 DM (by decide) Gj rfl h
 ·exact H yQ po 3 DN (by decide) Gk rfl h
def Gp(w:World)(mb:Nat)(i:Value)(wr:World):Prop:=∃(k:Nat) (χ:Nat->a'),k<=3/\i=.int .i64 k/\MS wr χ mb nr (E6 k)/\(∀i,χ i≠ .no->w.heap.size<=i)/\Ch ag w wr
theorem yR(w:World)(p:w.cell? (0,0)=some (.iface 390 (.agg #[(4,85)]))):
 Calls prog 10 #[] w (ds (.bool true) w):=by
 have s:=Z p;have W:=Z (fun w=>me _ _ E5 w);have a0:=Z (fun w=>yK w);have V:Hid (∀(vc vk f:Value) (B1 B2 B3:Nat) (w:World),w.ownsRow B1 184 7 vc jE.1.length (jE.1.flatMap dn)->w.ownsRow B2 158 6 vk 1 [.int .i64 6,.int .i64 3,.int .i64 0,.int .i64 0,.int .i64 0,.int .i64 0]->w.ownsRow B3 184 7 f Fu.1.length (Fu.1.flatMap dn)->
  w.cell? (0,0)=some (.iface 390 (.agg #[(4,85)]))->
  Calls prog 34 #[.agg #[.int .i64 1,.int .i64 90],.agg #[vc,.int .i64 0,vk],.agg #[f,.int .i64 0,.int .i64 1,.int .i64 0]] w (E4 nr 1 90 w)):=
  Z (fun vc vk f B1 B2 B3 w ad al am p=>Ba 1 90 (by decide) (by decide) jE.1 0 [⟨6,3,0,0,0,0⟩] Fu.1 0 1 0 (by decide) (by decide) Bc wP (by decide) vc vk f w ad al am p)
 go_in
 go_wp2_with fail
 refine(W _).mono ?_;rintro e w1 ⟨f,vl,rfl,x,_,av⟩;obtain⟨ce,ck,rfl⟩:=au x;have G:=Z x;have h:=Z av;go_wp2_with fail
 refine(a0 _).mono ?_;rintro e w2 ⟨v2,rfl,⟨vc,vk,rfl,z,A⟩,y⟩;obtain⟨ac,ch,rfl⟩:=au z;obtain⟨cd,ci,rfl⟩:=au A;have Q:=Z z;have R:=Z A;have j:=Z y;have H:=Z (ak G y (fun _ _ e=>e));go_wp2_with fail
 refine(V _ _ _ _ _ _ _ Q R H (((h.trans j).cell (aQ s) id).trans s)).mono ?_;rintro e w3 ⟨mb,E,rfl,c1,bw,bi⟩;have S:=Z c1;have F:=Z ((h.trans j).trans bi);have N:Hid (∀i,E i≠ .no->w.heap.size<=i):=Z (fun i bx=>by have:=bw i bx;have:=(h.trans j).size;omega);go_upto_block 0 with fail
 go_cut [] (fun wc=>∃χ,MS wc χ mb nr po/\(∀i,χ i≠ .no->w.heap.size<=i)/\Ch ag w wc)
 case first=>
  go_wp2
  go_loopw [6] (fun i wr=>Gp w mb i wr) (fun i _=>3-(intOf i).toNat)
  case atStart=>exact⟨0,E,by omega,rfl,S,N,F⟩
  case round=>
   obtain⟨k,χ,cm,rfl,c,g,d⟩:=hrel;by_cases c0:k<3
   ·have l:=Z (Gn k c0 wr χ mb c)
    have b:=Z g;have a:=Z d;have t:=Z c;go_wp2_with fail
    with_reducible refine l.out.mono ?_
    rintro e w4 ⟨cb,cf,c7,rfl,c2,B⟩;have T:=Z c2;have O:=Z (rm b.out B a.size);have I:=Z (iA b B a);go_wp2
    go_roundw
    case rel=>exact⟨k+1,c7,by omega,by go_num,T,O,I⟩
    case measure=>simp[intOf];omega
   ·have a2:k=3:=by omega
    subst a2;have t:=Z c;have b:=Z g;have a:=Z d;go_wp2
    go_meet
    exact⟨χ,t,b,a⟩
 case rest=>
  obtain⟨χ,c,g,d⟩:=hcut;obtain⟨cQ,c5⟩:=nm wc;rw[c5]at c d⊢;have l:=Z (A' tC Gm (by decide) 1 0 0 bE c);have b:=Z g;have a:=Z d;go_wp2_with fail
  with_reducible refine l.out.mono ?_
  rintro e cS ⟨cL,dr,rfl,D,bv,c3,C⟩;rw[Gl]at D;obtain⟨ab,a1,cq,rfl,_,ap,_,c4,_⟩:=aE D (by decide);have X:=Z c4;have M:=Z (bv ab rfl);have cl:1<=a1:=ap;have P:=Z (rm b.out C a.size);have J:=Z (iA b C a);obtain⟨L,Y,r,q,_⟩:=c3;have U:=Z r;have c8:=Z q;have u:=Z (lT q);have n:=Z (xG 25 ⟨by decide,by decide⟩ q);have a3:gT (ht nr po 1 0 0).2=25:=C5;rw[a3,r]at u;rw[r]at n;have a4:(mM (ht nr po 1 0 0).2 25).1=5:=by kernel_rfl
  have a5:(mM (ht nr po 1 0 0).2 25).2.1=true:=by kernel_rfl
  rw[a4,a5]at n;go_wp2_with fail
  with_reducible refine u.out.mono ?_
  rintro e c6 ⟨rfl,rfl⟩;go_wp2_with fail
  with_reducible refine n.out.mono ?_
  rintro e c6 ⟨rfl,dC,c9,o⟩;have m:=Z (X.ch o.nx.ch (fun e=>e M));have K:=Z (iA P o.nx J);have v:=Z (qN o.at_);have a9:((mM (ht nr po 1 0 0).2 25).2.2).entries=4:=by kernel_rfl
  rw[a9,U]at v;have cs:=m.c1;have cA:=m.k 3 rfl;have cC:=m.k 6 rfl;go_wp2_with fail
  with_reducible refine v.out.mono ?_
  rintro e cW ⟨rfl,rfl⟩;go_wp2
  go_ret;exact⟨rfl,K⟩
structure oY where
 num:Int
 name:ByteArray
 Bd:ByteArray
 oZ:Int
 k0:Int
 k1:Int
 k2:Int
 k3:Int
def p9(r:oY):List Value:=[.int .i64 r.num,.string r.name,.string r.Bd,.int .i64 r.oZ,.int .i64 r.k0,.int .i64 r.k1,.int .i64 r.k2,.int .i64 r.k3]
theorem yS(r:oY):(p9 r).length=8:=rfl
def dJ:List oY:=[⟨1,⟨#[99,114,101,97,116,101]⟩,⟨#[99,98,111,114,110]⟩,17,0,0,0,0⟩,
 ⟨2,⟨#[101,120,105,116]⟩,⟨#[99,101,120,105,116]⟩,17,0,0,0,0⟩,
 ⟨3,⟨#[106,111,105,110]⟩,⟨#[99,106,111,105,110]⟩,17,0,0,0,0⟩,
 ⟨4,⟨#[100,101,116,97,99,104]⟩,⟨#[99,108,111,111,115,101]⟩,17,0,0,0,0⟩,
 ⟨5,⟨#[115,101,108,102]⟩,⟨#[99,115,101,108,102]⟩,17,0,0,0,0⟩,
 ⟨6,⟨#[121,105,101,108,100]⟩,⟨#[99,121,105,101,108,100]⟩,17,0,0,0,0⟩,
 ⟨7,⟨#[115,108,101,101,112]⟩,⟨#[99,115,108,101,101,112]⟩,17,0,0,0,0⟩,
 ⟨8,⟨#[110,111,119]⟩,⟨#[99,110,111,119]⟩,17,0,0,0,0⟩,
 ⟨10,⟨#[109,117,116,101,120,32,105,110,105,116]⟩,⟨#[99,109,105,110,105,116]⟩,18,0,0,0,0⟩,
 ⟨11,⟨#[109,117,116,101,120,32,100,101,115,116,114,111,121]⟩,⟨#[99,109,103,111,110,101]⟩,18,1,0,0,0⟩,
 ⟨12,⟨#[109,117,116,101,120,32,108,111,99,107]⟩,⟨#[99,109,108,111,99,107]⟩,18,1,0,0,0⟩,
 ⟨13,⟨#[109,117,116,101,120,32,116,114,121,108,111,99,107]⟩,⟨#[99,109,116,114,121]⟩,18,1,0,0,0⟩,
 ⟨14,⟨#[109,117,116,101,120,32,116,105,109,101,100,108,111,99,107]⟩,⟨#[99,109,116,105,109,101,100]⟩,18,1,0,0,0⟩,
 ⟨15,⟨#[109,117,116,101,120,32,117,110,108,111,99,107]⟩,⟨#[99,109,102,114,101,101]⟩,18,1,0,0,0⟩,
 ⟨20,⟨#[115,101,109,32,105,110,105,116]⟩,⟨#[99,115,105,110,105,116]⟩,19,0,0,0,0⟩,
 ⟨21,⟨#[115,101,109,32,100,101,115,116,114,111,121]⟩,⟨#[99,115,103,111,110,101]⟩,19,2,0,0,0⟩,
 ⟨22,⟨#[115,101,109,32,119,97,105,116]⟩,⟨#[99,115,119,97,105,116]⟩,19,2,0,0,0⟩,
 ⟨23,⟨#[115,101,109,32,116,114,121,119,97,105,116]⟩,⟨#[99,115,116,114,121]⟩,19,2,0,0,0⟩,
 ⟨24,⟨#[115,101,109,32,116,105,109,101,100,119,97,105,116]⟩,⟨#[99,115,116,105,109,101,100]⟩,19,2,0,0,0⟩,
 ⟨25,⟨#[115,101,109,32,112,111,115,116]⟩,⟨#[99,115,112,111,115,116]⟩,19,2,0,0,0⟩,
 ⟨26,⟨#[115,101,109,32,103,101,116]⟩,⟨#[99,115,103,101,116]⟩,19,2,0,0,0⟩,
 ⟨30,⟨#[111,110,99,101,32,105,110,105,116]⟩,⟨#[99,111,105,110,105,116]⟩,20,0,0,0,0⟩,
 ⟨31,⟨#[111,110,99,101]⟩,⟨#[99,111,110,99,101]⟩,20,3,0,0,0⟩,
 ⟨40,⟨#[98,97,114,114,105,101,114,32,105,110,105,116]⟩,⟨#[99,98,105,110,105,116]⟩,21,0,0,0,0⟩,
 ⟨41,⟨#[98,97,114,114,105,101,114,32,100,101,115,116,114,111,121]⟩,⟨#[99,98,103,111,110,101]⟩,21,4,0,0,0⟩,
 ⟨42,⟨#[98,97,114,114,105,101,114,32,119,97,105,116]⟩,⟨#[99,98,119,97,105,116]⟩,21,4,0,0,0⟩,
 ⟨50,⟨#[114,119,108,111,99,107,32,105,110,105,116]⟩,⟨#[99,114,105,110,105,116]⟩,22,0,0,0,0⟩,
 ⟨51,⟨#[114,119,108,111,99,107,32,100,101,115,116,114,111,121]⟩,⟨#[99,114,103,111,110,101]⟩,22,5,0,0,0⟩,
 ⟨52,⟨#[114,119,108,111,99,107,32,114,101,97,100]⟩,⟨#[99,114,114,101,97,100]⟩,22,5,0,0,0⟩,
 ⟨53,⟨#[114,119,108,111,99,107,32,116,114,121,114,101,97,100]⟩,⟨#[99,114,116,114,121,114]⟩,22,5,0,0,0⟩,
 ⟨54,⟨#[114,119,108,111,99,107,32,116,105,109,101,100,114,101,97,100]⟩,⟨#[99,114,116,114,101,97,100]⟩,22,5,0,0,0⟩,
 ⟨55,⟨#[114,119,108,111,99,107,32,119,114,105,116,101]⟩,⟨#[99,114,119,114,105,116,101]⟩,22,5,0,0,0⟩,
 ⟨56,⟨#[114,119,108,111,99,107,32,116,114,121,119,114,105,116,101]⟩,⟨#[99,114,116,114,121,119]⟩,22,5,0,0,0⟩,
 ⟨57,⟨#[114,119,108,111,99,107,32,116,105,109,101,100,119,114,105,116,101]⟩,⟨#[99,114,116,119,114,105,116]⟩,22,5,0,0,0⟩,
 ⟨58,⟨#[114,119,108,111,99,107,32,117,110,108,111,99,107]⟩,⟨#[99,114,102,114,101,101]⟩,22,5,0,0,0⟩,
 ⟨60,⟨#[99,111,110,100,32,105,110,105,116]⟩,⟨#[99,99,105,110,105,116]⟩,23,0,0,0,0⟩,
 ⟨61,⟨#[99,111,110,100,32,100,101,115,116,114,111,121]⟩,⟨#[99,99,103,111,110,101]⟩,23,6,0,0,0⟩,
 ⟨62,⟨#[99,111,110,100,32,119,97,105,116]⟩,⟨#[99,99,119,97,105,116]⟩,23,6,1,0,0⟩,
 ⟨63,⟨#[99,111,110,100,32,116,105,109,101,100,119,97,105,116]⟩,⟨#[99,99,116,105,109,101,100]⟩,23,6,1,0,0⟩,
 ⟨64,⟨#[99,111,110,100,32,115,105,103,110,97,108]⟩,⟨#[99,99,115,105,103,110]⟩,23,6,0,0,0⟩,
 ⟨65,⟨#[99,111,110,100,32,98,114,111,97,100,99,97,115,116]⟩,⟨#[99,99,98,114,111,97,100]⟩,23,6,0,0,0⟩,
 ⟨70,⟨#[102,117,116,101,120,32,119,97,105,116]⟩,⟨#[99,102,119,97,105,116]⟩,16,7,0,0,0⟩,
 ⟨71,⟨#[102,117,116,101,120,32,119,97,107,101]⟩,⟨#[99,102,119,97,107,101]⟩,16,7,0,0,0⟩,
 ⟨72,⟨#[102,117,116,101,120,32,114,101,113,117,101,117,101]⟩,⟨#[99,102,114,101,113]⟩,16,7,0,7,0⟩,
 ⟨73,⟨#[102,117,116,101,120,32,99,109,112,114,101,113,117,101,117,101]⟩,⟨#[99,102,99,109,112]⟩,16,7,0,7,0⟩]
def rn:Operand->List ByteArray
 |.const (.string s)=>[s]
 |_=>[]
def E7:Op->List ByteArray
 |.buildSlice _ _ a=>a.toList.flatMap fun x=>rn x.2
 |.call c=>c.args.toList.flatMap rn
 |.binOp _ _ _ b _=>rn b
 |_=>[]
def gF:Code->List ByteArray
 |.seq a b=>gF a++gF b
 |.region _ ops _=>ops.toList.flatMap fun o=>E7 o.op
 |_=>[]
set_option maxRecDepth 1000000 in
theorem Be:∃l:List ByteArray,l.length=10/\l=(Tryz.f72.body.map gF).getD []/\(∀x∈l,x.size<=20000)/\
 ∀w,Calls prog 72 #[.int .i64 16] w (fun e w'=>e=.returned (.string (((ByteArray.empty++l.getD 0 ByteArray.empty)++l.getD 1 ByteArray.empty)++l.getD 2 ByteArray.empty))/\Ch ag w w'):=by
 have hlen:((Tryz.f72.body.map gF).getD []).length=10:=by kernel_rfl
 have g:((Tryz.f72.body.map gF).getD []).all (fun x=>decide (x.size<=20000))=true:=by kernel_rfl
 refine⟨(Tryz.f72.body.map gF).getD [],hlen,rfl,fun x d=>of_decide_eq_true (List.all_eq_true.1 g x d),fun w=> ?_⟩;obtain⟨a,j⟩:=nm ((Tryz.f72.body.map gF).getD []);rw[j]at hlen g⊢;have y:=Z j;have r:=Z hlen;have q:=Z (fun x (d:x∈a)=>(of_decide_eq_true (List.all_eq_true.1 g x d):x.size<=20000));go_in
 go_upto_block 0 with fail
 generalize o:World.alloc w _=w1;obtain⟨nb,n⟩:=nm w.heap.size;have u:Hid (Row w1 nb 9 (a.map Value.string)):=Z (by
  rw[<-y,<-o,<-n];exact Row.new w _ _)
 have p:=Z (Ch.al (D:=ag) o);rw[n];go_cut [4] (fun s wc=>s=.string (((ByteArray.empty++a.getD 0 ByteArray.empty)++a.getD 1 ByteArray.empty)++a.getD 2 ByteArray.empty)/\w1=wc)
 case first=>
  go_wp2
  go_loop [4,5] (fun s i=>∃(k:Nat) (t:ByteArray),k<=3/\s=.string t/\i=.int .i64 k/\t.size<=20000*k/\((k<=0/\t=ByteArray.empty)∨(k=1/\t=ByteArray.empty++a.getD 0 ByteArray.empty)∨(k=2/\t=(ByteArray.empty++a.getD 0 ByteArray.empty)++a.getD 1 ByteArray.empty)∨(k=3/\t=((ByteArray.empty++a.getD 0 ByteArray.empty)++a.getD 1 ByteArray.empty)++a.getD 2 ByteArray.empty))) (fun _ i=>3-(intOf i).toNat)
  case atStart=>exact⟨0,ByteArray.empty,by omega,rfl,rfl,by decide,Or.inl ⟨by omega,rfl⟩⟩
  case round=>
   obtain⟨k,t,E,rfl,rfl,G,z⟩:=hrel;have h:=Z z;by_cases F:k<3
   ·have m:k<a.length:=by have:=r.out;omega
    obtain⟨x,d⟩:=nm (a[k]);have H:x.size<=20000:=(by rw[<-d];exact q _ (List.getElem_mem _));have y0:w1.cell? (nb,k)=some (.string x):=u.cell (by rw[List.getElem?_map,List.getElem?_eq_getElem m,d];rfl);have B:a.getD k ByteArray.empty=x:=(by rw[List.getD_eq_getElem?_getD,List.getElem?_eq_getElem m,d];rfl);have f:=Z B;have A:(t++x).size<=20000*(k+1):=(by rw[ByteArray.size_append];omega);go_wp2
    go_round
    case rel=>
     refine⟨k+1,t++x,by omega,rfl,by go_num,A,?_⟩;rcases h with⟨c,b⟩|⟨c,b⟩|⟨c,b⟩|⟨c,b⟩
     ·obtain rfl:k=0:=by omega
      exact Or.inr (Or.inl ⟨rfl,by rw[b,f]⟩)
     ·subst c
      exact Or.inr (Or.inr (Or.inl ⟨rfl,by rw[b,f]⟩))
     ·subst c
      exact Or.inr (Or.inr (Or.inr ⟨rfl,by rw[b,f]⟩))
     ·omega
    case measure=>simp[intOf];omega
   ·have C:¬(14+(k:Int)<=16):=by omega
    have v:Hid (t=((ByteArray.empty++a.getD 0 ByteArray.empty)++a.getD 1 ByteArray.empty)++a.getD 2 ByteArray.empty):=Z (by
     rcases h with⟨c,b⟩|⟨c,b⟩|⟨c,b⟩|⟨c,b⟩
     ·omega
     ·omega
     ·omega
     ·exact b)
    go_wp2
    go_meet
    exact⟨congrArg Value.string v,rfl⟩
 case rest=>
  obtain⟨rfl,rfl⟩:=hcut;go_wp2
  go_ret;exact⟨rfl,p⟩
variable{w':World}{B lb:Nat}{vc vk:Value}
def Bf:ByteArray:=⟨#[120,98,111,114,110]⟩
def vi(L:List (ByteArray×Int))(r:oY):bB:=⟨r.num,(rf (cV L r.Bd)).1,r.k0,r.k1,r.k2,r.k3⟩
def e4(L:List (ByteArray×Int)):List bB:=match cV L Bf with
 |some b=>[⟨1,b,0,0,0,0⟩]
 |none=>[]
def hS(L:List (ByteArray×Int))(n:Int)(l:List oY):List bB:=(l.filter fun r=>decide (r.oZ<=n)).map (vi L)
def gG(L:List (ByteArray×Int))(n:Int):List bB:=e4 L++hS L n dJ
theorem rp(L:List (ByteArray×Int))(n:Int)(l:List oY)(k:Nat)(x:oY)(a:l[k]?=some x):hS L n (l.take (k+1))=hS L n (l.take k)++(if x.oZ<=n then [vi L x]else []):=by
 unfold hS;rw[List.take_add_one,a];simp only[Option.toList,List.filter_append,List.map_append]
 congr 1
 by_cases h:x.oZ<=n<;>simp[h]
def dQ(w w':World):Prop:=∀(k:Nat) (c:Array Value) (t:TypeId) (f:Nat×Nat),t≠90->t≠158->w.heap[k]?=some (.cells c t f)->w'.heap[k]?=some (.cells c t f)
theorem dQ.refl(w:World):dQ w w:=fun _ _ _ _ _ _ h=>h
theorem dQ.trans{a b c:World}(h:dQ a b)(g:dQ b c):dQ a c:=fun k x t f d e i=>g k x t f d e (h k x t f d e i)
theorem dQ.row(h:dQ w w'){b:Nat}{t:TypeId}{l:List Value}(d:Row w b t l)(a:t≠90)(c:t≠158):Row w' b t l:=h b _ t _ a c d
theorem dQ.fj{D:Nat->Prop}(c:Ch D w w')(hd:∀k x t f,D k->w.heap[k]?=some (.cells x t f)->t=90∨t=158):dQ w w':=by
 intro k x t f d e a;rw[c.same k (Array.getElem?_eq_some_iff.1 a).1 (fun b=>by rcases hd k x t f b a with h|h<;>contradiction)];exact a
theorem dQ.own(h:dQ w w'){e:TypeId}{s n:Nat}{v:Value}{xs:List Value}(a:w.ownsRow B e s v n xs)(b:e≠90)(c:e≠158):w'.ownsRow B e s v n xs:=by
 refine⟨a.1,?_⟩;rcases a.2 with d|⟨g,cap,cur,rfl,i,j,f⟩
 ·exact Or.inl d
 ·exact Or.inr ⟨g,cap,cur,rfl,i,h g _ e _ b c j,f⟩
structure m8(w:World)(B lb:Nat)(vc vk:Value)(loop:Int)(calls:List bB):Prop where
 row:Row w lb 90 [vc,loop,vk]
 hB:B<=lb
 own:w.ownsRow B 158 6 vk calls.length (calls.flatMap bB.cells)
theorem m8.af{loop:Int}{calls:List bB}(h:m8 w B lb vc vk loop calls)(c:Ch ag w w'):m8 w' B lb vc vk loop calls:=⟨h.row.ch c id,h.hB,ak h.own c (fun _ _ e=>e)⟩
theorem m8.app{w1:World}{v':Value}{loop:Int}{calls:List bB}(h:m8 w B lb vc vk loop calls)(n:B<=w.heap.size)(y:bB)
 (m:w1.ownsRow B 158 6 v' (calls.length+1) (calls.flatMap bB.cells++y.cells)) (d:w.grownBy w1 vk.ownBlock):
 m8 (w1.setCell (lb,2) v') B lb vc v' loop (calls++[y])/\Below B w (w1.setCell (lb,2) v')/\dQ w (w1.setCell (lb,2) v'):=by
 have c:=kq (p:=lb) (j:=2) (u:=v') d;have g:Row w1 lb 90 [vc,loop,vk]:=by
  unfold Row;rw[d.block lb h.row.lt (fun e=>bm h.own h.row (by decide) e.symm)];exact h.row
 refine⟨⟨g.bc _ _ rfl,h.hB,?_⟩,f' c h.own h.hB n,?_⟩
 ·have:=dT (j:=2) (u:=v') m g (by decide)
  rw[List.flatMap_append,List.length_append];simpa using this
 ·refine dQ.fj c (fun k x t f b a=> ?_)
  rcases b with rfl|b
  ·exact Or.inl (eM h.row a)
  ·obtain⟨_,cs,i⟩:=bW h.own b
   rw[i]at a;injection a with a;injection a with _ l _
   exact Or.inr l.symm
theorem Bg:(prog.info? 158).map (fun i=>(i.zero,i.size,i.bytes))=some (some (.agg #[.int .i64 0,.int .i64 0,.int .i64 0,.int .i64 0,.int .i64 0,.int .i64 0]),6,48):=by kernel_rfl
theorem yT{P:Program}{o:Oper}{a:Act}{w w':World}{next:Act->World->Prop}{Q:Exit->Act->World->Prop}{v:Value}(h:(execOp a.eval o).run P w=.ok (.value v) w')(k:next (a.put o.dst v) w'):o.wp P a w next Q:=by
 unfold Oper.wp;rw[h];exact k
set_option maxRecDepth 1000000 in
theorem yU(w:World):Calls prog 98 #[] w (fun e w'=>e=.returned (.slice (some (w.heap.size,0)) 45 45)/\Row w' w.heap.size 245 (dJ.flatMap p9)/\Ch ag w w'):=by
 go_wp2
 refine yT (v:=.slice (some (w.heap.size,0)) 45 45) (w':=w.alloc (.cells (dJ.flatMap p9).toArray 245)) (by kernel_rfl) ?_;go_wp2
 go_ret;refine⟨rfl,?_,ay⟩;have h:=Row.new w (dJ.flatMap p9).toArray 245;exact h
theorem lu:dJ.length=45:=by kernel_rfl
theorem yV(T:ByteArray)(J:List be×List (ByteArray×Int))(g6:iV T=some J)(a5:J.2.length<=1000000)(n:Int)(n2:n<=1000)(w:World):
 Calls prog 71 #[.string T,.int .i64 n] w (oS J.1 (rf (cV J.2 ⟨#[108,111,111,112]⟩)).1 (gG J.2 n) w):=by
 obtain⟨C,L⟩:=J;dsimp only at a5⊢;have i7:=Z (fun w=>me T (C,L) g6 w);have i3:=Z (fun s r W v B w h=>hC L s r W v B w h a5);have i2:=Z (fun w=>yU w);obtain⟨hw,dr⟩:=nm (rf (cV L ⟨#[108,111,111,112]⟩));have i5:=Z (fun v B w h=>hC L ⟨#[108,111,111,112]⟩ hw dr v B w h a5);obtain⟨c4,ex⟩:=nm (rf (cV L ⟨#[120,98,111,114,110]⟩));have k0:=Z (fun v B w h=>hC L ⟨#[120,98,111,114,110]⟩ c4 ex v B w h a5);have a3:Hid (e4 L=if c4.2=true then [⟨1,c4.1,0,0,0,0⟩]else []):=Z (by
  unfold e4 Bf;rw[<-ex];generalize cV L ⟨#[120,98,111,114,110]⟩=o;cases o<;>rfl)
 rw[dr];clear g6 dr ex;obtain⟨A,na⟩:=hw;obtain⟨c5,l'⟩:=c4;obtain⟨B,cm⟩:=nm w.heap.size;have fd:=Z cm;go_in
 go_wp2_with fail
 obtain⟨w0,ap⟩:=nm (w.alloc (.cells #[.slice none 0 0,.int .i64 0,.slice none 0 0] 90));have it:Hid (Row w0 B 90 [.slice none 0 0,.int .i64 0,.slice none 0 0]):=Z (by rw[<-ap,<-cm];exact Row.new _ _ _);have eW:=Z (Ch.al (D:=ag) ap);rw[ap];clear ap cm;with_reducible refine(i7.out _).mono ?_
 rintro e w1 ⟨vc,vl,rfl,U,gf,cL⟩;obtain⟨ac,m,rfl⟩:=au U;have i1:=Z U;have ce:=Z gf;have M:Hid (Ch ag w w1):=Z (eW.trans cL);have g2:=Z (it.ch cL (fun e=>e));have mC:B<w1.heap.size:=g2.lt;obtain⟨l,cq⟩:=nm C.length;rw[cq];have i6:=Z cq;clear U gf cL cq;obtain⟨lb,ad⟩:=nm w1.heap.size;have md:=Z ad;go_wp2_with fail
 obtain⟨w2,av⟩:=nm (w1.alloc (.cells #[.slice ac l m,.int .i64 0,.slice none 0 0] 90));have H:Hid (m8 w2 (B+1) lb (.slice ac l m) (.slice none 0 0) 0 []):=Z ⟨by rw[<-av,<-ad];exact Row.new _ _ _,by have:=ad;omega,World.ownsRow_nil _ _ _ _⟩;have a2:=Z (Ch.al (D:=ag) av);rw[av];clear av ad;have hF:=H.row.k 1 rfl;have f1:=H.row.free 1;with_reducible refine(i5.out vl _ _ (ak ce.out a2.out (fun _ _ e=>e))).mono ?_
 rintro e w' ⟨rfl,hB,rfl⟩;go_wp2_with fail
 obtain⟨w3,bi⟩:=nm ((w2.drewN hB).setCell (lb,1) (.int .i64 A));have c9:Ch (aH lb) w2 w3:=by rw[<-bi];exact ay
 have i8:Hid (m8 w3 (B+1) lb (.slice ac l m) (.slice none 0 0) A []):=Z ⟨by rw[<-bi];exact(H.row.drewN hB).bc _ _ rfl,H.hB,World.ownsRow_nil _ _ _ _⟩;have g3:Hid (dQ w1 w3):=Z ((dQ.fj a2 (fun _ _ _ _ q _=>False.elim q)).trans (dQ.fj c9 (fun k x t f q U=>by have e:k=lb:=q;subst e;exact Or.inl (eM H.row U))));have eA:Hid (Below (B+1) w1 w3):=Z ((a2.below (by omega) (fun _ hb=>False.elim hb)).trans (c9.below (by have:=a2.size;omega) (fun b hb=>by have e:b=lb:=hb;have:=H.hB;omega)));rw[bi];clear bi hF f1 c9;with_reducible refine(k0.out vl _ _ (g3.out.own ce.out (by decide) (by decide))).mono ?_
 rintro e w' ⟨rfl,lo,rfl⟩;obtain⟨w4,en⟩:=nm (w3.drewN lo);have c7:=Z (Ch.dN (D:=ag) en);have fz:=Z (i8.af c7);have g4:Hid (dQ w1 w4):=Z (g3.trans (dQ.fj c7 (fun _ _ _ _ q _=>False.elim q)));have c6:Hid (Below (B+1) w1 w4):=Z (eA.trans (c7.below (by have:=eA.size;omega) (fun _ hb=>False.elim hb)));rw[en];clear en;dsimp only at a3⊢;have kb:B+1<=w4.heap.size:=by have:=c6.size;omega
 obtain⟨hv,gc,hm,hn,hu⟩:=info_parts Bg;have fn:=Z gc;clear gc;go_upto_if 34 with fail
 go_cut [] (fun wc=>∃vk,m8 wc (B+1) lb (.slice ac l m) vk A (e4 L)/\dQ w1 wc/\Below (B+1) w1 wc)
 case first=>
  cases l' with
  |false=>
   have N:Hid (e4 L=[]):=Z (by rw[a3];rfl);go_wp2
   go_meet
   rw[N];exact⟨_,fz,g4,c6⟩
  |true=>
   have N:Hid (e4 L=[⟨1,c5,0,0,0,0⟩]):=Z (by rw[a3];rfl);obtain⟨bx,E⟩:∃vk,m8 w4 (B+1) lb (.slice ac l m) vk A []:=⟨_,fz⟩;have cf:=Z E;have bw:w4.cell? (lb,2)=some bx:=E.row.cell rfl;have R:=E.row.free 2;have V:=E.row.lt;have S:=E.own;have Y:bx.ownBlock≠some lb:=bm E.own E.row (by decide);clear E;go_wp2_with (at_builtin;refine wpList_append_lies _ rfl _ _ _ rfl (B+1) 158 hv _ 6 48 underlying88 fn hm hn hu rfl (by omega) bx 0 [] rfl (S.alloc _) ⟨w4.heap.size,0,none⟩ 1 1 [.int .i64 1,c5,.int .i64 0,.int .i64 0,.int .i64 0,.int .i64 0] rfl rfl (World.news_of_block (cs:=#[.int .i64 1,c5,.int .i64 0,.int .i64 0,.int .i64 0,.int .i64 0]) (t:=158) (fr:=(0,0)) (heap_alloc_new w4 _)) (by simp[Value.oneCell']) (by omega) (by unfold maxLen;omega) (by omega) (by simp;omega) (w4.heap.size+1) (by simp) ?_)
   intro k4 mp c1 gr ab kw n0;have lt:c1.cell? (lb,2)=some bx:=(ab.cell_far ⟨lb,2,none⟩ (by simp;omega) (Ne.symm Y)).trans (by simp[go_sem,World.cell?_alloc_past,V,bw]);have lv:c1.frozen? (lb,2)=false:=(ab.frozen_far ⟨lb,2,none⟩ (by simp;omega) (Ne.symm Y)).trans (by simp[go_sem,World.frozen?_alloc_past,V,R]);have F:=Z (cf.app kb ⟨1,c5,0,0,0,0⟩ gr (ao ab));clear gr ab kw S bw R;go_wp2
   go_meet
   rw[N];exact⟨_,F.1,g4.trans F.2.2,c6.trans F.2.1⟩
 case rest=>
  obtain⟨lw,dC,cQ,cC⟩:=hcut;obtain⟨c1,hi⟩:=nm wc;rw[hi]at dC cQ cC⊢;have cf:=Z dC;have k1:=Z cQ;have eC:=Z cC;clear hi dC cQ cC;go_upto_block 0 with(go_at_call 98;(with_reducible refine(i2.out _).mono ?_);rintro e c2 ⟨rfl,he,g8⟩;have g1:=Z he;have c8:=Z g8;clear he g8)
  obtain⟨tb,hf⟩:=nm c1.heap.size;rw[hf]at g1⊢;clear hf;have i9:=Z (cf.af c8);have g5:Hid (dQ w1 c2):=Z (k1.trans (dQ.fj c8 (fun _ _ _ _ q _=>False.elim q)));have eL:Hid (Below (B+1) w1 c2):=Z (eC.trans (c8.below (by have:=eC.size;omega) (fun _ hb=>False.elim hb)));go_cut [] (fun wc=>∃vk,m8 wc (B+1) lb (.slice ac l m) vk A (gG L n)/\dQ w1 wc/\Below (B+1) w1 wc)
  case first=>
   go_wp2
   go_loopw [12] (fun i wr=>∃(k:Nat) (vk:Value) (calls:List bB),k<=45/\i=.int .i64 k/\m8 wr (B+1) lb (.slice ac l m) vk A calls/\calls=e4 L++hS L n (dJ.take k)/\calls.length<=k+1/\dQ c2 wr/\Below (B+1) c2 wr) (fun i _=>45-(intOf i).toNat)
   case atStart=>exact⟨0,lw,e4 L,by omega,rfl,i9,by simp[hS],by rw[a3];split<;>simp,dQ.refl _,Below.refl _ _⟩
   case round=>
    obtain⟨k,vk,calls,q,rfl,gt,g9,mL,ge,g7⟩:=hrel;have ch:=Z gt;have cd:=Z g9;have O:=Z ge;have a4:=Z g7;clear gt g9 ge g7;by_cases le:k<45
    ·have cW:k<dJ.length:=by rw[lu];exact le
     obtain⟨x,et⟩:=nm (dJ[k]);have bv:dJ[k]?=some x:=(by rw[List.getElem?_eq_getElem cW,et]);have g0:Hid (Row wr tb 245 (dJ.flatMap p9)):=Z (O.row g1 (by decide) (by decide));have P:∀j u,j<8->(p9 x)[j]?=some u->wr.cell? ⟨tb,k*8+j,none⟩=some u:=(fun j u lc lm=>g0.cell ((bJ yS bv lc).trans lm));have mb:wr.cell? ⟨tb,k*8+3,none⟩=some (.int .i64 x.oZ):=P 3 _ (by omega) rfl;have hd:=Z (rp L n dJ k x bv);by_cases hle:x.oZ<=n
     ·have i0:wr.cell? ⟨tb,k*8+2,none⟩=some (.string x.Bd):=P 2 _ (by omega) rfl
      have d:=Z P;obtain⟨r,W⟩:=nm (rf (cV L x.Bd));have io:=Z W;have i4:=Z (fun(a1:Nat) w h=>i3 x.Bd r W vl a1 w h);obtain⟨Q,mn⟩:=r;have cb:Hid (calls++[⟨x.num,Q,x.k0,x.k1,x.k2,x.k3⟩]=e4 L++hS L n (dJ.take (k+1))):=Z (by
       rw[hd.out,if_pos hle,cd,List.append_assoc];unfold vi;rw[io])
      clear P bv et W cW;go_wp2_with fail
      with_reducible refine(i4.out _ _ (((g5.out.trans O.out)).own ce.out (by decide) (by decide))).mono ?_
      rintro e w' ⟨rfl,ls,rfl⟩;go_wp2
      obtain⟨c,es⟩:=nm (wr.drewN ls);have y:=Z (Ch.dN (D:=ag) es);rw[es];clear es i0 mb;have a:=ch.af y;have ih:=Z a;have al:=g0.ch y (fun e=>e);have x0:c.cell? ⟨tb,k*8,none⟩=some (.int .i64 x.num):=((y.cell (aQ (d 0 _ (by omega) rfl)) (fun e=>e)).trans (d 0 _ (by omega) rfl));have x4:c.cell? ⟨tb,k*8+4,none⟩=some (.int .i64 x.k0):=((y.cell (aQ (d 4 _ (by omega) rfl)) (fun e=>e)).trans (d 4 _ (by omega) rfl));have x5:c.cell? ⟨tb,k*8+5,none⟩=some (.int .i64 x.k1):=((y.cell (aQ (d 5 _ (by omega) rfl)) (fun e=>e)).trans (d 5 _ (by omega) rfl));have x6:c.cell? ⟨tb,k*8+6,none⟩=some (.int .i64 x.k2):=((y.cell (aQ (d 6 _ (by omega) rfl)) (fun e=>e)).trans (d 6 _ (by omega) rfl));have x7:c.cell? ⟨tb,k*8+7,none⟩=some (.int .i64 x.k3):=((y.cell (aQ (d 7 _ (by omega) rfl)) (fun e=>e)).trans (d 7 _ (by omega) rfl));have X:tb<c.heap.size:=al.lt;have bw:c.cell? (lb,2)=some vk:=a.row.cell rfl;have R:=a.row.free 2;have V:=a.row.lt;have S:=a.own;have Y:vk.ownBlock≠some lb:=bm a.own a.row (by decide);have a0:vk.ownBlock≠some tb:=bm a.own al (by decide);have li:lb≠tb:=(fun e=>by subst e;exact absurd (eM a.row al) (by decide));have mW:tb≠lb:=Ne.symm li;have kd:B+1<=c.heap.size:=(by have:=a.hB;omega);clear a al;go_region_law (first|(refine step_append_lies _ (by rfl) _ _ _ (by rfl) (B+1) 158 hv _ 6 48 underlying88 fn hm hn hu rfl (by omega) vk calls.length (calls.flatMap bB.cells) (by rfl) ((S.alloc _).drew) ⟨c.heap.size,0,none⟩ 1 1 [.int .i64 x.num,Q,.int .i64 x.k0,.int .i64 x.k1,.int .i64 x.k2,.int .i64 x.k3] (by rfl) (by rfl) (World.news_of_block (cs:=#[.int .i64 x.num,Q,.int .i64 x.k0,.int .i64 x.k1,.int .i64 x.k2,.int .i64 x.k3]) (t:=158) (fr:=(0,0)) (heap_alloc_new c _)) (by simp[Value.oneCell']) (by omega) (by unfold maxLen;omega) (by omega) (by simp;omega) (c.heap.size+1) (by simp) ?_;intro k4 ms G gs z kf n1;have lt:G.cell? (lb,2)=some vk:=(z.cell_far ⟨lb,2,none⟩ (by simp;omega) (Ne.symm Y)).trans (by simp[go_sem,World.cell?_alloc_past,V,bw]);have lv:G.frozen? (lb,2)=false:=(z.frozen_far ⟨lb,2,none⟩ (by simp;omega) (Ne.symm Y)).trans (by simp[go_sem,World.frozen?_alloc_past,V,R]);have mc:G.cell? ⟨tb,k*8,none⟩=some (.int .i64 x.num):=(z.cell_far ⟨tb,k*8,none⟩ (by simp;omega) (Ne.symm a0)).trans (by simp[go_sem,World.cell?_alloc_past,X,x0]);have ni:G.cell? ⟨tb,k*8+4,none⟩=some (.int .i64 x.k0):=(z.cell_far ⟨tb,k*8+4,none⟩ (by simp;omega) (Ne.symm a0)).trans (by simp[go_sem,World.cell?_alloc_past,X,x4]);have no:G.cell? ⟨tb,k*8+5,none⟩=some (.int .i64 x.k1):=(z.cell_far ⟨tb,k*8+5,none⟩ (by simp;omega) (Ne.symm a0)).trans (by simp[go_sem,World.cell?_alloc_past,X,x5]);have nq:G.cell? ⟨tb,k*8+6,none⟩=some (.int .i64 x.k2):=(z.cell_far ⟨tb,k*8+6,none⟩ (by simp;omega) (Ne.symm a0)).trans (by simp[go_sem,World.cell?_alloc_past,X,x6]);have nw:G.cell? ⟨tb,k*8+7,none⟩=some (.int .i64 x.k3):=(z.cell_far ⟨tb,k*8+7,none⟩ (by simp;omega) (Ne.symm a0)).trans (by simp[go_sem,World.cell?_alloc_past,X,x7])))
      all_goals
       have F:=Z (ih.app kd ⟨x.num,Q,x.k0,x.k1,x.k2,x.k3⟩ gs (ao (cY z)));clear gs z kf S;go_wp2
       go_roundw
       case rel=>
        refine⟨k+1,_,calls++[⟨x.num,Q,x.k0,x.k1,x.k2,x.k3⟩],by omega,by go_num,F.1,(cb).out,by simp;omega,(O.trans (dQ.fj y (fun _ _ _ _ q _=>False.elim q))).trans F.2.2,?_⟩;exact(a4.trans (y.below (by have:=a4.size;have:=eL.size;omega) (fun _ hb=>False.elim hb))).trans F.2.1
       case measure=>simp[intOf];omega
     ·have cb:Hid (calls=e4 L++hS L n (dJ.take (k+1))):=Z (by rw[hd.out,if_neg hle,List.append_nil];exact cd)
      have mS:n<x.oZ:=(by omega);clear P bv et cW hle;go_wp2
      go_roundw
      case rel=>exact⟨k+1,vk,calls,by omega,by go_num,ch,cb,by omega,O,a4⟩
      case measure=>simp[intOf];omega
    ·have N:Hid (calls=gG L n):=Z (by rw[cd,List.take_of_length_le (by rw[lu];omega)];rfl)
     go_wp2
     go_meet
     rw[<-N];exact⟨vk,ch,g5.trans O,eL.trans a4⟩
  case rest=>
   obtain⟨nb,K,cS,a9⟩:=hcut;obtain⟨c3,hl⟩:=nm wc;rw[hl]at K cS a9⊢;have ii:=Z K;have k2:=Z cS;have eS:=Z a9;obtain⟨ck,cl,am⟩:=au K.own;obtain⟨ci,cA⟩:=nm ((gG L n).length);rw[cA]at am;have ip:=Z am;have mk:=Z cA;have dN:=K.row;rw[am]at dN;obtain⟨y0,hF,i0⟩:=dN.c3;have I:Hid (Row c3 B 90 [.slice none 0 0,.int .i64 0,.slice none 0 0]):=Z (by
    unfold Row;rw[a9.block B (by omega)];exact g2)
   obtain⟨mc,nd,ne⟩:=I.c3;have mv:=I.free 0;have mA:=I.free 1;have R:=I.free 2;have ll:lb≠B:=(by have:=K.hB;omega);have n8:B≠lb:=Ne.symm ll;clear hl K cS a9 am cA dN;go_wp2
   obtain⟨c0,ec⟩:=nm (((c3.setCell ⟨B,0,none⟩ (.slice ac l m)).setCell ⟨B,1,none⟩ (.int .i64 A)).setCell ⟨B,2,none⟩ (.slice ck ci cl));have fb:Ch (aH B) c3 c0:=(by rw[<-ec];exact ay);have jp:Row c0 B 90 [.slice ac l m,A,.slice ck ci cl]:=(by rw[<-ec];exact((I.set 0 _).set 1 _).set 2 _);rw[ec];obtain⟨t0,t1,t2⟩:=jp.c3;refine bodyPost_ret (v:=.agg #[.slice ac l m,A,.slice ck ci cl]) ?_ rfl ?_
   ·simp[results,Tryz.f71,go_sem,t0,t1,t2]
   ·have kT:=eW.size
    have go:∀{e:TypeId} {s n:Nat} {v:Value} {xs:List Value} {a1:Nat},c3.ownsRow a1 e s v n xs->e≠90->c0.ownsRow a1 e s v n xs:=fun gk l0=>ak gk fb (fun g l1 e=>by
     have k3:g=B:=e;subst k3;obtain⟨_,_,k5⟩:=bW gk l1;exact l0 (eM I k5))
    refine⟨_,rfl,⟨_,_,rfl,?_,?_⟩,?_⟩
    ·have p:=go (k2.own i1 (by decide) (by decide)) (by decide)
     rw[i6]at p⊢;exact dU p kT
    ·have p:=go ii.own (by decide)
     rw[<-ip];exact dU p (by have:=fd.out;omega)
    ·have p:Below B w1 c0:=(eS.mono (by omega)).trans (fb.below (by have:=eS.size;omega) (fun b hb=>by have e:b=B:=hb;omega))
     refine⟨p.os.trans M.os,p.tape.trans M.tape,p.output.trans M.out.output,Nat.le_trans M.size p.size,fun b hb _=> ?_⟩;exact(p.block b (by have:=fd.out;omega)).trans (M.same b hb (fun e=>e))
def Bh(T:ByteArray):Bool:=match iV T with
 |some a=>fG a.1 (rf (cV a.2 ⟨#[108,111,111,112]⟩)).1 (gG a.2 16)&&vg a.1&&decide (a.2.length<=1000)&&decide (1<=(gG a.2 16).length)&&decide ((gG a.2 16).length<=100)
 |none=>false
def C6(a:List ByteArray):ByteArray:=(((ByteArray.empty++a.getD 0 ByteArray.empty)++a.getD 1 ByteArray.empty)++a.getD 2 ByteArray.empty)++⟨#[120,98,111,114,110,58,10,116,110,119,32,114,50,32,114,48,32,114,49,32,33,49,10,106,115,114,32,112,117,115,104,10,109,111,118,32,114,49,32,114,50,10,115,101,116,32,114,48,32,48,10,102,105,110,10]⟩
set_option maxRecDepth 1000000 in
theorem yW:Bh (C6 ((Tryz.f72.body.map gF).getD []))=true:=by kernel_rfl
structure tD(l:List be)(loop:Int)(calls:List bB):Prop where
 ok:fG l loop calls=true
 u:vg l=true
 c0:0<calls.length
 c1:calls.length<=100
theorem Bi:∃(l:List be) (loop:Int) (calls:List bB),tD l loop calls/\∀w,Calls prog 35 #[.int .i64 16] w (oS l loop calls w):=by
 obtain⟨a,c1,q,a9,ab⟩:=Be;have b:=yW;rw[<-q]at b;unfold Bh at b;cases u:iV (C6 a)with
 |none=>rw[u]at b;cases b
 |some d=>
  rw[u]at b;simp only[Bool.and_eq_true,decide_eq_true_eq]at b;obtain⟨⟨⟨⟨a2,a3⟩,bv⟩,a4⟩,a5⟩:=b;refine⟨_,_,_,⟨a2,a3,a4,a5⟩,fun w=> ?_⟩;have h:=Z (fun w=>yV (C6 a) d u (by omega) 16 (by decide) w);have I:=Z ab;have ap:(((ByteArray.empty++a.getD 0 ByteArray.empty)++a.getD 1 ByteArray.empty)++a.getD 2 ByteArray.empty).size<=60000:=by
   have g:∀i,(a.getD i ByteArray.empty).size<=20000:=fun i=>by
    rw[List.getD_eq_getElem?_getD];cases av:a[i]? with
    |none=>decide
    |some x=>exact a9 x (List.mem_of_getElem? av)
   rw[ByteArray.size_append,ByteArray.size_append,ByteArray.size_append];have:=g 0;have:=g 1;have:=g 2;have:ByteArray.empty.size=0:=rfl;omega
  unfold C6 at h;obtain⟨bi,ad⟩:=nm ((((ByteArray.empty++a.getD 0 ByteArray.empty)++a.getD 1 ByteArray.empty)++a.getD 2 ByteArray.empty));rw[ad]at h I ap;obtain⟨B,K⟩:=nm w.heap.size;have U:=Z K;go_in
  go_wp2_with fail
  obtain⟨w0,y⟩:=nm (w.alloc (.cells #[.slice none 0 0,.int .i64 0,.slice none 0 0] 90));have Y:Hid (Row w0 B 90 [.slice none 0 0,.int .i64 0,.slice none 0 0]):=Z (by rw[<-y,<-K];exact Row.new _ _ _);have S:=Z (Ch.al (D:=ag) y);rw[y];with_reducible refine(I.out _).mono ?_
  rintro e w1 ⟨rfl,L⟩;have f:=Z (S.trans L);have a0:=Z (Y.ch L (fun e=>e));go_wp2_with fail
  with_reducible refine(h.out _).mono ?_
  rintro e w2 ⟨v2,rfl,⟨vc,vk,rfl,N,O⟩,M⟩;obtain⟨ac,o,rfl⟩:=au N;obtain⟨m,p,rfl⟩:=au O;have G:=Z N;have H:=Z O;have T:=Z (f.trans M);have c:=Z (a0.ch M (fun e=>e));obtain⟨j,r⟩:=nm d.1.length;obtain⟨k,t⟩:=nm ((gG d.2 16).length);rw[r,t];rw[r]at G;rw[t]at H;have W:=Z r;have X:=Z t;obtain⟨c3,c4,c5⟩:=c.c3;have bw:=c.free 0;have bx:=c.free 1;have c0:=c.free 2;obtain⟨A,P⟩:=nm ((rf (cV d.2 ⟨#[108,111,111,112]⟩)).1);rw[P];have V:=Z P;go_wp2
  obtain⟨C,z⟩:=nm (((w2.setCell (B,0) (.slice ac j o)).setCell (B,1) (.int .i64 A)).setCell (B,2) (.slice m k p));have F:Ch (aH B) w2 C:=by rw[<-z];exact ay
  have a1:Row C B 90 [.slice ac j o,A,.slice m k p]:=by rw[<-z];exact((c.set 0 _).set 1 _).set 2 _
  rw[z];obtain⟨t0,t1,t2⟩:=a1.c3;refine bodyPost_ret (v:=.agg #[.slice ac j o,A,.slice m k p]) ?_ rfl ?_
  ·simp[results,Tryz.f35,go_sem,t0,t1,t2]
  ·have R:∀{e:TypeId} {s n:Nat} {v:Value} {xs:List Value} {E:Nat},w2.ownsRow E e s v n xs->e≠90->C.ownsRow E e s v n xs:=fun Q al=>ak Q F (fun g am e=>by
    have J:g=B:=e;subst J;obtain⟨_,_,q⟩:=bW Q am;exact al (eM c q))
   rw[V];refine⟨_,rfl,⟨_,_,rfl,?_,?_⟩,T.fresh F (fun i c2 e=>by have J:i=B:=e;have:=U.out;omega)⟩
   ·rw[W];exact dU (R G (by decide)) f.size
   ·rw[X];exact dU (R H (by decide)) f.size
variable{a c w1:World}{cap g n s:Nat}{v vh vw:Value}{e:TypeId}{l xs:List Value}{D:Nat->Prop}
structure WS where
 code:List be
 work:List Int
 aP:List Int
structure rC(w:World)(B b:Nat)(vc vw vh:Value)(S:WS):Prop where
 row:Row w b 174 [vc,.int .i64 16,.slice none 0 0,vw,vh]
 hB:B<=b
 code:w.ownsRow B 184 7 vc S.code.length (S.code.flatMap dn)
 work:w.ownsRow B 3 1 vw S.work.length (S.work.flatMap jz)
 aP:w.ownsRow B 3 1 vh S.aP.length (S.aP.flatMap jz)
 ne:∀g,vw.ownBlock=some g->vh.ownBlock≠some g
def fO(w:World)(B b:Nat)(vw vh:Value)(S:WS):Prop:=∃vc,rC w B b vc vw vh S
theorem rC.af{S:WS}(h:rC w B b vc vw vh S)(c:Ch ag w w'):rC w' B b vc vw vh S:=
 ⟨h.row.ch c id,h.hB,ak h.code c (fun _ _ e=>e),ak h.work c (fun _ _ e=>e),ak h.aP c (fun _ _ e=>e),h.ne⟩
theorem fO.af{S:WS}(h:fO w B b vw vh S)(c:Ch ag w w'):fO w' B b vw vh S:=by
 obtain⟨vc,h⟩:=h;exact⟨vc,h.af c⟩
def bb(w w':World):Prop:=∀(k:Nat) (c:Array Value) (t:TypeId) (f:Nat×Nat),t≠174->t≠184->w.heap[k]?=some (.cells c t f)->w'.heap[k]?=some (.cells c t f)
theorem bb.refl(w:World):bb w w:=fun _ _ _ _ _ _ h=>h
theorem bb.trans{b:World}(h:bb a b)(g:bb b c):bb a c:=fun k x t f d i j=>g k x t f d i (h k x t f d i j)
theorem bb.row(h:bb w w')(i:Row w b t l)(d:t≠174)(f:t≠184):Row w' b t l:=h b _ t _ d f i
theorem bb.own(h:bb w w')(d:w.ownsRow B e s v n xs)(f:e≠174)(i:e≠184):w'.ownsRow B e s v n xs:=by
 refine⟨d.1,?_⟩;rcases d.2 with j|⟨g,cap,cur,rfl,m,o,k⟩
 ·exact Or.inl j
 ·exact Or.inr ⟨g,cap,cur,rfl,m,h g _ e _ f i o,k⟩
theorem bb.fj(c:Ch D w w')(hd:∀k x t f,D k->w.heap[k]?=some (.cells x t f)->t=174∨t=184):bb w w':=by
 intro k x t f j m d;rw[c.same k (Array.getElem?_eq_some_iff.1 d).1 (fun i=>by rcases hd k x t f i d with h|h<;>contradiction)];exact d
theorem bb.af(c:Ch ag w w'):bb w w':=bb.fj c (fun _ _ _ _ d _=>False.elim d)
theorem bb.Hj(c:Ch (wH b v) w w')(hb:Row w b 174 l)(m:w.ownsRow B 184 s v n xs):bb w w':=
 bb.fj c (fun k x t f h d=>by
  rcases h with rfl|h
  ·exact Or.inl (eM hb d)
  ·obtain⟨_,cs,i⟩:=bW m h
   rw[i]at d;injection d with d;injection d with _ j _
   exact Or.inr j.symm)
def fK(w w':World):Prop:=∀(k:Nat) (c:Array Value) (t:TypeId) (f:Nat×Nat),t≠174->t≠184->t≠3->w.heap[k]?=some (.cells c t f)->w'.heap[k]?=some (.cells c t f)
theorem fK.refl(w:World):fK w w:=fun _ _ _ _ _ _ _ h=>h
theorem fK.trans{b:World}(h:fK a b)(g:fK b c):fK a c:=fun k x t f d i j m=>g k x t f d i j (h k x t f d i j m)
theorem fK.row(h:fK w w')(j:Row w b t l)(d:t≠174)(f:t≠184)(i:t≠3):Row w' b t l:=h b _ t _ d f i j
theorem fK.fj(c:Ch D w w')(hd:∀k x t f,D k->w.heap[k]?=some (.cells x t f)->t=174∨t=184∨t=3):fK w w':=by
 intro k x t f j m o d;rw[c.same k (Array.getElem?_eq_some_iff.1 d).1 (fun i=>by rcases hd k x t f i d with h|h|h<;>contradiction)];exact d
theorem fK.af(c:Ch ag w w'):fK w w':=fK.fj c (fun _ _ _ _ d _=>False.elim d)
theorem fK.Hj(c:Ch (wH b v) w w')(hb:Row w b 174 l)(o:w.ownsRow B e s v n xs)(m:e=184∨e=3):fK w w':=
 fK.fj c (fun k x t f h d=>by
  rcases h with rfl|h
  ·exact Or.inl (eM hb d)
  ·obtain⟨_,cs,i⟩:=bW o h
   rw[i]at d;injection d with d;injection d with _ j _
   subst j;exact Or.inr m)
theorem rC.iT{v':Value}{S:WS}(h:rC w B b vc vw vh S)(z:B<=w.heap.size)(y:be)
 (x:w1.ownsRow B 184 7 v' (S.code.length+1) (S.code.flatMap dn++dn y)) (f:w.grownBy w1 vc.ownBlock):
 fO (w1.setCell (b,0) v') B b vw vh {S with code:=S.code++[y]}/\Below B w (w1.setCell (b,0) v')/\bb w (w1.setCell (b,0) v'):=by
 have c:=kq (p:=b) (j:=0) (u:=v') f;have m:Row w1 b 174 [vc,.int .i64 16,.slice none 0 0,vw,vh]:=by
  unfold Row;rw[f.block b h.row.lt (fun e=>bm h.code h.row (by decide) e.symm)];exact h.row
 have r:(w1.setCell (b,0) v').ownsRow B 184 7 v' (S.code++[y]).length ((S.code++[y]).flatMap dn):=by
  have:=dT (j:=0) (u:=v') x m (by decide);rw[List.flatMap_append,List.length_append];simpa using this
 have q:∀{s:Nat} {v:Value} {n:Nat} {xs:List Value},w.ownsRow B 3 s v n xs->(w1.setCell (b,0) v').ownsRow B 3 s v n xs:=fun k=>ak k c (fun g o d=>by
  obtain⟨_,cs,i⟩:=bW k o;rcases d with rfl|d
  ·exact absurd (eM h.row i) (by decide)
  ·exact bm h.code i (by decide) d)
 exact⟨⟨v',m.bc _ _ rfl,h.hB,r,q h.work,q h.aP,h.ne⟩,f' c h.code h.hB z,bb.Hj c h.row h.code⟩
def gO(S:WS)(B b:Nat)(vw vh:Value)(w:World)(e:Ending)(w':World):Prop:=e=.returned (.tuple #[])/\fO w' B b vw vh S/\Below B w w'/\bb w w'
def fL(S:WS)(r v:Int):WS:={S with code:=S.code++[⟨1,r,0,0,v,0,0⟩]}
theorem jG(S:WS)(r v:Int)(B b:Nat)(w:World)(h:fO w B b vw vh S)(y:B<=w.heap.size)(J:S.code.length<=1000000):
 Calls prog 116 #[(b,0),r,.int .u64 v] w (gO (fL S r v) B b vw vh w):=by
 obtain⟨E,u,z,A,C⟩:=info_parts iz;obtain⟨vc,d⟩:=h;have o:=Z d;have m:=Z u;have F:w.cell? (b,0)=some vc:=d.row.cell rfl;have p:=d.row.free 0;have j:=d.row.lt;have k:vc.ownBlock≠some b:=bm d.code d.row (by decide);have q:=d.code;go_in
 go_wp2_with (at_builtin;refine wpList_append_lies _ rfl _ _ _ rfl B 184 E _ 7 56 underlying75 m z A C rfl (by omega) vc S.code.length (S.code.flatMap dn) rfl (q.alloc _) ⟨w.heap.size,0,none⟩ 1 1 [.int .i64 1,r,.int .i64 0,.int .i64 0,.int .u64 v,.int .i64 0,.int .i64 0] rfl rfl (World.news_of_block (cs:=#[.int .i64 1,r,.int .i64 0,.int .i64 0,.int .u64 v,.int .i64 0,.int .i64 0]) (t:=184) (fr:=(0,0)) (heap_alloc_new w _)) (by simp[Value.oneCell']) (by omega) (by unfold maxLen;omega) (by omega) (by simp;omega) (w.heap.size+1) (by simp) ?_)
 intro H G w2 x i I K;have L:w2.cell? (b,0)=some vc:=(i.cell_far ⟨b,0,none⟩ (by simp;omega) (Ne.symm k)).trans (by simp[go_sem,World.cell?_alloc_past,j,F]);have M:w2.frozen? (b,0)=false:=(i.frozen_far ⟨b,0,none⟩ (by simp;omega) (Ne.symm k)).trans (by simp[go_sem,World.frozen?_alloc_past,j,p]);have f:=Z (o.iT y ⟨1,r,0,0,v,0,0⟩ x (ao i));go_wp2
 go_end0
 exact⟨rfl,f.1,f.2.1,f.2.2⟩
def fT:WS->List Int->Nat->WS
 |S,[],_=>S
 |S,a::l,i=>fT (fL S i a) l (i+1)
def ca(S:WS)(num:Int)(a:List Int):WS:={fT S a 0 with code:=(fT S a 0).code++[⟨22,0,0,0,IntKind.u64.wrap num,0,0⟩]}
theorem hh:∀(b:List Int) (S:WS) (i:Nat),(fT S b i).code.length=S.code.length+b.length/\(fT S b i).work=S.work/\(fT S b i).aP=S.aP
 |[],S,i=>⟨rfl,rfl,rfl⟩
 |a::l,S,i=>by
  obtain⟨c,d,e⟩:=hh l (fL S i a) (i+1);refine⟨?_,d,e⟩;show(fT (fL S i a) l (i+1)).code.length=_
  rw[c];simp only[fL,List.length_append,List.length_cons,List.length_nil];omega
theorem eI(S:WS)(num:Int)(a:List Int)(U:a.length<=10)(g cap B b:Nat)(W:a.length<=cap){vw vh:Value}(w:World)(a3:Row w g 39 (a.map (Value.int .u64)))(h:fO w B b vw vh S)(c0:B<=w.heap.size)(bx:S.code.length<=900000):
 Calls prog 74 #[(b,0),num,.slice (some (g,0)) a.length cap] w (gO (ca S num a) B b vw vh w):=by
 obtain⟨am,Y,ab,ad,al⟩:=info_parts iz;have G:=Z Y;have J:=Z a3;have K:=Z h;obtain⟨d,T⟩:=nm (fT S a 0);have s:=Z T;have L:=Z (hh a S 0);obtain⟨N,v⟩:=nm a.length;rw[v]at U W⊢;have r:=Z v;go_in
 go_upto_block 0 with fail
 go_cut [] (fun wc=>fO wc B b vw vh d/\Below B w wc/\bb w wc)
 case first=>
  go_wp2
  go_loopw [6] (fun i wr=>∃(k:Nat) (c:WS),k<=N/\i=.int .i64 k/\fO wr B b vw vh c/\Below B w wr/\bb w wr/\fT c (a.drop k) k=d/\c.code.length<=S.code.length+k) (fun i _=>N-(intOf i).toNat)
  case atStart=>exact⟨0,S,by omega,rfl,K,Below.refl _ _,bb.refl _,s,by omega⟩
  case round=>
   obtain⟨k,c,bw,rfl,m,j,l,p,X⟩:=hrel;have O:=Z m;have n:=Z j;have o:=Z l;by_cases a1:k<N
   ·have y:k<a.length:=by have:=r.out;omega
    obtain⟨x,C⟩:=nm (a[k]);rw[List.drop_eq_getElem_cons y,C]at p;have M:Hid (fT (fL c k x) (a.drop (k+1)) (k+1)=d):=Z p;have y0:wr.cell? (g,k)=some (.int .u64 x):=(l.row J (by decide) (by decide)).cell (by rw[List.getElem?_map,List.getElem?_eq_getElem y,C];rfl);have E:=Z (jG c k x B b wr m (by have:=j.size;omega) (by omega));go_wp2_with fail
    with_reducible refine E.out.mono ?_
    rintro e w2 ⟨rfl,a5,V,a0⟩;have P:=Z a5;have D:=Z (n.trans V);have H:=Z (o.trans a0);go_wp2
    go_roundw
    case rel=>exact⟨k+1,fL c k x,by omega,by go_num,P,D,H,M,by simp only[fL,List.length_append,List.length_cons,List.length_nil];omega⟩
    case measure=>simp[intOf];omega
   ·have F:Hid (c=d):=Z (by
     rw[List.drop_of_length_le (by have:=r.out;omega)]at p;exact p)
    go_wp2
    go_meet
    rw[<-F];exact⟨O,n,o⟩
 case rest=>
  obtain⟨m,j,l⟩:=hcut;obtain⟨w1,a9⟩:=nm wc;rw[a9]at m j l⊢;have n:=Z j;have o:=Z l;obtain⟨vc,f⟩:=m;have I:=Z f;have ap:w1.cell? (b,0)=some vc:=f.row.cell rfl;have Q:=f.row.free 0;have z:=f.row.lt;have A:vc.ownBlock≠some b:=bm f.code f.row (by decide);have R:=f.code;have X:d.code.length<=900010:=by rw[<-s,L.1];have:=r.out;omega
  have a4:B<=w1.heap.size:=by have:=j.size;omega
  go_wp2_with (at_builtin;refine wpList_append_lies _ rfl _ _ _ rfl B 184 am _ 7 56 underlying75 G ab ad al rfl (by omega) vc d.code.length (d.code.flatMap dn) rfl (R.alloc _) ⟨w1.heap.size,0,none⟩ 1 1 [.int .i64 22,.int .i64 0,.int .i64 0,.int .i64 0,.int .u64 (IntKind.u64.wrap num),.int .i64 0,.int .i64 0] rfl rfl (World.news_of_block (cs:=#[.int .i64 22,.int .i64 0,.int .i64 0,.int .i64 0,.int .u64 (IntKind.u64.wrap num),.int .i64 0,.int .i64 0]) (t:=184) (fr:=(0,0)) (heap_alloc_new w1 _)) (by simp[Value.oneCell']) (by omega) (by unfold maxLen;omega) (by omega) (by simp;omega) (w1.heap.size+1) (by simp) ?_)
  intro bi av w2 a2 u bv a1;have c1:w2.cell? (b,0)=some vc:=(u.cell_far ⟨b,0,none⟩ (by simp;omega) (Ne.symm A)).trans (by simp[go_sem,World.cell?_alloc_past,z,ap]);have c2:w2.frozen? (b,0)=false:=(u.frozen_far ⟨b,0,none⟩ (by simp;omega) (Ne.symm A)).trans (by simp[go_sem,World.frozen?_alloc_past,z,Q]);have q:=Z (I.iT a4 ⟨22,0,0,0,IntKind.u64.wrap num,0,0⟩ a2 (ao u));go_wp2
  go_end0
  refine⟨rfl,?_,n.trans q.2.1,o.trans q.2.2⟩;unfold ca;rw[s];exact q.1
structure fk where
 BI:Int
 a:Int
 b:Int
 c:Int
 d:Int
def E8(x:fk):List Value:=[.int .i64 x.BI,.int .u64 x.a,.int .u64 x.b,.int .u64 x.c,.int .u64 x.d]
def gW(b:Int):Int:=if b%5=0 then 18446744073709551615 else b%60
theorem tE(b:Int)(hb:aK b)(w:World):Calls prog 118 #[.int .u64 b] w (ez (.int .u64 (gW b)) w):=by
 have d:=hb.1;have e:=hb.2;by_cases h:b%5=0
 ·have a:Hid (gW b=18446744073709551615):=Z (by unfold gW;rw[if_pos h])
  have c:(b%5==0)=true:=by rw[beq_iff_eq];exact h
  go_wp2
  go_ret;exact ez.mk (congrArg (Value.int .u64) a)
 ·have a:Hid (gW b=b%60):=Z (by unfold gW;rw[if_neg h])
  have c:(b%5==0)=false:=by rw[beq_eq_false_iff_ne];exact h
  go_wp2
  go_ret;exact ez.mk (congrArg (Value.int .u64) a)
def ns:List Int:=[900,901,902,903,904,70,71,72,73]
def Bj(w:World)(e:Ending)(w':World):Prop:=∃g cap,e=.returned (.slice (some ⟨g,0,none⟩) 9 cap)/\9<=cap/\(∀k v,ns[k]?=some v->w'.cell? ⟨g,k,none⟩=some (.int .i64 v))/\Ch ag w w'
theorem yX(w:World):Calls prog 117 #[.int .i64 16] w (Bj w):=by
 obtain⟨E,u,A,B,C⟩:=info_parts lk;go_in
 go_upto_region 3 with fail
 obtain⟨w1,c⟩:=nm (w.alloc (.cells #[.int .i64 900,.int .i64 901,.int .i64 902,.int .i64 903,.int .i64 904] 3));have d:=Z (Ch.al (D:=ag) c);have f:w1.ownsRow w.heap.size 3 1 (.slice (some (w.heap.size,0)) 5 5) 5 [.int .i64 900,.int .i64 901,.int .i64 902,.int .i64 903,.int .i64 904]:=mY (by rw[<-c];exact Row.new _ _ _) rfl (by decide) (Nat.le_refl _);have j:=Z u;have z:w.heap.size<=w1.heap.size:=d.size;obtain⟨sb,b⟩:=nm w.heap.size;have m:=Z b;rw[c,b];rw[b]at f z;go_wp2_with (at_builtin;refine wpList_append_lies _ rfl _ _ _ rfl sb 3 E _ 1 8 underlying45 j A B C rfl (by omega) (.slice (some (sb,0)) 5 5) 5 [.int .i64 900,.int .i64 901,.int .i64 902,.int .i64 903,.int .i64 904] rfl (f.alloc _) ⟨w1.heap.size,0,none⟩ 4 4 [.int .i64 70,.int .i64 71,.int .i64 72,.int .i64 73] rfl rfl (World.news_of_block (cs:=#[.int .i64 70,.int .i64 71,.int .i64 72,.int .i64 73]) (t:=3) (fr:=(0,0)) (heap_alloc_new w1 _)) (by simp[Value.oneCell']) (by omega) (by unfold maxLen;omega) (by omega) (by simp;omega) (w1.heap.size+1) (by simp) ?_)
 intro p n w2 x s I L;have l:=Z x;have h:=Z s;go_wp2
 go_ret;obtain⟨H,F,M,r,_,q,_,y,_⟩:=aE l (by decide);injection r with a _ o
 injection a with a
 injection a with a
 subst a;subst o;refine⟨p,n,rfl,q,fun k v g=>y.cell ?_,d.fresh (Ch.bK (ao h)) (fun i J e=>by
  have G:sb=i:=by simpa[Value.ownBlock]using e
  have:=m.out;omega)⟩
 have K:k<9:=(List.getElem?_eq_some_iff.1 g).1;rw[List.getElem?_append_left (by simp;omega)];have:(ns.map (Value.int .i64))[k]?=some (.int .i64 v):=by rw[List.getElem?_map,g];rfl
 exact this
def cX(v n:Int):Int:=if n<1 then 0 else if Int.tmod v n<0 then Int.tmod v n+n else Int.tmod v n
theorem o0(v n:Int)(d:n<=1000000)(w:World):Calls prog 24 #[v,n] w (fun e w'=>e=.returned (.int .i64 (cX v n))/\w=w'):=by
 go_in
 by_cases b:n<1
 ·have a:Hid (cX v n=0):=by show _=_;unfold cX;rw[if_pos b]
  go_wp2
  go_ret;rw[a];exact⟨rfl,rfl⟩
 ·have f:¬n=0:=by omega
  have g:=Int.tmod_lt_of_pos v (show 0<n by omega);have h:-n<Int.tmod v n:=by
   have:=Int.tmod_lt_of_pos (-v) (show 0<n by omega);rw[Int.neg_tmod]at this;omega
  by_cases c:Int.tmod v n<0
  ·have a:Hid (cX v n=Int.tmod v n+n):=by show _=_;unfold cX;rw[if_neg b,if_pos c]
   go_wp2
   go_ret;rw[a];exact⟨rfl,rfl⟩
  ·have a:Hid (cX v n=Int.tmod v n):=by show _=_;unfold cX;rw[if_neg b,if_neg c]
   go_wp2
   go_ret;rw[a];exact⟨rfl,rfl⟩
theorem dR(v n:Int)(h:1<=n):0<=cX v n/\cX v n<n:=by
 unfold cX;have a:=Int.tmod_lt_of_pos v (show 0<n by omega);have b:-n<Int.tmod v n:=by
  have:=Int.tmod_lt_of_pos (-v) (show 0<n by omega);rw[Int.neg_tmod]at this;omega
 split
 ·omega
 ·split<;>omega
def di(wk ce:Int):Int×Int:=(1+cX wk 5,if Int.tmod ce 5=0 then 60+cX ce 90 else 200+cX ce 400)
theorem o1(wk ce:Int):1<=(di wk ce).1/\(di wk ce).1<=64/\1<=(di wk ce).2/\(di wk ce).2<=65536:=by
 have a:=dR wk 5 (by decide);have b:=dR ce 90 (by decide);have c:=dR ce 400 (by decide);unfold di;dsimp only
 split<;>omega
theorem tF(wk ce:Int)(w:World):Calls prog 12 #[.agg #[wk,ce]] w (ds (.agg #[.int .i64 (di wk ce).1,.int .i64 (di wk ce).2]) w):=by
 have u:=dR wk 5 (by decide);have x:=dR ce 90 (by decide);have y:=dR ce 400 (by decide);have l:=Z (fun v n A w=>o0 v n A w);have i:Hid ((di wk ce).1=1+cX wk 5):=Z rfl;obtain⟨a,z⟩:=nm (cX wk 5);obtain⟨b,hb⟩:=nm (cX ce 90);obtain⟨c,q⟩:=nm (cX ce 400);have g:=Z (l wk 5 (by decide));have p:=Z (l ce 90 (by decide));have h:=Z (l ce 400 (by decide));rw[z]at g u i;rw[hb]at p x;rw[q]at h y;have r:=Z hb;have s:=Z q;have w1:IntKind.i64.wrap (200+c)=200+c:=IntWalk.i64_in _ (by omega);have w2:IntKind.i64.wrap (60+b)=60+b:=IntWalk.i64_in _ (by omega);have w3:IntKind.i64.wrap (1+a)=1+a:=IntWalk.i64_in _ (by omega);by_cases m:Int.tmod ce 5=0
 ·have j:Hid ((di wk ce).2=60+b):=Z (by unfold di;rw[if_pos m,r])
  go_in
  go_wp2_with (first|(go_at_call 24;(with_reducible refine(h.out _).mono ?_);rintro e w' ⟨rfl,rfl⟩)|(go_at_call 24;(with_reducible refine(p.out _).mono ?_);rintro e w' ⟨rfl,rfl⟩)|(go_at_call 24;(with_reducible refine(g.out _).mono ?_);rintro e w' ⟨rfl,rfl⟩))
  obtain⟨B,f⟩:=nm ((w.alloc (.cells #[wk,ce] 23)).alloc (.cells #[.int .i64 (1+a),.int .i64 (60+b)] 35));have d:=iW (w.alloc (.cells #[wk,ce] 23)) (k:=w.heap.size+1) (by simp) (cs:=#[.int .i64 (1+a),.int .i64 (60+b)]) (t:=35) rfl;rw[f]at d⊢;obtain⟨y0,o⟩:=d.c2;refine bodyPost_ret (v:=.agg #[.int .i64 (1+a),.int .i64 (60+b)]) ?_ rfl ?_
  ·simp[results,Tryz.f12,go_sem,y0,o]
  ·rw[i,j,<-f]
   exact⟨rfl,ay⟩
 ·have j:Hid ((di wk ce).2=200+c):=Z (by unfold di;rw[if_neg m,s])
  have C:(Int.tmod ce 5==0)=false:=by simpa using m
  go_in
  go_wp2_with (first|(go_at_call 24;(with_reducible refine(h.out _).mono ?_);rintro e w' ⟨rfl,rfl⟩)|(go_at_call 24;(with_reducible refine(g.out _).mono ?_);rintro e w' ⟨rfl,rfl⟩))
  obtain⟨B,f⟩:=nm ((w.alloc (.cells #[wk,ce] 23)).alloc (.cells #[.int .i64 (1+a),.int .i64 (200+c)] 35));have d:=iW (w.alloc (.cells #[wk,ce] 23)) (k:=w.heap.size+1) (by simp) (cs:=#[.int .i64 (1+a),.int .i64 (200+c)]) (t:=35) rfl;rw[f]at d⊢;obtain⟨y0,o⟩:=d.c2;refine bodyPost_ret (v:=.agg #[.int .i64 (1+a),.int .i64 (200+c)]) ?_ rfl ?_
  ·simp[results,Tryz.f12,go_sem,y0,o]
  ·rw[i,j,<-f]
   exact⟨rfl,ay⟩
def cellOf(x:fk):Int:=if 4294967296<x.a then x.a else x.a%4
def ey(x:fk):Int:=ns.getD (cX x.BI 9).toNat 0
def jf(S:WS)(X:be):WS:={S with code:=S.code++[X]}
def cF(S:WS)(x:fk):WS:=
 if 900<=ey x then jf (fL (fL S 2 (x.b%5)) 3 (x.c%5)) ⟨17+ey x-900,2,-1,if ey x=904 then 3 else 0,cellOf x,0,0⟩
 else if ey x=70 then ca S 70 [cellOf x,x.b%3,gW x.c,1+x.d%3]
 else if ey x=71 then ca S 71 [cellOf x,x.b%4,1+x.c%3]
 else ca S (ey x) [cellOf x,x.b%3,x.c%4,x.d%3]
structure je(x:fk):Prop where
 a:aK x.a
 b:aK x.b
 c:aK x.c
 d:aK x.d
theorem tH{W a:World}(h:Below B w w1)(d:B<=w1.heap.size)(c:Ch ag w1 W)(k:Below B W a):Below B w a:=(h.trans (c.below d (fun _ hb=>False.elim hb))).trans k
theorem yZ(x:fk):ns[(cX x.BI 9).toNat]?=some (ey x)/\(900<=ey x/\ey x<=904∨ey x=70∨ey x=71∨ey x=72∨ey x=73):=by
 obtain⟨a,d⟩:=dR x.BI 9 (by decide);obtain⟨k,c⟩:=Int.eq_ofNat_of_zero_le a;unfold ey;rw[c,Int.toNat_natCast];have:k<9:=by omega
 rcases(show k=0∨k=1∨k=2∨k=3∨k=4∨k=5∨k=6∨k=7∨k=8 by omega)with rfl|rfl|rfl|rfl|rfl|rfl|rfl|rfl|rfl<;>decide
theorem rC.tI{vc v':Value}{S:WS}(h:rC w B b vc vw vh S)(r:B<=w.heap.size)(y:be)
 (o:w1.ownsRow B 184 7 v' (S.code.length+1) (S.code.flatMap dn++dn y)) (d:w.grownBy w1 vc.ownBlock):
 rC (w1.setCell (b,0) v') B b v' vw vh {S with code:=S.code++[y]}/\Below B w (w1.setCell (b,0) v')/\bb w (w1.setCell (b,0) v'):=by
 have c:=kq (p:=b) (j:=0) (u:=v') d;have k:Row w1 b 174 [vc,.int .i64 16,.slice none 0 0,vw,vh]:=by
  unfold Row;rw[d.block b h.row.lt (fun e=>bm h.code h.row (by decide) e.symm)];exact h.row
 have m:(w1.setCell (b,0) v').ownsRow B 184 7 v' (S.code++[y]).length ((S.code++[y]).flatMap dn):=by
  have:=dT (j:=0) (u:=v') o k (by decide);rw[List.flatMap_append,List.length_append];simpa using this
 have q:∀{s:Nat} {v:Value} {n:Nat} {xs:List Value},w.ownsRow B 3 s v n xs->(w1.setCell (b,0) v').ownsRow B 3 s v n xs:=fun i=>ak i c (fun g l a=>by
  obtain⟨_,cs,f⟩:=bW i l;rcases a with rfl|a
  ·exact absurd (eM h.row f) (by decide)
  ·exact bm h.code f (by decide) a)
 exact⟨⟨k.bc _ _ rfl,h.hB,m,q h.work,q h.aP,h.ne⟩,f' c h.code h.hB r,bb.Hj c h.row h.code⟩
theorem rC.Gv{g n cap:Nat}{S:WS}{l:List be}{X:be}(h:rC w B b (.slice (some (g,0)) n cap) vw vh {S with code:=l++[X]})(r:n=l.length+1)(c:Int):
 fO (w.setCell (g,l.length*7+3) (.int .i64 c)) B b vw vh {S with code:=l++[{X with c:=c}]}/\Below B w (w.setCell (g,l.length*7+3) (.int .i64 c))/\bb w (w.setCell (g,l.length*7+3) (.int .i64 c)):=by
 obtain⟨G,cs,m⟩:=bW h.code (k:=g) rfl;have d:Ch (aH g) w (w.setCell (g,l.length*7+3) (.int .i64 c)):=ay;have q:∀{s:Nat} {v:Value} {n:Nat} {xs:List Value},w.ownsRow B 3 s v n xs->(w.setCell (g,l.length*7+3) (.int .i64 c)).ownsRow B 3 s v n xs:=fun u=>ak u d (fun k o e=>by have a:k=g:=e;subst a;exact bm u m (by decide) o)
 have hlen:({S with code:=l++[X]}:WS).code.length=n:=by show(l++[X]).length=n;rw[List.length_append,r];rfl
 have p:=h.code;rw[hlen]at p;have D:(l++[X])[l.length]?=some X:=by rw[List.getElem?_append_right (Nat.le_refl _),Nat.sub_self];rfl
 have F:=ig (enc:=dn) p ew D 3 (by omega) rfl (v:=.int .i64 c) (y:={X with c:=c}) rfl hlen.symm;have A:(l++[X]).set l.length {X with c:=c}=l++[{X with c:=c}]:=by rw[List.set_append_right _ _ (Nat.le_refl _),Nat.sub_self];rfl
 have z:(w.setCell (g,l.length*7+3) (.int .i64 c)).ownsRow B 184 7 (.slice (some (g,0)) n cap) n (((l++[X]).set l.length {X with c:=c}).flatMap dn):=F;rw[A]at z;refine⟨⟨_,h.row.ch d (fun e=>by have a:b=g:=e;subst a;exact absurd (eM h.row m) (by decide)),h.hB,?_,q h.work,q h.aP,h.ne⟩,d.below (by have:=h.row.lt;have:=h.hB;omega) (fun i E=>by have e:i=g:=E;omega),bb.fj d (fun k x t f o j=>by have e:k=g:=o;subst e;rw[m]at j;injection j with j;injection j with _ C _;exact Or.inr C.symm)⟩;show(w.setCell (g,l.length*7+3) (.int .i64 c)).ownsRow B 184 7 (.slice (some (g,0)) n cap) (l++[{X with c:=c}]).length ((l++[{X with c:=c}]).flatMap dn)
 have a:(l++[{X with c:=c}]).length=n:=by rw[List.length_append,r];rfl
 rw[a];exact z
theorem rs(x:fk)(g1:je x)(S:WS)(B b:Nat)(w:World)(h:fO w B b vw vh S)(fn:B<=w.heap.size)(gt:S.code.length<=800000):
 Calls prog 76 #[(b,0),.agg #[.int .i64 x.BI,.int .u64 x.a,.int .u64 x.b,.int .u64 x.c,.int .u64 x.d]] w (gO (cF S x) B b vw vh w):=by
 obtain⟨f,cd⟩:=yZ x;obtain⟨en,es⟩:=dR x.BI 9 (by decide);have cC:=Z (o0 x.BI 9 (by decide));obtain⟨k,eS⟩:=Int.eq_ofNat_of_zero_le en;rw[eS]at cC es f;rw[Int.toNat_natCast]at f;have dr:=Z f;have cA:=Z cd;have cW:=Z h;have X:=Z g1;obtain⟨v,fz⟩:=nm (ey x);have C:=Z fz;have gr:k<9:=by omega
 obtain⟨vc,p⟩:=h;have he:w.cell? (b,1)=some (.int .i64 16):=p.row.cell rfl;have hd:=p.row.lt;go_in
 go_wp2_with fail
 obtain⟨w0,cf⟩:=nm (w.alloc (.cells #[.int .i64 x.BI,.int .u64 x.a,.int .u64 x.b,.int .u64 x.c,.int .u64 x.d] 182));obtain⟨A,cQ⟩:=nm w.heap.size;have dC:Hid (Row w0 A 182 [.int .i64 x.BI,.int .u64 x.a,.int .u64 x.b,.int .u64 x.c,.int .u64 x.d]):=Z (by rw[<-cf,<-cQ];exact Row.new _ _ _);have cS:=Z (Ch.al (D:=ag) cf);rw[cf,cQ];with_reducible refine(yX _).mono ?_
 rintro e w1 ⟨gk,gf,rfl,go,g0,cL⟩;have av:Hid (Ch ag w w1):=Z (cS.trans cL);have a0:=Z (dC.ch cL (fun e=>e));obtain⟨y0,hf,hi,hl,hm⟩:=a0.c5;have g8:=g0 k _ dr;rw[C]at g8;have J:=Z (cW.af av);have K:B<=w1.heap.size:=by have:=av.size;omega
 have gs:(k:Int)<9:=by omega
 obtain⟨u1,u2⟩:=X.a;obtain⟨u3,u4⟩:=X.b;obtain⟨u5,u6⟩:=X.c;obtain⟨u7,u8⟩:=X.d;go_upto_region 3 with(go_at_call 24;(with_reducible refine(cC.out _).mono ?_);rintro e w' ⟨rfl,rfl⟩)
 have m:Hid (Below B w w1/\bb w w1):=Z ⟨av.below fn (fun _ hb=>False.elim hb),bb.af av⟩;have eC:(4294967296<x.a/\cellOf x=x.a)∨(x.a<=4294967296/\cellOf x=x.a%4):=by
  unfold cellOf;by_cases a3:4294967296<x.a
  ·exact Or.inl ⟨a3,if_pos a3⟩
  ·exact Or.inr ⟨by omega,if_neg a3⟩
 rcases eC with⟨a3,c5⟩|⟨a3,c5⟩
 ·have E:=Z c5
  go_upto_block 0 with fail
  have al:=cA.out;rw[C]at al;rcases al with⟨f,cd⟩|f|f|f|f
  ·have d:Hid (cF S x=jf (fL (fL S 2 (x.b%5)) 3 (x.c%5)) ⟨17+v-900,2,-1,if v=904 then 3 else 0,x.a,0,0⟩):=Z (by unfold cF;rw[C,if_pos f,E])
   obtain⟨cm,c7,ci,ck,cl⟩:=info_parts iz;have bx:=Z c7;go_wp2_with fail
   with_reducible refine(jG S 2 (x.b%5) B b w1 J.out K (by omega)).mono ?_
   rintro e w2 ⟨rfl,ch,a4,a9⟩;have c1:=Z ch;have Y:Hid (Below B w w2/\bb w1 w2):=Z ⟨m.1.trans a4,a9⟩;have g7:w2.cell? (A,3)=some (.int .u64 x.c):=(a9.row a0 (by decide) (by decide)).cell rfl;have c9:B<=w2.heap.size:=(by have:=a4.size;omega);have c6:(fL S 2 (x.b%5)).code.length=S.code.length+1:=(by simp[fL]);have bi:=Z c6;go_wp2_with fail
   with_reducible refine(jG (fL S 2 (x.b%5)) 3 (x.c%5) B b w2 c1.out c9 (by rw[bi.out];omega)).mono ?_
   rintro e w3 ⟨rfl,am,a5,c8⟩;have L:Hid (Below B w w3/\bb w w3):=Z ⟨Y.1.trans a5,m.2.trans (Y.2.trans c8)⟩;obtain⟨i,a2⟩:=nm (fL (fL S 2 (x.b%5)) 3 (x.c%5));have eL:i.code.length=S.code.length+2:=(by rw[<-a2];simp[fL]);rw[a2]at d am;have cb:B<=w3.heap.size:=(by have:=a5.size;omega);obtain⟨c,a1⟩:=nm i.code.length;have et:c<=900000:=(by omega);have G:=Z a1;obtain⟨vc,p⟩:=am;have c0:=Z p;have cq:w3.cell? (b,0)=some vc:=p.row.cell rfl;have c3:=p.row.free 0;have ad:=p.row.lt;have ap:vc.ownBlock≠some b:=bm p.code p.row (by decide);have c4:w3.ownsRow B 184 7 vc c (i.code.flatMap dn):=(by rw[<-a1];exact p.code);go_wp2_with (at_builtin;refine wpList_append_lies _ rfl _ _ _ rfl B 184 cm _ 7 56 underlying75 bx ci ck cl rfl (by omega) vc c (i.code.flatMap dn) rfl (c4.alloc _) ⟨w3.heap.size,0,none⟩ 1 1 [.int .i64 (17+v-900),.int .i64 2,.int .i64 (-1),.int .i64 0,.int .u64 x.a,.int .i64 0,.int .i64 0] rfl rfl (World.news_of_block (cs:=#[.int .i64 (17+v-900),.int .i64 2,.int .i64 (-1),.int .i64 0,.int .u64 x.a,.int .i64 0,.int .i64 0]) (t:=184) (fr:=(0,0)) (heap_alloc_new w3 _)) (by simp[Value.oneCell']) (by omega) (by unfold maxLen;omega) (by omega) (by simp;omega) (w3.heap.size+1) (by simp) ?_)
   intro q y w4 ab U ex eW;have g4:w4.cell? (b,0)=some vc:=(U.cell_far ⟨b,0,none⟩ (by simp;omega) (Ne.symm ap)).trans (by simp[go_sem,World.cell?_alloc_past,ad,cq]);have g5:w4.frozen? (b,0)=false:=(U.frozen_far ⟨b,0,none⟩ (by simp;omega) (Ne.symm ap)).trans (by simp[go_sem,World.frozen?_alloc_past,ad,c3]);have eA:c+1<=y:=by
    obtain⟨_,_,_,T,_,O,_⟩:=aE ab (by omega);injection T with _ _ c2
    omega
   have n:Hid (rC (w4.setCell (b,0) (.slice (some (q,0)) (c+1) y)) B b (.slice (some (q,0)) (c+1) y) vw vh {i with code:=i.code++[⟨17+v-900,2,-1,0,x.a,0,0⟩]}/\Below B w3 (w4.setCell (b,0) (.slice (some (q,0)) (c+1) y))/\bb w3 (w4.setCell (b,0) (.slice (some (q,0)) (c+1) y))):=Z (c0.tI cb ⟨17+v-900,2,-1,0,x.a,0,0⟩ (by rw[G];exact ab) (ao U));by_cases N:v=904
   ·have ce:(v==904)=true:=by rw[beq_iff_eq];exact N
    rw[if_pos N]at d;go_upto_region 12 with fail
    obtain⟨a,o⟩:=nm (w4.setCell (b,0) (.slice (some (q,0)) (c+1) y));rw[o]at n⊢;have g9:a.cell? (b,0)=some (.slice (some (q,0)) (c+1) y):=n.1.row.cell rfl;have P:∃Q,Row a q 184 ((i.code++[(⟨17+v-900,2,-1,0,x.a,0,0⟩:be)]).flatMap dn++Q):=by
     obtain⟨ec,dN,Q,T,_,O,_,V,_⟩:=aE n.1.code (by show 0<(i.code++[_]).length;simp);injection T with H _ c2
     injection H with H
     injection H with H
     subst H;exact⟨Q,V⟩
    obtain⟨Q,P⟩:=P;have gc:a.cell? (q,c*7+3)=some (.int .i64 0):=P.cell (by
     rw[List.getElem?_append_left (by rw[aU ew,List.length_append,G];simp;omega)];exact(bJ ew (show(i.code++[(⟨17+v-900,2,-1,0,x.a,0,0⟩:be)])[c]?=some (⟨17+v-900,2,-1,0,x.a,0,0⟩:be)from by rw[<-G,List.getElem?_append_right (Nat.le_refl _),Nat.sub_self];rfl) (j:=3) (by omega)).trans rfl)
    have ge:=P.free (c*7+3);have fb:IntKind.i64.wrap ((c:Int)+1-1)=c:=(by rw[show(c:Int)+1-1=c from by omega];exact IntWalk.i64_in _ (by omega));have fd:(c:Int)<c+1:=(by omega);have M:=Z (n.1.Gv (l:=i.code) (by rw[G]) 3);rw[G]at M;go_still_tail 10,(by kernel_rfl)
    change wpList _ _ _ _ _ a.drew;go_wp2
    go_end0
    rw[d];have I:=L.1.trans (n.2.1.trans M.2.1);exact⟨rfl,M.1.af ay,⟨I.os,I.tape,I.output,I.size,I.block⟩,L.2.trans (n.2.2.trans M.2.2)⟩
   ·have ce:(v==904)=false:=by rw[beq_eq_false_iff_ne];exact N
    rw[if_neg N]at d;go_wp2
    go_end0
    rw[d];exact⟨rfl,⟨_,n.1⟩,L.1.trans n.2.1,L.2.trans n.2.2⟩
  ·have d:Hid (cF S x=ca S 70 [cellOf x,x.b%3,gW x.c,1+x.d%3]):=Z (by unfold cF;rw[C,f];rfl)
   rw[E]at d;subst f;have bw:=Z (fun w=>tE x.c X.c w);have g6:IntKind.u64.wrap (1+x.d%3)=1+x.d%3:=IntWalk.u64_in _ (by omega);have g2:x.b.tmod 3=x.b%3:=Int.tmod_eq_emod_of_nonneg u3;have g3:x.d.tmod 3=x.d%3:=Int.tmod_eq_emod_of_nonneg u7;go_wp2
   have bv:Hid (∀W,Ch ag w1 W->Row W w1.heap.size 39 ([x.a,x.b%3,gW x.c,1+x.d%3].map (Value.int .u64))->Calls prog 74 #[(b,0),.int .i64 70,.slice (some (w1.heap.size,0)) 4 4] W (gO (ca S 70 [x.a,x.b%3,gW x.c,1+x.d%3]) B b vw vh W)):=
    Z (fun W O V=>eI S 70 [x.a,x.b%3,gW x.c,1+x.d%3] (by simp) w1.heap.size 4 B b (by simp) W V (J.af O) (by have:=O.size;omega) (by omega))
   go_region_held3 (fun w'=>w'.cell? (A,2)=some (.int .u64 x.b)/\w'.cell? (A,3)=some (.int .u64 x.c)/\w'.cell? (A,4)=some (.int .u64 x.d)) (go_keep) (first|(go_at_call 24;fail)|(go_at_call 118;(with_reducible refine(bw.out _).mono ?_);rintro e w' ⟨rfl,rfl⟩)|(go_at_call 74;refine(bv.out _ ay (by first|exact Row.new w1 _ _|exact(Row.new w1 _ _).drew)).mono ?_;rintro e a ⟨rfl,o,z,r⟩;have u:=Z o;have g:Hid (Below B w a):=Z (tH m.out.1 K ay z);have s:Hid (bb w a):=Z ((m.out.2.trans (bb.af ay)).trans r);have R:=Z (((show bb w1 a from(bb.af ay).trans r)).row a0.out (by decide) (by decide));have t2:a.cell? (A,2)=some (.int .u64 x.b):=R.out.cell rfl;have t3:a.cell? (A,3)=some (.int .u64 x.c):=R.out.cell rfl;have t4:a.cell? (A,4)=some (.int .u64 x.d):=R.out.cell rfl))
   all_goals
    go_wp2
    go_end0
    rw[d];exact⟨rfl,u,⟨g.os,g.tape,g.out.output,g.size,g.block⟩,s⟩
  ·have d:Hid (cF S x=ca S 71 [cellOf x,x.b%4,1+x.c%3]):=Z (by unfold cF;rw[C,f];rfl)
   rw[E]at d;subst f;have F:=Z (show Calls prog 74 #[(b,0),.int .i64 71,.slice (some (w1.heap.size,0)) 3 3] (w1.alloc (.cells #[.int .u64 x.a,.int .u64 (x.b%4),.int .u64 (1+x.c%3)] 39)) (gO (ca S 71 [x.a,x.b%4,1+x.c%3]) B b vw vh (w1.alloc (.cells #[.int .u64 x.a,.int .u64 (x.b%4),.int .u64 (1+x.c%3)] 39)))from eI S 71 [x.a,x.b%4,1+x.c%3] (by simp) w1.heap.size 3 B b (by simp) (w1.alloc (.cells #[.int .u64 x.a,.int .u64 (x.b%4),.int .u64 (1+x.c%3)] 39)) (Row.new w1 _ _) (J.af ay) (by simp;omega) (by omega));go_wp2_with fail
   with_reducible refine F.out.mono ?_
   rintro e a ⟨rfl,o,z,r⟩;have u:=Z o;have g:Hid (Below B w a):=Z (tH m.1 K ay z);have s:Hid (bb w a):=Z ((m.2.trans (bb.af ay)).trans r);go_wp2
   go_end0
   rw[d];exact⟨rfl,u,g,s⟩
  ·have d:Hid (cF S x=ca S 72 [cellOf x,x.b%3,x.c%4,x.d%3]):=Z (by unfold cF;rw[C,f];rfl)
   rw[E]at d;subst f;have F:=Z (show Calls prog 74 #[(b,0),.int .i64 72,.slice (some (w1.heap.size,0)) 4 4] (w1.alloc (.cells #[.int .u64 x.a,.int .u64 (x.b%3),.int .u64 (x.c%4),.int .u64 (x.d%3)] 39)) (gO (ca S 72 [x.a,x.b%3,x.c%4,x.d%3]) B b vw vh (w1.alloc (.cells #[.int .u64 x.a,.int .u64 (x.b%3),.int .u64 (x.c%4),.int .u64 (x.d%3)] 39)))from eI S 72 [x.a,x.b%3,x.c%4,x.d%3] (by simp) w1.heap.size 4 B b (by simp) (w1.alloc (.cells #[.int .u64 x.a,.int .u64 (x.b%3),.int .u64 (x.c%4),.int .u64 (x.d%3)] 39)) (Row.new w1 _ _) (J.af ay) (by simp;omega) (by omega));go_wp2_with fail
   with_reducible refine F.out.mono ?_
   rintro e a ⟨rfl,o,z,r⟩;have u:=Z o;have g:Hid (Below B w a):=Z (tH m.1 K ay z);have s:Hid (bb w a):=Z ((m.2.trans (bb.af ay)).trans r);go_wp2
   go_end0
   rw[d];exact⟨rfl,u,g,s⟩
  ·have d:Hid (cF S x=ca S 73 [cellOf x,x.b%3,x.c%4,x.d%3]):=Z (by unfold cF;rw[C,f];rfl)
   rw[E]at d;subst f;have F:=Z (show Calls prog 74 #[(b,0),.int .i64 73,.slice (some (w1.heap.size,0)) 4 4] (w1.alloc (.cells #[.int .u64 x.a,.int .u64 (x.b%3),.int .u64 (x.c%4),.int .u64 (x.d%3)] 39)) (gO (ca S 73 [x.a,x.b%3,x.c%4,x.d%3]) B b vw vh (w1.alloc (.cells #[.int .u64 x.a,.int .u64 (x.b%3),.int .u64 (x.c%4),.int .u64 (x.d%3)] 39)))from eI S 73 [x.a,x.b%3,x.c%4,x.d%3] (by simp) w1.heap.size 4 B b (by simp) (w1.alloc (.cells #[.int .u64 x.a,.int .u64 (x.b%3),.int .u64 (x.c%4),.int .u64 (x.d%3)] 39)) (Row.new w1 _ _) (J.af ay) (by simp;omega) (by omega));go_wp2_with fail
   with_reducible refine F.out.mono ?_
   rintro e a ⟨rfl,o,z,r⟩;have u:=Z o;have g:Hid (Below B w a):=Z (tH m.1 K ay z);have s:Hid (bb w a):=Z ((m.2.trans (bb.af ay)).trans r);go_wp2
   go_end0
   rw[d];exact⟨rfl,u,g,s⟩
 ·have E:=Z c5
  go_upto_block 0 with fail
  have al:=cA.out;rw[C]at al;rcases al with⟨f,cd⟩|f|f|f|f
  ·have d:Hid (cF S x=jf (fL (fL S 2 (x.b%5)) 3 (x.c%5)) ⟨17+v-900,2,-1,if v=904 then 3 else 0,x.a%4,0,0⟩):=Z (by unfold cF;rw[C,if_pos f,E])
   obtain⟨cm,c7,ci,ck,cl⟩:=info_parts iz;have bx:=Z c7;go_wp2_with fail
   with_reducible refine(jG S 2 (x.b%5) B b w1 J.out K (by omega)).mono ?_
   rintro e w2 ⟨rfl,ch,a4,a9⟩;have c1:=Z ch;have Y:Hid (Below B w w2/\bb w1 w2):=Z ⟨m.1.trans a4,a9⟩;have g7:w2.cell? (A,3)=some (.int .u64 x.c):=(a9.row a0 (by decide) (by decide)).cell rfl;have c9:B<=w2.heap.size:=(by have:=a4.size;omega);have c6:(fL S 2 (x.b%5)).code.length=S.code.length+1:=(by simp[fL]);have bi:=Z c6;go_wp2_with fail
   with_reducible refine(jG (fL S 2 (x.b%5)) 3 (x.c%5) B b w2 c1.out c9 (by rw[bi.out];omega)).mono ?_
   rintro e w3 ⟨rfl,am,a5,c8⟩;have L:Hid (Below B w w3/\bb w w3):=Z ⟨Y.1.trans a5,m.2.trans (Y.2.trans c8)⟩;obtain⟨i,a2⟩:=nm (fL (fL S 2 (x.b%5)) 3 (x.c%5));have eL:i.code.length=S.code.length+2:=(by rw[<-a2];simp[fL]);rw[a2]at d am;have cb:B<=w3.heap.size:=(by have:=a5.size;omega);obtain⟨c,a1⟩:=nm i.code.length;have et:c<=900000:=(by omega);have G:=Z a1;obtain⟨vc,p⟩:=am;have c0:=Z p;have cq:w3.cell? (b,0)=some vc:=p.row.cell rfl;have c3:=p.row.free 0;have ad:=p.row.lt;have ap:vc.ownBlock≠some b:=bm p.code p.row (by decide);have c4:w3.ownsRow B 184 7 vc c (i.code.flatMap dn):=(by rw[<-a1];exact p.code);go_wp2_with (at_builtin;refine wpList_append_lies _ rfl _ _ _ rfl B 184 cm _ 7 56 underlying75 bx ci ck cl rfl (by omega) vc c (i.code.flatMap dn) rfl (c4.alloc _) ⟨w3.heap.size,0,none⟩ 1 1 [.int .i64 (17+v-900),.int .i64 2,.int .i64 (-1),.int .i64 0,.int .u64 (x.a%4),.int .i64 0,.int .i64 0] rfl rfl (World.news_of_block (cs:=#[.int .i64 (17+v-900),.int .i64 2,.int .i64 (-1),.int .i64 0,.int .u64 (x.a%4),.int .i64 0,.int .i64 0]) (t:=184) (fr:=(0,0)) (heap_alloc_new w3 _)) (by simp[Value.oneCell']) (by omega) (by unfold maxLen;omega) (by omega) (by simp;omega) (w3.heap.size+1) (by simp) ?_)
   intro q y w4 ab U ex eW;have g4:w4.cell? (b,0)=some vc:=(U.cell_far ⟨b,0,none⟩ (by simp;omega) (Ne.symm ap)).trans (by simp[go_sem,World.cell?_alloc_past,ad,cq]);have g5:w4.frozen? (b,0)=false:=(U.frozen_far ⟨b,0,none⟩ (by simp;omega) (Ne.symm ap)).trans (by simp[go_sem,World.frozen?_alloc_past,ad,c3]);have eA:c+1<=y:=by
    obtain⟨_,_,_,T,_,O,_⟩:=aE ab (by omega);injection T with _ _ c2
    omega
   have n:Hid (rC (w4.setCell (b,0) (.slice (some (q,0)) (c+1) y)) B b (.slice (some (q,0)) (c+1) y) vw vh {i with code:=i.code++[⟨17+v-900,2,-1,0,x.a%4,0,0⟩]}/\Below B w3 (w4.setCell (b,0) (.slice (some (q,0)) (c+1) y))/\bb w3 (w4.setCell (b,0) (.slice (some (q,0)) (c+1) y))):=Z (c0.tI cb ⟨17+v-900,2,-1,0,x.a%4,0,0⟩ (by rw[G];exact ab) (ao U));by_cases N:v=904
   ·have ce:(v==904)=true:=by rw[beq_iff_eq];exact N
    rw[if_pos N]at d;go_upto_region 12 with fail
    obtain⟨a,o⟩:=nm (w4.setCell (b,0) (.slice (some (q,0)) (c+1) y));rw[o]at n⊢;have g9:a.cell? (b,0)=some (.slice (some (q,0)) (c+1) y):=n.1.row.cell rfl;have P:∃Q,Row a q 184 ((i.code++[(⟨17+v-900,2,-1,0,x.a%4,0,0⟩:be)]).flatMap dn++Q):=by
     obtain⟨ec,dN,Q,T,_,O,_,V,_⟩:=aE n.1.code (by show 0<(i.code++[_]).length;simp);injection T with H _ c2
     injection H with H
     injection H with H
     subst H;exact⟨Q,V⟩
    obtain⟨Q,P⟩:=P;have gc:a.cell? (q,c*7+3)=some (.int .i64 0):=P.cell (by
     rw[List.getElem?_append_left (by rw[aU ew,List.length_append,G];simp;omega)];exact(bJ ew (show(i.code++[(⟨17+v-900,2,-1,0,x.a%4,0,0⟩:be)])[c]?=some (⟨17+v-900,2,-1,0,x.a%4,0,0⟩:be)from by rw[<-G,List.getElem?_append_right (Nat.le_refl _),Nat.sub_self];rfl) (j:=3) (by omega)).trans rfl)
    have ge:=P.free (c*7+3);have fb:IntKind.i64.wrap ((c:Int)+1-1)=c:=(by rw[show(c:Int)+1-1=c from by omega];exact IntWalk.i64_in _ (by omega));have fd:(c:Int)<c+1:=(by omega);have M:=Z (n.1.Gv (l:=i.code) (by rw[G]) 3);rw[G]at M;go_still_tail 10,(by kernel_rfl)
    change wpList _ _ _ _ _ a.drew;go_wp2
    go_end0
    rw[d];have I:=L.1.trans (n.2.1.trans M.2.1);exact⟨rfl,M.1.af ay,⟨I.os,I.tape,I.output,I.size,I.block⟩,L.2.trans (n.2.2.trans M.2.2)⟩
   ·have ce:(v==904)=false:=by rw[beq_eq_false_iff_ne];exact N
    rw[if_neg N]at d;go_wp2
    go_end0
    rw[d];exact⟨rfl,⟨_,n.1⟩,L.1.trans n.2.1,L.2.trans n.2.2⟩
  ·have d:Hid (cF S x=ca S 70 [cellOf x,x.b%3,gW x.c,1+x.d%3]):=Z (by unfold cF;rw[C,f];rfl)
   rw[E]at d;subst f;have bw:=Z (fun w=>tE x.c X.c w);have g6:IntKind.u64.wrap (1+x.d%3)=1+x.d%3:=IntWalk.u64_in _ (by omega);have g2:x.b.tmod 3=x.b%3:=Int.tmod_eq_emod_of_nonneg u3;have g3:x.d.tmod 3=x.d%3:=Int.tmod_eq_emod_of_nonneg u7;go_wp2
   have bv:Hid (∀W,Ch ag w1 W->Row W w1.heap.size 39 ([x.a%4,x.b%3,gW x.c,1+x.d%3].map (Value.int .u64))->Calls prog 74 #[(b,0),.int .i64 70,.slice (some (w1.heap.size,0)) 4 4] W (gO (ca S 70 [x.a%4,x.b%3,gW x.c,1+x.d%3]) B b vw vh W)):=
    Z (fun W O V=>eI S 70 [x.a%4,x.b%3,gW x.c,1+x.d%3] (by simp) w1.heap.size 4 B b (by simp) W V (J.af O) (by have:=O.size;omega) (by omega))
   go_region_held3 (fun w'=>w'.cell? (A,2)=some (.int .u64 x.b)/\w'.cell? (A,3)=some (.int .u64 x.c)/\w'.cell? (A,4)=some (.int .u64 x.d)) (go_keep) (first|(go_at_call 24;fail)|(go_at_call 118;(with_reducible refine(bw.out _).mono ?_);rintro e w' ⟨rfl,rfl⟩)|(go_at_call 74;refine(bv.out _ ay (by first|exact Row.new w1 _ _|exact(Row.new w1 _ _).drew)).mono ?_;rintro e a ⟨rfl,o,z,r⟩;have u:=Z o;have g:Hid (Below B w a):=Z (tH m.out.1 K ay z);have s:Hid (bb w a):=Z ((m.out.2.trans (bb.af ay)).trans r);have R:=Z (((show bb w1 a from(bb.af ay).trans r)).row a0.out (by decide) (by decide));have t2:a.cell? (A,2)=some (.int .u64 x.b):=R.out.cell rfl;have t3:a.cell? (A,3)=some (.int .u64 x.c):=R.out.cell rfl;have t4:a.cell? (A,4)=some (.int .u64 x.d):=R.out.cell rfl))
   all_goals
    go_wp2
    go_end0
    rw[d];exact⟨rfl,u,⟨g.os,g.tape,g.out.output,g.size,g.block⟩,s⟩
  ·have d:Hid (cF S x=ca S 71 [cellOf x,x.b%4,1+x.c%3]):=Z (by unfold cF;rw[C,f];rfl)
   rw[E]at d;subst f;have F:=Z (show Calls prog 74 #[(b,0),.int .i64 71,.slice (some (w1.heap.size,0)) 3 3] (w1.alloc (.cells #[.int .u64 (x.a%4),.int .u64 (x.b%4),.int .u64 (1+x.c%3)] 39)) (gO (ca S 71 [x.a%4,x.b%4,1+x.c%3]) B b vw vh (w1.alloc (.cells #[.int .u64 (x.a%4),.int .u64 (x.b%4),.int .u64 (1+x.c%3)] 39)))from eI S 71 [x.a%4,x.b%4,1+x.c%3] (by simp) w1.heap.size 3 B b (by simp) (w1.alloc (.cells #[.int .u64 (x.a%4),.int .u64 (x.b%4),.int .u64 (1+x.c%3)] 39)) (Row.new w1 _ _) (J.af ay) (by simp;omega) (by omega));go_wp2_with fail
   with_reducible refine F.out.mono ?_
   rintro e a ⟨rfl,o,z,r⟩;have u:=Z o;have g:Hid (Below B w a):=Z (tH m.1 K ay z);have s:Hid (bb w a):=Z ((m.2.trans (bb.af ay)).trans r);go_wp2
   go_end0
   rw[d];exact⟨rfl,u,g,s⟩
  ·have d:Hid (cF S x=ca S 72 [cellOf x,x.b%3,x.c%4,x.d%3]):=Z (by unfold cF;rw[C,f];rfl)
   rw[E]at d;subst f;have F:=Z (show Calls prog 74 #[(b,0),.int .i64 72,.slice (some (w1.heap.size,0)) 4 4] (w1.alloc (.cells #[.int .u64 (x.a%4),.int .u64 (x.b%3),.int .u64 (x.c%4),.int .u64 (x.d%3)] 39)) (gO (ca S 72 [x.a%4,x.b%3,x.c%4,x.d%3]) B b vw vh (w1.alloc (.cells #[.int .u64 (x.a%4),.int .u64 (x.b%3),.int .u64 (x.c%4),.int .u64 (x.d%3)] 39)))from eI S 72 [x.a%4,x.b%3,x.c%4,x.d%3] (by simp) w1.heap.size 4 B b (by simp) (w1.alloc (.cells #[.int .u64 (x.a%4),.int .u64 (x.b%3),.int .u64 (x.c%4),.int .u64 (x.d%3)] 39)) (Row.new w1 _ _) (J.af ay) (by simp;omega) (by omega));go_wp2_with fail
   with_reducible refine F.out.mono ?_
   rintro e a ⟨rfl,o,z,r⟩;have u:=Z o;have g:Hid (Below B w a):=Z (tH m.1 K ay z);have s:Hid (bb w a):=Z ((m.2.trans (bb.af ay)).trans r);go_wp2
   go_end0
   rw[d];exact⟨rfl,u,g,s⟩
  ·have d:Hid (cF S x=ca S 73 [cellOf x,x.b%3,x.c%4,x.d%3]):=Z (by unfold cF;rw[C,f];rfl)
   rw[E]at d;subst f;have F:=Z (show Calls prog 74 #[(b,0),.int .i64 73,.slice (some (w1.heap.size,0)) 4 4] (w1.alloc (.cells #[.int .u64 (x.a%4),.int .u64 (x.b%3),.int .u64 (x.c%4),.int .u64 (x.d%3)] 39)) (gO (ca S 73 [x.a%4,x.b%3,x.c%4,x.d%3]) B b vw vh (w1.alloc (.cells #[.int .u64 (x.a%4),.int .u64 (x.b%3),.int .u64 (x.c%4),.int .u64 (x.d%3)] 39)))from eI S 73 [x.a%4,x.b%3,x.c%4,x.d%3] (by simp) w1.heap.size 4 B b (by simp) (w1.alloc (.cells #[.int .u64 (x.a%4),.int .u64 (x.b%3),.int .u64 (x.c%4),.int .u64 (x.d%3)] 39)) (Row.new w1 _ _) (J.af ay) (by simp;omega) (by omega));go_wp2_with fail
   with_reducible refine F.out.mono ?_
   rintro e a ⟨rfl,o,z,r⟩;have u:=Z o;have g:Hid (Below B w a):=Z (tH m.1 K ay z);have s:Hid (bb w a):=Z ((m.2.trans (bb.af ay)).trans r);go_wp2
   go_end0
   rw[d];exact⟨rfl,u,g,s⟩
def C9(S:WS)(B b:Nat)(w:World)(e:Ending)(w':World):Prop:=e=.returned (.tuple #[])/\(∃vw vh,fO w' B b vw vh S)/\Below B w w'/\fK w w'
def kt(S:WS)(back a:Int):WS:={S with work:=S.work++[(S.code.length:Int)-back],aP:=S.aP++[a]}
theorem o3{c:Array Value}{t:TypeId}(h:w.heap[g]?=some (.cells c t (0,0)))(o:Obj):(w.alloc o).heap[g]?=some (.cells c t (0,0)):=by
 rw[Below.heap_alloc _ _ _ (Array.getElem?_eq_some_iff.1 h).1];exact h
theorem tJ(w:World)(o a:Obj):((w.alloc o).alloc a).heap[w.heap.size+1]?=some a:=by
 have h:=heap_alloc_new (w.alloc o) a
 rwa [World.size_alloc]at h
theorem rC.both{w2 w4:World}{b a o d q:Nat}{vc:Value}{S:WS}(h:rC w B b vc vw vh S)(x y:Int)(F:Ch (fun i=>vw.ownBlock=some i) w w2)(v:Ch (fun i=>vh.ownBlock=some i) w2 w4)
 (H:w2.ownsRow B 3 1 (.slice (some (a,0)) (S.work.length+1) o) (S.work.length+1) (S.work.flatMap jz++jz x)) (a1:vw.ownBlock=some a∨w.heap.size<=a)
 (N:w4.ownsRow B 3 1 (.slice (some (d,0)) (S.aP.length+1) q) (S.aP.length+1) (S.aP.flatMap jz++jz y)) (a2:vh.ownBlock=some d∨w2.heap.size<=d) (L:B<=w.heap.size):
 (∃vw vh,fO ((w4.setCell (b,3) (.slice (some (a,0)) (S.work.length+1) o)).setCell (b,4) (.slice (some (d,0)) (S.aP.length+1) q)) B b vw vh {S with work:=S.work++[x],aP:=S.aP++[y]})/\
 Below B w ((w4.setCell (b,3) (.slice (some (a,0)) (S.work.length+1) o)).setCell (b,4) (.slice (some (d,0)) (S.aP.length+1) q))/\
 fK w ((w4.setCell (b,3) (.slice (some (a,0)) (S.work.length+1) o)).setCell (b,4) (.slice (some (d,0)) (S.aP.length+1) q)):=by
 have wb:vw.ownBlock≠some b:=bm h.work h.row (by decide);have hb:vh.ownBlock≠some b:=bm h.aP h.row (by decide);have O:Row w2 b 174 [vc,.int .i64 16,.slice none 0 0,vw,vh]:=h.row.ch F wb;have s:=O.ch v hb;have G:vh.ownBlock≠some a:=fun e=>by
  rcases a1 with r|r
  ·exact h.ne a r e
  ·obtain⟨_,_,l⟩:=bW h.aP e
   have:=(Array.getElem?_eq_some_iff.1 l).1;omega
 obtain⟨_,P,J⟩:=bW H (k:=a) rfl;have M:=ak H v (fun k c e=>by
  have A:a=k:=by simpa[Value.ownBlock]using c
  subst A;exact G e)
 let D:Nat->Prop:=fun i=>i=b∨vw.ownBlock=some i∨vh.ownBlock=some i
 have z:Ch D w ((w4.setCell (b,3) (.slice (some (a,0)) (S.work.length+1) o)).setCell (b,4) (.slice (some (d,0)) (S.aP.length+1) q)):=
  (((F.mono (E:=D) (fun i n=>Or.inr (Or.inl n))).trans (v.mono (E:=D) (fun i n=>Or.inr (Or.inr n)))).hj (p:=⟨b,3,none⟩) (Or.inl rfl) _).hj (p:=⟨b,4,none⟩) (Or.inl rfl) _
 refine⟨⟨_,_,vc,(s.bc 3 _ rfl).bc 4 _ rfl,h.hB,?_,?_,?_,?_⟩,z.below L (fun i n=> ?_),fK.fj z (fun k t2 t f c m=> ?_)⟩
 ·exact ak h.code z (fun k c hd=>by
   obtain⟨_,_,l⟩:=bW h.code c;rcases hd with rfl|hd|hd
   ·exact absurd (eM h.row l) (by decide)
   ·exact bm h.work l (by decide) hd
   ·exact bm h.aP l (by decide) hd)
 ·have:=dT (j:=4) (u:=.slice (some (d,0)) (S.aP.length+1) q) (dT (j:=3) (u:=.slice (some (a,0)) (S.work.length+1) o) M s (by decide)) (s.bc 3 _ rfl) (by decide)
  rw[List.flatMap_append,List.length_append];simpa using this
 ·have:=dT (j:=4) (u:=.slice (some (d,0)) (S.aP.length+1) q) (dT (j:=3) (u:=.slice (some (a,0)) (S.work.length+1) o) N s (by decide)) (s.bc 3 _ rfl) (by decide)
  rw[List.flatMap_append,List.length_append];simpa using this
 ·intro k c K
  have I:a=k:=by simpa[Value.ownBlock]using c
  have A:d=k:=by simpa[Value.ownBlock]using K
  subst I;subst A;rcases a2 with r|r
  ·exact G r
  ·have:=(Array.getElem?_eq_some_iff.1 J).1
   omega
 ·rcases n with rfl|n|n
  ·exact h.hB
  ·exact(bW h.work n).1
  ·exact(bW h.aP n).1
 ·rcases c with rfl|c|c
  ·exact Or.inl (eM h.row m)
  ·obtain⟨_,_,l⟩:=bW h.work c
   rw[l]at m;injection m with m;injection m with _ C _
   exact Or.inr (Or.inr C.symm)
  ·obtain⟨_,_,l⟩:=bW h.aP c
   rw[l]at m;injection m with m;injection m with _ C _
   exact Or.inr (Or.inr C.symm)
theorem y1{ops:Array Oper}{o:Oper}{a:Act}{K:Act->World->Prop}{Q:Exit->Act->World->Prop}{E:Prop}{s x:Operand}{n:Nat}{v:Value}{xs:List Value}{y:Int}{W:World}
 (m:o.guard=none) (u:o.op=.call {callee:=.builtin .append,args:=#[s,x],argTypes:=#[45,45]}) (A:a.eval s=v) (C:a.eval x=.slice (some (g,0)) 1 1)
 (c:Ch ag w W) (z:w.ownsRow B 3 1 v n xs) (L:n<=900000) (h:B<=w.heap.size) (l:W.heap[g]?=some (.cells #[.int .i64 y] 3 (0,0)))
 (H:∀b d w',w'.ownsRow B 3 1 (.slice (some ⟨b,0,none⟩) (n+1) d) (n+1) (xs++[.int .i64 y])->Ch (fun i=>v.ownBlock=some i) w w'->(v.ownBlock=some b∨w.heap.size<=b)->(∀k,k<W.heap.size->v.ownBlock≠some k->w'.heap[k]?=W.heap[k]?)->K (a.put o.dst (.slice (some ⟨b,0,none⟩) (n+1) d)) w'):
 if Region.wanted o (yielded ops a.tmps)=true then Oper.wp prog o a W K Q else E:=by
 obtain⟨I,p,D,F,G⟩:=info_parts lk;refine step_append_lies _ m s x _ u B 3 I _ 1 8 underlying45 p D F G rfl (by omega) v n xs A (ak z c (fun _ _ e=>e)) ⟨g,0,none⟩ 1 1 [.int .i64 y] C rfl (World.news_of_block (cs:=#[.int .i64 y]) (t:=3) (fr:=(0,0)) l) (by simp[Value.oneCell']) (by omega) (by unfold maxLen;omega) (by omega) (Nat.le_trans h c.size) _ rfl (fun b d w' J f j _=>H b d w' J ((c.mono (fun _ e=>e.elim)).trans (Ch.bK f)) (j.imp id (fun e=>by rw[e];exact c.size)) (fun k q r=>f.block k q (fun e=>r e.symm)))
theorem vo(S:WS)(back G:Int)(U:0<=back/\back<=100)(B b:Nat)(w:World)(h:fO w B b vw vh S)(p:B<=w.heap.size)(W:S.code.length<=900000)(C:S.work.length<=900000)(A:S.aP.length<=900000):
 Calls prog 75 #[(b,0),back,G] w (C9 (kt S back G) B b w):=by
 obtain⟨vc,n⟩:=h;have c:=Z n;obtain⟨ac,N,P⟩:=au n.code;have F:vw.ownBlock≠some b:=bm n.work n.row (by decide);have z:vh.ownBlock≠some b:=bm n.aP n.row (by decide);have X:IntKind.i64.wrap ((S.code.length:Int)-back)=(S.code.length:Int)-back:=IntWalk.i64_in _ (by omega);subst P;have nw:∀{k:Nat},vw.ownBlock≠some (w.heap.size+k):=fun {k} e=>by obtain⟨_,_,O⟩:=bW n.work e;have:=(Array.getElem?_eq_some_iff.1 O).1;omega
 clear n;go_in
 refine C8 (fun i=>[0,2,3,4,5,6,7,8,9,10,11,12,13,14,18,20,21].contains i) (fun w'=>Row w' b 174 [.slice ac S.code.length N,.int .i64 16,.slice none 0 0,vw,vh]) (by kernel_rfl) ?_;refine Bk (by kernel_rfl) (fun _ _ d _ _ h=>by cases d<;>exact h) c.row.drew 10 [1,15,16,17,19,0,2,3,4,5,6,7,8,9,10,11,12,18] _ _ (by kernel_rfl) ?_
 iterate 18 (refine Gq (v:= ?_) rfl (Or.inl ⟨by rfl,?_⟩) ?_;rotate_left;(focus (intro w' E;(try(have Q:=Row.k E 0 rfl;have R:=Row.k E 3 rfl;have T:=Row.k E 4 rfl));go_simp;try with_reducible rfl));simp only[Act.put,List.setIfInBounds_toArray,List.set_cons_zero,List.set_cons_succ])
 refine takeN ?_;change eR _ _ _ _ _ _ _ _ _ _;refine Gt (i:=13) (k:=20) (by kernel_rfl) rfl rfl (fun K a=> ?_) (fun K a=> ?_)
 rotate_left
 focus
  go_simp
  refine a _ _ (c.row.ch (D:=ag) ay id) ?_;try simp only[Act.put,List.setIfInBounds_toArray,List.set_cons_zero,List.set_cons_succ]
  refine vm (i:=13) (by kernel_rfl) rfl (fun K a=> ?_);go_simp
  refine a _ _ (c.row.ch (D:=ag) ay id) ?_;try simp only[Act.put,List.setIfInBounds_toArray,List.set_cons_zero,List.set_cons_succ]
  refine vm (i:=14) (by kernel_rfl) rfl (fun K a=> ?_);refine y1 rfl rfl rfl rfl ay c.work C p (tJ _ _ _) (fun J H w2 x f t q=> ?_);have l:=c.row.ch f F;refine a _ _ l ?_;try simp only[Act.put,List.setIfInBounds_toArray,List.set_cons_zero,List.set_cons_succ]
  refine vm (i:=21) (by kernel_rfl) rfl (fun K a=> ?_);refine y1 rfl rfl rfl rfl ay (ak c.aP f (fun k r s=>c.ne k s r)) A (Nat.le_trans p f.size) ((q _ (by simp;omega) (nw (k:=0))).trans (o3 (heap_alloc_new _ _) _)) (fun L I w4 y o u _=> ?_);have m:=l.ch o z;refine a _ _ m ?_;try simp only[Act.put,List.setIfInBounds_toArray,List.set_cons_zero,List.set_cons_succ]
 rotate_left
 focus
  go_simp
  refine a _ _ (c.row.ch (D:=ag) ay id) ?_;try simp only[Act.put,List.setIfInBounds_toArray,List.set_cons_zero,List.set_cons_succ]
  refine Gt (i:=14) (k:=20) (by kernel_rfl) rfl rfl (fun K a=> ?_) (fun K a=> ?_)
 focus
  refine y1 rfl rfl rfl rfl ay c.work C p (heap_alloc_new _ _) (fun J H w2 x f t q=> ?_);have l:=c.row.ch f F;refine a _ _ l ?_;try simp only[Act.put,List.setIfInBounds_toArray,List.set_cons_zero,List.set_cons_succ]
  refine vm (i:=20) (by kernel_rfl) rfl (fun K a=> ?_);go_simp
  refine a _ _ (l.ch (D:=ag) ay id) ?_;try simp only[Act.put,List.setIfInBounds_toArray,List.set_cons_zero,List.set_cons_succ]
  refine vm (i:=21) (by kernel_rfl) rfl (fun K a=> ?_);refine y1 rfl rfl rfl rfl ay (ak c.aP f (fun k r s=>c.ne k s r)) A (Nat.le_trans p f.size) (heap_alloc_new _ _) (fun L I w4 y o u _=> ?_);have m:=l.ch o z;refine a _ _ m ?_;try simp only[Act.put,List.setIfInBounds_toArray,List.set_cons_zero,List.set_cons_succ]
 rotate_left
 focus
  go_simp
  refine a _ _ (c.row.ch (D:=ag) ay id) ?_;try simp only[Act.put,List.setIfInBounds_toArray,List.set_cons_zero,List.set_cons_succ]
  refine vm (i:=14) (by kernel_rfl) rfl (fun K a=> ?_);refine y1 rfl rfl rfl rfl ay c.work C p (o3 (heap_alloc_new _ _) _) (fun J H w2 x f t q=> ?_);have l:=c.row.ch f F;refine a _ _ l ?_;try simp only[Act.put,List.setIfInBounds_toArray,List.set_cons_zero,List.set_cons_succ]
  refine vm (i:=21) (by kernel_rfl) rfl (fun K a=> ?_);refine y1 rfl rfl rfl rfl ay (ak c.aP f (fun k r s=>c.ne k s r)) A (Nat.le_trans p f.size) ((q _ (by simp<;>omega) nw).trans (tJ _ _ _)) (fun L I w4 y o u _=> ?_);have m:=l.ch o z;refine a _ _ m ?_;try simp only[Act.put,List.setIfInBounds_toArray,List.set_cons_zero,List.set_cons_succ]
 all_goals
  refine Hk 22 rfl rfl (fun j V=>by simp;omega) (by kernel_rfl) ?_;have M:=Z (c.both ((S.code.length:Int)-back) G f o x t y u p);have t3:=m.k 3 rfl;have t4:=m.k 4 rfl;have u3:=m.free 3;have u4:=m.free 4;clear l m f o x t y u q;go_wp2
  go_end0
  exact⟨rfl,M⟩
def Bl(w:World)(e:Ending)(w':World):Prop:=∃a c,e=.returned (.slice a 0 c)/\Ch ag w w'
theorem y2(w:World):Calls prog 73 #[.int .i64 16] w (Bl w):=by
 go_in
 go_wp2
 obtain⟨w1,a⟩:=nm (w.alloc (.cells #[] 3));have b:=Z (Ch.al (D:=ag) a);rw[a];go_loop [3,4] (fun l i=>∃k:Nat,k<=6/\i=.int .i64 k/\l=.slice (some (w.heap.size,0)) 0 0) (fun _ i=>6-(intOf i).toNat)
 case atStart=>exact⟨0,by omega,rfl,rfl⟩
 case round=>
  obtain⟨k,d,rfl,rfl⟩:=hrel;by_cases e:k<6
  ·have c:¬(18+(k:Int)<=16):=by omega
   go_wp2
   go_round
   case rel=>exact⟨k+1,by omega,by go_num,rfl⟩
   case measure=>simp[intOf];omega
  ·go_wp2_with fail
   go_ret;exact⟨_,_,rfl,b⟩
def gP(w:World)(B:Nat)(v:Value)(l:List fk):Prop:=
 ∃a c,v=.slice a l.length c/\l.length<=c/\∀k x,l[k]?=some x->∃g o,a=some ⟨g,o,none⟩/\g<B/\∀j u,(E8 x)[j]?=some u->w.cell? ⟨g,o+k*5+j,none⟩=some u
structure fM where
 cT:Nat
 first:List fk
 others:List (List fk)
 once:List fk
 mZ:Bool
def jH(w:World)(B:Nat)(v:Value)(l:List (List fk)):Prop:=
 ∃a c,v=.slice a l.length c/\l.length<=c/\∀k x,l[k]?=some x->∃g o v',a=some ⟨g,o,none⟩/\g<B/\w.cell? ⟨g,o+k,none⟩=some v'/\gP w B v' x
def gd(w:World)(B:Nat)(p:Value)(P:fM):Prop:=
 ∃a c v1 v2 b,p=.agg #[.slice a P.cT c,v1,v2,b,.bool P.mZ]/\gP w B v1 P.first/\jH w B v2 P.others/\gP w B b P.once
theorem gP.below{l:List fk}(h:gP w B v l)(hb:Below B w w'):gP w' B v l:=by
 obtain⟨a,c,d,f,i⟩:=h;refine⟨a,c,d,f,fun k x q=> ?_⟩;obtain⟨g,o,e,b,m⟩:=i k x q;exact⟨g,o,e,b,fun j u n=>(hb.cell (p:=⟨g,o+k*5+j,none⟩) b).trans (m j u n)⟩
theorem jH.below{l:List (List fk)}(h:jH w B v l)(hb:Below B w w'):jH w' B v l:=by
 obtain⟨a,c,d,f,i⟩:=h;refine⟨a,c,d,f,fun k x n=> ?_⟩;obtain⟨g,o,v',e,b,m,j⟩:=i k x n;exact⟨g,o,v',e,b,(hb.cell (p:=⟨g,o+k,none⟩) b).trans m,j.below hb⟩
structure jI(P:fM):Prop where
 first:∀x∈P.first,je x
 others:∀l∈P.others,∀x∈l,je x
 once:∀x∈P.once,je x
theorem gP.E9{a:Option Addr}{n c:Nat}{l:List fk}(h:gP w B (.slice a n c) l){k:Nat}{x:fk}(r:l[k]?=some x):n=l.length/\n<=c/\∃g o,a=some ⟨g,o,none⟩/\g<B/\w.cell? ⟨g,o+k*5,none⟩=some (.int .i64 x.BI)/\w.cell? ⟨g,o+k*5+1,none⟩=some (.int .u64 x.a)/\w.cell? ⟨g,o+k*5+2,none⟩=some (.int .u64 x.b)/\w.cell? ⟨g,o+k*5+3,none⟩=some (.int .u64 x.c)/\w.cell? ⟨g,o+k*5+4,none⟩=some (.int .u64 x.d):=by
 obtain⟨s,t,j,m,p⟩:=h;injection j with d f i
 subst d f i;obtain⟨g,o,e,q,b⟩:=p k x r;exact⟨rfl,m,g,o,e,q,b 0 _ rfl,b 1 _ rfl,b 2 _ rfl,b 3 _ rfl,b 4 _ rfl⟩
theorem o4(S:WS)(x:fk):(cF S x).code.length<=S.code.length+5/\(cF S x).work=S.work/\(cF S x).aP=S.aP:=by
 have b:∀(num:Int) (a:List Int),a.length<=4->(ca S num a).code.length<=S.code.length+5/\(ca S num a).work=S.work/\(ca S num a).aP=S.aP:=fun num a f=>by
  obtain⟨c,d,e⟩:=hh a S 0;refine⟨?_,d,e⟩;show((fT S a 0).code++[_]).length<=_
  rw[List.length_append,c];simp;omega
 unfold cF;split
 ·refine⟨?_,rfl,rfl⟩
  simp[jf,fL]
 ·split
  ·exact b _ _ (by simp)
  ·split
   ·exact b _ _ (by simp)
   ·exact b _ _ (by simp)
def mi:be:=⟨16,0,0,0,0,0,0⟩
def hT:WS->Nat->Nat->WS
 |S,_,0=>S
 |S,i,n+1=>hT (kt (ca S 1 [0,(i:Int)]) 3 i) (i+1) n
def e':WS->List Int->List (List fk)->WS×List Int
 |S,a,[]=>(S,a)
 |S,a,l::r=>e' (jf ((l.take 40).foldl cF S) mi) (a++[(S.code.length:Int)]) r
def pq(a:List Int)(once:Int):List Int->List Int->List be->List be
 |[],_,C=>C
 |_,[],C=>C
 |x::l,y::r,C=>pq a once l r (match C[x.toNat]? with|some X=>C.set x.toNat {X with v:=IntKind.u64.wrap (if 0<=y then a.getD y.toNat 0 else once)}|none=>C)
def bX(P:fM):List be:=
 let S:=hT ⟨[],[],[]⟩ 0 (min P.others.length 6)
 let S:=jf ((P.first.take 40).foldl cF S) mi
 let q:=e' S [] (P.others.take 6)
 let once:=(q.1.code.length:Int)
 let S:=jf ((P.once.take 6).foldl cF q.1) mi
 pq q.2 once S.work S.aP S.code
variable{i:Nat}
theorem fO.ints{w':World}{wb d:Nat}{j:Value}{S:WS}{xs:List Value}(h:fO w wb wb vw vh S)(b:w.ownsRow d 3 1 j n xs)(f:(∀g,vw.ownBlock=some g->g<d)/\∀g,vh.ownBlock=some g->g<d)(c:Ch (fun i=>j.ownBlock=some i) w w'):fO w' wb wb vw vh S:=by
 obtain⟨vc,h⟩:=h;refine⟨vc,h.row.ch c (fun e=>bm b h.row (by decide) e),h.hB,ak h.code c (fun g a e=> ?_),ak h.work c (fun g a e=> ?_),ak h.aP c (fun g a e=> ?_),h.ne⟩
 ·obtain⟨_,cs,k⟩:=bW h.code a
  exact bm b k (by decide) e
 ·have:=(bW b e).1;have:=f.1 g a;omega
 ·have:=(bW b e).1;have:=f.2 g a;omega
theorem rC.Hl{B b g cap:Nat}{S:WS}{X:be}(h:rC w B b (.slice (some (g,0)) n cap) vw vh S)(m:n=S.code.length)(u:S.code[i]?=some X)(v:Int):
 rC (w.setCell ⟨g,i*7+4,none⟩ (.int .u64 v)) B b (.slice (some (g,0)) n cap) vw vh {S with code:=S.code.set i {X with v:=v}}/\Below B w (w.setCell ⟨g,i*7+4,none⟩ (.int .u64 v))/\bb w (w.setCell ⟨g,i*7+4,none⟩ (.int .u64 v)):=by
 obtain⟨C,cs,j⟩:=bW h.code (k:=g) rfl;have a:Ch (aH g) w (w.setCell ⟨g,i*7+4,none⟩ (.int .u64 v)):=ay;have q:∀{s:Nat} {v':Value} {n:Nat} {xs:List Value},w.ownsRow B 3 s v' n xs->(w.setCell ⟨g,i*7+4,none⟩ (.int .u64 v)).ownsRow B 3 s v' n xs:=fun p=>ak p a (fun k l e=>by have d:k=g:=e;subst d;exact bm p j (by decide) l)
 have o:=h.code;rw[<-m]at o;have A:=ig (enc:=dn) o ew u 4 (by omega) rfl (v:=.int .u64 v) (y:={X with v:=v}) rfl m;refine⟨⟨h.row.ch a (fun e=>by have d:b=g:=e;subst d;exact absurd (eM h.row j) (by decide)),h.hB,?_,q h.work,q h.aP,h.ne⟩,a.below (by have:=h.row.lt;have:=h.hB;omega) (fun i z=>by have e:i=g:=z;omega),bb.fj a (fun k x t f l c=>by have e:k=g:=l;subst e;rw[j]at c;injection c with c;injection c with _ r _;exact Or.inr r.symm)⟩;show(w.setCell ⟨g,i*7+4,none⟩ (.int .u64 v)).ownsRow B 184 7 (.slice (some (g,0)) n cap) (S.code.set i {X with v:=v}).length ((S.code.set i {X with v:=v}).flatMap dn)
 rw[List.length_set,<-m];exact A
structure mj(S:WS)(i:Nat):Prop where
 wl:S.work.length=i
 hl:S.aP.length=i
 w:∀x∈S.work,0<=x/\x<S.code.length
 h:∀y∈S.aP,0<=y/\y<(i:Int)
theorem mj.next{S:WS}(h:mj S i):mj (kt (ca S 1 [0,(i:Int)]) 3 i) (i+1):=by
 obtain⟨b,j,k⟩:=hh [0,(i:Int)] S 0;have l:(kt (ca S 1 [0,(i:Int)]) 3 i).code.length=S.code.length+3:=by
  show((fT S [0,(i:Int)] 0).code++[_]).length=_
  rw[List.length_append,b];rfl
 have d:(kt (ca S 1 [0,(i:Int)]) 3 i).work=S.work++[(S.code.length:Int)]:=by
  show(fT S [0,(i:Int)] 0).work++[(((fT S [0,(i:Int)] 0).code++[_]).length:Int)-3]=_
  rw[j,List.length_append,b]
  congr 2
  simp
  omega
 have c:(kt (ca S 1 [0,(i:Int)]) 3 i).aP=S.aP++[(i:Int)]:=by
  show(fT S [0,(i:Int)] 0).aP++[(i:Int)]=_
  rw[k]
 refine⟨by rw[d,List.length_append,h.wl];rfl,by rw[c,List.length_append,h.hl];rfl,fun x f=> ?_,fun y g=> ?_⟩
 ·rw[d]at f
  rcases List.mem_append.1 f with a|a
  ·have:=h.w x a;omega
  ·have e:=List.mem_singleton.1 a;omega
 ·rw[c]at g
  rcases List.mem_append.1 g with a|a
  ·have:=h.h y a;omega
  ·have e:=List.mem_singleton.1 a;omega
theorem o5:∀(n:Nat) (S:WS) (i:Nat),mj S i->mj (hT S i n) (i+n)
 |0,_,_,h=>h
 |n+1,S,i,h=>by
  have:=o5 n _ _ h.next;rw[show i+1+n=i+(n+1)by omega]at this;exact this
theorem tK(a:List Int)(once:Int):∀(l r:List Int) (C:List be),(pq a once l r C).length=C.length
 |[],_,_=>rfl
 |_::_,[],_=>rfl
 |x::l,y::r,C=>by
  rw[pq,tK a once l r];split
  ·rw[List.length_set]
  ·rfl
theorem C'(S:WS)(x:fk):S.code.length<=(cF S x).code.length:=by
 have b:∀(num:Int) (a:List Int),S.code.length<=(ca S num a).code.length:=fun num a=>by
  obtain⟨c,d,e⟩:=hh a S 0;show _<=((fT S a 0).code++[_]).length
  rw[List.length_append,c];omega
 unfold cF;split
 ·simp only[jf,fL,List.length_append];omega
 ·split
  ·exact b _ _
  ·split
   ·exact b _ _
   ·exact b _ _
theorem nt:∀(l:List fk) (S:WS),S.code.length<=(l.foldl cF S).code.length
 |[],_=>Nat.le_refl _
 |x::l,S=>Nat.le_trans (C' S x) (nt l (cF S x))
theorem ru(S:WS)(X:be):S.code.length<=(jf S X).code.length:=by simp only[jf,List.length_append];omega
theorem p':∀(l:List (List fk)) (S:WS) (b:List Int),S.code.length<=(e' S b l).1.code.length
 |[],_,_=>Nat.le_refl _
 |a::l,S,b=>Nat.le_trans (Nat.le_trans (nt (a.take 40) S) (ru _ _)) (p' l _ _)
variable{a:Int}
def iC(l:List be):Prop:=∀X∈l,aK X.v
theorem iC.app{l:List be}(h:iC l){X:be}(c:aK X.v):iC (l++[X]):=fun Y d=>by
 rcases List.mem_append.1 d with b|b
 ·exact h Y b
 ·rw[List.mem_singleton.1 b];exact c
theorem wR:∀(c:List Int) (S:WS) (i:Nat),iC S.code->(∀a∈c,aK a)->iC (fT S c i).code
 |[],_,_,h,_=>h
 |a::l,S,i,h,d=>wR l (fL S i a) (i+1) (h.app (X:=⟨1,i,0,0,a,0,0⟩) (d a (List.mem_cons_self ..))) (fun b hb=>d b (List.mem_cons_of_mem _ hb))
theorem nu(S:WS)(num:Int)(b:List Int)(h:iC S.code)(c:∀a∈b,aK a):iC (ca S num b).code:=
 iC.app (X:=⟨22,0,0,0,IntKind.u64.wrap num,0,0⟩) (wR b S 0 h c) (bO _)
theorem ml{n:Int}(b:0<=n)(c:n<100):aK n:=⟨b,by omega⟩
theorem lx(n:Int)(b:0<n)(c:n<=100):aK (a%n):=ml (Int.emod_nonneg _ (by omega)) (by have:=Int.emod_lt_of_pos a b;omega)
theorem Bm(n:Int)(b:0<n)(c:n<=90):aK (1+a%n):=ml (by have:=Int.emod_nonneg a (show n≠0 by omega);omega) (by have:=Int.emod_lt_of_pos a b;omega)
theorem ly{x:fk}(h:je x):aK (cellOf x):=by
 unfold cellOf;split
 ·exact h.a
 ·exact lx 4 (by decide) (by decide)
theorem E'(b:Int):aK (gW b):=by
 unfold gW;split
 ·exact⟨by decide,by decide⟩
 ·exact lx 60 (by decide) (by decide)
theorem Fa(S:WS)(x:fk)(c:je x)(h:iC S.code):iC (cF S x).code:=by
 unfold cF;split
 ·exact((h.app (X:=⟨1,2,0,0,x.b%5,0,0⟩) (lx 5 (by decide) (by decide))).app (X:=⟨1,3,0,0,x.c%5,0,0⟩) (lx 5 (by decide) (by decide))).app (X:=⟨17+ey x-900,2,-1,if ey x=904 then 3 else 0,cellOf x,0,0⟩) (ly c)
 ·split
  ·refine nu _ _ _ h (fun a b=> ?_)
   simp only[List.mem_cons,List.not_mem_nil,or_false]at b;rcases b with rfl|rfl|rfl|rfl
   ·exact ly c
   ·exact lx 3 (by decide) (by decide)
   ·exact E' _
   ·exact Bm 3 (by decide) (by decide)
  ·split
   ·refine nu _ _ _ h (fun a b=> ?_)
    simp only[List.mem_cons,List.not_mem_nil,or_false]at b;rcases b with rfl|rfl|rfl
    ·exact ly c
    ·exact lx 4 (by decide) (by decide)
    ·exact Bm 3 (by decide) (by decide)
   ·refine nu _ _ _ h (fun a b=> ?_)
    simp only[List.mem_cons,List.not_mem_nil,or_false]at b;rcases b with rfl|rfl|rfl|rfl
    ·exact ly c
    ·exact lx 3 (by decide) (by decide)
    ·exact lx 4 (by decide) (by decide)
    ·exact lx 3 (by decide) (by decide)
theorem rv:∀(l:List fk) (S:WS),(∀x∈l,je x)->iC S.code->iC (l.foldl cF S).code
 |[],_,_,h=>h
 |x::l,S,b,h=>rv l (cF S x) (fun y c=>b y (List.mem_cons_of_mem _ c)) (Fa S x (b x (List.mem_cons_self ..)) h)
theorem vp:aK mi.v:=⟨by decide,by decide⟩
theorem Bn:∀(n:Nat) (S:WS) (i:Nat),i+n<=90->iC S.code->iC (hT S i n).code
 |0,_,_,_,h=>h
 |n+1,S,i,c,h=>Bn n _ (i+1) (by omega) (by
  refine nu S 1 [0,(i:Int)] h (fun a b=> ?_);simp only[List.mem_cons,List.not_mem_nil,or_false]at b;rcases b with rfl|rfl
  ·exact⟨by decide,by decide⟩
  ·exact ml (by omega) (by omega))
theorem tL:∀(l:List (List fk)) (S:WS) (d:List Int),(∀a∈l,∀x∈a,je x)->iC S.code->iC (e' S d l).1.code
 |[],_,_,_,h=>h
 |a::l,S,d,c,h=>tL l _ _ (fun b hb=>c b (List.mem_cons_of_mem _ hb)) ((rv (a.take 40) S (fun x e=>c a (List.mem_cons_self ..) x (List.mem_of_mem_take e)) h).app vp)
theorem Bo(c:List Int)(once:Int):∀(l r:List Int) (C:List be),iC C->iC (pq c once l r C)
 |[],_,_,h=>h
 |_::_,[],_,h=>h
 |x::l,y::r,C,h=>by
  rw[pq];refine Bo c once l r _ ?_;split
  ·intro X d
   rcases List.mem_or_eq_of_mem_set d with b|b
   ·exact h X b
   ·rw[b];exact bO _
  ·exact h
theorem Fb(P:fM)(b:jI P):∀x∈bX P,aK x.v:=by
 unfold bX;refine Bo _ _ _ _ _ ?_;refine iC.app (rv _ _ (fun x c=>b.once x (List.mem_of_mem_take c)) ?_) vp;refine tL _ _ _ (fun a e=>b.others a (List.mem_of_mem_take e)) ?_;refine iC.app (rv _ _ (fun x c=>b.first x (List.mem_of_mem_take c)) ?_) vp;exact Bn _ _ 0 (by omega) (fun X d=>by cases d)
theorem Bp(P:fM):0<(bX P).length:=by
 unfold bX;dsimp only;rw[tK];show 0<(_++[mi]).length
 simp
def jJ(P:fM)(wk ce:Int):Bool:=eQ (bX P) 0 3 1&&decide (17+8*(di wk ce).1+3+1+1<=(di wk ce).2)
def qa(l:List be)(loop:Int)(calls:List bB)(P:fM):KC:=vf l loop calls (bX P) 0 3 1
variable{l:List be}{ce wk:Int}{C:KC}{ok:Bool}{tt:Nat}{e:Ending}
theorem Bq{loop:Int}{calls:List bB}(a:tD l loop calls){P:fM}(b:jI P)(h:jJ P wk ce=true):ow (qa l loop calls P):=by
 unfold jJ at h;rw[Bool.and_eq_true]at h;exact wO a.ok h.1 (by have:=a.c1;omega) (mh a.u) (Fb P b)
theorem Br{loop:Int}{calls:List bB}{P:fM}(h:jJ P wk ce=true):Inv 1 0 (hY (qa l loop calls P) (di wk ce).1.toNat (di wk ce).2.toNat):=by
 unfold jJ at h;rw[Bool.and_eq_true,decide_eq_true_eq]at h;obtain⟨c,d,f,g⟩:=o1 wk ce;refine tB _ _ _ (by omega) (by omega) (by omega) ?_;show 17+8*(di wk ce).1.toNat+(3:Int).toNat+(1:Int).toNat<=(di wk ce).2.toNat
 have a:(3:Int).toNat=3:=rfl;have b:(1:Int).toNat=1:=rfl;omega
def tM(C:KC)(ok:Bool)(n tt:Nat)(w:World)(e:Ending)(w':World):Prop:=
 ∃pv a,e=.returned (.tuple #[.pointer pv,a])/\Ch ag w w'/\((ok=false/\pv=none/\∃t x,a=.iface t x)∨(ok=true/\∃mb χ,pv=some ⟨mb,0,none⟩/\a=.nilIface/\MS w' χ mb C (hY C n tt)/\∀i,χ i≠ .no->w.heap.size<=i))
theorem tM.no(a:ok=false)(h:A2 w e w'):tM C ok n tt w e w':=by
 obtain⟨⟨d,rfl,c,f,rfl⟩,b⟩:=h;exact⟨_,_,rfl,b,Or.inl ⟨a,rfl,_,_,rfl⟩⟩
theorem tM.back{w1:World}(c:Ch ag w w1)(h:tM C ok n tt w1 e w'):tM C ok n tt w e w':=by
 obtain⟨pv,a,b,d,f⟩:=h;exact⟨pv,a,b,c.trans d,f.imp_right fun⟨k,mb,χ,k1,k2,k3,j⟩=>⟨k,mb,χ,k1,k2,k3,fun i g=>Nat.le_trans c.size (j i g)⟩⟩
theorem tM.yes(a:ok=true)(h:E4 C n tt w e w'):tM C ok n tt w e w':=by
 obtain⟨mb,χ,rfl,d,c,b⟩:=h;exact⟨_,_,rfl,b,Or.inr ⟨a,mb,χ,rfl,rfl,d,c⟩⟩
theorem Bs{loop:Int}{calls:List bB}(a:tD l loop calls)(P:fM)(wk ce:Int)(vc vk x:Value){B1 B2 B3:Nat}(w:World)
 (o:w.ownsRow B1 184 7 vc l.length (l.flatMap dn)) (p:w.ownsRow B2 158 6 vk calls.length (calls.flatMap bB.cells)) (q:w.ownsRow B3 184 7 x (bX P).length ((bX P).flatMap dn))
 (k:w.cell? (0,0)=some (.iface 390 (.agg #[(4,85)]))):
 Calls prog 34 #[.agg #[.int .i64 (di wk ce).1,.int .i64 (di wk ce).2],.agg #[vc,loop,vk],.agg #[x,.int .i64 0,.int .i64 3,.int .i64 1]] w (tM (qa l loop calls P) (jJ P wk ce) (di wk ce).1.toNat (di wk ce).2.toNat w):=by
 obtain⟨y,z,A,B⟩:=o1 wk ce;obtain⟨n,r⟩:=Int.eq_ofNat_of_zero_le (show 0<=(di wk ce).1 by omega);obtain⟨tt,s⟩:=Int.eq_ofNat_of_zero_le (show 0<=(di wk ce).2 by omega);have m:calls.length<=100000:=by have:=a.c1;omega
 unfold jJ;rw[r]at y z;rw[s]at A B;rw[r,s];rw[Int.toNat_natCast,Int.toNat_natCast];have d:=aE o (jX a.ok).1;have f:=aE p a.c0;have g:=aE q (Bp P);obtain⟨i,a1,G,rfl,_,u,_,d,_⟩:=d;obtain⟨c,a2,t,rfl,_,F,_,f,_⟩:=f;obtain⟨j,a3,H,rfl,_,v,_,g,_⟩:=g;by_cases b:eQ (bX P) 0 3 1=true
 ·by_cases E:17+8*n+3+1+1<=tt
  ·refine(Ba n tt (by omega) (by omega) l loop calls (bX P) 0 3 1 m a.c0 a.ok b E _ _ _ w o p q k).mono fun e w' h=> .yes ?_ h
   rw[b,Bool.true_and,decide_eq_true_eq];omega
  ·refine(tA n tt (by omega) (by omega) l i a1 loop calls (some ⟨c,0,none⟩) a2 (bX P) j a3 0 3 1 u F v m w (iB d) (iB g) (Or.inl ⟨c,t,rfl,a.c0,f⟩) a.ok b k).mono fun e w' h=> .no ?_ (h.elim (fun h=>absurd h.1 (by omega)) And.right)
   rw[b,Bool.true_and,decide_eq_false_iff_not];omega
 ·have D:eQ (bX P) 0 3 1=false:=by rwa [Bool.not_eq_true]at b
  refine(ve n tt l (some ⟨i,0,none⟩) a1 loop calls (some ⟨c,0,none⟩) a2 (bX P) (some ⟨j,0,none⟩) a3 0 3 1 u v m w (fun _=>⟨i,rfl,iB d⟩) (fun _=>⟨j,rfl,iB g⟩) (fun _=>⟨c,t,rfl,f⟩) (fun h=>b h.2.2.2.2.2) k).mono fun e w' h=> .no ?_ h
  rw[D,Bool.false_and]
def wS(C:List be)(w:World)(e:Ending)(w':World):Prop:=∃vc,e=.returned (.agg #[vc,.int .i64 0,.int .i64 3,.int .i64 1])/\w'.ownsRow w.heap.size 184 7 vc C.length (C.flatMap dn)/\Ch ag w w'
structure Bt(w1 wc:World)(wb B6:Nat)(vp vw vh:Value)(S:WS)(ps:List Int)(S1:WS)(k:Nat):Prop where
 w:fO wc wb wb vw vh S
 b:Below wb w1 wc
 p:wc.ownsRow B6 3 1 vp k (ps.flatMap jz)
 c:S.code.length<=219+201*k
 wk:S.work=S1.work
 wh:S.aP=S1.aP
 n:ps.length=k
 sz:B6<=wc.heap.size
def Da(w:World)(b:Nat)(S:WS):Prop:=∃vw vh,fO w b b vw vh S
theorem Da.af{w w':World}{b:Nat}{S:WS}(h:Da w b S)(c:Ch ag w w'):Da w' b S:=by
 obtain⟨vw,vh,h⟩:=h;exact⟨vw,vh,h.af c⟩
theorem Bu(P:fM)(FS:jI P)(p:Value)(w:World)(I0:gd w w.heap.size p P):Calls prog 36 #[p,.int .i64 16] w (wS (bX P) w):=by
 obtain⟨a0,am,v1,v2,J5,rfl,ap,c6,fn⟩:=I0;have n1:=Z ap;have no:=Z c6;have n0:=Z fn;have i8:=Z FS;obtain⟨a1,eW,rfl,-,-⟩:=ap;obtain⟨a2,c2,rfl,-,-⟩:=c6;obtain⟨a3,c3,rfl,-,-⟩:=fn;obtain⟨ab,k4⟩:=nm P.first.length;obtain⟨O,k5⟩:=nm P.others.length;obtain⟨ad,kb⟩:=nm P.once.length;rw[k4,k5,kb];rw[k4]at n1;rw[k5]at no;rw[kb]at n0;have nd:=Z k4;have eA:=Z k5;have ne:=Z kb;obtain⟨cS,FC⟩:=nm P.cT;rw[FC];obtain⟨d,cW⟩:=nm w.heap.size;have c0:=Z cW;go_in
 go_wp2_with fail
 obtain⟨w1,dr⟩:=nm (((w.alloc (.cells #[.slice a0 cS am,.slice a1 ab eW,.slice a2 O c2,.slice a3 ad c3,.bool P.mZ] 28)).alloc (.cells #[.slice none 0 0,.int .i64 0,.int .i64 0,.int .i64 0] 77)).alloc (.cells #[.slice none 0 0,.int .i64 16,.slice none 0 0,.slice none 0 0,.slice none 0 0] 174));have es:Hid (Ch ag w w1):=Z (by rw[<-dr];exact ay);have cC:Hid (Row w1 d 28 [.slice a0 cS am,.slice a1 ab eW,.slice a2 O c2,.slice a3 ad c3,.bool P.mZ]):=Z (by rw[<-dr,<-cW];exact((Row.new w _ _).alloc _).alloc _);have nw:Hid (Row w1 (d+1) 77 [.slice none 0 0,.int .i64 0,.int .i64 0,.int .i64 0]):=Z (by
  rw[<-dr,<-cW];have r:=Row.new (w.alloc (.cells #[.slice a0 cS am,.slice a1 ab eW,.slice a2 O c2,.slice a3 ad c3,.bool P.mZ] 28)) #[.slice none 0 0,.int .i64 0,.int .i64 0,.int .i64 0] 77;rw[World.size_alloc]at r;exact r.alloc _)
 have on:Hid (Da w1 (d+2) ⟨[],[],[]⟩):=Z (by
  have r:=Row.new ((w.alloc (.cells #[.slice a0 cS am,.slice a1 ab eW,.slice a2 O c2,.slice a3 ad c3,.bool P.mZ] 28)).alloc (.cells #[.slice none 0 0,.int .i64 0,.int .i64 0,.int .i64 0] 77)) #[.slice none 0 0,.int .i64 16,.slice none 0 0,.slice none 0 0,.slice none 0 0] 174;rw[World.size_alloc,World.size_alloc,dr,cW]at r;exact⟨_,_,_,r,Nat.le_refl _,World.ownsRow_nil _ _ _ _,World.ownsRow_nil _ _ _ _,World.ownsRow_nil _ _ _ _,(fun g L=>by cases L)⟩)
 have cQ:Hid (w1.heap.size=d+3):=Z (by rw[<-dr,<-cW];simp);rw[dr];obtain⟨a5,lo⟩:=nm (d+1);obtain⟨wb,r6⟩:=nm (a5+1);have zh:d+2=wb:=by omega
 rw[lo,r6];rw[lo]at nw;rw[zh]at on;have cQ:Hid (w1.heap.size=wb+1):=Z (by have:=cQ.out;omega);have a9:Hid (d+1=a5/\a5+1=wb):=Z ⟨lo,r6⟩;with_reducible refine(y2 _).mono ?_
 rintro e w2 ⟨Ir,Iv,rfl,hf⟩;have g9:=Z hf;have wh:=Z (on.af g9);have st:Hid (Below wb w1 w2):=Z (g9.below (by have:=cQ.out;omega) (fun _ hb=>False.elim hb));have x0:w2.cell? (d,0)=some (.slice a0 cS am):=(cC.ch g9 (fun e=>e)).cell rfl;go_upto_block 0 with fail
 go_cut [] (fun wc=>w2=wc)
 case first=>
  go_wp2
  go_loop [7] (fun i=>i=.int .i64 0) (fun _=>0)
  case atStart=>rfl
  case round=>
   obtain rfl:=hrel;by_cases Do:0<cS
   all_goals
    go_wp2
    go_meet
    rfl
 case rest=>
  obtain rfl:=hcut;have x2:w2.cell? (d,2)=some (.slice a2 O c2):=(cC.ch g9 (fun e=>e)).cell rfl;obtain⟨K,EQ⟩:=nm (min O 6);have Ix:K<=6:=by omega
  have IR:(if(6:Int)<(O:Int)then(6:Int)else(O:Int))=(K:Int):=by split<;>omega
  have ex:=Z EQ;go_upto_block 2 with fail
  obtain⟨f,FW⟩:=nm (hT ⟨[],[],[]⟩ 0 K);have ih:=Z FW;go_cut [] (fun wc=>Da wc wb f/\Below wb w1 wc/\f.code.length<=18/\f.work.length<=6/\f.aP.length<=6)
  case first=>
   go_wp2
   go_loopw [11] (fun i wr=>∃(k:Nat) (S:WS),k<=K/\i=.int .i64 k/\Da wr wb S/\Below wb w1 wr/\hT S k (K-k)=f/\S.code.length<=3*k/\S.work.length<=k/\S.aP.length<=k) (fun i _=>K-(intOf i).toNat)
   case atStart=>exact⟨0,⟨[],[],[]⟩,by omega,rfl,wh,st,ih,by simp,by simp,by simp⟩
   case round=>
    obtain⟨k,S,hl,rfl,c,hb,z,c8,H,I⟩:=hrel;have B:=Z c;have A:=Z hb;have bx:=Z z;have qr:=cQ.out;have I3:=hb.size;by_cases G:k<K
    ·have i7:Hid (hT (kt (ca S 1 [0,(k:Int)]) 3 k) (k+1) (K-(k+1))=f):=Z (by
      have h:=bx.out;rw[show K-k=(K-(k+1))+1 from by omega,hT]at h;exact h)
     obtain⟨s5,s4,mb⟩:=B.out;have ws:=Z mb;have gk:=Z (show Calls prog 74 #[(wb,0),.int .i64 1,.slice (some ⟨wr.heap.size,0,none⟩) 2 2] (wr.alloc (.cells #[.int .u64 0,.int .u64 k] 39)) (gO (ca S 1 [0,(k:Int)]) wb wb s5 s4 (wr.alloc (.cells #[.int .u64 0,.int .u64 k] 39)))from eI S 1 [0,(k:Int)] (by simp) wr.heap.size 2 wb wb (by simp) _ (Row.new wr _ _) (ws.af ay) (by simp;omega) (by omega));obtain⟨x6,x7,x8⟩:=hh [0,(k:Int)] S 0;have l1:(ca S 1 [0,(k:Int)]).code.length<=3*k+3:=by
      show((fT S [0,(k:Int)] 0).code++[_]).length<=_
      rw[List.length_append,x6];simp;omega
     have rb:(ca S 1 [0,(k:Int)]).work=S.work:=x7;have pk:(ca S 1 [0,(k:Int)]).aP=S.aP:=x8;go_wp2_with fail
     with_reducible refine gk.out.mono ?_
     rintro e w3 ⟨rfl,lv,H5,_⟩;have gf:Hid (Below wb w1 w3):=Z ((A.trans ((ay:Ch ag wr _).below (by omega) (fun _ hb=>False.elim hb))).trans H5);have v3:=Z (vo _ 3 k (by omega) wb wb w3 lv (by have:=gf.size;omega) (by omega) (by rw[rb];omega) (by rw[pk];omega));go_wp2_with fail
     with_reducible refine v3.out.mono ?_
     rintro e w4 ⟨rfl,lw,l0,_⟩;have ip:=Z lw;have i3:=Z (gf.trans l0);go_wp2
     go_roundw
     case rel=>exact⟨k+1,_,by omega,by go_num,ip,i3,i7,by show(ca S 1 [0,(k:Int)]).code.length<=_;omega,by show((ca S 1 [0,(k:Int)]).work++[_]).length<=_;rw[List.length_append,rb];simp;omega,by show((ca S 1 [0,(k:Int)]).aP++[_]).length<=_;rw[List.length_append,pk];simp;omega⟩
     case measure=>simp[intOf];omega
    ·have hm:k=K:=by omega
     have F:Hid (S=f):=Z (by
      have h:=bx.out;rw[hm,Nat.sub_self]at h;exact h)
     go_wp2
     go_meet
     rw[<-F];exact⟨B,A,by omega,by omega,by omega⟩
  case rest=>
   obtain⟨c,hb,c8,H,I⟩:=hcut;obtain⟨w3,lv⟩:=nm wc;rw[lv]at c hb⊢;have wi:=Z c;have gf:=Z hb;have tw:=Z (And.intro c8 (And.intro H I));obtain⟨W,Gr⟩:=nm ((P.first.take 40).foldl cF f);have ii:=Z Gr;go_upto_block 4 with fail
   go_cut [] (fun wc=>Da wc wb W/\Below wb w1 wc/\W.code.length<=218/\W.work=f.work/\W.aP=f.aP)
   case first=>
    go_wp2
    go_loopw [12] (fun i wr=>∃(k:Nat) (S:WS),k<=40/\k<=ab/\i=.int .i64 k/\Da wr wb S/\Below wb w1 wr/\((P.first.take 40).drop k).foldl cF S=W/\S.code.length<=18+5*k/\S.work=f.work/\S.aP=f.aP) (fun i _=>40-(intOf i).toNat)
    case atStart=>exact⟨0,f,by omega,by omega,rfl,wi,gf,ii,tw.1,rfl,rfl⟩
    case round=>
     obtain⟨k,S,hl,HU,rfl,c,hb,z,c8,H,I⟩:=hrel;have B:=Z c;have A:=Z hb;have m:=Z (And.intro H I);have qr:=cQ.out;have I3:=hb.size;have eL:Hid (Below d w wr):=Z ((es.below (by rw[c0];exact Nat.le_refl _) (fun _ hb=>False.elim hb)).trans (hb.mono (by have:=a9.out;omega)));have x1:wr.cell? (d,1)=some (.slice a1 ab eW):=(hb.cell (p:=⟨d,1,none⟩) (by have:=a9.out;show d<wb;omega)).trans (cC.cell rfl);by_cases G:k<40/\k<ab
     ·obtain⟨pp,pu⟩:=G
      have c7:k<P.first.length:=(by have:=nd.out;omega);obtain⟨x,u⟩:=nm (P.first[k]);have a4:P.first[k]?=some x:=(by rw[List.getElem?_eq_getElem c7,u]);have eC:=Z (i8.first x (List.mem_of_getElem? a4));have hd:(P.first.take 40).drop k=x::(P.first.take 40).drop (k+1):=by
       rw[List.drop_eq_getElem_cons (by rw[List.length_take];omega)]
       congr 1
       rw[List.getElem_take];exact u
      rw[hd]at z;have bx:Hid (((P.first.take 40).drop (k+1)).foldl cF (cF S x)=W):=Z z;have cf:=n1.out;rw[c0]at cf;obtain⟨-,pi,g,o,rfl,L,f0,f1,f2,f3,f4⟩:=(cf.below eL).E9 a4;obtain⟨s5,s4,mb⟩:=B.out;have et:=Z (rs x eC S wb wb wr mb (by omega) (by omega));obtain⟨s1,cb,cd⟩:=o4 S x;have c1:=Z (And.intro cb cd);have pm:(k:Int)<ab:=(by omega);clear z hd a4 u c7 cf L cb cd;go_wp2_with fail
      with_reducible refine et.out.mono ?_
      rintro e w4 ⟨rfl,lw,l0,_⟩;have ip:Hid (Da w4 wb (cF S x)):=Z ⟨_,_,lw⟩;have i3:=Z (A.trans l0);go_wp2
      go_roundw
      case rel=>exact⟨k+1,cF S x,by omega,by omega,by go_num,ip,i3,bx,by omega,c1.1.trans m.1,c1.2.trans m.2⟩
      case measure=>simp[intOf];omega
     ·have F:Hid (S=W):=Z (by
       rw[List.drop_of_length_le (by rw[List.length_take];have:=nd.out;omega)]at z;exact z)
      have g3:40<=k∨(k<40/\ab<=k):=(by omega);rcases g3 with g2|⟨g2,hf⟩
      ·by_cases p3:k<ab
       all_goals
        go_wp2
        go_meet
        rw[<-F];exact⟨B,A,by omega,m.1,m.2⟩
      ·go_wp2_with fail
       go_meet
       rw[<-F];exact⟨B,A,by omega,m.1,m.2⟩
   case rest=>
    obtain⟨c,hb,c8,H,I⟩:=hcut;obtain⟨dN,Ia⟩:=nm wc;rw[Ia]at c hb⊢;have wk:=Z c;have sv:=Z hb;have na:=Z (And.intro H I);have qr:=cQ.out;have IV:=hb.size;go_upto_block 6 with fail
    go_cut [] (fun wc=>dN=wc)
    case first=>
     go_wp2
     go_loop [13] (fun i=>i=.int .i64 0) (fun _=>0)
     case atStart=>rfl
     case round=>
      obtain rfl:=hrel;by_cases Do:0<K
      all_goals
       go_wp2
       go_meet
       rfl
    case rest=>
     obtain rfl:=hcut;obtain⟨mp,HQ,mc,md,mk⟩:=info_parts iz;have i5:=Z HQ;obtain⟨N,M,hv,cl⟩:=wk.out;have vk:=Z cl;have cq:dN.cell? (wb,0)=some hv:=cl.row.cell rfl;have fd:=cl.row.free 0;have qb:=cl.row.lt;have rd:hv.ownBlock≠some wb:=bm cl.code cl.row (by decide);have fz:=cl.code;have H8:wb<=dN.heap.size:=(by omega);go_wp2_with (at_builtin;refine wpList_append_lies _ rfl _ _ _ rfl wb 184 mp _ 7 56 underlying75 i5 mc md mk rfl (by omega) hv W.code.length (W.code.flatMap dn) rfl (fz.alloc _) ⟨dN.heap.size,0,none⟩ 1 1 [.int .i64 16,.int .i64 0,.int .i64 0,.int .i64 0,.int .u64 0,.int .i64 0,.int .i64 0] rfl rfl (World.news_of_block (cs:=#[.int .i64 16,.int .i64 0,.int .i64 0,.int .i64 0,.int .u64 0,.int .i64 0,.int .i64 0]) (t:=184) (fr:=(0,0)) (heap_alloc_new dN _)) (by simp[Value.oneCell']) (by omega) (by unfold maxLen;omega) (by omega) (by simp;omega) (dN.heap.size+1) (by simp) ?_)
     intro B2 xs mC HY le IA IN;have hn:mC.cell? (wb,0)=some hv:=(le.cell_far ⟨wb,0,none⟩ (by simp;omega) (Ne.symm rd)).trans (by simp[go_sem,World.cell?_alloc_past,qb,cq]);have s3:mC.frozen? (wb,0)=false:=(le.frozen_far ⟨wb,0,none⟩ (by simp;omega) (Ne.symm rd)).trans (by simp[go_sem,World.frozen?_alloc_past,qb,fd]);have hF:=Z (vk.iT H8 mi HY (ao le));go_upto_block 8 with fail
     obtain⟨bw,Ib⟩:=nm (mC.setCell (wb,0) (.slice (some (B2,0)) (W.code.length+1) xs));rw[Ib]at hF⊢;obtain⟨ci,g0⟩:=nm (jf W mi);have og:Hid (fO bw wb wb N M ci):=Z (by rw[<-g0];exact hF.1);have mS:Hid (Below wb w1 bw):=Z (sv.trans hF.2.1);have i6:Hid (ci.code.length<=219/\ci.work=f.work/\ci.aP=f.aP):=Z ⟨by rw[<-g0];simp[jf];omega,by rw[<-g0];exact na.1,by rw[<-g0];exact na.2⟩;have nx:=Z g0;obtain⟨Ik,I2⟩:=nm (e' ci [] (P.others.take 6));obtain⟨E,al⟩:=Ik;have i9:=Z I2;have IW:=mS.size;have vw:Hid ((∀g,N.ownBlock=some g->g<bw.heap.size)/\∀g,M.ownBlock=some g->g<bw.heap.size):=Z (by
      obtain⟨vc,qm⟩:=og.out;exact⟨fun g L=>by obtain⟨_,_,c6⟩:=bW qm.work L;exact(Array.getElem?_eq_some_iff.1 c6).1,fun g L=>by obtain⟨_,_,c6⟩:=bW qm.aP L;exact(Array.getElem?_eq_some_iff.1 c6).1⟩)
     obtain⟨Ij,HR,Ie,If,Ig⟩:=info_parts lk;have tm:=Z HR;go_cut [14] (fun s wc=>∃(bv:Option Addr) (vn:Nat),s=.slice bv K vn/\Bt w1 wc wb bw.heap.size (.slice bv K vn) N M E al f K)
     case first=>
      go_wp2
      go_loopw [14,15] (fun s i wr=>∃(k:Nat) (S:WS) (c9:List Int) (bv:Option Addr) (vn:Nat),k<=K/\s=.slice bv k vn/\i=.int .i64 k/\Bt w1 wr wb bw.heap.size (.slice bv k vn) N M S c9 f k/\e' S c9 ((P.others.take 6).drop k)=(E,al)) (fun _ i _=>K-(intOf i).toNat)
      case atStart=>exact⟨0,ci,[],none,0,by omega,rfl,rfl,⟨og,mS,World.ownsRow_nil _ _ _ _,by have:=i6.1;omega,i6.2.1,i6.2.2,rfl,Nat.le_refl _⟩,i9⟩
      case round=>
       obtain⟨k,S,c9,bv,vn,hl,rfl,rfl,Y,I1⟩:=hrel;have q:=Z Y;have nq:=Z I1;have I4:=Y.b.size;have IE:=Y.c;have eL:Hid (Below d w wr):=Z ((es.below (by rw[c0];exact Nat.le_refl _) (fun _ hb=>False.elim hb)).trans (Y.b.mono (by have:=a9.out;omega)));have x2:wr.cell? (d,2)=some (.slice a2 O c2):=(Y.b.cell (p:=⟨d,2,none⟩) (by have:=a9.out;show d<wb;omega)).trans (cC.cell rfl);by_cases G:k<K
       ·have c7:k<P.others.length:=by have:=eA.out;have:=ex.out;omega
        obtain⟨l,ll⟩:=nm (P.others[k]);have lm:P.others[k]?=some l:=(by rw[List.getElem?_eq_getElem c7,ll]);have un:=Z (fun x u=>i8.others l (List.mem_of_getElem? lm) x u);have hd:(P.others.take 6).drop k=l::(P.others.take 6).drop (k+1):=by
         rw[List.drop_eq_getElem_cons (by rw[List.length_take];have:=ex.out;have:=eA.out;omega)]
         congr 1
         rw[List.getElem_take];exact ll
        have v4:Hid (e' (jf ((l.take 40).foldl cF S) mi) (c9++[(S.code.length:Int)]) ((P.others.take 6).drop (k+1))=(E,al)):=Z (by
         have h:=nq.out;rw[hd]at h;exact h)
        have pa:=no.out;rw[c0]at pa;obtain⟨aa,Iu,z3,HM,pc⟩:=pa;injection z3 with it c4 jp
        subst it jp;obtain⟨c5,g5,v',rfl,lb,hi,he⟩:=pc k l lm;have Iy:O<=c2:=(by have:=eA.out;omega);have IJ:(k:Int)<O:=(by have:=ex.out;omega);obtain⟨os,fb,rfl,HN,-⟩:=id he;obtain⟨ch,kd⟩:=nm l.length;rw[kd]at he HN hi;have sb:=Z he;have sz:=Z hi;have th:=Z lb;have ni:=Z kd;have IF:wr.cell? (c5,g5+k)=some (.slice os ch fb):=(eL.cell (p:=⟨c5,g5+k,none⟩) lb).trans hi;clear c7 ll lm hd c4 HM pc kd hi he lb;obtain⟨J7,kw⟩:=q.w;have Iq:=Z kw;obtain⟨ww,z0,I6⟩:=au kw.code;have cq:wr.cell? (wb,0)=some (.slice ww S.code.length z0):=(by rw[<-I6];exact kw.row.cell rfl);have FL:=q.p;have I':bw.heap.size<=wr.heap.size:=q.sz;go_wp2_with (at_builtin;refine wpList_append_lies _ rfl _ _ _ rfl bw.heap.size 3 Ij _ 1 8 underlying45 tm Ie If Ig rfl (by omega) (.slice bv k vn) k (c9.flatMap jz) rfl (FL.alloc _) ⟨wr.heap.size,0,none⟩ 1 1 [.int .i64 S.code.length] rfl rfl (World.news_of_block (cs:=#[.int .i64 S.code.length]) (t:=3) (fr:=(0,0)) (heap_alloc_new wr _)) (by simp[Value.oneCell']) (by omega) (by unfold maxLen;omega) (by omega) (by simp;omega) (wr.heap.size+1) (by simp) ?_)
        intro B3 y0 ce HZ HP IB IP;have hB:=Ch.bK (ao HP);have wl:Hid (fO ce wb wb N M S):=Z (q.w.ints q.p vw hB);have mW:Hid (Below wb w1 ce):=Z (q.b.trans (hB.below (by omega) (fun b hb=>by have:=(bW q.p hb).1;omega)));have ut:Hid (ce.ownsRow bw.heap.size 3 1 (.slice (some (B3,0)) (k+1) y0) (k+1) ((c9++[(S.code.length:Int)]).flatMap jz)):=Z (by rw[List.flatMap_append];exact HZ);have IX:wr.heap.size<=ce.heap.size:=hB.size;obtain⟨Q,H0⟩:=nm ((l.take 40).foldl cF S);have nC:=Z H0;obtain⟨J8,rfl⟩:=mn wr;go_upto_block 10 with fail
        go_cut [] (fun wc=>fO wc wb wb N M Q/\Below wb ce wc/\bb ce wc/\Q.code.length<=S.code.length+200/\Q.work=S.work/\Q.aP=S.aP)
        case first=>
         go_wp2
         go_loopw [16] (fun i wr=>∃(k:Nat) (V:WS),k<=40/\k<=ch/\i=.int .i64 k/\fO wr wb wb N M V/\Below wb ce wr/\bb ce wr/\((l.take 40).drop k).foldl cF V=Q/\V.code.length<=S.code.length+5*k/\V.work=S.work/\V.aP=S.aP) (fun i _=>40-(intOf i).toNat)
         case atStart=>exact⟨0,S,by omega,by omega,rfl,wl,Below.refl _ _,bb.refl _,nC,by omega,rfl,rfl⟩
         case round=>
          obtain⟨j,V,IH,II,rfl,c,hb,U,z,c8,H,I⟩:=hrel;have B:=Z c;have A:=Z hb;have bi:=Z U;have m:=Z (And.intro H I);have IZ:=hb.size;have mL:=Z (mW.trans hb);have ok:Hid (Below d w wr):=Z ((es.below (by rw[c0];exact Nat.le_refl _) (fun _ hb=>False.elim hb)).trans (mL.mono (by have:=a9.out;omega)));have x2:wr.cell? (d,2)=some (.slice (some (c5,g5)) O c2):=(mL.cell (p:=⟨d,2,none⟩) (by have:=a9.out;show d<wb;omega)).trans (cC.cell rfl);have J9:wr.cell? (c5,g5+k)=some (.slice os ch fb):=(ok.cell (p:=⟨c5,g5+k,none⟩) th).trans sz;by_cases G:j<40/\j<ch
          ·obtain⟨pp,pu⟩:=G
           have pl:j<l.length:=(by have:=ni.out;omega);obtain⟨x,u⟩:=nm (l[j]);have a4:l[j]?=some x:=(by rw[List.getElem?_eq_getElem pl,u]);have eC:=Z (un x (List.mem_of_getElem? a4));have hd:(l.take 40).drop j=x::(l.take 40).drop (j+1):=by
            rw[List.drop_eq_getElem_cons (by rw[List.length_take];omega)]
            congr 1
            rw[List.getElem_take];exact u
           rw[hd]at z;have bx:Hid (((l.take 40).drop (j+1)).foldl cF (cF V x)=Q):=Z z;obtain⟨-,pi,g,o,rfl,L,f0,f1,f2,f3,f4⟩:=(sb.below ok).E9 a4;have et:=Z (rs x eC V wb wb wr B (by omega) (by omega));obtain⟨s1,cb,cd⟩:=o4 V x;have c1:=Z (And.intro cb cd);have pm:(j:Int)<ch:=(by omega);clear z hd a4 u pl L cb cd;go_wp2_with fail
           with_reducible refine et.out.mono ?_
           rintro e ec ⟨rfl,l',H6,HT⟩;have wn:=Z l';have i4:=Z (A.trans H6);have tt:=Z (bi.trans HT);go_wp2
           go_roundw
           case rel=>exact⟨j+1,cF V x,by omega,by omega,by go_num,wn,i4,tt,bx,by omega,c1.1.trans m.1,c1.2.trans m.2⟩
           case measure=>simp[intOf];omega
          ·have F:Hid (V=Q):=Z (by
            rw[List.drop_of_length_le (by rw[List.length_take];have:=ni.out;omega)]at z;exact z)
           have g3:40<=j∨(j<40/\ch<=j):=(by omega);rcases g3 with g2|⟨g2,hf⟩
           ·by_cases p3:j<ch
            all_goals
             go_wp2
             go_meet
             rw[<-F];exact⟨B,A,bi,by omega,m.1,m.2⟩
           ·go_wp2_with fail
            go_meet
            rw[<-F];exact⟨B,A,bi,by omega,m.1,m.2⟩
        case rest=>
         obtain⟨c,hb,U,c8,H,I⟩:=hcut;obtain⟨ec,l'⟩:=nm wc;rw[l']at c hb U⊢;have i4:=Z (mW.trans hb);have v0:=Z (U.own ut (by decide) (by decide));have nb:=Z (And.intro H I);have IY:=hb.size;obtain⟨hw,cm⟩:=c;have vl:=Z cm;have cq:ec.cell? (wb,0)=some hw:=cm.row.cell rfl;have fd:=cm.row.free 0;have qc:=cm.row.lt;have re:hw.ownBlock≠some wb:=bm cm.code cm.row (by decide);have fz:=cm.code;have H9:wb<=ec.heap.size:=(by omega);go_wp2_with (at_builtin;refine wpList_append_lies _ rfl _ _ _ rfl wb 184 mp _ 7 56 underlying75 i5 mc md mk rfl (by omega) hw Q.code.length (Q.code.flatMap dn) rfl (fz.alloc _) ⟨ec.heap.size,0,none⟩ 1 1 [.int .i64 16,.int .i64 0,.int .i64 0,.int .i64 0,.int .u64 0,.int .i64 0,.int .i64 0] rfl rfl (World.news_of_block (cs:=#[.int .i64 16,.int .i64 0,.int .i64 0,.int .i64 0,.int .u64 0,.int .i64 0,.int .i64 0]) (t:=184) (fr:=(0,0)) (heap_alloc_new ec _)) (by simp[Value.oneCell']) (by omega) (by unfold maxLen;omega) (by omega) (by simp;omega) (ec.heap.size+1) (by simp) ?_)
         intro Iw It s6 H' li IC IQ;have hn:s6.cell? (wb,0)=some hw:=(li.cell_far ⟨wb,0,none⟩ (by simp;omega) (Ne.symm re)).trans (by simp[go_sem,World.cell?_alloc_past,qc,cq]);have s3:s6.frozen? (wb,0)=false:=(li.frozen_far ⟨wb,0,none⟩ (by simp;omega) (Ne.symm re)).trans (by simp[go_sem,World.frozen?_alloc_past,qc,fd]);have ge:=Z (vl.iT H9 mi H' (ao li));go_wp2
         go_roundw
         case rel=>
          refine⟨k+1,jf Q mi,c9++[(S.code.length:Int)],_,_,by omega,rfl,by go_num,⟨ge.1,i4.trans ge.2.1,ge.2.2.own v0 (by decide) (by decide),?_,?_,?_,?_,?_⟩,?_⟩
          ·have h:(jf Q mi).code.length=Q.code.length+1:=by simp[jf]
           rw[h];omega
          ·exact nb.1.trans q.wk
          ·exact nb.2.trans q.wh
          ·rw[List.length_append,q.n];rfl
          ·have:=ge.2.1.size;omega
          ·rw[<-nC];exact v4
         case measure=>simp[intOf];omega
       ·have hm:k=K:=by omega
        have F:Hid (S=E/\c9=al):=Z (by
         have h:=nq.out;rw[List.drop_of_length_le (by rw[List.length_take];have:=eA.out;have:=ex.out;omega)]at h;exact Prod.mk.inj h)
        have n2:=Z hm;go_wp2
        go_meet
        refine⟨bv,vn,by rw[n2],?_⟩;have h:=q.out;rw[F.1,F.2,n2]at h;exact h
     case rest=>
      obtain⟨bv,vn,rfl,Y⟩:=hcut;obtain⟨g6,I7⟩:=nm wc;rw[I7]at Y⊢;have q:=Z Y;have ID:=Y.c;have IT:=Y.b.size;obtain⟨J6,kf⟩:=Y.w;have Ip:=Z kf;obtain⟨wv,yk,rfl⟩:=au kf.code;have cq:g6.cell? (wb,0)=some (.slice wv E.code.length yk):=kf.row.cell rfl;obtain⟨R,H1⟩:=nm ((P.once.take 6).foldl cF E);have io:=Z H1;go_upto_block 12 with fail
      go_cut [] (fun wc=>fO wc wb wb N M R/\Below wb g6 wc/\bb g6 wc/\R.code.length<=E.code.length+30/\R.work=E.work/\R.aP=E.aP)
      case first=>
       go_wp2
       go_loopw [18] (fun i wr=>∃(k:Nat) (S:WS),k<=6/\k<=ad/\i=.int .i64 k/\fO wr wb wb N M S/\Below wb g6 wr/\bb g6 wr/\((P.once.take 6).drop k).foldl cF S=R/\S.code.length<=E.code.length+5*k/\S.work=E.work/\S.aP=E.aP) (fun i _=>6-(intOf i).toNat)
       case atStart=>exact⟨0,E,by omega,by omega,rfl,q.w,Below.refl _ _,bb.refl _,io,by omega,rfl,rfl⟩
       case round=>
        obtain⟨k,S,hl,HU,rfl,c,hb,U,z,c8,H,I⟩:=hrel;have B:=Z c;have A:=Z hb;have bi:=Z U;have m:=Z (And.intro H I);have I4:=hb.size;have eL:Hid (Below d w wr):=Z ((es.below (by rw[c0];exact Nat.le_refl _) (fun _ hb=>False.elim hb)).trans ((q.b.trans hb).mono (by have:=a9.out;omega)));have x1:wr.cell? (d,3)=some (.slice a3 ad c3):=((q.b.trans hb).cell (p:=⟨d,3,none⟩) (by have:=a9.out;show d<wb;omega)).trans (cC.cell rfl);by_cases G:k<6/\k<ad
        ·obtain⟨pp,pu⟩:=G
         have c7:k<P.once.length:=(by have:=ne.out;omega);obtain⟨x,u⟩:=nm (P.once[k]);have a4:P.once[k]?=some x:=(by rw[List.getElem?_eq_getElem c7,u]);have eC:=Z (i8.once x (List.mem_of_getElem? a4));have hd:(P.once.take 6).drop k=x::(P.once.take 6).drop (k+1):=by
          rw[List.drop_eq_getElem_cons (by rw[List.length_take];omega)]
          congr 1
          rw[List.getElem_take];exact u
         rw[hd]at z;have bx:Hid (((P.once.take 6).drop (k+1)).foldl cF (cF S x)=R):=Z z;have cf:=n0.out;rw[c0]at cf;obtain⟨-,pi,g,o,rfl,L,f0,f1,f2,f3,f4⟩:=(cf.below eL).E9 a4;have et:=Z (rs x eC S wb wb wr B (by omega) (by omega));obtain⟨s1,cb,cd⟩:=o4 S x;have c1:=Z (And.intro cb cd);have pm:(k:Int)<ad:=(by omega);clear z hd a4 u c7 cf L cb cd;go_wp2_with fail
         with_reducible refine et.out.mono ?_
         rintro e dC ⟨rfl,ls,H4,HS⟩;have w0:=Z ls;have i0:=Z (A.trans H4);have tr:=Z (bi.trans HS);go_wp2
         go_roundw
         case rel=>exact⟨k+1,cF S x,by omega,by omega,by go_num,w0,i0,tr,bx,by omega,c1.1.trans m.1,c1.2.trans m.2⟩
         case measure=>simp[intOf];omega
        ·have F:Hid (S=R):=Z (by
          rw[List.drop_of_length_le (by rw[List.length_take];have:=ne.out;omega)]at z;exact z)
         have g3:6<=k∨(k<6/\ad<=k):=(by omega);rcases g3 with g2|⟨g2,hf⟩
         ·by_cases p3:k<ad
          all_goals
           go_wp2
           go_meet
           rw[<-F];exact⟨B,A,bi,by omega,m.1,m.2⟩
         ·go_wp2_with fail
          go_meet
          rw[<-F];exact⟨B,A,bi,by omega,m.1,m.2⟩
      case rest=>
       obtain⟨c,hb,U,c8,H,I⟩:=hcut;obtain⟨dC,ls⟩:=nm wc;rw[ls]at c hb U⊢;have i0:=Z (q.b.trans hb);have up:=Z (U.own q.p (by decide) (by decide));have n8:=Z (And.intro (H.trans q.wk) (I.trans q.wh));have IU:=hb.size;obtain⟨hu,ck⟩:=c;have v9:=Z ck;have cq:dC.cell? (wb,0)=some hu:=ck.row.cell rfl;have fd:=ck.row.free 0;have pv:=ck.row.lt;have rc:hu.ownBlock≠some wb:=bm ck.code ck.row (by decide);have fz:=ck.code;have H7:wb<=dC.heap.size:=(by omega);go_wp2_with (at_builtin;refine wpList_append_lies _ rfl _ _ _ rfl wb 184 mp _ 7 56 underlying75 i5 mc md mk rfl (by omega) hu R.code.length (R.code.flatMap dn) rfl (fz.alloc _) ⟨dC.heap.size,0,none⟩ 1 1 [.int .i64 16,.int .i64 0,.int .i64 0,.int .i64 0,.int .u64 0,.int .i64 0,.int .i64 0] rfl rfl (World.news_of_block (cs:=#[.int .i64 16,.int .i64 0,.int .i64 0,.int .i64 0,.int .u64 0,.int .i64 0,.int .i64 0]) (t:=184) (fr:=(0,0)) (heap_alloc_new dC _)) (by simp[Value.oneCell']) (by omega) (by unfold maxLen;omega) (by omega) (by simp;omega) (dC.heap.size+1) (by simp) ?_)
       intro B1 x9 ms HX lc Iz IM;have hn:ms.cell? (wb,0)=some hu:=(lc.cell_far ⟨wb,0,none⟩ (by simp;omega) (Ne.symm rc)).trans (by simp[go_sem,World.cell?_alloc_past,pv,cq]);have s3:ms.frozen? (wb,0)=false:=(lc.frozen_far ⟨wb,0,none⟩ (by simp;omega) (Ne.symm rc)).trans (by simp[go_sem,World.frozen?_alloc_past,pv,fd]);have gc:=Z (v9.iT H7 mi HX (ao lc));go_upto_block 14 with fail
       obtain⟨g7,I8⟩:=nm (ms.setCell (wb,0) (.slice (some (B1,0)) (R.code.length+1) x9));rw[I8]at gc⊢;obtain⟨a,g1⟩:=nm (jf R mi);have wd:Hid (fO g7 wb wb N M a):=Z (by rw[<-g1];exact gc.1);have sl:Hid (Below wb w1 g7):=Z (i0.trans gc.2.1);have us:=Z (gc.2.2.own up (by decide) (by decide));have go:Hid (a.work=f.work/\a.aP=f.aP):=Z ⟨by rw[<-g1];exact n8.1,by rw[<-g1];exact n8.2⟩;have v5:Hid (pq al (E.code.length:Int) a.work a.aP a.code=bX P):=Z (by
        unfold bX;dsimp only;rw[eA,ex,ih,ii,nx,i9];dsimp only;rw[io,g1])
       have ob:=Z g1;have g8:Hid (mj f K):=Z (by
        have h:=o5 K ⟨[],[],[]⟩ 0 ⟨rfl,rfl,(fun x u=>by cases u),(fun x u=>by cases u)⟩;rw[ih,Nat.zero_add]at h;exact h)
       have HO:f.code.length<=a.code.length:=by
        rw[<-ob,<-io];refine Nat.le_trans ?_ (ru _ _);refine Nat.le_trans ?_ (nt _ _);have h:=p' (P.others.take 6) ci [];rw[i9]at h;refine Nat.le_trans ?_ h;rw[<-nx,<-ii];exact Nat.le_trans (nt _ _) (ru _ _)
       have HV:a.code.length<=2000:=by
        have h:a.code.length=R.code.length+1:=(by rw[<-ob];simp[jf]);omega
       have tl:=Z (And.intro HO HV);have FA:a.work.length=K:=(by rw[go.1];exact g8.wl);have Fr:a.aP.length=K:=(by rw[go.2];exact g8.hl);have J:=Z (And.intro FA Fr);go_cut [] (fun wc=>∃C,C=bX P/\C.length=a.code.length/\fO wc wb wb N M ⟨C,a.work,a.aP⟩/\Below wb g7 wc)
       case first=>
        go_wp2
        go_loopw [19] (fun i wr=>∃(k:Nat) (C:List be),k<=K/\i=.int .i64 k/\C.length=a.code.length/\fO wr wb wb N M ⟨C,a.work,a.aP⟩/\Below wb g7 wr/\bb g7 wr/\pq al (E.code.length:Int) (a.work.drop k) (a.aP.drop k) C=bX P) (fun i _=>K-(intOf i).toNat)
        case atStart=>exact⟨0,a.code,by omega,rfl,rfl,wd,Below.refl _ _,bb.refl _,v5⟩
        case round=>
         obtain⟨k,C,hl,rfl,l1,c,hb,U,g4⟩:=hrel;have A:=Z hb;have bi:=Z U;have gk:=Z l1;have tg:=Z g4;have B:=Z c;obtain⟨vc,T⟩:=c;obtain⟨w',z2,k0⟩:=au T.work;have c3:wr.cell? (wb,3)=some N:=T.row.cell rfl;rw[k0,J.1]at c3;by_cases G:k<K
         ·obtain⟨x,u⟩:∃x,a.work[k]'(by rw[J.1];exact G)=x:=⟨_,rfl⟩
          obtain⟨y,rt⟩:∃y,a.aP[k]'(by rw[J.2];exact G)=y:=⟨_,rfl⟩;have rg:a.work[k]?=some x:=(by rw[List.getElem?_eq_getElem (by rw[J.1];exact G),u]);have rx:a.aP[k]?=some y:=(by rw[List.getElem?_eq_getElem (by rw[J.2];exact G),rt]);have Ic:=g8.w x (by rw[<-go.1];exact List.mem_of_getElem? rg);have Ih:=g8.h y (by rw[<-go.2];exact List.mem_of_getElem? rx);obtain⟨av,rfl⟩:=Int.eq_ofNat_of_zero_le Ic.1;obtain⟨en,rfl⟩:=Int.eq_ofNat_of_zero_le Ih.1;have ro:av<C.length:=(by have:=tl.1;omega);have r':en<K:=(by omega);have ql:al.length=K:=q.n;obtain⟨v,I5⟩:∃v,al[en]'(by rw[ql];exact r')=v:=⟨_,rfl⟩;have r5:al[en]?=some v:=(by rw[List.getElem?_eq_getElem (by rw[ql];exact r'),I5]);obtain⟨X,H2⟩:=nm (C[av]);have kT:C[av]?=some X:=(by rw[List.getElem?_eq_getElem ro,H2]);have i7:Hid (pq al (E.code.length:Int) (a.work.drop (k+1)) (a.aP.drop (k+1)) (C.set av {X with v:=IntKind.u64.wrap v})=bX P):=Z (by
           rw[List.drop_eq_getElem_cons (by rw[J.1];exact G),List.drop_eq_getElem_cons (i:=k) (l:=a.aP) (by rw[J.2];exact G),u,rt,pq,Int.toNat_natCast,kT]at g4;dsimp only at g4;rw[if_pos (by omega),Int.toNat_natCast,List.getD_eq_getElem?_getD,r5]at g4;exact g4)
          obtain⟨p2,k1,J0,it,_,x3,_,s2,_⟩:=aE T.code (by show 0<C.length;omega);obtain⟨c5,k2,J1,c4,_,x4,_,Il,_⟩:=aE T.work (by show 0<a.work.length;rw[J.1];omega);obtain⟨At,k3,J2,jp,_,x5,_,Im,_⟩:=aE T.aP (by show 0<a.aP.length;rw[J.2];omega);obtain⟨AC,J4,J3,z4,_,Is,_,hn,_⟩:=aE (U.own us (by decide) (by decide)) (by omega);subst it;have am:wr.cell? (wb,0)=some (.slice (some (p2,0)) C.length k1):=T.row.cell rfl;have fb:wr.cell? (wb,4)=some M:=T.row.cell rfl;rw[jp]at fb;rw[show w'=some ⟨c5,0,none⟩from by rw[k0]at c4;injection c4,show z2=k2 from by rw[k0]at c4;injection c4]at c3;injection z4 with z5 _ z9
          subst z5;subst z9;have tN:∀(l:List Int) (s0:List Value) (i:Nat) (n:Int),l[i]?=some n->(l.flatMap jz++s0)[i]?=some (.int .i64 n):=fun l s0 i n h=>by
           have ap:=bJ (enc:=jz) (k:=1) (fun _=>rfl) h (j:=0) (by omega);rw[Nat.mul_one,Nat.add_zero]at ap;rw[List.getElem?_append_left (List.getElem?_eq_some_iff.1 ap).1,ap];rfl
          have s8:wr.cell? (c5,k)=some (.int .i64 av):=Il.cell (tN _ _ _ _ rg);have s9:wr.cell? (At,k)=some (.int .i64 en):=Im.cell (tN _ _ _ _ rx);have Jb:wr.cell? (AC,en)=some (.int .i64 v):=hn.cell (tN _ _ _ _ r5);have s7:wr.cell? (p2,av*7+4)=some (.int .u64 X.v):=s2.cell (by
           rw[List.getElem?_append_left (by rw[aU ew];show av*7+4<C.length*7;omega)];exact(bJ ew kT (j:=4) (by omega)).trans rfl)
          have Ja:=s2.free (av*7+4);have p8:a.aP.length=K:=J.2;have gr:=Z (T.Hl (S:=⟨C,a.work,a.aP⟩) rfl kT (IntKind.u64.wrap v));have IK:K<=k2:=(by have:=J.1;show K<=k2;rw[<-this];exact x4);have IL:K<=k3:=(by rw[<-p8];exact x5);rw[p8]at fb;have i1:(k:Int)<K:=(by omega);have i2:(en:Int)<K:=(by omega);have Ii:(av:Int)<C.length:=(by omega);have H3:C.length<=k1:=x3;obtain⟨eS,gt⟩:=nm C.length;rw[gt]at am Ii H3 ro gr;go_upto_region 49 with fail
          go_still_tail 13,(by kernel_rfl)
          change wpList _ _ _ _ _ wr.drew;go_wp2
          go_roundw
          case rel=>exact⟨k+1,C.set av {X with v:=IntKind.u64.wrap v},by omega,by go_num,by rw[List.length_set];exact gk,⟨_,gr.1.af ay⟩,(by have h:=A.trans gr.2.1;exact⟨h.os,h.tape,h.output,h.size,h.block⟩),bi.trans gr.2.2,i7⟩
          case measure=>simp[intOf];omega
         ·have hm:k=K:=by omega
          have F:Hid (C=bX P):=Z (by
           have h:=tg.out;rw[List.drop_of_length_le (by rw[J.1];omega),List.drop_of_length_le (by rw[J.2];omega)]at h;exact h)
          go_wp2
          go_meet
          exact⟨C,F,gk,B,A⟩
       case rest=>
        obtain⟨C,Ev,l1,c,hb⟩:=hcut;obtain⟨mv,I9⟩:=nm wc;rw[I9]at c hb⊢;have sC:=Z Ev;have cA:=Z (sl.trans hb);have cL:=Z ((nw.ch (D:=fun i=>wb<=i) ⟨cA.os,cA.tape,cA.out.output,cA.size,fun b hb hd=>cA.block b (by omega)⟩ (by have:=a9.out;omega)));obtain⟨vc,T⟩:=c;have v6:=Z T;obtain⟨ac,gs,p1⟩:=au T.code;have am:mv.cell? (wb,0)=some vc:=T.row.cell rfl;rw[p1]at am;have tb:=Z p1;obtain⟨eS,gt⟩:=nm ((⟨C,a.work,a.aP⟩:WS).code.length);rw[gt]at am;have ty:=Z gt;have IS:=a9.out;obtain⟨t0,t1,t2,t3⟩:=cL.c4;have f0:=cL.free 0;have f1:=cL.free 1;have f2:=cL.free 2;have f3:=cL.free 3;go_wp2
        obtain⟨mA,lt⟩:=nm ((((mv.setCell (a5,0) (.slice ac eS gs)).setCell (a5,1) (.int .i64 0)).setCell (a5,2) (.int .i64 3)).setCell (a5,3) (.int .i64 1));rw[lt];have ov:Ch (aH a5) mv mA:=(by rw[<-lt];exact ay);have vh:Row mA a5 77 [.slice ac eS gs,.int .i64 0,.int .i64 3,.int .i64 1]:=(by rw[<-lt];exact(((cL.set 0 _).set 1 _).set 2 _).set 3 _);obtain⟨Io,s7,s8,s9⟩:=vh.c4;refine bodyPost_ret (v:=.agg #[.slice ac eS gs,.int .i64 0,.int .i64 3,.int .i64 1]) ?_ rfl ?_
        ·simp[results,Tryz.f36,go_sem,Io,s7,s8,s9]
        ·have cW:=c0.out
         refine⟨_,rfl,?_,?_⟩
         ·have ap:=v6.code
          rw[tb]at ap;rw[<-sC];have HW:C.length=eS:=ty.out;have c6:=ak ap ov (fun g L e=>by
           have c4:g=a5:=e;have:=(bW ap L).1;omega)
          have fn:mA.ownsRow wb 184 7 (.slice ac C.length gs) C.length (C.flatMap dn):=c6;rw[HW]at fn⊢;exact dU fn (by omega)
         ·have hb:=(es.ib).trans (cA.mono (by omega))
          exact(Ch.bT hb).fresh ov (fun i IG e=>by have c4:i=a5:=e;omega)
variable{p:Value}
def tO(C:KC)(ok:Bool)(n tt:Nat)(w:World)(e:Ending)(w':World):Prop:=
 (ok=false/\e=.returned (.pointer none)/\Ch ag w w')∨(ok=true/\∃mb χ,e=.returned (.pointer (some ⟨mb,0,none⟩))/\MS w' χ mb C (hY C n tt)/\(∀i,χ i≠ .no->w.heap.size<=i)/\Ch ag w w')
theorem gd.below{w':World}{P:fM}(h:gd w B p P)(hb:Below B w w'):gd w' B p P:=by
 obtain⟨a,c,v1,v2,g,b,d,e,f⟩:=h;exact⟨a,c,v1,v2,g,b,d.below hb,e.below hb,f.below hb⟩
theorem gd.mono{j:Nat}{P:fM}(h:gd w B p P)(u:B<=j):gd w j p P:=by
 obtain⟨a,c,v1,v2,t,q,b,d,i⟩:=h;have f:∀{v l},gP w B v l->gP w j v l:=fun {v l} h=>by
  obtain⟨a,c,b,d,i⟩:=h;refine⟨a,c,b,d,fun k x n=> ?_⟩;obtain⟨g,o,e,s,m⟩:=i k x n;exact⟨g,o,e,by omega,m⟩
 refine⟨a,c,v1,v2,t,q,f b,?_,f i⟩;obtain⟨a,c,b,d,i⟩:=d;refine⟨a,c,b,d,fun k x n=> ?_⟩;obtain⟨g,o,v',e,s,m,r⟩:=i k x n;exact⟨g,o,v',e,by omega,m,f r⟩
theorem Bv{l:List be}{loop:Int}{calls:List bB}(cb:tD l loop calls)(ad:∀w,Calls prog 35 #[.int .i64 16] w (oS l loop calls w))(P:fM)(ab:jI P)(p:Value)(wk ce:Int)(w:World)(O:gd w w.heap.size p P)
 (D:w.cell? (0,0)=some (.iface 390 (.agg #[(4,85)]))):
 Calls prog 9 #[.agg #[wk,ce],p] w (tO (qa l loop calls P) (jJ P wk ce) (di wk ce).1.toNat (di wk ce).2.toNat w):=by
 have c9:=Z ad;have U:=Z D;have V:=Z O;have T:=Z (fun w=>tF wk ce w);have X:Hid (∀w1,Ch ag w w1->Calls prog 36 #[p,.int .i64 16] w1 (wS (bX P) w1)):=Z (fun w1 c=>Bu P ab p w1 ((O.below c.ib).mono c.size));have H:=Z (fun(vc vk c2:Value) (B1 B2 B3:Nat) (W:World) I J K D=>Bs cb P wk ce vc vk c2 (B1:=B1) (B2:=B2) (B3:=B3) W I J K D);obtain⟨n,N⟩:=nm ((di wk ce).1);obtain⟨tt,Q⟩:=nm ((di wk ce).2);obtain⟨C,L⟩:=nm (qa l loop calls P);rw[N,Q]at T H;rw[L]at H;rw[N,Q,L];clear ad D O ab N Q L;obtain⟨a0,o,v1,v2,cf,rfl,I,J,K⟩:=V.out;obtain⟨a1,s,rfl,-,-⟩:=I;obtain⟨a2,t,rfl,-,-⟩:=J;obtain⟨a3,u,rfl,-,-⟩:=K;obtain⟨g,Y⟩:=nm P.cT;obtain⟨j,a4⟩:=nm P.first.length;obtain⟨k,a5⟩:=nm P.others.length;obtain⟨m,a9⟩:=nm P.once.length;obtain⟨y,c0⟩:=nm P.mZ;rw[Y,a4,a5,a9,c0]at X⊢;clear V Y a4 a5 a9 c0;obtain⟨a,A⟩:=nm w.heap.size;have ch:=Z A;go_in
 go_wp2
 obtain⟨w1,x⟩:=nm ((w.alloc (.cells #[wk,ce] 23)).alloc (.cells #[.slice a0 g o,.slice a1 j s,.slice a2 k t,.slice a3 m u,.bool y] 28));have b:Hid (Ch ag w w1):=Z (by rw[<-x];exact((Ch.refl _ _).alloc _).alloc _);have c3:Hid (Row w1 a 23 [wk,ce]):=Z (by rw[<-x,<-A];exact(Row.new w _ _).alloc _);have c7:Hid (Row w1 (a+1) 28 [.slice a0 g o,.slice a1 j s,.slice a2 k t,.slice a3 m u,.bool y]):=Z (by
  rw[<-x,<-A];have r:=Row.new (w.alloc (.cells #[wk,ce] 23)) #[.slice a0 g o,.slice a1 j s,.slice a2 k t,.slice a3 m u,.bool y] 28;rw[World.size_alloc]at r;exact r)
 rw[x];clear x A;have f:Hid (∀W,Ch ag w1 W->W.cell? (a,0)=some (.int .i64 wk)/\W.cell? (a,1)=some (.int .i64 ce)/\W.cell? (a+1,0)=some (.slice a0 g o)/\W.cell? (a+1,1)=some (.slice a1 j s)/\W.cell? (a+1,2)=some (.slice a2 k t)/\W.cell? (a+1,3)=some (.slice a3 m u)/\W.cell? (a+1,4)=some (.bool y)):=Z (fun W c=>by
  have r:=c3.ch c (fun h=>h);have q:=c7.ch c (fun h=>h);exact⟨r.cell rfl,r.cell rfl,q.cell rfl,q.cell rfl,q.cell rfl,q.cell rfl,q.cell rfl⟩)
 obtain⟨t0,t1,t2,t3,t4,t5,t6⟩:=f _ (Ch.refl _ _);go_region_held3 (fun w'=>w'.cell? (a,0)=some (.int .i64 wk)/\w'.cell? (a,1)=some (.int .i64 ce)/\w'.cell? (a+1,0)=some (.slice a0 g o)/\w'.cell? (a+1,1)=some (.slice a1 j s)/\w'.cell? (a+1,2)=some (.slice a2 k t)/\w'.cell? (a+1,3)=some (.slice a3 m u)/\w'.cell? (a+1,4)=some (.bool y)) (go_keep) (first|(go_at_call 12;refine(T _).mono ?_;rintro e w2 ⟨rfl,al⟩;have R:Hid (Ch ag w1 w2):=Z (Ch.trans ay al);obtain⟨t0,t1,t2,t3,t4,t5,t6⟩:=f _ R;clear al)|(go_at_call 35;refine(c9 _).mono ?_;rintro e w3 ⟨cf,rfl,⟨vc,vk,rfl,bi,bv⟩,am⟩;have c4:=Z bi;have c5:=Z bv;have E:Hid (Ch ag w1 w3):=Z (R.trans (Ch.trans ay am));obtain⟨t0,t1,t2,t3,t4,t5,t6⟩:=f _ E;clear am bi bv)|(go_at_call 36;refine(X _ (b.trans (E.trans ay))).mono ?_;rintro e w4 ⟨c2,rfl,bx,ap⟩;have z:Ch ag w3 w4:=Ch.trans ay ap;have F:Hid (Ch ag w1 w4):=Z (E.trans z);have G:=((b.trans F).cell (aQ U) (fun e=>e)).trans U;have c6:=Z (fun W (c:Ch ag w4 W)=>(H _ _ _ _ _ _ W (ak (ak c4 z (fun _ _ e=>e)) c (fun _ _ e=>e)) (ak (ak c5 z (fun _ _ e=>e)) c (fun _ _ e=>e)) (ak bx c (fun _ _ e=>e)) ((c.cell (aQ G) (fun e=>e)).trans G)).mono fun _ _ h=>h.back (F.trans c));obtain⟨t0,t1,t2,t3,t4,t5,t6⟩:=f _ F;clear ap bx z G)|(go_at_call 34;refine(c6 _ ay).mono ?_;rintro e cl ⟨pv,ci,rfl,M,c1⟩;have S:=Z M;have c8:=Z c1;obtain⟨t0,t1,t2,t3,t4,t5,t6⟩:=f _ M;clear M c1))
 all_goals
  rcases c8 with⟨v,rfl,ck,cm,rfl⟩|⟨v,mb,χ,rfl,rfl,bw,av⟩
  ·have d:=Z v
   clear v;go_wp2
   go_ret;exact Or.inl ⟨d,rfl,b.trans S⟩
  ·have d:=Z (And.intro v (And.intro bw av))
   clear v bw av;go_wp2
   go_ret;exact Or.inr ⟨d.1,mb,χ,rfl,d.2.1,fun i cd=>Nat.le_trans b.size (d.2.2 i cd),b.trans S⟩
section
open Go.ChangeAt Go.ChangeShapes Go.Deep Go.WideShapes
set_option maxRecDepth 100000
variable{v:Value}{b:Nat}
def ku{α:Type}(w:World)(B:Nat)(v:Value)(k:Nat)(enc:α->List Value)(l:List α):Prop:=
 ∃a c,v=.slice a l.length c/\l.length<=c/\∀q x,l[q]?=some x->∃g o,a=some ⟨g,o,none⟩/\g<B/\∀j u,(enc x)[j]?=some u->w.cell? ⟨g,o+q*k+j,none⟩=some u
theorem o6{n:Int}(h:(Lit.int .u64 n).wf=true):aK n:=by
 unfold Lit.wf at h;simp at h;have a:IntKind.u64.min=0:=by decide
 have c:IntKind.u64.max=18446744073709551615:=by decide
 rw[a,c]at h;exact⟨h.1,by omega⟩
theorem lz{w:World}{a:Addr}{n:Nat}{u:Value}(h:w.cell? (a.add n)=some u):∃g o,a.block=g/\a.off=o/\w.cell? ⟨g,o+n,none⟩=some u/\(n=0->a=⟨g,o,none⟩):=by
 refine⟨a.block,a.off,rfl,rfl,?_,fun c=> ?_⟩
 ·unfold Addr.add at h
  by_cases c:n=0
  ·rw[if_pos c]at h
   subst c;have:a.spot=none:=by
    cases d:a.spot with
    |none=>rfl
    |some s=>
     unfold World.cell? at h;split at h
     ·rw[d]at h;cases h
     ·cases h
   obtain⟨b,o,s⟩:=a;dsimp only at this⊢;subst this;exact h
  ·rw[if_neg c]at h;exact h
 ·subst c
  rw[show a.add 0=a by unfold Addr.add;rw[if_pos rfl]]at h;cases d:a.spot with
  |none=>obtain⟨b,o,s⟩:=a;dsimp only at d⊢;rw[d]
  |some s=>
   unfold World.cell? at h;split at h
   ·rw[d]at h;cases h
   ·cases h
section
variable{H:Type}{enc:TypeId×Value->H}{w:World}{base:Nat}{spare:Nat->Bool}{held:Bool}
theorem qd{α:Type} [Inhabited α]{ec:α->List Value}{k:Nat}{Ok:α->Prop}{T E:TypeId}(L:prog.underlying T=some (.slice E))(R:prog.cellsOf E=k)(S:0<k)(O:∀x,(ec x).length=k)
 (P:∀n cs x a,w.cells? base a k=some cs->DataW.trod enc prog w base spare held n E cs=some x->∃X:α,Ok X/\∀r u,(ec X)[r]?=some u->w.cell? (a.add r)=some u)
 {fuel:Nat} {x:DataW H×List MemPlace} (h:DataW.trod enc prog w base spare held fuel T [v]=some x):∃l:List α,ku w w.heap.size v k ec l/\∀X∈l,Ok X:=by
 rcases open_slice L h with⟨s,a2⟩|⟨a,len,cap,m,n,D,Z,y,hb,U,a9,V,I,F⟩
 ·injection s with s _
  subst s;exact⟨[],⟨none,0,rfl,Nat.le_refl _,fun q x I=>by cases I⟩,fun X t=>by cases t⟩
 ·injection y with y _
  subst y;rw[R]at F;have a5:len<=m:=by rw[V];split<;>omega
  obtain⟨f,z⟩:=choose_lt (n:=len) (p:=fun i X=>Ok X/\∀r u,(ec X)[r]?=some u->w.cell? ((a.add (i*k)).add r)=some u) (fun i a4=>by
   obtain⟨a0,N,Y⟩:=F i (by omega);exact P _ _ _ _ N Y)
  have hlen:((List.range len).map f).length=len:=by simp
  refine⟨(List.range len).map f,⟨some a,cap,by rw[hlen],by rw[hlen];exact U,fun q x d=> ?_⟩,fun X t=> ?_⟩
  ·have G:q<len:=by have:=(List.getElem?_eq_some_iff.1 d).1;rwa [hlen]at this
   rw[List.getElem?_map,List.getElem?_range G]at d;have e:=Option.some.inj d;subst e;have c:∃u,w.cell? ((a.add (0*k)).add 0)=some u:=by
    have W:0<(ec (f 0)).length:=(by rw[O];exact S);exact⟨_,(z 0 (by omega)).2 0 _ (List.getElem?_eq_getElem W)⟩
   obtain⟨u0,c⟩:=c;rw[add_add,Nat.zero_mul,Nat.zero_add]at c;obtain⟨g,o,-,-,a3,J⟩:=lz c;have M:=J rfl;subst M;refine⟨g,o,rfl,World.block_lt_of_cell? w _ c,fun j u Q=> ?_⟩;have C:=(z q G).2 j u Q;rw[add_add]at C;obtain⟨a1,ab,A,B,K,_⟩:=lz C;dsimp only at A B;subst A;subst B
   rwa [<-Nat.add_assoc]at K
  ·obtain⟨q,d,rfl⟩:=List.mem_map.1 t
   exact(z q (List.mem_range.1 d)).1
deriving instance Inhabited for fk
theorem y3:∃f0 f1 f2 f3 f4:Field,prog.underlying 182=some (.struct #[f0,f1,f2,f3,f4])/\oneCellFields prog #[f0,f1,f2,f3,f4]=true/\f0.type=3/\f1.type=39/\f2.type=39/\f3.type=39/\f4.type=39:=
 ⟨_,_,_,_,_,underlying182,by kernel_rfl,rfl,rfl,rfl,rfl,rfl⟩
theorem Bw(n:Nat)(cs:List Value)(x:DataW H×List MemPlace)(a:Addr)(t:w.cells? base a 5=some cs)(A:DataW.trod enc prog w base spare held n 182 cs=some x):
 ∃X:fk,je X/\∀r u,(E8 X)[r]?=some u->w.cell? (a.add r)=some u:=by
 obtain⟨f0,f1,f2,f3,f4,z,d,t0,t1,t2,t3,t4⟩:=y3;obtain⟨xs,k,_,_,hlen,B,c⟩:=DataW.trod_struct z A;rw[show prog.cellsOf 182=5 by kernel_rfl]at hlen;obtain⟨_,T,s⟩:=World.cells?_some t
 match cs,hlen with
 |[O,P,Q,R,S],_=>
  obtain⟨J,k0⟩:=hone_of d 0 f0 rfl;obtain⟨K,k1⟩:=hone_of d 1 f1 rfl;obtain⟨L,k2⟩:=hone_of d 2 f2 rfl;obtain⟨M,k3⟩:=hone_of d 3 f3 rfl;obtain⟨N,C⟩:=hone_of d 4 f4 rfl
  match xs,B with
  |[y0,U,V,W,Y],_=>
   have j:=c 0 f0 rfl;have l:=c 1 f1 rfl;have m:=c 2 f2 rfl;have o:=c 3 f3 rfl;have p:=c 4 f4 rfl;rw[J,k0,t0]at j;rw[K,k1,t1]at l;rw[L,k2,t2]at m;rw[M,k3,t3]at o;rw[N,C,t4]at p;obtain⟨D,e,-,-⟩:=DataW.trod_int underlying3 j;obtain⟨E,f,-,w1⟩:=DataW.trod_int underlying39 l;obtain⟨F,g,-,w2⟩:=DataW.trod_int underlying39 m;obtain⟨G,h,-,w3⟩:=DataW.trod_int underlying39 o;obtain⟨I,i,-,w4⟩:=DataW.trod_int underlying39 p;simp at e f g h i;subst e f g h i;refine⟨⟨D,E,F,G,I⟩,⟨o6 w1,o6 w2,o6 w3,o6 w4⟩,fun r u q=> ?_⟩;have y:r<5:=(List.getElem?_eq_some_iff.1 q).1;rw[s r y];exact q
theorem mm{fuel:Nat}{x:DataW H×List MemPlace}(h:DataW.trod enc prog w base spare held fuel 25 [v]=some x):∃l:List fk,gP w w.heap.size v l/\∀X∈l,je X:=
 qd (ec:=E8) (k:=5) underlying25 (by kernel_rfl) (by decide) (fun _=>rfl) (fun n cs x a c d=>Bw n cs x a c d) h
theorem tP{fuel:Nat}{x:DataW H×List MemPlace}(h:DataW.trod enc prog w base spare held fuel 26 [v]=some x):∃l:List (List fk),jH w w.heap.size v l/\∀b∈l,∀X∈b,je X:=by
 rcases open_slice underlying26 h with⟨c,z⟩|⟨a,len,cap,m,n,D,S,r,hb,P,W,Q,C,O⟩
 ·injection c with c _
  subst c;exact⟨[],⟨none,0,rfl,Nat.le_refl _,fun q x C=>by cases C⟩,fun X k=>by cases k⟩
 ·injection r with r _
  subst r;have V:len<=m:=by rw[Q];split<;>omega
  obtain⟨f,s⟩:=choose_lt (n:=len) (p:=fun i (X:List fk)=>(∀x∈X,je x)/\∃v',w.cell? (a.add i)=some v'/\gP w w.heap.size v' X) (fun i U=>by
   obtain⟨F,A,R⟩:=O i (by omega);rw[show prog.cellsOf 25=1 by kernel_rfl,Nat.mul_one]at A;obtain⟨_,N,M⟩:=World.cells?_some A
   match F,N with
   |[E],_=>
    obtain⟨l,c,z⟩:=mm R;have j:=M 0 (by omega);rw[show(a.add i).add 0=a.add i by rw[add_add,Nat.add_zero]]at j;exact⟨l,z,E,j,c⟩)
  have hlen:((List.range len).map f).length=len:=by simp
  refine⟨(List.range len).map f,⟨some a,cap,by rw[hlen],by rw[hlen];exact P,fun q x d=> ?_⟩,fun X k=> ?_⟩
  ·have B:q<len:=by have:=(List.getElem?_eq_some_iff.1 d).1;rwa [hlen]at this
   rw[List.getElem?_map,List.getElem?_range B]at d;have e:=Option.some.inj d;subst e;obtain⟨Z,y,_⟩:=(s 0 (by omega)).2;obtain⟨g,o,-,-,j,G⟩:=lz y;have L:=G rfl;subst L;obtain⟨v',I,J⟩:=(s q B).2;obtain⟨T,Y,t,u,K,_⟩:=lz I;dsimp only at t u;subst t;subst u;exact⟨g,o,v',rfl,World.block_lt_of_cell? w _ y,K,J⟩
  ·obtain⟨q,d,rfl⟩:=List.mem_map.1 k
   exact(s q (List.mem_range.1 d)).1
theorem vq:∃f0 f1 f2 f3 f4:Field,prog.underlying 28=some (.struct #[f0,f1,f2,f3,f4])/\oneCellFields prog #[f0,f1,f2,f3,f4]=true/\f0.type=24/\f1.type=25/\f2.type=26/\f3.type=25/\f4.type=4:=
 ⟨_,_,_,_,_,underlying28,by kernel_rfl,rfl,rfl,rfl,rfl,rfl⟩
theorem y4{d:DataW H}{Z:List MemPlace}{r:Reach}(M:Value.okWide prog w r b 28 v)(h:DataW.Trod enc prog w base spare held 28 v d Z):∃P:fM,gd w w.heap.size v P/\jI P:=by
 obtain⟨f0,f1,f2,f3,f4,s,f,t0,t1,t2,t3,t4⟩:=vq;obtain⟨cs,rfl,am⟩:=okWide_struct s M;obtain⟨fuel,e⟩:=h;obtain⟨xs,k,_,_,hlen,N,e⟩:=DataW.trod_struct s e;rw[show prog.cellsOf 28=5 by kernel_rfl]at hlen;have q:(Value.agg cs).cells.toList=cs.toList:=by simp[Value.cells]
 obtain⟨l⟩:=cs
 match l,hlen with
 |[z,B,C,E,F],_=>
  obtain⟨U,k0⟩:=hone_of f 0 f0 rfl;obtain⟨V,k1⟩:=hone_of f 1 f1 rfl;obtain⟨W,k2⟩:=hone_of f 2 f2 rfl;obtain⟨X,k3⟩:=hone_of f 3 f3 rfl;obtain⟨Y,O⟩:=hone_of f 4 f4 rfl
  match xs,N with
  |[y0,av,bi,bv,bw],_=>
   have g:=e 0 f0 rfl;have i:=e 1 f1 rfl;have j:=e 2 f2 rfl;have o:=e 3 f3 rfl;have p:=e 4 f4 rfl;rw[U,k0,t0]at g;rw[V,k1,t1]at i;rw[W,k2,t2]at j;rw[X,k3,t3]at o;rw[Y,O,t4]at p;obtain⟨Q,a1,u⟩:=mm i;obtain⟨R,a2,x⟩:=tP j;obtain⟨S,a3,y⟩:=mm o;obtain⟨t,I,-⟩:=DataW.trod_bool underlying4 p;have G:∃a n c,z=.slice a n c:=by
    rcases open_slice underlying24 g with⟨L,a5⟩|⟨a,len,cap,m,n,D,a4,q,hb,ab,ad,al,ap,a9⟩
    ·exact⟨_,_,_,(List.cons.inj L).1⟩
    ·exact⟨_,_,_,(List.cons.inj q).1⟩
   obtain⟨a0,T,A,rfl⟩:=G;have J:=(List.cons.inj I).1;have K:F=.bool t:=J;subst K;exact⟨⟨T,Q,R,S,t⟩,⟨a0,A,B,C,E,rfl,a1,a2,a3⟩,⟨u,x,y⟩⟩
theorem vr:∃f0 f1:Field,prog.underlying 23=some (.struct #[f0,f1])/\oneCellFields prog #[f0,f1]=true/\f0.type=3/\f1.type=3:=
 ⟨_,_,underlying23,by kernel_rfl,rfl,rfl⟩
theorem y5{d:DataW H}{z:List MemPlace}{r:Reach}(t:Value.okWide prog w r b 23 v)(h:DataW.Trod enc prog w base spare held 23 v d z):∃wk ce:Int,v=.agg #[wk,ce]:=by
 obtain⟨f0,f1,g,f,t0,t1⟩:=vr;obtain⟨cs,rfl,A⟩:=okWide_struct g t;obtain⟨fuel,a⟩:=h;obtain⟨xs,k,_,_,hlen,u,a⟩:=DataW.trod_struct g a;rw[show prog.cellsOf 23=2 by kernel_rfl]at hlen;obtain⟨l⟩:=cs
 match l,hlen with
 |[m,n],_=>
  obtain⟨x,k0⟩:=hone_of f 0 f0 rfl;obtain⟨y,k1⟩:=hone_of f 1 f1 rfl
  match xs,u with
  |[y0,B],_=>
   have c:=a 0 f0 rfl;have e:=a 1 f1 rfl;rw[x,k0,t0]at c;rw[y,k1,t1]at e;obtain⟨i,o,-,-⟩:=DataW.trod_int underlying3 c;obtain⟨j,q,-,-⟩:=DataW.trod_int underlying3 e;have p:m=.int .i64 i:=(List.cons.inj o).1;have s:n=.int .i64 j:=(List.cons.inj q).1;subst p;subst s;exact⟨i,j,rfl⟩
structure hI where
 kind:Int
 wk:Int
 draw:Int
 deriving Inhabited
def mo(x:hI):List Value:=[.int .i64 x.kind,.int .i64 x.wk,.int .u64 x.draw]
def DP(n:Int):List Value:=[.int .u64 n]
theorem vs{d:DataW H}{q:List MemPlace}(h:DataW.Trod enc prog w base spare held 29 v d q)(o:v.cells.toList=[v]):∃l:List Int,ku w w.heap.size v 1 DP l/\∀n∈l,aK n:=by
 obtain⟨fuel,c⟩:=h;rw[o]at c;refine qd (ec:=DP) (k:=1) (Ok:=aK) underlying29 (by kernel_rfl) (by decide) (fun _=>rfl) (fun n cs x a g i=> ?_) c;obtain⟨p,f,-,w2⟩:=DataW.trod_int underlying39 i;obtain⟨_,s,j⟩:=World.cells?_some g;subst f;refine⟨p,o6 w2,fun r u e=> ?_⟩;have m:r<1:=(List.getElem?_eq_some_iff.1 e).1;rw[j r m];exact e
end
end
variable{wr:World}{nw:Int}{mb sb:Nat}{sv:Value}{χ:Nat->a'}{K:KS}
theorem ku.ch{α:Type}{w':World}{v:Value}{k:Nat}{enc:α->List Value}{l:List α}(h:ku w w.heap.size v k enc l)(c:Ch ag w w'):ku w' w'.heap.size v k enc l:=by
 obtain⟨a,d,f,m,n⟩:=h;refine⟨a,d,f,m,fun q x y=> ?_⟩;obtain⟨g,o,r,b,s⟩:=n q x y;exact⟨g,o,r,Nat.lt_of_lt_of_le b c.size,fun j u t=>(c.cell (p:=⟨g,o+q*k+j,none⟩) b (fun e=>e)).trans (s j u t)⟩
structure DQ(C:KC)(ok:Bool)(nw tt wk ce:Int)(p:Value)(w:World):Prop where
 made:∀W,Ch ag w W->Calls prog 9 #[.agg #[wk,ce],p] W (tO C ok nw.toNat tt.toNat W)
 HB:∀W,Ch ag w W->Calls prog 10 #[] W (ds (.bool true) W)
 ck:ok=true->ow C/\Inv 1 0 (hY C nw.toNat tt.toNat)
 cf:∀W,Calls prog 12 #[.agg #[wk,ce]] W (ds (.agg #[nw,tt]) W)
 Hm:1<=nw/\nw<=64/\1<=tt/\tt<=65536
theorem Db{b:List be}{loop:Int}{calls:List bB}(d:tD b loop calls)(g:∀w,Calls prog 35 #[.int .i64 16] w (oS b loop calls w))(P:fM)(f:jI P)(p:Value)(wk ce:Int)(w:World)(j:gd w w.heap.size p P)
 (a:w.cell? (0,0)=some (.iface 390 (.agg #[(4,85)]))):DQ (qa b loop calls P) (jJ P wk ce) (di wk ce).1 (di wk ce).2 wk ce p w:=by
 refine⟨?_,?_,?_,?_,o1 wk ce⟩
 ·exact fun W c=>Bv d g P f p wk ce W ((j.below c.ib).mono c.size) ((c.cell (aQ a) (fun e=>e)).trans a)
 ·exact fun W c=>yR W ((c.cell (aQ a) (fun e=>e)).trans a)
 ·exact fun h=>⟨Bq d f h,Br h⟩
 ·exact fun W=>tF wk ce W
theorem Fc(P:fM)(b:jI P)(p:Value)(wk ce:Int)(w:World)(e:gd w w.heap.size p P)
 (d:w.cell? (0,0)=some (.iface 390 (.agg #[(4,85)]))):∃C ok nw tt,DQ C ok nw tt wk ce p w:=by
 obtain⟨f,loop,calls,a,c⟩:=Bi;exact⟨_,_,_,_,Db a c P b p wk ce w e d⟩
theorem vt{B:Nat}{p:Value}{P:fM}(h:gd w B p P):∃a0 a a1 b a2 c a3 d,p=.agg #[.slice a0 P.cT a,.slice a1 P.first.length b,.slice a2 P.others.length c,.slice a3 P.once.length d,.bool P.mZ]:=by
 obtain⟨a0,a,v1,v2,j,rfl,e,f,g⟩:=h;obtain⟨a1,b,rfl,-,-⟩:=e;obtain⟨a2,c,rfl,-,-⟩:=f;obtain⟨a3,d,rfl,-,-⟩:=g;exact⟨_,_,_,_,_,_,_,_,rfl⟩
structure hE(w1:World)(C:KC)(nw:Int)(mb:Nat)(sb:Nat)(sv:Value)(S:List hI)(χ:Nat->a')(K:KS)(i:Nat)(wr:World):Prop where
 ms:MS wr χ mb C K
 inv:Inv (i+1) 0 K
 out:K.out=[]
 wl:(K.wk.length:Int)=nw
 rl:∀j,χ j≠ .no->w1.heap.size<=j
 ch:Ch ag w1 wr
 row:wr.ownsRow sb 41 3 sv S.length (S.flatMap mo)
 vu:∀g,sv.ownBlock=some g->g<wr.heap.size/\χ g=.no
theorem hE.af{S:List hI}{a:World}(h:hE w1 C nw mb sb sv S χ K i wr)(c:Ch ag wr a):hE w1 C nw mb sb sv S χ K i a:=
 ⟨h.ms.af c,h.inv,h.out,h.wl,h.rl,h.ch.trans c,ak h.row c (fun _ _ h=>h),fun g e=>⟨Nat.lt_of_lt_of_le (h.vu g e).1 c.size,(h.vu g e).2⟩⟩
theorem Bx(C:KC)(K:KS)(kind wk draw:Int)(h:K.out=[]):(ht C K kind wk draw).2.out=[]/\(ht C K kind wk draw).2.wk.length=K.wk.length:=by
 by_cases e:kind=2
 ·subst e;obtain⟨-,-,-,a,b⟩:=Ck C K wk draw h;exact⟨a,b⟩
 ·obtain⟨-,-,-,a,b⟩:=Fz C K kind wk draw h e;exact⟨a,b⟩
theorem hE.step{S:List hI}{w3:World}(k:ow C)(h:hE w1 C nw mb sb sv S χ K i wr)(c:Ch ag wr w3)(p:i<=1000)(x:hI)(hd:aK x.draw):
 Calls prog 13 #[(mb,0),.agg #[.int .i64 x.kind,.int .i64 x.wk,.int .u64 x.draw]] w3 (fun e w4=>∃d f,e=.returned d/\w4.ownsRow w3.heap.size 82 11 d (ht C K x.kind x.wk x.draw).1.length ((ht C K x.kind x.wk x.draw).1.flatMap Ev.cells)/\(∀g,d.ownBlock=some g->f g=.no)/\Nx χ f w3 w4/\hE w1 C nw mb sb sv S f (ht C K x.kind x.wk x.draw).2 (i+1) w4):=by
 have a:=h.af c;refine(A' k h.inv (by omega) x.kind x.wk x.draw hd a.ms).mono ?_;rintro e w4 ⟨d,f,rfl,o,l,n,b⟩;obtain⟨k1,k2⟩:=Bx C K x.kind x.wk x.draw h.out;refine⟨d,f,rfl,o,l,b,n,q4 k h.inv (by omega) x.kind x.wk x.draw hd,k1,by rw[k2];exact h.wl,rm h.rl b a.ch.size,iA h.rl b a.ch,ak a.row b.ch (fun g e m=>m (a.vu g e).2),fun g e=> ?_⟩;have j:=a.vu g e;exact⟨Nat.lt_of_lt_of_le j.1 b.ch.size,(b.same g j.1).trans j.2⟩
theorem hE.Ea{S:List hI}(h:hE w1 C nw mb sb sv S χ K i wr){x:hI}{q:Nat}(b:S[q]?=some x):
 ∃g cap,sv=.slice (some ⟨g,0,none⟩) S.length cap/\wr.cell? ⟨g,q*3,none⟩=some (.int .i64 x.kind)/\wr.cell? ⟨g,q*3+1,none⟩=some (.int .i64 x.wk)/\wr.cell? ⟨g,q*3+2,none⟩=some (.int .u64 x.draw):=by
 have f:=(List.getElem?_eq_some_iff.1 b).1;obtain⟨g,cap,l,rfl,_,_,_,d,_⟩:=aE h.row (by omega);have a:∀j v,j<3->(mo x)[j]?=some v->wr.cell? ⟨g,q*3+j,none⟩=some v:=fun j v c e=>d.cell (by
  rw[List.getElem?_append_left (by rw[aU (enc:=mo) (k:=3) (fun _=>rfl)];omega)];exact(bJ (enc:=mo) (k:=3) (fun _=>rfl) b c).trans e)
 exact⟨g,cap,rfl,a 0 _ (by omega) rfl,a 1 _ (by omega) rfl,a 2 _ (by omega) rfl⟩
theorem DR{w:World}{g k:Nat}{t:TypeId}{L:List Ev}{d:List Value}{X:Ev}(r:Row w g t (L.flatMap Ev.cells++d))(a:L[k]?=some X):
 w.cell? (g,k*11)=some (.int .i64 X.kind)/\w.cell? (g,k*11+1)=some (.int .i64 X.at_)/\w.cell? (g,k*11+2)=some (.int .i64 X.w)/\w.cell? (g,k*11+3)=some (.int .u64 X.t)/\w.cell? (g,k*11+4)=some (.int .i64 X.num)/\w.cell? (g,k*11+5)=some (.int .u64 X.a0)/\w.cell? (g,k*11+6)=some (.int .u64 X.a1)/\w.cell? (g,k*11+7)=some (.int .u64 X.a2)/\w.cell? (g,k*11+8)=some (.int .u64 X.a3)/\w.cell? (g,k*11+9)=some (.int .u64 X.v)/\w.cell? (g,k*11+10)=some (.int .u64 X.code):=by
 have f:∀j v,j<11->X.cells[j]?=some v->w.cell? ⟨g,k*11+j,none⟩=some v:=fun j v b c=>r.cell (by
  have e:=(List.getElem?_eq_some_iff.1 a).1;rw[List.getElem?_append_left (by rw[aU (enc:=Ev.cells) (k:=11) (fun _=>rfl)];omega)];exact(bJ (enc:=Ev.cells) (k:=11) (fun _=>rfl) a b).trans c)
 exact⟨f 0 _ (by omega) rfl,by and_intros<;>exact f _ _ (by decide) rfl⟩
theorem Hn(a b c e:Int)(w:World):(Op.equalIn 9999 80 (.agg #[.int .u64 a,.int .u64 b,.int .u64 c,.int .u64 e]) (.agg #[.int .u64 a,.int .u64 b,.int .u64 c,.int .u64 e])).run prog w=.ok true w:=by
 obtain⟨j,d,f,g,i⟩:=info_parts g';rw[run_equalIn_array w 9998 _ _ underlying80 d];have h:prog.cellsOf 39=1:=by kernel_rfl
 rw[h];simp[Op.eqItems,List.range_succ,go_sem]
theorem Dc(L:List Ev){B1 B2:Nat}{v1 v2:Value}(w:World)(a:w.ownsRow B1 82 11 v1 L.length (L.flatMap Ev.cells))(c:w.ownsRow B2 82 11 v2 L.length (L.flatMap Ev.cells)):
 Calls prog 14 #[v1,v2] w (ds (.bool true) w):=by
 obtain⟨N,g⟩:=nm L.length;rw[g]at a c;have G:N<=9223372036854775807:=by
  rcases Nat.eq_zero_or_pos N with e|e
  ·omega
  ·obtain⟨_,_,_,_,_,p,q,_,_⟩:=aE a e
   exact Nat.le_trans p q
 have o:=Z g;have m:=Z a;have n:=Z c;obtain⟨a1,z,rfl⟩:=au a;obtain⟨a2,A,rfl⟩:=au c;clear a c g;go_wp2
 go_loopw [5] (fun s t=>∃k:Nat,k<=N/\s=.int .i64 k/\Ch ag w t) (fun s _=>N-(intOf s).toNat)
 case atStart=>exact⟨0,by omega,rfl,Ch.refl _ _⟩
 case round=>
  obtain⟨k,E,rfl,hb⟩:=hrel;have b:=Z hb;clear hb;by_cases r:k<N
  ·obtain⟨X,i⟩:∃X,L[k]?=some X:=⟨_,List.getElem?_eq_getElem (by rw[o];exact r)⟩
   obtain⟨B,J,H,d,-,-,-,j,-⟩:=aE m (by omega);obtain⟨C,K,I,f,-,-,-,l,-⟩:=aE n (by omega);injection d with d u v
   injection f with f x y
   subst d f;clear u v x y;obtain⟨x0,x1,x2,x3,x4,x5,x6,x7,x8,x9,M⟩:=DR (j.ch b (fun h=>h)) i;obtain⟨y0,O,Q,R,S,T,U,V,W,Y,P⟩:=DR (l.ch b (fun h=>h)) i;have F:(k:Int)<N:=(by omega);have D:=Hn;clear i j l;go_wp2
   go_quiet (fail)
   go_wp2
   go_roundw
   case rel=>exact⟨k+1,by omega,by go_num,b.trans ay⟩
   case measure=>simp[intOf];omega
  ·obtain rfl:k=N:=by omega
   go_wp2
   go_ret;exact⟨rfl,b⟩
section
variable{w1 w3 w4 wr:World}{C:KC}{nw:Int}{i mb nb sb:Nat}{sv:Value}{χ ψ Ho:Nat->a'}{K:KS}
structure gY(w1:World)(C:KC)(nw:Int)(mb nb sb:Nat)(sv:Value)(S:List hI)(χ ψ:Nat->a')(K:KS)(i:Nat)(wr:World):Prop where
 a:hE w1 C nw mb sb sv S χ K i wr
 b:hE w1 C nw nb sb sv S ψ K i wr
 ap:∀j,χ j≠ .no->ψ j=.no
theorem gY.af{S:List hI}{a:World}(h:gY w1 C nw mb nb sb sv S χ ψ K i wr)(c:Ch ag wr a):gY w1 C nw mb nb sb sv S χ ψ K i a:=⟨h.a.af c,h.b.af c,h.ap⟩
theorem hE.other{S:List hI}(h:hE w1 C nw mb sb sv S χ K i wr)(n:Nx ψ Ho wr w4)(a:∀j,ψ j≠ .no->χ j=.no)(b:∀j,ψ j≠ .no->w1.heap.size<=j)(f:∀g,sv.ownBlock=some g->ψ g=.no):hE w1 C nw mb sb sv S χ K i w4:=
 ⟨h.ms.rl n.ch (fun j _ d=>a j d),h.inv,h.out,h.wl,h.rl,iA b n h.ch,ak h.row n.ch (fun g e c=>c (f g e)),fun g e=>⟨Nat.lt_of_lt_of_le (h.vu g e).1 n.ch.size,(h.vu g e).2⟩⟩
theorem Dd(n:Nx ψ Ho wr w4)(b:∀j,χ j≠ .no->ψ j=.no)(small:∀j,χ j≠ .no->j<wr.heap.size):∀j,χ j≠ .no->Ho j=.no:=fun j a=>(n.same j (small j a)).trans (b j a)
theorem Fe(a:∀j,χ j≠ .no->ψ j=.no):∀j,ψ j≠ .no->χ j=.no:=fun j c=>by
 cases b:χ j with
 |no=>rfl
 |_=>exact absurd (a j (by rw[b];simp)) c
theorem hE.Hp{g n cap:Nat}{S:List hI}(h:hE w1 C nw mb sb (.slice (some (g,0)) n cap) S χ K i wr){x:hI}{q:Nat}(b:S[q]?=some x):
 wr.cell? (g,q*3)=some (.int .i64 x.kind)/\wr.cell? (g,q*3+1)=some (.int .i64 x.wk)/\wr.cell? (g,q*3+2)=some (.int .u64 x.draw):=by
 obtain⟨d,c,e,a⟩:=h.Ea b;injection e with e _ _
 injection e with e
 injection e with e _ _
 subst e;exact a
theorem gY.Gw{S:List hI}(o:ow C)(h:gY w1 C nw mb nb sb sv S χ ψ K i wr)(r:i<=1000)(x:hI)(hd:aK x.draw)(c:Ch ag wr w3):
 Calls prog 13 #[(mb,0),.agg #[.int .i64 x.kind,.int .i64 x.wk,.int .u64 x.draw]] w3 (fun e w4=>∃a b,e=.returned a/\w4.ownsRow w3.heap.size 82 11 a (ht C K x.kind x.wk x.draw).1.length ((ht C K x.kind x.wk x.draw).1.flatMap Ev.cells)/\(∀g,a.ownBlock=some g->b g=.no/\ψ g=.no)/\hE w1 C nw mb sb sv S b (ht C K x.kind x.wk x.draw).2 (i+1) w4/\hE w1 C nw nb sb sv S ψ K i w4/\∀j,b j≠ .no->ψ j=.no):=by
 have f:=h.af c;refine(h.a.step o c r x hd).mono ?_;rintro e w4 ⟨a,b,rfl,n,p,m,s⟩;have l:∀j,w3.heap.size<=j->ψ j=.no:=fun j k=>by
  cases q:ψ j with
  |no=>rfl
  |_=>exact absurd (f.b.ms.small j (by rw[q];simp)) (by omega)
 refine⟨a,b,rfl,n,fun g e=>⟨p g e,l g (n.lt g e).1⟩,s,f.b.other m h.ap h.a.rl (fun g e=>(f.a.vu g e).2),fun j k=> ?_⟩;rcases Nat.lt_or_ge j w3.heap.size with d|d
 ·exact h.ap j (by rw[<-m.same j d];exact k)
 ·exact l j d
theorem gY.Gx{S:List hI}{K':KS}(k:ow C)(h:hE w1 C nw mb sb sv S χ K' (i+1) wr)(hb:hE w1 C nw nb sb sv S ψ K i wr)(f:∀j,χ j≠ .no->ψ j=.no)(m:i<=1000)(x:hI)(hd:aK x.draw)(l:(ht C K x.kind x.wk x.draw).2=K')(c:Ch ag wr w3):
 Calls prog 13 #[(nb,0),.agg #[.int .i64 x.kind,.int .i64 x.wk,.int .u64 x.draw]] w3 (fun e w4=>∃a d,e=.returned a/\w4.ownsRow w3.heap.size 82 11 a (ht C K x.kind x.wk x.draw).1.length ((ht C K x.kind x.wk x.draw).1.flatMap Ev.cells)/\gY w1 C nw mb nb sb sv S χ d K' (i+1) w4/\Ch (fun j=>ψ j≠ .no) w3 w4):=by
 subst l;refine(hb.step k c m x hd).mono ?_;rintro e w4 ⟨a,d,rfl,n,p,b,o⟩;exact⟨a,d,rfl,n,⟨(h.af c).other b (Fe f) hb.rl (fun g e=>(hb.vu g e).2),o,Dd b f (h.af c).ms.small⟩,b.ch⟩
end
variable{w2:World}
structure Mk(w1:World)(C:KC)(n tt:Nat)(l:List (Nat×(Nat->a')))(w:World):Prop where
 ms:∀x∈l,MS w x.2 x.1 C (hY C n tt)/\∀i,x.2 i≠ .no->w1.heap.size<=i
 ap:l.Pairwise fun a b=>∀j,a.2 j≠ .no->b.2 j=.no
 ch:Ch ag w1 w
theorem Mk.nil(c:Ch ag w1 w):Mk w1 C n tt [] w:=⟨fun _ h=>by simp at h,List.Pairwise.nil,c⟩
theorem Mk.add{W:World}{l:List (Nat×(Nat->a'))}(h:Mk w1 C n tt l w)(c:Ch ag w W)(m:tO C true n tt W e w'):∃mb χ,e=.returned (.pointer (some ⟨mb,0,none⟩))/\Mk w1 C n tt (l++[(mb,χ)]) w':=by
 rcases m with⟨f,_⟩|⟨_,mb,χ,rfl,f,g,p⟩
 ·cases f
 ·have k:=c.trans p
  refine⟨mb,χ,rfl,fun x d=> ?_,?_,h.ch.trans k⟩
  ·rcases List.mem_append.1 d with d|d
   ·exact⟨(h.ms x d).1.af k,(h.ms x d).2⟩
   ·rw[List.mem_singleton.1 d]
    exact⟨f,fun i r=>Nat.le_trans (h.ch.trans c).size (g i r)⟩
  ·rw[List.pairwise_append]
   refine⟨h.ap,List.pairwise_singleton _ _,fun a q b hb j s=> ?_⟩;rw[List.mem_singleton.1 hb];have:=(h.ms a q).1.small j s;cases o:χ j with
   |no=>exact o
   |_=>have t:=g j (by rw[o];simp);have:=c.size;omega
theorem Mk.no{l:List (Nat×(Nat->a'))}(h:Mk w1 C n tt l w2){x:Nat×(Nat->a')}(b:x∈l){z k:Nat}{t:TypeId}{xs:List Value}(r:w.ownsRow B t z v k xs)(c:w2.heap.size<=B):∀g,v.ownBlock=some g->x.2 g=.no:=fun g e=>by
 have:=(r.lt g e).1;cases a:x.2 g with
 |no=>rfl
 |_=>have:=(h.ms x b).1.small g (by rw[a];simp);omega
theorem Mk.al{nw tt:Int}{l:List (Nat×(Nat->a'))}(h:Mk w1 C nw.toNat tt.toNat l w2)(j:1<=nw)(d:Inv 1 0 (hY C nw.toNat tt.toNat))(c:Ch ag w2 w){S:List hI}(r:w.ownsRow B 41 3 v S.length (S.flatMap mo))(b:w2.heap.size<=B){x:Nat×(Nat->a')}(a:x∈l):
 hE w1 C nw x.1 B v S x.2 (hY C nw.toNat tt.toNat) 0 w:=by
 obtain⟨k,m,f,i⟩:=ES C nw.toNat tt.toNat;exact⟨(h.ms x a).1.af c,d,i,by show((hY C nw.toNat tt.toNat).wk.length:Int)=nw;rw[f];omega,(h.ms x a).2,h.ch.trans c,r,fun g e=>⟨(r.lt g e).2,h.no a r b g e⟩⟩
theorem tO.no(h:tO C false n tt w e w'):e=.returned (.pointer none)/\Ch ag w w':=by
 rcases h with⟨_,h⟩|⟨h,_⟩
 ·exact h
 ·cases h
variable{B1 B2:Nat}{v1 v2:Value}
theorem lA{α:Type}{enc:α->List Value}{k:Nat}(a:∀x,(enc x).length=k){g q:Nat}{L:List α}{f:List Value}{X:α}(r:Row w g t (L.flatMap enc++f))(c:L[q]?=some X)(j:Nat)(b:j<k)(v:Value)(e:(enc X)[j]?=some v):
 w.cell? (g,q*k+j)=some v:=r.cell (by
 have d:=(List.getElem?_eq_some_iff.1 c).1;rw[List.getElem?_append_left (by rw[aU a];exact Nat.lt_of_lt_of_le (Nat.add_lt_add_left b _) (by rw[<-Nat.succ_mul];exact Nat.mul_le_mul_right _ d))];exact(bJ a c b).trans e)
theorem jK{B n s:Nat}{v:Value}{xs:List Value}(h:w.ownsRow B t s v n xs):n<=9223372036854775807:=by
 rcases Nat.eq_zero_or_pos n with e|e
 ·omega
 ·obtain⟨_,_,_,_,_,a,b,_,_⟩:=aE h e
  exact Nat.le_trans a b
structure Df where
 t:Int
 a:Int
 m:Int
 d:Int
def Df.cells(x:Df):List Value:=[.int .u64 x.t,.int .u64 x.a,.int .u64 x.m,.int .u64 x.d]
theorem tN(L:List Int):L.map (Value.int .u64)=L.flatMap fun x=>[Value.int .u64 x]:=by
 induction L with
 |nil=>rfl
 |cons x L ih=>rw[List.map_cons,List.flatMap_cons,ih];rfl
theorem y6(L:List Int)(w:World)(a:w.ownsRow B1 39 1 v1 L.length (L.map (Value.int .u64)))(b:w.ownsRow B2 39 1 v2 L.length (L.map (Value.int .u64))):
 Calls prog 23 #[v1,v2] w (ds (.bool true) w):=by
 rw[tN]at a b;obtain⟨N,f⟩:=nm L.length;rw[f]at a b;have F:N<=9223372036854775807:=jK a;have p:=Z f;have n:=Z a;have o:=Z b;obtain⟨a1,z,rfl⟩:=au a;obtain⟨a2,A,rfl⟩:=au b;clear a b f;go_wp2
 go_loopw [5] (fun s r=>∃k:Nat,k<=N/\s=.int .i64 k/\Ch ag w r) (fun s _=>N-(intOf s).toNat)
 case atStart=>exact⟨0,by omega,rfl,Ch.refl _ _⟩
 case round=>
  obtain⟨k,D,rfl,hb⟩:=hrel;have c:=Z hb;clear hb;by_cases q:k<N
  ·obtain⟨X,g⟩:∃X,L[k]?=some X:=⟨_,List.getElem?_eq_getElem (by rw[p];exact q)⟩
   obtain⟨B,I,G,d,-,-,-,l,-⟩:=aE n (by omega);obtain⟨C,J,H,e,-,-,-,m,-⟩:=aE o (by omega);injection d with d u v
   injection e with e x y
   subst d e;clear u v x y;have i:=lA (k:=1) (fun _=>rfl) (l.ch c (fun h=>h)) g;have j:=lA (k:=1) (fun _=>rfl) (m.ch c (fun h=>h)) g;have x0:=i 0 (by decide) _ rfl;have y0:=j 0 (by decide) _ rfl;rw[Nat.add_zero,Nat.mul_one]at x0 y0;have E:(k:Int)<N:=(by omega);clear g l m i j;go_wp2
   go_quiet (fail)
   go_wp2
   go_roundw
   case rel=>exact⟨k+1,by omega,by go_num,c.trans ay⟩
   case measure=>simp[intOf];omega
  ·obtain rfl:k=N:=by omega
   go_wp2
   go_ret;exact⟨rfl,c⟩
theorem tQ(L:List iD)(w:World)(c:w.ownsRow B1 48 7 v1 L.length (L.flatMap iD.cells))(e:w.ownsRow B2 48 7 v2 L.length (L.flatMap iD.cells)):
 Calls prog 22 #[v1,v2] w (ds (.bool true) w):=by
 obtain⟨N,i⟩:=nm L.length;rw[i]at c e;have F:N<=9223372036854775807:=jK c;have p:=Z i;have n:=Z c;have o:=Z e;obtain⟨a1,z,rfl⟩:=au c;obtain⟨a2,A,rfl⟩:=au e;clear c e i;go_wp2
 go_loopw [5] (fun s r=>∃k:Nat,k<=N/\s=.int .i64 k/\Ch ag w r) (fun s _=>N-(intOf s).toNat)
 case atStart=>exact⟨0,by omega,rfl,Ch.refl _ _⟩
 case round=>
  obtain⟨k,D,rfl,hb⟩:=hrel;have d:=Z hb;clear hb;by_cases q:k<N
  ·obtain⟨X,j⟩:∃X,L[k]?=some X:=⟨_,List.getElem?_eq_getElem (by rw[p];exact q)⟩
   obtain⟨B,I,G,f,-,-,-,l,-⟩:=aE n (by omega);obtain⟨C,J,H,g,-,-,-,m,-⟩:=aE o (by omega);injection f with f u v
   injection g with g x y
   subst f g;clear u v x y;have a:=lA (k:=7) (fun _=>rfl) (l.ch d (fun h=>h)) j;have b:=lA (k:=7) (fun _=>rfl) (m.ch d (fun h=>h)) j;have x0:=a 0 (by decide) _ rfl;have y0:=b 0 (by decide) _ rfl;have x1:=a 1 (by decide) _ rfl;have K:=b 1 (by decide) _ rfl;have x2:=a 2 (by decide) _ rfl;have M:=b 2 (by decide) _ rfl;have x3:=a 3 (by decide) _ rfl;have O:=b 3 (by decide) _ rfl;have x4:=a 4 (by decide) _ rfl;have P:=b 4 (by decide) _ rfl;have x5:=a 5 (by decide) _ rfl;have Q:=b 5 (by decide) _ rfl;have x6:=a 6 (by decide) _ rfl;have R:=b 6 (by decide) _ rfl;rw[Nat.add_zero]at x0 y0;have E:(k:Int)<N:=(by omega);clear j l m a b;go_wp2
   go_quiet (fail)
   go_wp2
   go_roundw
   case rel=>exact⟨k+1,by omega,by go_num,d.trans ay⟩
   case measure=>simp[intOf];omega
  ·obtain rfl:k=N:=by omega
   go_wp2
   go_ret;exact⟨rfl,d⟩
theorem Dg:(prog.info? 52).map (fun i=>(i.zero,i.size,i.bytes))=some (some (.agg #[.int .u64 0,.int .u64 0,.int .u64 0,.int .u64 0]),4,32):=by kernel_rfl
def jL(K:KS)(id:Int):Df:=⟨id,((gq K.q id).map fQ.ad).getD 0,((gq K.q id).map fQ.mask).getD 0,if(dp K.clock id).2 then(dp K.clock id).1 else 18446744073709551615⟩
def jM(K:KS)(k:Nat):List Df:=((K.q.take k).flatten.map fQ.id).map (jL K)
theorem o7{K:KS}{l:List fQ}(h:K.q[k]?=some l):jM K (k+1)=jM K k++(l.map fQ.id).map (jL K):=by
 unfold jM;rw[List.take_add_one,h,Option.toList_some,List.flatten_append,List.map_append,List.map_append];simp
structure Ff(l:List Df)(w:World)(e:Ending)(w':World):Prop where
 ret:∃v,e=.returned v/\w'.ownsRow w.heap.size 52 4 v l.length (l.flatMap Df.cells)
 ch:Ch ag w w'
theorem kU.HK{s:Option fQ}{w w':World}{e:Ending}(h:kU s w e w'):∃x y,e=.returned (.tuple #[.int .u64 ((s.map fQ.ad).getD 0),.int .u64 ((s.map fQ.mask).getD 0),.int .i64 x,.bool y])/\Ch ag w w':=by
 obtain⟨a,n,rfl⟩:=h;cases s with
 |none=>exact⟨_,_,a,ay⟩
 |some s=>exact⟨_,_,a,ay⟩
variable{L:cU}{Y:Var}
theorem Dh{l:List fQ}(a:K.q[k]?=some l)(d:l.length<=100000)(h:ae w χ L Y C K):Calls prog 45 #[(L.qb,0),.int .i64 k] w (ry (l.map fQ.id) w):=by
 have c:=h.q (by simp);have e:=c.b1;rw[<-e]at a;unfold b1 at a;rw[List.getElem?_map]at a;cases b:Y.ls[k]? with
 |none=>rw[b]at a;cases a
 |some l'=>
  rw[b]at a;obtain rfl:l'.map Sl.s=l:=by simpa using a
  have:=Bz L.qb L.ql L.qm k Y.ls l' w c.is b (by simpa using d);rw[List.map_map];exact this
theorem y7(cS:K.q.flatten.length<=100000)(h:ae w χ L Y C K):Calls prog 17 #[(L.mb,0)] w (Ff (jM K 8) w):=by
 obtain⟨go,cC,ge,gf,gk⟩:=info_parts Dg;have eC:=Z cC;have H:=Z h;have g9:Hid (K.q.length=8):=Z (by have r:=h.q (by simp);rw[<-r.b1];unfold b1;rw[List.length_map];exact r.is.len);have eS:=Z cS;clear cC h cS;go_wp2
 go_loopw [3,10] (fun sv bv wr=>∃k n:Nat,k<=8/\bv=.int .i64 k/\n=(jM K k).length/\Ch ag w wr/\wr.ownsRow w.heap.size 52 4 sv n ((jM K k).flatMap Df.cells)) (fun _ bv _=>8-(intOf bv).toNat)
 case atStart=>exact⟨0,0,by omega,rfl,rfl,Ch.refl _ _,⟨rfl,Or.inl ⟨rfl,rfl⟩⟩⟩
 case round=>
  obtain⟨k,n,hl,rfl,D,a9,bx⟩:=hrel;have a:=Z (And.intro a9 (And.intro bx D));obtain⟨hd,hf,rfl⟩:=au bx;have cl:=Z (H.af a9);have V:=cl.v8;clear a9 bx D;by_cases g7:k<8
  ·obtain⟨l,B⟩:∃l,K.q[k]?=some l:=⟨_,List.getElem?_eq_getElem (by rw[g9.out];exact g7)⟩
   have hm:(k:Int)<8:=(by omega);have cL:(jM K k).length+l.length<=100000:=by
    have e:=congrArg List.length (eu B).1;rw[List.length_append,List.length_append]at e;have:(jM K k).length=(K.q.take k).flatten.length:=(by unfold jM;rw[List.length_map,List.length_map]);have:=eS.out;omega
   have ex:=Z (fun W (c:Ch ag wr W)=>Dh B (by omega) (cl.af c));have ci:=Z B;have D:n+l.length<=100000:=(by rw[a.2.2];exact cL);obtain⟨N,a1⟩:=nm l.length;have j:=Z a1;rw[a1]at D;clear B cL a1;go_wp2_with fail
   with_reducible refine(ex.out _ ay).mono ?_
   rintro e w2 ⟨⟨v2,rfl,E⟩,ab⟩;rw[List.length_map,j]at E;have ck:=Z E;have en:=Z (a.1.trans ab);have fb:=Z (ak a.2.1 ab (fun _ _ h=>h));obtain⟨a2,g3,rfl⟩:=au E;clear E ab V;obtain⟨B2,a0⟩:=nm wr.heap.size;have hb:Hid (w.heap.size<=B2):=Z (by rw[<-a0];exact a.1.size);rw[a0]at ck;clear a0;go_wp2
   go_loopw [3,20] (fun sv c3 c4=>∃m q:Nat,m<=N/\c3=.int .i64 m/\q=n+m/\Ch ag w c4/\c4.ownsRow w.heap.size 52 4 sv q ((jM K k++((l.take m).map fQ.id).map (jL K)).flatMap Df.cells)/\c4.ownsRow B2 39 1 (.slice a2 N g3) N ((l.map fQ.id).map (Value.int .u64))) (fun _ c3 _=>N-(intOf c3).toNat)
   case atStart=>exact⟨0,n,by omega,rfl,rfl,en,by simpa using fb.out,ck⟩
   case round=>
    obtain⟨m,q,hn,rfl,r,ad,c2,A⟩:=hrel;have o:=Z (And.intro ad (And.intro c2 A));have S:=Z r;have U:=Z (H.af ad);obtain⟨a3,he,rfl⟩:=au c2;clear ad c2;by_cases cQ:m<N
    ·obtain⟨s,c1⟩:∃s,l[m]?=some s:=⟨_,List.getElem?_eq_getElem (by rw[j];exact cQ)⟩
     obtain⟨g5,k2,hB,X,-,-,-,dC,-⟩:=aE A (by omega);injection X with X c5 c6
     subst X;have x0:wr.cell? (g5,m)=some (.int .u64 s.id):=dC.cell (by
      rw[List.getElem?_append_left (by rw[List.length_map,List.length_map,j];exact cQ),List.getElem?_map,List.getElem?_map,c1];rfl)
     obtain⟨id,hid⟩:=nm s.id;rw[hid]at x0;have fd:Hid ((((l.take (m+1)).map fQ.id).map (jL K))=(((l.take m).map fQ.id).map (jL K))++[jL K id]):=Z (by
      rw[List.take_add_one,c1,Option.toList_some,List.map_append,List.map_append,<-hid];rfl)
     have hu:(m:Int)<N:=(by omega);have hv:(0:Int)<=m:=(by omega);clear c1 A dC c5 c6 hid r;go_upto_region 9 with fail
     obtain⟨w4,F⟩:=nm (wr.alloc (.cells #[.int .u64 id,.int .u64 0,.int .u64 0,.int .u64 18446744073709551615] 52));have c8:Hid (Ch ag wr w4):=Z (Ch.al F);obtain⟨f,J⟩:=nm wr.heap.size;have g0:Hid (Row w4 f 52 [.int .u64 id,.int .u64 0,.int .u64 0,.int .u64 18446744073709551615]):=Z (by rw[<-J];exact Row.al F);have cm:=Z (U.af c8);have T:Hid (f=wr.heap.size):=Z J.symm;have V:=cm.v8;have fn:=Z (qK id cm);obtain⟨b,a5⟩:=nm (((gq K.q id).map fQ.ad).getD 0);obtain⟨mk,bw⟩:=nm (((gq K.q id).map fQ.mask).getD 0);obtain⟨z,av⟩:=nm (dp K.clock id).1;obtain⟨cq,ap⟩:=nm (dp K.clock id).2;have ce:Hid (jL K id=⟨id,b,mk,if cq=true then z else 18446744073709551615⟩):=Z (by unfold jL;rw[a5,bw,av,ap]);have cb:=Z (And.intro a5 bw);have cd:=Z (And.intro av ap);rw[F,J];clear F J a5 bw av ap x0;go_wp2_with fail
     with_reducible refine fn.out.mono ?_
     intro e gr dr;obtain⟨x5,i0,rfl,al⟩:=dr.HK;rw[cb.1,cb.2];have v:=Z (g0.ch al (fun h=>h));have es:=Z (c8.trans al);obtain⟨y0,M,O,P⟩:=v.c4;have f1:=v.free 1;have f2:=v.free 2;clear dr al V;go_upto_region 10 with fail
     obtain⟨dN,G⟩:=nm ((gr.setCell (f,1) (.int .u64 b)).setCell (f,2) (.int .u64 mk));have Q:Hid (Ch ag wr dN):=Z (by rw[<-G];exact(es.set (Or.inr (Nat.le_of_eq T.symm)) _).set (Or.inr (Nat.le_of_eq T.symm)) _);have g1:Hid (Row dN f 52 [.int .u64 id,.int .u64 b,.int .u64 mk,.int .u64 18446744073709551615]):=Z (by rw[<-G];exact(v.set 1 _).set 2 _);have eA:=Z (xD id (U.af Q));have g4:=(U.af Q).j2;rw[G,cd.1,cd.2]at*;clear G y0 M O P f1 f2;go_wp2_with fail
     with_reducible refine eA.out.mono ?_
     rintro e ec ⟨rfl,am⟩;have c9:=Z (Q.trans am);have x:=Z (g1.ch am (fun h=>h));obtain⟨y0,M,O,P⟩:=x.c4;have f3:=x.free 3;clear g4 am;have hw:q+1<=100000:=(by have:=S.out;omega);cases cq
     case' true=>
      go_upto_region 13 with fail
      obtain⟨i,I⟩:=nm (ec.setCell (f,3) (.int .u64 z));have u:Hid (Ch ag wr i):=Z (by rw[<-I];exact c9.set (Or.inr (Nat.le_of_eq T.symm)) _);have y:Hid (Row i f 52 [.int .u64 id,.int .u64 b,.int .u64 mk,.int .u64 z]):=Z (by rw[<-I];exact x.set 3 _);obtain⟨p,d⟩:=nm z;rw[d]at y;have cf:Hid (jL K id=⟨id,b,mk,p⟩):=Z (by rw[ce,<-d];rfl);rw[I];clear I d y0 M O P f3
     case' false=>
      go_upto_region 13 with fail
      obtain⟨i,rfl⟩:=mn ec;have u:=c9;have y:=x;obtain⟨p,d⟩:=nm (18446744073709551615:Int);rw[d]at y;have cf:Hid (jL K id=⟨id,b,mk,p⟩):=Z (by rw[ce,<-d];rfl);clear d y0 M O P f3
     all_goals
      obtain⟨gs,c5,c6,gt⟩:=y.c4;obtain⟨g2,a4⟩:=nm ((jM K k++((l.take m).map fQ.id).map (jL K)).flatMap Df.cells);have c0:=ak o.2.1 u (fun _ _ h=>h);rw[a4]at c0;have R:=Z c0;have fz:=Z a4;clear c0 a4;have ch:=Z (ak o.2.2 u (fun _ _ h=>h));have c7:=Z (o.1.trans u);have gc:=c7.size;go_wp2_with (at_builtin;refine wpList_append_lies _ rfl _ _ _ rfl w.heap.size 52 go _ 4 32 underlying49 eC ge gf gk rfl (by omega) _ q g2 rfl (R.alloc _) ⟨i.heap.size,0,none⟩ 1 1 [.int .u64 id,.int .u64 b,.int .u64 mk,.int .u64 p] rfl rfl (World.news_of_block (cs:=#[.int .u64 id,.int .u64 b,.int .u64 mk,.int .u64 p]) (t:=52) (fr:=(0,0)) (heap_alloc_new i _)) (by simp[Value.oneCell']) (by omega) (by unfold maxLen;omega) (by omega) (by simp;omega) (i.heap.size+1) (by simp) ?_)
      intro hi cap hF cW cA g6 g8;have bi:=ao cA;have eW:=Z cW;have et:=Z (eX c7 R (Nat.le_refl _) bi);have eL:=Z (ak ch (Ch.bK bi) (fun g e=>kH ch R (by decide) e));clear cA bi cW g6 g8 gc gs c5 c6 gt;go_wp2
      go_roundw
      case rel=>
       refine⟨m+1,q+1,by omega,by go_num,by have:=S.out;omega,et,?_,eL⟩;rw[fd,cf,<-List.append_assoc,List.flatMap_append,fz];exact eW
      case measure=>simp[intOf];omega
    ·obtain rfl:m=N:=by omega
     clear A;go_wp2
     go_roundw
     case rel=>
      refine⟨k+1,q,by omega,by go_num,?_,o.1,?_⟩
      ·rw[o7 ci,List.length_append,List.length_map,List.length_map,j,<-a.2.2];exact S
      ·have h:=o.2.1
       rwa [<-j,List.take_length,<-o7 ci]at h
     case measure=>simp[intOf];omega
  ·obtain rfl:k=8:=by omega
   go_wp2
   go_ret;exact⟨⟨_,rfl,by rw[<-a.2.2];exact a.2.1⟩,a.1⟩
def qe(n:Int)(x:hI):Prop:=aK x.draw/\(x.kind=1/\0<=x.wk/\x.wk<n∨x.kind=2)
structure BB(n:Int)(most:Nat)(w:World)(e:Ending)(w':World):Prop where
 ret:∃(S:List hI) (v:Value),e=.returned v/\w'.ownsRow w.heap.size 41 3 v S.length (S.flatMap mo)/\S.length<=most/\∀x∈S,qe n x
 ch:Ch ag w w'
theorem Dj:(prog.info? 41).map (fun i=>(i.zero,i.size,i.bytes))=some (some (.agg #[.int .i64 0,.int .i64 0,.int .u64 0]),3,24):=by kernel_rfl
theorem vx(n:Int)(cS:1<=n)(cW:n<=64)(e:Nat)(ap:e<=2000)(l:List Int)(am:∀x∈l,aK x)(v:Value)(w:World)(h:ku w w.heap.size v 1 (fun x=>[.int .u64 x]) l):
 Calls prog 11 #[n,v,.int .i64 e] w (BB n e w):=by
 obtain⟨a,c,rfl,a4,bi⟩:=h;obtain⟨N,F⟩:=nm l.length;have P:=Z F;have T:=Z bi;have M:=Z am;have O:=Z ap;have H:(e:Int)<=2000:=by omega
 rw[F]at a4⊢;go_wp2
 go_loopg [7,8] (e+1) (fun gk u i wr=>∃(k:Nat) (S:List hI),k<=e/\gk=e-k+1/\i=.int .i64 k/\Hid (Ch ag w wr/\wr.ownsRow w.heap.size 41 3 u k (S.flatMap mo)/\S.length=k/\∀x∈S,qe n x))
 case atStart=>exact⟨0,[],by omega,by omega,rfl,Ch.refl _ _,⟨by simp,Or.inl ⟨rfl,rfl⟩⟩,rfl,by simp⟩
 case round=>
  obtain⟨k,S,G,rfl,rfl,d⟩:=hrel;obtain⟨c7,c8,rfl⟩:=au d.2.1;have cq:(k:Int)<=2000:=by have:=O.out;omega
  by_cases cC:k<e
  ·have cQ:(k:Int)<(e:Int):=by omega
   by_cases a0:0<N
   ·have ch:(0:Int)<(N:Int):=by omega
    have cf:(N:Int)≠0:=(by omega);have bv:Int.tmod (k:Int) (N:Int)=((k%N:Nat):Int):=(by rw[Int.tmod_eq_emod_of_nonneg (by omega)];rfl);have I:k%N<N:=Nat.mod_lt _ a0;have H:((k%N:Nat):Int)<(N:Int):=(by omega);obtain⟨x,J⟩:∃x,l[k%N]?=some x:=⟨_,List.getElem?_eq_getElem (by rw[P];exact I)⟩;obtain⟨g,o,rfl,cm,a5⟩:=T _ _ J;have C:=a5 0 _ rfl;have U:wr.cell? (g,o+k%N)=some (.int .u64 x):=by
     have:=(d.1.cell (aQ C) (fun h=>h)).trans C;simpa using this
    obtain⟨c6,al⟩:∃m,k%N=m:=⟨_,rfl⟩;rw[al]at bv I H U;have cA:(0:Int)<=(c6:Int):=(by omega);have ci:=Z (M x (List.mem_of_getElem? J));go_wp2
    go_quiet (fail)
    generalize c0:wr.drewN nq=w1;have r:Hid (Ch ag wr w1):=Z (Ch.dN c0);generalize bx:IntKind.u64.wrap (x+IntKind.u64.wrap (IntKind.u64.wrap (wrap64 ((k:Int)/(N:Int)))*2654435761))=p;have bw:aK p:=(by rw[<-bx];exact bO _);obtain⟨dC,dN⟩:=bw;go_upto_region 8 with fail
    generalize hb:bits .xor .u64 p (p/131072)=f;have cl:0<=f:=(by rw[<-hb];exact(jh .xor p (p/131072)).1);obtain⟨W,a1,a2,a3⟩:∃W,wrap64 ((f/256).tmod n)=W/\0<=W/\W<n:=by
     have V:(f/256).tmod n=f/256%n:=Int.tmod_eq_emod_of_nonneg (by omega);have cb:=Int.emod_nonneg (f/256) (b:=n) (by omega);have cd:=Int.emod_lt_of_pos (f/256) (b:=n) (by omega);rw[V];exact⟨_,rfl,by unfold wrap64;omega,by unfold wrap64;omega⟩
    obtain⟨D,X,Y,ce⟩:∃D,(f/65536).tmod 64=D/\0<=D/\D<64:=by
     rw[Int.tmod_eq_emod_of_nonneg (by omega)];exact⟨_,rfl,by omega,by omega⟩
    try rw[a1]
    try rw[X]
    have Q:=Z (ak d.2.1 r (fun _ _ h=>h));have z:Hid (qe n ⟨1,W,D⟩/\qe n ⟨2,0,0⟩):=Z ⟨⟨⟨Y,by show D<_;omega⟩,Or.inl ⟨rfl,a2,a3⟩⟩,⟨⟨by decide,by decide⟩,Or.inr rfl⟩⟩;obtain⟨c5,ad,c2,c3,c4⟩:=info_parts Dj;have L:=Z ad;go_upto_region 10 with fail
    all_goals
     first
      |(obtain⟨w2,j⟩:=nm (w1.alloc (.cells #[.int .i64 2,.int .i64 0,.int .u64 0] 41));rw[j];obtain⟨E,A,q,s⟩:∃E,Hid (qe n E)/\Hid (Ch ag w1 w2)/\Hid (Row w2 w1.heap.size 41 (mo E)):=⟨⟨2,0,0⟩,z.2,Ch.al j,Row.al j⟩)
      |(obtain⟨w2,j⟩:=nm (w1.alloc (.cells #[.int .i64 1,.int .i64 W,.int .u64 D] 41));rw[j];obtain⟨E,A,q,s⟩:∃E,Hid (qe n E)/\Hid (Ch ag w1 w2)/\Hid (Row w2 w1.heap.size 41 (mo E)):=⟨⟨1,W,D⟩,z.1,Ch.al j,Row.al j⟩)
     obtain⟨x0,x1,x2⟩:=s.c3;have B:=Z (ak Q q (fun _ _ h=>h));have dr:=((d.1.trans r).trans q|>.size);go_wp2_with (at_builtin;refine wpList_append_lies _ rfl _ _ _ rfl w.heap.size 41 c5 _ 3 24 underlying33 L c2 c3 c4 rfl (by omega) _ k (S.flatMap mo) rfl (B.alloc _) ⟨w2.heap.size,0,none⟩ 1 1 (mo E) rfl rfl (World.news_of_block (cs:=#[.int .i64 E.kind,.int .i64 E.wk,.int .u64 E.draw]) (t:=41) (fr:=(0,0)) (heap_alloc_new w2 _)) (by simp[Value.oneCell',mo]) (by omega) (by unfold maxLen;omega) (by omega) (by simp;omega) (w2.heap.size+1) (by simp) ?_)
     intro c9 cap w4 av ab ck cL;have a9:=ao ab;have R:=Z av;have K:=Z (eX ((d.1.trans r).trans q) B (Nat.le_refl _) a9);go_wp2
     go_roundg (e-(k+1)+1)
     case measure=>omega
     case rel=>
      exact⟨k+1,S++[E],by omega,rfl,rfl,K,by rw[List.flatMap_append];simpa using R.out,by rw[List.length_append,d.2.2.1];rfl,fun y c1=>by
       rcases List.mem_append.1 c1 with h|h
       ·exact d.2.2.2 y h
       ·rw[List.mem_singleton.1 h];exact A⟩
   ·go_wp2_with fail
    go_ret;exact⟨⟨S,_,rfl,d.2.2.1▸d.2.1,by rw[d.2.2.1];exact G,d.2.2.2⟩,d.1⟩
  ·go_wp2_with fail
   go_ret;exact⟨⟨S,_,rfl,d.2.2.1▸d.2.1,by rw[d.2.2.1];exact G,d.2.2.2⟩,d.1⟩
theorem BC:(prog.info? 3).map (fun i=>(i.zero,i.size,i.bytes))=some (some (.int .i64 0),1,8):=by kernel_rfl
def Dk(f:Frame):Int:=if f.cg then wrap64 (-1-f.f.pc)else f.f.pc
structure Dl(l:List Int)(w:World)(e:Ending)(w':World):Prop where
 ret:∃v,e=.returned v/\w'.ownsRow w.heap.size 3 1 v l.length (l.map (Value.int .i64))
 ch:Ch ag w w'
theorem tR{w:World}{χ:Nat->a'}{L:cU}{Y:Var}{C:KC}{K:KS}(h:ae w χ L Y C K){id:Int}{t:Thread}(i:aw K.ai id=some t)(E:0<t.l.length/\t.l.length<=1000):
 Calls prog 16 #[(L.mb,0),.int .u64 id] w (Dl (t.l.map Dk) w):=by
 obtain⟨N,W,I,J,M⟩:=info_parts BC;have y:=Z W;have a5:=h.hN;have q:=h.look id;rw[i]at q;dsimp only[Option.map_some,Option.getD_some,bk]at q;have u:=h.DB i;have H:=Z h;have z:=Z i;obtain⟨a4,U⟩:∃b,Y.bI id=b:=⟨_,rfl⟩;rw[U]at q u;have d:=h.hV i E.1;obtain⟨g,cap,a0,ab,D⟩:=d;rw[a0]at u;obtain⟨n,F⟩:=nm t.l.length;rw[F]at u E D;have l:=Z F;have v:=Z D;go_wp2
 go_loopw [6,22] (fun sv s wr=>∃k:Nat,k<=n/\s=.int .i64 k/\Ch ag w wr/\wr.ownsRow w.heap.size 3 1 sv k (((t.l.take k).map Dk).map (Value.int .i64))) (fun _ s _=>n-(intOf s).toNat)
 case atStart=>exact⟨0,by omega,rfl,Ch.refl _ _,⟨by simp,Or.inl ⟨rfl,rfl⟩⟩⟩
 case round=>
  obtain⟨k,ad,rfl,e,G⟩:=hrel;have a:=Z (And.intro e G);obtain⟨a3,a9,rfl⟩:=au G;by_cases p:k<n
  ·obtain⟨f,d⟩:∃f,t.l[k]?=some f:=⟨_,List.getElem?_eq_getElem (by rw[l];exact p)⟩
   have x:Hid (t.l[k]?.toList=[f]):=Z (by rw[d];rfl);have a2:=(e.cell (aQ (v k p)) (fun h=>h)).trans (v k p);have A:=(H.fr id t k f z d (by simp)).is.lL;have B:=H.sg z d;have O:=(e.cell (aQ A) (fun h=>h)).trans A;have P:=(e.cell (aQ B) (fun h=>h)).trans B;obtain⟨fb,V⟩:∃b,Y.fb id k=b:=⟨_,rfl⟩;rw[V]at a2 O P;have al:(k:Int)<n:=(by omega);have am:=a.1.size;obtain⟨⟨pc,fr,fbk⟩,cg,num⟩:=f;dsimp only at O P;cases cg with
   |true=>
    go_wp2_with (at_builtin;refine wpList_append_lies _ rfl _ _ _ rfl w.heap.size 3 N _ 1 8 underlying45 y I J M rfl (by omega) _ k (((t.l.take k).map Dk).map (Value.int .i64)) rfl (a.2.alloc _) ⟨wr.heap.size,0,none⟩ 1 1 [.int .i64 (wrap64 (-1-pc))] rfl rfl (World.news_of_block (cs:=#[.int .i64 (wrap64 (-1-pc))]) (t:=3) (fr:=(0,0)) (heap_alloc_new wr _)) (by simp[Value.oneCell']) (by omega) (by unfold maxLen;omega) (by omega) (by simp;omega) (wr.heap.size+1) (by simp) ?_)
    intro R Q a1 r o T X;have m:=Z r;have j:=Z (eX a.1 a.2 (Nat.le_refl _) (ao o));go_wp2
    go_roundw
    case rel=>
     refine⟨k+1,by omega,by go_num,j,?_⟩;rw[List.take_succ,x,List.map_append,List.map_append];have c:=m.out;simp only[List.map_take,List.map_map]at c⊢;exact c
    case measure=>simp[intOf];omega
   |false=>
    go_wp2_with (at_builtin;refine wpList_append_lies _ rfl _ _ _ rfl w.heap.size 3 N _ 1 8 underlying45 y I J M rfl (by omega) _ k (((t.l.take k).map Dk).map (Value.int .i64)) rfl (a.2.alloc _) ⟨wr.heap.size,0,none⟩ 1 1 [.int .i64 (pc)] rfl rfl (World.news_of_block (cs:=#[.int .i64 (pc)]) (t:=3) (fr:=(0,0)) (heap_alloc_new wr _)) (by simp[Value.oneCell']) (by omega) (by unfold maxLen;omega) (by omega) (by simp;omega) (wr.heap.size+1) (by simp) ?_)
    intro R Q a1 r o T X;have m:=Z r;have j:=Z (eX a.1 a.2 (Nat.le_refl _) (ao o));go_wp2
    go_roundw
    case rel=>
     refine⟨k+1,by omega,by go_num,j,?_⟩;rw[List.take_succ,x,List.map_append,List.map_append];have c:=m.out;simp only[List.map_take,List.map_map]at c⊢;exact c
    case measure=>simp[intOf];omega
  ·obtain rfl:k=n:=by omega
   go_wp2
   go_ret;refine⟨⟨_,rfl,?_⟩,a.1⟩;have S:=a.2;rw[List.take_of_length_le (by rw[l];omega)]at S
   rwa [List.length_map,l]
section
attribute [local go_sem] Oper.semAt_some
variable{k:Nat}
def iX(q:List bq):List (Int×Int):=(q.filter fun r=>r.handle !=0).map fun r=>(r.handle,r.addr)
theorem Dm(q:List bq):(iX q).length<=q.length:=by unfold iX;rw[List.length_map];exact List.length_filter_le _ _
theorem BD{q:List bq}{r:bq}(h:q[k]?=some r):iX (q.take (k+1))=iX (q.take k)++if r.handle !=0 then [(r.handle,r.addr)]else []:=by
 unfold iX;rw[List.take_add_one,h,List.filter_append,List.map_append];cases a:r.handle !=0<;>simp[a]
theorem wT(W:World)(T:TypeId)(s:Nat):(W.alloc (.cells #[] T)).ownsRow W.heap.size T s (.slice (some (W.heap.size,0)) 0 0) 0 []:=⟨by simp,Or.inr ⟨W.heap.size,0,#[],rfl,Nat.le_refl _,heap_alloc_new W _,by omega,by decide,by simp,by simp⟩⟩
theorem vy(a:Nat)(w:World):
 Calls prog 49 #[(a,0)] w (fun e w'=>e=.returned (.func (.func 95) #[] #[(w.heap.size,0)])/\w.alloc (.cells #[(a,0)] 109)=w'):=by
 go_wp2
 go_ret;exact⟨rfl,rfl⟩
theorem y8(n:Nat)(ex:1<=n)(l N b g:Nat)(q:List bq){R:World->World->Prop}{Sep:World->Nat->Prop}(c6:uv R Sep)(c Q:List (Int×Int)->World->Prop)(W:World)
 (c7:∀d k o,Ch ag W d->W.heap.size<=k->d.heap[k]?=some o->o.isCells=true->Sep d k) (c8:∀A B k,Ch ag A B->k<A.heap.size->Sep A k->Sep B k) (c3:∀pre S d,Ch ag S d->c pre S->c pre d)
 (c9:∀pre x W,c pre W->pre.length<64->YieldAt Fence.wide (n-1) prog l #[.int .u64 x.1,.int .u64 x.2] W fun e W'=>
  (e=.returned (.bool true)/\c (pre++[x]) W'/\R W W')∨(e=.returned (.bool false)/\Q (pre++[x]) W'))
 (c2:W.cell? (N,0)=some (.pointer (some (b,0)))) (t:bP W b g q) (c1:c [] W):
 Calls prog 95 #[.func (.yield l) #[] #[],(N,0)] W fun e W'=>(∃v,e=.returned v)/\
  ((∃a4,a4=iX q/\c a4 W')∨(∃pre,True/\Q pre W')):=by
 have p:=Z t;have bv:=Z c7;have P:=Z c8;have E:=Z c3;have bx:=Z c9;have a5:=Z c1;have av:=Z c6;have c0:=t.head.c1;have al:=Z (info_parts s');obtain⟨cL,cf,cq,cA,cC⟩:=al.out;have ad:=Z cf;have a9:Hid (∀j u,(q.flatMap bq.cells)[j]?=some u->W.cell? ((⟨g,0,none⟩:Addr).add j)=some u):=Z (fun j u I=>by
  have cb:(⟨g,0,none⟩:Addr).add j=⟨g,j,none⟩:=by unfold Addr.add;split<;>simp_all
  rw[cb];exact p.rows.cell I)
 have cd:(q.flatMap bq.cells).length=64*4:=by rw[aU (enc:=bq.cells) (k:=4) (fun _=>rfl),p.len]
 have ec:=ia c2 (.cells #[] 237);have dr:=ia c0 (.cells #[] 237);have ck:∀u∈q.flatMap bq.cells,u.oneCell'=true:=fun u cl=>by
  obtain⟨X,_,U⟩:=List.mem_flatMap.1 cl;simp only[bq.cells,List.mem_cons,List.not_mem_nil,or_false]at U;rcases U with rfl|rfl|rfl|rfl<;>rfl
 go_in
 go_wp2_with (at_builtin;refine wpList_append_own _ rfl _ _ _ rfl (W.heap.size) 237 cL _ 4 32 underlying233 ad cq cA cC rfl (by omega) _ 0 [] rfl ?_ ⟨g,0,none⟩ 64 64 (q.flatMap bq.cells) rfl cd ?_ ck (by unfold maxLen;omega) (by omega) ?_ ?_)
 ·exact wT W _ _
 ·exact fun j u I=>ia (a9 j u I) _
 ·simp
 intro v' w0 J ce dN;have J:w0.ownsRow W.heap.size 237 4 v' 64 (q.flatMap bq.cells):=by simpa using J
 have H:Ch ag W w0:=eX ay (wT W 237 4) (Nat.le_refl _) ce;have cS:=Z H;have am:=Z (E [] W w0 H a5);obtain⟨G,cs,cQ,rfl,V,-,-,a1,-⟩:=aE J (by decide);have ab:=Z (And.intro V a1);have bw:=Z (bv w0 G _ H V a1 rfl);go_upto_block 0 with fail
 refine(wpIn_wide (n:=n)).1 ?_
 gi_wp2_with fail
 gi_loopw [12] (fun i M=>∃m:Nat,m<=64/\i=.int .i64 m/\Hid (c (iX (q.take m)) M/\Row M G 237 (q.flatMap bq.cells++cQ)/\Sep M G)) (fun i _=>64-(intOf i).toNat)
 case atStart=>exact⟨0,by omega,rfl,Z ⟨am,ab.2,bw⟩⟩
 case round=>
  obtain⟨m,en,rfl,a⟩:=hrel;by_cases ci:m<64
  ·obtain⟨r,a0⟩:∃r,q[m]?=some r:=⟨_,List.getElem?_eq_getElem (by rw[p.len];exact ci)⟩
   have s:=Z (BD a0);have y:=lA (k:=4) (enc:=bq.cells) (fun _=>rfl) a.2.1 a0;have x0:=y 0 (by decide) _ rfl;have x1:=y 1 (by decide) _ rfl;have x2:=y 2 (by decide) _ rfl;have x3:=y 3 (by decide) _ rfl;rw[Nat.add_zero]at x0;have es:(m:Int)<64:=(by omega);have et:(0:Int)<=m:=(by omega);have ap:Hid ((iX (q.take m)).length<64):=Z (Nat.lt_of_le_of_lt (Dm _) (by rw[List.length_take];omega));obtain⟨tm,hd,kd,T⟩:=r;dsimp only at x0 x1 x2 x3;cases a3:(hd !=0)with
   |false=>
    rw[a3]at s
    gi_wp2_with fail
    refine⟨(fun f h=>by cases h),?_⟩
    gi_wp2_with fail
    go_roundw
    case rel=>exact⟨m+1,by omega,by simp,Z ⟨by rw[s,if_neg (by decide),List.append_nil];exact E _ _ _ ay a.1,a.2.1.alloc _,P _ _ _ ay a.2.1.lt a.2.2⟩⟩
    case measure=>simp[intOf];omega
   |true=>
    rw[a3]at s;obtain⟨w2,a2⟩:=nm (wr.alloc (.cells #[.int .u64 tm,.int .u64 hd,kd,.int .u64 T] 237));have z:Hid (Ch ag wr w2):=Z (Ch.al a2);have D:=Z (And.intro (a.2.1.ch z (fun h=>h)) (P _ _ _ z a.2.1.lt a.2.2));obtain⟨dC,tmps,assign,body,cm,t⟩:=bx _ (hd,T) w2 (E _ _ _ z a.1) ap;have bi:=Z t;subst a2;dsimp only at cm
    gi_wp2_with fail
    refine bi.mono ?_;rintro e cW (⟨rfl,c4,ch⟩|⟨rfl,c5⟩)
    ·have F:=Z c4
     have O:=Z (av.keep ch D.2 D.1.lt)
     gi_wp2_with fail
     go_roundw
     case rel=>exact⟨m+1,by omega,by simp,Z ⟨by rw[s,if_pos trivial];exact F,O.1.trans D.1,O.2⟩⟩
     case measure=>simp[intOf];omega
    ·have F:=Z c5
     gi_wp2_with fail
     refine bodyPost_ret (results_none rfl _ _ _) rfl ?_;exact⟨⟨_,rfl⟩,.inr ⟨_,trivial,F⟩⟩
  ·obtain rfl:m=64:=by omega
   gi_wp2_with fail
   go_end0
   exact⟨⟨_,rfl⟩,.inl ⟨_,rfl,by have:=a.1;rwa [List.take_of_length_le (by rw[p.len];omega)]at this⟩⟩
theorem tS(n:Nat)(I:1<=n)(c b g:Nat)(q:List bq){i:World->World->Prop}{Sep:World->Nat->Prop}(D:uv i Sep)(w:World)
 (j:w.cell? (c,0)=some (.pointer (some (b,0)))) (E:bP w b g q) (F:∀W a k o,Below w.heap.size w W->Ch ag W a->W.heap.size<=k->a.heap[k]?=some o->o.isCells=true->Sep a k) (G:∀A B k,Ch ag A B->k<A.heap.size->Sep A k->Sep B k):
 SeqStopsK Fence.wide n prog 95 #[(c,0)] (fun x:Int×Int=>#[Value.int .u64 x.1,Value.int .u64 x.2]) i (fun J=>J=iX q) (fun _=>True) 64 w:=fun l r s W m z M H u=>by
 have p:=Ch.bT m;exact callsIn_wide.2 (y8 n I l c b g q D r s W (fun a k o d f v y=>F W a k o m d f v y) G (fun pre t a d f=>z pre t a none f d.grown (fun _ e=>by cases e)) H ((p.cell (aQ j) (fun h=>h)).trans j) (E.ch p (fun h=>h) (fun h=>h)) u)
def Fg(lc:Nat)(A:World)(k:Nat):Prop:=Gy lc A k/\lc<A.heap.size
theorem Gz(lc:Nat):uv (zb lc) (Fg lc):=⟨fun {A B k} h ⟨a,c⟩ b=>⟨((By lc).keep h a b).1,((By lc).keep h a b).2,Nat.lt_of_lt_of_le c h.size⟩⟩
theorem Dn{lc:Nat}{A B:World}(c:Ch ag A B)(l:k<A.heap.size)(h:Fg lc A k):Fg lc B k:=by
 obtain⟨⟨⟨o,b,d⟩,f,g⟩,a⟩:=h;have e:∀j,j<A.heap.size->B.heap[j]?=A.heap[j]?:=fun j i=>c.same j i (fun h=>h)
 exact⟨⟨⟨o,(e k l).trans b,d⟩,f,fun⟨v,n,m⟩=>g ⟨v,(e lc a).symm.trans n,m⟩⟩,Nat.lt_of_lt_of_le a c.size⟩
section
variable{w:World}{χ:Nat->a'}{L:cU}{Y:Var}{C:KC}{K:KS}
theorem rA(h:ae w χ L Y C K):Calls prog 20 #[.pointer (some ⟨L.mb,0,none⟩)] w (ry ((iX K.cT).map Prod.fst) w):=by
 obtain⟨lc,E⟩:=nm w.heap.size;obtain⟨w1,P⟩:=nm (w.alloc (.cells #[.slice none 0 0] 29));have a1:Hid (Boxed w1 lc 29 (.slice none 0 0)):=Z (by rw[<-P,<-E];exact Boxed.new _ _ _);have d:Hid (Ch ag w w1):=Z (Ch.al P);have S:=Z (h.af d);have a9:Hid (w1.heap.size=lc+1):=Z (by rw[<-P,<-E];simp);have c6:=S.iq;obtain⟨c5,U,c2,c3,c4⟩:=info_parts g';have a4:=Z U;clear U;refine dx func20 rfl ?_;simp only[ntmps20,List.size_toArray,List.length_cons,List.length_nil,Nat.reduceAdd,Nat.reduceSub,Array.replicate_succ,Array.replicate_zero,List.push_toArray,List.append_toArray,List.nil_append,List.cons_append];go_wp2_with fail
 refine(vy L.ob w1).mono ?_;rintro e w4 ⟨rfl,s⟩;have f:Hid (Ch ag w1 w4):=Z (Ch.al s);have a5:Hid (Row w4 w1.heap.size 109 [.pointer (some ⟨L.ob,0,none⟩)]):=Z (Row.al s);have Q:Hid (Boxed w4 lc 29 (.slice none 0 0)):=Z (by rw[<-s];exact a1.alloc _);have t:Hid (w4.heap.size=lc+2):=Z (by rw[<-s];simp[a9.out]);have ab:=Z (S.af f);clear s c6;go_wp2_with fail
 have V:=tS (5-1) (by omega) w1.heap.size L.ob L.og K.cT (Gz lc) w4 (a5.cell (i:=0) rfl) (ab.obj (by simp)).is (fun W J k o hb ap O M N=>by
  have c0:=hb.size;have a0:Boxed J lc 29 (.slice none 0 0):=((show Row w4 lc 29 [.slice none 0 0]from Q.out).ch (Ch.bT hb) (fun h=>h)).ch ap (fun h=>h);refine⟨⟨⟨o,M,N⟩,by rw[t]at c0;omega,fun⟨v,a,e⟩=> ?_⟩,(show Row J lc _ _ from a0).lt⟩;have:=(show J.heap[lc]?=_ from a).symm.trans a0;simp at this;subst this;simp[Value.ownBlock]at e) (fun A B k=>Dn)
 refine(wpIn_wide (n:=5)).1 ?_;apply wpIn_rangeFunc_ownG (F:=Fence.wide) (n:=5) rfl (by omega) (gf:=95) (lb:=#[.pointer (some ⟨w1.heap.size,0,none⟩)]) rfl trivial (enters_of func95 (by kernel_rfl) rfl) V (fun h k=>zb.trans h k) (fun W l o c7 bi M N _=>zb.put W l o c7 (by rw[t]at bi;omega) M N) (Below.refl _ _) (fun _=>rfl)
  (fun pre W=>Below w.heap.size w4 W/\∃v,Boxed W lc 29 v/\W.ownsRow lc 39 1 v pre.length (pre.map fun p=>Value.int .u64 p.1)/\True) (fun c pre W=>False)
  (OwnFrom.and (ownFrom_below (by have:=d.size;have:=f.size;omega) (by have:=d.size;have:=f.size;omega)) ((holdsRow_own lc lc 29 39 1 (fun pre:List (Int×Int)=>pre.length) (fun pre=>pre.map fun p=>Value.int .u64 p.1) (fun _ _=>True)).from _))
  (fun c=>fun _ _ _ _ h _ _=>h)
  ⟨Below.refl _ _,_,Q,⟨by simp,Or.inl ⟨rfl,rfl⟩⟩,trivial⟩
 ·intro l x W K j
  gi_wp2
  exact j
 ·rintro l pre ⟨c8,ch⟩ W ⟨g,v,a,b,-⟩ hlen
  have cf:=g.size;have ad:=a.cell;have fb:=a.frozen;have I:=Z a;have R:=Z b;have a2:=Z g
  gi_wp2_with (first|(gi_at_builtin;refine gH _ rfl _ _ 29 rfl lc 39 c5 (.int .u64 0) 1 8 underlying29 a4 c2 c3 c4 rfl (by decide) _ _ _ rfl (R.alloc _) ⟨W.heap.size,0,none⟩ 1 1 [.int .u64 c8] rfl rfl (cell_one_new _ _ _) (by simp[Value.oneCell']) (by omega) (by unfold maxLen;omega) (by omega) (by have:=t.out;simp;omega) ?_;intro al cb w3 bx q y;obtain⟨X,m,G,r,z⟩:=I.appended (by decide) R (by have:=t.out;omega) (Nat.le_refl _) bx q;have c9:=X.cell;have f3:=X.frozen;have u:=Z (And.intro m (And.intro G (And.intro r z)));have a3:=Z (And.intro q y);clear q y m G r z))
  obtain⟨m,G,r,z⟩:=u.out;obtain⟨q,y⟩:=a3.out;refine⟨r.from _,⟨r.size,fun k o O ce bv bw=> ?_,fun k ⟨v',c1,e⟩=> ?_⟩,⟨(show Below lc w4 W from E▸a2).trans z,_,m,?_⟩⟩
  ·have av:=kv O
   refine(Below.heap_setCell _ _ _ k (fun e=>bv e)).trans ((q.block k (by simp;omega) (fun e=>bw ⟨v,I,e.symm⟩)).trans ((HL _ _ _ av).trans O))
  ·have:=(show _=some (Obj.cells #[v'] 29 (0,0))from c1).symm.trans m
   simp at this;subst this;obtain rfl:al=k:=by simpa[Value.ownBlock]using e
   rcases y with h|h
   ·exact Or.inl ⟨v,I,h⟩
   ·exact Or.inr (by rw[h];simp)
  ·simpa using G
 ·rintro D ci W T rfl ⟨g,v,a,b,-⟩ j
  have ad:=a.cell;have H:=Z j;have u:=Z (And.intro g b);clear V g j b;go_wp2_with fail
  refine⟨by simp,.inl ⟨_,_,rfl,run_takeDeferred H,?_⟩⟩;refine⟨_,results_tmp rfl _ _ _,?_⟩;have b:=ownsRow_putObj u.2 (.deferred none) H rfl;have am:Below w.heap.size w (W.putObj D (.deferred none)):=(((d.trans f).ib).trans u.1).trans (belowK_b (w:=w4) (by have:=d.size;have:=f.size;omega) W D (.deferred (some [])) (.deferred none) T H rfl rfl);exact⟨⟨_,rfl,by rw[E,List.map_map,List.length_map];exact b⟩,Ch.bT am⟩
 ·rintro D c pre W T cd hF j
  exact hF.elim
end
end
theorem Hq(S:aI)(a:Int):(S.acc 0 a 0 0).2=S:=by
 unfold aI.acc;split
 ·rfl
 ·rfl
def pk(K:KS)(a:Int):Int:=(gu K a).1
def pr(K:KS)(array n a:Int):Nat->Int->List Int
 |0,_=>[]
 |f+1,i=>if i<a/\0<n then pk K (IntKind.u64.wrap (IntKind.u64.wrap (array+1)+i.tmod n))::pr K array n a f (IntKind.u64.wrap (i+1))else []
theorem Dp(K:KS)(array n a:Int)(f:Nat)(i:Int)(h:f=0∨¬(i<a/\0<n)):pr K array n a f i=[]:=by
 cases f with
 |zero=>rfl
 |succ f=>
  unfold pr;rw[if_neg (h.resolve_left (by omega))]
def kx(K:KS)(i:Int):Int×Int×List Int:=
 if i<0∨K.wk.length<=i then(0,0,[])else
  let at_:=gv i
  let top:=pk K at_
  let a:=pk K (IntKind.u64.wrap (at_+1))
  let array:=pk K (IntKind.u64.wrap (at_+2))
  (top,a,pr K array (pk K array) a 16 top)
theorem rB(h:ae w χ L Y C K)(a:Int):aK (pk K a):=by
 unfold pk gu aI.acc;split
 ·exact⟨Int.le_refl 0,by show(0:Int)<_;decide⟩
 ·show aK (K.mem.cells.getD a.toNat 0)
  rw[List.getD_eq_getElem?_getD];cases b:K.mem.cells[a.toNat]? with
  |none=>exact⟨by decide,by decide⟩
  |some x=>exact(h.mem (by simp)).is.u64 _ _ b
theorem lB(a:Int)(l:aK a)(h:ae w χ L Y C K):Calls prog 51 #[(L.mb,0),.int .u64 a] w (fun e w'=>e=.returned (.int .u64 (pk K a))/\dD χ L Y C K K w χ Y w'):=by
 have c:=h.cO;have f:=Z (ji L.m L.c L.d K.mem a l w (h.mem (by simp)).is);have H:=Z h;obtain⟨p,k⟩:=nm (K.mem.acc 0 a 0 0);obtain⟨r,S⟩:=p;have E:Hid (pk K a=r.getD 0/\({K with mem:=S}:KS)=K):=Z ⟨by unfold pk gu;rw[k],by have:=Hq K.mem a;rw[k]at this;rw[show S=K.mem from this]⟩;rw[k]at f;cases r with
 |none=>
  go_in
  go_wp2_with (refine f.mono ?_;rintro e w1 ⟨⟨v,rfl,m⟩,g,i⟩;have d:=Z (H.mH g i fun _ j=>ff j))
  go_ret;rw[E.1];have b:=d.out;rw[E.2]at b;exact⟨rfl,b⟩
 |some r=>
  go_in
  go_wp2_with (refine f.mono ?_;rintro e w1 ⟨rfl,g,i⟩;have d:=Z (H.mH g i fun _ j=>ff j))
  go_ret;rw[E.1];have b:=d.out;rw[E.2]at b;exact⟨rfl,b⟩
structure DS(x:Int×Int×List Int)(χ:Nat->a')(L:cU)(Y:Var)(C:KC)(K:KS)(w:World)(e:Ending)(w':World):Prop where
 ret:∃v,e=.returned (.tuple #[.int .u64 x.1,.int .u64 x.2.1,v])/\w'.ownsRow w.heap.size 39 1 v x.2.2.length (x.2.2.map (Value.int .u64))/\dD χ L Y C K K w χ Y w'
theorem Fh{a pre:List Int}{arr n bot top j:Int}{k:Nat}{w':World}{v:Value}
 (c:pre.length=k/\a=pre++pr K arr n bot (16-k) j/\dD χ L Y C K K w χ Y w'/\w'.ownsRow w.heap.size 39 1 v k (pre.map (Value.int .u64)))
 (h:16-k=0∨¬(j<bot/\0<n)):DS (top,bot,a) χ L Y C K w (.returned (.tuple #[.int .u64 top,.int .u64 bot,v])) w':=by
 obtain⟨d,b,e,f⟩:=c;rw[Dp _ _ _ _ _ _ h,List.append_nil]at b;subst d b;exact⟨⟨v,rfl,f,e⟩⟩
theorem vz(i:Int)(h:ae w χ L Y C K):Calls prog 21 #[(L.mb,0),i] w (DS (kx K i) χ L Y C K w):=by
 have H:=Z h;have c:=h.qH;have bw:=(h.wk (by simp)).n;obtain⟨f,I⟩:=nm K.wk.length;rw[I]at c bw;have v:=Z I;have a9:i<0∨(f:Int)<=i∨0<=i/\i<f:=by omega
 rcases a9 with l|l|⟨M,al⟩
 ·have E:Hid (kx K i=(0,0,[])):=Z (by unfold kx;rw[if_pos (Or.inl l)])
  go_in
  go_wp2
  refine bodyPost_ret (results_tmp3 rfl _ _ _) rfl ?_;rw[E];exact⟨⟨.slice none 0 0,rfl,World.ownsRow_nil _ _ _ _,H.gU ay⟩⟩
 ·have E:Hid (kx K i=(0,0,[])):=Z (by unfold kx;rw[if_pos (Or.inr (by rw[v.out];exact l))])
  have M:¬i<0:=by omega
  go_in
  go_wp2
  refine bodyPost_ret (results_tmp3 rfl _ _ _) rfl ?_;rw[E];exact⟨⟨.slice none 0 0,rfl,World.ownsRow_nil _ _ _ _,H.gU ay⟩⟩
 ·obtain⟨at_,d⟩:=nm (gv i)
  have s:=Z (fun W=>lS i M (by omega) (.pointer (some (L.mb,0))) W);rw[d]at s;have a5:Hid (aK at_):=Z (by rw[<-d];exact bO _);obtain⟨top,p⟩:=nm (pk K at_);obtain⟨bot,hb⟩:=nm (pk K (IntKind.u64.wrap (at_+1)));obtain⟨arr,o⟩:=nm (pk K (IntKind.u64.wrap (at_+2)));obtain⟨n,m⟩:=nm (pk K arr);have E:Hid (kx K i=(top,bot,pr K arr n bot 16 top)):=Z (by
   unfold kx;rw[if_neg (by rw[v.out];omega)];dsimp only;rw[d,p,hb,o,m])
  have P:=Z (And.intro p (And.intro hb (And.intro o m)));have F:=Z (And.intro (p▸rB H _) (And.intro (hb▸rB H _) (And.intro (o▸rB H _) (m▸rB H _))));obtain⟨c2,ad,bx,c0,c1⟩:=info_parts g';have R:=Z ad;have cl:(f:Int)>i:=al;go_in
  go_wp2_with fail
  with_reducible refine(s.out _).mono ?_
  rintro e w1 ⟨rfl,rfl⟩;go_wp2_with fail
  with_reducible refine(lB _ a5.out H.out).mono ?_
  rintro e w1 ⟨rfl,c4⟩;rw[P.1];have A:=Z c4;go_wp2_with fail
  with_reducible refine(lB _ (bO _) A.out.at_).mono ?_
  rintro e w2 ⟨rfl,c5⟩;rw[P.2.1];have B:=Z (A.trans (Gr.refl _) c5);go_wp2_with fail
  with_reducible refine(lB _ (bO _) B.out.at_).mono ?_
  rintro e w3 ⟨rfl,c6⟩;rw[P.2.2.1];have D:=Z (B.trans (Gr.refl _) c6);go_wp2_with fail
  with_reducible refine(lB _ F.out.2.2.1 D.out.at_).mono ?_
  rintro e w4 ⟨rfl,c7⟩;rw[P.2.2.2];have X:=Z (D.trans (Gr.refl _) c7);obtain⟨z,G⟩:=nm (pr K arr n bot 16 top);have S:=Z G;rw[G]at E;go_wp2
  go_loopg [6,10] 17 (fun gk sv c3 wr=>∃(k:Nat) (j:Int) (pre:List Int),k<=16/\gk=17-k/\c3=.int .u64 j/\pre.length=k/\aK j/\z=pre++pr K arr n bot (16-k) j/\dD χ L Y C K K w χ Y wr/\wr.ownsRow w.heap.size 39 1 sv k (pre.map (Value.int .u64)))
  case atStart=>exact⟨0,top,[],by omega,rfl,rfl,rfl,F.1,S.symm,X,World.ownsRow_nil _ _ _ _⟩
  case round=>
   obtain⟨k,j,pre,cf,rfl,rfl,bv,am,ap,av,N⟩:=hrel;have a:=Z (And.intro bv (And.intro ap (And.intro av N)));have c9:=Z am;obtain⟨a3,a1,rfl⟩:=au N;have ch:(k:Int)<=16:=(by omega);by_cases a2:j<bot
   ·by_cases a4:0<n
    ·by_cases cd:k<16
     ·have ce:(k:Int)<16:=by omega
      obtain⟨x,O⟩:=nm (pk K (IntKind.u64.wrap (IntKind.u64.wrap (arr+1)+j.tmod n)));have T:Hid (z=(pre++[x])++pr K arr n bot (16-(k+1)) (IntKind.u64.wrap (j+1))):=Z (by
       rw[a.2.1,show 16-k=(16-(k+1))+1 by omega,pr,if_pos ⟨a2,a4⟩,O,List.append_assoc];rfl)
      have V:=Z O;go_wp2_with fail
      with_reducible refine(lB _ (bO _) a.out.2.2.1.at_).mono ?_
      rintro e r ⟨rfl,Q⟩;rw[V];have b:=Z (a.2.2.1.trans (Gr.refl _) Q);have u:Hid (∀g,(Value.slice a3 k a1).ownBlock=some g->χ g=.no):=Z (fun g e=>H.fresh (a.2.2.2.lt g e).1);have y:=Z (ak a.2.2.2 Q.nx.ch (fun g e q=>q (u g e)));have ck:=b.nx.ch.size;go_wp2_with (at_builtin;refine wpList_append_lies _ rfl _ _ _ rfl w.heap.size 39 c2 _ 1 8 underlying29 R bx c0 c1 rfl (by omega) _ k (pre.map (Value.int .u64)) rfl (y.alloc _) ⟨r.heap.size,0,none⟩ 1 1 [.int .u64 x] rfl rfl (World.news_of_block (cs:=#[.int .u64 x]) (t:=39) (fr:=(0,0)) (heap_alloc_new r _)) (by simp[Value.oneCell']) (by omega) (by unfold maxLen;omega) (by omega) (by simp;omega) (r.heap.size+1) (by simp) ?_)
      intro cb cap c8 bi ab d ci;have J:=ao ab;have U:=Z bi;have a0:Hid (dD χ L Y C K K w χ Y c8):=Z ⟨b.at_.rl (Ch.bK J) (fun g _ e=>u g e),⟨eX b.nx.ch y (Nat.le_refl _) J,b.nx.same⟩,b.yk⟩;go_wp2
      go_roundg (17-(k+1))
      case measure=>omega
      case rel=>exact⟨k+1,_,pre++[x],by omega,rfl,rfl,by rw[List.length_append,a.1];rfl,bO _,T,a0,by rw[List.map_append];exact U⟩
     ·obtain rfl:k=16:=by omega
      go_wp2
      refine bodyPost_ret (results_tmp3 rfl _ _ _) rfl ?_;rw[E];exact Fh a (Or.inl rfl)
    ·go_wp2_with fail
     refine bodyPost_ret (results_tmp3 rfl _ _ _) rfl ?_;rw[E];exact Fh a (Or.inr fun h=>by omega)
   ·go_wp2_with fail
    refine bodyPost_ret (results_tmp3 rfl _ _ _) rfl ?_;rw[E];exact Fh a (Or.inr fun h=>by omega)
theorem vA{B n:Nat}{v:Value}{xs:List Value}(w:World)(h:w.ownsRow B 39 1 v n xs):
 Calls prog 18 #[v] w (fun e w'=>e=.returned (.tuple #[])/\Ch (fun i=>v.ownBlock=some i) w w'):=by
 rcases h.2 with⟨rfl,rfl⟩|⟨g,N,cur,rfl,-,t,E,l,r,-⟩
 ·clear h
  go_wp2
  go_loopw [2] (fun s b=>s=.int .i64 0/\w=b) (fun _ _=>0)
  case atStart=>exact⟨rfl,rfl⟩
  case round=>
   obtain⟨rfl,rfl⟩:=hrel;go_wp2
   go_end0
   exact⟨rfl,Ch.refl _ _⟩
 have o:Hid (Row w g 39 cur.toList):=Z t;have m:Hid (cur.toList.length=N*1):=Z r;have l:N<=9223372036854775807:=l;go_wp2
 go_loopw [2] (fun s b=>∃k:Nat,k<=N/\s=.int .i64 k/\Ch (aH g) w b/\∃d,Row b g 39 d/\d.length=N*1) (fun s _=>N-(intOf s).toNat)
 case atStart=>exact⟨0,by omega,rfl,Ch.refl _ _,_,o,m⟩
 case round=>
  obtain⟨k,z,rfl,hb,d,c,x⟩:=hrel;have a:=Z (And.intro hb (And.intro c x));by_cases C:k<N
  ·have f:∀j,j<1->∃u,wr.cell? ⟨g,k*1+j,none⟩=some u:=fun j y=>by
    have c:=a.2.1;exact⟨_,c.cell (List.getElem?_eq_getElem (by rw[a.2.2];omega))⟩
   obtain⟨u0,y0⟩:=f 0 (by omega);rw[Nat.add_zero,Nat.mul_one]at y0;have p:∀j,wr.frozen? ⟨g,j,none⟩=false:=a.2.1.free;have f0:=p (k);have A:(k:Int)<N:=(by omega);have D:=a.2.1.lt;go_wp2
   go_roundw
   case rel=>exact⟨k+1,by omega,by go_num,a.1.only _ _,_,a.2.1.set _ _,by simp only[List.length_set];exact a.2.2⟩
   case measure=>simp[intOf];omega
  ·obtain rfl:k=N:=by omega
   go_wp2
   go_end0
   exact⟨rfl,a.1.mono (fun i (q:i=g)=>by rw[q];rfl)⟩
variable{T:TypeId}{z nb:Nat}{S:List hI}{ψ:Nat->a'}
structure Good(w1:World)(χ ψ:Nat->a')(sv:Value)(g:Nat):Prop where
 lo:w1.heap.size<=g
 a:χ g=.no
 b:ψ g=.no
 s:sv.ownBlock≠some g
theorem tT{mb:Nat}(h:MS w χ mb C K){g:Nat}(b:w.heap.size<=g):χ g=.no:=by
 cases a:χ g with
 |no=>rfl
 |_=>have:=h.small g (by rw[a];simp);omega
theorem gY.vB(h:gY w1 C nw mb nb sb sv S χ ψ K i w)(c:Ch (fun j=>χ j≠ .no) w w')(r:w'.ownsRow B T z v n xs)(d:w.heap.size<=B)(f:41≠T):∀g,v.ownBlock=some g->Good w1 χ ψ sv g:=fun g e=>
 have a:=Nat.le_trans d (r.lt g e).1
 ⟨Nat.le_trans h.a.ch.size a,tT h.a.ms a,tT h.b.ms a,fun b=>kH (ak h.a.row c (fun g e k=>k (h.a.vu g e).2)) r f b e⟩
theorem gY.wU{D:Nat->Prop}(h:gY w1 C nw mb nb sb sv S χ ψ K i w)(c:Ch D w w')(a:∀g,D g->Good w1 χ ψ sv g):gY w1 C nw mb nb sb sv S χ ψ K i w':=
 have f:∀{m:Nat} {b:Nat->a'},hE w1 C nw m sb sv S b K i w->(∀g,D g->b g=.no)->hE w1 C nw m sb sv S b K i w':=fun q k=>
  ⟨q.ms.rl c (fun j _ l=>k j l),q.inv,q.out,q.wl,q.rl,q.ch.fresh c (fun j l e=>by have:=(a j e).lo;omega),ak q.row c (fun g e d=>(a g d).s e),fun g e=>⟨Nat.lt_of_lt_of_le (q.vu g e).1 c.size,(q.vu g e).2⟩⟩
 ⟨f h.a (fun g d=>(a g d).a),f h.b (fun g d=>(a g d).b),h.ap⟩
structure Told(T:TypeId)(z:Nat)(v:Value)(n:Nat)(xs:List Value)(Tw:World->Prop)(G:Nat->Prop)(w':World):Prop where
 row:∃B,w'.ownsRow B T z v n xs
 tw:Tw w'
 vB:∀g,v.ownBlock=some g->G g
theorem gY.told(h:gY w1 C nw mb nb sb sv S χ ψ K i w)(c:Ch ag w w')(r:w'.ownsRow w.heap.size T z v n xs)(a:41≠T):Told T z v n xs (gY w1 C nw mb nb sb sv S χ ψ K i) (Good w1 χ ψ sv) w':=
 ⟨⟨_,r⟩,h.af c,h.vB c.af r (Nat.le_refl _) a⟩
theorem gY.vC(h:Told 39 1 v n xs (gY w1 C nw mb nb sb sv S χ ψ K i) (Good w1 χ ψ sv) w):
 Calls prog 18 #[v] w (fun e w'=>e=.returned (.tuple #[])/\gY w1 C nw mb nb sb sv S χ ψ K i w'):=by
 obtain⟨B,r⟩:=h.row;exact(vA w r).mono fun e w' ⟨a,b⟩=>⟨a,h.tw.wU b h.vB⟩
theorem gY.ring(h:gY w1 C nw mb nb sb sv S χ ψ K i w):Calls prog 19 #[(mb,0)] w (fun e w'=>∃v n xs,e=.returned v/\Told 39 1 v n xs (gY w1 C nw mb nb sb sv S χ ψ K i) (Good w1 χ ψ sv) w'):=by
 obtain⟨L,Y,rfl,m,-⟩:=h.a.ms;exact(mq m).mono fun e w' ⟨⟨v,a,b⟩,c⟩=>⟨v,_,_,a,h.told c b (by decide)⟩
theorem gY.Dq(h:gY w1 C nw mb nb sb sv S χ ψ K i w):Calls prog 20 #[(mb,0)] w (fun e w'=>∃v n xs,e=.returned v/\Told 39 1 v n xs (gY w1 C nw mb nb sb sv S χ ψ K i) (Good w1 χ ψ sv) w'):=by
 obtain⟨L,Y,rfl,m,-⟩:=h.a.ms;exact(rA m).mono fun e w' ⟨⟨v,a,b⟩,c⟩=>⟨v,_,_,a,h.told c b (by decide)⟩
theorem gY.waits(h:gY w1 C nw mb nb sb sv S χ ψ K i w)(d:i<=1000):Calls prog 17 #[(mb,0)] w (fun e w'=>∃v n xs,e=.returned v/\Told 52 4 v n xs (gY w1 C nw mb nb sb sv S χ ψ K i) (Good w1 χ ψ sv) w'):=by
 obtain⟨L,Y,rfl,m,-⟩:=h.a.ms;exact(y7 (Nat.le_trans h.a.inv.q.2 (by omega)) m).mono fun e w' ⟨⟨v,a,b⟩,c⟩=>⟨v,_,_,a,h.told c b (by decide)⟩
theorem gY.GA(h:gY w1 C nw mb nb sb sv S χ ψ K i w):Calls prog 21 #[(mb,0),.int .i64 0] w (fun e w'=>∃v n xs a b,e=.returned (.tuple #[.int .u64 a,.int .u64 b,v])/\Told 39 1 v n xs (gY w1 C nw mb nb sb sv S χ ψ K i) (Good w1 χ ψ sv) w'):=by
 obtain⟨L,Y,rfl,m,j⟩:=h.a.ms;refine(vz 0 m).mono fun e w' ⟨⟨v,f,d,c⟩⟩=>⟨v,_,_,_,_,f,⟨_,d⟩,⟨?_,hE.other h.b c.nx h.ap h.a.rl (fun g e=>(h.a.vu g e).2),h.ap⟩,h.vB c.nx.ch d (Nat.le_refl _) (by decide)⟩
 exact⟨⟨L,Y,rfl,c.at_,j⟩,h.a.inv,h.a.out,h.a.wl,h.a.rl,iA h.a.rl c.nx h.a.ch,ak h.a.row c.nx.ch (fun g e k=>k (h.a.vu g e).2),fun g e=>⟨Nat.lt_of_lt_of_le (h.a.vu g e).1 c.nx.ch.size,(h.a.vu g e).2⟩⟩
theorem gY.threads(h:gY w1 C nw mb nb sb sv S χ ψ K i w):Calls prog 15 #[(mb,0)] w (fun e w'=>∃(v:Value) (L:List iD),e=.returned v/\Told 48 7 v L.length (L.flatMap iD.cells) (gY w1 C nw mb nb sb sv S χ ψ K i) (Good w1 χ ψ sv) w'):=by
 obtain⟨L,Y,rfl,m,-⟩:=h.a.ms;exact(o8 m).mono fun e w' ⟨v,a,b,c⟩=>⟨v,_,a,h.told c b (by decide)⟩
theorem Mk.two{tt:Int}{a b:Nat}{dZ d:Nat->a'}{w2:World}(h:Mk w1 C nw.toNat tt.toNat [(a,dZ),(b,d)] w2)(g:1<=nw)(f:Inv 1 0 (hY C nw.toNat tt.toNat))(c:Ch ag w2 w){S:List hI}(r:w.ownsRow B 41 3 v S.length (S.flatMap mo))(e:w2.heap.size<=B):
 gY w1 C nw a b B v S dZ d (hY C nw.toNat tt.toNat) 0 w:=by
 have p:=h.ap;simp only[List.pairwise_cons,List.mem_cons,List.not_mem_nil,or_false,forall_eq_or_imp,forall_eq]at p;exact⟨h.al g f c r e (x:=(a,dZ)) (by simp),h.al g f c r e (x:=(b,d)) (by simp),p.1⟩
theorem vD{L:cU}{Y:Var}(h:ae w χ L Y C K){id:Int}(b:aw K.ai id=none):Calls prog 16 #[(L.mb,0),.int .u64 id] w (fun e w'=>e=.returned (.slice none 0 0)/\w=w'):=by
 have c:=h.hN;have a:=h.look id;rw[b]at a;dsimp only[Option.map_none,Option.getD_none]at a;clear h b;go_wp2
 go_ret;exact⟨rfl,rfl⟩
theorem gY.hV(h:gY w1 C nw mb nb sb sv S χ ψ K i w)(id:Int):Calls prog 16 #[(mb,0),.int .u64 id] w (fun e w'=>∃v n xs,e=.returned v/\Told 3 1 v n xs (gY w1 C nw mb nb sb sv S χ ψ K i) (Good w1 χ ψ sv) w'/\Ch ag w w'):=by
 obtain⟨L,Y,rfl,m,-⟩:=h.a.ms;cases c:aw K.ai id with
 |none=>exact(vD m c).mono fun e w' ⟨b,a⟩=>⟨_,0,[],b,h.told (a▸Ch.refl _ _) (World.ownsRow_nil _ _ _ _) (by decide),a▸Ch.refl _ _⟩
 |some t=>
  have ok:=(h.a.inv.de c).l;exact(tR m c ⟨ok.n0,Nat.le_trans ok.n8 (by omega)⟩).mono fun e w' ⟨⟨v,b,a⟩,d⟩=>⟨v,_,_,b,h.told d a (by decide),d⟩
theorem BE(P:fM)(k5:jI P)(p:Value)(wk ce:Int)(l:List Int)(v:Value)(w:World)(g4:gd w w.heap.size p P)(ls:ku w w.heap.size v 1 (fun x=>[.int .u64 x]) l)(hd:∀x∈l,aK x)
 (lm:w.cell? (0,0)=some (.iface 390 (.agg #[(4,85)]))):
 Calls prog 3 #[.agg #[wk,ce],p,v] w (ET w):=by
 obtain⟨C,ok,nw,tt,lo⟩:=Fc P k5 p wk ce w g4 lm;have t:=Z lo;obtain⟨a0,cf,a1,ch,a2,ci,a3,ck,rfl⟩:=vt g4;obtain⟨c8,k1⟩:=nm P.cT;obtain⟨c9,k2⟩:=nm P.first.length;obtain⟨cb,k3⟩:=nm P.others.length;obtain⟨cd,k4⟩:=nm P.once.length;obtain⟨cQ,md⟩:=nm P.mZ;rw[k1,k2,k3,k4,md]at t⊢;have hB:=Z ls;have no:=Z hd;obtain⟨ob,og,rfl,-,-⟩:=ls;obtain⟨ap,g1⟩:=nm w.heap.size;clear g4 lm hd lo k1 k2 k3 k4 md k5;obtain⟨N,k0⟩:=nm l.length;rw[k0]at hB⊢;clear k0;go_in
 go_wp2
 obtain⟨w1,bw⟩:=nm ((w.alloc (.cells #[wk,ce] 23)).alloc (.cells #[.slice a0 c8 cf,.slice a1 c9 ch,.slice a2 cb ci,.slice a3 cd ck,.bool cQ] 28));have a9:Hid (Ch ag w w1):=Z (by rw[<-bw];exact((Ch.refl _ _).alloc _).alloc _);have ni:Hid (Row w1 ap 23 [wk,ce]):=Z (by rw[<-bw,<-g1];exact(Row.new w _ _).alloc _);have i0:Hid (Row w1 (ap+1) 28 [.slice a0 c8 cf,.slice a1 c9 ch,.slice a2 cb ci,.slice a3 cd ck,.bool cQ]):=Z (by
  rw[<-bw,<-g1];have r:=Row.new (w.alloc (.cells #[wk,ce] 23)) #[.slice a0 c8 cf,.slice a1 c9 ch,.slice a2 cb ci,.slice a3 cd ck,.bool cQ] 28;rw[World.size_alloc]at r;exact r)
 rw[bw];clear bw g1;obtain⟨av,ll⟩:=nm (ap+1);rw[ll]at i0⊢;clear ll;have ad:Hid (∀W,Ch ag w1 W->W.cell? (ap,0)=some (.int .i64 wk)/\W.cell? (ap,1)=some (.int .i64 ce)/\W.cell? (av,0)=some (.slice a0 c8 cf)/\W.cell? (av,1)=some (.slice a1 c9 ch)/\W.cell? (av,2)=some (.slice a2 cb ci)/\W.cell? (av,3)=some (.slice a3 cd ck)/\W.cell? (av,4)=some (.bool cQ)):=Z (fun W c=>by
  have r:=ni.ch c (fun h=>h);have q:=i0.ch c (fun h=>h);exact⟨r.cell rfl,r.cell rfl,q.cell rfl,q.cell rfl,q.cell rfl,q.cell rfl,q.cell rfl⟩)
 obtain⟨t0,t1,t2,t3,t4,t5,t6⟩:=ad _ (Ch.refl _ _);cases ok with
 |false=>
  go_cut [7,8] (fun x y wc=>x=.pointer none/\y=.pointer none/\Ch ag w1 wc)
  case first=>
   have F:Hid (Ch ag w1 w1):=Z (Ch.refl _ _);go_region_held3 (ad _ (Ch.refl _ _)) (go_keep) (first|(go_at_call 9;refine(t.made _ (a9.trans (F.trans ay))).mono ?_;intro e qc I;obtain⟨rfl,H⟩:=I.no;have H:=F.trans (Ch.trans ay H);have F:=Z H;obtain⟨t0,t1,t2,t3,t4,t5,t6⟩:=ad _ H;clear I H))
   all_goals
    go_wp2
    go_meet
    exact⟨rfl,rfl,F⟩
  case rest=>
   obtain⟨w2,rfl⟩:∃x,x=wc:=⟨_,rfl⟩;obtain⟨rfl,rfl,kT⟩:=hcut;have c2:=Z (a9.trans kT);clear kT t0 t1 t2 t3 t4 t5 t6;go_wp2_with fail
   with_reducible refine(t.out.HB _ c2.out).mono ?_
   rintro e w3 ⟨rfl,M⟩;have n8:=Z (c2.trans M);clear M;go_wp2
   go_ret;exact⟨rfl,n8⟩
 |true=>
  have hm:=Z (t.ck rfl).1;go_cut [7,8] (fun x y wc=>∃s A dZ gt,x=.pointer (some ⟨s,0,none⟩)/\y=.pointer (some ⟨A,0,none⟩)/\Mk w1 C nw.toNat tt.toNat [(s,dZ),(A,gt)] wc)
  case first=>
   have F:Hid (Mk w1 C nw.toNat tt.toNat [] w1):=Z (Mk.nil (Ch.refl _ _));go_region_held3 (ad _ (Ch.refl _ _)) (go_keep) (first|(go_at_call 9;refine(t.made _ (a9.trans (F.ch.trans ay))).mono ?_;intro e qc I;obtain⟨s,dZ,rfl,H⟩:=F.add ay I;have F:=Z H;obtain⟨t0,t1,t2,t3,t4,t5,t6⟩:=ad _ H.ch;clear I H))
   all_goals
    go_wp2
    go_meet
    exact⟨_,_,_,_,rfl,rfl,F⟩
  case rest=>
   obtain⟨w2,rfl⟩:∃x,x=wc:=⟨_,rfl⟩;obtain⟨s,A,dZ,gt,rfl,rfl,I⟩:=hcut;have hF:=Z I;have c2:=Z (a9.trans I.ch);clear I t2 t3 t4 t5 t6;obtain⟨t0,t1,-⟩:=ad _ hF.ch;have ov:∀W:World,(Instr.field 35 (.agg #[nw,tt]) 0).run prog W=.ok (.int .i64 nw) W:=(fun W=>by kernel_rfl);go_wp2_with fail
   with_reducible refine(t.out.cf _).mono ?_
   rintro e w3 ⟨rfl,M⟩;have cS:Hid (Ch ag w2 w3):=Z M;clear M t0 t1;go_wp2_with fail
   have i1:Hid (Calls prog 11 #[nw,.slice ob N og,.int .i64 300] w3 (BB nw 300 w3)):=Z (vx nw t.Hm.1 t.Hm.2.1 300 (by omega) l no _ w3 (hB.ch (c2.trans cS)));with_reducible refine i1.out.mono ?_
   rintro e w4 ⟨⟨S,sv,rfl,fb,kb,kd⟩,bi⟩;obtain⟨mC,O,rfl⟩:=au fb;have na:=Z (cS.trans bi);obtain⟨o,fd⟩:=nm S.length;have ab:=Z (And.intro kb (And.intro kd fd));have es:=Z (hF.two t.Hm.1 (t.ck rfl).2 na fb cS.size);rw[fd]at es⊢;clear fb kb kd bi i1 fd ov;obtain⟨B,cl⟩:=nm w3.heap.size;rw[cl]at es;clear cl;go_upto_block 0 with fail
   go_cut [] (fun wc=>∃(K:KS) (i:Nat) (χ ψ:Nat->a'),i<=300/\gY w1 C nw s A B (.slice mC o O) S χ ψ K i wc)
   case first=>
    go_wp2
    go_loopw [10] (fun u wr=>∃(i:Nat) (K:KS) (χ ψ:Nat->a'),i<=o/\u=.int .i64 i/\gY w1 C nw s A B (.slice mC o O) S χ ψ K i wr) (fun u _=>o-(intOf u).toNat)
    case atStart=>exact⟨0,_,dZ,gt,by omega,rfl,es⟩
    case round=>
     obtain⟨i,K,χ,ψ,p1,rfl,mk⟩:=hrel;have en:=Z mk;clear mk;by_cases sz:i<o
     ·have s7:i<=300:=by have:=ab.1;have:=ab.2.2;omega
      obtain⟨x,cs⟩:∃x,S[i]?=some x:=⟨_,List.getElem?_eq_getElem (by have:=ab.2.2;omega)⟩;have nC:=Z cs;have i5:=Z (ab.2.1 x (List.mem_of_getElem? cs));obtain⟨g,cap,G,y0,gr,gs⟩:=en.a.Ea cs;injection G with R U V
      subst R;have s8:(i:Int)<o:=(by omega);have s9:(0:Int)<=i:=(by omega);have hn:=Z (gY.Gw hm en (by omega) x i5.1 (Ch.refl _ _));clear cs U V;go_wp2_with fail
      with_reducible refine hn.out.mono ?_
      rintro e vc ⟨v0,a4,rfl,g3,li,fn,kw,kf⟩;have ec:=Z (And.intro g3 li);obtain⟨s0,s6,rfl⟩:=au g3;obtain⟨y0,gr,gs⟩:=fn.Hp nC;have hu:=Z (gY.Gx hm fn kw kf (by omega) x i5.1 rfl (Ch.refl _ _));clear g3 li fn kw kf hn;go_wp2_with fail
      with_reducible refine hu.out.mono ?_
      rintro e ql ⟨v3,a5,rfl,mc,mp,le⟩;have eC:=Z mp;have hv:=Z (Dc _ ql (ak ec.1 le (fun g e k=>k (ec.2 g e).2)) mc);clear mc le mp y0 gr gs hu ec;obtain⟨K',jp⟩:=nm (ht C K x.kind x.wk x.draw).2;rw[jp]at eC;clear jp;go_wp2_with fail
      with_reducible refine hv.out.mono ?_
      rintro e v4 ⟨rfl,l0⟩;have i2:=Z (eC.af l0);clear l0 hv eC;have i3:=Z i2.threads;go_wp2_with fail
      with_reducible refine i3.out.mono ?_
      rintro e mL ⟨v11,i8,rfl,g6⟩;have al:=Z g6;obtain⟨r6,ge⟩:=g6.row;have c4:=Z ge;obtain⟨rt,s3,rfl⟩:=au ge;obtain⟨E,eW⟩:=nm i8.length;have c3:=Z eW;obtain⟨vh,rfl⟩:∃x,x=wr:=⟨_,rfl⟩;rw[eW]at al c4⊢;clear g6 ge i3 i2 eW;go_upto_block 2 with fail
      go_cut [] (fun wc=>gY w1 C nw s A B (.slice (some ⟨g,0,none⟩) o O) S a4 a5 K' (i+1) wc)
      case first=>
       rcases Nat.eq_zero_or_pos E with G|G
       ·subst G
        go_wp2
        go_loopw [14] (fun u d=>u=.int .i64 0/\mL=d) (fun _ _=>0)
        case atStart=>exact⟨rfl,rfl⟩
        case round=>
         obtain⟨rfl,rfl⟩:=hrel;go_wp2
         go_meet
         exact al.tw
       ·have p8:=jK c4
        obtain⟨X,th,tg,on,-,-,-,mA,pm⟩:=aE c4 G;injection on with R U V
        subst R;have nq:Hid (∃D,Row mL X 48 D/\E*7<=D.length/\∀q,q<E->∃x,D[q*7]?=some (.int .u64 x)):=Z ⟨_,mA,by rw[List.length_append,aU (enc:=iD.cells) (k:=7) (fun _=>rfl),c3];omega,fun q bv=>by
         obtain⟨y,pk⟩:∃y,i8[q]?=some y:=⟨_,List.getElem?_eq_getElem (by rw[c3];exact bv)⟩;exact⟨y.id,by rw[List.getElem?_append_left (by rw[aU (enc:=iD.cells) (k:=7) (fun _=>rfl),c3];omega)];exact bJ (enc:=iD.cells) (k:=7) (fun _=>rfl) pk (j:=0) (by omega)⟩⟩
        clear mA U V pm;go_wp2
        go_loopw [14] (fun u d=>∃j:Nat,j<=E/\u=.int .i64 j/\gY w1 C nw s A B (.slice (some ⟨g,0,none⟩) o O) S a4 a5 K' (i+1) d/\∃D,Row d X 48 D/\E*7<=D.length/\∀q,q<E->∃x,D[q*7]?=some (.int .u64 x)) (fun u _=>E-(intOf u).toNat)
        case atStart=>exact⟨0,by omega,rfl,al.tw,nq⟩
        case round=>
         obtain⟨j,p2,rfl,cq,D,cC,g7,cL⟩:=hrel;have nx:=Z cq;have c7:=Z (And.intro cC (And.intro g7 cL));by_cases p3:j<E
         ·obtain⟨id,hid⟩:=cL j p3
          have x0:=cC.cell hid;have sl:(j:Int)<E:=(by omega);have st:(0:Int)<=j:=(by omega);have hw:=Z (cq.hV id);clear cq cC g7 cL hid;go_wp2_with fail
          with_reducible refine hw.out.mono ?_
          rintro e mS ⟨tw,J,qm,rfl,g2,l1⟩;have eA:=Z g2;obtain⟨rb,gk⟩:=g2.row;have et:=Z gk;have i6:=Z (c7.1.ch l1 (fun e=>e));obtain⟨rx,s4,rfl⟩:=au gk;obtain⟨vk,rfl⟩:∃x,x=wr:=⟨_,rfl⟩;clear x0 hw g2 l1 gk;go_upto_block 4 with fail
          go_cut [] (fun wc=>gY w1 C nw s A B (.slice (some ⟨g,0,none⟩) o O) S a4 a5 K' (i+1) wc/\Row wc X 48 D)
          case first=>
           rcases Nat.eq_zero_or_pos J with eL|eL
           ·subst eL
            go_wp2
            go_loopw [16] (fun u d=>u=.int .i64 0/\mS=d) (fun _ _=>0)
            case atStart=>exact⟨rfl,rfl⟩
            case round=>
             obtain⟨rfl,rfl⟩:=hrel;go_wp2
             go_meet
             exact⟨eA.tw,i6⟩
           ·have tb:=jK et
            obtain⟨gf,pl,g9,eS,-,-,-,c1,gc⟩:=aE et eL;injection eS with R U V
            subst R;have ex:=Z c1;have dN:Hid (J<=(qm++g9).length):=Z (by rw[List.length_append];have:=et.1;omega);have dC:=Z (eA.vB gf rfl);clear c1 gc U V;go_wp2
            go_loopw [16] (fun u d=>∃q:Nat,q<=J/\u=.int .i64 q/\gY w1 C nw s A B (.slice (some ⟨g,0,none⟩) o O) S a4 a5 K' (i+1) d/\Row d X 48 D/\∃Q,Row d gf 3 Q/\J<=Q.length) (fun u _=>J-(intOf u).toNat)
            case atStart=>exact⟨0,by omega,rfl,eA.tw,i6,_,ex,dN⟩
            case round=>
             obtain⟨q,bv,rfl,Y,g8,Q,b,c0⟩:=hrel;have m:=Z (And.intro Y (And.intro g8 (And.intro b c0)));by_cases pi:q<J
             ·obtain⟨z,bx⟩:∃z,Q[q]?=some z:=⟨_,List.getElem?_eq_getElem (by omega)⟩
              have r5:=b.cell bx;have f0:=b.free q;have pa:(q:Int)<J:=(by omega);have pc:(0:Int)<=q:=(by omega);clear Y g8 b c0 bx;go_wp2
              go_roundw
              case rel=>exact⟨q+1,by omega,by go_num,m.1.wU ((Ch.refl (aH gf) _).only _ _) (fun j e=>by have e:j=gf:=e;rw[e];exact dC),m.2.1.other (m.2.1.ne m.2.2.1 (by decide)) _,_,m.2.2.1.set _ _,by rw[List.length_set];exact m.2.2.2⟩
              case measure=>simp[intOf];omega
             ·obtain rfl:q=J:=by omega
              clear Y g8 b;go_wp2
              go_meet
              exact⟨m.1,m.2.1⟩
          case rest=>
           obtain⟨pp,rfl⟩:∃x,x=wc:=⟨_,rfl⟩;obtain⟨mn,cA⟩:=hcut;have hl:=Z (And.intro mn cA);obtain⟨z,bx⟩:∃z,D[j*7+1]?=some z:=⟨_,List.getElem?_eq_getElem (by have:=c7.2.1;omega)⟩;have r5:=cA.cell bx;have f0:=cA.free (j*7+1);clear mn cA bx;go_wp2
           go_roundw
           case rel=>exact⟨j+1,by omega,by go_num,hl.1.wU ((Ch.refl (aH X) _).only _ _) (fun j e=>by have e:j=X:=e;rw[e];exact al.vB X rfl),_,hl.2.set _ _,by rw[List.length_set];exact c7.2.1,fun q bv=>by rw[List.getElem?_set_ne (by omega)];exact c7.2.2 q bv⟩
           case measure=>simp[intOf];omega
         ·obtain rfl:j=E:=by omega
          clear cq cC g7 cL;go_wp2
          go_meet
          exact nx
      case rest=>
       obtain⟨mW,rfl⟩:∃x,x=wc:=⟨_,rfl⟩;have i4:=Z (hcut.waits (by omega));clear hcut al c4 c3;go_wp2_with fail
       with_reducible refine i4.out.mono ?_
       rintro e n0 ⟨ty,L,qr,rfl,g5⟩;have c6:=Z g5;obtain⟨rc,go⟩:=g5.row;have c5:=Z go;obtain⟨r',s5,rfl⟩:=au go;clear g5 go i4;go_upto_block 6 with fail
       go_cut [] (fun wc=>gY w1 C nw s A B (.slice (some ⟨g,0,none⟩) o O) S a4 a5 K' (i+1) wc)
       case first=>
        rcases Nat.eq_zero_or_pos L with G|G
        ·subst G
         go_wp2
         go_loopw [18] (fun u d=>u=.int .i64 0/\n0=d) (fun _ _=>0)
         case atStart=>exact⟨rfl,rfl⟩
         case round=>
          obtain⟨rfl,rfl⟩:=hrel;go_wp2
          go_meet
          exact c6.tw
        ·have p8:=jK c5
         obtain⟨gf,pl,g9,eS,-,-,-,c1,gc⟩:=aE c5 G;injection eS with R U V
         subst R;have ex:=Z c1;have dN:Hid (L*4<=(qr++g9).length):=Z (by rw[List.length_append];have:=c5.1;omega);have dC:=Z (c6.vB gf rfl);clear c1 gc U V;go_wp2
         go_loopw [18] (fun u d=>∃q:Nat,q<=L/\u=.int .i64 q/\gY w1 C nw s A B (.slice (some ⟨g,0,none⟩) o O) S a4 a5 K' (i+1) d/\∃Q,Row d gf 52 Q/\L*4<=Q.length) (fun u _=>L-(intOf u).toNat)
         case atStart=>exact⟨0,by omega,rfl,c6.tw,_,ex,dN⟩
         case round=>
          obtain⟨q,bv,rfl,Y,Q,b,c0⟩:=hrel;have m:=Z (And.intro Y (And.intro b c0));by_cases pi:q<L
          ·have f:∀j,j<4->∃u,wr.cell? ⟨gf,q*4+j,none⟩=some u:=fun j p2=>⟨_,b.cell (List.getElem?_eq_getElem (by omega))⟩
           obtain⟨u0,y0⟩:=f 0 (by omega);obtain⟨u1,gr⟩:=f 1 (by omega);obtain⟨u2,gs⟩:=f 2 (by omega);obtain⟨u3,v'⟩:=f 3 (by omega);rw[Nat.add_zero]at y0;have f0:=b.free (q*4);have f1:=b.free (q*4+1);have f2:=b.free (q*4+2);have f3:=b.free (q*4+3);have pa:(q:Int)<L:=(by omega);have pc:(0:Int)<=q:=(by omega);have sC:=b.lt;clear Y b c0 f;go_wp2
           go_roundw
           case rel=>exact⟨q+1,by omega,by go_num,m.1.wU (((((Ch.refl (aH gf) _).only _ _).only _ _).only _ _).only _ _) (fun j e=>by have e:j=gf:=e;rw[e];exact dC),_,(((m.2.1.set _ _).set _ _).set _ _).set _ _,by simp only[List.length_set];exact m.2.2⟩
           case measure=>simp[intOf];omega
          ·obtain rfl:q=L:=by omega
           clear Y b;go_wp2
           go_meet
           exact m.1
       case rest=>
        obtain⟨pu,rfl⟩:∃x,x=wc:=⟨_,rfl⟩;have a:=Z hcut.ring;clear hcut c6 c5;go_wp2_with fail
        with_reducible refine a.out.mono ?_
        rintro e n1 ⟨un,tl,vl,rfl,i9⟩;have a:=Z (gY.vC i9);clear i9;go_wp2_with fail
        with_reducible refine a.out.mono ?_
        rintro e pv ⟨rfl,ih⟩;have a:=Z ih.Dq;clear ih;go_wp2_with fail
        with_reducible refine a.out.mono ?_
        rintro e v5 ⟨v20,tm,vn,rfl,ii⟩;have a:=Z (gY.vC ii);clear ii;go_wp2_with fail
        with_reducible refine a.out.mono ?_
        rintro e v6 ⟨rfl,io⟩;have a:=Z io.GA;clear io;go_wp2_with fail
        with_reducible refine a.out.mono ?_
        rintro e v9 ⟨up,tr,vw,s1,s2,rfl,ip⟩;have a:=Z (gY.vC ip);clear ip;go_wp2_with fail
        with_reducible refine a.out.mono ?_
        rintro e qb ⟨rfl,it⟩;have ne:=Z it;clear it a;go_wp2
        go_roundw
        case rel=>exact⟨i+1,K',a4,a5,by omega,by go_num,ne⟩
        case measure=>simp[intOf];omega
     ·obtain rfl:i=o:=by omega
      go_wp2
      go_meet
      exact⟨K,i,χ,ψ,by have:=ab.1;have:=ab.2.2;omega,en⟩
   case rest=>
    obtain⟨mS,rfl⟩:∃x,x=wc:=⟨_,rfl⟩;obtain⟨K,i,χ,ψ,p1,cm⟩:=hcut;obtain⟨rd,rg,os,ms,-⟩:=cm.a.ms;obtain⟨re,ro,cl,mv,-⟩:=cm.b.ms;subst os cl;have i7:=Z ms;have MB:=Z mv;have n2:=Z cm.a.ch;clear cm ms mv;have a:=Z (o8 i7);go_wp2_with fail
    with_reducible refine a.out.mono ?_
    rintro e pp ⟨v1,rfl,lt,fr⟩;have am:=Z lt;have hb:=Z fr;have a:=Z (o8 (MB.af fr));clear lt fr;go_wp2_with fail
    with_reducible refine a.out.mono ?_
    rintro e mW ⟨v2,rfl,lv,fz⟩;have he:=Z (hb.trans fz);have a:=Z (tQ _ mW (ak am fz (fun _ _ e=>e)) lv);clear lv fz hb am;go_wp2_with fail
    with_reducible refine a.out.mono ?_
    rintro e n0 ⟨rfl,M⟩;have cW:=Z (he.trans M);have a:=Z (mq (i7.af cW));clear M he;go_wp2_with fail
    with_reducible refine a.out.mono ?_
    rintro e pu ⟨⟨us,rfl,lw⟩,bi⟩;have dr:=Z (cW.trans bi);have am:=Z lw;have a:=Z (mq (MB.af dr));clear lw bi cW;go_wp2_with fail
    with_reducible refine a.out.mono ?_
    rintro e n1 ⟨⟨ut,rfl,l'⟩,g0⟩;have hf:=Z (dr.trans g0);have a:=Z (y6 _ n1 (ak am g0 (fun _ _ e=>e)) l');clear l' g0 dr am;go_wp2_with fail
    with_reducible refine a.out.mono ?_
    rintro e pv ⟨rfl,lc⟩;have hi:=Z (n2.trans (hf.trans lc));clear lc hf;go_wp2_with fail
    with_reducible refine(t.out.HB _ (a9.out.trans hi.out)).mono ?_
    rintro e qb ⟨rfl,lb⟩;have nd:=Z (a9.trans (hi.trans lb));clear lb;go_wp2
    go_ret;exact⟨rfl,nd⟩
