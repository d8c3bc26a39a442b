import Derived.Deep.RegionWith
import Derived.Deep.RegionHeldLaw
import Derived.Deep.RegionLawGrows
import Derived.Test.YtlihkblppjgebaaGreatDoorZAk
import Derived.Test.YtlihkblppjgebaaGreatDoorZAo
set_option linter.all false
set_option maxRecDepth 100000
set_option maxHeartbeats 0
namespace Go.Proofs.YtlihkblppjgebaaGreatDoor
open Go.RowKit Go.Proofs.Tryz
variable{l:List be}{W w:World}{b k:Nat}{t:TypeId}{en na wi:Int}
theorem E1:(prog.info? 120).map (fun i=>(i.zero,i.size,i.bytes))=some (some (.agg (#[.int .u64 0,.int .u64 0,.bool false,.int .i64 0,.int .i64 0]++Array.replicate 32 (.int .u64 0)++#[.slice none 0 0])),38,320):=by kernel_rfl
theorem jX{loop:Int}{calls:List bB}(h:fG l loop calls=true):0<l.length/\l.length<=2048:=by
 unfold fG jw at h;simp only[Bool.and_eq_true,decide_eq_true_eq]at h;have a:=h.1.1.1;have c:=h.1.1.2.1;omega
def aC.zero:aC:=⟨0,0,false,0,⟨0,DE,[]⟩⟩
theorem tz:(prog.info? 184).map (fun i=>(i.zero,i.size,i.bytes))=some (some (.agg #[.int .i64 0,.int .i64 0,.int .i64 0,.int .i64 0,.int .u64 0,.int .i64 0,.int .i64 0]),7,56):=by kernel_rfl
theorem A3:(prog.info? 158).map (fun i=>(i.zero,i.size,i.bytes))=some (some (.agg #[.int .i64 0,.int .i64 0,.int .i64 0,.int .i64 0,.int .i64 0,.int .i64 0]),6,48):=by kernel_rfl
theorem ri{g:Nat}{L:List Value}(h:∀(j:Nat) (u:Value),L[j]?=some u->W.cell? ⟨g,j,none⟩=some u):∀(j:Nat) (u:Value),L[j]?=some u->W.cell? ((⟨g,0,none⟩:Addr).add j)=some u:=fun j u c=>by
 have a:(⟨g,0,none⟩:Addr).add j=⟨g,j,none⟩:=by unfold Addr.add;split<;>simp_all
 rw[a];exact h j u c
theorem jF(l:List be):∀u∈b4 l,u.oneCell'=true:=fun u c=>by
 obtain⟨X,_,a⟩:=List.mem_flatMap.1 c;have:u∈[Value.int .i64 X.op,X.a,X.b,X.c,.int .u64 X.v,X.m,X.wh]:=a;simp only[List.mem_cons,List.not_mem_nil,or_false]at this;rcases this with rfl|rfl|rfl|rfl|rfl|rfl|rfl<;>rfl
theorem A4(l:List bB):∀u∈l.flatMap bB.cells,u.oneCell'=true:=fun u c=>by
 obtain⟨X,_,a⟩:=List.mem_flatMap.1 c;simp only[bB.cells,List.mem_cons,List.not_mem_nil,or_false]at a;rcases a with rfl|rfl|rfl|rfl|rfl|rfl<;>rfl
theorem lr(l:List bB):(l.flatMap bB.cells).length=l.length*6:=by
 rw[List.length_flatMap];simp only[bB.len];rw[List.map_const',List.sum_replicate_nat]
theorem m7{P:Program}{ops:Array Oper}{o:Oper}{a:Act}{K:Act->World->Prop}{Q:Exit->Act->World->Prop}{E:Prop}
 (h:o.guard=none) (s x:Operand) (t:TypeId) (m:o.op=Op.call {callee:=Callee.builtin Builtin.append,args:=#[s,x],argTypes:=#[t,t]})
 (e:TypeId) (i:TypeInfo) (d:P.underlying t=some (.slice e)) (f:P.info? e=some i) (c:Option Addr) (n cap:Nat) (q:a.eval s=.slice c n cap) (j:n<=cap) (u:a.eval x=.slice none 0 0)
 (g:∀v' w',v'=.slice c n cap->w'=w->K (a.put o.dst v') w'):
 if Region.wanted o (yielded ops a.tmps)=true then Oper.wp P o a w K Q else E:=by
 have r:Region.wanted o (yielded ops a.tmps)=true:=by simp[Region.wanted,h]
 rw[if_pos r];have p:(Builtin.append_ #[t,t] o.type #[.slice c n cap,.slice none 0 0]).run P w=.ok (.slice c n cap) w:=by
  simp[Builtin.append_,run_underlying d,sizeOf,typeInfo,f,Builtin.lenOf,Builtin.firstCells,j,storeCells];cases c<;>rfl
 unfold Oper.wp;simp[execOp,m,resolve,invoke,builtin,q,u,p,Result.andThen];exact g _ _ rfl rfl
def A5(w:World)(t:TypeId)(n:Nat)(xs:List Value)(B c cap:Nat)(wc:World):Prop:=(∃a,Row wc c t (xs++a))/\n<=cap/\B<=c
def Hf(mb:Nat)(post:List Value)(rest:List Value)(loop:Int)(l:List be)(calls:List bB)(c a:Nat)(w wc:World):Prop:=
 ∃d f e g,NM wc mb ([.slice (some ⟨d,0,none⟩) c f,.int .i64 loop,.slice (some ⟨e,0,none⟩) a g]++rest) (List.replicate 1000 0) post/\A5 w 184 c (b4 l) w.heap.size d f wc/\A5 w 158 a (calls.flatMap bB.cells) w.heap.size e g wc/\Ch (aH mb) w wc
def rj(n:Nat)(w:World)(p:Value)(wc:World):Prop:=
 ∃mb tm wb a e c d,p=.pointer (some ⟨mb,0,none⟩)/\NM wc mb [.slice none 0 0,.int .i64 0,.slice none 0 0,.slice none 0 0,.int .i64 0,.int .i64 0,.int .i64 0] (List.replicate 1000 0)
  [.pointer none,.pointer none,bk a,.pointer none,.pointer none,.pointer none,.pointer none,.map (some tm),.slice (some ⟨wb,0,none⟩) n n,.int .i64 0,.int .i64 0,.int .i64 0,.int .u64 0,.slice none 0 0]/\
  bS (α:=Nat) wc tm .u64 bk []/\Row wc wb 120 ((List.replicate n aC.zero).flatMap fun x=>x.cells (.slice none 0 0))/\aX wc a e c d (.slice none 0 0) aN.new/\
  (w.heap.size<=mb/\w.heap.size<=tm/\w.heap.size<=wb/\w.heap.size<=a/\w.heap.size<=e/\w.heap.size<=c/\w.heap.size<=d)/\tm≠c/\tm≠d/\Ch ag w wc
theorem A6:Tryz.zeroCells113.toList=[.slice none 0 0,.int .i64 0,.slice none 0 0,.slice none 0 0,.int .i64 0,.int .i64 0,.int .i64 0]++((List.replicate 1000 (0:Int)).map (Value.int .i64)++[.pointer none,.pointer none,.pointer none,.pointer none,.pointer none,.pointer none,.pointer none,.map none,.slice none 0 0,.int .i64 0,.int .i64 0,.int .i64 0,.int .u64 0,.slice none 0 0]):=by kernel_rfl
theorem bS.A7{α:Type}{q:IntKind}{enc:α->Value}{l:List (Int×α)}(h:bS w b q enc l):bS w.drew b q enc l:=h
theorem mf(W:World)(a:W.heap.size=k):bS (α:=Nat) (W.alloc (.map #[] 0)) k .u64 bk []:=⟨#[],0,by rw[<-a];exact heap_alloc_new W _,rfl⟩
theorem iW(W:World)(a:W.heap.size=k){cs:Array Value}{l:List Value}(h:cs.toList=l):Row (W.alloc (.cells cs t)) k t l:=by rw[<-a,<-h];exact Row.new W cs t
theorem A8(pre:List Value)(rows:List Int)(post:List Value)(j:Nat)(v:Value)(a:pre.length=7)(c:rows.length=1000):(pre++(rows.map (Value.int .i64)++post)).set (1007+j) v=pre++(rows.map (Value.int .i64)++post.set j v):=by
 rw[List.set_append_right _ _ (by rw[a];omega),a,List.set_append_right _ _ (by rw[List.length_map,c];omega),List.length_map,c,show 1007+j-7-1000=j by omega]
theorem rj.of{n:Nat}{a:World}{tm wb e i f h:Nat}(q:a.heap.size=k)(j:bS (α:=Nat) a tm .u64 bk [])(m:Row a wb 120 ((List.replicate n aC.zero).flatMap fun x=>x.cells (.slice none 0 0)))
 (o:aX a e i f h (.slice none 0 0) aN.new) (d:w.heap.size<=tm/\w.heap.size<=wb/\w.heap.size<=e/\w.heap.size<=i/\w.heap.size<=f/\w.heap.size<=h) (r:tm≠f) (s:tm≠h) (c:Ch ag w a):
 rj n w (.pointer (some (k,0))) (a.alloc (Obj.cells (((Tryz.zeroCells113.setIfInBounds 1014 (.map (some tm))).setIfInBounds 1015 (.slice (some (wb,0)) n n)).setIfInBounds 1009 (.pointer (some (e,0)))) 113)):=by
 subst q;refine⟨a.heap.size,tm,wb,e,i,f,h,rfl,⟨?_,rfl,by rw[List.length_replicate]⟩,j.alloc _,m.alloc _,o.ch (c:=(Ch.refl (fun _=>False) a).alloc _) id id id id (fun g p=>by cases p),⟨c.size,d.1,d.2.1,d.2.2.1,d.2.2.2.1,d.2.2.2.2.1,d.2.2.2.2.2⟩,r,s,c.alloc _⟩;have:=Row.new a (((Tryz.zeroCells113.setIfInBounds 1014 (.map (some tm))).setIfInBounds 1015 (.slice (some (wb,0)) n n)).setIfInBounds 1009 (.pointer (some (e,0)))) 113;rw[Array.toList_setIfInBounds,Array.toList_setIfInBounds,Array.toList_setIfInBounds,A6,show 1014=1007+7 from rfl,show 1015=1007+8 from rfl,show 1009=1007+2 from rfl,A8 _ _ _ _ _ rfl (List.length_replicate),A8 _ _ _ _ _ rfl (List.length_replicate),A8 _ _ _ _ _ rfl (List.length_replicate)]at this;exact this
def fJ(l:List bB):Nat->List Int
 |0=>List.replicate 1000 0
 |k+1=>(fJ l k).set ((l.getD k default).num.toNat) ((k:Int)+1)
theorem oT{n:Int}:∀{l:List bB} {s:List Bool},jx n l s=true->∀r∈l,1<=r.num/\r.num<=999
 |[],_,_=>fun r c=>by cases c
 |x::l,s,h=>fun r c=>by
  rw[jx,Bool.and_eq_true]at h;rcases List.mem_cons.1 c with rfl|d
  ·have a:=h.1
   unfold gC at a;simp only[Bool.and_eq_true,decide_eq_true_eq]at a;exact a.1.1.1
  ·exact oT h.2 r d
theorem yM{loop:Int}{calls:List bB}(h:fG l loop calls=true):∀r∈calls,1<=r.num/\r.num<=999:=by
 unfold fG at h;rw[Bool.and_eq_true]at h;exact oT h.2
def rk(n:Nat)(loop:Int):Nat->List aC
 |0=>List.replicate n aC.zero
 |k+1=>(rk n loop k).set k (aC.new loop)
theorem oU(n:Nat)(loop:Int):∀k,(rk n loop k).length=n
 |0=>List.length_replicate
 |k+1=>by rw[rk,List.length_set];exact oU n loop k
theorem oV(n:Nat)(loop:Int):∀k i,i<n->(rk n loop k)[i]?=some (if i<k then aC.new loop else aC.zero)
 |0,i,a=>by rw[rk,List.getElem?_replicate,if_pos a,if_neg (by omega)]
 |k+1,i,a=>by
  rw[rk,List.getElem?_set];split
  ·rename_i e;subst e;rw[oU,if_pos a,if_pos (by omega)]
  ·rw[oV n loop k i a]
   by_cases h:i<k
   ·rw[if_pos h,if_pos (by omega)]
   ·rw[if_neg h,if_neg (by omega)]
theorem A9(n:Nat)(loop:Int):rk n loop n=List.replicate n (aC.new loop):=by
 apply List.ext_getElem?;intro i;by_cases a:i<n
 ·rw[oV n loop n i a,if_pos a,List.getElem?_replicate,if_pos a]
 ·rw[List.getElem?_eq_none (by rw[oU];omega),List.getElem?_eq_none (by rw[List.length_replicate];omega)]
theorem wN(h:eQ l en wi na=true):0<=wi/\wi<=256/\0<=na/\na<=256:=by
 unfold eQ at h;simp only[Bool.and_eq_true,decide_eq_true_eq]at h;obtain⟨⟨⟨a,c,d,e,_⟩,_⟩,_⟩:=h;omega
def E2(C:KC)(n tt:Nat)(w:World)(e:Ending)(w':World):Prop:=
 ∃χ L Y,e=.returned (.tuple #[.pointer (some ⟨L.mb,0,none⟩),.nilIface])/\ae w' χ L Y C (hY C n tt)/\(∀i,χ i≠ .no->w.heap.size<=i)/\(∀i,χ i≠ .out)/\Ch ag w w'
theorem gb{α:Type}{a:Nat}{l:List Value}{q:IntKind}{enc:α->Value}{m:List (Int×α)}(h:Row W a t l)(f:bS W b q enc m):a≠b:=fun e=>by
 obtain⟨g,c,d,_⟩:=f;rw[<-e,show W.heap[a]?=some (.cells l.toArray t (0,0))from h]at d;cases d
def vf(l:List be)(loop:Int)(calls:List bB)(p:List be)(en wi na:Int):KC:=⟨l,loop,calls,p,en,wi,na,fJ calls calls.length⟩
def Hg(mb:Nat)(post:List Value)(pre:List Value)(en wi na:Int)(p:List be)(a:Nat)(w wc:World):Prop:=
 ∃c d,NM wc mb (pre++[.slice (some ⟨c,0,none⟩) a d,.int .i64 en,.int .i64 wi,.int .i64 na]) (List.replicate 1000 0) post/\A5 w 184 a (b4 p) w.heap.size c d wc/\Ch (aH mb) w wc
theorem mg(h:eQ l en wi na=true):0<l.length/\l.length<=2048:=by
 unfold eQ jw at h;simp only[Bool.and_eq_true,decide_eq_true_eq]at h;have a:=h.1.1;have c:=h.1.2.1;omega
theorem tA(n tt:Nat)(qe:1<=n/\n<=64)(qE:1<=tt/\tt<=65536)(l:List be)(O:Nat)(bv:Nat)(loop:Int)(calls:List bB)(bd:Option Addr)(bi:Nat)(p:List be)(U:Nat)(pc:Nat)(en:Int)(wi na:Nat)
 (qa:l.length<=bv) (vw:calls.length<=bi) (qr:p.length<=pc) (li:calls.length<=100000) (w:World) (ll:fN w O l) (lx:fN w U p)
 (io:(∃gk M,bd=some ⟨gk,0,none⟩/\0<calls.length/\Row w gk 158 (calls.flatMap bB.cells++M))∨bd=none/\calls=[]/\bi=0)
 (i3:fG l loop calls=true) (i5:eQ p en wi na=true)
 (J:w.cell? (0,0)=some (.iface 390 (.agg #[(4,85)]))):
 Calls prog 34 #[.agg #[.int .i64 n,.int .i64 tt],.agg #[.slice (some (O,0)) l.length bv,loop,.slice bd calls.length bi],.agg #[.slice (some (U,0)) p.length pc,en,.int .i64 wi,.int .i64 na]] w (fun e w'=>(17+8*n+wi+na+1<=tt/\E2 (vf l loop calls p en wi na) n tt w e w')∨(tt<17+8*n+wi+na+1/\A2 w e w')):=by
 obtain⟨w1,gP⟩:=nm (((w.alloc (.cells #[.int .i64 n,.int .i64 tt] 35)).alloc (.cells #[.slice (some (O,0)) l.length bv,loop,.slice bd calls.length bi] 90)).alloc (.cells #[.slice (some (U,0)) p.length pc,en,.int .i64 wi,.int .i64 na] 77));have c7:Hid (Ch ag w w1):=Z (by rw[<-gP];exact(((Ch.refl _ _).alloc _).alloc _).alloc _);have hS:Hid (Row w1 w.heap.size 35 [.int .i64 n,.int .i64 tt]):=Z (by rw[<-gP];exact((Row.new w _ _).alloc _).alloc _);have bx:Hid (Row w1 (w.heap.size+1) 90 [.slice (some (O,0)) l.length bv,loop,.slice bd calls.length bi]):=Z (by
  rw[<-gP];have:=Row.new (w.alloc (.cells #[.int .i64 n,.int .i64 tt] 35)) #[.slice (some (O,0)) l.length bv,loop,.slice bd calls.length bi] 90;rw[World.size_alloc]at this;exact this.alloc _)
 have S:Hid (Row w1 (w.heap.size+2) 77 [.slice (some (U,0)) p.length pc,en,.int .i64 wi,.int .i64 na]):=Z (by
  rw[<-gP];have:=Row.new ((w.alloc (.cells #[.int .i64 n,.int .i64 tt] 35)).alloc (.cells #[.slice (some (O,0)) l.length bv,loop,.slice bd calls.length bi] 90)) #[.slice (some (U,0)) p.length pc,en,.int .i64 wi,.int .i64 na] 77;rw[World.size_alloc,World.size_alloc]at this;exact this)
 have n1:Hid (fN w1 O l):=Z (ll.ch c7 id);have nq:Hid (fN w1 U p):=Z (lx.ch c7 id);have jK:Hid ((∃gk M,bd=some ⟨gk,0,none⟩/\0<calls.length/\gk<w.heap.size/\Row w1 gk 158 (calls.flatMap bB.cells++M))∨bd=none/\calls=[]/\bi=0):=Z (by
  rcases io with⟨gk,M,f,V,bZ⟩|h
  ·exact Or.inl ⟨gk,M,f,V,bZ.lt,bZ.ch c7 id⟩
  ·exact Or.inr h)
 have jJ:Hid (w1.cell? (0,0)=some (.iface 390 (.agg #[(4,85)]))):=Z (c7.k J);have g3:=mQ l (some ⟨O,0,none⟩) bv loop calls bd bi qa li w1 (fun _=>⟨O,rfl,n1⟩) (fun ls=>by
  rcases jK with⟨gk,M,f,_,_,bZ⟩|⟨_,h,_⟩
  ·exact⟨gk,M,f,bZ⟩
  ·exact absurd h ls) jJ
 rw[i3]at g3;have g3:=Z g3;have mY:Hid (∀w2,Ch ag w1 w2->Calls prog 61 #[.agg #[.slice (some (U,0)) p.length pc,en,.int .i64 wi,.int .i64 na]] w2 (tc true w2)):=Z (fun w2 a4=>by
  have:=mR p (some ⟨U,0,none⟩) pc en wi na qr w2 (fun _=>⟨U,rfl,nq.ch a4 id⟩) ((a4.cell (aQ jJ) id).trans jJ)
  rwa [i5]at this)
 obtain⟨al,gt⟩:=mn l.length;obtain⟨E,gs⟩:=mn calls.length;obtain⟨cd,gF⟩:=mn p.length;have st:Hid (U<w.heap.size/\O<w.heap.size):=Z ⟨lx.lt,ll.lt⟩;have s8:=Z (yM i3);have hB:=Z (wN i5);have k4:=Z gt;have c1:=Z gs;have k5:=Z gF;rw[<-gt,<-gs]at bx g3;rw[<-gF]at S mY;rw[<-gt,<-gs,<-gF]at gP⊢;have cL:=Z qe;have kd:=Z qE;obtain⟨md,zh⟩:=hS.c2;obtain⟨t10,t11,t12⟩:=bx.c3;obtain⟨t20,t21,t22,t23⟩:=S.c4;have p8:0<al/\al<=2048:=by rw[gt];exact jX i3
 have p3:E<=100000:=by rw[gs];exact li
 have B3:Hid (0<cd/\cd<=2048):=Z (by rw[gF];exact mg i5);have B1:=Z p8;have mp:=Z p3;have i1:(1:Int)<=n:=by omega
 have i2:(n:Int)<=64:=by omega
 have yP:(1:Int)<=tt:=by omega
 have yQ:(tt:Int)<=65536:=by omega
 clear p8 p3 gt gs gF qa vw qr li ll lx io i3 i5 J qe qE;go_in
 go_wp2_with (first|(go_at_call 60;refine g3.mono ?_;rintro e w2 ⟨⟨y,rfl,l'⟩,e'⟩;obtain rfl:y=.nilIface:=l';have mq:=Z e';have u20:=(S.ch e' id).cell (i:=0) rfl;have u21:=(S.ch e' id).cell (i:=1) rfl;have u22:=(S.ch e' id).cell (i:=2) rfl;have u23:=(S.ch e' id).cell (i:=3) rfl;clear e')|(go_at_call 61;refine(mY _ mq).mono ?_;rintro e a5 ⟨⟨y,rfl,l'⟩,pu⟩;obtain rfl:y=.nilIface:=l';have c0:=Z (mq.trans pu);clear pu))
 obtain⟨dC,fd,di,dp,dr⟩:=info_parts E1;have vy:=fun w=>run_make (P:=prog) w 111 120 dC _ underlying111 fd di .i64 .i64 (n:Int) (n:Int) (by omega) (by omega) (by rw[dr];omega) (by omega)
 obtain⟨cs,ii⟩:=nm (madeCells (Value.agg (#[.int .u64 0,.int .u64 0,.bool false,.int .i64 0,.int .i64 0]++Array.replicate 32 (.int .u64 0)++#[.slice none 0 0])).cells ((n:Int).toNat*dC.size));simp only[ii]at vy;rw[dp,Int.toNat_natCast]at ii;have rZ:=Z ii;have ey:Hid (cs.toList=(List.replicate n aC.zero).flatMap fun x=>x.cells (.slice none 0 0)):=Z (by
  rw[<-rZ];exact iu (enc:=fun x:aC=>x.cells (.slice none 0 0)) (k:=38) (fun x=>aC.len (x,_)) (by omega) aC.zero _ rfl n)
 have y8:= @run_makeMap prog;clear ii fd di dp dr;have md:=hS.c1;have mm:a5.cell? ⟨w.heap.size,0,none⟩=some (.int .i64 n):=c0.k md;clear md;go_cut [10] (fun p wc=>rj n a5 p wc)
 case first=>
  have gY:=World.new_ne a5 ⟨w.heap.size,0,none⟩ mm;have hd:w.heap.size<a5.heap.size:=aQ mm;go_region_held3 (fun w'=>w'.cell? ⟨w.heap.size,0,none⟩=some (.int .i64 n)) (go_keep) ((go_at_call 62;refine(qq _).mono ?_;rintro e a ⟨b,hb,mb,qb,rfl,fb,ch,ci,cl,go,kT⟩;have ad:=Z fb;have A:Hid (Ch ag a5 a):=Z (Ch.trans (by repeat(first|exact Ch.refl _ _|with_reducible refine Ch.drew ?_|with_reducible refine Ch.alloc ?_ _)) kT);have e4:=Z kT;have ab:=Z (And.intro ch (And.intro ci (And.intro cl go)));have x5:=A.out.k mm;clear fb kT ch ci cl go))
  all_goals(go_wp2_with fail;go_meet)
  ·exact rj.of (by simp) (((mf a5 rfl).alloc _).A7.ch e4 id) ((iW (a5.alloc (.map #[] 0)) (k:=a5.heap.size+1) (by simp) ey).drew.ch e4 id) ad (by have f:=ab.out;simp only[World.size_alloc,World.size_drew]at f;omega) (by have f:=ab.out;simp only[World.size_alloc,World.size_drew]at f;omega) (by have f:=ab.out;simp only[World.size_alloc,World.size_drew]at f;omega) A
  ·exact rj.of (by simp) ((((mf a5 rfl)).A7.ch e4 id).alloc _) (iW _ rfl ey) (ad.ch (c:=(Ch.refl (fun _=>False) a).alloc _) id id id id (fun g J=>by cases J)) (by have f:=ab.out;have V:=A.size;simp only[World.size_alloc,World.size_drew]at f;omega) (by have f:=ab.out;simp only[World.size_alloc,World.size_drew]at f;omega) (by have f:=ab.out;simp only[World.size_alloc,World.size_drew]at f;omega) (A.alloc _)
  ·exact rj.of (by simp) ((mf (a5.alloc (.cells cs 120)) (k:=a5.heap.size+1) (by simp)).A7.ch e4 id) (((iW _ rfl ey).alloc _).drew.ch e4 id) ad (by have f:=ab.out;simp only[World.size_alloc,World.size_drew]at f;omega) (by have f:=ab.out;simp only[World.size_alloc,World.size_drew]at f;omega) (by have f:=ab.out;simp only[World.size_alloc,World.size_drew]at f;omega) A
  ·exact rj.of (by simp) (mf _ rfl) (((iW _ rfl ey).drew.ch e4 id).alloc _) (ad.ch (c:=(Ch.refl (fun _=>False) a).alloc _) id id id id (fun g J=>by cases J)) (by have f:=ab.out;have V:=A.size;simp only[World.size_alloc,World.size_drew]at f;omega) (by have:=ad.heap.map.lt;omega) (by have:=ad.fl.lt;omega) (A.alloc _)
  ·exact rj.of (by simp) ((mf _ rfl).alloc _) (iW (a.alloc (.map #[] 0)) (k:=a.heap.size+1) (by simp) ey) (ad.ch (c:=((Ch.refl (fun _=>False) a).alloc _).alloc _) id id id id (fun g J=>by cases J)) (by have f:=ab.out;have V:=A.size;simp only[World.size_alloc,World.size_drew]at f;omega) (by have:=ad.heap.map.lt;omega) (by have:=ad.fl.lt;omega) ((A.alloc _).alloc _)
  ·exact rj.of (by simp) (mf (a.alloc (.cells cs 120)) (k:=a.heap.size+1) (by simp)) ((iW _ rfl ey).alloc _) (ad.ch (c:=((Ch.refl (fun _=>False) a).alloc _).alloc _) id id id id (fun g J=>by cases J)) (by have f:=ab.out;have V:=A.size;simp only[World.size_alloc,World.size_drew]at f;omega) (by have:=ad.heap.map.lt;omega) (by have:=ad.fl.lt;omega) ((A.alloc _).alloc _)
 case rest=>
  obtain⟨mb,tm,wb,bX,eS,c4,eW,rfl,lt,lm,fk,fb,qD,gY,hd,i6⟩:=hcut;obtain⟨w4,r0⟩:=nm wc;rw[r0]at lt lm fk fb i6⊢;have bw:=Z lt;have fO:Hid (Ch ag w1 w4):=Z (c0.trans i6.af);have eC:=Z qD;have hw:=Z lm;have c3:=Z fk;have aP:=Z fb;have ni:=Z (And.intro gY hd);have rX:=Z i6;clear lt lm fk fb qD gY hd i6 r0;have s7:=Z (fun(w:World) pre rows post (h:NM w mb pre rows post) (r:NR pre post wb n 0 0)=>pV h r);have jH:=Z (s7 w4.drew _ _ _ bw.drew ⟨rfl,rfl,rfl,cL.1,cL.2,by omega,by omega,by omega,by omega⟩);have wT:=((hS.ch fO id).cell (i:=1) rfl);have wU:=((S.ch fO id).cell (i:=2) rfl);have x2:=((S.ch fO id).cell (i:=3) rfl);have yK:(wi:Int)<=65536:=by have:=hB.out;omega
  have yk:(na:Int)<=65536:=by have:=hB.out;omega
  rcases Nat.lt_or_ge tt (17+8*n+wi+na+1)with gH|gH
  ·have qC:((tt:Int)<17+8*(n:Int)+wi+na+1):=by omega
   have g6:=Z gH;clear gH;go_wp2_with fail
   have ww:IntKind.i64.wrap (17+8*(n:Int)+wi)=17+8*(n:Int)+wi:=IntWalk.i64_in _ (by omega);have wP:IntKind.i64.wrap (17+8*(n:Int)+wi+na)=17+8*(n:Int)+wi+na:=IntWalk.i64_in _ (by omega);have wR:IntKind.i64.wrap (17+8*(n:Int)+wi+na+1)=17+8*(n:Int)+wi+na+1:=IntWalk.i64_in _ (by omega);refine wp_region_still (by kernel_rfl) (by kernel_rfl) ?_;try simp only[]
   repeat still_step
   still_call (b5 jH)
   repeat still_step
   try refine wpStill_nil ?_
   go_wp2_with (go_at_call 59;refine(fg _ _ _ _).mono ?_;rintro e w' ⟨rfl,rfl⟩)
   any_goals (first|(exfalso;omega)|skip)
   go_ret2;exact Or.inr ⟨g6,⟨_,rfl,ar.mk _ _⟩,(c7.trans fO.drew).alloc _⟩
  have qC:¬((tt:Int)<17+8*(n:Int)+wi+na+1):=by omega
  have g6:=Z gH;clear gH;go_wp2_with fail
  have ww:IntKind.i64.wrap (17+8*(n:Int)+wi)=17+8*(n:Int)+wi:=IntWalk.i64_in _ (by omega);have wP:IntKind.i64.wrap (17+8*(n:Int)+wi+na)=17+8*(n:Int)+wi+na:=IntWalk.i64_in _ (by omega);have wR:IntKind.i64.wrap (17+8*(n:Int)+wi+na+1)=17+8*(n:Int)+wi+na+1:=IntWalk.i64_in _ (by omega);refine wp_region_still (by kernel_rfl) (by kernel_rfl) ?_;try simp only[]
  repeat still_step
  still_call (b5 jH)
  repeat still_step
  try refine wpStill_nil ?_
  go_wp2_with fail
  any_goals (first|(exfalso;omega)|skip)
  change Code.wp _ _ _ _ w4.drew;obtain⟨a,iC⟩:=nm w4.drew;have A:Hid (Ch ag w1 a):=Z (by rw[<-iC];exact fO.drew);have mv:Hid (Ch ag w4 a):=Z (by rw[<-iC];exact(Ch.refl _ _).drew);have D:=Z (bw.ch mv id);rw[iC];clear iC wT wU x2 jH qC;have fL:=((bx.ch A id).cell (i:=0) rfl);have fM:=((bx.ch A id).cell (i:=1) rfl);have z12:=((bx.ch A id).cell (i:=2) rfl);go_cut [] (fun wc=>Hf mb [.pointer none,.pointer none,bk bX,.pointer none,.pointer none,.pointer none,.pointer none,.map (some tm),.slice (some (wb,0)) n n,.int .i64 0,.int .i64 0,.int .i64 0,.int .u64 0,.slice none 0 0] [.slice none 0 0,.int .i64 0,.int .i64 0,.int .i64 0] loop l calls al E a wc)
  case first=>
   have rb:=D.pc (i:=0) rfl;have rc:=D.pc (i:=1) rfl;have rd:=D.pc (i:=2) rfl;have f0:=D.fz 0;have f1:=D.fz 1;have f2:=D.fz 2;have vk:w.heap.size+1<mb:=Nat.lt_of_lt_of_le bx.lt (Nat.le_trans c0.size eC.1);have d1:mb≠w.heap.size+1:=(by omega);have d2:w.heap.size+1≠mb:=(by omega);have gY:=World.new_ne a _ fL;have hd:=World.new_ne a _ fM;have vX:=World.new_ne a _ z12;obtain⟨dC,fd,di,dp,dr⟩:=info_parts tz;obtain⟨i1,vp,vF,vT,vU⟩:=info_parts A3;have hu:=Z fd;have mZ:=Z vp;have n2:Hid (fN a O l):=Z (n1.ch A id);have nR:Hid ((b4 l).length=al*7):=Z (by rw[mu,k4];omega);rcases jK with⟨gk,M,rfl,qB,cm,ip⟩|⟨rfl,lb,rfl⟩
   ·have s4:Hid (Row a gk 158 (calls.flatMap bB.cells++M)):=Z (ip.ch A id)
    have qB:0<E/\E<=100000:=⟨by rw[c1];exact qB,mp⟩;clear ip cm;have tR:Hid ((calls.flatMap bB.cells).length=E*6):=Z (by rw[lr,c1]);go_region_held_law (fun w'=>w'.cell? ⟨w.heap.size+1,0,none⟩=some (.slice (some (O,0)) al bv)/\w'.cell? ⟨w.heap.size+1,1,none⟩=some (.int .i64 loop)/\w'.cell? ⟨w.heap.size+1,2,none⟩=some (.slice (some ⟨gk,0,none⟩) E bi)) (go_keep) (first
     |(refine step_append_grows (by rfl) _ _ 75 (by rfl) 184 dC _ 7 56 underlying75 hu.out di dp dr (by rfl) (by omega) _ 0 0 [] (by rfl) (fun h=>⟨rfl,rfl⟩) (by rfl) (fun _ _ _ _ h=>by cases h) ⟨O,0,none⟩ al bv (b4 l) (by rfl) nR.out (ri (fun j u cA=>(n2.out.ch (show Ch ag a _ by repeat(first|exact Ch.refl _ _|exact z.out|with_reducible refine Ch.drew ?_|with_reducible refine Ch.alloc ?_ _)) id).cell j u cA)) (jF l) (by have:=B1.out;omega) (by have:=B1.out;unfold maxLen;omega) (by have:=B1.out;omega) ?_;intro v' am cq c5;have o:Hid (Ch ag a am):=Z ((show Ch ag a _ by repeat(first|exact Ch.refl _ _|exact z.out|with_reducible refine Ch.drew ?_|with_reducible refine Ch.alloc ?_ _)).trans ((Ch.bK c5).mono (fun i F=>by cases F)));obtain⟨R,ce,gW,rfl,hA1,hA2,hA3,hA4,hA5⟩:=aE cq (by have:=B1.out;omega);have g7:=Z hA4;have ca:=Z (And.intro hA1 hA2);have up:=o.out.k fL;have us:=o.out.k fM;have a12:=o.out.k z12;clear cq c5 hA1 hA2 hA3 hA4 hA5)
     |(refine step_append_grows (by rfl) _ _ 88 (by rfl) 158 i1 _ 6 48 underlying88 mZ.out vF vT vU (by rfl) (by omega) _ 0 0 [] (by rfl) (fun h=>⟨rfl,rfl⟩) (by rfl) (fun _ _ _ _ h=>by cases h) ⟨gk,0,none⟩ E bi (calls.flatMap bB.cells) (by rfl) tR.out (ri (fun j u cA=>(s4.out.ch (show Ch ag a _ by repeat(first|exact Ch.refl _ _|exact o.out|with_reducible refine Ch.drew ?_|with_reducible refine Ch.alloc ?_ _)) id).cell (by rw[List.getElem?_append_left (List.getElem?_eq_some_iff.1 cA).1];exact cA))) (A4 calls) (by omega) (by unfold maxLen;omega) (by omega) ?_;intro v' ap ql le;have z:Hid (Ch ag a ap):=Z ((show Ch ag a _ by repeat(first|exact Ch.refl _ _|exact o.out|with_reducible refine Ch.drew ?_|with_reducible refine Ch.alloc ?_ _)).trans ((Ch.bK le).mono (fun i F=>by cases F)));obtain⟨T,o7,vV,rfl,ov,oH,vl,oS,vn⟩:=aE ql (by omega);have kh:=Z oS;have hn:=Z (And.intro ov oH);have jG:=Z (Ch.bK le);have ut:=z.out.k fL;have v0:=z.out.k fM;have v1:=z.out.k z12;have rb:=(D.out.ch z.out id).pc (i:=0) rfl;have rc:=(D.out.ch z.out id).pc (i:=1) rfl;have rd:=(D.out.ch z.out id).pc (i:=2) rfl;have f0:=(D.out.ch z.out id).fz 0;have f1:=(D.out.ch z.out id).fz 1;have f2:=(D.out.ch z.out id).fz 2;clear ql le ov oH vl oS vn))
    all_goals(go_wp2_with fail;go_meet)
    all_goals
     have cQ:a.heap.size<=R:=Nat.le_trans ((show Ch ag a _ by repeat(first|exact Ch.refl _ _|exact o.out|with_reducible refine Ch.drew ?_|with_reducible refine Ch.alloc ?_ _))).size ca.out.1;have ge:a.heap.size<=T:=Nat.le_trans ((show Ch ag a _ by repeat(first|exact Ch.refl _ _|exact o.out|with_reducible refine Ch.drew ?_|with_reducible refine Ch.alloc ?_ _))).size hn.out.1;have gf:Ch ag am ap:=((show Ch ag am _ by repeat(first|exact Ch.refl _ _|exact o.out|with_reducible refine Ch.drew ?_|with_reducible refine Ch.alloc ?_ _))).trans (jG.out.mono (fun i F=>by cases F));have i0:mb<a.heap.size:=D.lt;have a4:Ch (aH mb) ap (((ap.setCell (mb,0) (.slice (some (R,0)) al ce)).setCell (mb,1) (.int .i64 loop)).setCell (mb,2) (.slice (some ⟨T,0,none⟩) E o7)):=(((Ch.refl _ _).only _ _).only _ _).only _ _;refine⟨R,ce,T,o7,(((D.ch z id).pg (i:=0) (by omega) _).pg (i:=1) (by omega) _).pg (i:=2) (by omega) _,⟨⟨gW,?_⟩,?_,cQ⟩,⟨⟨vV,?_⟩,?_,ge⟩,z.af.trans a4⟩
     ·exact(g7.ch gf id).ch a4 (fun e=>by have:R=mb:=e;omega)
     ·have:=ca.2;omega
     ·exact kh.ch a4 (fun e=>by have:T=mb:=e;omega)
     ·have:=hn.2;omega
   ·have rY:=Z lb
    obtain rfl:E=0:=by rw[c1,lb];rfl
    clear lb;go_region_held_law (fun w'=>w'.cell? ⟨w.heap.size+1,0,none⟩=some (.slice (some (O,0)) al bv)/\w'.cell? ⟨w.heap.size+1,1,none⟩=some (.int .i64 loop)/\w'.cell? ⟨w.heap.size+1,2,none⟩=some (.slice none 0 0)) (go_keep) (first
     |(refine step_append_grows (by rfl) _ _ 75 (by rfl) 184 dC _ 7 56 underlying75 hu.out di dp dr (by rfl) (by omega) _ 0 0 [] (by rfl) (fun h=>⟨rfl,rfl⟩) (by rfl) (fun _ _ _ _ h=>by cases h) ⟨O,0,none⟩ al bv (b4 l) (by rfl) nR.out (ri (fun j u cA=>(n2.out.ch (show Ch ag a _ by repeat(first|exact Ch.refl _ _|exact z.out|with_reducible refine Ch.drew ?_|with_reducible refine Ch.alloc ?_ _)) id).cell j u cA)) (jF l) (by have:=B1.out;omega) (by have:=B1.out;unfold maxLen;omega) (by have:=B1.out;omega) ?_;intro v' am cq c5;have o:Hid (Ch ag a am):=Z ((show Ch ag a _ by repeat(first|exact Ch.refl _ _|exact z.out|with_reducible refine Ch.drew ?_|with_reducible refine Ch.alloc ?_ _)).trans ((Ch.bK c5).mono (fun i F=>by cases F)));obtain⟨R,ce,gW,rfl,hA1,hA2,hA3,hA4,hA5⟩:=aE cq (by have:=B1.out;omega);have g7:=Z hA4;have ca:=Z (And.intro hA1 hA2);have s0:=Z (Ch.bK c5);have up:=o.out.k fL;have us:=o.out.k fM;have a12:=o.out.k z12;clear cq c5 hA1 hA2 hA3 hA4 hA5)
     |(refine m7 (by rfl) _ _ 88 (by rfl) 158 i1 underlying88 mZ.out _ 0 0 (by rfl) (Nat.le_refl _) (by rfl) ?_;intro v' ap qN iX;have z:Hid (Ch ag a ap):=Z (by rw[iX];exact(show Ch ag a _ by repeat(first|exact Ch.refl _ _|exact o.out|with_reducible refine Ch.drew ?_|with_reducible refine Ch.alloc ?_ _)));obtain⟨T,rfl,o3,mG⟩:∃T,v'=.slice (some ⟨T,0,none⟩) 0 0/\Row ap T 158 []/\a.heap.size<=T:=⟨_,qN,by rw[iX];repeat(first|exact iW _ (by first|rfl|simp) rfl|with_reducible refine Row.drew ?_|with_reducible refine Row.alloc ?_ _|refine Row.ch ?_ s0.out (fun h=>by cases h)),by first|exact Nat.le_refl _|exact Nat.le_add_right _ _|exact o.out.size|exact Nat.le_trans o.out.size (Nat.le_add_right _ _)|(have:=o.out.size;simp;omega)⟩;have kh:=Z o3;have hn:=Z mG;have jG:Hid (Ch ag am ap):=Z (by rw[iX];exact(show Ch ag am _ by repeat(first|exact Ch.refl _ _|with_reducible refine Ch.drew ?_|with_reducible refine Ch.alloc ?_ _)));have ut:=z.out.k fL;have v0:=z.out.k fM;have v1:=z.out.k z12;have rb:=(D.out.ch z.out id).pc (i:=0) rfl;have rc:=(D.out.ch z.out id).pc (i:=1) rfl;have rd:=(D.out.ch z.out id).pc (i:=2) rfl;have f0:=(D.out.ch z.out id).fz 0;have f1:=(D.out.ch z.out id).fz 1;have f2:=(D.out.ch z.out id).fz 2;clear qN iX o3 mG))
    all_goals(go_wp2_with fail;go_meet)
    all_goals
     have cQ:a.heap.size<=R:=Nat.le_trans ((show Ch ag a _ by repeat(first|exact Ch.refl _ _|exact o.out|with_reducible refine Ch.drew ?_|with_reducible refine Ch.alloc ?_ _))).size ca.out.1;have ge:a.heap.size<=T:=hn.out;have gf:Ch ag am ap:=jG.out;have i0:mb<a.heap.size:=D.lt;have a4:Ch (aH mb) ap (((ap.setCell (mb,0) (.slice (some (R,0)) al ce)).setCell (mb,1) (.int .i64 loop)).setCell (mb,2) (.slice (some ⟨T,0,none⟩) 0 0)):=(((Ch.refl _ _).only _ _).only _ _).only _ _;refine⟨R,ce,T,0,(((D.ch z id).pg (i:=0) (by omega) _).pg (i:=1) (by omega) _).pg (i:=2) (by omega) _,⟨⟨gW,?_⟩,?_,cQ⟩,⟨⟨[],?_⟩,?_,ge⟩,z.af.trans a4⟩
     ·exact(g7.ch gf id).ch a4 (fun e=>by have:R=mb:=e;omega)
     ·have:=ca.2;omega
     ·rw[rY];exact kh.ch a4 (fun e=>by have:T=mb:=e;omega)
     ·exact Nat.le_refl _
  case rest=>
   obtain⟨g8,eI,g9,eL,lu,cW,ct,l0⟩:=hcut;obtain⟨a9,r5⟩:=nm wc;rw[r5]at lu cW ct l0⊢;have bb:=Z lu;have th:=Z cW;have tl:=Z ct;have cF:=Z l0;clear lu cW ct l0 r5 fL fM z12;have x4:Hid (Ch ag w a9):=Z ((c7.trans A).fresh cF (fun b hb e=>by have f:b=mb:=e;have V:=eC.1;have bZ:=Nat.lt_of_lt_of_le bx.lt c0.size;omega));have g1:∀x,x<w.heap.size+3->¬aH mb x:=(fun x fr e=>by have f:x=mb:=e;have V:=eC.1;have bZ:=Nat.lt_of_lt_of_le S.lt c0.size;omega);have uf:=Z ((S.ch A id).ch cF (g1 _ (by omega)));obtain⟨mi,mj,jp,mk⟩:=uf.c4;go_wp2
   go_cut [] (fun wc=>Hg mb [.pointer none,.pointer none,bk bX,.pointer none,.pointer none,.pointer none,.pointer none,.map (some tm),.slice (some (wb,0)) n n,.int .i64 0,.int .i64 0,.int .i64 0,.int .u64 0,.slice none 0 0] [.slice (some (g8,0)) al eI,loop,.slice (some (g9,0)) E eL] en wi na p cd a9 wc)
   case first=>
    have vW:=bb.pc (i:=3) rfl;have vk:w.heap.size+2<mb:=Nat.lt_of_lt_of_le S.lt (Nat.le_trans c0.size eC.1);have d1:mb≠w.heap.size+2:=(by omega);have d2:w.heap.size+2≠mb:=(by omega);have d3:mb≠w.heap.size+1+1:=(by omega);have d4:w.heap.size+1+1≠mb:=(by omega);have gY:=World.new_ne a9 _ mi;have hd:=World.new_ne a9 _ mj;have vX:=World.new_ne a9 _ jp;have z9:=World.new_ne a9 _ mk;obtain⟨dC,fd,di,dp,dr⟩:=info_parts tz;have hu:=Z fd;have sC:Hid (fN a9 U p):=Z ((nq.ch A id).ch cF (g1 _ (by have:=st.out;omega)));have tS:Hid ((b4 p).length=cd*7):=Z (by rw[mu,k5];omega);go_region_held_law (fun w'=>w'.cell? ⟨w.heap.size+2,0,none⟩=some (.slice (some (U,0)) cd pc)/\w'.cell? ⟨w.heap.size+2,1,none⟩=some (.int .i64 en)/\w'.cell? ⟨w.heap.size+2,2,none⟩=some (.int .i64 wi)/\w'.cell? ⟨w.heap.size+2,3,none⟩=some (.int .i64 na)) (go_keep) ((refine step_append_grows (by rfl) _ _ 75 (by rfl) 184 dC _ 7 56 underlying75 hu.out di dp dr (by rfl) (by omega) _ 0 0 [] (by rfl) (fun h=>⟨rfl,rfl⟩) (by rfl) (fun _ _ _ _ h=>by cases h) ⟨U,0,none⟩ cd pc (b4 p) (by rfl) tS.out (ri (fun j u cA=>(sC.out.ch (show Ch ag a9 _ by repeat(first|exact Ch.refl _ _|with_reducible refine Ch.drew ?_|with_reducible refine Ch.alloc ?_ _)) id).cell j u cA)) (jF p) (by have:=B3.out;omega) (by have:=B3.out;unfold maxLen;omega) (by have:=B3.out;omega) ?_;intro v' am cq c5;have o:Hid (Ch ag a9 am):=Z ((show Ch ag a9 _ by repeat(first|exact Ch.refl _ _|with_reducible refine Ch.drew ?_|with_reducible refine Ch.alloc ?_ _)).trans ((Ch.bK c5).mono (fun i F=>by cases F)));obtain⟨R,ce,gW,rfl,hA1,hA2,hA3,hA4,hA5⟩:=aE cq (by have:=B3.out;omega);have g7:=Z hA4;have ca:=Z (And.intro hA1 hA2);have a0:=o.out.k mi;have a1:=o.out.k mj;have a2:=o.out.k jp;have a3:=o.out.k mk;have vW:=(bb.out.ch o.out id).pc (i:=3) rfl;have z3:=(bb.out.ch o.out id).pc (i:=4) rfl;have z4:=(bb.out.ch o.out id).pc (i:=5) rfl;have z5:=(bb.out.ch o.out id).pc (i:=6) rfl;have f3:=(bb.out.ch o.out id).fz 3;have f4:=(bb.out.ch o.out id).fz 4;have f5:=(bb.out.ch o.out id).fz 5;have f6:=(bb.out.ch o.out id).fz 6;clear cq c5 hA1 hA2 hA3 hA4 hA5))
    all_goals(go_wp2_with fail;go_meet)
    all_goals
     have cQ:a9.heap.size<=R:=Nat.le_trans ((show Ch ag a9 _ by repeat(first|exact Ch.refl _ _|with_reducible refine Ch.drew ?_|with_reducible refine Ch.alloc ?_ _))).size ca.out.1;have i0:mb<a9.heap.size:=bb.lt;have a4:Ch (aH mb) am ((((am.setCell (mb,3) (.slice (some (R,0)) cd ce)).setCell (mb,4) (.int .i64 en)).setCell (mb,5) (.int .i64 wi)).setCell (mb,6) (.int .i64 na)):=((((Ch.refl _ _).only _ _).only _ _).only _ _).only _ _;refine⟨R,ce,((((bb.ch o id).pg (i:=3) (by omega) _).pg (i:=4) (by omega) _).pg (i:=5) (by omega) _).pg (i:=6) (by omega) _,⟨⟨gW,?_⟩,?_,cQ⟩,o.af.trans a4⟩
     ·exact g7.ch a4 (fun e=>by have:R=mb:=e;omega)
     ·have:=ca.2;omega
   case rest=>
    obtain⟨hT,gc,lv,gO,l1⟩:=hcut;obtain⟨fK,r6⟩:=nm wc;rw[r6]at lv gO l1⊢;have no:=Z lv;have tr:=Z gO;have g2:=Z l1;clear lv gO l1 r6 mi mj jp mk;obtain⟨pre,lA⟩:=nm ([Value.slice (some (g8,0)) al eI,loop,.slice (some (g9,0)) E eL,.slice (some (hT,0)) cd gc,en,.int .i64 wi,.int .i64 na]);have kb:=Z lA;have jE:Hid (Ch (aH mb) a fK):=Z (cF.trans g2);have c9:=Z g1;have ue:=Z ((bx.ch A id).ch jE (g1 _ (by omega)));have i4:=no.out;have i4:NM fK mb pre (List.replicate 1000 0) [.pointer none,.pointer none,bk bX,.pointer none,.pointer none,.pointer none,.pointer none,.map (some tm),.slice (some (wb,0)) n n,.int .i64 0,.int .i64 0,.int .i64 0,.int .u64 0,.slice none 0 0]:=(by rw[<-lA];exact no);obtain⟨post,lz⟩:=nm ([.pointer none,.pointer none,bk bX,.pointer none,.pointer none,.pointer none,.pointer none,.map (some tm),.slice (some (wb,0)) n n,.int .i64 0,.int .i64 0,.int .i64 0,.int .u64 0,.slice none 0 0]);rw[lz]at i4;have c2:=Z lz;have s5:=Z i4;have jp:=ue.k 2 rfl;have y2:(E:Int)<=100000:=(by have:=mp.out;omega);clear i4 lA lz g1;go_wp2
    go_loopg [99] (E+1) (fun kw i wr=>∃k:Nat,k<=E/\kw=E-k+1/\i=.int .i64 k/\Hid (NM wr mb pre (fJ calls k) post)/\Hid (Ch (aH mb) fK wr))
    case atStart=>exact⟨0,by omega,by omega,rfl,s5,Z (Ch.refl _ _)⟩
    case round=>
     obtain⟨k,vu,rfl,rfl,eA,hh⟩:=hrel;by_cases cm:k<E
     ·obtain⟨gk,M,io,y4,ip⟩:∃gk M,bd=some ⟨gk,0,none⟩/\gk<w.heap.size/\Row w1 gk 158 (calls.flatMap bB.cells++M):=by
       rcases jK with⟨gk,M,f,_,V,bZ⟩|⟨_,h,_⟩
       ·exact⟨gk,M,f,V,bZ⟩
       ·rw[c1,h]at cm;exact absurd cm (Nat.not_lt_zero _)
      subst io;have s3:Hid (Row fK gk 158 (calls.flatMap bB.cells++M)):=Z ((ip.ch A id).ch jE (c9 _ (by omega)));obtain⟨X,gG⟩:∃X,calls[k]?=some X:=⟨_,List.getElem?_eq_getElem (by rw[<-c1];exact cm)⟩;have x9:=Z gG;have fk:Hid (Row wr gk 158 (calls.flatMap bB.cells++M)):=Z (s3.ch hh (c9 _ (by omega)));have cS:∀j v,j<6->X.cells[j]?=some v->wr.cell? ⟨gk,k*6+j,none⟩=some v:=fun j v vq vD=>fk.out.cell (by
       rw[List.getElem?_append_left (by
        rw[lr,<-c1];have:(k+1)*6<=E*6:=Nat.mul_le_mul_right _ cm;omega)]
       exact(bJ bB.len gG vq).trans vD)
      have lw:=s8 X (List.mem_of_getElem? gG);have p1:fJ calls (k+1)=(fJ calls k).set X.num.toNat ((k:Int)+1):=by
       rw[fJ,List.getD_eq_getElem?_getD,gG];rfl
      obtain⟨num,at_,k0,k1,k2,k3⟩:=X;obtain⟨m,rfl⟩:∃m:Nat,num=m:=⟨num.toNat,by have:=lw.1;dsimp only at this;omega⟩;have qc:m<1000:=(by have:=lw.2;dsimp only at this;omega);have y7:(m:Int)<1000:=(by omega);have y6:(0:Int)<=m:=(by omega);have r':=Z p1;have o5:=cS 0 _ (by omega) rfl;have v2:=cS 1 _ (by omega) rfl;have v3:=cS 2 _ (by omega) rfl;have v4:=cS 3 _ (by omega) rfl;have v5:=cS 4 _ (by omega) rfl;have v6:=cS 5 _ (by omega) rfl;rw[Nat.add_zero]at o5;obtain⟨mc,hold⟩:∃mc,(fJ calls k)[m]?=some mc:=⟨_,List.getElem?_eq_getElem (by rw[eA.n2];exact qc)⟩;have c4:=eA.rc hold;have ve:=eA.fz (7+m);have y5:(k:Int)<E:=(by omega);have cW:=fk.out.lt;have ct:=eA.lt;clear cS gG lw p1 hold;go_wp2_with fail
      obtain⟨he,fn⟩:=nm (wr.alloc (.cells #[.int .i64 m,at_,k0,k1,k2,k3] 158));obtain⟨wS,lB⟩:=nm wr.heap.size;have tD:Hid (Row he wS 158 [.int .i64 m,at_,k0,k1,k2,k3]):=Z (by rw[<-fn,<-lB];exact Row.new _ _ _);have nr:Hid (NM he mb pre (fJ calls k) post):=Z (by rw[<-fn];exact eA.alloc _);have rv:Hid (Ch (aH mb) fK he):=Z (by rw[<-fn];exact hh.alloc _);have x0:=tD.c1;have xn:he.cell? (mb,7+m)=some (.int .i64 mc):=(by rw[<-fn,World.cell?_alloc_past _ _ _ ct];exact c4);have xs:=nr.fz (7+m);rw[fn,lB];clear fn lB cW ct o5 v2 v3 v4 v5 v6 c4 ve;refine wp_region_still_tail 8 (by kernel_rfl) (by kernel_rfl) ?_;simp only[List.take_succ_cons,List.take_zero,List.drop_succ_cons,List.drop_zero]
      repeat still_step
      try refine wpStill_nil ?_
      change wpList _ _ _ _ _ he.drew;go_wp2
      go_roundg (E-k)
      case measure=>omega
      case rel=>exact⟨k+1,by omega,by omega,by go_num,Z (by rw[r'];exact nr.drew.ax qc _),Z (rv.drew.only _ _)⟩
     ·have vu:¬(k:Int)<E:=by omega
      have vx:k=E:=(by omega);subst vx;have vE:∃G,G=wr:=⟨_,rfl⟩;obtain⟨G,rfl⟩:=vE;have cC:Hid (Ch (aH mb) a G):=Z (jE.trans hh);have ud:=Z ((hS.ch A id).ch cC (c9 _ (by omega)));have gd:¬aH mb w.heap.size:=c9 _ (by omega);have xp:mb≠w.heap.size:=(fun e=>gd e.symm);have xq:w.heap.size≠mb:=(fun e=>gd e);go_wp2_with (first
       |(go_at_call 63;refine(ta _).mono ?_;rintro e dN ⟨rfl,pl,i9⟩;have ns:=Z pl;have mA:=Z i9;have vo:=Z i9;have jR:=Z (eA.ch i9 id);have w0:=jR.qc (j:=3) (by rw[<-c2];rfl);have wv:=jR.fz 1010;clear pl i9)
       |(go_at_call 64;refine(pf _).mono ?_;rintro e av ⟨qb,fz,qm,rfl,pi,ch,ci,cl,i8⟩;have tb:=Z pi;have rB:=Z (And.intro ch (And.intro ci cl));have x7:=Z i8;have hi:Hid (Ch (aH mb) dN av):=Z ((((Ch.refl _ _).only _ _)).trans i8.af);have jM:=Z ((jR.km 3 (bk (G.heap.size+1))).ch i8 id);have wd:=jM.qc (j:=4) (by rw[<-c2];rfl);have wh:=jM.fz 1011;clear pi i8 ch ci cl)
       |(go_at_call 65;refine(q5 _).mono ?_;rintro e Q ⟨rfl,pm,ih⟩;have ty:=Z pm;have x8:=Z ih;have g0:Hid (Ch (aH mb) av Q):=Z ((((Ch.refl _ _).only _ _)).trans ih.af);have jS:=Z ((jM.km 4 (bk qb)).ch ih id);have wk:=jS.qc (j:=5) (by rw[<-c2];rfl);have wl:=jS.fz 1012;clear pm ih)
       |(go_at_call 66;refine(oF _).mono ?_;rintro e hf ⟨rfl,pa,i7⟩;have sl:=Z pa;have x6:=Z i7;have ex:Hid (Ch (aH mb) Q hf):=Z ((((Ch.refl _ _).only _ _)).trans i7.af);have jL:=Z ((jS.km 5 (bk _)).ch i7 id);have wn:=jL.qc (j:=6) (by rw[<-c2];rfl);have ws:=jL.fz 1013;have vY:=((((ud.ch vo.out id).ch hi gd).ch g0 gd).ch ex gd).cell (i:=1) rfl;clear pa i7)
       |fail)
      obtain⟨ml,je⟩:=nm (hf.setCell (mb,1013) (.pointer (some (Q.heap.size+1,0))));have g4:=jL.km 6 (bk (Q.heap.size+1));rw[show hf.setCell (mb,1007+6) (bk (Q.heap.size+1))=ml from je]at g4;have et:Hid (Ch (aH mb) hf ml):=Z (by rw[<-je];exact(Ch.refl _ _).only _ _);obtain⟨ro,ly⟩:∃q,(((post.set 3 (bk (G.heap.size+1))).set 4 (bk qb)).set 5 (bk (av.heap.size+1))).set 6 (bk (Q.heap.size+1))=q:=⟨_,rfl⟩;rw[ly]at g4;have g5:=Z ly;have g4:=Z g4;have n0:=AO mb pre (fJ calls k) ro wb n wi na tt ml g4 ⟨by rw[<-g5,<-c2];rfl,by rw[<-kb];rfl,by rw[<-kb];rfl,cL.1,cL.2,by omega,hB.2.1,by omega,hB.2.2.2⟩ (by rw[<-g5,<-c2];simp) kd.1 kd.2 (by have:=g6.out;omega);rw[je];clear je ly w0 wv wd wh wk wl wn ws vY
      (with_reducible refine n0.mono ?_)
      clear n0;rintro e c6 ⟨rfl,m,c,d,eG,p2,qd,po,ch,ci,cl,go,pv⟩;have nd:=Z p2;have s6:=Z qd;have rC:=Z po;have rA:=Z (And.intro ch (And.intro ci (And.intro cl go)));have es:=Z pv;clear p2 qd po ch ci cl go pv;have hm:Hid (Ch (aH mb) G c6):=Z (((((mA.af.trans hi).trans g0).trans ex).trans et).trans es);have o4:=Z (((bx.ch A id).ch cC (c9 _ (by omega))).ch hm (c9 _ (by omega)));have x1:=o4.k 1 rfl;have zb:=nd.qc (j:=8) (v:=.slice (some (wb,0)) n n) (by rw[<-g5,<-c2];rfl);have c8:Hid (Ch (aH mb) w4 a):=Z mv.af;have og:wb≠mb:=Row.ne c3 bw.row (by decide);have tC:Hid (Row c6 wb 120 ((rk n loop 0).flatMap fun x=>x.cells (.slice none 0 0))):=Z (c3.ch ((c8.trans cC).trans hm) (fun e=>og e));go_wp2
      go_loopg [150] (n+1) (fun kw i wr=>∃q:Nat,q<=n/\kw=n-q+1/\i=.int .i64 q/\Hid (Row wr wb 120 ((rk n loop q).flatMap fun x=>x.cells (.slice none 0 0)))/\Hid (Ch (aH wb) c6 wr))
      case atStart=>exact⟨0,by omega,by omega,rfl,tC,Z (Ch.refl _ _)⟩
      case round=>
       obtain⟨q,yJ,rfl,rfl,hE,I⟩:=hrel;have zF:=(o4.ch I (fun e=>by have f:w.heap.size+1=wb:=e;have V:=eC.2.2.1;have bZ:=Nat.lt_of_lt_of_le bx.lt c0.size;omega)).cell (i:=1) rfl;have ne:=Z (nd.ch I (fun e=>og e.symm));have AQ:=ne.qc (j:=8) (v:=.slice (some (wb,0)) n n) (by rw[<-g5,<-c2];rfl);by_cases cm:q<n
       ·have vz:(q:Int)<n:=by omega
        have it:=oV n loop q q cm;rw[if_neg (by omega)]at it;have xo:wr.cell? ⟨wb,q*38+4,none⟩=some (.int .i64 0):=hE.at (fun x=>aC.len (x,_)) it (by omega) rfl;have xD:=hE.free (q*38+4);have tg:=Z it;clear it;go_wp2_with fail
        refine wp_region_still_tail 10 (by kernel_rfl) (by kernel_rfl) ?_;simp only[List.take_succ_cons,List.take_zero,List.drop_succ_cons,List.drop_zero]
        repeat still_step
        try refine wpStill_nil ?_
        change wpList _ _ _ _ _ wr.drew;go_wp2
        go_roundg (n-q)
        case measure=>omega
        case rel=>
         exact⟨q+1,by omega,by omega,by go_num,Z (hE.drew.put (fun x=>aC.len (x,_)) tg (by omega) rfl),Z (I.drew.only _ _)⟩
       ·have vz:¬(q:Int)<n:=by omega
        have vA:q=n:=(by omega);subst vA;have n8:Hid (mb<G.heap.size/\wb<G.heap.size):=Z ⟨Nat.lt_of_lt_of_le bw.lt (Nat.le_trans c8.size cC.size),Nat.lt_of_lt_of_le c3.lt (Nat.le_trans c8.size cC.size)⟩;have ms:Hid (Ch (aH mb) w4 c6):=Z ((c8.trans cC).trans hm);have d1:bX≠mb:=Row.ne aP.head bw.row (by decide);have d2:eS≠mb:=Row.ne aP.heap.head bw.row (by decide);have d3:mb≠c4:=gb bw.row aP.heap.map;have d4:mb≠eW:=gb bw.row aP.fl;have d5:mb≠tm:=gb bw.row hw;have cQ:bX≠wb:=Row.ne aP.head c3 (by decide);have ge:eS≠wb:=Row.ne aP.heap.head c3 (by decide);have gf:wb≠c4:=gb c3 aP.heap.map;have i0:wb≠eW:=gb c3 aP.fl;have vc:wb≠tm:=gb c3 hw;have tJ:Hid (aX wr bX eS c4 eW (.slice none 0 0) aN.new):=Z ((aP.ch ms d1 d2 (fun e=>d3 e.symm) (fun e=>d4 e.symm) (fun g J=>by cases J)).ch I cQ ge (fun e=>gf e.symm) (fun e=>i0 e.symm) (fun g J=>by cases J));have tP:Hid (bS (α:=Nat) wr tm .u64 bk []):=Z ((hw.ch ms (fun e=>d5 e.symm)).ch I (fun e=>vc e.symm));have H:∀x,G.heap.size<=x->¬aH mb x/\¬aH wb x:=(fun x fr=>⟨fun e=>by have f:x=mb:=e;have:=n8.1;omega,fun e=>by have f:x=wb:=e;have:=n8.2;omega⟩);have AR:=mA.size;have Bh:=hi.size;have Bf:=g0.size;have Bi:=ex.size;have Bc:=et.size;have Be:=es.size;have rx:Hid (Ch (aH mb) dN c6):=Z ((((hi.trans g0).trans ex).trans et).trans es);have ru:Hid (Ch (aH mb) av c6):=Z (((g0.trans ex).trans et).trans es);have ry:Hid (Ch (aH mb) Q c6):=Z ((ex.trans et).trans es);have rt:Hid (Ch (aH mb) hf c6):=Z (et.trans es);have tN:Hid (eP wr (G.heap.size+1) G.heap.size []):=Z ((ns.ch rx (H _ (by omega)).1 (H _ (by omega)).1).ch I (H _ (by omega)).2 (H _ (by omega)).2);have vi:=rB.out;have rp:∀x,dN.heap.size<=x->¬aH mb x/\¬aH wb x:=(fun x fr=>H x (by omega));have kv:dN.heap.size<=qb/\dN.heap.size<=fz/\dN.heap.size<=qm:=(by simpa using vi);have tM:Hid (iE wr qb fz qm (List.replicate 8 [])):=Z (by
         have pp:∀i,QD qb fz qm (List.replicate 8 []) i->dN.heap.size<=i:=fun i F=>by
          rcases F with rfl|rfl|rfl|⟨s,vC,_⟩
          ·exact kv.1
          ·exact kv.2.1
          ·exact kv.2.2
          ·have:s∈(List.replicate 8 ([]:List Sl)).flatten:=vC
           simp at this
         exact(tb.ch ru (fun i F=>(rp i (pp i F)).1)).ch I (fun i F=>(rp i (pp i F)).2))
        have tO:=Z ((ty.ch ry (H _ (by simp;omega)).1 (H _ (by simp;omega)).1).ch I (H _ (by simp;omega)).2 (H _ (by simp;omega)).2);have tL:=Z ((sl.ch rt (H _ (by simp;omega)).1 (H _ (by simp;omega)).1).ch I (H _ (by simp;omega)).2 (H _ (by simp;omega)).2);have y0:=rA.out;have tK:=Z (s6.ch I (H _ (by omega)).2 (H _ (by omega)).2 (H _ (by omega)).2);have tE:=Z (rC.ch I (H _ (by omega)).2 (fun g J=>by cases J));have fT:Hid (Ch (aH mb) fK c6):=Z (hh.trans hm);have Bj:wb<a.heap.size/\mb<a.heap.size:=⟨Nat.lt_of_lt_of_le c3.lt c8.size,Nat.lt_of_lt_of_le bw.lt c8.size⟩;have AC:=cF.size;have cW:=th.out;have ct:=tl.out;have gO:=tr.out;obtain⟨⟨yR,pC⟩,vr,kN⟩:=cW;obtain⟨⟨yV,pX⟩,vs,kO⟩:=ct;obtain⟨⟨yW,p'⟩,vt,y3⟩:=gO;have cb:∀x,a.heap.size<=x->¬aH mb x/\¬aH wb x:=(fun x fr=>⟨fun e=>by have f:x=mb:=e;omega,fun e=>by have f:x=wb:=e;omega⟩);have tF:=Z (((pC.ch g2 (cb _ kN).1).ch fT (cb _ kN).1).ch I (cb _ kN).2);have tH:=Z (((pX.ch g2 (cb _ kO).1).ch fT (cb _ kO).1).ch I (cb _ kO).2);have tI:=Z ((p'.ch fT (cb _ (by omega)).1).ch I (cb _ (by omega)).2);obtain⟨N,Y⟩:=nm (vf l loop calls p en wi na);have tQ:Hid (Row wr wb 120 ((List.replicate q (aC.new N.loop)).flatMap fun x=>x.cells (.slice none 0 0))):=Z (by
         have:=hE.out;rw[A9]at this;rw[<-Y];exact this)
        have ok:pre=kV N (l7 mb m c d eG bX eS c4 eW (G.heap.size+1) G.heap.size qb fz qm (av.heap.size+1) av.heap.size (Q.heap.size+1) Q.heap.size tm wb g8 eI g9 eL hT gc):=(by rw[<-kb,<-Y,k4,c1,k5];rfl);have on:(ro.set 0 (bk m)).set 1 (bk eG)=hx (l7 mb m c d eG bX eS c4 eW (G.heap.size+1) G.heap.size qb fz qm (av.heap.size+1) av.heap.size (Q.heap.size+1) Q.heap.size tm wb g8 eI g9 eL hT gc) (.slice none 0 0) q 0 0 0 0:=(by rw[<-g5,<-c2];rfl);have os:fJ calls k=N.rows:=(by rw[<-Y,c1];rfl);have kf:=ne.out;rw[ok,on,os]at kf;have ku:N.wide.toNat=wi:=(by rw[<-Y];exact Int.toNat_natCast wi);have kt:N.narrow.toNat=na:=(by rw[<-Y];exact Int.toNat_natCast na);have nw:aO wr m c d (kp N q tt).mem:=(by show aO wr m c d (fY tt q N.wide.toNat N.narrow.toNat);rw[ku,kt];exact tK);have nu:aT wr eG m (.slice none 0 0) (kp N q tt).blocks:=(by show aT wr eG m (.slice none 0 0) ⟨17+8*q+N.wide.toNat+N.narrow.toNat,tt,[]⟩;rw[ku,kt];exact tE);have Bb:w.heap.size<=a5.heap.size:=Nat.le_trans c7.size c0.size;have zG:a5.heap.size<=a.heap.size:=Nat.le_trans rX.size c8.size;have z59:=cC.size;have y1:=eC.out;have yX:=aP.heap.map.lt;have yZ:=aP.fl.lt;have z2:=hw.lt;have At:=c8.size;have z0:=ns.Co;have nC:aW wr (av.heap.size+1) av.heap.size (List.replicate 64 aF.zero):=(by have h:=tO.out;rw[World.size_setCell]at h;exact h);have nx:bP wr (Q.heap.size+1) Q.heap.size (List.replicate 64 bq.zero):=(by have h:=tL.out;rw[World.size_setCell]at h;exact h);have o1:=uU (B:=w.heap.size) (C:=N) (n:=q) (tt:=tt) cL.2 kf nw nu tJ tN tM nC nx tP tQ (by rw[<-Y];exact tF) (by rw[<-Y];exact tH) (by rw[<-Y];exact tI)
         (by rw[<-Y];show l.length<=eI;rw[<-k4];exact vr) (by rw[<-Y];show calls.length<=eL;rw[<-c1];exact vs) (by rw[<-Y];show p.length<=gc;rw[<-k5];exact vt)
         (by omega) (fun e=>ni.1 e.symm) (fun e=>ni.2 e.symm) (by omega) (by omega) (by omega) (by omega) (by omega) (by omega) (by omega) (by omega) (by omega)
        have hv:=Z o1;have jI:=Z Y;have gr:=wM N q tt cL.1 cL.2 kd.2 (by rw[ku,kt];have:=g6.out;omega);obtain⟨rs,jf⟩:∃χ,hZ wr w.heap.size G.heap.size tm qm=χ:=⟨_,rfl⟩;rw[jf]at hv;have nt:Hid (∀i,rs i≠ .no->w.heap.size<=i):=Z (fun i F=>by rw[<-jf]at F;exact(pW F).1);have s9:Hid (hD rs):=Z (fun i=>by rw[<-jf];exact uS i);obtain⟨nQ,kG⟩:∃L,(l7 mb m c d eG bX eS c4 eW (G.heap.size+1) G.heap.size qb fz qm (av.heap.size+1) av.heap.size (Q.heap.size+1) Q.heap.size tm wb g8 eI g9 eL hT gc)=L:=⟨_,rfl⟩;rw[kG]at hv;have lo:nQ.mb=mb:=(by rw[<-kG];rfl);obtain⟨hF,kx⟩:∃K,kp N q tt=K:=⟨_,rfl⟩;rw[kx]at hv gr;have s2:=Z kx;have pq:=gr.bI.ok (by omega);have pr:=(nk gr.bI gr.mem 1).1.ok (by omega);have lc:=gr.fresh (by omega);have mW:=Z (vd en 0 pq pr lc hv);have s1:=Z (k6 (K:=hF) en 0 lc);rw[lo]at mW;have nc:=Z lo;have mC:Hid (Ch ag w wr):=Z (((c7.trans A).fresh ((cF.trans g2).trans fT) (fun x fr e=>(c9 x (by omega)) e)).fresh I (fun x fr e=>by have f:x=wb:=e;omega));have zE:=(((S.ch A id).ch ((cF.trans g2).trans fT) (c9 _ (by omega))).ch I (fun e=>by have f:w.heap.size+2=wb:=e;have bZ:=Nat.lt_of_lt_of_le S.lt c0.size;omega)).cell (i:=1) rfl;clear ok on os kf nw nu nC nx o1 jf kG kx pq pr lc lo Y pC pX p';go_wp2_with fail
        (with_reducible refine mW.out.mono ?_)
        rintro e ap ⟨rfl,dZ,Y1,f,rg⟩;have tT:=Z (rg s9);clear rg;have mL:=Z f;have ob:=f.at_.nX;rw[nc]at ob;clear f;go_wp2_with fail
        (with_reducible refine(yL _ mL.out.at_).mono ?_)
        rintro e zD ⟨⟨v,rfl,_⟩,x3,un,V,rn⟩;have tU:=Z (rn tT);clear rn;have mS:=Z (mL.trans s1 V);clear V ob;go_wp2
        go_ret2;have re:=mS.nx;refine Or.inl ⟨g6,x3,nQ,un,by rw[nc];rfl,?_,?_,tU,?_⟩
        ·have v9:hY (vf l loop calls p en wi na) q tt={(bQ hF en 0).2 with ring:=(hG (bQ hF en 0).2.ring (bQ hF en 0).1).2}:=by rw[jI,<-s2];unfold hY;rw[show N.entry=en by rw[<-jI];rfl]
         rw[v9,jI];exact mS.at_
        ·intro i F
         rcases Nat.lt_or_ge i wr.heap.size with h|h
         ·exact nt i (by rw[<-re.same i h];exact F)
         ·exact Nat.le_trans mC.size h
        ·exact mC.fresh re.ch (fun x fr ls=>by have:=nt x ls;omega)
section
variable{cg:Bool}{l:List be}
theorem Inv.C4{N M:Nat}{K:KS}(h:Inv N M K)(id:Int)(b:id≠0->(aw K.ai id).isSome=true/\ev K.wk K.ring id=0/\st K.table id≠3):Inv N M {K with ring:=(hG K.ring id).2}:=by
 refine⟨?_,h.nd,h.q,h.b2,h.bI,h.mem,h.obj,h.draw,h.w0,h.w1,h.out⟩;have c:=h.core;refine c.fW id c.cZ (fun _ _=>rfl) (fun _ _=>rfl) (fun j g _=>⟨Nat.le_refl _,?_⟩) c.wk (fun r k f=>c.al id r k f) (fun t m=>c.ai id t m) (fun a=> ?_) (fun a _=>⟨(b a).1,(b a).2.2⟩) (fun a i=> ?_)
 ·show ev K.wk (hG K.ring id).2 j<=ev K.wk K.ring j
  unfold ev;rw[(gz K.ring id j).2 g];exact Nat.le_refl _
 ·show ev K.wk (hG K.ring id).2 id<=1
  have d:=(b a).2.1;have e:=(gz K.ring id id).1;rw[if_pos rfl]at e;unfold ev at d⊢;omega
 ·have d:=(b a).2.1
  have e:0<iO K.wk id:=i;unfold ev at d;omega
theorem yN(home:Int):dh (List.replicate 64 aF.zero) home=(some 64,(List.replicate 64 aF.zero).set 0 ⟨1,true,aF.zero.bL,⟨64,1,home,0,0,false,false⟩⟩):=by rfl
theorem E3(home:Int):st ((List.replicate 64 aF.zero).set 0 ⟨1,true,aF.zero.bL,⟨64,1,home,0,0,false,false⟩⟩) 64=1:=by rfl
theorem tB(C:KC)(n tt:Nat)(g:1<=n)(h:n<=64)(j:tt<=65536)(i:17+8*n+C.wide.toNat+C.narrow.toNat<=tt):Inv 1 0 (hY C n tt):=by
 have f:=wM C n tt g h j i;obtain⟨d,_,e⟩:=f.born (by omega) C.entry 0 bE;unfold hY;dsimp only;refine d.C4 _ (fun c=> ?_);obtain⟨t,k,q⟩:=e c;refine⟨by rw[k];rfl,q,?_⟩;generalize a:bQ (kp C n tt) C.entry 0=x at c⊢;unfold bQ at a
 revert a
 cases df (kp C n tt).blocks (kp C n tt).mem 1 with
 |mk o p=>
  obtain⟨b,m⟩:=p;cases o with
  |none=>intro a;subst a;exact absurd rfl c
  |some r=>
   dsimp only;rw[show(kp C n tt).table=List.replicate 64 aF.zero from rfl,yN];intro a;subst a;dsimp only;rw[E3];decide
theorem p7(l:List bB):∀k,∀r∈fJ l k,0<=r/\r<=k
 |0,r,a=>by
  rw[(List.mem_replicate.1 a).2];exact⟨Int.le_refl _,Int.le_refl _⟩
 |k+1,r,a=>by
  rw[fJ]at a;rcases List.mem_or_eq_of_mem_set a with h|h
  ·have:=p7 l k r h;omega
  ·rw[h];omega
theorem oW(l:List bB):∀k,(fJ l k).length=1000
 |0=>List.length_replicate
 |k+1=>by rw[fJ,List.length_set];exact oW l k
theorem oX{n:Int}:∀{l:List be} {i:Nat},gQ n cg l i=none->∀x∈l,eD x n cg=true
 |[],_,_=>fun x a=>by cases a
 |y::l,i,h=>fun x a=>by
  unfold gQ at h;split at h
  ·rename_i c
   rcases List.mem_cons.1 a with rfl|b
   ·exact c
   ·exact oX h x b
  ·cases h
theorem yO(h:jw l cg=true):∀x∈l,eD x l.length cg=true:=by
 unfold jw at h;rw[Bool.and_eq_true]at h;exact oX (Option.isNone_iff_eq_none.1 h.2)
theorem wO{loop:Int}{calls:List bB}{p:List be}{en wi na:Int}(b:fG l loop calls=true)(a:eQ p en wi na=true)(d:calls.length<=2048)
 (u1:∀x∈l,aK x.v) (u2:∀x∈p,aK x.v):ow (vf l loop calls p en wi na) where
 ll:=(jX b).2
 pl:=(mg a).2
 cl:=d
 lv:=u1
 pv:=u2
 F4:=by
  have c:jw p false=true:=by
   unfold eQ at a;simp only[Bool.and_eq_true]at a;exact a.1.2
  exact yO c
 bw:=by have:=wN a;exact this
 Eu:=oW calls _
 rows:=p7 calls _
end
section
variable{w w':World}{χ aY:Nat->a'}{C:KC}{K:KS}{D:Nat->Prop}{B1 B3 mb:Nat}
theorem ae.rl{L:cU}{Y:Var}(h:ae w χ L Y C K)(c:Ch D w w')(f:∀i,i<w.heap.size->D i->χ i=.no):ae w' χ L Y C K:=by
 have s:eT [.no] χ χ D w w':=⟨c,fun i d hd=>by rw[f i d hd];simp,fun _ _=>rfl,fun i d=>Nat.lt_of_lt_of_le (h.small i d) c.size⟩;have b:=h.step s (by simp);exact {
  head:=fun _=>b.head (by simp)
  mem:=fun _=>b.mem (by simp)
  al:=fun _=>b.al (by simp)
  b2:=fun _=>b.b2 (by simp)
  ring:=fun _=>b.ring (by simp)
  q:=fun _=>b.q (by simp)
  cZ:=fun _=>b.cZ (by simp)
  obj:=fun _=>b.obj (by simp)
  tm:=fun _=>b.tm (by simp)
  th:=fun j u a _=>b.th j u a (by simp)
  tl:=fun j u a _=>b.tl j u a (by simp)
  fr:=fun j u k e a g _=>b.fr j u k e a g (by simp)
  wk:=fun _=>b.wk (by simp)
  out:=fun _=>b.out (by simp)
  code:=fun _=>b.code (by simp)
  small:=b.small}
def MS(w:World)(χ:Nat->a')(mb:Nat)(C:KC)(K:KS):Prop:=∃L Y,L.mb=mb/\ae w χ L Y C K/\∀i,χ i≠ .out
theorem MS.rl(h:MS w χ mb C K)(c:Ch D w w')(e:∀i,i<w.heap.size->D i->χ i=.no):MS w' χ mb C K:=by
 obtain⟨L,Y,a,b,d⟩:=h;exact⟨L,Y,a,b.rl c e,d⟩
theorem MS.af(h:MS w χ mb C K)(c:Ch ag w w'):MS w' χ mb C K:=h.rl c (fun _ _ e=>False.elim e)
theorem MS.small(h:MS w χ mb C K):∀i,χ i≠ .no->i<w.heap.size:=by
 obtain⟨L,Y,b,a,c⟩:=h;exact a.small
def HI(x:List Ev×KS)(χ:Nat->a')(mb:Nat)(C:KC)(w:World)(e:Ending)(w':World):Prop:=
 ∃v aY,e=.returned v/\w'.ownsRow w.heap.size 82 11 v x.1.length (x.1.flatMap Ev.cells)/\(∀g,v.ownBlock=some g->aY g=.no)/\MS w' aY mb C x.2/\Nx χ aY w w'
theorem A'{N:Nat}(j:ow C)(k:Inv N 0 K)(l:N<=300000)(kind wk draw:Int)(hd:aK draw)(h:MS w χ mb C K):
 Calls prog 13 #[(mb,0),.agg #[kind,wk,.int .u64 draw]] w (HI (ht C K kind wk draw) χ mb C w):=by
 obtain⟨L,Y,rfl,a,b⟩:=h;refine(CP j k l kind wk draw hd b a).mono ?_;rintro e w' ⟨v,aY,Y',rfl,c,d,f,g,i⟩;exact⟨v,aY,rfl,c,d,⟨L,Y',rfl,f,i⟩,g⟩
theorem rm{B:Nat}(c:∀i,χ i≠ .no->B<=i)(h:Nx χ aY w w')(d:B<=w.heap.size):∀i,aY i≠ .no->B<=i:=fun i b=>by
 rcases Nat.lt_or_ge i w.heap.size with a|a
 ·rw[h.same i a]at b;exact c i b
 ·omega
theorem iA{w0:World}(b:∀i,χ i≠ .no->w0.heap.size<=i)(h:Nx χ aY w w')(c:Ch ag w0 w):Ch ag w0 w':=c.fresh h.ch (fun i d a=>by have:=b i a;omega)
def E4(C:KC)(n tt:Nat)(w:World)(e:Ending)(w':World):Prop:=
 ∃mb χ,e=.returned (.tuple #[.pointer (some ⟨mb,0,none⟩),.nilIface])/\MS w' χ mb C (hY C n tt)/\(∀i,χ i≠ .no->w.heap.size<=i)/\Ch ag w w'
theorem iB{g:Nat}{l:List be}{c:List Value}(h:Row w g 184 (l.flatMap dn++c)):fN w g l:=
 ⟨h.lt,fun j u a=>h.cell (by
  have b:j<(l.flatMap dn).length:=(List.getElem?_eq_some_iff.1 a).1;rw[List.getElem?_append_left b];exact a)⟩
theorem Ba(n tt:Nat)(A:1<=n/\n<=64)(B:1<=tt/\tt<=65536)(l:List be)(loop:Int)(calls:List bB)(p:List be)(en:Int)(wi na:Nat)(z:calls.length<=100000)(d:0<calls.length)
 (b:fG l loop calls=true) (c:eQ p en wi na=true) (N:17+8*n+wi+na+1<=tt) (vc vk f:Value) {g:Nat} (w:World)
 (q:w.ownsRow B1 184 7 vc l.length (l.flatMap dn)) (r:w.ownsRow g 158 6 vk calls.length (calls.flatMap bB.cells)) (s:w.ownsRow B3 184 7 f p.length (p.flatMap dn))
 (y:w.cell? (0,0)=some (.iface 390 (.agg #[(4,85)]))):
 Calls prog 34 #[.agg #[.int .i64 n,.int .i64 tt],.agg #[vc,loop,vk],.agg #[f,en,.int .i64 wi,.int .i64 na]] w (E4 (vf l loop calls p en wi na) n tt w):=by
 obtain⟨m,i,O,rfl,_,F,_,I,_⟩:=aE q (jX b).1;obtain⟨a,j,E,rfl,_,G,_,J,_⟩:=aE r d;obtain⟨o,k,P,rfl,_,H,_,M,_⟩:=aE s (mg c).1;refine(tA n tt A B l m i loop calls (some ⟨a,0,none⟩) j p o k en wi na F G H z w (iB I) (iB M) (Or.inl ⟨a,E,rfl,d,J⟩) b c y).mono ?_;rintro e w' (⟨_,χ,L,Y,rfl,t,u,v,x⟩|⟨h,_⟩)
 rotate_left
 ·omega
 exact⟨L.mb,χ,rfl,⟨L,Y,rfl,t,v⟩,u,x⟩
end
def vg(l:List be):Bool:=l.all fun x=>decide (0<=x.v)&&decide (x.v<18446744073709551616)
theorem mh{l:List be}(h:vg l=true):∀x∈l,aK x.v:=fun x a=>by
 have:=List.all_eq_true.1 h x a;rw[Bool.and_eq_true,decide_eq_true_eq,decide_eq_true_eq]at this;exact this
structure oY where
 num:Int
 name:ByteArray
 Bd:ByteArray
 oZ:Int
 k0:Int
 k1:Int
 k2:Int
 k3:Int
def p9(r:oY):List Value:=[.int .i64 r.num,.string r.name,.string r.Bd,.int .i64 r.oZ,.int .i64 r.k0,.int .i64 r.k1,.int .i64 r.k2,.int .i64 r.k3]
theorem yS(r:oY):(p9 r).length=8:=rfl
def dJ:List oY:=[⟨1,⟨#[99,114,101,97,116,101]⟩,⟨#[99,98,111,114,110]⟩,17,0,0,0,0⟩,
 ⟨2,⟨#[101,120,105,116]⟩,⟨#[99,101,120,105,116]⟩,17,0,0,0,0⟩,
 ⟨3,⟨#[106,111,105,110]⟩,⟨#[99,106,111,105,110]⟩,17,0,0,0,0⟩,
 ⟨4,⟨#[100,101,116,97,99,104]⟩,⟨#[99,108,111,111,115,101]⟩,17,0,0,0,0⟩,
 ⟨5,⟨#[115,101,108,102]⟩,⟨#[99,115,101,108,102]⟩,17,0,0,0,0⟩,
 ⟨6,⟨#[121,105,101,108,100]⟩,⟨#[99,121,105,101,108,100]⟩,17,0,0,0,0⟩,
 ⟨7,⟨#[115,108,101,101,112]⟩,⟨#[99,115,108,101,101,112]⟩,17,0,0,0,0⟩,
 ⟨8,⟨#[110,111,119]⟩,⟨#[99,110,111,119]⟩,17,0,0,0,0⟩,
 ⟨10,⟨#[109,117,116,101,120,32,105,110,105,116]⟩,⟨#[99,109,105,110,105,116]⟩,18,0,0,0,0⟩,
 ⟨11,⟨#[109,117,116,101,120,32,100,101,115,116,114,111,121]⟩,⟨#[99,109,103,111,110,101]⟩,18,1,0,0,0⟩,
 ⟨12,⟨#[109,117,116,101,120,32,108,111,99,107]⟩,⟨#[99,109,108,111,99,107]⟩,18,1,0,0,0⟩,
 ⟨13,⟨#[109,117,116,101,120,32,116,114,121,108,111,99,107]⟩,⟨#[99,109,116,114,121]⟩,18,1,0,0,0⟩,
 ⟨14,⟨#[109,117,116,101,120,32,116,105,109,101,100,108,111,99,107]⟩,⟨#[99,109,116,105,109,101,100]⟩,18,1,0,0,0⟩,
 ⟨15,⟨#[109,117,116,101,120,32,117,110,108,111,99,107]⟩,⟨#[99,109,102,114,101,101]⟩,18,1,0,0,0⟩,
 ⟨20,⟨#[115,101,109,32,105,110,105,116]⟩,⟨#[99,115,105,110,105,116]⟩,19,0,0,0,0⟩,
 ⟨21,⟨#[115,101,109,32,100,101,115,116,114,111,121]⟩,⟨#[99,115,103,111,110,101]⟩,19,2,0,0,0⟩,
 ⟨22,⟨#[115,101,109,32,119,97,105,116]⟩,⟨#[99,115,119,97,105,116]⟩,19,2,0,0,0⟩,
 ⟨23,⟨#[115,101,109,32,116,114,121,119,97,105,116]⟩,⟨#[99,115,116,114,121]⟩,19,2,0,0,0⟩,
 ⟨24,⟨#[115,101,109,32,116,105,109,101,100,119,97,105,116]⟩,⟨#[99,115,116,105,109,101,100]⟩,19,2,0,0,0⟩,
 ⟨25,⟨#[115,101,109,32,112,111,115,116]⟩,⟨#[99,115,112,111,115,116]⟩,19,2,0,0,0⟩,
 ⟨26,⟨#[115,101,109,32,103,101,116]⟩,⟨#[99,115,103,101,116]⟩,19,2,0,0,0⟩,
 ⟨30,⟨#[111,110,99,101,32,105,110,105,116]⟩,⟨#[99,111,105,110,105,116]⟩,20,0,0,0,0⟩,
 ⟨31,⟨#[111,110,99,101]⟩,⟨#[99,111,110,99,101]⟩,20,3,0,0,0⟩,
 ⟨40,⟨#[98,97,114,114,105,101,114,32,105,110,105,116]⟩,⟨#[99,98,105,110,105,116]⟩,21,0,0,0,0⟩,
 ⟨41,⟨#[98,97,114,114,105,101,114,32,100,101,115,116,114,111,121]⟩,⟨#[99,98,103,111,110,101]⟩,21,4,0,0,0⟩,
 ⟨42,⟨#[98,97,114,114,105,101,114,32,119,97,105,116]⟩,⟨#[99,98,119,97,105,116]⟩,21,4,0,0,0⟩,
 ⟨50,⟨#[114,119,108,111,99,107,32,105,110,105,116]⟩,⟨#[99,114,105,110,105,116]⟩,22,0,0,0,0⟩,
 ⟨51,⟨#[114,119,108,111,99,107,32,100,101,115,116,114,111,121]⟩,⟨#[99,114,103,111,110,101]⟩,22,5,0,0,0⟩,
 ⟨52,⟨#[114,119,108,111,99,107,32,114,101,97,100]⟩,⟨#[99,114,114,101,97,100]⟩,22,5,0,0,0⟩,
 ⟨53,⟨#[114,119,108,111,99,107,32,116,114,121,114,101,97,100]⟩,⟨#[99,114,116,114,121,114]⟩,22,5,0,0,0⟩,
 ⟨54,⟨#[114,119,108,111,99,107,32,116,105,109,101,100,114,101,97,100]⟩,⟨#[99,114,116,114,101,97,100]⟩,22,5,0,0,0⟩,
 ⟨55,⟨#[114,119,108,111,99,107,32,119,114,105,116,101]⟩,⟨#[99,114,119,114,105,116,101]⟩,22,5,0,0,0⟩,
 ⟨56,⟨#[114,119,108,111,99,107,32,116,114,121,119,114,105,116,101]⟩,⟨#[99,114,116,114,121,119]⟩,22,5,0,0,0⟩,
 ⟨57,⟨#[114,119,108,111,99,107,32,116,105,109,101,100,119,114,105,116,101]⟩,⟨#[99,114,116,119,114,105,116]⟩,22,5,0,0,0⟩,
 ⟨58,⟨#[114,119,108,111,99,107,32,117,110,108,111,99,107]⟩,⟨#[99,114,102,114,101,101]⟩,22,5,0,0,0⟩,
 ⟨60,⟨#[99,111,110,100,32,105,110,105,116]⟩,⟨#[99,99,105,110,105,116]⟩,23,0,0,0,0⟩,
 ⟨61,⟨#[99,111,110,100,32,100,101,115,116,114,111,121]⟩,⟨#[99,99,103,111,110,101]⟩,23,6,0,0,0⟩,
 ⟨62,⟨#[99,111,110,100,32,119,97,105,116]⟩,⟨#[99,99,119,97,105,116]⟩,23,6,1,0,0⟩,
 ⟨63,⟨#[99,111,110,100,32,116,105,109,101,100,119,97,105,116]⟩,⟨#[99,99,116,105,109,101,100]⟩,23,6,1,0,0⟩,
 ⟨64,⟨#[99,111,110,100,32,115,105,103,110,97,108]⟩,⟨#[99,99,115,105,103,110]⟩,23,6,0,0,0⟩,
 ⟨65,⟨#[99,111,110,100,32,98,114,111,97,100,99,97,115,116]⟩,⟨#[99,99,98,114,111,97,100]⟩,23,6,0,0,0⟩,
 ⟨70,⟨#[102,117,116,101,120,32,119,97,105,116]⟩,⟨#[99,102,119,97,105,116]⟩,16,7,0,0,0⟩,
 ⟨71,⟨#[102,117,116,101,120,32,119,97,107,101]⟩,⟨#[99,102,119,97,107,101]⟩,16,7,0,0,0⟩,
 ⟨72,⟨#[102,117,116,101,120,32,114,101,113,117,101,117,101]⟩,⟨#[99,102,114,101,113]⟩,16,7,0,7,0⟩,
 ⟨73,⟨#[102,117,116,101,120,32,99,109,112,114,101,113,117,101,117,101]⟩,⟨#[99,102,99,109,112]⟩,16,7,0,7,0⟩]
theorem yT{P:Program}{o:Oper}{a:Act}{w w':World}{next:Act->World->Prop}{Q:Exit->Act->World->Prop}{v:Value}(h:(execOp a.eval o).run P w=.ok (.value v) w')(k:next (a.put o.dst v) w'):o.wp P a w next Q:=by
 unfold Oper.wp;rw[h];exact k
set_option maxRecDepth 1000000 in
theorem yU(w:World):Calls prog 98 #[] w (fun e w'=>e=.returned (.slice (some (w.heap.size,0)) 45 45)/\Row w' w.heap.size 245 (dJ.flatMap p9)/\Ch ag w w'):=by
 go_wp2
 refine yT (v:=.slice (some (w.heap.size,0)) 45 45) (w':=w.alloc (.cells (dJ.flatMap p9).toArray 245)) (by kernel_rfl) ?_;go_wp2
 go_ret;refine⟨rfl,?_,ay⟩;have h:=Row.new w (dJ.flatMap p9).toArray 245;exact h
variable{w':World}{B lb:Nat}{vc vk:Value}
def dQ(w w':World):Prop:=∀(k:Nat) (c:Array Value) (t:TypeId) (f:Nat×Nat),t≠90->t≠158->w.heap[k]?=some (.cells c t f)->w'.heap[k]?=some (.cells c t f)
theorem dQ.refl(w:World):dQ w w:=fun _ _ _ _ _ _ h=>h
theorem dQ.trans{a b c:World}(h:dQ a b)(g:dQ b c):dQ a c:=fun k x t f d e i=>g k x t f d e (h k x t f d e i)
theorem dQ.row(h:dQ w w'){b:Nat}{t:TypeId}{l:List Value}(d:Row w b t l)(a:t≠90)(c:t≠158):Row w' b t l:=h b _ t _ a c d
theorem dQ.fj{D:Nat->Prop}(c:Ch D w w')(hd:∀k x t f,D k->w.heap[k]?=some (.cells x t f)->t=90∨t=158):dQ w w':=by
 intro k x t f d e a;rw[c.same k (Array.getElem?_eq_some_iff.1 a).1 (fun b=>by rcases hd k x t f b a with h|h<;>contradiction)];exact a
theorem dQ.own(h:dQ w w'){e:TypeId}{s n:Nat}{v:Value}{xs:List Value}(a:w.ownsRow B e s v n xs)(b:e≠90)(c:e≠158):w'.ownsRow B e s v n xs:=by
 refine⟨a.1,?_⟩;rcases a.2 with d|⟨g,cap,cur,rfl,i,j,f⟩
 ·exact Or.inl d
 ·exact Or.inr ⟨g,cap,cur,rfl,i,h g _ e _ b c j,f⟩
structure m8(w:World)(B lb:Nat)(vc vk:Value)(loop:Int)(calls:List bB):Prop where
 row:Row w lb 90 [vc,loop,vk]
 hB:B<=lb
 own:w.ownsRow B 158 6 vk calls.length (calls.flatMap bB.cells)
theorem m8.af{loop:Int}{calls:List bB}(h:m8 w B lb vc vk loop calls)(c:Ch ag w w'):m8 w' B lb vc vk loop calls:=⟨h.row.ch c id,h.hB,ak h.own c (fun _ _ e=>e)⟩
theorem m8.app{w1:World}{v':Value}{loop:Int}{calls:List bB}(h:m8 w B lb vc vk loop calls)(n:B<=w.heap.size)(y:bB)
 (m:w1.ownsRow B 158 6 v' (calls.length+1) (calls.flatMap bB.cells++y.cells)) (d:w.grownBy w1 vk.ownBlock):
 m8 (w1.setCell (lb,2) v') B lb vc v' loop (calls++[y])/\Below B w (w1.setCell (lb,2) v')/\dQ w (w1.setCell (lb,2) v'):=by
 have c:=kq (p:=lb) (j:=2) (u:=v') d;have g:Row w1 lb 90 [vc,loop,vk]:=by
  unfold Row;rw[d.block lb h.row.lt (fun e=>bm h.own h.row (by decide) e.symm)];exact h.row
 refine⟨⟨g.bc _ _ rfl,h.hB,?_⟩,f' c h.own h.hB n,?_⟩
 ·have:=dT (j:=2) (u:=v') m g (by decide)
  rw[List.flatMap_append,List.length_append];simpa using this
 ·refine dQ.fj c (fun k x t f b a=> ?_)
  rcases b with rfl|b
  ·exact Or.inl (eM h.row a)
  ·obtain⟨_,cs,i⟩:=bW h.own b
   rw[i]at a;injection a with a;injection a with _ l _
   exact Or.inr l.symm
theorem Bg:(prog.info? 158).map (fun i=>(i.zero,i.size,i.bytes))=some (some (.agg #[.int .i64 0,.int .i64 0,.int .i64 0,.int .i64 0,.int .i64 0,.int .i64 0]),6,48):=by kernel_rfl
theorem L':dJ.length=45:=by kernel_rfl
theorem J5{w:World}{B b:Nat}{e:TypeId}{z n:Nat}{v:Value}{xs:List Value}(h:w.ownsRow B e z v n xs)(i:b<=B):w.ownsRow b e z v n xs:=by
 refine⟨h.1,?_⟩;rcases h.2 with a|⟨g,c,cur,d,a,f⟩
 ·exact Or.inl a
 ·exact Or.inr ⟨g,c,cur,d,Nat.le_trans i a,f⟩
def Nu:List (ByteArray×Int):=[(⟨#[104,110,100]⟩,29),(⟨#[106,122]⟩,13),(⟨#[119,114,107]⟩,38),(⟨#[108,100]⟩,17),(⟨#[115,117,98]⟩,4),(⟨#[108,116]⟩,11),(⟨#[97,110,100]⟩,5),(⟨#[97,100,100]⟩,3),(⟨#[115,116]⟩,18),(⟨#[108,97,121]⟩,31),(⟨#[115,101,116]⟩,1),(⟨#[102,97,100]⟩,20),(⟨#[114,101,116]⟩,16),(⟨#[103,101,116]⟩,43),(⟨#[101,113]⟩,10),(⟨#[106,110,122]⟩,14),(⟨#[109,111,118]⟩,2),(⟨#[105,110,106]⟩,33),(⟨#[106,109,112]⟩,12),(⟨#[112,105,107]⟩,30),(⟨#[116,97,107]⟩,32),(⟨#[100,114,119]⟩,42),(⟨#[115,104,114]⟩,9),(⟨#[119,107,100]⟩,39),(⟨#[106,115,114]⟩,15),(⟨#[116,110,119]⟩,48)]
set_option maxRecDepth 1000000 in
theorem M3:(Nu.all fun p=>Kb p.1==p.2)=true:=by kernel_rfl
def MT(s:ByteArray):Int:=match Nu.find? (fun p=>decide (p.1=s))with
 |some p=>p.2
 |none=>Kb s
theorem M4(s:ByteArray):Kb s=MT s:=by
 unfold MT;split
 ·rename_i p h
  have a:=List.find?_some (p:=fun p:ByteArray×Int=>decide (p.1=s)) h;have a:p.1=s:=of_decide_eq_true a;have b:=List.all_eq_true.1 M3 p (List.mem_of_find?_eq_some h);rw[<-a];exact eq_of_beq b
 ·rfl
def MD(st:w3)(rest:List ByteArray)(line:Int)(op:Int)(K:Int×Int×Int):Except Bool w3:=
 if op=0 then .error true
 else if Ik (IG K) rest then .error true
 else JB (IG K) rest (HZ line K rest (IG K) 0 st (Kd op))
theorem ME(st:w3)(w0:ByteArray)(rest:List ByteArray)(line:Int):IL st w0 rest line=MD st rest line (MT w0) (H0 (MT w0)):=by
 unfold IL MD;rw[M4]
def Mb(st:w3)(line:Int):List ByteArray->Except Bool w3
 |[]=> .ok st
 |w0::rest=>if rest=[]/\sv w0 (w0.size-1)=58 then KU st (w0.extract 0 (w0.size-1)) line else MD st rest line (MT w0) (H0 (MT w0))
theorem Mc(st:w3)(line:Int)(a:List ByteArray):JZ st line a=Mb st line a:=by
 cases a with
 |nil=>rfl
 |cons w0 rest=>
  show(if rest=[]/\sv w0 (w0.size-1)=58 then KU st (w0.extract 0 (w0.size-1)) line else IL st w0 rest line)=if rest=[]/\sv w0 (w0.size-1)=58 then KU st (w0.extract 0 (w0.size-1)) line else MD st rest line (MT w0) (H0 (MT w0))
  rw[ME]
def J6:List ByteArray->Int->w3->Except (Bool×Int) w3
 |[],_,st=> .ok st
 |l::ls,i,st=>match Mb st i (H3 l)with
  |.ok a=>J6 ls (i+1) a
  |.error t=> .error (t,i)
theorem Km:∀(ls:List ByteArray) (i:Int) (st:w3),Il ls i st=J6 ls i st
 |[],_,_=>rfl
 |l::ls,i,st=>by
  unfold Il J6 J0;rw[Mc];cases Mb st i (H3 l)with
  |ok a=>exact Km ls (i+1) a
  |error t=>rfl
def J7(ls:List ByteArray):Except (Bool×Int) (List be×List (ByteArray×Int)):=
 match J6 ls 0 IQ with
 |.error t=> .error t
 |.ok st=>match ID st with
  |some r=> .ok r
  |none=> .error (false,0)
theorem LQ(ls:List ByteArray):IK ls=J7 ls:=by
 unfold IK J7;rw[Km];cases J6 ls 0 IQ with
 |error t=>rfl
 |ok st=>rfl
def Nv:Operand->List ByteArray
 |.const (.string s)=>[s]
 |_=>[]
def Nr:Op->List ByteArray
 |.assign a=>Nv a
 |.binOp _ _ _ b _=>Nv b
 |_=>[]
def MF:Code->List ByteArray
 |.seq a b=>MF a++MF b
 |.region _ ops _=>ops.toList.flatMap fun o=>Nr o.op
 |_=>[]
def Mq(r:Except (Bool×Int) (List be×List (ByteArray×Int))):List (ByteArray×Int):=match r with
 |.ok p=>p.2
 |.error _=>[]
def Nw(r:Except (Bool×Int) (List be×List (ByteArray×Int))):List be:=match r with
 |.ok p=>p.1
 |.error _=>[]
theorem Nh{r:Except (Bool×Int) (List be×List (ByteArray×Int))}{c:List be}(h:Nw r=c)(a:c≠[]):r=.ok (c,Mq r):=by
 cases r with
 |error t=>exact absurd h.symm a
 |ok p=>rw[<-h];rfl
def Mr(a:Option Code)(i:Nat):List UInt8:=(((a.map MF).getD []).getD i ByteArray.empty).data.toList
theorem Lj:(dJ.all fun r=>decide (15<r.oZ))=true:=by kernel_rfl
def MU(code:List be)(a b:Int)(w:World)(e:Ending)(w':World):Prop:=
 ∃vc vk,e=.returned (.tuple #[.agg #[vc,a,vk],.bool true])/\w'.ownsRow w.heap.size 184 7 vc code.length (code.flatMap dn)/\w'.ownsRow w.heap.size 158 6 vk 1 (bB.cells ⟨1,b,0,0,0,0⟩)/\Ch ag w w'
theorem Lk(T:ByteArray)(code:List be)(labels:List (ByteArray×Int))(eI:Iu T=.ok (code,labels))(fK:T.size<=65536)(gc:0<code.length)(gf:0<labels.length)(eG:labels.length<=1000000)
 (d:Int) (fd:Jk ⟨#[108,111,111,112]⟩ labels=(d,true)) (G:Int) (fM:Jk ⟨#[120,98,111,114,110]⟩ labels=(G,true)) (m:Int) (w:World) (c7:w.cell? (1,0)=some (.int .i64 m)):
 Calls prog 52 #[.agg #[.string T,.int .i64 15]] w (MU code d G w):=by
 have bw:Hid (∀W,Ch ag w W->Calls prog 96 #[.string T] W (fun e w'=>∃vl vb,e=.returned (.tuple #[vl,vb,.nilIface])/\w'.ownsRow W.heap.size 184 7 vl code.length (b4 code)/\w'.ownsRow W.heap.size 301 2 vb labels.length (HV labels)/\Ch ag W w')):=Z (fun W c=>by
  refine(LN T fK m W ((c.cell (aQ c7) id).trans c7)).mono ?_;intro e w' h;rw[eI]at h;obtain⟨vl,vb,q,z,X,J⟩:=h;exact⟨vl,vb,q,z,X,Ch.bT J⟩)
 have R:Hid (∀W nm g c ch,labels.length<=c->Row W g 301 (HV labels++ch)->Calls prog 97 #[.slice (some ⟨g,0,none⟩) labels.length c,.string nm] W (fun e w'=>e=.returned (.tuple #[.int .i64 (Jk nm labels).1,.bool (Jk nm labels).2])/\Ch ag W w')):=Z (fun W nm g c ch A c8=>by
  refine(MA labels nm g c eG A W c8.lt (fun i u cb=>c8.cell (by rw[List.getElem?_append_left (List.getElem?_eq_some_iff.1 cb).1];exact cb))).mono ?_;rintro e w' ⟨q,z⟩;exact⟨q,Ch.bT z⟩)
 have cA:=Z (fun w=>yU w);have di:=Z fd;have ey:=Z fM;obtain⟨f,c3⟩:=nm code.length;obtain⟨eA,c2⟩:=nm labels.length;have dp:=Z c3;have gd:(0:Int)<f:=by omega
 have gF:¬(f:Int)=0:=by omega
 rw[c3,c2]at bw;rw[c2]at R;obtain⟨B,Y⟩:=nm w.heap.size;have ct:=Z Y;have eC:0<eA:=by omega
 have cW:=Z eC;go_in
 go_wp2_with fail
 obtain⟨w0,L⟩:=nm ((w.alloc (.cells #[.string T,.int .i64 15] 73)).alloc (.cells #[.slice none 0 0,.int .i64 0,.slice none 0 0] 90));have M:Hid (Ch ag w w0):=Z (by rw[<-L];exact ay);have dC:Hid (Row w0 B 73 [.string T,.int .i64 15]):=Z (by rw[<-L,<-Y];exact(Row.new _ _ _).alloc _);have bZ:Hid (Row w0 (B+1) 90 [.slice none 0 0,.int .i64 0,.slice none 0 0]):=Z (by
  rw[<-L,<-Y];have:=Row.new (w.alloc (.cells #[.string T,.int .i64 15] 73)) #[.slice none 0 0,.int .i64 0,.slice none 0 0] 90;rw[World.size_alloc]at this;exact this)
 try rw[L]
 with_reducible refine(bw.out _ M.out).mono ?_
 rintro e w1 ⟨vl,vb,rfl,A,fb,K⟩;obtain⟨c1,c0,ce,rfl,_,eL,_,fz,_⟩:=aE fb cW;obtain⟨o,p,rfl⟩:=au A;have bX:=Z fz;have aP:=Z eL;have bv:=Z A;have al:Hid (Ch ag w w1):=Z (M.trans K);have bx:=Z (dC.ch K id);have V:=Z (bZ.ch K id);have g6:=Z K.size;go_wp2_with fail
 obtain⟨lb,a1⟩:=nm w1.heap.size;obtain⟨w2,a2⟩:=nm (w1.alloc (.cells #[.slice o f p,.int .i64 0,.slice none 0 0] 90));have cL:Hid (Row w2 lb 90 [.slice o f p,.int .i64 0,.slice none 0 0]):=Z (by rw[<-a2,<-a1];exact Row.new _ _ _);have ap:=Z (Ch.al (D:=ag) a2);have g4:Hid (B+1<lb):=Z (by rw[<-a1];exact V.lt);have bd:Hid (w1.heap.size<=lb):=Z (by omega);rw[a2,a1];with_reducible refine(R.out w2 _ c1 c0 ce aP.out (bX.out.ch ap.out id)).mono ?_
 rintro e ab ⟨rfl,c4⟩;rw[di];have S:=Z (cL.ch c4 id);have cm:Hid (Ch ag w1 ab):=Z (ap.trans c4);have ad:=S.k 1 rfl;have f1:=S.free 1;go_wp2_with fail
 obtain⟨w4,a3⟩:=nm (ab.setCell (lb,1) (.int .i64 d));have bb:Hid (Row w4 lb 90 [.slice o f p,d,.slice none 0 0]):=Z (by rw[<-a3];exact S.bc _ _ rfl);have cq:Hid (Ch ag w1 w4):=Z (cm.fresh (show Ch (aH lb) ab w4 by rw[<-a3];exact ay) (fun i eW e=>by have e:i=lb:=e;have:=bd.out;omega));rw[a3];with_reducible refine(cA.out _).mono ?_
 rintro e ci ⟨rfl,c9,c5⟩;obtain⟨tb,ca⟩:=nm w4.heap.size;rw[ca]at c9⊢;have et:Hid (lb<tb):=Z (by rw[<-ca];exact bb.lt);have en:=Z c9;have cQ:=Z (bb.ch c5 id);have av:Hid (Ch ag w1 ci):=Z (cq.trans c5);go_wp2_with fail
 with_reducible refine(R.out ci _ c1 c0 ce aP.out (bX.out.ch av.out id)).mono ?_
 rintro e j ⟨rfl,a0⟩;rw[ey];have U:=Z (cQ.ch a0 id);have es:=Z (en.ch a0 id);have H:Hid (Ch ag w1 j):=Z (av.trans a0);have g5:=Z (bx.ch H id);obtain⟨g1,e',fO,fT,g0⟩:=info_parts Bg;have cF:=Z e';have g2:=U.k 2 rfl;go_wp2_with (at_builtin;refine wpList_append_lies _ rfl _ _ _ rfl j.heap.size 158 g1 _ 6 48 underlying88 cF fO fT g0 rfl (by omega) (.slice none 0 0) 0 [] rfl ⟨rfl,Or.inl ⟨rfl,rfl⟩⟩ ⟨j.heap.size,0,none⟩ 1 1 [.int .i64 1,G,.int .i64 0,.int .i64 0,.int .i64 0,.int .i64 0] rfl rfl (World.news_of_block (cs:=#[.int .i64 1,G,.int .i64 0,.int .i64 0,.int .i64 0,.int .i64 0]) (t:=158) (fr:=(0,0)) (heap_alloc_new j _)) (by simp[Value.oneCell']) (by omega) (by unfold maxLen;omega) (by omega) (by simp) (j.heap.size+1) (by simp) ?_)
 intro y r l fn eS gk gt;have N:Hid (Ch ag j l):=Z (eX ay (B:=j.heap.size) (e:=158) (s:=6) (u:=.slice none 0 0) (n:=0) (xs:=[]) ⟨rfl,Or.inl ⟨rfl,rfl⟩⟩ (Nat.le_refl _) (ao eS));have bi:Hid (l.ownsRow j.heap.size 158 6 (.slice (some (y,0)) 1 r) 1 (bB.cells ⟨1,G,0,0,0,0⟩)):=Z fn;have C:=Z (U.ch N id);have g2:=C.k 2 rfl;have f2:=C.free 2;go_upto_block 0 with fail
 obtain⟨wv,a5⟩:=nm (l.setCell (lb,2) (.slice (some (y,0)) 1 r));rw[a5];have cS:Hid (Row wv lb 90 [.slice o f p,d,.slice (some (y,0)) 1 r]):=Z (by rw[<-a5];exact C.bc _ _ rfl);have P:Hid (Ch (aH lb) l wv):=Z (by rw[<-a5];exact ay);have ex:=Z ((es.ch N id).ch P (fun e=>by have e:tb=lb:=e;have:=et.out;omega));have dr:=Z (ak bi P (fun g F e=>by have e:g=lb:=e;have q:=(bi.lt g F).1;have z:=U.lt;omega));have am:Hid (Ch ag w1 wv):=Z ((H.trans N).fresh P (fun i eW e=>by have e:i=lb:=e;have:=bd.out;omega));have dN:=Z (bx.ch am id);go_cut [8,9] (fun a b wc=>a=.int .i64 d/\b=.bool true/\Ch ag wv wc)
 case first=>
  go_wp2
  go_loopw [8,9,13] (fun a b i wr=>∃k:Nat,k<=45/\a=.int .i64 d/\b=.bool true/\i=.int .i64 k/\Ch ag wv wr) (fun _ _ i _=>45-(intOf i).toNat)
  case atStart=>exact⟨0,by omega,rfl,rfl,rfl,Ch.refl _ _⟩
  case round=>
   obtain⟨k,go,rfl,rfl,rfl,A⟩:=hrel;have I:=Z A;by_cases fk:k<45
   ·have c6:k<dJ.length:=by rw[L'];exact fk
    obtain⟨x,cd⟩:=nm (dJ[k]);have a9:dJ[k]?=some x:=(by rw[List.getElem?_eq_getElem c6,cd]);have gs:15<x.oZ:=of_decide_eq_true (List.all_eq_true.1 Lj x (List.mem_of_getElem? a9));have gG:wr.cell? (tb,k*8+3)=some (.int .i64 x.oZ):=(ex.ch I id).cell ((bJ yS a9 (by omega)).trans rfl);have ad:wr.cell? (B,1)=some (.int .i64 15):=(dN.ch I id).cell (i:=1) rfl;have gr:(k:Int)<45:=(by omega);clear a9 cd c6;go_wp2
    go_quiet (fail)
    go_wp2
    go_roundw
    case rel=>exact⟨k+1,by omega,rfl,rfl,by go_num,by repeat(first|exact I.out|with_reducible refine Ch.drewN ?_ _|with_reducible refine Ch.drew ?_)⟩
    case measure=>simp[intOf];omega
   ·obtain rfl:k=45:=by omega
    go_wp2
    go_meet
    exact⟨rfl,rfl,I⟩
 case rest=>
  obtain⟨rfl,rfl,hcut⟩:=hcut;obtain⟨l,fL⟩:=nm wc;rw[fL]at hcut⊢;have C:=Z (cS.ch hcut id);have O:Hid (Ch ag w1 l):=Z (am.trans hcut);have E:=Z (V.ch O id);have cC:=Z hcut;obtain⟨gH,gO,gP⟩:=C.c3;obtain⟨x0,x1,x2⟩:=E.c3;have g7:=E.free 0;have g8:=E.free 1;have g9:=E.free 2;go_wp2
  obtain⟨cl,a4⟩:=nm ((((l.setCell (B+1,0) (.slice o f p)).setCell (B+1,1) (.int .i64 d)).setCell (B+1,2) (.slice (some (y,0)) 1 r)));have e4:Hid (Row cl (B+1) 90 [.slice o f p,d,.slice (some (y,0)) 1 r]):=Z (by rw[<-a4];exact((E.set 0 _).set 1 _).set 2 _);have Q:Hid (Ch (aH (B+1)) l cl):=Z (by rw[<-a4];exact ay);rw[a4];obtain⟨y0,ad,g3⟩:=e4.c3;refine bodyPost_ret (v:=.tuple #[.agg #[.slice o f p,d,.slice (some (y,0)) 1 r],.bool true]) ?_ rfl ?_
  ·simp[results,Tryz.f52,go_sem,y0,ad,g3]
  ·refine⟨_,_,rfl,?_,?_,(al.trans O).fresh Q (fun b hb e=>by have q:b=B+1:=e;have:=ct.out;omega)⟩
   ·rw[dp]
    refine J5 (ak (ak bv O (fun _ _ e=>e)) Q (fun g F e=> ?_)) M.size;have q:g=B+1:=e;have z:=(bv.lt g F).1;have X:=bZ.lt;omega
   ·have J:=dr.out
    refine J5 (ak (ak J cC (fun _ _ e=>e)) Q (fun g F e=> ?_)) (Nat.le_trans al.size H.size);have q:g=B+1:=e;have z:=(J.lt g F).1;have X:=V.lt;have ge:=H.size;omega
def Ns(n:Nat):be:=⟨(n%64:Nat),(n/64%32:Nat),(n/2048%64:Nat)-1,(n/131072%64:Nat)-1,(n/8388608%256:Nat),(n/2147483648:Nat),0⟩
def Iv:List be:=List.map Ns [
 134173,151129101,134246,8557713,169169,16946449,175441,2661764,2932107,159518093,8435012,2923845,2927939,8565778,8428675,8557727,8523201,132564,133136,134352257,
 3061131,360844685,2930179,8441411,185963,360844877,185874,2532746,327290254,8435076,3057029,3059075,8568273,8441220,3057029,3069315,8568274,8430787,226625548,16946770,
 185602,183618,84019212,133153,133136,134246,8557713,8428676,8557714,169169,2661771,587337102,16946449,175441,8435012,2923845,2927939,8565777,2661770,520228238,
 134174,133136,173442,8431043,3184032,8558034,2669962,578948494,134145,133136,8557778,134145,133136,169169,8557713,2532747,738332045,16946449,175441,8435012,
 2925893,2927939,8565777,173442,8431043,3184032,2669962,746720654,134145,133136,131089,8392771,58724485,981600397,33560778,1006766286,16783562,1023543502,377620495,1057098766,
 134178,1057098766,133290,138343,612501519,1057098766,133313,133288,401547,964823181,140391,612501519,1057098766,8396995,897714188,133156,755107852,134178,1057098766,822216716,
 134246,1040320524,25170057,138343,612501519,822217741,134179,755107852,2147748016,133135,137282,133121,133178]
def JD:List be:=[
 ⟨1,0,0,0,5,0,0⟩,⟨22,0,0,0,1,0,0⟩,⟨1,2,0,0,1,0,0⟩,⟨20,2,-1,0,0,0,0⟩,⟨12,0,0,0,2,0,0⟩,⟨1,2,0,0,1,0,0⟩,
 ⟨20,2,-1,0,1,0,0⟩,⟨12,0,0,0,5,0,0⟩]
def Kn:List be:=[
 ⟨1,1,0,0,7,0,0⟩,⟨18,1,-1,0,0,0,0⟩,⟨16,0,0,0,0,0,0⟩]
set_option maxRecDepth 1000000 in
theorem Md:Nw (J7 ((IM (Mr Tryz.f53.body 1++Mr Tryz.f56.body 1++Mr Tryz.f30.body 0)).map LO))=Iv:=by kernel_rfl
def Me(a:Except (Bool×Int) (List be×List (ByteArray×Int))):Bool:=decide (0<(Mq a).length/\(Mq a).length<=1000000)&&decide (Jk ⟨#[108,111,111,112]⟩ (Mq a)=(90,true))&&decide (Jk ⟨#[120,98,111,114,110]⟩ (Mq a)=(128,true))
set_option maxRecDepth 1000000 in
theorem Mf:Me (J7 ((IM (Mr Tryz.f53.body 1++Mr Tryz.f56.body 1++Mr Tryz.f30.body 0)).map LO))=true:=by kernel_rfl
set_option maxRecDepth 1000000 in
theorem Mg:decide ((Mr Tryz.f53.body 1++Mr Tryz.f56.body 1++Mr Tryz.f30.body 0).length<=65536)=true:=by kernel_rfl
structure Jl(T U D:ByteArray)(L:List (ByteArray×Int)):Prop where
 t:T=((Tryz.f53.body.map MF).getD []).getD 1 ByteArray.empty
 u:U=((Tryz.f56.body.map MF).getD []).getD 1 ByteArray.empty
 d:D=((Tryz.f30.body.map MF).getD []).getD 0 ByteArray.empty
 p:Iu (T++U++D)=.ok (Iv,L)
 s:(T++U++D).size<=65536
 l0:0<L.length
 l1:L.length<=1000000
 loop:Jk ⟨#[108,111,111,112]⟩ L=(90,true)
 born:Jk ⟨#[120,98,111,114,110]⟩ L=(128,true)
theorem Mh:∃T U D L,Jl T U D L:=by
 have h:=Mf;have hd:=Md;have a:=of_decide_eq_true Mg;obtain⟨T,d⟩:=nm (((Tryz.f53.body.map MF).getD []).getD 1 ByteArray.empty);obtain⟨U,f⟩:=nm (((Tryz.f56.body.map MF).getD []).getD 1 ByteArray.empty);obtain⟨D,b⟩:=nm (((Tryz.f30.body.map MF).getD []).getD 0 ByteArray.empty);unfold Mr at h hd a;rw[d,f,b]at h hd a;obtain⟨g,c⟩:=nm (J7 ((IM (T.data.toList++U.data.toList++D.data.toList)).map LO));rw[c]at h hd;unfold Me at h;simp only[Bool.and_eq_true,decide_eq_true_eq]at h;obtain⟨⟨⟨i,j⟩,k⟩,l⟩:=h;refine⟨T,U,D,Mq g,d.symm,f.symm,b.symm,?_,?_,i,j,k,l⟩
 ·rw[LP,LQ,show(T++U).data.toList=T.data.toList++U.data.toList by simp,c]
  exact Nh hd (fun e=>by cases e)
 ·rw[List.length_append,List.length_append]at a
  rw[ByteArray.size_append,ByteArray.size_append];exact a
variable{T U D:ByteArray}{L:List (ByteArray×Int)}
set_option maxRecDepth 1000000 in
theorem Ll(X:Jl T U D L)(w:World):Calls prog 53 #[] w (fun e w'=>e=.returned (.string T)/\w'=w):=by
 have a:=Z X.t;go_wp2
 go_ret;refine⟨?_,rfl⟩;rw[a]
 kernel_rfl
set_option maxRecDepth 1000000 in
theorem LR(X:Jl T U D L)(w:World):Calls prog 56 #[] w (fun e w'=>e=.returned (.string U)/\w'=w):=by
 have a:=Z X.u;go_wp2
 go_ret;refine⟨?_,rfl⟩;rw[a]
 kernel_rfl
set_option maxRecDepth 1000000 in
theorem KZ(X:Jl T U D L)(w:World):Calls prog 30 #[] w (ds (.agg #[.string (T++U++D),.int .i64 15]) w):=by
 have b:=Z (Ll X);have c:=Z (LR X);have j:Hid (∀Y,Y=D->(ds (.agg #[.string (T++U++D),.int .i64 15]) w=ds (.agg #[.string (T++U++Y),.int .i64 15]) w)):=Z (fun Y e=>by rw[e]);have g:=Z X.d;have hb:(T++U++D).size<=65536:=X.s;rw[ByteArray.size_append,ByteArray.size_append]at hb;go_in
 go_wp2_with fail
 with_reducible refine(b.out _).mono ?_
 rintro e w1 ⟨rfl,rfl⟩;go_wp2_with fail
 with_reducible refine(c.out _).mono ?_
 rintro e w2 ⟨rfl,rfl⟩;go_wp2
 generalize h:(ByteArray.mk _)=Y;have e:Y=D:=by rw[<-h,g];kernel_rfl
 subst e;generalize a:World.alloc _ _=w4;have d:=Z (Ch.al (D:=ag) a);have f:Hid (Row w4 w.heap.size 73 [.string (T++U++Y),.int .i64 15]):=Z (Row.al a);obtain⟨y0,i⟩:=f.c2;refine bodyPost_ret (v:=.agg #[.string (T++U++Y),.int .i64 15]) ?_ rfl ⟨rfl,d⟩;simp[results,Tryz.f30,go_sem,y0,i]
theorem Lm:fG Iv 90 [⟨1,128,0,0,0,0⟩]=true:=by kernel_rfl
def MV(p:List be)(w:World)(e:Ending)(w':World):Prop:=∃v,e=.returned (.agg #[v,.int .i64 0,.int .i64 3,.int .i64 1])/\w'.ownsRow w.heap.size 184 7 v p.length (p.flatMap dn)/\Ch ag w w'
theorem Ko(t:ByteArray)(p:List be)(l:List (ByteArray×Int))(I:iV t=some (p,l))(w:World):Calls prog 31 #[.string t] w (MV p w):=by
 have E:=Z (fun w=>me t (p,l) I w);obtain⟨B,n⟩:=nm w.heap.size;have C:=Z n;go_in
 go_wp2_with fail
 generalize s:World.alloc _ _=w1;have h:=Z (Ch.al (D:=ag) s);have m:Hid (Row w1 B 77 [.slice none 0 0,.int .i64 0,.int .i64 0,.int .i64 0]):=Z (by rw[<-n];exact Row.al s);with_reducible refine(E.out w1).mono ?_
 rintro e w2 ⟨vc,vl,rfl,r,-,q⟩;obtain⟨a,c,rfl⟩:=au r;have d:=Z (m.ch q id);have k:=Z (And.intro r q);obtain⟨N,o⟩:=nm p.length;have j:=Z o;dsimp only;rw[o];obtain⟨y0,y,z,A⟩:=d.c4;have f0:=d.free 0;have f1:=d.free 1;have f2:=d.free 2;have f3:=d.free 3;go_wp2
 generalize u:World.setCell _ _ _=x;have F:Hid (Row x B 77 [.slice a N c,.int .i64 0,.int .i64 3,.int .i64 1]):=Z (by rw[<-u];exact(((d.set 0 _).set 1 _).set 2 _).set 3 _);have i:Hid (Ch (aH B) w2 x):=Z (by rw[<-u];exact ay);obtain⟨y0,y,z,A⟩:=F.c4;refine bodyPost_ret (v:=.agg #[.slice a N c,.int .i64 0,.int .i64 3,.int .i64 1]) ?_ rfl ?_
 ·simp[results,Tryz.f31,go_sem,y0,y,z,A]
 ·refine⟨_,rfl,?_,(h.trans k.2).fresh i (fun b hb e=>by have G:b=B:=e;have:=C.out;omega)⟩
  have f:=k.1;try rw[j]at f
  try rw[j]
  refine J5 (ak f i (fun g H e=> ?_)) h.size;have G:g=B:=e;have J:=(f.lt g H).1;have K:=m.lt;omega
def Np(C:KC)(n tt:Nat)(w:World)(e:Ending)(w':World):Prop:=
 ∃mb χ,e=.returned (.pointer (some ⟨mb,0,none⟩))/\MS w' χ mb C (hY C n tt)/\(∀i,χ i≠ .no->w.heap.size<=i)/\Ch ag w w'
theorem Kp(X:Jl T U D L)(n tt:Nat)(a3:1<=n/\n<=64)(a5:17+8*n+4+1<=tt/\tt<=65536)(p:List be)(a4:eQ p 0 3 1=true)(m:Int)(w:World)(z:w.cell? (1,0)=some (.int .i64 m))
 (x:w.cell? (0,0)=some (.iface 390 (.agg #[(4,85)]))) (d:Value) {B3:Nat} (A:w.ownsRow B3 184 7 d p.length (p.flatMap dn)):
 Calls prog 29 #[.agg #[.string (T++U++D),.int .i64 15],.agg #[.int .i64 n,.int .i64 tt],.agg #[d,.int .i64 0,.int .i64 3,.int .i64 1]] w (Np (vf Iv 90 [⟨1,128,0,0,0,0⟩] p 0 3 1) n tt w):=by
 have G:Hid (∀W,Ch ag w W->Calls prog 52 #[.agg #[.string (T++U++D),.int .i64 15]] W (MU Iv 90 128 W)):=Z (fun W c=>
  Lk (T++U++D) Iv L X.p X.s (by decide) X.l0 X.l1 90 X.loop 128 X.born m W ((c.cell (aQ z) id).trans z))
 have r:Hid (∀(vc vk:Value) (B1 o:Nat) (W:World),W.ownsRow B1 184 7 vc 133 (Iv.flatMap dn)->W.ownsRow o 158 6 vk 1 (bB.cells ⟨1,128,0,0,0,0⟩)->Ch ag w W->Calls prog 34 #[.agg #[.int .i64 n,.int .i64 tt],.agg #[vc,.int .i64 90,vk],.agg #[d,.int .i64 0,.int .i64 3,.int .i64 1]] W (E4 (vf Iv 90 [⟨1,128,0,0,0,0⟩] p 0 3 1) n tt W)):=Z (fun vc vk B1 o W Q R c=>
  Ba n tt a3 ⟨by omega,a5.2⟩ Iv 90 [⟨1,128,0,0,0,0⟩] p 0 3 1 (by decide) (by decide) Lm a4 (by omega) vc vk d W Q R (ak A c (fun _ _ e=>e)) ((c.cell (aQ x) id).trans x))
 obtain⟨u,v,rfl⟩:=au A;obtain⟨N,S⟩:=nm p.length;rw[S]at r⊢;obtain⟨B,g⟩:=nm w.heap.size;have a9:=Z g;go_in
 go_wp2_with fail
 generalize k:World.alloc _ _=w1;have q:Hid (Ch ag w w1):=Z (by rw[<-k];exact ay);have J:Hid (Row w1 (B+1) 35 [.int .i64 n,.int .i64 tt]):=Z (by
  rw[<-k,<-g];have:=(Row.new (w.alloc (.cells #[.string (T++U++D),.int .i64 15] 73)) #[.int .i64 n,.int .i64 tt] 35);rw[World.size_alloc]at this;exact this.alloc _)
 have I:Hid (Row w1 (B+1+1) 77 [.slice u N v,.int .i64 0,.int .i64 3,.int .i64 1]):=Z (by
  rw[<-k,<-g];have:=Row.new ((w.alloc (.cells #[.string (T++U++D),.int .i64 15] 73)).alloc (.cells #[.int .i64 n,.int .i64 tt] 35)) #[.slice u N v,.int .i64 0,.int .i64 3,.int .i64 1] 77;rw[World.size_alloc,World.size_alloc]at this;exact this)
 with_reducible refine(G.out w1 q.out).mono ?_
 rintro e w2 ⟨vc,vk,rfl,h,y,j⟩;obtain⟨ac,O,rfl⟩:=au h;obtain⟨M,P,rfl⟩:=au y;rw[show Iv.length=133 from rfl]at h⊢;have f:=Z (q.trans j);have t:=Z (J.ch j id);have b:=Z (I.ch j id);have s:=Z (And.intro h y);obtain⟨lb,a1⟩:=nm w2.heap.size;go_upto_region 4 with fail
 generalize C:World.alloc _ _=l;have K:Hid (Row l lb 90 [.slice ac 133 O,.int .i64 90,.slice M 1 P]):=Z (by rw[<-a1];exact Row.al C);have a:Hid (Ch ag w2 l):=Z (Ch.al C);obtain⟨y0,ab,ad⟩:=K.c3;have al:=(t.ch a id).cell (i:=0) rfl;have am:=(t.ch a id).cell (i:=1) rfl;have x0:=(b.ch a id).cell (i:=0) rfl;have x1:=(b.ch a id).cell (i:=1) rfl;have x2:=(b.ch a id).cell (i:=2) rfl;have x3:=(b.ch a id).cell (i:=3) rfl;go_wp2_with fail
 with_reducible refine(r.out _ _ _ _ l (ak s.out.1 a.out (fun _ _ e=>e)) (ak s.out.2 a.out (fun _ _ e=>e)) (f.out.trans a.out)).mono ?_
 rintro e w4 ⟨mb,χ,rfl,a2,Y,V⟩;have H:=Z a2;have F:Hid (∀i,χ i≠ .no->w.heap.size<=i):=Z (fun i a0=>Nat.le_trans (f.trans a).size (Y i a0));have E:=Z ((f.trans a).trans V);go_wp2
 go_ret;exact⟨mb,χ,rfl,H,F,E⟩
def Lo(l:List iD):Nat:=(l.filter fun t=>t.state !=4).length
def K3(K:KS):Nat:=Lo (rz K.table)
theorem LV{l:List iD}{k:Nat}{t:iD}(h:l[k]?=some t):Lo (l.take (k+1))=Lo (l.take k)+(if t.state !=4 then 1 else 0):=by
 unfold Lo;rw[List.take_succ,h,List.filter_append,List.length_append];cases a:t.state !=4<;>simp[a]
theorem Lp{w:World}{χ:Nat->a'}{mb:Nat}{C:KC}{K:KS}(h:MS w χ mb C K):Calls prog 99 #[(mb,0)] w (ds (.int .i64 (K3 K)) w):=by
 obtain⟨L,Y,rfl,b,-⟩:=h;have s:=Z (o8 b);obtain⟨T,p⟩:=nm (rz K.table);have D:T.length<=64:=by
  rw[<-p];unfold rz;rw[List.length_map];exact Nat.le_trans (List.length_filter_le _ _) (by rw[(b.cZ (by simp)).is.len];exact Nat.le_refl _)
 unfold K3;rw[p]at s⊢;obtain⟨N,o⟩:=nm T.length;have j:=Z o;rw[o]at D;clear b p o;go_in
 go_wp2_with fail
 with_reducible refine s.out.mono ?_
 rintro e w2 ⟨v,rfl,f,u⟩;rw[j]at f;obtain⟨a,c,rfl⟩:=au f;have r:=Z (And.intro f u);clear f u;go_wp2
 go_loopg [3,5] (N+1) (fun gk G F wr=>∃k:Nat,k<=N/\gk=N+1-k/\F=.int .i64 k/\G=.int .i64 (Lo (T.take k))/\wr=w2)
 case atStart=>exact⟨0,by omega,by omega,rfl,rfl,rfl⟩
 case round=>
  obtain⟨k,H,rfl,rfl,rfl,rfl⟩:=hrel;by_cases E:k<N
  ·obtain⟨t,q⟩:∃t,T[k]?=some t:=⟨_,List.getElem?_eq_getElem (by rw[j];exact E)⟩
   have d:=Z (LV q);obtain⟨g,cap,M,l,-,-,-,x,-⟩:=aE r.1 (by omega);injection l with l A B
   subst l;obtain⟨m,b⟩:=nm (Lo (T.take k));have J:m<=k:=by
    rw[<-b];unfold Lo;exact Nat.le_trans (List.length_filter_le _ _) (by rw[List.length_take];omega)
   rw[b]at d⊢;have I:(k:Int)<N:=(by omega);have n:(T.flatMap iD.cells)[k*7+1]?=some (.int .i64 t.state):=(bJ (enc:=iD.cells) (k:=7) (fun _=>rfl) q (show 1<7 by decide)).trans rfl;have y:=x.cell (i:=k*7+1) (by rw[List.getElem?_append_left (List.getElem?_eq_some_iff.1 n).1];exact n);clear x q b A B n;cases z:t.state !=4 with
   |true=>
    rw[z]at d;go_wp2
    go_roundg (N+1-(k+1))
    case measure=>omega
    case rel=>exact⟨k+1,by omega,rfl,by go_num,by rw[d];go_num,rfl⟩
   |false=>
    rw[z]at d;go_wp2
    go_roundg (N+1-(k+1))
    case measure=>omega
    case rel=>exact⟨k+1,by omega,rfl,by go_num,by rw[d];go_num,rfl⟩
  ·obtain rfl:k=N:=by omega
   have e:T.take k=T:=List.take_of_length_le (by rw[j];exact Nat.le_refl _);rw[e];go_wp2
   go_ret;exact⟨rfl,r.2⟩
def cX(v n:Int):Int:=if n<1 then 0 else if Int.tmod v n<0 then Int.tmod v n+n else Int.tmod v n
theorem o0(v n:Int)(d:n<=1000000)(w:World):Calls prog 24 #[v,n] w (fun e w'=>e=.returned (.int .i64 (cX v n))/\w=w'):=by
 go_in
 by_cases b:n<1
 ·have a:Hid (cX v n=0):=by show _=_;unfold cX;rw[if_pos b]
  go_wp2
  go_ret;rw[a];exact⟨rfl,rfl⟩
 ·have f:¬n=0:=by omega
  have g:=Int.tmod_lt_of_pos v (show 0<n by omega);have h:-n<Int.tmod v n:=by
   have:=Int.tmod_lt_of_pos (-v) (show 0<n by omega);rw[Int.neg_tmod]at this;omega
  by_cases c:Int.tmod v n<0
  ·have a:Hid (cX v n=Int.tmod v n+n):=by show _=_;unfold cX;rw[if_neg b,if_pos c]
   go_wp2
   go_ret;rw[a];exact⟨rfl,rfl⟩
  ·have a:Hid (cX v n=Int.tmod v n):=by show _=_;unfold cX;rw[if_neg b,if_neg c]
   go_wp2
   go_ret;rw[a];exact⟨rfl,rfl⟩
theorem dR(v n:Int)(h:1<=n):0<=cX v n/\cX v n<n:=by
 unfold cX;have a:=Int.tmod_lt_of_pos v (show 0<n by omega);have b:-n<Int.tmod v n:=by
  have:=Int.tmod_lt_of_pos (-v) (show 0<n by omega);rw[Int.neg_tmod]at this;omega
 split
 ·omega
 ·split<;>omega
def Kf(C:KC):List hI->KS->List Ev×KS
 |[],K=>([],K)
 |x::l,K=>((ht C K x.kind x.wk x.draw).1++(Kf C l (ht C K x.kind x.wk x.draw).2).1,(Kf C l (ht C K x.kind x.wk x.draw).2).2)
def Ji(C:KC)(n:Nat)(b:Int)(q:KS->Bool):Nat->Int->List Ev->KS->List Ev×KS×Bool
 |0,_,a,K=>(a,K,false)
 |f+1,r,a,K=>
  let p:=Kf C (HR n 40 (IntKind.u64.wrap (b+r))) K
  if K3 p.2=0 then(a++p.1,p.2,true)
  else if 400<=r/\r%400=0/\q p.2=true then(a++p.1,p.2,false)
  else Ji C n b q f (r+40) (a++p.1) p.2
theorem Mk{C:KC}{K:KS}{N:Nat}(b:ow C)(h:Inv N 0 K)(c:N<=800000)(kind wk draw:Int)(hd:aK draw):(ht C K kind wk draw).1.length<=4:=by
 have a:∀w,Inv N 0 ({K with at_:=K.entries,w:=w,draw:=draw,entries:=wrap64 (K.entries+1)}:KS):=fun w=>⟨h.core,h.nd,h.q,h.b2,h.bI,h.mem,h.obj,hd,h.w0,h.w1,h.out⟩
 unfold ht;dsimp only;split
 ·exact Nat.le_trans (AJ (a (-1))).out (by decide)
 ·split
  ·split
   ·rename_i d
    exact(AI b (a wk) c (i:=wk.toNat) (by have:=d.2;show wk.toNat<K.wk.length;omega)).out
   ·exact Nat.le_trans (a (-1)).out (by decide)
  ·exact Nat.le_trans (a (-1)).out (by decide)
def Ly(C:KC)(a:List Ev)(K:KS)(d:Bool)(w:World)(e:Ending)(w':World):Prop:=
 ∃v mb χ N,e=.returned (.tuple #[.agg #[v,.pointer (some ⟨mb,0,none⟩),.bool d],.bool true])/\w'.ownsRow w.heap.size 82 11 v a.length (a.flatMap Ev.cells)/\MS w' χ mb C K/\Inv N 0 K/\N<=300001/\(∀i,χ i≠ .no->w.heap.size<=i)/\Ch ag w w'
theorem K4(n:Int):∀(f:Nat) (l:List Int) (s:Int),(It n f l s).1.length=f
 |0,_,_=>rfl
 |f+1,l,s=>by
  show(_::(It n f _ _).1).length=f+1
  rw[List.length_cons,K4 n f]
theorem I9(n:Nat):∀(r:Nat) (s:Int),(HR n r s).length=r*(n+1)
 |0,_=>by rw[Nat.zero_mul];rfl
 |r+1,s=>by
  show((It n (n+1) (Jm n) s).1++HR n r _).length=_
  rw[List.length_append,K4,I9 n r,Nat.succ_mul,Nat.add_comm]
theorem Lz(n:Int):∀(f:Nat) (l:List Int) (s:Int),aK s->(∀x∈(It n f l s).1,aK x.draw)/\aK (It n f l s).2
 |0,_,_,h=>⟨(fun x a=>by cases a),h⟩
 |f+1,l,s,_=>by
  have b:aK (HU s):=bO _;obtain⟨c,d⟩:=Lz n f (l.eraseIdx (HU s/4294967296%(l.length:Int)).toNat) (HU s) b;refine⟨fun x a=> ?_,d⟩;rcases List.mem_cons.1 a with rfl|a
  ·split
   ·exact⟨by decide,by decide⟩
   ·exact⟨Int.ediv_nonneg b.lo (by decide),by have:=b.lo;have:=b.hi;show HU s/4294967296<_;omega⟩
  ·exact c x a
theorem Jn(n:Nat):∀(r:Nat) (s:Int),aK s->∀x∈HR n r s,aK x.draw
 |0,_,_,x,a=>by cases a
 |r+1,s,h,x,a=>by
  obtain⟨b,c⟩:=Lz n (n+1) (Jm n) s h;rcases List.mem_append.1 a with a|a
  ·exact b x a
  ·exact Jn n r _ c x a
theorem Jf{S:List hI}{b:List Value}{q:Nat}{o:Option Value}{v:Value}(h:(S.flatMap mo)[q]?=o)(a:o=some v):(S.flatMap mo++b)[q]?=some v:=by
 subst a;rw[List.getElem?_append_left (List.getElem?_eq_some_iff.1 h).1,h]
theorem Ml{w:World}{B:Nat}{e:TypeId}{s m c:Nat}{a:Option Addr}{xs:List Value}(h:w.ownsRow B e s (.slice a m c) m xs):m=0∨∃d,a=some d/\∀j u,xs[j]?=some u->w.cell? (d.add j)=some u:=by
 by_cases i:m=0
 ·exact Or.inl i
 ·obtain⟨g,cap,o,b,-,-,-,k,-⟩:=aE h (by omega)
  injection b with b l n
  exact Or.inr ⟨_,b,Lx (fun j u f=>k.cell (by rw[List.getElem?_append_left (List.getElem?_eq_some_iff.1 f).1];exact f))⟩
theorem MJ(l:List Ev):∀u∈l.flatMap Ev.cells,u.oneCell'=true:=fun u b=>by
 obtain⟨X,_,a⟩:=List.mem_flatMap.1 b;simp only[Ev.cells,List.mem_cons,List.not_mem_nil,or_false]at a;rcases a with rfl|rfl|rfl|rfl|rfl|rfl|rfl|rfl|rfl|rfl|rfl<;>rfl
structure Ni(C:KC)(w:World)(rb eb mb gs:Nat)(jk:List Value)(S:List hI)(T1:List Ev)(K1:KS)(N0:Nat)(wr:World)(i:Nat)(χ:Nat->a')(tr':List Ev)(K':KS)(v:Value):Prop where
 row:Row wr eb 148 [v,(mb,0),.bool false]
 own:wr.ownsRow w.heap.size 82 11 v tr'.length (tr'.flatMap Ev.cells)
 Ht:∀g,v.ownBlock=some g->χ g=.no
 ms:MS wr χ mb C K'
 inv:Inv (N0+i) 0 K'
 ev:tr'++(Kf C (S.drop i) K').1=T1
 st:(Kf C (S.drop i) K').2=K1
 M6:χ eb=.no
 rl:∀i,χ i≠ .no->w.heap.size<=i
 ch:Ch ag w wr
 len:tr'.length<=4*(N0+i)
 MW:χ gs=.no
 Ea:Row wr gs 41 (S.flatMap mo++jk)
 res:Row wr rb 148 [.slice none 0 0,.pointer none,.bool false]/\χ rb=.no
structure MX(C:KC)(n:Nat)(seed:Int)(q:KS->Bool)(w:World)(rb eb mb:Nat)(tr:List Ev)(K:KS)(J:Nat)(wr:World)(j:Nat)(χ:Nat->a')(tr':List Ev)(K':KS)(v:Value)(d:Bool):Prop where
 le:j<=J
 row:Row wr eb 148 [v,(mb,0),.bool d]
 own:wr.ownsRow w.heap.size 82 11 v tr'.length (tr'.flatMap Ev.cells)
 Ht:∀g,v.ownBlock=some g->χ g=.no
 ms:MS wr χ mb C K'
 inv:Inv (1+j*(40*(n+1))) 0 K'
 fin:(d=false/\Ji C n seed q (J-j) (40*j) tr' K'=(tr,K,true))∨(d=true/\tr'=tr/\K'=K)
 M6:χ eb=.no
 rl:∀i,χ i≠ .no->w.heap.size<=i
 ch:Ch ag w wr
 len:tr'.length<=4*(1+j*(40*(n+1)))
 res:Row wr rb 148 [.slice none 0 0,.pointer none,.bool false]/\χ rb=.no
set_option maxHeartbeats 16000000 in
theorem Lq(C:KC)(n:Nat)(lv:1<=n/\n<=4)(x0:ByteArray)(x1 wk V:Int)(ih:aK V)(a4:1+cX wk 4=n)(t:ByteArray)(p:List be)(w:World)
 (it:Hid (∀W,Calls prog 31 #[.string t] W (MV p W)))
 (jp:Hid (∀W fM B,Ch ag w W->W.ownsRow B 184 7 fM p.length (p.flatMap dn)->Calls prog 29 #[.agg #[.string x0,x1],.agg #[.int .i64 n,.int .i64 600],.agg #[fM,.int .i64 0,.int .i64 3,.int .i64 1]] W (Np C n 600 W)))
 (hd:ow C) (hf:Inv 1 0 (hY C n 600)) (q:KS->Bool) (E:Nat) (lo:E<=10) (Q:List Ev) (K:KS) (hu:Ji C n V q E 0 [] (hY C n 600)=(Q,K,true)):
 Calls prog 57 #[.agg #[.string x0,x1],wk,.int .u64 V,.string t] w (Ly C Q K true w):=by
 have gG:=Z (o0 wk 4 (by decide));have kv:=dR wk 4 (by decide);obtain⟨jI,hv⟩:=nm (cX wk 4);rw[hv]at a4 kv gG;have lc:=Z ih;have cS:=Z hd;have a:=Z hf;have gd:=Z hu;have lw:wrap64 (1+jI)=(n:Int):=by rw[a4];unfold wrap64;omega
 clear ih hd hf hu hv;obtain⟨B,ch⟩:=nm w.heap.size;have io:=Z ch;go_in
 go_wp2_with fail
 obtain⟨w1,c6⟩:=nm ((w.alloc (.cells #[.string x0,x1] 73)).alloc (.cells #[.slice none 0 0,.pointer none,.bool false] 148));have c9:Hid (Ch ag w w1):=Z (by rw[<-c6];exact ay);have ip:Hid (Row w1 B 73 [.string x0,x1]):=Z (by rw[<-c6,<-ch];exact(Row.new _ _ _).alloc _);have cW:Hid (Row w1 (B+1) 148 [.slice none 0 0,.pointer none,.bool false]):=Z (by
  rw[<-c6,<-ch];have:=Row.new (w.alloc (.cells #[.string x0,x1] 73)) #[.slice none 0 0,.pointer none,.bool false] 148;rw[World.size_alloc]at this;exact this)
 try rw[c6]
 clear c6 ch;with_reducible refine(gG.out _).mono ?_
 rintro e w2 ⟨rfl,rfl⟩;have dC:Hid (∀W,Ch ag w1 W->W.cell? ⟨B,0,none⟩=some (.string x0)/\W.cell? ⟨B,1,none⟩=some (.int .i64 x1)):=Z (fun W c=>by
  have r:=ip.ch c id;exact⟨r.cell rfl,r.cell rfl⟩)
 obtain⟨t0,t1⟩:=dC w1 ay;go_upto_region 2 with fail
 try rw[a4]
 go_cut [11] (fun v wc=>Np C n 600 w1 (.returned v) wc)
 case first=>
  go_region_held3 (fun w'=>w'.cell? ⟨B,0,none⟩=some (.string x0)/\w'.cell? ⟨B,1,none⟩=some (.int .i64 x1)) (go_keep) (first
   |(go_at_call 31;refine(it _).mono ?_;rintro e w4 ⟨fM,rfl,i9,hB⟩;have ca:Hid (Ch ag w1 w4):=Z (Ch.trans ay hB);have jE:=Z i9;obtain⟨t0,t1⟩:=dC _ ca;clear i9 hB)
   |(go_at_call 29;refine(jp _ _ _ (c9.trans (ca.trans ay)) (ak jE ay (fun _ _ e=>e))).mono ?_;rintro e cL ⟨mb,χ,rfl,bx,bw,P⟩;have g9:=Z (And.intro bx (And.intro bw P));have g2:Hid (Ch ag w1 cL):=Z ((ca.trans ay).trans P);obtain⟨t0,t1⟩:=dC _ g2;clear bx bw P))
  all_goals
   go_wp2
   go_meet
   exact⟨mb,χ,rfl,g9.1,fun i c3=>Nat.le_trans (show Ch ag w1 _ from ca.out.trans ay).size (g9.2.1 i c3),g2⟩
 case rest=>
  obtain⟨mb,χ,ey,bx,bw,a3⟩:=hcut;injection ey with ey
  subst ey;obtain⟨f,hT⟩:=nm wc.heap.size;go_upto_region 6 with fail
  generalize fL:World.alloc _ _=cF;have cQ:Hid (Ch ag wc cF):=Z (Ch.al fL);have g5:Hid (Row cF f 148 [.slice none 0 0,(mb,0),.bool false]):=Z (by rw[<-hT];exact Row.al fL);have aP:Hid (χ f=.no/\w.heap.size<=f/\B+1<f):=Z ⟨by
   cases ad:χ f with
   |no=>rfl
   |_=>exact absurd (bx.small f (by rw[ad];simp)) (by omega),by have:=c9.size;have:=a3.size;omega,by have:=cW.lt;have:=a3.size;omega⟩
  have jG:Hid (MX C n V q w (B+1) f mb Q K E cF 0 χ [] (hY C n 600) (.slice none 0 0) false):=Z ⟨Nat.zero_le _,g5,⟨by simp,Or.inl ⟨rfl,rfl⟩⟩,(fun g F=>by cases F),bx.af cQ,(by rw[Nat.zero_mul];exact a),Or.inl ⟨rfl,gd⟩,aP.1,(fun i c3=>Nat.le_trans c9.size (bw i c3)),(c9.trans a3).trans cQ,(by simp),cW.ch (a3.trans cQ) id,by
   cases ad:χ (B+1)with
   |no=>rfl
   |_=>exact absurd (bw (B+1) (by rw[ad];simp)) (by have:=cW.lt;omega)⟩
  clear fL bx bw a3 hT a gd g5 t0 t1;obtain⟨w4,rfl⟩:=mn cF;go_wp2
  go_loopg [13] (E+1) (fun gk kT wr=>∃(j:Nat) (χ:Nat->a') (a9:List Ev) (K':KS) (v:Value) (d:Bool),gk=E+1-j/\kT=.int .i64 ((40*j:Nat):Int)/\Hid (MX C n V q w (B+1) f mb Q K E wr j χ a9 K' v d))
  case atStart=>exact⟨0,χ,[],_,_,false,rfl,rfl,jG⟩
  case round=>
   obtain⟨j,χ,a9,K',v,d,rfl,rfl,l⟩:=hrel;obtain⟨w4,rfl⟩:=mn wr;have k4:=l.le;have X:=l.row.k 2 rfl;have cl:((40*j:Nat):Int)<=400:=(by omega);cases d with
   |true=>
    obtain⟨rfl,rfl⟩:a9=Q/\K'=K:=by
     rcases l.fin with⟨h,_⟩|⟨-,h⟩
     ·cases h
     ·exact h
    obtain⟨gH,eL⟩:=nm (a9.length);obtain⟨gO,gP,gW⟩:=au l.own;rw[eL]at gW;have lb:=Z eL;subst gW;obtain⟨y0,fO⟩:=l.row.c2;obtain⟨kG,kN,kO⟩:=l.res.1.c3;have f0:=l.res.1.free 0;have f1:=l.res.1.free 1;have f2:=l.res.1.free 2;obtain⟨r,am⟩:=nm (40*j);rw[am];have lx:(r:Int)<60000:=(by omega);clear eL cl am k4;go_wp2
    generalize bX:World.setCell _ _ _=c8;have et:Hid (Row c8 (B+1) 148 [.slice gO gH gP,(mb,0),.bool true]):=Z (by rw[<-bX];exact((l.res.1.set 0 _).set 1 _).set 2 _);have T:Hid (Ch (aH (B+1)) w4 c8):=Z (by rw[<-bX];exact ay);clear bX y0 fO X kG kN kO f0 f1 f2;obtain⟨y0,fO,X⟩:=et.c3;refine bodyPost_ret (v:=.tuple #[.agg #[.slice gO gH gP,(mb,0),.bool true],.bool true]) ?_ rfl ?_
    ·simp[results,Tryz.f57,go_sem,y0,fO,X]
    ·refine⟨_,mb,χ,_,rfl,?_,l.ms.rl T (fun b hb e=>by have e:b=B+1:=e;rw[e];exact l.res.2),l.inv,?_,l.rl,l.ch.fresh T (fun b hb e=>by have e:b=B+1:=e;have:=io.out;omega)⟩
     ·have i8:=l.own
      refine ak i8 T (fun g F e=> ?_);have e:g=B+1:=e;subst e;exact aZ i8 l.res.1 (by decide) F
     ·have o:j*(40*(n+1))<=10*(40*5):=Nat.mul_le_mul (by have:=l.le;omega) (by omega)
      omega
   |false=>
    obtain⟨-,N⟩:_/\Ji C n V q (E-j) (40*j) a9 K'=(Q,K,true):=by
     rcases l.fin with h|⟨h,-⟩
     ·exact h
     ·cases h
    have lu:j<E:=by
     rcases Nat.lt_or_ge j E with h|h
     ·exact h
     ·rw[show E-j=0 by omega]at N
      have:(false:Bool)=true:=congrArg (fun x=>x.2.2) N;cases this
    have fd:((40*j:Nat):Int)<60000:=(by omega);have fb:¬((40*j:Nat):Int)>=400:=(by omega);obtain⟨r,am⟩:=nm (40*j);rw[am]at fd fb cl⊢;obtain⟨av,fK⟩:=nm (IntKind.u64.wrap (V+(r:Int)));have ii:aK av:=(by rw[<-fK];exact bO _);have gs:Hid (Calls prog 32 #[.int .i64 n,.int .i64 40,.int .u64 av] w4 (Ln (HR n 40 av) w4)):=Z (J8 n 40 (by omega) (by omega) av ii w4);obtain⟨S,c2⟩:=nm (HR n 40 av);have jH:Hid (∀x∈S,aK x.draw):=Z (by rw[<-c2];exact Jn n 40 av ii);obtain⟨M,eI⟩:=nm S.length;have hm:M=40*(n+1):=(by rw[<-eI,<-c2];exact I9 n 40 av);have es:=Z eI;obtain⟨bv,eS⟩:=nm (a9++(Kf C S K').1);obtain⟨K1,eG⟩:=nm ((Kf C S K').2);have dp:Hid ((K3 K1=0/\Q=bv/\K=K1)∨(K3 K1≠0/\Ji C n V q (E-(j+1)) (r+40) bv K1=(Q,K,true))):=Z (by
     rw[show E-j=(E-(j+1))+1 by omega]at N;unfold Ji at N;dsimp only at N;rw[show(40*(j:Int))=((40*j:Nat):Int)by omega,am,fK,c2,eS,eG]at N;by_cases al:K3 K1=0
     ·rw[if_pos al]at N
      injection N with o y
      injection y with y lm
      exact Or.inl ⟨al,o.symm,y.symm⟩
     ·rw[if_neg al,if_neg (fun h=>by omega)]at N
      exact Or.inr ⟨al,N⟩)
    rw[c2]at gs;have i2:j*(40*(n+1))<=2000:=Nat.le_trans (Nat.mul_le_mul (show j<=10 by omega) (show 40*(n+1)<=200 by omega)) (by decide);obtain⟨bi,hh⟩:=nm (1+j*(40*(n+1)));have c1:=Z hh;have dr:=Z (And.intro i2 hm);have ls:(M:Int)<=200:=(by omega);have hn:0<M:=(by omega);clear N c2 eI i2 hm hh;go_wp2_with fail
    clear fK;with_reducible refine gs.out.mono ?_
    rintro e cL ⟨lA,rfl,fr,P⟩;rw[es]at fr;obtain⟨H,cs,a5,rfl,jS,ll,-,gY,-⟩:=aE fr hn;have g6:Hid (χ H=.no/\Row cL H 41 (S.flatMap mo++a5)):=Z ⟨by
     cases ad:χ H with
     |no=>rfl
     |_=>exact absurd (l.ms.small H (by rw[ad];simp)) (by omega),gY⟩
    have jf:Hid (Ni C w (B+1) f mb H a5 S bv K1 bi cL 0 χ a9 K' v):=Z ⟨l.row.ch P id,ak l.own P (fun _ _ e=>e),l.Ht,l.ms.af P,(by rw[<-c1];exact l.inv),eS,eG,l.M6,l.rl,l.ch.trans P,(by have:=l.len;have:=c1.out;omega),g6.1,g6.2,l.res.1.ch P id,l.res.2⟩;clear fr P jS gY eS eG X hn;go_wp2
    go_loopg [15] (M+1) (fun gk kx wi=>∃(i:Nat) (Y:Nat->a') (z:List Ev) (G:KS) (ab:Value),i<=M/\gk=M-i+1/\kx=.int .i64 i/\Hid (Ni C w (B+1) f mb H a5 S bv K1 bi wi i Y z G ab))
    case atStart=>exact⟨0,χ,a9,K',v,by omega,by omega,rfl,jf⟩
    case round=>
     obtain⟨i,Y,z,G,ab,c3,rfl,rfl,a⟩:=hrel;obtain⟨J,rfl⟩:=mn wr;by_cases k3:i<M
     ·have e':(i:Int)<M:=by omega
      obtain⟨x,ct⟩:∃x,S[i]?=some x:=⟨_,List.getElem?_eq_getElem (by rw[es];exact k3)⟩;have cC:=jH x (List.mem_of_getElem? ct);have hS:S.drop i=x::S.drop (i+1):=by
       have o:=List.getElem?_eq_some_iff.1 ct;obtain⟨o,y⟩:=o;rw[List.drop_eq_getElem_cons o,y]
      obtain⟨li,a3,i6⟩:=K0 a.own;obtain⟨a2,U,jR⟩:=au a.own;have hi:bi+i<=3000:=(by have:=c1.out;have:=dr.1;omega);have g4:Hid (∀W,Ch ag J W->Calls prog 13 #[(mb,0),.agg #[.int .i64 x.kind,.int .i64 x.wk,.int .u64 x.draw]] W (HI (ht C G x.kind x.wk x.draw) Y mb C W)):=Z (fun W c=>A' cS a.inv (by omega) x.kind x.wk x.draw cC (a.ms.af c));have g7:Hid (Inv (bi+(i+1)) 0 (ht C G x.kind x.wk x.draw).2):=Z (q4 cS a.inv (by omega) x.kind x.wk x.draw cC);have cq:=Mk cS a.inv (show bi+i<=800000 by omega) x.kind x.wk x.draw cC;have di:Hid (z++(ht C G x.kind x.wk x.draw).1++(Kf C (S.drop (i+1)) (ht C G x.kind x.wk x.draw).2).1=bv/\(Kf C (S.drop (i+1)) (ht C G x.kind x.wk x.draw).2).2=K1):=Z (by
       have o:=a.ev;have y:=a.st;rw[hS]at o y;exact⟨by rw[List.append_assoc];exact o,y⟩)
      obtain⟨D,he⟩:=nm (ht C G x.kind x.wk x.draw);rw[he]at g4 g7 cq di;obtain⟨m,fn⟩:=nm D.1.length;have e4:=Z fn;rw[fn]at cq;have hlen:=a.len;obtain⟨t2,c5⟩:=nm z.length;have bd:=Z c5;have cA:∀u<3,(S.flatMap mo)[i*3+u]?=(mo x)[u]?:=(fun u ku=>bJ (enc:=mo) (k:=3) (fun _=>rfl) ct ku);have ge:Hid ((S.flatMap mo++a5)[i*3]?=some (.int .i64 x.kind)):=Z (Jf (cA 0 (by decide)) rfl);have gf:Hid ((S.flatMap mo++a5)[i*3+1]?=some (.int .i64 x.wk)):=Z (Jf (cA 1 (by decide)) rfl);have go:Hid ((S.flatMap mo++a5)[i*3+2]?=some (.int .u64 x.draw)):=Z (Jf (cA 2 (by decide)) rfl);have fT:=a.Ea.cell (i:=i*3) ge;have g0:=a.Ea.cell (i:=i*3+1) gf;have g1:=a.Ea.cell (i:=i*3+2) go;have le:Hid (∀W,Ch (fun i=>Y i≠ .no) J W->W.cell? ⟨H,i*3,none⟩=some (.int .i64 x.kind)/\W.cell? ⟨H,i*3+1,none⟩=some (.int .i64 x.wk)/\W.cell? ⟨H,i*3+2,none⟩=some (.int .u64 x.draw)):=Z (fun W c=>⟨(c.cell (aQ fT) (fun h=>h a.MW)).trans fT,(c.cell (aQ g0) (fun h=>h a.MW)).trans g0,(c.cell (aQ g1) (fun h=>h a.MW)).trans g1⟩);subst jR;have y0:J.cell? (f,0)=some (.slice a2 t2 U):=(by rw[<-c5];exact a.row.cell (i:=0) rfl);have f0:=a.row.free 0;have ce:Hid (Row J f 148 [.slice a2 t2 U,(mb,0),.bool false]/\Row J H 41 (S.flatMap mo++a5)):=Z ⟨by rw[<-c5];exact a.row,a.Ea⟩;have k5:f≠H:=a.row.ne a.Ea (by decide);have kb:H≠f:=k5.symm;have g3:Hid (∀g,(Value.slice a2 t2 U).ownBlock=some g->Y g=.no):=Z (by rw[<-c5];exact a.Ht);have dN:=Z (And.intro hi (And.intro hlen cq));clear he fn ct cC hS cA hi hlen cq;obtain⟨kw,i1,kd,kf,kh⟩:=info_parts Ej;have je:=Z i1;have l1:Hid ((D.1.flatMap Ev.cells).length=m*11):=Z (by rw[List.length_flatMap];simp only[Ev.len];rw[List.map_const',List.sum_replicate_nat,e4]);have gc:Hid (J.ownsRow w.heap.size 82 11 (.slice a2 t2 U) t2 (z.flatMap Ev.cells)):=Z (by have:=a.own;rw[bd]at this;exact this);have l0:Hid (t2<=U):=Z (by rw[a3 _ _ _ rfl,<-bd];exact i6);clear i1 a3 i6 c5;go_upto_region 13 with fail
      refine C8 (fun i=>[1,6,7,8].contains i) (fun w'=>Row w' f 148 [.slice a2 t2 U,(mb,0),.bool false]/\Row w' H 41 (S.flatMap mo++a5)) (by kernel_rfl) ?_;refine Bk (by kernel_rfl) (fun _ _ d _ _ h=>by cases d<;>exact h) ⟨ce.1.drew,ce.2.drew⟩ 4 [0,2,3,4,5,1,6] _ _ (by kernel_rfl) ?_
      iterate 7 (refine Gq (v:= ?_) rfl (Or.inl ⟨by rfl,?_⟩) ?_;rotate_left;(focus (intro w' a4;(try(have y0:=a4.1.c1;have fT:=a4.2.cell (i:=i*3) ge.out;have g0:=a4.2.cell (i:=i*3+1) gf.out;have g1:=a4.2.cell (i:=i*3+2) go.out));go_simp;try with_reducible rfl));simp only[Act.put,List.setIfInBounds_toArray,List.set_cons_zero,List.set_cons_succ])
      refine takeN ?_;change eR _ _ _ _ _ _ _ _ _ _;refine vm (i:=7) (by kernel_rfl) rfl (fun K eC=> ?_);go_simp
      (go_at_call 13;refine(g4 _ ay).mono ?_;rintro e A ⟨ly,bZ,rfl,cm,hF,i5,i7⟩)
      have L:Hid (Nx Y bZ J A):=Z ((Nx.af ay).trans i7);have O:=Z (And.intro (ce.1.ch L.ch (fun h=>h a.M6)) (ce.2.ch L.ch (fun h=>h a.MW)));have cd:=Z (ak gc L.ch (fun g F h=>h (g3 g F)));rw[e4]at cm;have cb:=Z (And.intro cm (And.intro hF i5));obtain⟨jJ,ex,rfl⟩:=au cm;clear cm hF i5 i7;dsimp only;refine eC _ _ O ?_;try simp only[Act.put,List.setIfInBounds_toArray,List.set_cons_zero,List.set_cons_succ]
      refine vm (i:=8) (by kernel_rfl) rfl (fun K eC=> ?_);refine Iw _ (by rfl) _ _ _ (by rfl) w.heap.size 82 kw _ 11 88 underlying37 je kd kf kh (by rfl) (by omega) a2 t2 U (z.flatMap Ev.cells) (by rfl) cd jJ m ex (D.1.flatMap Ev.cells) (by rfl) cb.1.1 (Ml cb.1) (MJ _) (by have:=dN.out;have:=bd.out;unfold maxLen;omega) (by have:=dN.out;have:=bd.out;omega) (by have:=a.ch.size;have:=L.ch.size;omega) ?_;intro lz s fz ci hw;obtain⟨jK,jL,rfl⟩:=au fz;have I:=Z (And.intro (O.1.ch ci (fun e=>aZ cd O.1 (by decide) e)) (O.2.ch ci (fun e=>aZ cd O.2 (by decide) e)));have bb:=Z (And.intro fz (And.intro ci hw));clear fz ci hw;refine eC _ _ I ?_;try simp only[Act.put,List.setIfInBounds_toArray,List.set_cons_zero,List.set_cons_succ]
      refine Hk 9 rfl rfl (fun j lt=>by simp;omega) (by kernel_rfl) ?_;have y0:=I.1.c1;have f0:=I.1.free 0;go_wp2
      go_roundg (M-(i+1)+1)
      case measure=>omega
      case rel=>
       generalize bX:World.setCell _ _ _=c8;have et:Row c8 f 148 [.slice jK (t2+m) jL,(mb,0),.bool false]:=(by rw[<-bX];exact I.1.set 0 _);have T:Ch (aH f) s c8:=(by rw[<-bX];exact ay);have k0:=a.row.lt;have k2:=a.Ea.lt;have al:(z++D.1).length=t2+m:=(by rw[List.length_append,bd,e4]);have i3:∀g,(Value.slice a2 t2 U).ownBlock=some g->w.heap.size<=g/\g<J.heap.size:=(fun g F=>gc.lt g F);have hE:∀g,(Value.slice a2 t2 U).ownBlock=some g->bZ g=.no:=(fun g F=>(L.same g (i3 g F).2).trans (g3 g F));have i0:bZ f=.no:=(L.same f k0).trans a.M6;have k1:bZ H=.no:=(L.same H k2).trans a.MW;have ex:Ch ag w A:=iA a.rl L a.ch;have jM:Ch ag w s:=ex.fresh bb.2.1 (fun b hb e=>by have:=(i3 b e).1;omega);refine⟨i+1,bZ,z++D.1,D.2,_,by omega,rfl,by go_num,Z ⟨et,?_,fun g F=> ?_,?_,g7,di.1,di.2,i0,rm a.out.rl L a.ch.size,jM.fresh T (fun b hb e=>by have e:b=f:=e;have:=aP.2.1;omega),?_,k1,I.2.ch T (fun e=>kb e),((a.res.1.ch L.ch (fun h=>h a.res.2)).ch bb.2.1 (fun e=>aZ cd (a.res.1.ch L.ch (fun h=>h a.res.2)) (by decide) e)).ch T (fun e=>by have e:B+1=f:=e;have:=aP.2.2;omega),(L.same _ a.res.1.lt).trans a.res.2⟩⟩
       ·rw[al,List.flatMap_append]
        exact ak bb.1 T (fun g F e=>by have e:g=f:=e;subst e;exact aZ bb.1 I.1 (by decide) F)
       ·rcases bb.2.2 g F with h|h
        ·exact hE g h
        ·cases ad:bZ g with
         |no=>rfl
         |_=>exact absurd (cb.2.2.small g (by rw[ad];simp)) (by omega)
       ·refine(cb.2.2.rl bb.2.1 (fun b hb e=>hE b e)).rl T (fun b hb e=>by have e:b=f:=e;rw[e];exact i0)
       ·rw[al]
        have o:=dN.2;rw[bd]at o;omega
     ·have e':¬(i:Int)<M:=by omega
      have en:=Z (show i=M by omega);have c0:Hid (z=bv/\G=K1):=Z (by
       have o:=a.ev;have y:=a.st;rw[en,List.drop_of_length_le (by rw[es];exact Nat.le_refl _)]at o y;exact⟨by rw[<-o];show z=z++[];rw[List.append_nil],y⟩)
      have g8:Hid (Calls prog 99 #[(mb,0)] J (ds (.int .i64 (K3 K1)) J)):=Z (by rw[<-c0.2];exact Lp a.ms);obtain⟨c7,i4⟩:=nm (K3 K1);rw[i4]at g8 dp;have gr:=Z am;have iX:Hid (c7=0->z=Q/\G=K):=Z (fun eA=>by
       rcases dp with⟨_,o,y⟩|⟨h,_⟩
       ·exact⟨c0.1.trans o.symm,c0.2.trans y.symm⟩
       ·exact absurd eA h)
      have iC:Hid (c7≠0->Ji C n V q (E-(j+1)) (40*((j+1:Nat):Int)) z G=(Q,K,true)):=Z (fun eA=>by
       rcases dp with⟨h,_⟩|⟨_,o⟩
       ·exact absurd h eA
       ·rw[c0.1,c0.2,show(40*((j+1:Nat):Int))=(r:Int)+40 by have:=gr.out;omega]
        exact o)
      have gt:Hid ((r:Int)+40=((40*(j+1):Nat):Int)):=Z (by have:=gr.out;omega);have gF:Hid (z.length<=4*(1+(j+1)*(40*(n+1)))):=Z (by
       have e:1+(j+1)*(40*(n+1))=bi+i:=(by rw[Nat.succ_mul,<-Nat.add_assoc,c1,en,dr.2]);rw[e];exact a.len)
      have a1:Hid ((∀A s:World,Ch ag J A->Ch (aH f) A s->∀{d:Bool},Row s f 148 [ab,(mb,0),.bool d]->s.ownsRow w.heap.size 82 11 ab z.length (z.flatMap Ev.cells))/\(∀A s:World,Ch ag J A->Ch (aH f) A s->MS s Y mb C G)/\(∀A s:World,Ch ag J A->Ch (aH f) A s->Ch ag w s)/\Inv (1+(j+1)*(40*(n+1))) 0 G):=Z (by
       refine⟨fun A s o y _ _=>ak (ak a.own o (fun _ _ e=>e)) y (fun g F e=>by have e:g=f:=e;subst e;exact aZ a.own a.row (by decide) F),fun A s o y=>(a.ms.af o).rl y (fun b hb e=>by have e:b=f:=e;rw[e];exact a.M6),fun A s o y=>(a.ch.trans o).fresh y (fun b hb e=>by have e:b=f:=e;have:=aP.2.1;omega),?_⟩;have o:=a.inv;rw[<-c1,en,dr.2]at o;rw[Nat.succ_mul,<-Nat.add_assoc];exact o)
      clear i4 c3 am;go_wp2_with fail
      with_reducible refine g8.out.mono ?_
      rintro e A ⟨rfl,eW⟩;have O:=Z (a.row.ch eW id);have a0:=Z eW;have X:=O.k 2 rfl;have f2:=O.free 2;clear eW;cases c4:((c7:Int)==0)with
      |true=>
       have kt:(r:Int)<=400:=(by omega);go_upto_region 15 with fail
       generalize ap:World.setCell _ _ _=s;have I:Hid (Row s f 148 [ab,(mb,0),.bool true]):=Z (by rw[<-ap];exact O.set 2 _);have R:Hid (Ch (aH f) A s):=Z (by rw[<-ap];exact ay);clear ap X f2;have X:=I.k 2 rfl;have fk:=Z (show c7=0 by simpa using c4);clear c4 e' cl fd fb;go_wp2
       go_roundg (E+1-(j+1))
       case measure=>omega
       case rel=>exact⟨j+1,Y,z,G,ab,true,rfl,by rw[<-gt],Z ⟨by omega,I,a1.1 _ _ a0 R I,a.Ht,a1.2.1 _ _ a0 R,a1.2.2.2,Or.inr ⟨rfl,iX fk.out⟩,a.M6,a.rl,a1.2.2.1 _ _ a0 R,gF,(a.res.1.ch a0 id).ch R (fun e=>by have e:B+1=f:=e;have:=aP.2.2;omega),a.res.2⟩⟩
      |false=>
       have kt:(r:Int)<400:=(by omega);go_upto_region 15 with fail
       generalize ap:World.setCell _ _ _=s;have I:Hid (Row s f 148 [ab,(mb,0),.bool false]):=Z (by rw[<-ap];exact O.set 2 _);have R:Hid (Ch (aH f) A s):=Z (by rw[<-ap];exact ay);clear ap X f2;have X:=I.k 2 rfl;have fk:=Z (show c7≠0 by intro e;rw[e]at c4;cases c4);clear c4 e' cl fd fb;go_wp2
       go_roundg (E+1-(j+1))
       case measure=>omega
       case rel=>exact⟨j+1,Y,z,G,ab,false,rfl,by rw[<-gt],Z ⟨by omega,I,a1.1 _ _ a0 R I,a.Ht,a1.2.1 _ _ a0 R,a1.2.2.2,Or.inl ⟨rfl,iC fk.out⟩,a.M6,a.rl,a1.2.2.1 _ _ a0 R,gF,(a.res.1.ch a0 id).ch R (fun e=>by have e:B+1=f:=e;have:=aP.2.2;omega),a.res.2⟩⟩
def M7:ByteArray:=⟨#[115,101,116,32,114,48,32,119,111,114,107,10,99,97,108,108,32,49,10,109,49,58,10,115,101,116,32,114,50,32,49,10,102,97,100,32,114,50,32,91,48,93,10,106,109,112,32,109,49,10,119,111,114,107,58,10,115,101,116,32,114,50,32,49,10,102,97,100,32,114,50,32,91,49,93,10,106,109,112,32,119,111,114,107,10]⟩
def Mm:ByteArray:=⟨#[115,101,116,32,114,49,32,55,10,115,116,32,114,49,32,91,48,93,10,114,101,116,10]⟩
theorem MK:(iV M7).map Prod.fst=some JD:=by kernel_rfl
theorem ML:(iV Mm).map Prod.fst=some Kn:=by kernel_rfl
def cQ:KC:=vf Iv 90 [⟨1,128,0,0,0,0⟩] JD 0 3 1
def J9:KC:=vf Iv 90 [⟨1,128,0,0,0,0⟩] Kn 0 3 1
theorem Mn:eQ JD 0 3 1=true:=by kernel_rfl
theorem Mo:eQ Kn 0 3 1=true:=by kernel_rfl
theorem M8:ow cQ:=wO Lm Mn (by decide) (mh (by kernel_rfl)) (mh (by kernel_rfl))
theorem Nt:ow J9:=wO Lm Mo (by decide) (mh (by kernel_rfl)) (mh (by kernel_rfl))
theorem Nj:Inv 1 0 (hY cQ 1 200):=tB cQ 1 200 (by decide) (by decide) (by decide) (by decide+kernel)
theorem Nk:Inv 1 0 (hY J9 1 600):=tB J9 1 600 (by decide) (by decide) (by decide) (by decide+kernel)
theorem M9:(match Ji J9 1 1 (fun _=>false) 1 0 [] (hY J9 1 600)with|(_,K,d)=>d&&((K.mem.acc 0 (IntKind.u64.wrap (wrap64 (gT K+0))) 0 0).1==some 7))=true:=by kernel_rfl
def LW(s:Int×Int×Int)(e:Ev):Option (Int×Int×Int):=
 if e.kind≠3 then some s
 else if e.t≠s.2.1 then(if s.2.2<1000000 then some (1,e.t,s.2.2+1)else none)
 else if 24<s.1+1 then none else some (s.1+1,s.2.1,s.2.2)
def Ix:List Ev->Int×Int×Int->Option (Int×Int×Int)
 |[],s=>some s
 |e::l,s=>(LW s e).bind (Ix l)
def I'(C:KC):List hI->KS->Int×Int×Int->Option (Int×Int×Int)
 |[],_,s=>some s
 |x::l,K,s=>(Ix (ht C K x.kind x.wk x.draw).1 s).bind (I' C l (ht C K x.kind x.wk x.draw).2)
def LX(x:Bool×Int):List hI:=if x.1 then [⟨2,0,0⟩,⟨1,0,x.2⟩]else [⟨1,0,x.2⟩,⟨2,0,0⟩]
def MN(a:Nat->Bool×Int):Nat->Nat->List hI
 |_,0=>[]
 |i,n+1=>LX (a i)++MN a (i+1) n
def Lr(s:Int):Bool×Int:=if(HU s/4294967296%2).toNat=1 then(true,HU (HU s)/4294967296)else(false,HU s/4294967296)
def IF(s:Int):Nat->Int
 |0=>s
 |i+1=>HU (HU (IF s i))
theorem MO(s:Int):It 1 2 (Jm 1) s=(LX (Lr s),HU (HU s)):=by
 have h:∀x:Int,(x%1).toNat=0:=fun x=>by omega
 have a:(HU s/4294967296%2).toNat=0∨(HU s/4294967296%2).toNat=1:=by omega
 show((if(Jm 1).getD (HU s/4294967296%(2:Int)).toNat 0=1 then(⟨2,0,0⟩:hI)else⟨1,(Jm 1).getD (HU s/4294967296%(2:Int)).toNat 0,HU s/4294967296⟩)::(It 1 1 ((Jm 1).eraseIdx (HU s/4294967296%(2:Int)).toNat) (HU s)).1,(It 1 1 ((Jm 1).eraseIdx (HU s/4294967296%(2:Int)).toNat) (HU s)).2)=_
 unfold Lr;rcases a with e|e
 ·rw[e]
  show((⟨1,0,HU s/4294967296⟩:hI)::(It 1 1 [1] (HU s)).1,(It 1 1 [1] (HU s)).2)=_
  show((⟨1,0,HU s/4294967296⟩:hI)::[if([1]:List Int).getD (HU (HU s)/4294967296%(1:Int)).toNat 0=1 then(⟨2,0,0⟩:hI)else⟨1,([1]:List Int).getD (HU (HU s)/4294967296%(1:Int)).toNat 0,HU (HU s)/4294967296⟩],HU (HU s))=_
  rw[h];rfl
 ·rw[e]
  show((⟨2,0,0⟩:hI)::(It 1 1 [0] (HU s)).1,(It 1 1 [0] (HU s)).2)=_
  show((⟨2,0,0⟩:hI)::[if([0]:List Int).getD (HU (HU s)/4294967296%(1:Int)).toNat 0=1 then(⟨2,0,0⟩:hI)else⟨1,([0]:List Int).getD (HU (HU s)/4294967296%(1:Int)).toNat 0,HU (HU s)/4294967296⟩],HU (HU s))=_
  rw[h];rfl
theorem J'(s:Int):∀(n i:Nat),HR 1 n (IF s i)=MN (fun i=>Lr (IF s i)) i n
 |0,_=>rfl
 |n+1,i=>by
  show(It 1 2 (Jm 1) (IF s i)).1++HR 1 n (It 1 2 (Jm 1) (IF s i)).2=_
  rw[MO];show LX (Lr (IF s i))++HR 1 n (IF s (i+1))=_
  rw[J' s n (i+1)];rfl
def Jz(K:KS)(b:Bool):KS:={K with
 entries:=cond b (wrap64 (K.entries+1)) K.entries,at_:=cond b K.entries K.at_,w:=cond b (-1) K.w,draw:=cond b 0 K.draw,clock:={K.clock with now:=cond b (IntKind.u64.wrap (K.clock.now+1)) K.clock.now}}
theorem K5{C:KC}{K:KS}(h:K.clock.heap.l=[])(a:K.out=[]):(∃e,e.kind=6/\(ht C K 2 0 0).1=[e])/\(ht C K 2 0 0).2=Jz K true:=by
 obtain⟨m,b,⟨nw,⟨f,d,g⟩,c⟩,rg,q,tb,i,j,wk,en,at_,w,dr,out⟩:=K;dsimp only at h a;subst h;subst a;exact⟨⟨_,rfl,rfl⟩,rfl⟩
theorem Kr{l:List Ev}{s:Int×Int×Int}(h:∃e,e.kind=6/\l=[e]):Ix l s=some s:=by
 obtain⟨e,a,rfl⟩:=h;show(LW s e).bind (Ix [])=some s
 unfold LW;rw[if_pos (by rw[a];decide)];rfl
def Nq(C:KC)(a:Nat->Bool×Int):Nat->Nat->KS->Int×Int×Int->Option (Int×Int×Int)
 |_,0,_,s=>some s
 |i,n+1,K,s=>
  match Ix (ht C (Jz K (a i).1) 1 0 (a i).2).1 s with
  |none=>none
  |some s=>if(ht C (Jz K (a i).1) 1 0 (a i).2).2.clock.heap.l.length=0 then Nq C a (i+1) n (Jz (ht C (Jz K (a i).1) 1 0 (a i).2).2 (!(a i).1)) s else none
theorem Ka(C:KC):∀(a b:List hI) (K:KS) (s c:Int×Int×Int),I' C a K s=some c->I' C (a++b) K s=I' C b (Kf C a K).2 c
 |[],b,K,s,c,h=>by
  injection h with h
  rw[h];rfl
 |x::a,b,K,s,c,h=>by
  show(Ix (ht C K x.kind x.wk x.draw).1 s).bind (I' C (a++b) _)=_
  have h:(Ix (ht C K x.kind x.wk x.draw).1 s).bind (I' C a (ht C K x.kind x.wk x.draw).2)=some c:=h;cases d:Ix (ht C K x.kind x.wk x.draw).1 s with
  |none=>rw[d]at h;cases h
  |some e=>
   rw[d]at h;exact Ka C a b _ e c h
theorem LA(C:KC)(e:Nat->Bool×Int):∀(n i:Nat) (K:KS) (s j:Int×Int×Int),K.clock.heap.l=[]->K.out=[]->Nq C e i n K s=some j->I' C (MN e i n) K s=some j
 |0,_,_,_,_,_,_,h=>h
 |n+1,i,K,s,j,o,p,h=>by
  unfold Nq at h;obtain⟨b,d,hb⟩:∃b d,e i=(b,d):=⟨_,_,rfl⟩;show I' C (LX (e i)++MN e (i+1) n) K s=_
  rw[hb]at h⊢;dsimp only at h;cases c:Ix (ht C (Jz K b) 1 0 d).1 s with
  |none=>rw[c]at h;cases h
  |some a=>
   rw[c]at h;dsimp only at h;split at h
   ·rename_i g
    have g:=List.eq_nil_of_length_eq_zero g;have m:=LA C e n (i+1) _ a j (show(Jz (ht C (Jz K b) 1 0 d).2 (!b)).clock.heap.l=[]from g) rfl h;cases b with
    |true=>
     obtain⟨k,f⟩:=K5 (C:=C) o p;have l:I' C (LX (true,d)) K s=some a:=by
      show(Ix (ht C K 2 0 0).1 s).bind (fun s=>(Ix (ht C (ht C K 2 0 0).2 1 0 d).1 s).bind some)=_
      rw[Kr k,f];show(Ix (ht C (Jz K true) 1 0 d).1 s).bind some=_
      rw[c];rfl
     rw[Ka C _ _ K s a l];show I' C _ (ht C (ht C K 2 0 0).2 1 0 d).2 a=_
     rw[f];exact m
    |false=>
     obtain⟨k,f⟩:=K5 (C:=C) (K:=(ht C K 1 0 d).2) g rfl;have l:I' C (LX (false,d)) K s=some a:=by
      show(Ix (ht C K 1 0 d).1 s).bind (fun s=>(Ix (ht C (ht C K 1 0 d).2 2 0 0).1 s).bind some)=_
      have c:Ix (ht C K 1 0 d).1 s=some a:=c;rw[c];show(Ix (ht C (ht C K 1 0 d).2 2 0 0).1 a).bind some=_
      rw[Kr k];rfl
     rw[Ka C _ _ K s a l];show I' C _ (ht C (ht C K 1 0 d).2 2 0 0).2 a=_
     rw[f];exact m
   ·cases h
def M'(a:Nat->Bool×Int):Option (Int×Int×Int):=Nq cQ a 0 3000 (hY cQ 1 200) (0,0,0)
set_option maxRecDepth 1000000 in
theorem Na:(fun a=>(M' a).map fun s=>decide (10<s.2.2))=(fun _=>some true):=by kernel_rfl
theorem Nl(a:Int):∃s:Int×Int×Int,I' cQ (HR 1 3000 a) (hY cQ 1 200) (0,0,0)=some s/\10<s.2.2:=by
 have h:(M' (fun i=>Lr (IF a i))).map (fun s=>decide (10<s.2.2))=some true:=congrFun Na (fun i=>Lr (IF a i));cases b:M' (fun i=>Lr (IF a i))with
 |none=>rw[b]at h;cases h
 |some s=>
  rw[b]at h;refine⟨s,?_,of_decide_eq_true (Option.some.inj h)⟩;rw[show HR 1 3000 a=HR 1 3000 (IF a 0)from rfl,J'];exact LA cQ _ 3000 0 _ _ _ (by kernel_rfl) (by kernel_rfl) b
variable{χ:Nat->a'}
def Nn(K:KS)(i:Int)(χ:Nat->a')(w:World)(e:Ending)(w':World):Prop:=e=.returned (.int .u64 ((K.mem.acc 0 (IntKind.u64.wrap (wrap64 (gT K+i))) 0 0).1.getD 0))/\Ch (fun j=>χ j≠ .no) w w'
theorem K6{mb:Nat}{C:KC}{K:KS}(h:MS w χ mb C K)(a:Option Addr)(n c:Nat)(d:Bool)(i:Int)(I:0<=i/\i<=1000):
 Calls prog 58 #[.agg #[.slice a n c,(mb,0),.bool d],i] w (Nn K i χ w):=by
 obtain⟨L,Y,rfl,f,-⟩:=h;obtain⟨b,k⟩:=nm (IntKind.u64.wrap (wrap64 (gT K+i)));have y:aK b:=by rw[<-k];exact bO _
 have m:Hid (∀W,Ch ag w W->Calls prog 40 #[(L.mb,0)] W (ez (.int .i64 (gT K)) W)):=Z (fun W c=>lT (f.af c));have t:Hid (∀W,Ch ag w W->Calls prog 39 #[(L.mb,0),.int .u64 b] W (fun e w'=>e=.returned (.tuple #[.int .u64 (mM K b).1,.bool (mM K b).2.1])/\Ch (fun j=>χ j≠ .no) W w')):=Z (fun W c=>
  (xG b y (f.af c)).mono fun e w' ⟨v,_,_,x⟩=>⟨v,x.nx.ch⟩)
 obtain⟨B,z⟩:=nm w.heap.size;obtain⟨bv,l⟩:=nm (gT K);rw[l]at m k;have H:0<=bv/\bv<=1000:=by
  have:=(f.wk (by simp)).n;rw[<-l];unfold gT;omega
 have hA1:IntKind.i64.wrap (bv+i)=wrap64 (bv+i):=IntWalk.i64_left _;have r:=Z k;unfold Nn;rw[l];have G:Hid ((mM K b).1=(K.mem.acc 0 b 0 0).1.getD 0):=Z rfl;have u:Hid (χ B=.no):=Z (by
  cases A:χ B with
  |no=>rfl
  |_=>exact absurd (f.small B (by rw[A];simp)) (by omega))
 go_in
 go_upto_region 1 with fail
 generalize q:World.alloc _ _=w1;have g:Hid (Ch ag w w1):=Z (Ch.al q);have o:Hid (Row w1 B 148 [.slice a n c,(L.mb,0),.bool d]):=Z (by rw[<-z];exact Row.al q);have F:=o.k 1 rfl;go_region_held3 (fun w'=>w'.cell? (B,1)=some (.pointer (some (L.mb,0)))) (go_keep) (first
  |(go_at_call 40;refine(m _ (g.trans ay)).mono ?_;rintro e w4 ⟨rfl,rfl⟩)
  |(go_at_call 39;refine(t _ (g.trans ay)).mono ?_;rintro e E ⟨rfl,p⟩;have s:Hid (Ch (fun j=>χ j≠ .no) w E):=Z (((g.trans ay).af).trans p);have F:=(o.ch (((ay:Ch ag w1 _).af).trans p) (fun e=>e u)).cell (i:=1) rfl))
 all_goals
  go_wp2
  go_ret;exact⟨by rw[r];rfl,s⟩
theorem MP{w1 b w4:World}(a:Ch ag w w1)(c:Ch ag w1 b)(e:∀i,χ i≠ .no->w1.heap.size<=i)(d:Ch (fun j=>χ j≠ .no) b w4):Ch ag w w4:=
 (a.trans c).fresh d (fun i g f=>by have:=e i f;have:=a.size;omega)
theorem No:∃a K,Ji J9 1 1 (fun _=>false) 1 0 [] (hY J9 1 600)=(a,K,true)/\(K.mem.acc 0 (IntKind.u64.wrap (wrap64 (gT K+0))) 0 0).1=some 7:=by
 have h:=M9;obtain⟨p,c⟩:=nm (Ji J9 1 1 (fun _=>false) 1 0 [] (hY J9 1 600));rw[c]at h⊢;obtain⟨a,K,d⟩:=p;dsimp only at h;rw[Bool.and_eq_true]at h;obtain⟨rfl,b⟩:=h;exact⟨a,K,rfl,eq_of_beq b⟩
theorem Mp{o:Option (List be×List (ByteArray×Int))}{p:List be}(h:o.map Prod.fst=some p):∃l,o=some (p,l):=by
 cases o with
 |none=>cases h
 |some x=>obtain⟨a,b⟩:=x;exact⟨b,by rw[show a=p from Option.some.inj h]⟩
theorem Ls(X:Jl T U D L)(m:Int)(w:World)(p:w.cell? (1,0)=some (.int .i64 m))
 (o:w.cell? (0,0)=some (.iface 390 (.agg #[(4,85)]))):
 Calls prog 33 #[] w (ds (.bool true) w):=by
 obtain⟨g,K,G,H⟩:=No;obtain⟨S,Q⟩:=Mp ML;have u:=Z (KZ X);have l:Hid (∀W,Ch ag w W->Calls prog 57 #[.agg #[.string (T++U++D),.int .i64 15],.int .i64 0,.int .u64 1,.string Mm] W (Ly J9 g K true W)):=Z (fun W c=>by
  refine Lq J9 1 (by decide) (T++U++D) 15 0 1 ⟨by decide,by decide⟩ (by decide) Mm Kn W (Z (Ko Mm Kn S Q)) (Z (fun y V B n f=> ?_)) Nt Nk (fun _=>false) 1 (by decide) g K G;exact Kp X 1 600 (by decide) (by decide) Kn Mo m y (((c.trans n).cell (aQ p) id).trans p) (((c.trans n).cell (aQ o) id).trans o) V f)
 have s:=Z H;unfold Mm at l;go_in
 go_wp2_with fail
 with_reducible refine(u.out _).mono ?_
 rintro e w1 ⟨rfl,I⟩;have i:=Z I;go_wp2_with fail
 with_reducible refine(l.out _ i.out).mono ?_
 rintro e w2 ⟨v,mb,χ,N,rfl,f,R,-,-,P,J⟩;obtain⟨a,c,rfl⟩:=au f;have b:=Z (And.intro R (And.intro P J));obtain⟨d,F⟩:=nm g.length;rw[F];obtain⟨A,O⟩:=nm w2.heap.size;go_upto_region 2 with fail
 generalize q:World.alloc _ _=h;have k:Hid (Ch ag w2 h):=Z (Ch.al q);have x:Hid (Row h A 148 [.slice a d c,(mb,0),.bool true]):=Z (by rw[<-O];exact Row.al q);have t:Hid (∀W,Ch ag h W->Calls prog 58 #[.agg #[.slice a d c,(mb,0),.bool true],.int .i64 0] W (fun e w'=>e=.returned (.int .u64 7)/\Ch (fun j=>χ j≠ .no) W w')):=Z (fun W z=>
  (K6 (b.1.af (k.trans z)) a d c true 0 (by decide)).mono fun e w' ⟨C,E⟩=>⟨by rw[C,s];rfl,E⟩)
 obtain⟨y0,Y,a0⟩:=x.c3;go_wp2_with fail
 with_reducible refine(t.out _ ay).mono ?_
 rintro e w4 ⟨rfl,M⟩;have r:Hid (Ch ag w w4):=Z (MP i (b.2.2.trans k) b.2.1 M);go_wp2
 go_ret;exact ds.mk rfl r
structure Nb(w:World)(mb:Nat)(S:List hI)(F:Int×Int×Int)(gs:Nat)(jk:List Value)(wr:World)(i:Nat)(χ:Nat->a')(K:KS)(s:Int×Int×Int):Prop where
 ms:MS wr χ mb cQ K
 inv:Inv (1+i) 0 K
 law:I' cQ (S.drop i) K s=some F
 rl:∀i,χ i≠ .no->w.heap.size<=i
 ch:Ch ag w wr
 MW:χ gs=.no
 Ea:Row wr gs 41 (S.flatMap mo++jk)
 Ny:0<=s.1/\s.1<=24/\0<=s.2.2/\s.2.2<=1000000
set_option maxHeartbeats 16000000 in
theorem KD(X:Jl T U D L)(n:Int)(y:aK n)(m:Int)(w:World)(l:w.cell? (1,0)=some (.int .i64 m))
 (E:w.cell? (0,0)=some (.iface 390 (.agg #[(4,85)]))):
 Calls prog 8 #[.int .u64 n] w (ds (.bool true) w):=by
 obtain⟨F,hF,c1⟩:=Nl n;obtain⟨fz,cd⟩:=Mp MK;have cS:=Z (KZ X);have bb:=Z (Ko M7 JD fz cd);have di:Hid (∀W H B,Ch ag w W->W.ownsRow B 184 7 H 8 (JD.flatMap dn)->Calls prog 29 #[.agg #[.string (T++U++D),.int .i64 15],.agg #[.int .i64 1,.int .i64 200],.agg #[H,.int .i64 0,.int .i64 3,.int .i64 1]] W (Np cQ 1 200 W)):=Z (fun W H B c fd=>
  Kp X 1 200 (by decide) (by decide) JD Mn m W ((c.cell (aQ l) id).trans l) ((c.cell (aQ E) id).trans E) H fd)
 have cF:Hid (∀W,Ch ag w W->Calls prog 33 #[] W (ds (.bool true) W)):=Z (fun W c=>Ls X m W ((c.cell (aQ l) id).trans l) ((c.cell (aQ E) id).trans E));have bx:Hid (∀W,Calls prog 32 #[.int .i64 1,.int .i64 3000,.int .u64 n] W (Ln (HR 1 3000 n) W)):=Z (fun W=>J8 1 3000 (by decide) (by decide) n y W);obtain⟨S,J⟩:=nm (HR 1 3000 n);have es:Hid (∀x∈S,aK x.draw):=Z (by rw[<-J];exact Jn 1 3000 n y);have c2:S.length=6000:=by rw[<-J];exact I9 1 3000 n
 have a0:=Z c2;rw[J]at bx hF;have bi:=Z (And.intro hF c1);unfold M7 at bb;clear X l E hF c1 cd J c2 y;go_in
 go_wp2_with fail
 with_reducible refine(cS.out _).mono ?_
 rintro e w1 ⟨rfl,c3⟩;have cA:=Z c3;clear c3;go_wp2_with fail
 with_reducible refine(bb.out _).mono ?_
 rintro e w2 ⟨H,rfl,cl,c4⟩;have V:=Z (cA.trans c4);have dp:=Z cl;clear cl c4;go_wp2_with fail
 with_reducible refine(di.out _ _ _ V.out dp.out).mono ?_
 rintro e gf ⟨mb,χ,rfl,ch,c9,c5⟩;have I:=Z (And.intro ch (And.intro (show∀i,χ i≠ .no->w.heap.size<=i from fun i ca=>Nat.le_trans V.size (c9 i ca)) (V.trans c5)));clear ch c9 c5;go_wp2_with fail
 with_reducible refine(bx.out _).mono ?_
 rintro e w4 ⟨ge,rfl,ab,a2⟩;rw[a0]at ab;obtain⟨p,cs,R,rfl,eA,eC,-,bX,-⟩:=aE ab (by decide);have bv:Hid (χ p=.no/\Row w4 p 41 (S.flatMap mo++R)):=Z ⟨by
  cases eI:χ p with
  |no=>rfl
  |_=>exact absurd (I.1.small p (by rw[eI];simp)) (by omega),bX⟩
 have dC:Hid (Nb w mb S F p R w4 0 χ (hY cQ 1 200) (0,0,0)):=Z ⟨I.1.af a2,Nj,bi.1,I.2.1,I.2.2.trans a2,bv.1,bv.2,by decide⟩;clear ab a2 eA eC bX;go_wp2
 go_loopg [6,7,8,9] 6001 (fun gk ap av am fn wr=>∃(i:Nat) (χ:Nat->a') (K:KS) (row last turns:Int),i<=6000/\gk=6001-i/\ap=.int .i64 row/\av=.int .i64 turns/\am=.int .u64 last/\fn=.int .i64 i/\Hid (Nb w mb S F p R wr i χ K (row,last,turns)))
 case atStart=>exact⟨0,χ,_,0,0,0,by omega,rfl,rfl,rfl,rfl,rfl,dC⟩
 case round=>
  obtain⟨i,g1,K,row,last,turns,ca,rfl,rfl,rfl,rfl,rfl,b⟩:=hrel;obtain⟨fK,rfl⟩:=mn wr;by_cases e':i<6000
  ·have eL:(i:Int)<6000:=by omega
   obtain⟨x,O⟩:∃x,S[i]?=some x:=⟨_,List.getElem?_eq_getElem (by rw[a0];exact e')⟩;have Q:=es x (List.mem_of_getElem? O);have c8:S.drop i=x::S.drop (i+1):=by
    have d:=List.getElem?_eq_some_iff.1 O;obtain⟨d,q⟩:=d;rw[List.drop_eq_getElem_cons d,q]
   have bd:Hid (∀W,Ch ag fK W->Calls prog 13 #[(mb,0),.agg #[.int .i64 x.kind,.int .i64 x.wk,.int .u64 x.draw]] W (HI (ht cQ K x.kind x.wk x.draw) g1 mb cQ W)):=Z (fun W c=>A' M8 b.inv (by omega) x.kind x.wk x.draw Q (b.ms.af c));have bw:Hid (Inv (1+(i+1)) 0 (ht cQ K x.kind x.wk x.draw).2):=Z (q4 M8 b.inv (by omega) x.kind x.wk x.draw Q);have cm:=Mk M8 b.inv (show 1+i<=800000 by omega) x.kind x.wk x.draw Q;have g:=b.law;rw[c8]at g;have g:(Ix (ht cQ K x.kind x.wk x.draw).1 (row,last,turns)).bind (I' cQ (S.drop (i+1)) (ht cQ K x.kind x.wk x.draw).2)=some F:=g;obtain⟨D,c0⟩:=nm (ht cQ K x.kind x.wk x.draw);rw[c0]at bd bw cm g;obtain⟨f,cq,cb⟩:∃f,Ix D.1 (row,last,turns)=some f/\I' cQ (S.drop (i+1)) D.2 f=some F:=by
    cases y:Ix D.1 (row,last,turns)with
    |none=>rw[y]at g;cases g
    |some f=>rw[y]at g;exact⟨f,rfl,g⟩
   have cW:=Z cb;obtain⟨m,l⟩:=nm D.1.length;have Y:=Z l;rw[l]at cm;have P:∀u<3,(S.flatMap mo)[i*3+u]?=(mo x)[u]?:=(fun u fk=>bJ (enc:=mo) (k:=3) (fun _=>rfl) O fk);have fO:=b.Ea.cell (i:=i*3) (v:=.int .i64 x.kind) (Jf (P 0 (by decide)) rfl);have fT:=b.Ea.cell (i:=i*3+1) (v:=.int .i64 x.wk) (Jf (P 1 (by decide)) rfl);have g0:=b.Ea.cell (i:=i*3+2) (v:=.int .u64 x.draw) (Jf (P 2 (by decide)) rfl);have e4:Hid (Ix (D.1.drop 0) (row,last,turns)=some f):=Z cq;have cL:=Z b.Ny;clear c0 l O Q c8 P g cb cq;go_wp2_with fail
   with_reducible refine(bd.out _ ay).mono ?_
   rintro e aP ⟨gd,ct,rfl,N,-,ce,G⟩;rw[Y]at N;obtain⟨g2,g3,rfl⟩:=au N;have dN:Hid (∀s:Int×Int×Int,I' cQ (S.drop (i+1)) D.2 s=some F->(0<=s.1/\s.1<=24/\0<=s.2.2/\s.2.2<=1000000)->Nb w mb S F p R aP (i+1) ct D.2 s):=Z (fun s d q=>⟨ce,bw,d,rm b.out.rl G b.ch.size,iA b.rl G b.ch,(G.same _ b.Ea.lt).trans b.MW,b.Ea.ch G.ch (fun h=>h b.MW),q⟩);have dr:=Z N;clear N ce G fO fT g0;go_wp2
   go_loopg [6,7,8,11] (m+1) (fun gk ap av am fr fL=>∃(j:Nat) (row last turns:Int),j<=m/\gk=m+1-j/\ap=.int .i64 row/\av=.int .i64 turns/\am=.int .u64 last/\fr=.int .i64 j/\fL=aP/\Hid (Ix (D.1.drop j) (row,last,turns)=some f/\0<=row/\row<=24/\0<=turns/\turns<=1000000))
   case atStart=>exact⟨0,row,last,turns,by omega,rfl,rfl,rfl,rfl,rfl,rfl,Z ⟨e4,cL⟩⟩
   case round=>
    obtain⟨j,row,last,turns,g7,rfl,rfl,rfl,rfl,rfl,rfl,r⟩:=hrel;by_cases eW:j<m
    ·have eS:(j:Int)<m:=by omega
     obtain⟨e,M⟩:∃e,D.1[j]?=some e:=⟨_,List.getElem?_eq_getElem (by rw[Y];exact eW)⟩;have c7:D.1.drop j=e::D.1.drop (j+1):=by
      have d:=List.getElem?_eq_some_iff.1 M;obtain⟨d,q⟩:=d;rw[List.drop_eq_getElem_cons d,q]
     have a:=r.1;rw[c7]at a;have a:(LW (row,last,turns) e).bind (Ix (D.1.drop (j+1)))=some f:=a;have A:=r.2;obtain⟨g5,g4,gc,a1,-,-,-,ad,-⟩:=aE dr (by omega);injection a1 with a1 et ex
     clear et ex;subst a1;have a4:(D.1.flatMap Ev.cells)[j*11]?=some (.int .i64 e.kind):=(bJ (enc:=Ev.cells) (k:=11) (fun _=>rfl) M (show 0<11 by decide)).trans rfl;have a5:(D.1.flatMap Ev.cells)[j*11+3]?=some (.int .u64 e.t):=(bJ (enc:=Ev.cells) (k:=11) (fun _=>rfl) M (show 3<11 by decide)).trans rfl;have y0:=ad.cell (i:=j*11) (by rw[List.getElem?_append_left (List.getElem?_eq_some_iff.1 a4).1];exact a4);have fM:=ad.cell (i:=j*11+3) (by rw[List.getElem?_append_left (List.getElem?_eq_some_iff.1 a5).1];exact a5);obtain⟨ey,t⟩:∃k,e.kind=k:=⟨_,rfl⟩;obtain⟨o,C⟩:∃k,e.t=k:=⟨_,rfl⟩;rw[t]at y0;rw[C]at fM;clear ad a4 a5 M c7;cases a3:(ey==3)with
     |false=>
      have z:Hid (Ix (D.1.drop (j+1)) (row,last,turns)=some f):=Z (by
       unfold LW at a;rw[if_pos (by rw[t];intro h;rw[h]at a3;cases a3)]at a;exact a)
      clear a t C;go_wp2
      go_roundg (m+1-(j+1))
      case measure=>omega
      case rel=>exact⟨j+1,row,last,turns,by omega,rfl,rfl,rfl,rfl,by go_num,rfl,Z ⟨z,r.2⟩⟩
     |true=>
      have a9:¬e.kind≠3:=(by rw[t];intro h;exact h (eq_of_beq a3));unfold LW at a;rw[if_neg a9,C]at a;dsimp only at a;cases al:(o==last)with
      |false=>
       have ci:o≠last:=(by intro h;rw[h]at al;simp at al);rw[if_pos ci]at a;have fb:turns<1000000:=by
        by_cases h:turns<1000000
        ·exact h
        ·rw[if_neg h]at a;cases a
       rw[if_pos fb]at a;have z:Hid (Ix (D.1.drop (j+1)) (1,o,turns+1)=some f):=Z a;have eG:=A.2.2.1;have g6:=A.2.2.2;clear a t C ci a9 A;go_wp2
       go_roundg (m+1-(j+1))
       case measure=>omega
       case rel=>exact⟨j+1,1,o,turns+1,by omega,rfl,by go_num,by go_num,rfl,by go_num,rfl,Z ⟨z,by decide,by decide,by omega,by omega⟩⟩
      |true=>
       obtain rfl:o=last:=eq_of_beq al;rw[if_neg (fun h=>h rfl)]at a;have g8:row+1<=24:=by
        by_cases h:24<row+1
        ·rw[if_pos h]at a;cases a
        ·omega
       rw[if_neg (by omega)]at a;have z:Hid (Ix (D.1.drop (j+1)) (row+1,o,turns)=some f):=Z a;have eG:=A.1;clear a t C a9 A;go_wp2
       go_roundg (m+1-(j+1))
       case measure=>omega
       case rel=>exact⟨j+1,row+1,o,turns,by omega,rfl,by go_num,rfl,rfl,by go_num,rfl,Z ⟨z,by omega,by omega,r.2.2.2⟩⟩
    ·have eS:¬(j:Int)<m:=by omega
     have en:Hid ((row,last,turns)=f):=Z (by
      have d:=r.1;rw[List.drop_of_length_le (by rw[Y];omega)]at d;exact Option.some.inj d)
     go_wp2
     go_roundg (6001-(i+1))
     case measure=>omega
     case rel=>exact⟨i+1,ct,D.2,row,last,turns,by omega,rfl,rfl,rfl,rfl,by go_num,Z (dN _ (by rw[en];exact cW) r.2)⟩
  ·have eL:¬(i:Int)<6000:=by omega
   have g9:(10:Int)<turns:=by
    have d:=b.law;rw[List.drop_of_length_le (by rw[a0];omega)]at d;have q:(row,last,turns)=F:=Option.some.inj d;have bZ:=bi.2;rw[<-q]at bZ;exact bZ
   go_wp2_with fail
   with_reducible refine(cF.out _ b.out.ch).mono ?_
   rintro e aP ⟨rfl,c6⟩;have cC:=Z (b.ch.trans c6);clear c6;go_wp2
   go_ret;exact ds.mk rfl cC
