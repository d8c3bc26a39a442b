import Derived.Deep.RegionWith
import Derived.Deep.RegionHeldLaw
import Derived.Deep.RegionLawGrows
import Derived.Test.YtlihkblppjgebaaGreatDoorZBc
import Derived.Test.YtlihkblppjgebaaGreatDoorZBm
set_option linter.all false
set_option maxRecDepth 100000
set_option maxHeartbeats 8000000
namespace Go.Proofs.YtlihkblppjgebaaGreatDoor
open Go.RowKit Go.Proofs.Tryz
theorem zK:(prog.info? 120).map (fun i=>(i.zero,i.size,i.bytes))=some (some (.agg (#[.int .u64 0,.int .u64 0,.bool false,.int .i64 0,.int .i64 0]++Array.replicate 32 (.int .u64 0)++#[.slice none 0 0])),38,320):=by kernel_rfl
theorem hU{l:List aV}{loop:Int}{calls:List br}(h:e2 l loop calls=true):0<l.length/\l.length<=2048:=by
 unfold e2 ja at h;simp only[Bool.and_eq_true,decide_eq_true_eq]at h;have a:=h.1.1.1;have b:=h.1.1.2.1;omega
def ak.zero:ak:=⟨0,0,false,0,⟨0,B4,[]⟩⟩
theorem sx:(prog.info? 184).map (fun i=>(i.zero,i.size,i.bytes))=some (some (.agg #[.int .i64 0,.int .i64 0,.int .i64 0,.int .i64 0,.int .u64 0,.int .i64 0,.int .i64 0]),7,56):=by kernel_rfl
theorem zL:(prog.info? 158).map (fun i=>(i.zero,i.size,i.bytes))=some (some (.agg #[.int .i64 0,.int .i64 0,.int .i64 0,.int .i64 0,.int .i64 0,.int .i64 0]),6,48):=by kernel_rfl
theorem ud{W:World}{g:Nat}{L:List Value}(h:∀(j:Nat) (u:Value),L[j]?=some u->W.cell? ⟨g,j,none⟩=some u):∀(j:Nat) (u:Value),L[j]?=some u->W.cell? ((⟨g,0,none⟩:Addr).add j)=some u:=fun j u b=>by
 have a:(⟨g,0,none⟩:Addr).add j=⟨g,j,none⟩:=by unfold Addr.add;split<;>simp_all
 rw[a];exact h j u b
theorem mo(l:List aV):∀u∈b' l,u.oneCell'=true:=fun u b=>by
 obtain⟨X,_,a⟩:=List.mem_flatMap.1 b;have:u∈[Value.int .i64 X.op,.int .i64 X.a,.int .i64 X.b,.int .i64 X.c,.int .u64 X.v,.int .i64 X.m,.int .i64 X.wh]:=a;simp only[List.mem_cons,List.not_mem_nil,or_false]at this;rcases this with rfl|rfl|rfl|rfl|rfl|rfl|rfl<;>rfl
theorem zM(l:List br):∀u∈l.flatMap br.cells,u.oneCell'=true:=fun u b=>by
 obtain⟨X,_,a⟩:=List.mem_flatMap.1 b;simp only[br.cells,List.mem_cons,List.not_mem_nil,or_false]at a;rcases a with rfl|rfl|rfl|rfl|rfl|rfl<;>rfl
theorem kR(l:List br):(l.flatMap br.cells).length=l.length*6:=by
 rw[List.length_flatMap];simp only[br.len];rw[List.map_const',List.sum_replicate_nat]
theorem Iq{P:Program}{ops:Array Oper}{b:Oper}{a:Act}{w:World}{K:Act->World->Prop}{Q:Exit->Act->World->Prop}{E:Prop}
 (j:b.guard=none) (s x:Operand) (t:TypeId) (Gf:b.op=Op.call {callee:=Callee.builtin Builtin.append,args:=#[s,x],argTypes:=#[t,t]})
 (e:TypeId) (i:TypeInfo) (f:P.underlying t=some (.slice e)) (g:P.info? e=some i) (c:Option Addr) (n cap:Nat) (m:a.eval s=.slice c n cap) (k:n<=cap) (o:a.eval x=.slice none 0 0)
 (h:∀d w',d=.slice c n cap->w'=w->K (a.put b.dst d) w'):
 if Region.wanted b (yielded ops a.tmps)=true then Oper.wp P b a w K Q else E:=by
 have hw:Region.wanted b (yielded ops a.tmps)=true:=by simp[Region.wanted,j]
 rw[if_pos hw];have l:(Builtin.append_ #[t,t] b.type #[.slice c n cap,.slice none 0 0]).run P w=.ok (.slice c n cap) w:=by
  simp[Builtin.append_,run_underlying f,sizeOf,typeInfo,g,Builtin.lenOf,Builtin.firstCells,k,storeCells];cases c<;>rfl
 unfold Oper.wp;simp[execOp,Gf,resolve,invoke,builtin,m,o,l,Result.andThen];exact h _ _ rfl rfl
def zN(w:World)(t:TypeId)(n:Nat)(b:List Value)(B c cap:Nat)(wc:World):Prop:=(∃a,Row wc c t (b++a))/\n<=cap/\B<=c
def E6(mb:Nat)(post:List Value)(rest:List Value)(loop:Int)(l:List aV)(calls:List br)(b a:Nat)(w wc:World):Prop:=
 ∃c e d f,NM wc mb ([.slice (some ⟨c,0,none⟩) b e,.int .i64 loop,.slice (some ⟨d,0,none⟩) a f]++rest) (List.replicate 1000 0) post/\zN w 184 b (b' l) w.heap.size c e wc/\zN w 158 a (calls.flatMap br.cells) w.heap.size d f wc/\Ch (aK mb) w wc
def jC(n:Nat)(w:World)(p:Value)(wc:World):Prop:=
 ∃mb a e b f c d,p=.pointer (some ⟨mb,0,none⟩)/\NM wc mb [.slice none 0 0,.int .i64 0,.slice none 0 0,.slice none 0 0,.int .i64 0,.int .i64 0,.int .i64 0] (List.replicate 1000 0)
  [.pointer none,.pointer none,bf b,.pointer none,.pointer none,.pointer none,.pointer none,.map (some a),.slice (some ⟨e,0,none⟩) n n,.int .i64 0,.int .i64 0,.int .i64 0,.int .u64 0,.slice none 0 0]/\
  bH (α:=Nat) wc a .u64 bf []/\Row wc e 120 ((List.replicate n ak.zero).flatMap fun x=>x.cells (.slice none 0 0))/\aX wc b f c d (.slice none 0 0) aN.new/\
  (w.heap.size<=mb/\w.heap.size<=a/\w.heap.size<=e/\w.heap.size<=b/\w.heap.size<=f/\w.heap.size<=c/\w.heap.size<=d)/\a≠c/\a≠d/\Ch ag w wc
theorem zO:Tryz.zeroCells113.toList=[.slice none 0 0,.int .i64 0,.slice none 0 0,.slice none 0 0,.int .i64 0,.int .i64 0,.int .i64 0]++((List.replicate 1000 (0:Int)).map (Value.int .i64)++[.pointer none,.pointer none,.pointer none,.pointer none,.pointer none,.pointer none,.pointer none,.map none,.slice none 0 0,.int .i64 0,.int .i64 0,.int .i64 0,.int .u64 0,.slice none 0 0]):=by kernel_rfl
theorem bH.py{α:Type}{w:World}{b:Nat}{q:IntKind}{enc:α->Value}{l:List (Int×α)}(h:bH w b q enc l):bH w.drew b q enc l:=h
theorem gB(W:World){k:Nat}(a:W.heap.size=k):bH (α:=Nat) (W.alloc (.map #[] 0)) k .u64 bf []:=⟨#[],0,by rw[<-a];exact heap_alloc_new W _,rfl⟩
theorem fB(W:World){k:Nat}(a:W.heap.size=k){cs:Array Value}{t:TypeId}{l:List Value}(h:cs.toList=l):Row (W.alloc (.cells cs t)) k t l:=by rw[<-a,<-h];exact Row.new W cs t
theorem zP(pre:List Value)(rows:List Int)(post:List Value)(j:Nat)(v:Value)(a:pre.length=7)(b:rows.length=1000):(pre++(rows.map (Value.int .i64)++post)).set (1007+j) v=pre++(rows.map (Value.int .i64)++post.set j v):=by
 rw[List.set_append_right _ _ (by rw[a];omega),a,List.set_append_right _ _ (by rw[List.length_map,b];omega),List.length_map,b,show 1007+j-7-1000=j by omega]
theorem jC.of{n:Nat}{w a:World}{b h f l i j k:Nat}(r:a.heap.size=k)(m:bH (α:=Nat) a b .u64 bf [])(o:Row a h 120 ((List.replicate n ak.zero).flatMap fun x=>x.cells (.slice none 0 0)))
 (p:aX a f l i j (.slice none 0 0) aN.new) (d:w.heap.size<=b/\w.heap.size<=h/\w.heap.size<=f/\w.heap.size<=l/\w.heap.size<=i/\w.heap.size<=j) (s:b≠i) (t:b≠j) (c:Ch ag w a):
 jC n w (.pointer (some ⟨k,0,none⟩)) (a.alloc (Obj.cells (((Tryz.zeroCells113.setIfInBounds 1014 (.map (some b))).setIfInBounds 1015 (.slice (some ⟨h,0,none⟩) n n)).setIfInBounds 1009 (.pointer (some ⟨f,0,none⟩))) 113)):=by
 subst r;refine⟨a.heap.size,b,h,f,l,i,j,rfl,⟨?_,rfl,by rw[List.length_replicate]⟩,m.alloc _,o.alloc _,p.ch (c:=(Ch.refl (fun _=>False) a).alloc _) (fun e=>e) (fun e=>e) (fun e=>e) (fun e=>e) (fun g q=>by cases q),⟨c.size,d.1,d.2.1,d.2.2.1,d.2.2.2.1,d.2.2.2.2.1,d.2.2.2.2.2⟩,s,t,c.alloc _⟩;have:=Row.new a (((Tryz.zeroCells113.setIfInBounds 1014 (.map (some b))).setIfInBounds 1015 (.slice (some ⟨h,0,none⟩) n n)).setIfInBounds 1009 (.pointer (some ⟨f,0,none⟩))) 113;rw[Array.toList_setIfInBounds,Array.toList_setIfInBounds,Array.toList_setIfInBounds,zO,show 1014=1007+7 from rfl,show 1015=1007+8 from rfl,show 1009=1007+2 from rfl,zP _ _ _ _ _ rfl (List.length_replicate),zP _ _ _ _ _ rfl (List.length_replicate),zP _ _ _ _ _ rfl (List.length_replicate)]at this;exact this
def fC(l:List br):Nat->List Int
 |0=>List.replicate 1000 0
 |k+1=>(fC l k).set ((l.getD k default).num.toNat) ((k:Int)+1)
theorem oe{n:Int}:∀{l:List br} {s:List Bool},jb n l s=true->∀r∈l,1<=r.num/\r.num<=999
 |[],_,_=>fun r b=>by cases b
 |x::l,s,h=>fun r b=>by
  rw[jb,Bool.and_eq_true]at h;rcases List.mem_cons.1 b with rfl|c
  ·have a:=h.1
   unfold gl at a;simp only[Bool.and_eq_true,decide_eq_true_eq]at a;exact a.1.1.1
  ·exact oe h.2 r c
theorem pz{l:List aV}{loop:Int}{calls:List br}(h:e2 l loop calls=true):∀r∈calls,1<=r.num/\r.num<=999:=by
 unfold e2 at h;rw[Bool.and_eq_true]at h;exact oe h.2
def qH(n:Nat)(loop:Int):Nat->List ak
 |0=>List.replicate n ak.zero
 |k+1=>(qH n loop k).set k (ak.new loop)
theorem oh(n:Nat)(loop:Int):∀k,(qH n loop k).length=n
 |0=>List.length_replicate
 |k+1=>by rw[qH,List.length_set];exact oh n loop k
theorem oi(n:Nat)(loop:Int):∀k i,i<n->(qH n loop k)[i]?=some (if i<k then ak.new loop else ak.zero)
 |0,i,a=>by rw[qH,List.getElem?_replicate,if_pos a,if_neg (by omega)]
 |k+1,i,a=>by
  rw[qH,List.getElem?_set];split
  ·rename_i e;subst e;rw[oh,if_pos a,if_pos (by omega)]
  ·rw[oi n loop k i a]
   by_cases h:i<k
   ·rw[if_pos h,if_pos (by omega)]
   ·rw[if_neg h,if_neg (by omega)]
theorem zQ(n:Nat)(loop:Int):qH n loop n=List.replicate n (ak.new loop):=by
 apply List.ext_getElem?;intro i;by_cases a:i<n
 ·rw[oi n loop n i a,if_pos a,List.getElem?_replicate,if_pos a]
 ·rw[List.getElem?_eq_none (by rw[oh];omega),List.getElem?_eq_none (by rw[List.length_replicate];omega)]
theorem qI{l:List aV}{en b a:Int}(h:ei l en b a=true):0<=b/\b<=256/\0<=a/\a<=256:=by
 unfold ei at h;simp only[Bool.and_eq_true,decide_eq_true_eq]at h;obtain⟨⟨⟨c,d,e,f,_⟩,_⟩,_⟩:=h;omega
def Dl(C:KC)(n tt:Nat)(w:World)(e:Ending)(w':World):Prop:=
 ∃χ L Y,e=.returned (.tuple #[.pointer (some ⟨L.mb,0,none⟩),.nilIface])/\ae w' χ L Y C (hC C n tt)/\(∀i,χ i≠ .no->w.heap.size<=i)/\(∀i,χ i≠ .out)/\Ch ag w w'
theorem fU{α:Type}{W:World}{a b:Nat}{t:TypeId}{l:List Value}{q:IntKind}{enc:α->Value}{m:List (Int×α)}(h:Row W a t l)(f:bH W b q enc m):a≠b:=fun e=>by
 obtain⟨g,c,d,_⟩:=f;rw[<-e,show W.heap[a]?=some (.cells l.toArray t (0,0))from h]at d;cases d
def ue(l:List aV)(loop:Int)(calls:List br)(p:List aV)(en b a:Int):KC:=⟨l,loop,calls,p,en,b,a,fC calls calls.length⟩
def E7(mb:Nat)(post:List Value)(pre:List Value)(en e d:Int)(p:List aV)(a:Nat)(w wc:World):Prop:=
 ∃b c,NM wc mb (pre++[.slice (some ⟨b,0,none⟩) a c,.int .i64 en,.int .i64 e,.int .i64 d]) (List.replicate 1000 0) post/\zN w 184 a (b' p) w.heap.size b c wc/\Ch (aK mb) w wc
theorem jB{l:List aV}{en b a:Int}(h:ei l en b a=true):0<l.length/\l.length<=2048:=by
 unfold ei ja at h;simp only[Bool.and_eq_true,decide_eq_true_eq]at h;have c:=h.1.1;have d:=h.1.2.1;omega
theorem zR(n tt:Nat)(p6:1<=n/\n<=64)(pi:1<=tt/\tt<=65536)(l:List aV)(Q:Nat)(c3:Nat)(loop:Int)(calls:List br)(c1:Option Addr)(c2:Nat)(p:List aV)(U:Nat)(pc:Nat)(en:Int)(o A:Nat)
 (p3:l.length<=c3) (rQ:calls.length<=c2) (pa:p.length<=pc) (lQ:calls.length<=100000) (w:World) (lS:eE w Q l) (mp:eE w U p)
 (kN:(∃gk O,c1=some ⟨gk,0,none⟩/\0<calls.length/\Row w gk 158 (calls.flatMap br.cells++O))∨c1=none/\calls=[]/\c2=0)
 (ks:e2 l loop calls=true) (kw:ei p en o A=true)
 (N:w.cell? ⟨0,0,none⟩=some (.iface 390 (.agg #[.pointer (some ⟨4,85,none⟩)]))):
 Calls prog 34 #[.agg #[.int .i64 n,.int .i64 tt],.agg #[.slice (some ⟨Q,0,none⟩) l.length c3,.int .i64 loop,.slice c1 calls.length c2],.agg #[.slice (some ⟨U,0,none⟩) p.length pc,.int .i64 en,.int .i64 o,.int .i64 A]] w (fun e w'=>(17+8*n+o+A+1<=tt/\Dl (ue l loop calls p en o A) n tt w e w')∨(tt<17+8*n+o+A+1/\z2 w e w')):=by
 obtain⟨w1,jm⟩:=nm (((w.alloc (.cells #[.int .i64 n,.int .i64 tt] 35)).alloc (.cells #[.slice (some ⟨Q,0,none⟩) l.length c3,.int .i64 loop,.slice c1 calls.length c2] 90)).alloc (.cells #[.slice (some ⟨U,0,none⟩) p.length pc,.int .i64 en,.int .i64 o,.int .i64 A] 77));have ct:Hid (Ch ag w w1):=Z (by rw[<-jm];exact(((Ch.refl _ _).alloc _).alloc _).alloc _);have kg:Hid (Row w1 w.heap.size 35 [.int .i64 n,.int .i64 tt]):=Z (by rw[<-jm];exact((Row.new w _ _).alloc _).alloc _);have c6:Hid (Row w1 (w.heap.size+1) 90 [.slice (some ⟨Q,0,none⟩) l.length c3,.int .i64 loop,.slice c1 calls.length c2]):=Z (by
  rw[<-jm];have:=Row.new (w.alloc (.cells #[.int .i64 n,.int .i64 tt] 35)) #[.slice (some ⟨Q,0,none⟩) l.length c3,.int .i64 loop,.slice c1 calls.length c2] 90;rw[World.size_alloc]at this;exact this.alloc _)
 have T2:Hid (Row w1 (w.heap.size+2) 77 [.slice (some ⟨U,0,none⟩) p.length pc,.int .i64 en,.int .i64 o,.int .i64 A]):=Z (by
  rw[<-jm];have:=Row.new ((w.alloc (.cells #[.int .i64 n,.int .i64 tt] 35)).alloc (.cells #[.slice (some ⟨Q,0,none⟩) l.length c3,.int .i64 loop,.slice c1 calls.length c2] 90)) #[.slice (some ⟨U,0,none⟩) p.length pc,.int .i64 en,.int .i64 o,.int .i64 A] 77;rw[World.size_alloc,World.size_alloc]at this;exact this)
 have ni:Hid (eE w1 Q l):=Z (lS.ch ct.out (fun h=>h));have nx:Hid (eE w1 U p):=Z (mp.ch ct.out (fun h=>h));have lc:Hid ((∃gk O,c1=some ⟨gk,0,none⟩/\0<calls.length/\gk<w.heap.size/\Row w1 gk 158 (calls.flatMap br.cells++O))∨c1=none/\calls=[]/\c2=0):=Z (by
  rcases kN with⟨gk,O,f,V,c8⟩|h
  ·exact Or.inl ⟨gk,O,f,V,c8.lt,c8.ch ct.out (fun h=>h)⟩
  ·exact Or.inr h)
 have lb:Hid (w1.cell? ⟨0,0,none⟩=some (.iface 390 (.agg #[.pointer (some ⟨4,85,none⟩)]))):=Z (ct.out.k N);have io:=jc l (some ⟨Q,0,none⟩) c3 loop calls c1 c2 p3 lQ w1 (fun _=>⟨Q,rfl,ni.out⟩) (fun ma=>by
  rcases lc.out with⟨gk,O,f,_,_,c8⟩|⟨_,h,_⟩
  ·exact⟨gk,O,f,c8⟩
  ·exact absurd h ma) lb.out
 rw[ks]at io;have io:=Z io;have ne:Hid (∀w2,Ch ag w1 w2->Calls prog 61 #[.agg #[.slice (some ⟨U,0,none⟩) p.length pc,.int .i64 en,.int .i64 o,.int .i64 A]] w2 (qz true w2)):=Z (fun w2 Y=>by
  have:=jd p (some ⟨U,0,none⟩) pc en o A pa w2 (fun _=>⟨U,rfl,nx.out.ch Y (fun h=>h)⟩) ((Y.cell (aE lb.out) (fun h=>h)).trans lb.out)
  rwa [kw]at this)
 obtain⟨ap,j5⟩:=mn l.length;obtain⟨G,j1⟩:=mn calls.length;obtain⟨cW,j6⟩:=mn p.length;have qt:Hid (U<w.heap.size/\Q<w.heap.size):=Z ⟨mp.lt,lS.lt⟩;have qq:=Z (pz ks);have kb:=Z (qI kw);have lm:=Z j5;have cb:=Z j1;have ln:=Z j6;rw[<-j5,<-j1]at c6 io;rw[<-j6]at T2 ne;rw[<-j5,<-j1,<-j6]at jm⊢;have eS:=Z p6;have lp:=Z pi;obtain⟨mL,tU⟩:=kg.out.c2;obtain⟨t10,t11,t12⟩:=c6.out.c3;obtain⟨t20,t21,t22,t23⟩:=T2.out.c4;have oy:0<ap/\ap<=2048:=by rw[j5];exact hU ks
 have ox:G<=100000:=by rw[j1];exact lQ
 have jI:Hid (0<cW/\cW<=2048):=Z (by rw[j6];exact jB kw);have cq:=Z oy;have mT:=Z ox;have i1:(1:Int)<=n:=by omega
 have i2:(n:Int)<=64:=by omega
 have tj:(1:Int)<=tt:=by omega
 have tl:(tt:Int)<=65536:=by omega
 clear oy ox j5 j1 j6 p3 rQ pa lQ lS mp kN ks kw N p6 pi;go_enter func34,ntmps34
 go_wp2_with (first|(go_at_call 60;refine io.out.mono ?_;rintro e w2 ⟨⟨y,rfl,mE⟩,hv⟩;obtain rfl:y=.nilIface:=mE;have mW:=Z hv;have u20:=(T2.out.ch hv (fun h=>h)).cell (i:=0) rfl;have u21:=(T2.out.ch hv (fun h=>h)).cell (i:=1) rfl;have u22:=(T2.out.ch hv (fun h=>h)).cell (i:=2) rfl;have u23:=(T2.out.ch hv (fun h=>h)).cell (i:=3) rfl;clear hv)|(go_at_call 61;refine(ne.out _ mW.out).mono ?_;rintro e ab ⟨⟨y,rfl,mE⟩,oT⟩;obtain rfl:y=.nilIface:=mE;have c9:=Z (mW.out.trans oT);clear oT))
 obtain⟨g2,hB,fn,fr,fz⟩:=info_parts zK;have rU:=fun w=>run_make (P:=prog) w 111 120 g2 _ underlying111 hB fn .i64 .i64 (n:Int) (n:Int) (by omega) (by omega) (by rw[fz];omega) (by omega)
 obtain⟨cs,kM⟩:=nm (madeCells (Value.agg (#[.int .u64 0,.int .u64 0,.bool false,.int .i64 0,.int .i64 0]++Array.replicate 32 (.int .u64 0)++#[.slice none 0 0])).cells ((n:Int).toNat*g2.size));simp only[kM]at rU;rw[fr,Int.toNat_natCast]at kM;have q9:=Z kM;have gs:Hid (cs.toList=(List.replicate n ak.zero).flatMap fun x=>x.cells (.slice none 0 0)):=Z (by
  rw[<-q9.out];exact gP (enc:=fun x:ak=>x.cells (.slice none 0 0)) (k:=38) (fun x=>ak.len (x,_)) (by omega) ak.zero _ rfl n)
 have te:= @run_makeMap prog;clear kM hB fn fr fz;have mL:=kg.out.c1;have mS:ab.cell? ⟨w.heap.size,0,none⟩=some (.int .i64 n):=c9.out.k mL;clear mL;go_cut [10] (fun p wc=>jC n ab p wc)
 case first=>
  have jv:=World.new_ne ab ⟨w.heap.size,0,none⟩ mS;have jw:w.heap.size<ab.heap.size:=aE mS;go_region_held3 (fun w'=>w'.cell? ⟨w.heap.size,0,none⟩=some (.int .i64 n)) (go_keep) ((go_at_call 62;refine(ki _).mono ?_;rintro e a ⟨b,rG,mb,cl,rfl,hw,dC,dN,ec,iZ,lJ⟩;have am:=Z hw;have E:Hid (Ch ag ab a):=Z (Ch.trans (by repeat(first|exact Ch.refl _ _|with_reducible refine Ch.drew ?_|with_reducible refine Ch.alloc ?_ _)) lJ);have ge:=Z lJ;have al:=Z (And.intro dC (And.intro dN (And.intro ec iZ)));have x5:=E.out.k mS;clear hw lJ dC dN ec iZ))
  all_goals(go_wp2_with fail;go_meet)
  ·exact jC.of (by simp) (((gB ab rfl).alloc _).py.ch ge.out (fun h=>h)) ((fB (ab.alloc (.map #[] 0)) (k:=ab.heap.size+1) (by simp) gs.out).drew.ch ge.out (fun h=>h)) am.out (by have f:=al.out;simp only[World.size_alloc,World.size_drew]at f;omega) (by have f:=al.out;simp only[World.size_alloc,World.size_drew]at f;omega) (by have f:=al.out;simp only[World.size_alloc,World.size_drew]at f;omega) E.out
  ·exact jC.of (by simp) ((((gB ab rfl)).py.ch ge.out (fun h=>h)).alloc _) (fB _ rfl gs.out) (am.out.ch (c:=(Ch.refl (fun _=>False) a).alloc _) (fun e=>e) (fun e=>e) (fun e=>e) (fun e=>e) (fun g N=>by cases N)) (by have f:=al.out;have V:=E.out.size;simp only[World.size_alloc,World.size_drew]at f;omega) (by have f:=al.out;simp only[World.size_alloc,World.size_drew]at f;omega) (by have f:=al.out;simp only[World.size_alloc,World.size_drew]at f;omega) (E.out.alloc _)
  ·exact jC.of (by simp) ((gB (ab.alloc (.cells cs 120)) (k:=ab.heap.size+1) (by simp)).py.ch ge.out (fun h=>h)) (((fB _ rfl gs.out).alloc _).drew.ch ge.out (fun h=>h)) am.out (by have f:=al.out;simp only[World.size_alloc,World.size_drew]at f;omega) (by have f:=al.out;simp only[World.size_alloc,World.size_drew]at f;omega) (by have f:=al.out;simp only[World.size_alloc,World.size_drew]at f;omega) E.out
  ·exact jC.of (by simp) (gB _ rfl) (((fB _ rfl gs.out).drew.ch ge.out (fun h=>h)).alloc _) (am.out.ch (c:=(Ch.refl (fun _=>False) a).alloc _) (fun e=>e) (fun e=>e) (fun e=>e) (fun e=>e) (fun g N=>by cases N)) (by have f:=al.out;have V:=E.out.size;simp only[World.size_alloc,World.size_drew]at f;omega) (by have:=am.out.heap.map.lt;omega) (by have:=am.out.ff.lt;omega) (E.out.alloc _)
  ·exact jC.of (by simp) ((gB _ rfl).alloc _) (fB (a.alloc (.map #[] 0)) (k:=a.heap.size+1) (by simp) gs.out) (am.out.ch (c:=((Ch.refl (fun _=>False) a).alloc _).alloc _) (fun e=>e) (fun e=>e) (fun e=>e) (fun e=>e) (fun g N=>by cases N)) (by have f:=al.out;have V:=E.out.size;simp only[World.size_alloc,World.size_drew]at f;omega) (by have:=am.out.heap.map.lt;omega) (by have:=am.out.ff.lt;omega) ((E.out.alloc _).alloc _)
  ·exact jC.of (by simp) (gB (a.alloc (.cells cs 120)) (k:=a.heap.size+1) (by simp)) ((fB _ rfl gs.out).alloc _) (am.out.ch (c:=((Ch.refl (fun _=>False) a).alloc _).alloc _) (fun e=>e) (fun e=>e) (fun e=>e) (fun e=>e) (fun g N=>by cases N)) (by have f:=al.out;have V:=E.out.size;simp only[World.size_alloc,World.size_drew]at f;omega) (by have:=am.out.heap.map.lt;omega) (by have:=am.out.ff.lt;omega) ((E.out.alloc _).alloc _)
 case rest=>
  obtain⟨mb,c4,z,c7,hn,ch,hu,rfl,mc,l',hF,hw,ph,jv,jw,kx⟩:=hcut;obtain⟨w4,pk⟩:=nm wc;rw[pk]at mc l' hF hw kx⊢;have c5:=Z mc;have i8:Hid (Ch ag w1 w4):=Z (c9.out.trans kx.af);have he:=Z ph;have k9:=Z l';have ce:=Z hF;have bw:=Z hw;have nv:=Z (And.intro jv jw);have q7:=Z kx;clear mc l' hF hw ph jv jw kx pk;have qp:=Z (fun(w:World) pre rows post (h:NM w mb pre rows post) (r:NR pre post z n 0 0)=>lG h r);have l1:=Z (qp.out w4.drew _ _ _ c5.out.drew ⟨rfl,rfl,rfl,eS.out.1,eS.out.2,by omega,by omega,by omega,by omega⟩);have sv:=((kg.out.ch i8.out (fun h=>h)).cell (i:=1) rfl);have sz:=((T2.out.ch i8.out (fun h=>h)).cell (i:=2) rfl);have sA:=((T2.out.ch i8.out (fun h=>h)).cell (i:=3) rfl);have ti:(o:Int)<=65536:=by have:=kb.out;omega
  have tg:(A:Int)<=65536:=by have:=kb.out;omega
  rcases Nat.lt_or_ge tt (17+8*n+o+A+1)with jg|jg
  ·have pg:((tt:Int)<17+8*(n:Int)+o+A+1):=by omega
   have iv:=Z jg;clear jg;go_wp2_with fail
   have sp:IntKind.i64.wrap (17+8*(n:Int)+o)=17+8*(n:Int)+o:=IntWalk.i64_in _ (by omega);have sr:IntKind.i64.wrap (17+8*(n:Int)+o+A)=17+8*(n:Int)+o+A:=IntWalk.i64_in _ (by omega);have st:IntKind.i64.wrap (17+8*(n:Int)+o+A+1)=17+8*(n:Int)+o+A+1:=IntWalk.i64_in _ (by omega);refine wp_region_still (by kernel_rfl) (by kernel_rfl) ?_;try simp only[]
   repeat still_step
   still_call (bZ l1.out)
   repeat still_step
   try refine wpStill_nil ?_
   go_wp2_with (go_at_call 59;refine(e8 _ _ _ _).mono ?_;rintro e w' ⟨rfl,rfl⟩)
   any_goals (first|(exfalso;omega)|skip)
   go_ret2;exact Or.inr ⟨iv.out,⟨_,rfl,aq.mk _ _⟩,(ct.out.trans i8.out.drew).alloc _⟩
  have pg:¬((tt:Int)<17+8*(n:Int)+o+A+1):=by omega
  have iv:=Z jg;clear jg;go_wp2_with fail
  have sp:IntKind.i64.wrap (17+8*(n:Int)+o)=17+8*(n:Int)+o:=IntWalk.i64_in _ (by omega);have sr:IntKind.i64.wrap (17+8*(n:Int)+o+A)=17+8*(n:Int)+o+A:=IntWalk.i64_in _ (by omega);have st:IntKind.i64.wrap (17+8*(n:Int)+o+A+1)=17+8*(n:Int)+o+A+1:=IntWalk.i64_in _ (by omega);refine wp_region_still (by kernel_rfl) (by kernel_rfl) ?_;try simp only[]
  repeat still_step
  still_call (bZ l1.out)
  repeat still_step
  try refine wpStill_nil ?_
  go_wp2_with fail
  any_goals (first|(exfalso;omega)|skip)
  change Code.wp _ _ _ _ w4.drew;obtain⟨a,kQ⟩:=nm w4.drew;have E:Hid (Ch ag w1 a):=Z (by rw[<-kQ];exact i8.out.drew);have n1:Hid (Ch ag w4 a):=Z (by rw[<-kQ];exact(Ch.refl _ _).drew);have F:=Z (c5.out.ch n1.out (fun h=>h));rw[kQ];clear kQ sv sz sA l1 pg;have i6:=((c6.out.ch E.out (fun h=>h)).cell (i:=0) rfl);have i7:=((c6.out.ch E.out (fun h=>h)).cell (i:=1) rfl);have z12:=((c6.out.ch E.out (fun h=>h)).cell (i:=2) rfl);go_cut [] (fun wc=>E6 mb [.pointer none,.pointer none,bf c7,.pointer none,.pointer none,.pointer none,.pointer none,.map (some c4),.slice (some ⟨z,0,none⟩) n n,.int .i64 0,.int .i64 0,.int .i64 0,.int .u64 0,.slice none 0 0] [.slice none 0 0,.int .i64 0,.int .i64 0,.int .i64 0] loop l calls ap G a wc)
  case first=>
   have pp:=F.out.pc (i:=0) rfl;have pt:=F.out.pc (i:=1) rfl;have pu:=F.out.pc (i:=2) rfl;have f0:=F.out.fz 0;have f1:=F.out.fz 1;have f2:=F.out.fz 2;have rD:w.heap.size+1<mb:=Nat.lt_of_lt_of_le c6.out.lt (Nat.le_trans c9.out.size he.out.1);have d1:mb≠w.heap.size+1:=(by omega);have d2:w.heap.size+1≠mb:=(by omega);have jv:=World.new_ne a _ i6;have jw:=World.new_ne a _ i7;have s9:=World.new_ne a _ z12;obtain⟨g2,hB,fn,fr,fz⟩:=info_parts sx;obtain⟨i1,rI,s4,s5,s6⟩:=info_parts zL;have k4:=Z hB;have ng:=Z rI;have nj:Hid (eE a Q l):=Z (ni.out.ch E.out (fun h=>h));have nZ:Hid ((b' l).length=ap*7):=Z (by rw[lU,lm.out];omega);rcases lc.out with⟨gk,O,rfl,pf,es,kO⟩|⟨rfl,lN,rfl⟩
   ·have ql:Hid (Row a gk 158 (calls.flatMap br.cells++O)):=Z (kO.ch E.out (fun h=>h))
    have pf:0<G/\G<=100000:=⟨by rw[cb.out];exact pf,mT.out⟩;clear kO es;have r8:Hid ((calls.flatMap br.cells).length=G*6):=Z (by rw[kR,cb.out]);go_region_held_law (fun w'=>w'.cell? ⟨w.heap.size+1,0,none⟩=some (.slice (some ⟨Q,0,none⟩) ap c3)/\w'.cell? ⟨w.heap.size+1,1,none⟩=some (.int .i64 loop)/\w'.cell? ⟨w.heap.size+1,2,none⟩=some (.slice (some ⟨gk,0,none⟩) G c2)) (go_keep) (first
     |(refine step_append_grows (by rfl) _ _ 75 (by rfl) 184 g2 _ 7 56 underlying75 k4.out fn fr fz (by rfl) (by omega) _ 0 0 [] (by rfl) (fun h=>⟨rfl,rfl⟩) (by rfl) (fun _ _ _ _ h=>by cases h) ⟨Q,0,none⟩ ap c3 (b' l) (by rfl) nZ.out (ud (fun j u eA=>(nj.out.ch (show Ch ag a _ by repeat(first|exact Ch.refl _ _|exact D.out|with_reducible refine Ch.drew ?_|with_reducible refine Ch.alloc ?_ _)) (fun h=>h)).cell j u eA)) (mo l) (by have:=cq.out;omega) (by have:=cq.out;unfold maxLen;omega) (by have:=cq.out;omega) ?_;intro jy av et ci;have t:Hid (Ch ag a av):=Z ((show Ch ag a _ by repeat(first|exact Ch.refl _ _|exact D.out|with_reducible refine Ch.drew ?_|with_reducible refine Ch.alloc ?_ _)).trans ((Ch.bQ ci).mono (fun i H=>by cases H)));obtain⟨S,dr,jp,rfl,hA1,hA2,hA3,hA4,hA5⟩:=aS et (by have:=cq.out;omega);have ix:=Z hA4;have cL:=Z (And.intro hA1 hA2);have rh:=t.out.k i6;have ri:=t.out.k i7;have a12:=t.out.k z12;clear et ci hA1 hA2 hA3 hA4 hA5)
     |(refine step_append_grows (by rfl) _ _ 88 (by rfl) 158 i1 _ 6 48 underlying88 ng.out s4 s5 s6 (by rfl) (by omega) _ 0 0 [] (by rfl) (fun h=>⟨rfl,rfl⟩) (by rfl) (fun _ _ _ _ h=>by cases h) ⟨gk,0,none⟩ G c2 (calls.flatMap br.cells) (by rfl) r8.out (ud (fun j u eA=>(ql.out.ch (show Ch ag a _ by repeat(first|exact Ch.refl _ _|exact t.out|with_reducible refine Ch.drew ?_|with_reducible refine Ch.alloc ?_ _)) (fun h=>h)).cell (by rw[List.getElem?_append_left (List.getElem?_eq_some_iff.1 eA).1];exact eA))) (zM calls) (by omega) (by unfold maxLen;omega) (by omega) ?_;intro jy bi p8 lP;have D:Hid (Ch ag a bi):=Z ((show Ch ag a _ by repeat(first|exact Ch.refl _ _|exact t.out|with_reducible refine Ch.drew ?_|with_reducible refine Ch.alloc ?_ _)).trans ((Ch.bQ lP).mono (fun i H=>by cases H)));obtain⟨T,oa,s7,rfl,on,os,rE,ou,rF⟩:=aS p8 (by omega);have ls:=Z ou;have jY:=Z (And.intro on os);have l0:=Z (Ch.bQ lP);have rj:=D.out.k i6;have rk:=D.out.k i7;have rl:=D.out.k z12;have pp:=(F.out.ch D.out (fun h=>h)).pc (i:=0) rfl;have pt:=(F.out.ch D.out (fun h=>h)).pc (i:=1) rfl;have pu:=(F.out.ch D.out (fun h=>h)).pc (i:=2) rfl;have f0:=(F.out.ch D.out (fun h=>h)).fz 0;have f1:=(F.out.ch D.out (fun h=>h)).fz 1;have f2:=(F.out.ch D.out (fun h=>h)).fz 2;clear p8 lP on os rE ou rF))
    all_goals(go_wp2_with fail;go_meet)
    all_goals
     have eW:a.heap.size<=S:=Nat.le_trans ((show Ch ag a _ by repeat(first|exact Ch.refl _ _|exact t.out|with_reducible refine Ch.drew ?_|with_reducible refine Ch.alloc ?_ _))).size cL.out.1;have iV:a.heap.size<=T:=Nat.le_trans ((show Ch ag a _ by repeat(first|exact Ch.refl _ _|exact t.out|with_reducible refine Ch.drew ?_|with_reducible refine Ch.alloc ?_ _))).size jY.out.1;have iW:Ch ag av bi:=((show Ch ag av _ by repeat(first|exact Ch.refl _ _|exact t.out|with_reducible refine Ch.drew ?_|with_reducible refine Ch.alloc ?_ _))).trans (l0.out.mono (fun i H=>by cases H));have kp:mb<a.heap.size:=F.out.lt;have Y:Ch (aK mb) bi (((bi.setCell ⟨mb,0,none⟩ (.slice (some ⟨S,0,none⟩) ap dr)).setCell ⟨mb,1,none⟩ (.int .i64 loop)).setCell ⟨mb,2,none⟩ (.slice (some ⟨T,0,none⟩) G oa)):=(((Ch.refl _ _).only _ _).only _ _).only _ _;refine⟨S,dr,T,oa,(((F.out.ch D.out (fun h=>h)).tP (i:=0) (by omega) _).tP (i:=1) (by omega) _).tP (i:=2) (by omega) _,⟨⟨jp,?_⟩,?_,eW⟩,⟨⟨s7,?_⟩,?_,iV⟩,D.out.af.trans Y⟩
     ·exact(ix.out.ch iW (fun h=>h)).ch Y (fun e=>by have:S=mb:=e;omega)
     ·have:=cL.out.2;omega
     ·exact ls.out.ch Y (fun e=>by have:T=mb:=e;omega)
     ·have:=jY.out.2;omega
   ·have q8:=Z lN
    obtain rfl:G=0:=by rw[cb.out,lN];rfl
    clear lN;go_region_held_law (fun w'=>w'.cell? ⟨w.heap.size+1,0,none⟩=some (.slice (some ⟨Q,0,none⟩) ap c3)/\w'.cell? ⟨w.heap.size+1,1,none⟩=some (.int .i64 loop)/\w'.cell? ⟨w.heap.size+1,2,none⟩=some (.slice none 0 0)) (go_keep) (first
     |(refine step_append_grows (by rfl) _ _ 75 (by rfl) 184 g2 _ 7 56 underlying75 k4.out fn fr fz (by rfl) (by omega) _ 0 0 [] (by rfl) (fun h=>⟨rfl,rfl⟩) (by rfl) (fun _ _ _ _ h=>by cases h) ⟨Q,0,none⟩ ap c3 (b' l) (by rfl) nZ.out (ud (fun j u eA=>(nj.out.ch (show Ch ag a _ by repeat(first|exact Ch.refl _ _|exact D.out|with_reducible refine Ch.drew ?_|with_reducible refine Ch.alloc ?_ _)) (fun h=>h)).cell j u eA)) (mo l) (by have:=cq.out;omega) (by have:=cq.out;unfold maxLen;omega) (by have:=cq.out;omega) ?_;intro jy av et ci;have t:Hid (Ch ag a av):=Z ((show Ch ag a _ by repeat(first|exact Ch.refl _ _|exact D.out|with_reducible refine Ch.drew ?_|with_reducible refine Ch.alloc ?_ _)).trans ((Ch.bQ ci).mono (fun i H=>by cases H)));obtain⟨S,dr,jp,rfl,hA1,hA2,hA3,hA4,hA5⟩:=aS et (by have:=cq.out;omega);have ix:=Z hA4;have cL:=Z (And.intro hA1 hA2);have qc:=Z (Ch.bQ ci);have rh:=t.out.k i6;have ri:=t.out.k i7;have a12:=t.out.k z12;clear et ci hA1 hA2 hA3 hA4 hA5)
     |(refine Iq (by rfl) _ _ 88 (by rfl) 158 i1 underlying88 ng.out _ 0 0 (by rfl) (Nat.le_refl _) (by rfl) ?_;intro jy bi pj kS;have D:Hid (Ch ag a bi):=Z (by rw[kS];exact(show Ch ag a _ by repeat(first|exact Ch.refl _ _|exact t.out|with_reducible refine Ch.drew ?_|with_reducible refine Ch.alloc ?_ _)));obtain⟨T,rfl,o1,n8⟩:∃T,jy=.slice (some ⟨T,0,none⟩) 0 0/\Row bi T 158 []/\a.heap.size<=T:=⟨_,pj,by rw[kS];repeat(first|exact fB _ (by first|rfl|simp) rfl|with_reducible refine Row.drew ?_|with_reducible refine Row.alloc ?_ _|refine Row.ch ?_ qc.out (fun h=>by cases h)),by first|exact Nat.le_refl _|exact Nat.le_add_right _ _|exact t.out.size|exact Nat.le_trans t.out.size (Nat.le_add_right _ _)|(have:=t.out.size;simp;omega)⟩;have ls:=Z o1;have jY:=Z n8;have l0:Hid (Ch ag av bi):=Z (by rw[kS];exact(show Ch ag av _ by repeat(first|exact Ch.refl _ _|with_reducible refine Ch.drew ?_|with_reducible refine Ch.alloc ?_ _)));have rj:=D.out.k i6;have rk:=D.out.k i7;have rl:=D.out.k z12;have pp:=(F.out.ch D.out (fun h=>h)).pc (i:=0) rfl;have pt:=(F.out.ch D.out (fun h=>h)).pc (i:=1) rfl;have pu:=(F.out.ch D.out (fun h=>h)).pc (i:=2) rfl;have f0:=(F.out.ch D.out (fun h=>h)).fz 0;have f1:=(F.out.ch D.out (fun h=>h)).fz 1;have f2:=(F.out.ch D.out (fun h=>h)).fz 2;clear pj kS o1 n8))
    all_goals(go_wp2_with fail;go_meet)
    all_goals
     have eW:a.heap.size<=S:=Nat.le_trans ((show Ch ag a _ by repeat(first|exact Ch.refl _ _|exact t.out|with_reducible refine Ch.drew ?_|with_reducible refine Ch.alloc ?_ _))).size cL.out.1;have iV:a.heap.size<=T:=jY.out;have iW:Ch ag av bi:=l0.out;have kp:mb<a.heap.size:=F.out.lt;have Y:Ch (aK mb) bi (((bi.setCell ⟨mb,0,none⟩ (.slice (some ⟨S,0,none⟩) ap dr)).setCell ⟨mb,1,none⟩ (.int .i64 loop)).setCell ⟨mb,2,none⟩ (.slice (some ⟨T,0,none⟩) 0 0)):=(((Ch.refl _ _).only _ _).only _ _).only _ _;refine⟨S,dr,T,0,(((F.out.ch D.out (fun h=>h)).tP (i:=0) (by omega) _).tP (i:=1) (by omega) _).tP (i:=2) (by omega) _,⟨⟨jp,?_⟩,?_,eW⟩,⟨⟨[],?_⟩,?_,iV⟩,D.out.af.trans Y⟩
     ·exact(ix.out.ch iW (fun h=>h)).ch Y (fun e=>by have:S=mb:=e;omega)
     ·have:=cL.out.2;omega
     ·rw[q8.out];exact ls.out.ch Y (fun e=>by have:T=mb:=e;omega)
     ·exact Nat.le_refl _
  case rest=>
   obtain⟨iz,hi,iF,hm,md,fd,ex,lL⟩:=hcut;obtain⟨ad,pl⟩:=nm wc;rw[pl]at md fd ex lL⊢;have c0:=Z md;have qD:=Z fd;have qF:=Z ex;have eL:=Z lL;clear md fd ex lL pl i6 i7 z12;have sD:Hid (Ch ag w ad):=Z ((ct.out.trans E.out).fresh eL.out (fun b rG e=>by have f:b=mb:=e;have V:=he.out.1;have c8:=Nat.lt_of_lt_of_le c6.out.lt c9.out.size;omega));have ii:∀x,x<w.heap.size+3->¬aK mb x:=(fun x i3 e=>by have f:x=mb:=e;have V:=he.out.1;have c8:=Nat.lt_of_lt_of_le T2.out.lt c9.out.size;omega);have rf:=Z ((T2.out.ch E.out (fun h=>h)).ch eL.out (ii _ (by omega)));obtain⟨mN,mP,kX,mQ⟩:=rf.out.c4;go_wp2_with fail
   go_cut [] (fun wc=>E7 mb [.pointer none,.pointer none,bf c7,.pointer none,.pointer none,.pointer none,.pointer none,.map (some c4),.slice (some ⟨z,0,none⟩) n n,.int .i64 0,.int .i64 0,.int .i64 0,.int .u64 0,.slice none 0 0] [.slice (some ⟨iz,0,none⟩) ap hi,.int .i64 loop,.slice (some ⟨iF,0,none⟩) G hm] en o A p cW ad wc)
   case first=>
    have s8:=c0.out.pc (i:=3) rfl;have rD:w.heap.size+2<mb:=Nat.lt_of_lt_of_le T2.out.lt (Nat.le_trans c9.out.size he.out.1);have d1:mb≠w.heap.size+2:=(by omega);have d2:w.heap.size+2≠mb:=(by omega);have d3:mb≠w.heap.size+1+1:=(by omega);have d4:w.heap.size+1+1≠mb:=(by omega);have jv:=World.new_ne ad _ mN;have jw:=World.new_ne ad _ mP;have s9:=World.new_ne ad _ kX;have tL:=World.new_ne ad _ mQ;obtain⟨g2,hB,fn,fr,fz⟩:=info_parts sx;have k4:=Z hB;have qu:Hid (eE ad U p):=Z ((nx.out.ch E.out (fun h=>h)).ch eL.out (ii _ (by have:=qt.out;omega)));have r9:Hid ((b' p).length=cW*7):=Z (by rw[lU,ln.out];omega);go_region_held_law (fun w'=>w'.cell? ⟨w.heap.size+2,0,none⟩=some (.slice (some ⟨U,0,none⟩) cW pc)/\w'.cell? ⟨w.heap.size+2,1,none⟩=some (.int .i64 en)/\w'.cell? ⟨w.heap.size+2,2,none⟩=some (.int .i64 o)/\w'.cell? ⟨w.heap.size+2,3,none⟩=some (.int .i64 A)) (go_keep) ((refine step_append_grows (by rfl) _ _ 75 (by rfl) 184 g2 _ 7 56 underlying75 k4.out fn fr fz (by rfl) (by omega) _ 0 0 [] (by rfl) (fun h=>⟨rfl,rfl⟩) (by rfl) (fun _ _ _ _ h=>by cases h) ⟨U,0,none⟩ cW pc (b' p) (by rfl) r9.out (ud (fun j u eA=>(qu.out.ch (show Ch ag ad _ by repeat(first|exact Ch.refl _ _|with_reducible refine Ch.drew ?_|with_reducible refine Ch.alloc ?_ _)) (fun h=>h)).cell j u eA)) (mo p) (by have:=jI.out;omega) (by have:=jI.out;unfold maxLen;omega) (by have:=jI.out;omega) ?_;intro jy av et ci;have t:Hid (Ch ag ad av):=Z ((show Ch ag ad _ by repeat(first|exact Ch.refl _ _|with_reducible refine Ch.drew ?_|with_reducible refine Ch.alloc ?_ _)).trans ((Ch.bQ ci).mono (fun i H=>by cases H)));obtain⟨S,dr,jp,rfl,hA1,hA2,hA3,hA4,hA5⟩:=aS et (by have:=jI.out;omega);have ix:=Z hA4;have cL:=Z (And.intro hA1 hA2);have a0:=t.out.k mN;have a1:=t.out.k mP;have a2:=t.out.k kX;have a3:=t.out.k mQ;have s8:=(c0.out.ch t.out (fun h=>h)).pc (i:=3) rfl;have tF:=(c0.out.ch t.out (fun h=>h)).pc (i:=4) rfl;have tJ:=(c0.out.ch t.out (fun h=>h)).pc (i:=5) rfl;have tK:=(c0.out.ch t.out (fun h=>h)).pc (i:=6) rfl;have f3:=(c0.out.ch t.out (fun h=>h)).fz 3;have f4:=(c0.out.ch t.out (fun h=>h)).fz 4;have f5:=(c0.out.ch t.out (fun h=>h)).fz 5;have f6:=(c0.out.ch t.out (fun h=>h)).fz 6;clear et ci hA1 hA2 hA3 hA4 hA5))
    all_goals(go_wp2_with fail;go_meet)
    all_goals
     have eW:ad.heap.size<=S:=Nat.le_trans ((show Ch ag ad _ by repeat(first|exact Ch.refl _ _|with_reducible refine Ch.drew ?_|with_reducible refine Ch.alloc ?_ _))).size cL.out.1;have kp:mb<ad.heap.size:=c0.out.lt;have Y:Ch (aK mb) av ((((av.setCell ⟨mb,3,none⟩ (.slice (some ⟨S,0,none⟩) cW dr)).setCell ⟨mb,4,none⟩ (.int .i64 en)).setCell ⟨mb,5,none⟩ (.int .i64 o)).setCell ⟨mb,6,none⟩ (.int .i64 A)):=((((Ch.refl _ _).only _ _).only _ _).only _ _).only _ _;refine⟨S,dr,((((c0.out.ch t.out (fun h=>h)).tP (i:=3) (by omega) _).tP (i:=4) (by omega) _).tP (i:=5) (by omega) _).tP (i:=6) (by omega) _,⟨⟨jp,?_⟩,?_,eW⟩,t.out.af.trans Y⟩
     ·exact ix.out.ch Y (fun e=>by have:S=mb:=e;omega)
     ·have:=cL.out.2;omega
   case rest=>
    obtain⟨ko,iL,mg,jk,lM⟩:=hcut;obtain⟨i5,pm⟩:=nm wc;rw[pm]at mg jk lM⊢;have nw:=Z mg;have qJ:=Z jk;have ik:=Z lM;clear mg jk lM pm mN mP kX mQ;obtain⟨pre,mA⟩:=nm ([Value.slice (some ⟨iz,0,none⟩) ap hi,.int .i64 loop,.slice (some ⟨iF,0,none⟩) G hm,.slice (some ⟨ko,0,none⟩) cW iL,.int .i64 en,.int .i64 o,.int .i64 A]);have lo:=Z mA;have k':Hid (Ch (aK mb) a i5):=Z (eL.out.trans ik.out);have cC:=Z ii;have rd:=Z ((c6.out.ch E.out (fun h=>h)).ch k'.out (ii _ (by omega)));have kt:=nw.out;have kt:NM i5 mb pre (List.replicate 1000 0) [.pointer none,.pointer none,bf c7,.pointer none,.pointer none,.pointer none,.pointer none,.map (some c4),.slice (some ⟨z,0,none⟩) n n,.int .i64 0,.int .i64 0,.int .i64 0,.int .u64 0,.slice none 0 0]:=(by rw[<-mA];exact nw.out);obtain⟨post,ms⟩:=nm ([.pointer none,.pointer none,bf c7,.pointer none,.pointer none,.pointer none,.pointer none,.map (some c4),.slice (some ⟨z,0,none⟩) n n,.int .i64 0,.int .i64 0,.int .i64 0,.int .u64 0,.slice none 0 0]);rw[ms]at kt;have cd:=Z ms;have qm:=Z kt;have kX:=rd.out.k 2 rfl;have sZ:(G:Int)<=100000:=(by have:=mT.out;omega);clear kt mA ms ii;go_wp2_with fail
    go_loopg [99] (G+1) (fun lw i wr=>∃k:Nat,k<=G/\lw=G-k+1/\i=.int .i64 k/\Hid (NM wr mb pre (fC calls k) post)/\Hid (Ch (aK mb) i5 wr))
    case atStart=>exact⟨0,by omega,by omega,rfl,qm,Z (Ch.refl _ _)⟩
    case round=>
     obtain⟨k,rP,rfl,rfl,gt,jU⟩:=hrel;by_cases es:k<G
     ·obtain⟨gk,O,kN,ta,kO⟩:∃gk O,c1=some ⟨gk,0,none⟩/\gk<w.heap.size/\Row w1 gk 158 (calls.flatMap br.cells++O):=by
       rcases lc.out with⟨gk,O,f,_,V,c8⟩|⟨_,h,_⟩
       ·exact⟨gk,O,f,V,c8⟩
       ·rw[cb.out,h]at es;exact absurd es (Nat.not_lt_zero _)
      subst kN;have qh:Hid (Row i5 gk 158 (calls.flatMap br.cells++O)):=Z ((kO.ch E.out (fun h=>h)).ch k'.out (cC.out _ (by omega)));obtain⟨X,je⟩:∃X,calls[k]?=some X:=⟨_,List.getElem?_eq_getElem (by rw[<-cb.out];exact es)⟩;have sH:=Z je;have hF:Hid (Row wr gk 158 (calls.flatMap br.cells++O)):=Z (qh.out.ch jU.out (cC.out _ (by omega)));have fb:∀j v,j<6->X.cells[j]?=some v->wr.cell? ⟨gk,k*6+j,none⟩=some v:=fun j v hj s2=>hF.out.cell (by
       rw[List.getElem?_append_left (by
        rw[kR,<-cb.out];have:(k+1)*6<=G*6:=Nat.mul_le_mul_right _ es;omega)]
       exact(bP br.len je hj).trans s2)
      have mk:=qq.out X (List.mem_of_getElem? je);have ov:fC calls (k+1)=(fC calls k).set X.num.toNat ((k:Int)+1):=by
       rw[fC,List.getD_eq_getElem?_getD,je];rfl
      obtain⟨num,at_,k0,k1,k2,k3⟩:=X;obtain⟨m,rfl⟩:∃m:Nat,num=m:=⟨num.toNat,by have:=mk.1;dsimp only at this;omega⟩;have p4:m<1000:=(by have:=mk.2;dsimp only at this;omega);have td:(m:Int)<1000:=(by omega);have tc:(0:Int)<=m:=(by omega);have qb:=Z ov;have o8:=fb 0 _ (by omega) rfl;have rm:=fb 1 _ (by omega) rfl;have rn:=fb 2 _ (by omega) rfl;have ro:=fb 3 _ (by omega) rfl;have rp:=fb 4 _ (by omega) rfl;have rq:=fb 5 _ (by omega) rfl;rw[Nat.add_zero]at o8;obtain⟨mF,hold⟩:∃mF,(fC calls k)[m]?=some mF:=⟨_,List.getElem?_eq_getElem (by rw[gt.out.n2];exact p4)⟩;have ch:=gt.out.rc hold;have rz:=gt.out.fz (7+m);have tb:(k:Int)<G:=(by omega);have fd:=hF.out.lt;have ex:=gt.out.lt;clear fb je mk ov hold;go_wp2_with fail
      obtain⟨jA,i0⟩:=nm (wr.alloc (.cells #[.int .i64 m,.int .i64 at_,.int .i64 k0,.int .i64 k1,.int .i64 k2,.int .i64 k3] 158));obtain⟨su,mC⟩:=nm wr.heap.size;have qM:Hid (Row jA su 158 [.int .i64 m,.int .i64 at_,.int .i64 k0,.int .i64 k1,.int .i64 k2,.int .i64 k3]):=Z (by rw[<-i0,<-mC];exact Row.new _ _ _);have ny:Hid (NM jA mb pre (fC calls k) post):=Z (by rw[<-i0];exact gt.out.alloc _);have pW:Hid (Ch (aK mb) i5 jA):=Z (by rw[<-i0];exact jU.out.alloc _);have x0:=qM.out.c1;have sJ:jA.cell? ⟨mb,7+m,none⟩=some (.int .i64 mF):=(by rw[<-i0,World.cell?_alloc_past _ _ _ ex];exact ch);have sN:=ny.out.fz (7+m);rw[i0,mC];clear i0 mC fd ex o8 rm rn ro rp rq ch rz;refine wp_region_still_tail 8 (by kernel_rfl) (by kernel_rfl) ?_;simp only[List.take_succ_cons,List.take_zero,List.drop_succ_cons,List.drop_zero]
      repeat still_step
      try refine wpStill_nil ?_
      change wpList _ _ _ _ _ jA.drew;go_wp2_with fail
      go_roundg (G-k)
      case measure=>omega
      case rel=>exact⟨k+1,by omega,by omega,by go_num,Z (by rw[qb.out];exact ny.out.drew.au p4 _),Z (pW.out.drew.only _ _)⟩
     ·have rP:¬(k:Int)<G:=by omega
      have rR:k=G:=(by omega);subst rR;have s3:∃I,I=wr:=⟨_,rfl⟩;obtain⟨I,rfl⟩:=s3;have eC:Hid (Ch (aK mb) a I):=Z (k'.out.trans jU.out);have rc:=Z ((kg.out.ch E.out (fun h=>h)).ch eC.out (cC.out _ (by omega)));have iT:¬aK mb w.heap.size:=cC.out _ (by omega);have sL:mb≠w.heap.size:=(fun e=>iT e.symm);have sM:w.heap.size≠mb:=(fun e=>iT e);go_wp2_with (first
       |(go_at_call 63;refine(sg _).mono ?_;rintro e gc ⟨rfl,oE,kI⟩;have nA:=Z oE;have n2:=Z kI;have rH:=Z kI;have lk:=Z (gt.out.ch kI (fun h=>h));have sb:=lk.out.qc (j:=3) (by rw[<-cd.out];rfl);have so:=lk.out.fz 1010;clear oE kI)
       |(go_at_call 64;refine(oJ _).mono ?_;rintro e bv ⟨cl,i4,g4,rfl,oA,dC,dN,ec,kG⟩;have qv:=Z oA;have p':=Z (And.intro dC (And.intro dN ec));have sF:=Z kG;have jV:Hid (Ch (aK mb) gc bv):=Z ((((Ch.refl _ _).only _ _)).trans kG.af);have li:=Z ((lk.out.jZ 3 (bf (I.heap.size+1))).ch kG (fun h=>h));have sc:=li.out.qc (j:=4) (by rw[<-cd.out];rfl);have sd:=li.out.fz 1011;clear oA kG dC dN ec)
       |(go_at_call 65;refine(qx _).mono ?_;rintro e R ⟨rfl,oF,kK⟩;have qK:=Z oF;have sG:=Z kK;have ih:Hid (Ch (aK mb) bv R):=Z ((((Ch.refl _ _).only _ _)).trans kK.af);have ll:=Z ((li.out.jZ 4 (bf cl)).ch kK (fun h=>h));have se:=ll.out.qc (j:=5) (by rw[<-cd.out];rfl);have sj:=ll.out.fz 1012;clear oF kK)
       |(go_at_call 66;refine(nX _).mono ?_;rintro e jG ⟨rfl,oz,kA⟩;have qs:=Z oz;have sE:=Z kA;have gr:Hid (Ch (aK mb) R jG):=Z ((((Ch.refl _ _).only _ _)).trans kA.af);have le:=Z ((ll.out.jZ 5 (bf _)).ch kA (fun h=>h));have sk:=le.out.qc (j:=6) (by rw[<-cd.out];rfl);have sl:=le.out.fz 1013;have sa:=((((rc.out.ch rH.out (fun h=>h)).ch jV.out iT).ch ih.out iT).ch gr.out iT).cell (i:=1) rfl;clear oz kA)
       |fail)
      obtain⟨mR,kU⟩:=nm (jG.setCell ⟨mb,1013,none⟩ (.pointer (some ⟨R.heap.size+1,0,none⟩)));have ip:=le.out.jZ 6 (bf (R.heap.size+1));rw[show jG.setCell ⟨mb,1007+6,none⟩ (bf (R.heap.size+1))=mR from kU]at ip;have go:Hid (Ch (aK mb) jG mR):=Z (by rw[<-kU];exact(Ch.refl _ _).only _ _);obtain⟨pE,mq⟩:∃q,(((post.set 3 (bf (I.heap.size+1))).set 4 (bf cl)).set 5 (bf (bv.heap.size+1))).set 6 (bf (R.heap.size+1))=q:=⟨_,rfl⟩;rw[mq]at ip;have it:=Z mq;have ip:=Z ip;have nh:=zw mb pre (fC calls k) pE z n o A tt mR ip.out ⟨by rw[<-it.out,<-cd.out];rfl,by rw[<-lo.out];rfl,by rw[<-lo.out];rfl,eS.out.1,eS.out.2,by omega,kb.out.2.1,by omega,kb.out.2.2.2⟩ (by rw[<-it.out,<-cd.out];simp) lp.out.1 lp.out.2 (by have:=iv.out;omega);rw[kU];clear kU mq sb so sc sd se sj sk sl sa
      (with_reducible refine nh.mono ?_)
      clear nh;rintro e cm ⟨rfl,m,c,d,hf,ow,p5,oI,dC,dN,ec,iZ,oW⟩;have nq:=Z ow;have qn:=Z p5;have q5:=Z oI;have pZ:=Z (And.intro dC (And.intro dN (And.intro ec iZ)));have gf:=Z oW;clear ow p5 oI dC dN ec iZ oW;have jX:Hid (Ch (aK mb) I cm):=Z (((((n2.out.af.trans jV.out).trans ih.out).trans gr.out).trans go.out).trans gf.out);have o2:=Z (((c6.out.ch E.out (fun h=>h)).ch eC.out (cC.out _ (by omega))).ch jX.out (cC.out _ (by omega)));have x1:=o2.out.k 1 rfl;have tM:=nq.out.qc (j:=8) (v:=.slice (some ⟨z,0,none⟩) n n) (by rw[<-it.out,<-cd.out];rfl);have cA:Hid (Ch (aK mb) w4 a):=Z n1.out.af;have oc:z≠mb:=Row.ne ce.out c5.out.row (by decide);have qL:Hid (Row cm z 120 ((qH n loop 0).flatMap fun x=>x.cells (.slice none 0 0))):=Z (ce.out.ch ((cA.out.trans eC.out).trans jX.out) (fun e=>oc e));go_wp2_with fail
      go_loopg [150] (n+1) (fun lw i wr=>∃q:Nat,q<=n/\lw=n-q+1/\i=.int .i64 q/\Hid (Row wr z 120 ((qH n loop q).flatMap fun x=>x.cells (.slice none 0 0)))/\Hid (Ch (aK z) cm wr))
      case atStart=>exact⟨0,by omega,by omega,rfl,qL,Z (Ch.refl _ _)⟩
      case round=>
       obtain⟨q,th,rfl,rfl,kd,M⟩:=hrel;have tY:=(o2.out.ch M.out (fun e=>by have f:w.heap.size+1=z:=e;have V:=he.out.2.2.1;have c8:=Nat.lt_of_lt_of_le c6.out.lt c9.out.size;omega)).cell (i:=1) rfl;have ns:=Z (nq.out.ch M.out (fun e=>oc e.symm));have ub:=ns.out.qc (j:=8) (v:=.slice (some ⟨z,0,none⟩) n n) (by rw[<-it.out,<-cd.out];rfl);by_cases es:q<n
       ·have r':(q:Int)<n:=by omega
        have kP:=oi n loop q q es;rw[if_neg (by omega)]at kP;have sK:wr.cell? ⟨z,q*38+4,none⟩=some (.int .i64 0):=kd.out.at (fun x=>ak.len (x,_)) kP (by omega) rfl;have sO:=kd.out.free (q*38+4);have qw:=Z kP;clear kP;go_wp2_with fail
        refine wp_region_still_tail 10 (by kernel_rfl) (by kernel_rfl) ?_;simp only[List.take_succ_cons,List.take_zero,List.drop_succ_cons,List.drop_zero]
        repeat still_step
        try refine wpStill_nil ?_
        change wpList _ _ _ _ _ wr.drew;go_wp2_with fail
        go_roundg (n-q)
        case measure=>omega
        case rel=>
         exact⟨q+1,by omega,by omega,by go_num,Z (kd.out.drew.put (fun x=>ak.len (x,_)) qw.out (by omega) rfl),Z (M.out.drew.only _ _)⟩
       ·have r':¬(q:Int)<n:=by omega
        have s0:q=n:=(by omega);subst s0;have nk:Hid (mb<I.heap.size/\z<I.heap.size):=Z ⟨Nat.lt_of_lt_of_le c5.out.lt (Nat.le_trans cA.out.size eC.out.size),Nat.lt_of_lt_of_le ce.out.lt (Nat.le_trans cA.out.size eC.out.size)⟩;have n0:Hid (Ch (aK mb) w4 cm):=Z ((cA.out.trans eC.out).trans jX.out);have d1:c7≠mb:=Row.ne bw.out.head c5.out.row (by decide);have d2:hn≠mb:=Row.ne bw.out.heap.head c5.out.row (by decide);have d3:mb≠ch:=fU c5.out.row bw.out.heap.map;have d4:mb≠hu:=fU c5.out.row bw.out.ff;have d5:mb≠c4:=fU c5.out.row k9.out;have eW:c7≠z:=Row.ne bw.out.head ce.out (by decide);have iV:hn≠z:=Row.ne bw.out.heap.head ce.out (by decide);have iW:z≠ch:=fU ce.out bw.out.heap.map;have kp:z≠hu:=fU ce.out bw.out.ff;have rx:z≠c4:=fU ce.out k9.out;have qW:Hid (aX wr c7 hn ch hu (.slice none 0 0) aN.new):=Z ((bw.out.ch n0.out d1 d2 (fun e=>d3 e.symm) (fun e=>d4 e.symm) (fun g N=>by cases N)).ch M.out eW iV (fun e=>iW e.symm) (fun e=>kp e.symm) (fun g N=>by cases N));have r5:Hid (bH (α:=Nat) wr c4 .u64 bf []):=Z ((k9.out.ch n0.out (fun e=>d5 e.symm)).ch M.out (fun e=>rx e.symm));have J:∀x,I.heap.size<=x->¬aK mb x/\¬aK z x:=(fun x i3=>⟨fun e=>by have f:x=mb:=e;have:=nk.out.1;omega,fun e=>by have f:x=z:=e;have:=nk.out.2;omega⟩);have ug:=n2.out.size;have um:=jV.out.size;have uk:=ih.out.size;have un:=gr.out.size;have ui:=go.out.size;have uj:=gf.out.size;have pX:Hid (Ch (aK mb) gc cm):=Z ((((jV.out.trans ih.out).trans gr.out).trans go.out).trans gf.out);have pV:Hid (Ch (aK mb) bv cm):=Z (((ih.out.trans gr.out).trans go.out).trans gf.out);have pY:Hid (Ch (aK mb) R cm):=Z ((gr.out.trans go.out).trans gf.out);have pN:Hid (Ch (aK mb) jG cm):=Z (go.out.trans gf.out);have r2:Hid (eH wr (I.heap.size+1) I.heap.size []):=Z ((nA.out.ch pX.out (J _ (by omega)).1 (J _ (by omega)).1).ch M.out (J _ (by omega)).2 (J _ (by omega)).2);have rC:=p'.out;have pF:∀x,gc.heap.size<=x->¬aK mb x/\¬aK z x:=(fun x i3=>J x (by omega));have lv:gc.heap.size<=cl/\gc.heap.size<=i4/\gc.heap.size<=g4:=(by simpa using rC);have q':Hid (ig wr cl i4 g4 (List.replicate 8 [])):=Z (by
         have oM:∀i,QD cl i4 g4 (List.replicate 8 []) i->gc.heap.size<=i:=fun i H=>by
          rcases H with rfl|rfl|rfl|⟨s,s1,_⟩
          ·exact lv.1
          ·exact lv.2.1
          ·exact lv.2.2
          ·have:s∈(List.replicate 8 ([]:List Sl)).flatten:=s1
           simp at this
         exact(qv.out.ch pV.out (fun i H=>(pF i (oM i H)).1)).ch M.out (fun i H=>(pF i (oM i H)).2))
        have r4:=Z ((qK.out.ch pY.out (J _ (by simp;omega)).1 (J _ (by simp;omega)).1).ch M.out (J _ (by simp;omega)).2 (J _ (by simp;omega)).2);have qZ:=Z ((qs.out.ch pN.out (J _ (by simp;omega)).1 (J _ (by simp;omega)).1).ch M.out (J _ (by simp;omega)).2 (J _ (by simp;omega)).2);have sR:=pZ.out;have qX:=Z (qn.out.ch M.out (J _ (by omega)).2 (J _ (by omega)).2 (J _ (by omega)).2);have qN:=Z (q5.out.ch M.out (J _ (by omega)).2 (fun g N=>by cases N));have i9:Hid (Ch (aK mb) i5 cm):=Z (jU.out.trans jX.out);have uo:z<a.heap.size/\mb<a.heap.size:=⟨Nat.lt_of_lt_of_le ce.out.lt cA.out.size,Nat.lt_of_lt_of_le c5.out.lt cA.out.size⟩;have ua:=eL.out.size;have fd:=qD.out;have ex:=qF.out;have jk:=qJ.out;obtain⟨⟨tm,oY⟩,rJ,lE⟩:=fd;obtain⟨⟨tr,oZ⟩,rK,lI⟩:=ex;obtain⟨⟨tw,p0⟩,rO,s'⟩:=jk;have cS:∀x,a.heap.size<=x->¬aK mb x/\¬aK z x:=(fun x i3=>⟨fun e=>by have f:x=mb:=e;omega,fun e=>by have f:x=z:=e;omega⟩);have qP:=Z (((oY.ch ik.out (cS _ lE).1).ch i9.out (cS _ lE).1).ch M.out (cS _ lE).2);have qS:=Z (((oZ.ch ik.out (cS _ lI).1).ch i9.out (cS _ lI).1).ch M.out (cS _ lI).2);have qT:=Z ((p0.ch i9.out (cS _ (by omega)).1).ch M.out (cS _ (by omega)).2);obtain⟨C0,W⟩:=nm (ue l loop calls p en o A);have r6:Hid (Row wr z 120 ((List.replicate q (ak.new C0.loop)).flatMap fun x=>x.cells (.slice none 0 0))):=Z (by
         have:=kd.out;rw[zQ]at this;rw[<-W];exact this)
        have od:pre=ku C0 (lH mb m c d hf c7 hn ch hu (I.heap.size+1) I.heap.size cl i4 g4 (bv.heap.size+1) bv.heap.size (R.heap.size+1) R.heap.size c4 z iz hi iF hm ko iL):=(by rw[<-lo.out,<-W,lm.out,cb.out,ln.out];rfl);have og:(pE.set 0 (bf m)).set 1 (bf hf)=g0 (lH mb m c d hf c7 hn ch hu (I.heap.size+1) I.heap.size cl i4 g4 (bv.heap.size+1) bv.heap.size (R.heap.size+1) R.heap.size c4 z iz hi iF hm ko iL) (.slice none 0 0) q 0 0 0 0:=(by rw[<-it.out,<-cd.out];rfl);have ok:fC calls k=C0.rows:=(by rw[<-W,cb.out];rfl);have lq:=ns.out;rw[od,og,ok]at lq;have lu:C0.wide.toNat=o:=(by rw[<-W];exact Int.toNat_natCast o);have lt:C0.narrow.toNat=A:=(by rw[<-W];exact Int.toNat_natCast A);have nS:aO wr m c d (j2 C0 q tt).mem:=(by show aO wr m c d (fQ tt q C0.wide.toNat C0.narrow.toNat);rw[lu,lt];exact qX.out);have nR:aR wr hf m (.slice none 0 0) (j2 C0 q tt).blocks:=(by show aR wr hf m (.slice none 0 0) ⟨17+8*q+C0.wide.toNat+C0.narrow.toNat,tt,[]⟩;rw[lu,lt];exact qN.out);have uh:w.heap.size<=ab.heap.size:=Nat.le_trans ct.out.size c9.out.size;have tZ:ab.heap.size<=a.heap.size:=Nat.le_trans q7.out.size cA.out.size;have z59:=eC.out.size;have sX:=he.out;have tx:=bw.out.heap.map.lt;have ty:=bw.out.ff.lt;have tA:=k9.out.lt;have t':=cA.out.size;have tz:=nA.out.A0;have nU:aU wr (bv.heap.size+1) bv.heap.size (List.replicate 64 aD.zero):=(by have h:=r4.out;rw[World.size_setCell]at h;exact h);have nT:bL wr (R.heap.size+1) R.heap.size (List.replicate 64 bC.zero):=(by have h:=qZ.out;rw[World.size_setCell]at h;exact h);have o0:=tT (B:=w.heap.size) (C:=C0) (n:=q) (tt:=tt) eS.out.2 lq nS nR qW.out r2.out q'.out nU nT r5.out r6.out (by rw[<-W];exact qP.out) (by rw[<-W];exact qS.out) (by rw[<-W];exact qT.out)
         (by rw[<-W];show l.length<=hi;rw[<-lm.out];exact rJ) (by rw[<-W];show calls.length<=hm;rw[<-cb.out];exact rK) (by rw[<-W];show p.length<=iL;rw[<-ln.out];exact rO)
         (by omega) (fun e=>nv.out.1 e.symm) (fun e=>nv.out.2 e.symm) (by omega) (by omega) (by omega) (by omega) (by omega) (by omega) (by omega) (by omega) (by omega)
        have k5:=Z o0;have l7:=Z W;have i':=vp C0 q tt eS.out.1 eS.out.2 lp.out.2 (by rw[lu,lt];have:=iv.out;omega);obtain⟨pL,kW⟩:∃χ,hD wr w.heap.size I.heap.size c4 g4=χ:=⟨_,rfl⟩;rw[kW]at k5;have nC:Hid (∀i,pL i≠ .no->w.heap.size<=i):=Z (fun i H=>by rw[<-kW]at H;exact(pn H).1);have qr:Hid (g5 pL):=Z (fun i=>by rw[<-kW];exact tR i);obtain⟨nV,lC⟩:∃L,(lH mb m c d hf c7 hn ch hu (I.heap.size+1) I.heap.size cl i4 g4 (bv.heap.size+1) bv.heap.size (R.heap.size+1) R.heap.size c4 z iz hi iF hm ko iL)=L:=⟨_,rfl⟩;rw[lC]at k5;have m9:nV.mb=mb:=(by rw[<-lC];rfl);obtain⟨kf,lB⟩:∃K,j2 C0 q tt=K:=⟨_,rfl⟩;rw[lB]at k5 i';have qg:=Z lB;have oN:=i'.bB.ok (by omega);have oO:=(mJ i'.bB i'.mem 1).1.ok (by omega);have lO:=i'.fresh (by omega);have nd:=Z (uc en 0 oN oO lO k5.out);have qf:=Z (kC (K:=kf) en 0 lO);rw[m9]at nd;have no:=Z m9;have n6:Hid (Ch ag w wr):=Z (((ct.out.trans E.out).fresh ((eL.out.trans ik.out).trans i9.out) (fun x i3 e=>(cC.out x (by omega)) e)).fresh M.out (fun x i3 e=>by have f:x=z:=e;omega));have tX:=(((T2.out.ch E.out (fun h=>h)).ch ((eL.out.trans ik.out).trans i9.out) (cC.out _ (by omega))).ch M.out (fun e=>by have f:w.heap.size+2=z:=e;have c8:=Nat.lt_of_lt_of_le T2.out.lt c9.out.size;omega)).cell (i:=1) rfl;clear od og ok lq nS nR nU nT o0 kW lC lB oN oO lO m9 W oY oZ p0;go_wp2_with fail
        (with_reducible refine nd.out.mono ?_)
        rintro e bi ⟨rfl,up,sI,f,pB⟩;have ra:=Z (pB qr.out);clear pB;have n9:=Z f;have ob:=f.at_.nr;rw[no.out]at ob;clear f;go_wp2_with fail
        (with_reducible refine(xp _ n9.out.at_).mono ?_)
        rintro e tV ⟨⟨v,rfl,_⟩,sC,rg,V,pD⟩;have rb:=Z (pD ra.out);clear pD;have nc:=Z (n9.out.trans qf.out V);clear V ob;go_wp2_with fail
        go_ret2;have pv:=nc.out.nx;refine Or.inl ⟨iv.out,sC,nV,rg,by rw[no.out];rfl,?_,?_,rb.out,?_⟩
        ·have rt:hC (ue l loop calls p en o A) q tt={(bF kf en 0).2 with ring:=(g6 (bF kf en 0).2.ring (bF kf en 0).1).2}:=by rw[l7.out,<-qg.out];unfold hC;rw[show C0.entry=en by rw[<-l7.out];rfl]
         rw[rt,l7.out];exact nc.out.at_
        ·intro i H
         rcases Nat.lt_or_ge i wr.heap.size with h|h
         ·exact nC.out i (by rw[<-pv.same i h];exact H)
         ·exact Nat.le_trans n6.out.size h
        ·exact n6.out.fresh pv.ch (fun x i3 ma=>by have:=nC.out x ma;omega)
theorem Inv.BF{N M:Nat}{K:KS}(h:Inv N M K)(id:Int)(b:id≠0->(aw K.ai id).isSome=true/\ea K.wk K.ring id=0/\st K.table id≠3):Inv N M {K with ring:=(g6 K.ring id).2}:=by
 refine⟨?_,h.nd,h.q,h.bW,h.bB,h.mem,h.obj,h.draw,h.w0,h.w1,h.out⟩;have c:=h.core;refine c.fO id c.tab (fun _ _=>rfl) (fun _ _=>rfl) (fun j hj _=>⟨Nat.le_refl _,?_⟩) c.wk (fun r i f=>c.al id r i f) (fun t k=>c.ai id t k) (fun a=> ?_) (fun a _=>⟨(b a).1,(b a).2.2⟩) (fun a g=> ?_)
 ·show ea K.wk (g6 K.ring id).2 j<=ea K.wk K.ring j
  unfold ea;rw[(gh K.ring id j).2 hj];exact Nat.le_refl _
 ·show ea K.wk (g6 K.ring id).2 id<=1
  have d:=(b a).2.1;have e:=(gh K.ring id id).1;rw[if_pos rfl]at e;unfold ea at d⊢;omega
 ·have d:=(b a).2.1
  have e:0<hz K.wk id:=g;unfold ea at d;omega
theorem xq(home:Int):db (List.replicate 64 aD.zero) home=(some 64,(List.replicate 64 aD.zero).set 0 ⟨1,true,aD.zero.bE,⟨64,1,home,0,0,false,false⟩⟩):=by rfl
theorem Dm(home:Int):st ((List.replicate 64 aD.zero).set 0 ⟨1,true,aD.zero.bE,⟨64,1,home,0,0,false,false⟩⟩) 64=1:=by rfl
theorem sy(C:KC)(n tt:Nat)(g:1<=n)(h:n<=64)(j:tt<=65536)(i:17+8*n+C.wide.toNat+C.narrow.toNat<=tt):Inv 1 0 (hC C n tt):=by
 have f:=vp C n tt g h j i;obtain⟨d,_,e⟩:=f.born (by omega) C.entry 0 bx;unfold hC;dsimp only;refine d.BF _ (fun c=> ?_);obtain⟨t,l,o⟩:=e c;refine⟨by rw[l];rfl,o,?_⟩;generalize a:bF (j2 C n tt) C.entry 0=x at c⊢;unfold bF at a
 revert a
 cases c' (j2 C n tt).blocks (j2 C n tt).mem 1 with
 |mk k p=>
  obtain⟨b,m⟩:=p;cases k with
  |none=>intro a;subst a;exact absurd rfl c
  |some q=>
   dsimp only;rw[show(j2 C n tt).table=List.replicate 64 aD.zero from rfl,xq];intro a;subst a;dsimp only;rw[Dm];decide
theorem pA(l:List br):∀k,∀r∈fC l k,0<=r/\r<=k
 |0,r,a=>by
  rw[(List.mem_replicate.1 a).2];exact⟨Int.le_refl _,Int.le_refl _⟩
 |k+1,r,a=>by
  rw[fC]at a;rcases List.mem_or_eq_of_mem_set a with h|h
  ·have:=pA l k r h;omega
  ·rw[h];omega
theorem oj(l:List br):∀k,(fC l k).length=1000
 |0=>List.length_replicate
 |k+1=>by rw[fC,List.length_set];exact oj l k
theorem om{n:Int}{b:Bool}:∀{l:List aV} {i:Nat},gE n b l i=none->∀x∈l,ep x n b=true
 |[],_,_=>fun x a=>by cases a
 |y::l,i,h=>fun x a=>by
  unfold gE at h;split at h
  ·rename_i d
   rcases List.mem_cons.1 a with rfl|c
   ·exact d
   ·exact om h x c
  ·cases h
theorem xr{l:List aV}{a:Bool}(h:ja l a=true):∀x∈l,ep x l.length a=true:=by
 unfold ja at h;rw[Bool.and_eq_true]at h;exact om (Option.isNone_iff_eq_none.1 h.2)
theorem vq{l:List aV}{loop:Int}{calls:List br}{p:List aV}{en c b:Int}(d:e2 l loop calls=true)(a:ei p en c b=true)(f:calls.length<=2048)
 (u1:∀x∈l,aH x.v) (u2:∀x∈p,aH x.v):oC (ue l loop calls p en c b) where
 ll:=(hU d).2
 pl:=(jB a).2
 cl:=f
 lv:=u1
 pv:=u2
 D4:=by
  have e:ja p false=true:=by
   unfold ei at a;simp only[Bool.and_eq_true]at a;exact a.1.2
  exact xr e
 bw:=by have:=qI a;exact this
 CT:=oj calls _
 rows:=pA calls _
theorem ae.zS{w w':World}{χ:Nat->a4}{L:cw}{Y:Var}{C:KC}{K:KS}{D:Nat->Prop}(h:ae w χ L Y C K)(c:Ch D w w')(e:∀i,i<w.heap.size->D i->χ i=.no):ae w' χ L Y C K:=by
 have s:eI [.no] χ χ D w w':=⟨c,fun i a f=>by rw[e i a f];simp,fun _ _=>rfl,fun i a=>Nat.lt_of_lt_of_le (h.small i a) c.size⟩;have b:=h.step s (by simp);exact {
  head:=fun _=>b.head (by simp)
  mem:=fun _=>b.mem (by simp)
  al:=fun _=>b.al (by simp)
  bW:=fun _=>b.bW (by simp)
  ring:=fun _=>b.ring (by simp)
  q:=fun _=>b.q (by simp)
  tab:=fun _=>b.tab (by simp)
  obj:=fun _=>b.obj (by simp)
  tm:=fun _=>b.tm (by simp)
  th:=fun j u hj _=>b.th j u hj (by simp)
  tl:=fun j u hj _=>b.tl j u hj (by simp)
  fr:=fun j u k d hj g _=>b.fr j u k d hj g (by simp)
  wk:=fun _=>b.wk (by simp)
  out:=fun _=>b.out (by simp)
  code:=fun _=>b.code (by simp)
  small:=b.small}
def MS(w:World)(χ:Nat->a4)(mb:Nat)(C:KC)(K:KS):Prop:=∃L Y,L.mb=mb/\ae w χ L Y C K/\∀i,χ i≠ .out
theorem MS.zS{w w':World}{χ:Nat->a4}{mb:Nat}{C:KC}{K:KS}{D:Nat->Prop}(h:MS w χ mb C K)(c:Ch D w w')(e:∀i,i<w.heap.size->D i->χ i=.no):MS w' χ mb C K:=by
 obtain⟨L,Y,a,b,d⟩:=h;exact⟨L,Y,a,b.zS c e,d⟩
theorem MS.af{w w':World}{χ:Nat->a4}{mb:Nat}{C:KC}{K:KS}(h:MS w χ mb C K)(c:Ch ag w w'):MS w' χ mb C K:=h.zS c (fun _ _ e=>False.elim e)
theorem MS.small{w:World}{χ:Nat->a4}{mb:Nat}{C:KC}{K:KS}(h:MS w χ mb C K):∀i,χ i≠ .no->i<w.heap.size:=by
 obtain⟨L,Y,b,a,c⟩:=h;exact a.small
def Fo(x:List Ev×KS)(χ:Nat->a4)(mb:Nat)(C:KC)(w:World)(e:Ending)(w':World):Prop:=
 ∃v aW,e=.returned v/\w'.ownsRow w.heap.size 82 11 v x.1.length (x.1.flatMap Ev.cells)/\(∀g,v.ownBlock=some g->aW g=.no)/\MS w' aW mb C x.2/\Nx χ aW w w'
theorem mO{B:Nat}{χ aW:Nat->a4}{w w':World}(c:∀i,χ i≠ .no->B<=i)(h:Nx χ aW w w')(d:B<=w.heap.size):∀i,aW i≠ .no->B<=i:=fun i b=>by
 rcases Nat.lt_or_ge i w.heap.size with a|a
 ·rw[h.same i a]at b;exact c i b
 ·omega
theorem jl{χ aW:Nat->a4}{a w w':World}(d:∀i,χ i≠ .no->a.heap.size<=i)(h:Nx χ aW w w')(c:Ch ag a w):Ch ag a w':=c.fresh h.ch (fun i e b=>by have:=d i b;omega)
def Dn(C:KC)(n tt:Nat)(w:World)(e:Ending)(w':World):Prop:=
 ∃mb χ,e=.returned (.tuple #[.pointer (some ⟨mb,0,none⟩),.nilIface])/\MS w' χ mb C (hC C n tt)/\(∀i,χ i≠ .no->w.heap.size<=i)/\Ch ag w w'
theorem hV{w:World}{g:Nat}{l:List aV}{b:List Value}(h:Row w g 184 (l.flatMap dg++b)):eE w g l:=
 ⟨h.lt,fun j u hj=>h.cell (by
  have a:j<(l.flatMap dg).length:=(List.getElem?_eq_some_iff.1 hj).1;rw[List.getElem?_append_left a];exact hj)⟩
theorem Ng(n tt:Nat)(z:1<=n/\n<=64)(A:1<=tt/\tt<=65536)(l:List aV)(loop:Int)(p:List aV)(en:Int)(b a:Nat)
 (c:e2 l loop []=true) (d:ei p en b a=true) (F:17+8*n+b+a+1<=tt) (f g:Value) {i j:Nat} (w:World)
 (r:w.ownsRow i 184 7 f l.length (l.flatMap dg)) (s:w.ownsRow j 184 7 g p.length (p.flatMap dg))
 (y:w.cell? ⟨0,0,none⟩=some (.iface 390 (.agg #[.pointer (some ⟨4,85,none⟩)]))):
 Calls prog 34 #[.agg #[.int .i64 n,.int .i64 tt],.agg #[f,.int .i64 loop,.slice none 0 0],.agg #[g,.int .i64 en,.int .i64 b,.int .i64 a]] w (Dn (ue l loop [] p en b a) n tt w):=by
 obtain⟨o,k,G,rfl,_,B,_,D,_⟩:=aS r (hU c).1;obtain⟨q,m,H,rfl,_,C,_,E,_⟩:=aS s (jB d).1;refine(zR n tt z A l o k loop [] none 0 p q m en b a B (Nat.le_refl _) C (Nat.zero_le _) w (hV D) (hV E) (Or.inr ⟨rfl,rfl,rfl⟩) c d y).mono ?_;rintro e w' (⟨_,χ,L,Y,rfl,t,u,v,x⟩|⟨h,_⟩)
 rotate_left
 ·omega
 exact⟨L.mb,χ,rfl,⟨L,Y,rfl,t,v⟩,u,x⟩
def uf(l:List aV):Bool:=l.all fun x=>decide (0<=x.v)&&decide (x.v<18446744073709551616)
structure oo where
 num:Int
 name:ByteArray
 zW:ByteArray
 oq:Int
 k0:Int
 k1:Int
 k2:Int
 k3:Int
def pC(r:oo):List Value:=[.int .i64 r.num,.string r.name,.string r.zW,.int .i64 r.oq,.int .i64 r.k0,.int .i64 r.k1,.int .i64 r.k2,.int .i64 r.k3]
theorem xv(r:oo):(pC r).length=8:=rfl
def dA:List oo:=[⟨1,⟨#[99,114,101,97,116,101]⟩,⟨#[99,98,111,114,110]⟩,17,0,0,0,0⟩,
 ⟨2,⟨#[101,120,105,116]⟩,⟨#[99,101,120,105,116]⟩,17,0,0,0,0⟩,
 ⟨3,⟨#[106,111,105,110]⟩,⟨#[99,106,111,105,110]⟩,17,0,0,0,0⟩,
 ⟨4,⟨#[100,101,116,97,99,104]⟩,⟨#[99,108,111,111,115,101]⟩,17,0,0,0,0⟩,
 ⟨5,⟨#[115,101,108,102]⟩,⟨#[99,115,101,108,102]⟩,17,0,0,0,0⟩,
 ⟨6,⟨#[121,105,101,108,100]⟩,⟨#[99,121,105,101,108,100]⟩,17,0,0,0,0⟩,
 ⟨7,⟨#[115,108,101,101,112]⟩,⟨#[99,115,108,101,101,112]⟩,17,0,0,0,0⟩,
 ⟨8,⟨#[110,111,119]⟩,⟨#[99,110,111,119]⟩,17,0,0,0,0⟩,
 ⟨10,⟨#[109,117,116,101,120,32,105,110,105,116]⟩,⟨#[99,109,105,110,105,116]⟩,18,0,0,0,0⟩,
 ⟨11,⟨#[109,117,116,101,120,32,100,101,115,116,114,111,121]⟩,⟨#[99,109,103,111,110,101]⟩,18,1,0,0,0⟩,
 ⟨12,⟨#[109,117,116,101,120,32,108,111,99,107]⟩,⟨#[99,109,108,111,99,107]⟩,18,1,0,0,0⟩,
 ⟨13,⟨#[109,117,116,101,120,32,116,114,121,108,111,99,107]⟩,⟨#[99,109,116,114,121]⟩,18,1,0,0,0⟩,
 ⟨14,⟨#[109,117,116,101,120,32,116,105,109,101,100,108,111,99,107]⟩,⟨#[99,109,116,105,109,101,100]⟩,18,1,0,0,0⟩,
 ⟨15,⟨#[109,117,116,101,120,32,117,110,108,111,99,107]⟩,⟨#[99,109,102,114,101,101]⟩,18,1,0,0,0⟩,
 ⟨20,⟨#[115,101,109,32,105,110,105,116]⟩,⟨#[99,115,105,110,105,116]⟩,19,0,0,0,0⟩,
 ⟨21,⟨#[115,101,109,32,100,101,115,116,114,111,121]⟩,⟨#[99,115,103,111,110,101]⟩,19,2,0,0,0⟩,
 ⟨22,⟨#[115,101,109,32,119,97,105,116]⟩,⟨#[99,115,119,97,105,116]⟩,19,2,0,0,0⟩,
 ⟨23,⟨#[115,101,109,32,116,114,121,119,97,105,116]⟩,⟨#[99,115,116,114,121]⟩,19,2,0,0,0⟩,
 ⟨24,⟨#[115,101,109,32,116,105,109,101,100,119,97,105,116]⟩,⟨#[99,115,116,105,109,101,100]⟩,19,2,0,0,0⟩,
 ⟨25,⟨#[115,101,109,32,112,111,115,116]⟩,⟨#[99,115,112,111,115,116]⟩,19,2,0,0,0⟩,
 ⟨26,⟨#[115,101,109,32,103,101,116]⟩,⟨#[99,115,103,101,116]⟩,19,2,0,0,0⟩,
 ⟨30,⟨#[111,110,99,101,32,105,110,105,116]⟩,⟨#[99,111,105,110,105,116]⟩,20,0,0,0,0⟩,
 ⟨31,⟨#[111,110,99,101]⟩,⟨#[99,111,110,99,101]⟩,20,3,0,0,0⟩,
 ⟨40,⟨#[98,97,114,114,105,101,114,32,105,110,105,116]⟩,⟨#[99,98,105,110,105,116]⟩,21,0,0,0,0⟩,
 ⟨41,⟨#[98,97,114,114,105,101,114,32,100,101,115,116,114,111,121]⟩,⟨#[99,98,103,111,110,101]⟩,21,4,0,0,0⟩,
 ⟨42,⟨#[98,97,114,114,105,101,114,32,119,97,105,116]⟩,⟨#[99,98,119,97,105,116]⟩,21,4,0,0,0⟩,
 ⟨50,⟨#[114,119,108,111,99,107,32,105,110,105,116]⟩,⟨#[99,114,105,110,105,116]⟩,22,0,0,0,0⟩,
 ⟨51,⟨#[114,119,108,111,99,107,32,100,101,115,116,114,111,121]⟩,⟨#[99,114,103,111,110,101]⟩,22,5,0,0,0⟩,
 ⟨52,⟨#[114,119,108,111,99,107,32,114,101,97,100]⟩,⟨#[99,114,114,101,97,100]⟩,22,5,0,0,0⟩,
 ⟨53,⟨#[114,119,108,111,99,107,32,116,114,121,114,101,97,100]⟩,⟨#[99,114,116,114,121,114]⟩,22,5,0,0,0⟩,
 ⟨54,⟨#[114,119,108,111,99,107,32,116,105,109,101,100,114,101,97,100]⟩,⟨#[99,114,116,114,101,97,100]⟩,22,5,0,0,0⟩,
 ⟨55,⟨#[114,119,108,111,99,107,32,119,114,105,116,101]⟩,⟨#[99,114,119,114,105,116,101]⟩,22,5,0,0,0⟩,
 ⟨56,⟨#[114,119,108,111,99,107,32,116,114,121,119,114,105,116,101]⟩,⟨#[99,114,116,114,121,119]⟩,22,5,0,0,0⟩,
 ⟨57,⟨#[114,119,108,111,99,107,32,116,105,109,101,100,119,114,105,116,101]⟩,⟨#[99,114,116,119,114,105,116]⟩,22,5,0,0,0⟩,
 ⟨58,⟨#[114,119,108,111,99,107,32,117,110,108,111,99,107]⟩,⟨#[99,114,102,114,101,101]⟩,22,5,0,0,0⟩,
 ⟨60,⟨#[99,111,110,100,32,105,110,105,116]⟩,⟨#[99,99,105,110,105,116]⟩,23,0,0,0,0⟩,
 ⟨61,⟨#[99,111,110,100,32,100,101,115,116,114,111,121]⟩,⟨#[99,99,103,111,110,101]⟩,23,6,0,0,0⟩,
 ⟨62,⟨#[99,111,110,100,32,119,97,105,116]⟩,⟨#[99,99,119,97,105,116]⟩,23,6,1,0,0⟩,
 ⟨63,⟨#[99,111,110,100,32,116,105,109,101,100,119,97,105,116]⟩,⟨#[99,99,116,105,109,101,100]⟩,23,6,1,0,0⟩,
 ⟨64,⟨#[99,111,110,100,32,115,105,103,110,97,108]⟩,⟨#[99,99,115,105,103,110]⟩,23,6,0,0,0⟩,
 ⟨65,⟨#[99,111,110,100,32,98,114,111,97,100,99,97,115,116]⟩,⟨#[99,99,98,114,111,97,100]⟩,23,6,0,0,0⟩,
 ⟨70,⟨#[102,117,116,101,120,32,119,97,105,116]⟩,⟨#[99,102,119,97,105,116]⟩,16,7,0,0,0⟩,
 ⟨71,⟨#[102,117,116,101,120,32,119,97,107,101]⟩,⟨#[99,102,119,97,107,101]⟩,16,7,0,0,0⟩,
 ⟨72,⟨#[102,117,116,101,120,32,114,101,113,117,101,117,101]⟩,⟨#[99,102,114,101,113]⟩,16,7,0,7,0⟩,
 ⟨73,⟨#[102,117,116,101,120,32,99,109,112,114,101,113,117,101,117,101]⟩,⟨#[99,102,99,109,112]⟩,16,7,0,7,0⟩]
theorem xw{P:Program}{b:Oper}{a:Act}{w w':World}{next:Act->World->Prop}{Q:Exit->Act->World->Prop}{v:Value}(h:(execOp a.eval b).run P w=.ok (.value v) w')(k:next (a.put b.dst v) w'):b.wp P a w next Q:=by
 unfold Oper.wp;rw[h];exact k
set_option maxRecDepth 1000000 in
theorem xx(w:World):Calls prog 98 #[] w (fun e w'=>e=.returned (.slice (some ⟨w.heap.size,0,none⟩) 45 45)/\Row w' w.heap.size 245 (dA.flatMap pC)/\Ch ag w w'):=by
 go_enter func98,ntmps98
 go_wp2
 refine xw (v:=.slice (some ⟨w.heap.size,0,none⟩) 45 45) (w':=w.alloc (.cells (dA.flatMap pC).toArray 245)) (by kernel_rfl) ?_;go_wp2
 go_ret;refine⟨rfl,?_,(Ch.refl _ _).alloc _⟩;have h:=Row.new w (dA.flatMap pC).toArray 245;exact h
end Go.Proofs.YtlihkblppjgebaaGreatDoor
