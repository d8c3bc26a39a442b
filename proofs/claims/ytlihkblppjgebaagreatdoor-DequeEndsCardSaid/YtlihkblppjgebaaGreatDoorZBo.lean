import Derived.Deep.RegionWith
import Derived.Deep.RegionHeldLaw
import Derived.Deep.RegionLawGrows
import Derived.Test.YtlihkblppjgebaaGreatDoorZBc
import Derived.Test.YtlihkblppjgebaaGreatDoorZBm
set_option linter.all false
set_option maxRecDepth 100000
set_option maxHeartbeats 8000000
namespace Go.Proofs.YtlihkblppjgebaaGreatDoor
open Go.RowKit Go.Proofs.Tryz
theorem zK:(prog.info? 120).map (fun i=>(i.zero,i.size,i.bytes))=some (some (.agg (#[.int .u64 0,.int .u64 0,.bool false,.int .i64 0,.int .i64 0]++Array.replicate 32 (.int .u64 0)++#[.slice none 0 0])),38,320):=by kernel_rfl
theorem hU{l:List aV}{loop:Int}{calls:List br}(h:e2 l loop calls=true):0<l.length/\l.length<=2048:=by
 unfold e2 ja at h;simp only[Bool.and_eq_true,decide_eq_true_eq]at h;have a:=h.1.1.1;have b:=h.1.1.2.1;omega
def ak.zero:ak:=⟨0,0,false,0,⟨0,B4,[]⟩⟩
theorem sx:(prog.info? 184).map (fun i=>(i.zero,i.size,i.bytes))=some (some (.agg #[.int .i64 0,.int .i64 0,.int .i64 0,.int .i64 0,.int .u64 0,.int .i64 0,.int .i64 0]),7,56):=by kernel_rfl
theorem zL:(prog.info? 158).map (fun i=>(i.zero,i.size,i.bytes))=some (some (.agg #[.int .i64 0,.int .i64 0,.int .i64 0,.int .i64 0,.int .i64 0,.int .i64 0]),6,48):=by kernel_rfl
theorem ud{W:World}{g:Nat}{L:List Value}(h:∀(j:Nat) (u:Value),L[j]?=some u->W.cell? ⟨g,j,none⟩=some u):∀(j:Nat) (u:Value),L[j]?=some u->W.cell? ((⟨g,0,none⟩:Addr).add j)=some u:=fun j u b=>by
 have a:(⟨g,0,none⟩:Addr).add j=⟨g,j,none⟩:=by unfold Addr.add;split<;>simp_all
 rw[a];exact h j u b
theorem mo(l:List aV):∀u∈b' l,u.oneCell'=true:=fun u b=>by
 obtain⟨X,_,a⟩:=List.mem_flatMap.1 b;have:u∈[Value.int .i64 X.op,.int .i64 X.a,.int .i64 X.b,.int .i64 X.c,.int .u64 X.v,.int .i64 X.m,.int .i64 X.wh]:=a;simp only[List.mem_cons,List.not_mem_nil,or_false]at this;rcases this with rfl|rfl|rfl|rfl|rfl|rfl|rfl<;>rfl
theorem zM(l:List br):∀u∈l.flatMap br.cells,u.oneCell'=true:=fun u b=>by
 obtain⟨X,_,a⟩:=List.mem_flatMap.1 b;simp only[br.cells,List.mem_cons,List.not_mem_nil,or_false]at a;rcases a with rfl|rfl|rfl|rfl|rfl|rfl<;>rfl
theorem kR(l:List br):(l.flatMap br.cells).length=l.length*6:=by
 rw[List.length_flatMap];simp only[br.len];rw[List.map_const',List.sum_replicate_nat]
theorem Iq{P:Program}{ops:Array Oper}{b:Oper}{a:Act}{w:World}{K:Act->World->Prop}{Q:Exit->Act->World->Prop}{E:Prop}
 (j:b.guard=none) (s x:Operand) (t:TypeId) (Gf:b.op=Op.call {callee:=Callee.builtin Builtin.append,args:=#[s,x],argTypes:=#[t,t]})
 (e:TypeId) (i:TypeInfo) (f:P.underlying t=some (.slice e)) (g:P.info? e=some i) (c:Option Addr) (n cap:Nat) (m:a.eval s=.slice c n cap) (k:n<=cap) (o:a.eval x=.slice none 0 0)
 (h:∀d w',d=.slice c n cap->w'=w->K (a.put b.dst d) w'):
 if Region.wanted b (yielded ops a.tmps)=true then Oper.wp P b a w K Q else E:=by
 have hw:Region.wanted b (yielded ops a.tmps)=true:=by simp[Region.wanted,j]
 rw[if_pos hw];have l:(Builtin.append_ #[t,t] b.type #[.slice c n cap,.slice none 0 0]).run P w=.ok (.slice c n cap) w:=by
  simp[Builtin.append_,run_underlying f,sizeOf,typeInfo,g,Builtin.lenOf,Builtin.firstCells,k,storeCells];cases c<;>rfl
 unfold Oper.wp;simp[execOp,Gf,resolve,invoke,builtin,m,o,l,Result.andThen];exact h _ _ rfl rfl
def zN(w:World)(t:TypeId)(n:Nat)(b:List Value)(B c cap:Nat)(wc:World):Prop:=(∃a,Row wc c t (b++a))/\n<=cap/\B<=c
def E6(mb:Nat)(post:List Value)(rest:List Value)(loop:Int)(l:List aV)(calls:List br)(b a:Nat)(w wc:World):Prop:=
 ∃c e d f,NM wc mb ([.slice (some ⟨c,0,none⟩) b e,.int .i64 loop,.slice (some ⟨d,0,none⟩) a f]++rest) (List.replicate 1000 0) post/\zN w 184 b (b' l) w.heap.size c e wc/\zN w 158 a (calls.flatMap br.cells) w.heap.size d f wc/\Ch (aK mb) w wc
def jC(n:Nat)(w:World)(p:Value)(wc:World):Prop:=
 ∃mb a e b f c d,p=.pointer (some ⟨mb,0,none⟩)/\NM wc mb [.slice none 0 0,.int .i64 0,.slice none 0 0,.slice none 0 0,.int .i64 0,.int .i64 0,.int .i64 0] (List.replicate 1000 0)
  [.pointer none,.pointer none,bf b,.pointer none,.pointer none,.pointer none,.pointer none,.map (some a),.slice (some ⟨e,0,none⟩) n n,.int .i64 0,.int .i64 0,.int .i64 0,.int .u64 0,.slice none 0 0]/\
  bH (α:=Nat) wc a .u64 bf []/\Row wc e 120 ((List.replicate n ak.zero).flatMap fun x=>x.cells (.slice none 0 0))/\aX wc b f c d (.slice none 0 0) aN.new/\
  (w.heap.size<=mb/\w.heap.size<=a/\w.heap.size<=e/\w.heap.size<=b/\w.heap.size<=f/\w.heap.size<=c/\w.heap.size<=d)/\a≠c/\a≠d/\Ch ag w wc
theorem zO:Tryz.zeroCells113.toList=[.slice none 0 0,.int .i64 0,.slice none 0 0,.slice none 0 0,.int .i64 0,.int .i64 0,.int .i64 0]++((List.replicate 1000 (0:Int)).map (Value.int .i64)++[.pointer none,.pointer none,.pointer none,.pointer none,.pointer none,.pointer none,.pointer none,.map none,.slice none 0 0,.int .i64 0,.int .i64 0,.int .i64 0,.int .u64 0,.slice none 0 0]):=by kernel_rfl
theorem bH.py{α:Type}{w:World}{b:Nat}{q:IntKind}{enc:α->Value}{l:List (Int×α)}(h:bH w b q enc l):bH w.drew b q enc l:=h
theorem gB(W:World){k:Nat}(a:W.heap.size=k):bH (α:=Nat) (W.alloc (.map #[] 0)) k .u64 bf []:=⟨#[],0,by rw[<-a];exact heap_alloc_new W _,rfl⟩
theorem fB(W:World){k:Nat}(a:W.heap.size=k){cs:Array Value}{t:TypeId}{l:List Value}(h:cs.toList=l):Row (W.alloc (.cells cs t)) k t l:=by rw[<-a,<-h];exact Row.new W cs t
theorem zP(pre:List Value)(rows:List Int)(post:List Value)(j:Nat)(v:Value)(a:pre.length=7)(b:rows.length=1000):(pre++(rows.map (Value.int .i64)++post)).set (1007+j) v=pre++(rows.map (Value.int .i64)++post.set j v):=by
 rw[List.set_append_right _ _ (by rw[a];omega),a,List.set_append_right _ _ (by rw[List.length_map,b];omega),List.length_map,b,show 1007+j-7-1000=j by omega]
theorem jC.of{n:Nat}{w a:World}{b h f l i j k:Nat}(r:a.heap.size=k)(m:bH (α:=Nat) a b .u64 bf [])(o:Row a h 120 ((List.replicate n ak.zero).flatMap fun x=>x.cells (.slice none 0 0)))
 (p:aX a f l i j (.slice none 0 0) aN.new) (d:w.heap.size<=b/\w.heap.size<=h/\w.heap.size<=f/\w.heap.size<=l/\w.heap.size<=i/\w.heap.size<=j) (s:b≠i) (t:b≠j) (c:Ch ag w a):
 jC n w (.pointer (some ⟨k,0,none⟩)) (a.alloc (Obj.cells (((Tryz.zeroCells113.setIfInBounds 1014 (.map (some b))).setIfInBounds 1015 (.slice (some ⟨h,0,none⟩) n n)).setIfInBounds 1009 (.pointer (some ⟨f,0,none⟩))) 113)):=by
 subst r;refine⟨a.heap.size,b,h,f,l,i,j,rfl,⟨?_,rfl,by rw[List.length_replicate]⟩,m.alloc _,o.alloc _,p.ch (c:=(Ch.refl (fun _=>False) a).alloc _) (fun e=>e) (fun e=>e) (fun e=>e) (fun e=>e) (fun g q=>by cases q),⟨c.size,d.1,d.2.1,d.2.2.1,d.2.2.2.1,d.2.2.2.2.1,d.2.2.2.2.2⟩,s,t,c.alloc _⟩;have:=Row.new a (((Tryz.zeroCells113.setIfInBounds 1014 (.map (some b))).setIfInBounds 1015 (.slice (some ⟨h,0,none⟩) n n)).setIfInBounds 1009 (.pointer (some ⟨f,0,none⟩))) 113;rw[Array.toList_setIfInBounds,Array.toList_setIfInBounds,Array.toList_setIfInBounds,zO,show 1014=1007+7 from rfl,show 1015=1007+8 from rfl,show 1009=1007+2 from rfl,zP _ _ _ _ _ rfl (List.length_replicate),zP _ _ _ _ _ rfl (List.length_replicate),zP _ _ _ _ _ rfl (List.length_replicate)]at this;exact this
def fC(l:List br):Nat->List Int
 |0=>List.replicate 1000 0
 |k+1=>(fC l k).set ((l.getD k default).num.toNat) ((k:Int)+1)
theorem oe{n:Int}:∀{l:List br} {s:List Bool},jb n l s=true->∀r∈l,1<=r.num/\r.num<=999
 |[],_,_=>fun r b=>by cases b
 |x::l,s,h=>fun r b=>by
  rw[jb,Bool.and_eq_true]at h;rcases List.mem_cons.1 b with rfl|c
  ·have a:=h.1
   unfold gl at a;simp only[Bool.and_eq_true,decide_eq_true_eq]at a;exact a.1.1.1
  ·exact oe h.2 r c
theorem pz{l:List aV}{loop:Int}{calls:List br}(h:e2 l loop calls=true):∀r∈calls,1<=r.num/\r.num<=999:=by
 unfold e2 at h;rw[Bool.and_eq_true]at h;exact oe h.2
def qH(n:Nat)(loop:Int):Nat->List ak
 |0=>List.replicate n ak.zero
 |k+1=>(qH n loop k).set k (ak.new loop)
theorem oh(n:Nat)(loop:Int):∀k,(qH n loop k).length=n
 |0=>List.length_replicate
 |k+1=>by rw[qH,List.length_set];exact oh n loop k
theorem oi(n:Nat)(loop:Int):∀k i,i<n->(qH n loop k)[i]?=some (if i<k then ak.new loop else ak.zero)
 |0,i,a=>by rw[qH,List.getElem?_replicate,if_pos a,if_neg (by omega)]
 |k+1,i,a=>by
  rw[qH,List.getElem?_set];split
  ·rename_i e;subst e;rw[oh,if_pos a,if_pos (by omega)]
  ·rw[oi n loop k i a]
   by_cases h:i<k
   ·rw[if_pos h,if_pos (by omega)]
   ·rw[if_neg h,if_neg (by omega)]
theorem zQ(n:Nat)(loop:Int):qH n loop n=List.replicate n (ak.new loop):=by
 apply List.ext_getElem?;intro i;by_cases a:i<n
 ·rw[oi n loop n i a,if_pos a,List.getElem?_replicate,if_pos a]
 ·rw[List.getElem?_eq_none (by rw[oh];omega),List.getElem?_eq_none (by rw[List.length_replicate];omega)]
theorem qI{l:List aV}{en b a:Int}(h:ei l en b a=true):0<=b/\b<=256/\0<=a/\a<=256:=by
 unfold ei at h;simp only[Bool.and_eq_true,decide_eq_true_eq]at h;obtain⟨⟨⟨c,d,e,f,_⟩,_⟩,_⟩:=h;omega
def Dl(C:KC)(n tt:Nat)(w:World)(e:Ending)(w':World):Prop:=
 ∃χ L Y,e=.returned (.tuple #[.pointer (some ⟨L.mb,0,none⟩),.nilIface])/\ae w' χ L Y C (hC C n tt)/\(∀i,χ i≠ .no->w.heap.size<=i)/\(∀i,χ i≠ .out)/\Ch ag w w'
theorem fU{α:Type}{W:World}{a b:Nat}{t:TypeId}{l:List Value}{q:IntKind}{enc:α->Value}{m:List (Int×α)}(h:Row W a t l)(f:bH W b q enc m):a≠b:=fun e=>by
 obtain⟨g,c,d,_⟩:=f;rw[<-e,show W.heap[a]?=some (.cells l.toArray t (0,0))from h]at d;cases d
def ue(l:List aV)(loop:Int)(calls:List br)(p:List aV)(en b a:Int):KC:=⟨l,loop,calls,p,en,b,a,fC calls calls.length⟩
def E7(mb:Nat)(post:List Value)(pre:List Value)(en e d:Int)(p:List aV)(a:Nat)(w wc:World):Prop:=
 ∃b c,NM wc mb (pre++[.slice (some ⟨b,0,none⟩) a c,.int .i64 en,.int .i64 e,.int .i64 d]) (List.replicate 1000 0) post/\zN w 184 a (b' p) w.heap.size b c wc/\Ch (aK mb) w wc
theorem jB{l:List aV}{en b a:Int}(h:ei l en b a=true):0<l.length/\l.length<=2048:=by
 unfold ei ja at h;simp only[Bool.and_eq_true,decide_eq_true_eq]at h;have c:=h.1.1;have d:=h.1.2.1;omega
theorem zR(n tt:Nat)(sE:1<=n/\n<=64)(sK:1<=tt/\tt<=65536)(l:List aV)(Q:Nat)(c3:Nat)(loop:Int)(calls:List br)(c1:Option Addr)(c2:Nat)(p:List aV)(U:Nat)(pc:Nat)(en:Int)(o A:Nat)
 (sA:l.length<=c3) (vE:calls.length<=c2) (sG:p.length<=pc) (pv:calls.length<=100000) (w:World) (q5:eE w Q l) (qN:eE w U p)
 (mA:(∃gk O,c1=some ⟨gk,0,none⟩/\0<calls.length/\Row w gk 158 (calls.flatMap br.cells++O))∨c1=none/\calls=[]/\c2=0)
 (lt:e2 l loop calls=true) (lw:ei p en o A=true)
 (N:w.cell? ⟨0,0,none⟩=some (.iface 390 (.agg #[.pointer (some ⟨4,85,none⟩)]))):
 Calls prog 34 #[.agg #[.int .i64 n,.int .i64 tt],.agg #[.slice (some ⟨Q,0,none⟩) l.length c3,.int .i64 loop,.slice c1 calls.length c2],.agg #[.slice (some ⟨U,0,none⟩) p.length pc,.int .i64 en,.int .i64 o,.int .i64 A]] w (fun e w'=>(17+8*n+o+A+1<=tt/\Dl (ue l loop calls p en o A) n tt w e w')∨(tt<17+8*n+o+A+1/\z2 w e w')):=by
 obtain⟨w1,ip⟩:=nm (((w.alloc (.cells #[.int .i64 n,.int .i64 tt] 35)).alloc (.cells #[.slice (some ⟨Q,0,none⟩) l.length c3,.int .i64 loop,.slice c1 calls.length c2] 90)).alloc (.cells #[.slice (some ⟨U,0,none⟩) p.length pc,.int .i64 en,.int .i64 o,.int .i64 A] 77));have cq:Hid (Ch ag w w1):=Z (by rw[<-ip];exact(((Ch.refl _ _).alloc _).alloc _).alloc _);have lo:Hid (Row w1 w.heap.size 35 [.int .i64 n,.int .i64 tt]):=Z (by rw[<-ip];exact((Row.new w _ _).alloc _).alloc _);have c6:Hid (Row w1 (w.heap.size+1) 90 [.slice (some ⟨Q,0,none⟩) l.length c3,.int .i64 loop,.slice c1 calls.length c2]):=Z (by
  rw[<-ip];have:=Row.new (w.alloc (.cells #[.int .i64 n,.int .i64 tt] 35)) #[.slice (some ⟨Q,0,none⟩) l.length c3,.int .i64 loop,.slice c1 calls.length c2] 90;rw[World.size_alloc]at this;exact this.alloc _)
 have T2:Hid (Row w1 (w.heap.size+2) 77 [.slice (some ⟨U,0,none⟩) p.length pc,.int .i64 en,.int .i64 o,.int .i64 A]):=Z (by
  rw[<-ip];have:=Row.new ((w.alloc (.cells #[.int .i64 n,.int .i64 tt] 35)).alloc (.cells #[.slice (some ⟨Q,0,none⟩) l.length c3,.int .i64 loop,.slice c1 calls.length c2] 90)) #[.slice (some ⟨U,0,none⟩) p.length pc,.int .i64 en,.int .i64 o,.int .i64 A] 77;rw[World.size_alloc,World.size_alloc]at this;exact this)
 have rm:Hid (eE w1 Q l):=Z (q5.ch cq.out (fun h=>h));have rC:Hid (eE w1 U p):=Z (qN.ch cq.out (fun h=>h));have ni:Hid ((∃gk O,c1=some ⟨gk,0,none⟩/\0<calls.length/\gk<w.heap.size/\Row w1 gk 158 (calls.flatMap br.cells++O))∨c1=none/\calls=[]/\c2=0):=Z (by
  rcases mA with⟨gk,O,f,V,c8⟩|h
  ·exact Or.inl ⟨gk,O,f,V,c8.lt,c8.ch cq.out (fun h=>h)⟩
  ·exact Or.inr h)
 have ne:Hid (w1.cell? ⟨0,0,none⟩=some (.iface 390 (.agg #[.pointer (some ⟨4,85,none⟩)]))):=Z (cq.out.k N);have ho:=jc l (some ⟨Q,0,none⟩) c3 loop calls c1 c2 sA pv w1 (fun _=>⟨Q,rfl,rm.out⟩) (fun q9=>by
  rcases ni.out with⟨gk,O,f,_,_,c8⟩|⟨_,h,_⟩
  ·exact⟨gk,O,f,c8⟩
  ·exact absurd h q9) ne.out
 rw[lt]at ho;have ho:=Z ho;have rj:Hid (∀w2,Ch ag w1 w2->Calls prog 61 #[.agg #[.slice (some ⟨U,0,none⟩) p.length pc,.int .i64 en,.int .i64 o,.int .i64 A]] w2 (qz true w2)):=Z (fun w2 Y=>by
  have:=jd p (some ⟨U,0,none⟩) pc en o A sG w2 (fun _=>⟨U,rfl,rC.out.ch Y (fun h=>h)⟩) ((Y.cell (aE ne.out) (fun h=>h)).trans ne.out)
  rwa [lw]at this)
 obtain⟨ap,i8⟩:=mn l.length;obtain⟨G,i7⟩:=mn calls.length;obtain⟨cS,i9⟩:=mn p.length;have ua:Hid (U<w.heap.size/\Q<w.heap.size):=Z ⟨qN.lt,q5.lt⟩;have tY:=Z (pz lt);have li:=Z (qI lw);have nC:=Z i8;have cb:=Z i7;have ob:=Z i9;rw[<-i8,<-i7]at c6 ho;rw[<-i9]at T2 rj;rw[<-i8,<-i7,<-i9]at ip⊢;have eC:=Z sE;have ok:=Z sK;obtain⟨q',xz⟩:=lo.out.c2;obtain⟨t10,t11,t12⟩:=c6.out.c3;obtain⟨t20,t21,t22,t23⟩:=T2.out.c4;have sb:0<ap/\ap<=2048:=by rw[i8];exact hU lt
 have sa:G<=100000:=by rw[i7];exact pv
 have kd:Hid (0<cS/\cS<=2048):=Z (by rw[i9];exact jB lw);have cm:=Z sb;have B2:=Z sa;have i1:(1:Int)<=n:=by omega
 have i2:(n:Int)<=64:=by omega
 have x9:(1:Int)<=tt:=by omega
 have xa:(tt:Int)<=65536:=by omega
 clear sb sa i8 i7 i9 sA vE sG pv q5 qN mA lt lw N sE sK;go_enter func34,ntmps34
 go_wp2_with (first|(go_at_call 60;refine ho.out.mono ?_;rintro e w2 ⟨⟨y,rfl,qX⟩,go⟩;obtain rfl:y=.nilIface:=qX;have r9:=Z go;have u20:=(T2.out.ch go (fun h=>h)).cell (i:=0) rfl;have u21:=(T2.out.ch go (fun h=>h)).cell (i:=1) rfl;have u22:=(T2.out.ch go (fun h=>h)).cell (i:=2) rfl;have u23:=(T2.out.ch go (fun h=>h)).cell (i:=3) rfl;clear go)|(go_at_call 61;refine(rj.out _ r9.out).mono ?_;rintro e ab ⟨⟨y,rfl,qX⟩,sr⟩;obtain rfl:y=.nilIface:=qX;have c9:=Z (r9.out.trans sr);clear sr))
 obtain⟨fb,gr,eU,eW,eY⟩:=info_parts zK;have vQ:=fun w=>run_make (P:=prog) w 111 120 fb _ underlying111 gr eU .i64 .i64 (n:Int) (n:Int) (by omega) (by omega) (by rw[eY];omega) (by omega)
 obtain⟨cs,ms⟩:=nm (madeCells (Value.agg (#[.int .u64 0,.int .u64 0,.bool false,.int .i64 0,.int .i64 0]++Array.replicate 32 (.int .u64 0)++#[.slice none 0 0])).cells ((n:Int).toNat*fb.size));simp only[ms]at vQ;rw[eW,Int.toNat_natCast]at ms;have tz:=Z ms;have fK:Hid (cs.toList=(List.replicate n ak.zero).flatMap fun x=>x.cells (.slice none 0 0)):=Z (by
  rw[<-tz.out];exact gP (enc:=fun x:ak=>x.cells (.slice none 0 0)) (k:=38) (fun x=>ak.len (x,_)) (by omega) ak.zero _ rfl n)
 have x4:= @run_makeMap prog;clear ms gr eU eW eY;have q':=lo.out.c1;have r8:ab.cell? ⟨w.heap.size,0,none⟩=some (.int .i64 n):=c9.out.k q';clear q';go_cut [10] (fun p wc=>jC n ab p wc)
 case first=>
  have iv:=World.new_ne ab ⟨w.heap.size,0,none⟩ r8;have jp:w.heap.size<ab.heap.size:=aE r8;go_region_held3 (fun w'=>w'.cell? ⟨w.heap.size,0,none⟩=some (.int .i64 n)) (go_keep) ((go_at_call 62;refine(ki _).mono ?_;rintro e a ⟨b,hb,mb,qb,rfl,gp,dr,dC,dN,i5,pi⟩;have am:=Z gp;have E:Hid (Ch ag ab a):=Z (Ch.trans (by repeat(first|exact Ch.refl _ _|with_reducible refine Ch.drew ?_|with_reducible refine Ch.alloc ?_ _)) pi);have fo:=Z pi;have al:=Z (And.intro dr (And.intro dC (And.intro dN i5)));have x5:=E.out.k r8;clear gp pi dr dC dN i5))
  all_goals(go_wp2_with fail;go_meet)
  ·exact jC.of (by simp) (((gB ab rfl).alloc _).py.ch fo.out (fun h=>h)) ((fB (ab.alloc (.map #[] 0)) (k:=ab.heap.size+1) (by simp) fK.out).drew.ch fo.out (fun h=>h)) am.out (by have f:=al.out;simp only[World.size_alloc,World.size_drew]at f;omega) (by have f:=al.out;simp only[World.size_alloc,World.size_drew]at f;omega) (by have f:=al.out;simp only[World.size_alloc,World.size_drew]at f;omega) E.out
  ·exact jC.of (by simp) ((((gB ab rfl)).py.ch fo.out (fun h=>h)).alloc _) (fB _ rfl fK.out) (am.out.ch (c:=(Ch.refl (fun _=>False) a).alloc _) (fun e=>e) (fun e=>e) (fun e=>e) (fun e=>e) (fun g N=>by cases N)) (by have f:=al.out;have V:=E.out.size;simp only[World.size_alloc,World.size_drew]at f;omega) (by have f:=al.out;simp only[World.size_alloc,World.size_drew]at f;omega) (by have f:=al.out;simp only[World.size_alloc,World.size_drew]at f;omega) (E.out.alloc _)
  ·exact jC.of (by simp) ((gB (ab.alloc (.cells cs 120)) (k:=ab.heap.size+1) (by simp)).py.ch fo.out (fun h=>h)) (((fB _ rfl fK.out).alloc _).drew.ch fo.out (fun h=>h)) am.out (by have f:=al.out;simp only[World.size_alloc,World.size_drew]at f;omega) (by have f:=al.out;simp only[World.size_alloc,World.size_drew]at f;omega) (by have f:=al.out;simp only[World.size_alloc,World.size_drew]at f;omega) E.out
  ·exact jC.of (by simp) (gB _ rfl) (((fB _ rfl fK.out).drew.ch fo.out (fun h=>h)).alloc _) (am.out.ch (c:=(Ch.refl (fun _=>False) a).alloc _) (fun e=>e) (fun e=>e) (fun e=>e) (fun e=>e) (fun g N=>by cases N)) (by have f:=al.out;have V:=E.out.size;simp only[World.size_alloc,World.size_drew]at f;omega) (by have:=am.out.heap.map.lt;omega) (by have:=am.out.ff.lt;omega) (E.out.alloc _)
  ·exact jC.of (by simp) ((gB _ rfl).alloc _) (fB (a.alloc (.map #[] 0)) (k:=a.heap.size+1) (by simp) fK.out) (am.out.ch (c:=((Ch.refl (fun _=>False) a).alloc _).alloc _) (fun e=>e) (fun e=>e) (fun e=>e) (fun e=>e) (fun g N=>by cases N)) (by have f:=al.out;have V:=E.out.size;simp only[World.size_alloc,World.size_drew]at f;omega) (by have:=am.out.heap.map.lt;omega) (by have:=am.out.ff.lt;omega) ((E.out.alloc _).alloc _)
  ·exact jC.of (by simp) (gB (a.alloc (.cells cs 120)) (k:=a.heap.size+1) (by simp)) ((fB _ rfl fK.out).alloc _) (am.out.ch (c:=((Ch.refl (fun _=>False) a).alloc _).alloc _) (fun e=>e) (fun e=>e) (fun e=>e) (fun e=>e) (fun g N=>by cases N)) (by have f:=al.out;have V:=E.out.size;simp only[World.size_alloc,World.size_drew]at f;omega) (by have:=am.out.heap.map.lt;omega) (by have:=am.out.ff.lt;omega) ((E.out.alloc _).alloc _)
 case rest=>
  obtain⟨mb,c4,z,c7,ge,ch,gf,rfl,qc,q7,gs,gp,sJ,iv,jp,l'⟩:=hcut;obtain⟨w4,sM⟩:=nm wc;rw[sM]at qc q7 gs gp l'⊢;have c5:=Z qc;have he:Hid (Ch ag w1 w4):=Z (c9.out.trans l'.af);have g2:=Z sJ;have le:=Z q7;have ce:=Z gs;have bw:=Z gp;have rx:=Z (And.intro iv jp);have tx:=Z l';clear qc q7 gs gp sJ iv jp l' sM;have tX:=Z (fun(w:World) pre rows post (h:NM w mb pre rows post) (r:NR pre post z n 0 0)=>lG h r);have nc:=Z (tX.out w4.drew _ _ _ c5.out.drew ⟨rfl,rfl,rfl,eC.out.1,eC.out.2,by omega,by omega,by omega,by omega⟩);have wn:=((lo.out.ch he.out (fun h=>h)).cell (i:=1) rfl);have wo:=((T2.out.ch he.out (fun h=>h)).cell (i:=2) rfl);have ws:=((T2.out.ch he.out (fun h=>h)).cell (i:=3) rfl);have x8:(o:Int)<=65536:=by have:=li.out;omega
  have x6:(A:Int)<=65536:=by have:=li.out;omega
  rcases Nat.lt_or_ge tt (17+8*n+o+A+1)with ii|ii
  ·have sI:((tt:Int)<17+8*(n:Int)+o+A+1):=by omega
   have hu:=Z ii;clear ii;go_wp2_with fail
   have wi:IntKind.i64.wrap (17+8*(n:Int)+o)=17+8*(n:Int)+o:=IntWalk.i64_in _ (by omega);have wk:IntKind.i64.wrap (17+8*(n:Int)+o+A)=17+8*(n:Int)+o+A:=IntWalk.i64_in _ (by omega);have wl:IntKind.i64.wrap (17+8*(n:Int)+o+A+1)=17+8*(n:Int)+o+A+1:=IntWalk.i64_in _ (by omega);refine wp_region_still (by kernel_rfl) (by kernel_rfl) ?_;try simp only[]
   repeat still_step
   still_call (bZ nc.out)
   repeat still_step
   try refine wpStill_nil ?_
   go_wp2_with (go_at_call 59;refine(e8 _ _ _ _).mono ?_;rintro e w' ⟨rfl,rfl⟩)
   any_goals (first|(exfalso;omega)|skip)
   go_ret2;exact Or.inr ⟨hu.out,⟨_,rfl,aq.mk _ _⟩,(cq.out.trans he.out.drew).alloc _⟩
  have sI:¬((tt:Int)<17+8*(n:Int)+o+A+1):=by omega
  have hu:=Z ii;clear ii;go_wp2_with fail
  have wi:IntKind.i64.wrap (17+8*(n:Int)+o)=17+8*(n:Int)+o:=IntWalk.i64_in _ (by omega);have wk:IntKind.i64.wrap (17+8*(n:Int)+o+A)=17+8*(n:Int)+o+A:=IntWalk.i64_in _ (by omega);have wl:IntKind.i64.wrap (17+8*(n:Int)+o+A+1)=17+8*(n:Int)+o+A+1:=IntWalk.i64_in _ (by omega);refine wp_region_still (by kernel_rfl) (by kernel_rfl) ?_;try simp only[]
  repeat still_step
  still_call (bZ nc.out)
  repeat still_step
  try refine wpStill_nil ?_
  go_wp2_with fail
  any_goals (first|(exfalso;omega)|skip)
  change Code.wp _ _ _ _ w4.drew;obtain⟨a,mS⟩:=nm w4.drew;have E:Hid (Ch ag w1 a):=Z (by rw[<-mS];exact he.out.drew);have rb:Hid (Ch ag w4 a):=Z (by rw[<-mS];exact(Ch.refl _ _).drew);have F:=Z (c5.out.ch rb.out (fun h=>h));rw[mS];clear mS wn wo ws nc sI;have gL:=((c6.out.ch E.out (fun h=>h)).cell (i:=0) rfl);have gR:=((c6.out.ch E.out (fun h=>h)).cell (i:=1) rfl);have z12:=((c6.out.ch E.out (fun h=>h)).cell (i:=2) rfl);go_cut [] (fun wc=>E6 mb [.pointer none,.pointer none,bf c7,.pointer none,.pointer none,.pointer none,.pointer none,.map (some c4),.slice (some ⟨z,0,none⟩) n n,.int .i64 0,.int .i64 0,.int .i64 0,.int .u64 0,.slice none 0 0] [.slice none 0 0,.int .i64 0,.int .i64 0,.int .i64 0] loop l calls ap G a wc)
  case first=>
   have sR:=F.out.pc (i:=0) rfl;have sX:=F.out.pc (i:=1) rfl;have sZ:=F.out.pc (i:=2) rfl;have f0:=F.out.fz 0;have f1:=F.out.fz 1;have f2:=F.out.fz 2;have vf:w.heap.size+1<mb:=Nat.lt_of_lt_of_le c6.out.lt (Nat.le_trans c9.out.size g2.out.1);have d1:mb≠w.heap.size+1:=(by omega);have d2:w.heap.size+1≠mb:=(by omega);have iv:=World.new_ne a _ gL;have jp:=World.new_ne a _ gR;have w5:=World.new_ne a _ z12;obtain⟨fb,gr,eU,eW,eY⟩:=info_parts sx;obtain⟨i1,vs,vX,vY,vZ⟩:=info_parts zL;have lb:=Z gr;have rk:=Z vs;have rn:Hid (eE a Q l):=Z (rm.out.ch E.out (fun h=>h));have rO:Hid ((b' l).length=ap*7):=Z (by rw[lU,nC.out];omega);rcases ni.out with⟨gk,O,rfl,sH,e1,mC⟩|⟨rfl,pm,rfl⟩
   ·have tM:Hid (Row a gk 158 (calls.flatMap br.cells++O)):=Z (mC.ch E.out (fun h=>h))
    have sH:0<G/\G<=100000:=⟨by rw[cb.out];exact sH,B2.out⟩;clear mC e1;have uL:Hid ((calls.flatMap br.cells).length=G*6):=Z (by rw[kR,cb.out]);go_region_held_law (fun w'=>w'.cell? ⟨w.heap.size+1,0,none⟩=some (.slice (some ⟨Q,0,none⟩) ap c3)/\w'.cell? ⟨w.heap.size+1,1,none⟩=some (.int .i64 loop)/\w'.cell? ⟨w.heap.size+1,2,none⟩=some (.slice (some ⟨gk,0,none⟩) G c2)) (go_keep) (first
     |(refine step_append_grows (by rfl) _ _ 75 (by rfl) 184 fb _ 7 56 underlying75 lb.out eU eW eY (by rfl) (by omega) _ 0 0 [] (by rfl) (fun h=>⟨rfl,rfl⟩) (by rfl) (fun _ _ _ _ h=>by cases h) ⟨Q,0,none⟩ ap c3 (b' l) (by rfl) rO.out (ud (fun j u et=>(rn.out.ch (show Ch ag a _ by repeat(first|exact Ch.refl _ _|exact D.out|with_reducible refine Ch.drew ?_|with_reducible refine Ch.alloc ?_ _)) (fun h=>h)).cell j u et)) (mo l) (by have:=cm.out;omega) (by have:=cm.out;unfold maxLen;omega) (by have:=cm.out;omega) ?_;intro k4 av ec ci;have t:Hid (Ch ag a av):=Z ((show Ch ag a _ by repeat(first|exact Ch.refl _ _|exact D.out|with_reducible refine Ch.drew ?_|with_reducible refine Ch.alloc ?_ _)).trans ((Ch.bQ ci).mono (fun i H=>by cases H)));obtain⟨S,cW,it,rfl,hA1,hA2,hA3,hA4,hA5⟩:=aS ec (by have:=cm.out;omega);have hv:=Z hA4;have cC:=Z (And.intro hA1 hA2);have uV:=t.out.k gL;have uX:=t.out.k gR;have a12:=t.out.k z12;clear ec ci hA1 hA2 hA3 hA4 hA5)
     |(refine step_append_grows (by rfl) _ _ 88 (by rfl) 158 i1 _ 6 48 underlying88 rk.out vX vY vZ (by rfl) (by omega) _ 0 0 [] (by rfl) (fun h=>⟨rfl,rfl⟩) (by rfl) (fun _ _ _ _ h=>by cases h) ⟨gk,0,none⟩ G c2 (calls.flatMap br.cells) (by rfl) uL.out (ud (fun j u et=>(tM.out.ch (show Ch ag a _ by repeat(first|exact Ch.refl _ _|exact t.out|with_reducible refine Ch.drew ?_|with_reducible refine Ch.alloc ?_ _)) (fun h=>h)).cell (by rw[List.getElem?_append_left (List.getElem?_eq_some_iff.1 et).1];exact et))) (zM calls) (by omega) (by unfold maxLen;omega) (by omega) ?_;intro k4 bi sF pu;have D:Hid (Ch ag a bi):=Z ((show Ch ag a _ by repeat(first|exact Ch.refl _ _|exact t.out|with_reducible refine Ch.drew ?_|with_reducible refine Ch.alloc ?_ _)).trans ((Ch.bQ pu).mono (fun i H=>by cases H)));obtain⟨T,r',v',rfl,s5,s6,vg,s7,vn⟩:=aS sF (by omega);have os:=Z s7;have l1:=Z (And.intro s5 s6);have n8:=Z (Ch.bQ pu);have uZ:=D.out.k gL;have u':=D.out.k gR;have v0:=D.out.k z12;have sR:=(F.out.ch D.out (fun h=>h)).pc (i:=0) rfl;have sX:=(F.out.ch D.out (fun h=>h)).pc (i:=1) rfl;have sZ:=(F.out.ch D.out (fun h=>h)).pc (i:=2) rfl;have f0:=(F.out.ch D.out (fun h=>h)).fz 0;have f1:=(F.out.ch D.out (fun h=>h)).fz 1;have f2:=(F.out.ch D.out (fun h=>h)).fz 2;clear sF pu s5 s6 vg s7 vn))
    all_goals(go_wp2_with fail;go_meet)
    all_goals
     have eL:a.heap.size<=S:=Nat.le_trans ((show Ch ag a _ by repeat(first|exact Ch.refl _ _|exact t.out|with_reducible refine Ch.drew ?_|with_reducible refine Ch.alloc ?_ _))).size cC.out.1;have i3:a.heap.size<=T:=Nat.le_trans ((show Ch ag a _ by repeat(first|exact Ch.refl _ _|exact t.out|with_reducible refine Ch.drew ?_|with_reducible refine Ch.alloc ?_ _))).size l1.out.1;have i4:Ch ag av bi:=((show Ch ag av _ by repeat(first|exact Ch.refl _ _|exact t.out|with_reducible refine Ch.drew ?_|with_reducible refine Ch.alloc ?_ _))).trans (n8.out.mono (fun i H=>by cases H));have ls:mb<a.heap.size:=F.out.lt;have Y:Ch (aK mb) bi (((bi.setCell ⟨mb,0,none⟩ (.slice (some ⟨S,0,none⟩) ap cW)).setCell ⟨mb,1,none⟩ (.int .i64 loop)).setCell ⟨mb,2,none⟩ (.slice (some ⟨T,0,none⟩) G r')):=(((Ch.refl _ _).only _ _).only _ _).only _ _;refine⟨S,cW,T,r',(((F.out.ch D.out (fun h=>h)).tP (i:=0) (by omega) _).tP (i:=1) (by omega) _).tP (i:=2) (by omega) _,⟨⟨it,?_⟩,?_,eL⟩,⟨⟨v',?_⟩,?_,i3⟩,D.out.af.trans Y⟩
     ·exact(hv.out.ch i4 (fun h=>h)).ch Y (fun e=>by have:S=mb:=e;omega)
     ·have:=cC.out.2;omega
     ·exact os.out.ch Y (fun e=>by have:T=mb:=e;omega)
     ·have:=l1.out.2;omega
   ·have ty:=Z pm
    obtain rfl:G=0:=by rw[cb.out,pm];rfl
    clear pm;go_region_held_law (fun w'=>w'.cell? ⟨w.heap.size+1,0,none⟩=some (.slice (some ⟨Q,0,none⟩) ap c3)/\w'.cell? ⟨w.heap.size+1,1,none⟩=some (.int .i64 loop)/\w'.cell? ⟨w.heap.size+1,2,none⟩=some (.slice none 0 0)) (go_keep) (first
     |(refine step_append_grows (by rfl) _ _ 75 (by rfl) 184 fb _ 7 56 underlying75 lb.out eU eW eY (by rfl) (by omega) _ 0 0 [] (by rfl) (fun h=>⟨rfl,rfl⟩) (by rfl) (fun _ _ _ _ h=>by cases h) ⟨Q,0,none⟩ ap c3 (b' l) (by rfl) rO.out (ud (fun j u et=>(rn.out.ch (show Ch ag a _ by repeat(first|exact Ch.refl _ _|exact D.out|with_reducible refine Ch.drew ?_|with_reducible refine Ch.alloc ?_ _)) (fun h=>h)).cell j u et)) (mo l) (by have:=cm.out;omega) (by have:=cm.out;unfold maxLen;omega) (by have:=cm.out;omega) ?_;intro k4 av ec ci;have t:Hid (Ch ag a av):=Z ((show Ch ag a _ by repeat(first|exact Ch.refl _ _|exact D.out|with_reducible refine Ch.drew ?_|with_reducible refine Ch.alloc ?_ _)).trans ((Ch.bQ ci).mono (fun i H=>by cases H)));obtain⟨S,cW,it,rfl,hA1,hA2,hA3,hA4,hA5⟩:=aS ec (by have:=cm.out;omega);have hv:=Z hA4;have cC:=Z (And.intro hA1 hA2);have tF:=Z (Ch.bQ ci);have uV:=t.out.k gL;have uX:=t.out.k gR;have a12:=t.out.k z12;clear ec ci hA1 hA2 hA3 hA4 hA5)
     |(refine Iq (by rfl) _ _ 88 (by rfl) 158 i1 underlying88 rk.out _ 0 0 (by rfl) (Nat.le_refl _) (by rfl) ?_;intro k4 bi sL mW;have D:Hid (Ch ag a bi):=Z (by rw[mW];exact(show Ch ag a _ by repeat(first|exact Ch.refl _ _|exact t.out|with_reducible refine Ch.drew ?_|with_reducible refine Ch.alloc ?_ _)));obtain⟨T,rfl,rQ,rf⟩:∃T,k4=.slice (some ⟨T,0,none⟩) 0 0/\Row bi T 158 []/\a.heap.size<=T:=⟨_,sL,by rw[mW];repeat(first|exact fB _ (by first|rfl|simp) rfl|with_reducible refine Row.drew ?_|with_reducible refine Row.alloc ?_ _|refine Row.ch ?_ tF.out (fun h=>by cases h)),by first|exact Nat.le_refl _|exact Nat.le_add_right _ _|exact t.out.size|exact Nat.le_trans t.out.size (Nat.le_add_right _ _)|(have:=t.out.size;simp;omega)⟩;have os:=Z rQ;have l1:=Z rf;have n8:Hid (Ch ag av bi):=Z (by rw[mW];exact(show Ch ag av _ by repeat(first|exact Ch.refl _ _|with_reducible refine Ch.drew ?_|with_reducible refine Ch.alloc ?_ _)));have uZ:=D.out.k gL;have u':=D.out.k gR;have v0:=D.out.k z12;have sR:=(F.out.ch D.out (fun h=>h)).pc (i:=0) rfl;have sX:=(F.out.ch D.out (fun h=>h)).pc (i:=1) rfl;have sZ:=(F.out.ch D.out (fun h=>h)).pc (i:=2) rfl;have f0:=(F.out.ch D.out (fun h=>h)).fz 0;have f1:=(F.out.ch D.out (fun h=>h)).fz 1;have f2:=(F.out.ch D.out (fun h=>h)).fz 2;clear sL mW rQ rf))
    all_goals(go_wp2_with fail;go_meet)
    all_goals
     have eL:a.heap.size<=S:=Nat.le_trans ((show Ch ag a _ by repeat(first|exact Ch.refl _ _|exact t.out|with_reducible refine Ch.drew ?_|with_reducible refine Ch.alloc ?_ _))).size cC.out.1;have i3:a.heap.size<=T:=l1.out;have i4:Ch ag av bi:=n8.out;have ls:mb<a.heap.size:=F.out.lt;have Y:Ch (aK mb) bi (((bi.setCell ⟨mb,0,none⟩ (.slice (some ⟨S,0,none⟩) ap cW)).setCell ⟨mb,1,none⟩ (.int .i64 loop)).setCell ⟨mb,2,none⟩ (.slice (some ⟨T,0,none⟩) 0 0)):=(((Ch.refl _ _).only _ _).only _ _).only _ _;refine⟨S,cW,T,0,(((F.out.ch D.out (fun h=>h)).tP (i:=0) (by omega) _).tP (i:=1) (by omega) _).tP (i:=2) (by omega) _,⟨⟨it,?_⟩,?_,eL⟩,⟨⟨[],?_⟩,?_,i3⟩,D.out.af.trans Y⟩
     ·exact(hv.out.ch i4 (fun h=>h)).ch Y (fun e=>by have:S=mb:=e;omega)
     ·have:=cC.out.2;omega
     ·rw[ty.out];exact os.out.ch Y (fun e=>by have:T=mb:=e;omega)
     ·exact Nat.le_refl _
  case rest=>
   obtain⟨hw,gb,hB,gc,ql,eS,es,pk⟩:=hcut;obtain⟨ad,sN⟩:=nm wc;rw[sN]at ql eS es pk⊢;have c0:=Z ql;have ui:=Z eS;have uj:=Z es;have eA:=Z pk;clear ql eS es pk sN gL gR z12;have wv:Hid (Ch ag w ad):=Z ((cq.out.trans E.out).fresh eA.out (fun b hb e=>by have f:b=mb:=e;have V:=g2.out.1;have c8:=Nat.lt_of_lt_of_le c6.out.lt c9.out.size;omega));have hm:∀x,x<w.heap.size+3->¬aK mb x:=(fun x gA e=>by have f:x=mb:=e;have V:=g2.out.1;have c8:=Nat.lt_of_lt_of_le T2.out.lt c9.out.size;omega);have uS:=Z ((T2.out.ch E.out (fun h=>h)).ch eA.out (hm _ (by omega)));obtain⟨r2,r4,v2,r5⟩:=uS.out.c4;go_wp2_with fail
   go_cut [] (fun wc=>E7 mb [.pointer none,.pointer none,bf c7,.pointer none,.pointer none,.pointer none,.pointer none,.map (some c4),.slice (some ⟨z,0,none⟩) n n,.int .i64 0,.int .i64 0,.int .i64 0,.int .u64 0,.slice none 0 0] [.slice (some ⟨hw,0,none⟩) ap gb,.int .i64 loop,.slice (some ⟨hB,0,none⟩) G gc] en o A p cS ad wc)
   case first=>
    have w0:=c0.out.pc (i:=3) rfl;have vf:w.heap.size+2<mb:=Nat.lt_of_lt_of_le T2.out.lt (Nat.le_trans c9.out.size g2.out.1);have d1:mb≠w.heap.size+2:=(by omega);have d2:w.heap.size+2≠mb:=(by omega);have d3:mb≠w.heap.size+1+1:=(by omega);have d4:w.heap.size+1+1≠mb:=(by omega);have iv:=World.new_ne ad _ r2;have jp:=World.new_ne ad _ r4;have w5:=World.new_ne ad _ v2;have xu:=World.new_ne ad _ r5;obtain⟨fb,gr,eU,eW,eY⟩:=info_parts sx;have lb:=Z gr;have ub:Hid (eE ad U p):=Z ((rC.out.ch E.out (fun h=>h)).ch eA.out (hm _ (by have:=ua.out;omega)));have uM:Hid ((b' p).length=cS*7):=Z (by rw[lU,ob.out];omega);go_region_held_law (fun w'=>w'.cell? ⟨w.heap.size+2,0,none⟩=some (.slice (some ⟨U,0,none⟩) cS pc)/\w'.cell? ⟨w.heap.size+2,1,none⟩=some (.int .i64 en)/\w'.cell? ⟨w.heap.size+2,2,none⟩=some (.int .i64 o)/\w'.cell? ⟨w.heap.size+2,3,none⟩=some (.int .i64 A)) (go_keep) ((refine step_append_grows (by rfl) _ _ 75 (by rfl) 184 fb _ 7 56 underlying75 lb.out eU eW eY (by rfl) (by omega) _ 0 0 [] (by rfl) (fun h=>⟨rfl,rfl⟩) (by rfl) (fun _ _ _ _ h=>by cases h) ⟨U,0,none⟩ cS pc (b' p) (by rfl) uM.out (ud (fun j u et=>(ub.out.ch (show Ch ag ad _ by repeat(first|exact Ch.refl _ _|with_reducible refine Ch.drew ?_|with_reducible refine Ch.alloc ?_ _)) (fun h=>h)).cell j u et)) (mo p) (by have:=kd.out;omega) (by have:=kd.out;unfold maxLen;omega) (by have:=kd.out;omega) ?_;intro k4 av ec ci;have t:Hid (Ch ag ad av):=Z ((show Ch ag ad _ by repeat(first|exact Ch.refl _ _|with_reducible refine Ch.drew ?_|with_reducible refine Ch.alloc ?_ _)).trans ((Ch.bQ ci).mono (fun i H=>by cases H)));obtain⟨S,cW,it,rfl,hA1,hA2,hA3,hA4,hA5⟩:=aS ec (by have:=kd.out;omega);have hv:=Z hA4;have cC:=Z (And.intro hA1 hA2);have a0:=t.out.k r2;have a1:=t.out.k r4;have a2:=t.out.k v2;have a3:=t.out.k r5;have w0:=(c0.out.ch t.out (fun h=>h)).pc (i:=3) rfl;have xo:=(c0.out.ch t.out (fun h=>h)).pc (i:=4) rfl;have xs:=(c0.out.ch t.out (fun h=>h)).pc (i:=5) rfl;have xt:=(c0.out.ch t.out (fun h=>h)).pc (i:=6) rfl;have f3:=(c0.out.ch t.out (fun h=>h)).fz 3;have f4:=(c0.out.ch t.out (fun h=>h)).fz 4;have f5:=(c0.out.ch t.out (fun h=>h)).fz 5;have f6:=(c0.out.ch t.out (fun h=>h)).fz 6;clear ec ci hA1 hA2 hA3 hA4 hA5))
    all_goals(go_wp2_with fail;go_meet)
    all_goals
     have eL:ad.heap.size<=S:=Nat.le_trans ((show Ch ag ad _ by repeat(first|exact Ch.refl _ _|with_reducible refine Ch.drew ?_|with_reducible refine Ch.alloc ?_ _))).size cC.out.1;have ls:mb<ad.heap.size:=c0.out.lt;have Y:Ch (aK mb) av ((((av.setCell ⟨mb,3,none⟩ (.slice (some ⟨S,0,none⟩) cS cW)).setCell ⟨mb,4,none⟩ (.int .i64 en)).setCell ⟨mb,5,none⟩ (.int .i64 o)).setCell ⟨mb,6,none⟩ (.int .i64 A)):=((((Ch.refl _ _).only _ _).only _ _).only _ _).only _ _;refine⟨S,cW,((((c0.out.ch t.out (fun h=>h)).tP (i:=3) (by omega) _).tP (i:=4) (by omega) _).tP (i:=5) (by omega) _).tP (i:=6) (by omega) _,⟨⟨it,?_⟩,?_,eL⟩,t.out.af.trans Y⟩
     ·exact hv.out.ch Y (fun e=>by have:S=mb:=e;omega)
     ·have:=cC.out.2;omega
   case rest=>
    obtain⟨lp,hF,qm,io,pl⟩:=hcut;obtain⟨gJ,sO⟩:=nm wc;rw[sO]at qm io pl⊢;have rz:=Z qm;have uk:=Z io;have hn:=Z pl;clear qm io pl sO r2 r4 v2 r5;obtain⟨pre,qT⟩:=nm ([Value.slice (some ⟨hw,0,none⟩) ap gb,.int .i64 loop,.slice (some ⟨hB,0,none⟩) G gc,.slice (some ⟨lp,0,none⟩) cS hF,.int .i64 en,.int .i64 o,.int .i64 A]);have og:=Z qT;have n2:Hid (Ch (aK mb) a gJ):=Z (eA.out.trans hn.out);have cA:=Z hm;have uQ:=Z ((c6.out.ch E.out (fun h=>h)).ch n2.out (hm _ (by omega)));have lv:=rz.out;have lv:NM gJ mb pre (List.replicate 1000 0) [.pointer none,.pointer none,bf c7,.pointer none,.pointer none,.pointer none,.pointer none,.map (some c4),.slice (some ⟨z,0,none⟩) n n,.int .i64 0,.int .i64 0,.int .i64 0,.int .u64 0,.slice none 0 0]:=(by rw[<-qT];exact rz.out);obtain⟨post,qS⟩:=nm ([.pointer none,.pointer none,bf c7,.pointer none,.pointer none,.pointer none,.pointer none,.map (some c4),.slice (some ⟨z,0,none⟩) n n,.int .i64 0,.int .i64 0,.int .i64 0,.int .u64 0,.slice none 0 0]);rw[qS]at lv;have cd:=Z qS;have tU:=Z lv;have v2:=uQ.out.k 2 rfl;have wQ:(G:Int)<=100000:=(by have:=B2.out;omega);clear lv qT qS hm;go_wp2_with fail
    go_loopg [99] (G+1) (fun p4 i wr=>∃k:Nat,k<=G/\p4=G-k+1/\i=.int .i64 k/\Hid (NM wr mb pre (fC calls k) post)/\Hid (Ch (aK mb) gJ wr))
    case atStart=>exact⟨0,by omega,by omega,rfl,tU,Z (Ch.refl _ _)⟩
    case round=>
     obtain⟨k,vB,rfl,rfl,fT,kf⟩:=hrel;by_cases e1:k<G
     ·obtain⟨gk,O,mA,wX,mC⟩:∃gk O,c1=some ⟨gk,0,none⟩/\gk<w.heap.size/\Row w1 gk 158 (calls.flatMap br.cells++O):=by
       rcases ni.out with⟨gk,O,f,_,V,c8⟩|⟨_,h,_⟩
       ·exact⟨gk,O,f,V,c8⟩
       ·rw[cb.out,h]at e1;exact absurd e1 (Nat.not_lt_zero _)
      subst mA;have tL:Hid (Row gJ gk 158 (calls.flatMap br.cells++O)):=Z ((mC.ch E.out (fun h=>h)).ch n2.out (cA.out _ (by omega)));obtain⟨X,ih⟩:∃X,calls[k]?=some X:=⟨_,List.getElem?_eq_getElem (by rw[<-cb.out];exact e1)⟩;have wD:=Z ih;have gs:Hid (Row wr gk 158 (calls.flatMap br.cells++O)):=Z (tL.out.ch kf.out (cA.out _ (by omega)));have eO:∀j v,j<6->X.cells[j]?=some v->wr.cell? ⟨gk,k*6+j,none⟩=some v:=fun j v hj vV=>gs.out.cell (by
       rw[List.getElem?_append_left (by
        rw[kR,<-cb.out];have:(k+1)*6<=G*6:=Nat.mul_le_mul_right _ e1;omega)]
       exact(bP br.len ih hj).trans vV)
      have qr:=tY.out X (List.mem_of_getElem? ih);have s8:fC calls (k+1)=(fC calls k).set X.num.toNat ((k:Int)+1):=by
       rw[fC,List.getD_eq_getElem?_getD,ih];rfl
      obtain⟨num,at_,k0,k1,k2,k3⟩:=X;obtain⟨m,rfl⟩:∃m:Nat,num=m:=⟨num.toNat,by have:=qr.1;dsimp only at this;omega⟩;have sC:m<1000:=(by have:=qr.2;dsimp only at this;omega);have x3:(m:Int)<1000:=(by omega);have x2:(0:Int)<=m:=(by omega);have tA:=Z s8;have rU:=eO 0 _ (by omega) rfl;have v1:=eO 1 _ (by omega) rfl;have v3:=eO 2 _ (by omega) rfl;have v4:=eO 3 _ (by omega) rfl;have v5:=eO 4 _ (by omega) rfl;have v6:=eO 5 _ (by omega) rfl;rw[Nat.add_zero]at rU;obtain⟨qZ,hold⟩:∃qZ,(fC calls k)[m]?=some qZ:=⟨_,List.getElem?_eq_getElem (by rw[fT.out.n2];exact sC)⟩;have ch:=fT.out.rc hold;have vd:=fT.out.fz (7+m);have wY:(k:Int)<G:=(by omega);have eS:=gs.out.lt;have es:=fT.out.lt;clear eO ih qr s8 hold;go_wp2_with fail
      obtain⟨k5,gt⟩:=nm (wr.alloc (.cells #[.int .i64 m,.int .i64 at_,.int .i64 k0,.int .i64 k1,.int .i64 k2,.int .i64 k3] 158));obtain⟨wm,qW⟩:=nm wr.heap.size;have uo:Hid (Row k5 wm 158 [.int .i64 m,.int .i64 at_,.int .i64 k0,.int .i64 k1,.int .i64 k2,.int .i64 k3]):=Z (by rw[<-gt,<-qW];exact Row.new _ _ _);have rD:Hid (NM k5 mb pre (fC calls k) post):=Z (by rw[<-gt];exact fT.out.alloc _);have ti:Hid (Ch (aK mb) gJ k5):=Z (by rw[<-gt];exact kf.out.alloc _);have x0:=uo.out.c1;have wF:k5.cell? ⟨mb,7+m,none⟩=some (.int .i64 qZ):=(by rw[<-gt,World.cell?_alloc_past _ _ _ es];exact ch);have wJ:=rD.out.fz (7+m);rw[gt,qW];clear gt qW eS es rU v1 v3 v4 v5 v6 ch vd;refine wp_region_still_tail 8 (by kernel_rfl) (by kernel_rfl) ?_;simp only[List.take_succ_cons,List.take_zero,List.drop_succ_cons,List.drop_zero]
      repeat still_step
      try refine wpStill_nil ?_
      change wpList _ _ _ _ _ k5.drew;go_wp2_with fail
      go_roundg (G-k)
      case measure=>omega
      case rel=>exact⟨k+1,by omega,by omega,by go_num,Z (by rw[tA.out];exact rD.out.drew.au sC _),Z (ti.out.drew.only _ _)⟩
     ·have vB:¬(k:Int)<G:=by omega
      have vP:k=G:=(by omega);subst vP;have vW:∃I,I=wr:=⟨_,rfl⟩;obtain⟨I,rfl⟩:=vW;have ex:Hid (Ch (aK mb) a I):=Z (n2.out.trans kf.out);have uP:=Z ((lo.out.ch E.out (fun h=>h)).ch ex.out (cA.out _ (by omega)));have i0:¬aK mb w.heap.size:=cA.out _ (by omega);have wH:mb≠w.heap.size:=(fun e=>i0 e.symm);have wI:w.heap.size≠mb:=(fun e=>i0 e);go_wp2_with (first
       |(go_at_call 63;refine(sg _).mono ?_;rintro e fn ⟨rfl,se,mk⟩;have rE:=Z se;have rc:=Z mk;have vr:=Z mk;have nw:=Z (fT.out.ch mk (fun h=>h));have w7:=nw.out.qc (j:=3) (by rw[<-cd.out];rfl);have wh:=nw.out.fz 1010;clear se mk)
       |(go_at_call 64;refine(oJ _).mono ?_;rintro e bv ⟨qb,gC,fd,rfl,sd,dr,dC,dN,md⟩;have ug:=Z sd;have tr:=Z (And.intro dr (And.intro dC dN));have wx:=Z md;have kw:Hid (Ch (aK mb) fn bv):=Z ((((Ch.refl _ _).only _ _)).trans md.af);have nq:=Z ((nw.out.jZ 3 (bf (I.heap.size+1))).ch md (fun h=>h));have w8:=nq.out.qc (j:=4) (by rw[<-cd.out];rfl);have wa:=nq.out.fz 1011;clear sd md dr dC dN)
       |(go_at_call 65;refine(qx _).mono ?_;rintro e R ⟨rfl,sj,mp⟩;have um:=Z sj;have wC:=Z mp;have hi:Hid (Ch (aK mb) bv R):=Z ((((Ch.refl _ _).only _ _)).trans mp.af);have nx:=Z ((nq.out.jZ 4 (bf qb)).ch mp (fun h=>h));have wb:=nx.out.qc (j:=5) (by rw[<-cd.out];rfl);have wd:=nx.out.fz 1012;clear sj mp)
       |(go_at_call 66;refine(nX _).mono ?_;rintro e kb ⟨rfl,sc,mc⟩;have t':=Z sc;have ww:=Z mc;have fE:Hid (Ch (aK mb) R kb):=Z ((((Ch.refl _ _).only _ _)).trans mc.af);have no:=Z ((nx.out.jZ 5 (bf _)).ch mc (fun h=>h));have we:=no.out.qc (j:=6) (by rw[<-cd.out];rfl);have wg:=no.out.fz 1013;have w6:=((((uP.out.ch vr.out (fun h=>h)).ch kw.out i0).ch hi.out i0).ch fE.out i0).cell (i:=1) rfl;clear sc mc)
       |fail)
      obtain⟨r6,n0⟩:=nm (kb.setCell ⟨mb,1013,none⟩ (.pointer (some ⟨R.heap.size+1,0,none⟩)));have hq:=no.out.jZ 6 (bf (R.heap.size+1));rw[show kb.setCell ⟨mb,1007+6,none⟩ (bf (R.heap.size+1))=r6 from n0]at hq;have fz:Hid (Ch (aK mb) kb r6):=Z (by rw[<-n0];exact(Ch.refl _ _).only _ _);obtain⟨tc,qP⟩:∃q,(((post.set 3 (bf (I.heap.size+1))).set 4 (bf qb)).set 5 (bf (bv.heap.size+1))).set 6 (bf (R.heap.size+1))=q:=⟨_,rfl⟩;rw[qP]at hq;have hr:=Z qP;have hq:=Z hq;have rl:=zw mb pre (fC calls k) tc z n o A tt r6 hq.out ⟨by rw[<-hr.out,<-cd.out];rfl,by rw[<-og.out];rfl,by rw[<-og.out];rfl,eC.out.1,eC.out.2,by omega,li.out.2.1,by omega,li.out.2.2.2⟩ (by rw[<-hr.out,<-cd.out];simp) ok.out.1 ok.out.2 (by have:=hu.out;omega);rw[n0];clear n0 qP w7 wh w8 wa wb wd we wg w6
      (with_reducible refine rl.mono ?_)
      clear rl;rintro e cl ⟨rfl,m,c,d,g4,s9,sD,sk,dr,dC,dN,i5,st⟩;have rq:=Z s9;have tV:=Z sD;have tw:=Z sk;have tm:=Z (And.intro dr (And.intro dC (And.intro dN i5)));have fr:=Z st;clear s9 sD sk dr dC dN i5 st;have l0:Hid (Ch (aK mb) I cl):=Z (((((rc.out.af.trans kw.out).trans hi.out).trans fE.out).trans fz.out).trans fr.out);have rR:=Z (((c6.out.ch E.out (fun h=>h)).ch ex.out (cA.out _ (by omega))).ch l0.out (cA.out _ (by omega)));have x1:=rR.out.k 1 rfl;have xy:=rq.out.qc (j:=8) (v:=.slice (some ⟨z,0,none⟩) n n) (by rw[<-hr.out,<-cd.out];rfl);have ct:Hid (Ch (aK mb) w4 a):=Z rb.out.af;have s1:z≠mb:=Row.ne ce.out c5.out.row (by decide);have un:Hid (Row cl z 120 ((qH n loop 0).flatMap fun x=>x.cells (.slice none 0 0))):=Z (ce.out.ch ((ct.out.trans ex.out).trans l0.out) (fun e=>s1 e));go_wp2_with fail
      go_loopg [150] (n+1) (fun p4 i wr=>∃q:Nat,q<=n/\p4=n-q+1/\i=.int .i64 q/\Hid (Row wr z 120 ((qH n loop q).flatMap fun x=>x.cells (.slice none 0 0)))/\Hid (Ch (aK z) cl wr))
      case atStart=>exact⟨0,by omega,by omega,rfl,un,Z (Ch.refl _ _)⟩
      case round=>
       obtain⟨q,x7,rfl,rfl,ll,M⟩:=hrel;have xC:=(rR.out.ch M.out (fun e=>by have f:w.heap.size+1=z:=e;have V:=g2.out.2.2.1;have c8:=Nat.lt_of_lt_of_le c6.out.lt c9.out.size;omega)).cell (i:=1) rfl;have rt:=Z (rq.out.ch M.out (fun e=>s1 e.symm));have xG:=rt.out.qc (j:=8) (v:=.slice (some ⟨z,0,none⟩) n n) (by rw[<-hr.out,<-cd.out];rfl);by_cases e1:q<n
       ·have vS:(q:Int)<n:=by omega
        have mL:=oi n loop q q e1;rw[if_neg (by omega)]at mL;have wG:wr.cell? ⟨z,q*38+4,none⟩=some (.int .i64 0):=ll.out.at (fun x=>ak.len (x,_)) mL (by omega) rfl;have wK:=ll.out.free (q*38+4);have uh:=Z mL;clear mL;go_wp2_with fail
        refine wp_region_still_tail 10 (by kernel_rfl) (by kernel_rfl) ?_;simp only[List.take_succ_cons,List.take_zero,List.drop_succ_cons,List.drop_zero]
        repeat still_step
        try refine wpStill_nil ?_
        change wpList _ _ _ _ _ wr.drew;go_wp2_with fail
        go_roundg (n-q)
        case measure=>omega
        case rel=>
         exact⟨q+1,by omega,by omega,by go_num,Z (ll.out.drew.put (fun x=>ak.len (x,_)) uh.out (by omega) rfl),Z (M.out.drew.only _ _)⟩
       ·have vS:¬(q:Int)<n:=by omega
        have vT:q=n:=(by omega);subst vT;have ro:Hid (mb<I.heap.size/\z<I.heap.size):=Z ⟨Nat.lt_of_lt_of_le c5.out.lt (Nat.le_trans ct.out.size ex.out.size),Nat.lt_of_lt_of_le ce.out.lt (Nat.le_trans ct.out.size ex.out.size)⟩;have ra:Hid (Ch (aK mb) w4 cl):=Z ((ct.out.trans ex.out).trans l0.out);have d1:c7≠mb:=Row.ne bw.out.head c5.out.row (by decide);have d2:ge≠mb:=Row.ne bw.out.heap.head c5.out.row (by decide);have d3:mb≠ch:=fU c5.out.row bw.out.heap.map;have d4:mb≠gf:=fU c5.out.row bw.out.ff;have d5:mb≠c4:=fU c5.out.row le.out;have eL:c7≠z:=Row.ne bw.out.head ce.out (by decide);have i3:ge≠z:=Row.ne bw.out.heap.head ce.out (by decide);have i4:z≠ch:=fU ce.out bw.out.heap.map;have ls:z≠gf:=fU ce.out bw.out.ff;have va:z≠c4:=fU ce.out le.out;have ut:Hid (aX wr c7 ge ch gf (.slice none 0 0) aN.new):=Z ((bw.out.ch ra.out d1 d2 (fun e=>d3 e.symm) (fun e=>d4 e.symm) (fun g N=>by cases N)).ch M.out eL i3 (fun e=>i4 e.symm) (fun e=>ls e.symm) (fun g N=>by cases N));have uJ:Hid (bH (α:=Nat) wr c4 .u64 bf []):=Z ((le.out.ch ra.out (fun e=>d5 e.symm)).ch M.out (fun e=>va e.symm));have J:∀x,I.heap.size<=x->¬aK mb x/\¬aK z x:=(fun x gA=>⟨fun e=>by have f:x=mb:=e;have:=ro.out.1;omega,fun e=>by have f:x=z:=e;have:=ro.out.2;omega⟩);have xH:=rc.out.size;have y3:=kw.out.size;have y0:=hi.out.size;have y6:=fE.out.size;have xM:=fz.out.size;have x':=fr.out.size;have tj:Hid (Ch (aK mb) fn cl):=Z ((((kw.out.trans hi.out).trans fE.out).trans fz.out).trans fr.out);have th:Hid (Ch (aK mb) bv cl):=Z (((hi.out.trans fE.out).trans fz.out).trans fr.out);have tl:Hid (Ch (aK mb) R cl):=Z ((fE.out.trans fz.out).trans fr.out);have tg:Hid (Ch (aK mb) kb cl):=Z (fz.out.trans fr.out);have uC:Hid (eH wr (I.heap.size+1) I.heap.size []):=Z ((rE.out.ch tj.out (J _ (by omega)).1 (J _ (by omega)).1).ch M.out (J _ (by omega)).2 (J _ (by omega)).2);have ve:=tr.out;have td:∀x,fn.heap.size<=x->¬aK mb x/\¬aK z x:=(fun x gA=>J x (by omega));have p3:fn.heap.size<=qb/\fn.heap.size<=gC/\fn.heap.size<=fd:=(by simpa using ve);have uz:Hid (ig wr qb gC fd (List.replicate 8 [])):=Z (by
         have sl:∀i,QD qb gC fd (List.replicate 8 []) i->fn.heap.size<=i:=fun i H=>by
          rcases H with rfl|rfl|rfl|⟨s,vU,_⟩
          ·exact p3.1
          ·exact p3.2.1
          ·exact p3.2.2
          ·have:s∈(List.replicate 8 ([]:List Sl)).flatten:=vU
           simp at this
         exact(ug.out.ch th.out (fun i H=>(td i (sl i H)).1)).ch M.out (fun i H=>(td i (sl i H)).2))
        have uD:=Z ((um.out.ch tl.out (J _ (by simp;omega)).1 (J _ (by simp;omega)).1).ch M.out (J _ (by simp;omega)).2 (J _ (by simp;omega)).2);have uv:=Z ((t'.out.ch tg.out (J _ (by simp;omega)).1 (J _ (by simp;omega)).1).ch M.out (J _ (by simp;omega)).2 (J _ (by simp;omega)).2);have wO:=tm.out;have uu:=Z (tV.out.ch M.out (J _ (by omega)).2 (J _ (by omega)).2 (J _ (by omega)).2);have up:=Z (tw.out.ch M.out (J _ (by omega)).2 (fun g N=>by cases N));have hf:Hid (Ch (aK mb) gJ cl):=Z (kf.out.trans l0.out);have yc:z<a.heap.size/\mb<a.heap.size:=⟨Nat.lt_of_lt_of_le ce.out.lt ct.out.size,Nat.lt_of_lt_of_le c5.out.lt ct.out.size⟩;have xF:=eA.out.size;have eS:=ui.out;have es:=uj.out;have io:=uk.out;obtain⟨⟨xg,su⟩,vt,p8⟩:=eS;obtain⟨⟨xi,sv⟩,vu,pa⟩:=es;obtain⟨⟨xj,sz⟩,vA,wU⟩:=io;have cL:∀x,a.heap.size<=x->¬aK mb x/\¬aK z x:=(fun x gA=>⟨fun e=>by have f:x=mb:=e;omega,fun e=>by have f:x=z:=e;omega⟩);have uq:=Z (((su.ch hn.out (cL _ p8).1).ch hf.out (cL _ p8).1).ch M.out (cL _ p8).2);have ur:=Z (((sv.ch hn.out (cL _ pa).1).ch hf.out (cL _ pa).1).ch M.out (cL _ pa).2);have us:=Z ((sz.ch hf.out (cL _ (by omega)).1).ch M.out (cL _ (by omega)).2);obtain⟨C0,W⟩:=nm (ue l loop calls p en o A);have uK:Hid (Row wr z 120 ((List.replicate q (ak.new C0.loop)).flatMap fun x=>x.cells (.slice none 0 0))):=Z (by
         have:=ll.out;rw[zQ]at this;rw[<-W];exact this)
        have s2:pre=ku C0 (lH mb m c d g4 c7 ge ch gf (I.heap.size+1) I.heap.size qb gC fd (bv.heap.size+1) bv.heap.size (R.heap.size+1) R.heap.size c4 z hw gb hB gc lp hF):=(by rw[<-og.out,<-W,nC.out,cb.out,ob.out];rfl);have s3:(tc.set 0 (bf m)).set 1 (bf g4)=g0 (lH mb m c d g4 c7 ge ch gf (I.heap.size+1) I.heap.size qb gC fd (bv.heap.size+1) bv.heap.size (R.heap.size+1) R.heap.size c4 z hw gb hB gc lp hF) (.slice none 0 0) q 0 0 0 0:=(by rw[<-hr.out,<-cd.out];rfl);have s4:fC calls k=C0.rows:=(by rw[<-W,cb.out];rfl);have on:=rt.out;rw[s2,s3,s4]at on;have ow:C0.wide.toNat=o:=(by rw[<-W];exact Int.toNat_natCast o);have ov:C0.narrow.toNat=A:=(by rw[<-W];exact Int.toNat_natCast A);have rH:aO wr m c d (j2 C0 q tt).mem:=(by show aO wr m c d (fQ tt q C0.wide.toNat C0.narrow.toNat);rw[ow,ov];exact uu.out);have rG:aR wr g4 m (.slice none 0 0) (j2 C0 q tt).blocks:=(by show aR wr g4 m (.slice none 0 0) ⟨17+8*q+C0.wide.toNat+C0.narrow.toNat,tt,[]⟩;rw[ow,ov];exact up.out);have xJ:w.heap.size<=ab.heap.size:=Nat.le_trans cq.out.size c9.out.size;have xD:ab.heap.size<=a.heap.size:=Nat.le_trans tx.out.size ct.out.size;have z59:=ex.out.size;have wP:=g2.out;have xk:=bw.out.heap.map.lt;have xl:=bw.out.ff.lt;have xn:=le.out.lt;have xE:=ct.out.size;have xm:=rE.out.A0;have rJ:aU wr (bv.heap.size+1) bv.heap.size (List.replicate 64 aD.zero):=(by have h:=uD.out;rw[World.size_setCell]at h;exact h);have rI:bL wr (R.heap.size+1) R.heap.size (List.replicate 64 bC.zero):=(by have h:=uv.out;rw[World.size_setCell]at h;exact h);have rP:=tT (B:=w.heap.size) (C:=C0) (n:=q) (tt:=tt) eC.out.2 on rH rG ut.out uC.out uz.out rJ rI uJ.out uK.out (by rw[<-W];exact uq.out) (by rw[<-W];exact ur.out) (by rw[<-W];exact us.out)
         (by rw[<-W];show l.length<=gb;rw[<-nC.out];exact vt) (by rw[<-W];show calls.length<=gc;rw[<-cb.out];exact vu) (by rw[<-W];show p.length<=hF;rw[<-ob.out];exact vA)
         (by omega) (fun e=>rx.out.1 e.symm) (fun e=>rx.out.2 e.symm) (by omega) (by omega) (by omega) (by omega) (by omega) (by omega) (by omega) (by omega) (by omega)
        have lc:=Z rP;have nd:=Z W;have i6:=vp C0 q tt eC.out.1 eC.out.2 ok.out.2 (by rw[ow,ov];have:=hu.out;omega);obtain⟨te,n1⟩:∃χ,hD wr w.heap.size I.heap.size c4 fd=χ:=⟨_,rfl⟩;rw[n1]at lc;have rF:Hid (∀i,te i≠ .no->w.heap.size<=i):=Z (fun i H=>by rw[<-n1]at H;exact(pn H).1);have tZ:Hid (g5 te):=Z (fun i=>by rw[<-n1];exact tR i);obtain⟨rK,p6⟩:∃L,(lH mb m c d g4 c7 ge ch gf (I.heap.size+1) I.heap.size qb gC fd (bv.heap.size+1) bv.heap.size (R.heap.size+1) R.heap.size c4 z hw gb hB gc lp hF)=L:=⟨_,rfl⟩;rw[p6]at lc;have q8:rK.mb=mb:=(by rw[<-p6];rfl);obtain⟨lm,p5⟩:∃K,j2 C0 q tt=K:=⟨_,rfl⟩;rw[p5]at lc i6;have tK:=Z p5;have so:=i6.bB.ok (by omega);have sp:=(mJ i6.bB i6.mem 1).1.ok (by omega);have pp:=i6.fresh (by omega);have ri:=Z (uc en 0 so sp pp lc.out);have tJ:=Z (kC (K:=lm) en 0 pp);rw[q8]at ri;have rp:=Z q8;have rd:Hid (Ch ag w wr):=Z (((cq.out.trans E.out).fresh ((eA.out.trans hn.out).trans hf.out) (fun x gA e=>(cA.out x (by omega)) e)).fresh M.out (fun x gA e=>by have f:x=z:=e;omega));have xB:=(((T2.out.ch E.out (fun h=>h)).ch ((eA.out.trans hn.out).trans hf.out) (cA.out _ (by omega))).ch M.out (fun e=>by have f:w.heap.size+2=z:=e;have c8:=Nat.lt_of_lt_of_le T2.out.lt c9.out.size;omega)).cell (i:=1) rfl;clear s2 s3 s4 on rH rG rJ rI rP n1 p6 p5 so sp pp q8 W su sv sz;go_wp2_with fail
        (with_reducible refine ri.out.mono ?_)
        rintro e bi ⟨rfl,yd,wE,f,ta⟩;have uN:=Z (ta tZ.out);clear ta;have rg:=Z f;have s0:=f.at_.nr;rw[rp.out]at s0;clear f;go_wp2_with fail
        (with_reducible refine(xp _ rg.out.at_).mono ?_)
        rintro e xA ⟨⟨v,rfl,_⟩,wu,uU,V,tb⟩;have uO:=Z (tb uN.out);clear tb;have rh:=Z (rg.out.trans tJ.out V);clear V s0;go_wp2_with fail
        go_ret2;have s':=rh.out.nx;refine Or.inl ⟨hu.out,wu,rK,uU,by rw[rp.out];rfl,?_,?_,uO.out,?_⟩
        ·have v9:hC (ue l loop calls p en o A) q tt={(bF lm en 0).2 with ring:=(g6 (bF lm en 0).2.ring (bF lm en 0).1).2}:=by rw[nd.out,<-tK.out];unfold hC;rw[show C0.entry=en by rw[<-nd.out];rfl]
         rw[v9,nd.out];exact rh.out.at_
        ·intro i H
         rcases Nat.lt_or_ge i wr.heap.size with h|h
         ·exact rF.out i (by rw[<-s'.same i h];exact H)
         ·exact Nat.le_trans rd.out.size h
        ·exact rd.out.fresh s'.ch (fun x gA q9=>by have:=rF.out x q9;omega)
theorem Inv.BF{N M:Nat}{K:KS}(h:Inv N M K)(id:Int)(b:id≠0->(aw K.ai id).isSome=true/\ea K.wk K.ring id=0/\st K.table id≠3):Inv N M {K with ring:=(g6 K.ring id).2}:=by
 refine⟨?_,h.nd,h.q,h.bW,h.bB,h.mem,h.obj,h.draw,h.w0,h.w1,h.out⟩;have c:=h.core;refine c.fO id c.tab (fun _ _=>rfl) (fun _ _=>rfl) (fun j hj _=>⟨Nat.le_refl _,?_⟩) c.wk (fun r i f=>c.al id r i f) (fun t k=>c.ai id t k) (fun a=> ?_) (fun a _=>⟨(b a).1,(b a).2.2⟩) (fun a g=> ?_)
 ·show ea K.wk (g6 K.ring id).2 j<=ea K.wk K.ring j
  unfold ea;rw[(gh K.ring id j).2 hj];exact Nat.le_refl _
 ·show ea K.wk (g6 K.ring id).2 id<=1
  have d:=(b a).2.1;have e:=(gh K.ring id id).1;rw[if_pos rfl]at e;unfold ea at d⊢;omega
 ·have d:=(b a).2.1
  have e:0<hz K.wk id:=g;unfold ea at d;omega
theorem xq(home:Int):db (List.replicate 64 aD.zero) home=(some 64,(List.replicate 64 aD.zero).set 0 ⟨1,true,aD.zero.bE,⟨64,1,home,0,0,false,false⟩⟩):=by rfl
theorem Dm(home:Int):st ((List.replicate 64 aD.zero).set 0 ⟨1,true,aD.zero.bE,⟨64,1,home,0,0,false,false⟩⟩) 64=1:=by rfl
theorem sy(C:KC)(n tt:Nat)(g:1<=n)(h:n<=64)(j:tt<=65536)(i:17+8*n+C.wide.toNat+C.narrow.toNat<=tt):Inv 1 0 (hC C n tt):=by
 have f:=vp C n tt g h j i;obtain⟨d,_,e⟩:=f.born (by omega) C.entry 0 bx;unfold hC;dsimp only;refine d.BF _ (fun c=> ?_);obtain⟨t,l,o⟩:=e c;refine⟨by rw[l];rfl,o,?_⟩;generalize a:bF (j2 C n tt) C.entry 0=x at c⊢;unfold bF at a
 revert a
 cases c' (j2 C n tt).blocks (j2 C n tt).mem 1 with
 |mk k p=>
  obtain⟨b,m⟩:=p;cases k with
  |none=>intro a;subst a;exact absurd rfl c
  |some q=>
   dsimp only;rw[show(j2 C n tt).table=List.replicate 64 aD.zero from rfl,xq];intro a;subst a;dsimp only;rw[Dm];decide
theorem pA(l:List br):∀k,∀r∈fC l k,0<=r/\r<=k
 |0,r,a=>by
  rw[(List.mem_replicate.1 a).2];exact⟨Int.le_refl _,Int.le_refl _⟩
 |k+1,r,a=>by
  rw[fC]at a;rcases List.mem_or_eq_of_mem_set a with h|h
  ·have:=pA l k r h;omega
  ·rw[h];omega
theorem oj(l:List br):∀k,(fC l k).length=1000
 |0=>List.length_replicate
 |k+1=>by rw[fC,List.length_set];exact oj l k
theorem om{n:Int}{b:Bool}:∀{l:List aV} {i:Nat},gE n b l i=none->∀x∈l,ep x n b=true
 |[],_,_=>fun x a=>by cases a
 |y::l,i,h=>fun x a=>by
  unfold gE at h;split at h
  ·rename_i d
   rcases List.mem_cons.1 a with rfl|c
   ·exact d
   ·exact om h x c
  ·cases h
theorem xr{l:List aV}{a:Bool}(h:ja l a=true):∀x∈l,ep x l.length a=true:=by
 unfold ja at h;rw[Bool.and_eq_true]at h;exact om (Option.isNone_iff_eq_none.1 h.2)
theorem vq{l:List aV}{loop:Int}{calls:List br}{p:List aV}{en c b:Int}(d:e2 l loop calls=true)(a:ei p en c b=true)(f:calls.length<=2048)
 (u1:∀x∈l,aH x.v) (u2:∀x∈p,aH x.v):oC (ue l loop calls p en c b) where
 ll:=(hU d).2
 pl:=(jB a).2
 cl:=f
 lv:=u1
 pv:=u2
 D4:=by
  have e:ja p false=true:=by
   unfold ei at a;simp only[Bool.and_eq_true]at a;exact a.1.2
  exact xr e
 bw:=by have:=qI a;exact this
 CT:=oj calls _
 rows:=pA calls _
theorem ae.zS{w w':World}{χ:Nat->a4}{L:cw}{Y:Var}{C:KC}{K:KS}{D:Nat->Prop}(h:ae w χ L Y C K)(c:Ch D w w')(e:∀i,i<w.heap.size->D i->χ i=.no):ae w' χ L Y C K:=by
 have s:eI [.no] χ χ D w w':=⟨c,fun i a f=>by rw[e i a f];simp,fun _ _=>rfl,fun i a=>Nat.lt_of_lt_of_le (h.small i a) c.size⟩;have b:=h.step s (by simp);exact {
  head:=fun _=>b.head (by simp)
  mem:=fun _=>b.mem (by simp)
  al:=fun _=>b.al (by simp)
  bW:=fun _=>b.bW (by simp)
  ring:=fun _=>b.ring (by simp)
  q:=fun _=>b.q (by simp)
  tab:=fun _=>b.tab (by simp)
  obj:=fun _=>b.obj (by simp)
  tm:=fun _=>b.tm (by simp)
  th:=fun j u hj _=>b.th j u hj (by simp)
  tl:=fun j u hj _=>b.tl j u hj (by simp)
  fr:=fun j u k d hj g _=>b.fr j u k d hj g (by simp)
  wk:=fun _=>b.wk (by simp)
  out:=fun _=>b.out (by simp)
  code:=fun _=>b.code (by simp)
  small:=b.small}
def MS(w:World)(χ:Nat->a4)(mb:Nat)(C:KC)(K:KS):Prop:=∃L Y,L.mb=mb/\ae w χ L Y C K/\∀i,χ i≠ .out
theorem MS.zS{w w':World}{χ:Nat->a4}{mb:Nat}{C:KC}{K:KS}{D:Nat->Prop}(h:MS w χ mb C K)(c:Ch D w w')(e:∀i,i<w.heap.size->D i->χ i=.no):MS w' χ mb C K:=by
 obtain⟨L,Y,a,b,d⟩:=h;exact⟨L,Y,a,b.zS c e,d⟩
theorem MS.af{w w':World}{χ:Nat->a4}{mb:Nat}{C:KC}{K:KS}(h:MS w χ mb C K)(c:Ch ag w w'):MS w' χ mb C K:=h.zS c (fun _ _ e=>False.elim e)
theorem MS.small{w:World}{χ:Nat->a4}{mb:Nat}{C:KC}{K:KS}(h:MS w χ mb C K):∀i,χ i≠ .no->i<w.heap.size:=by
 obtain⟨L,Y,b,a,c⟩:=h;exact a.small
def Fo(x:List Ev×KS)(χ:Nat->a4)(mb:Nat)(C:KC)(w:World)(e:Ending)(w':World):Prop:=
 ∃v aW,e=.returned v/\w'.ownsRow w.heap.size 82 11 v x.1.length (x.1.flatMap Ev.cells)/\(∀g,v.ownBlock=some g->aW g=.no)/\MS w' aW mb C x.2/\Nx χ aW w w'
theorem mO{B:Nat}{χ aW:Nat->a4}{w w':World}(c:∀i,χ i≠ .no->B<=i)(h:Nx χ aW w w')(d:B<=w.heap.size):∀i,aW i≠ .no->B<=i:=fun i b=>by
 rcases Nat.lt_or_ge i w.heap.size with a|a
 ·rw[h.same i a]at b;exact c i b
 ·omega
theorem jl{χ aW:Nat->a4}{a w w':World}(d:∀i,χ i≠ .no->a.heap.size<=i)(h:Nx χ aW w w')(c:Ch ag a w):Ch ag a w':=c.fresh h.ch (fun i e b=>by have:=d i b;omega)
def Dn(C:KC)(n tt:Nat)(w:World)(e:Ending)(w':World):Prop:=
 ∃mb χ,e=.returned (.tuple #[.pointer (some ⟨mb,0,none⟩),.nilIface])/\MS w' χ mb C (hC C n tt)/\(∀i,χ i≠ .no->w.heap.size<=i)/\Ch ag w w'
theorem hV{w:World}{g:Nat}{l:List aV}{b:List Value}(h:Row w g 184 (l.flatMap dg++b)):eE w g l:=
 ⟨h.lt,fun j u hj=>h.cell (by
  have a:j<(l.flatMap dg).length:=(List.getElem?_eq_some_iff.1 hj).1;rw[List.getElem?_append_left a];exact hj)⟩
theorem Ng(n tt:Nat)(z:1<=n/\n<=64)(A:1<=tt/\tt<=65536)(l:List aV)(loop:Int)(p:List aV)(en:Int)(b a:Nat)
 (c:e2 l loop []=true) (d:ei p en b a=true) (F:17+8*n+b+a+1<=tt) (f g:Value) {i j:Nat} (w:World)
 (r:w.ownsRow i 184 7 f l.length (l.flatMap dg)) (s:w.ownsRow j 184 7 g p.length (p.flatMap dg))
 (y:w.cell? ⟨0,0,none⟩=some (.iface 390 (.agg #[.pointer (some ⟨4,85,none⟩)]))):
 Calls prog 34 #[.agg #[.int .i64 n,.int .i64 tt],.agg #[f,.int .i64 loop,.slice none 0 0],.agg #[g,.int .i64 en,.int .i64 b,.int .i64 a]] w (Dn (ue l loop [] p en b a) n tt w):=by
 obtain⟨o,k,G,rfl,_,B,_,D,_⟩:=aS r (hU c).1;obtain⟨q,m,H,rfl,_,C,_,E,_⟩:=aS s (jB d).1;refine(zR n tt z A l o k loop [] none 0 p q m en b a B (Nat.le_refl _) C (Nat.zero_le _) w (hV D) (hV E) (Or.inr ⟨rfl,rfl,rfl⟩) c d y).mono ?_;rintro e w' (⟨_,χ,L,Y,rfl,t,u,v,x⟩|⟨h,_⟩)
 rotate_left
 ·omega
 exact⟨L.mb,χ,rfl,⟨L,Y,rfl,t,v⟩,u,x⟩
def uf(l:List aV):Bool:=l.all fun x=>decide (0<=x.v)&&decide (x.v<18446744073709551616)
structure oo where
 num:Int
 name:ByteArray
 zW:ByteArray
 oq:Int
 k0:Int
 k1:Int
 k2:Int
 k3:Int
def pC(r:oo):List Value:=[.int .i64 r.num,.string r.name,.string r.zW,.int .i64 r.oq,.int .i64 r.k0,.int .i64 r.k1,.int .i64 r.k2,.int .i64 r.k3]
theorem xv(r:oo):(pC r).length=8:=rfl
def dA:List oo:=[⟨1,⟨#[99,114,101,97,116,101]⟩,⟨#[99,98,111,114,110]⟩,17,0,0,0,0⟩,
 ⟨2,⟨#[101,120,105,116]⟩,⟨#[99,101,120,105,116]⟩,17,0,0,0,0⟩,
 ⟨3,⟨#[106,111,105,110]⟩,⟨#[99,106,111,105,110]⟩,17,0,0,0,0⟩,
 ⟨4,⟨#[100,101,116,97,99,104]⟩,⟨#[99,108,111,111,115,101]⟩,17,0,0,0,0⟩,
 ⟨5,⟨#[115,101,108,102]⟩,⟨#[99,115,101,108,102]⟩,17,0,0,0,0⟩,
 ⟨6,⟨#[121,105,101,108,100]⟩,⟨#[99,121,105,101,108,100]⟩,17,0,0,0,0⟩,
 ⟨7,⟨#[115,108,101,101,112]⟩,⟨#[99,115,108,101,101,112]⟩,17,0,0,0,0⟩,
 ⟨8,⟨#[110,111,119]⟩,⟨#[99,110,111,119]⟩,17,0,0,0,0⟩,
 ⟨10,⟨#[109,117,116,101,120,32,105,110,105,116]⟩,⟨#[99,109,105,110,105,116]⟩,18,0,0,0,0⟩,
 ⟨11,⟨#[109,117,116,101,120,32,100,101,115,116,114,111,121]⟩,⟨#[99,109,103,111,110,101]⟩,18,1,0,0,0⟩,
 ⟨12,⟨#[109,117,116,101,120,32,108,111,99,107]⟩,⟨#[99,109,108,111,99,107]⟩,18,1,0,0,0⟩,
 ⟨13,⟨#[109,117,116,101,120,32,116,114,121,108,111,99,107]⟩,⟨#[99,109,116,114,121]⟩,18,1,0,0,0⟩,
 ⟨14,⟨#[109,117,116,101,120,32,116,105,109,101,100,108,111,99,107]⟩,⟨#[99,109,116,105,109,101,100]⟩,18,1,0,0,0⟩,
 ⟨15,⟨#[109,117,116,101,120,32,117,110,108,111,99,107]⟩,⟨#[99,109,102,114,101,101]⟩,18,1,0,0,0⟩,
 ⟨20,⟨#[115,101,109,32,105,110,105,116]⟩,⟨#[99,115,105,110,105,116]⟩,19,0,0,0,0⟩,
 ⟨21,⟨#[115,101,109,32,100,101,115,116,114,111,121]⟩,⟨#[99,115,103,111,110,101]⟩,19,2,0,0,0⟩,
 ⟨22,⟨#[115,101,109,32,119,97,105,116]⟩,⟨#[99,115,119,97,105,116]⟩,19,2,0,0,0⟩,
 ⟨23,⟨#[115,101,109,32,116,114,121,119,97,105,116]⟩,⟨#[99,115,116,114,121]⟩,19,2,0,0,0⟩,
 ⟨24,⟨#[115,101,109,32,116,105,109,101,100,119,97,105,116]⟩,⟨#[99,115,116,105,109,101,100]⟩,19,2,0,0,0⟩,
 ⟨25,⟨#[115,101,109,32,112,111,115,116]⟩,⟨#[99,115,112,111,115,116]⟩,19,2,0,0,0⟩,
 ⟨26,⟨#[115,101,109,32,103,101,116]⟩,⟨#[99,115,103,101,116]⟩,19,2,0,0,0⟩,
 ⟨30,⟨#[111,110,99,101,32,105,110,105,116]⟩,⟨#[99,111,105,110,105,116]⟩,20,0,0,0,0⟩,
 ⟨31,⟨#[111,110,99,101]⟩,⟨#[99,111,110,99,101]⟩,20,3,0,0,0⟩,
 ⟨40,⟨#[98,97,114,114,105,101,114,32,105,110,105,116]⟩,⟨#[99,98,105,110,105,116]⟩,21,0,0,0,0⟩,
 ⟨41,⟨#[98,97,114,114,105,101,114,32,100,101,115,116,114,111,121]⟩,⟨#[99,98,103,111,110,101]⟩,21,4,0,0,0⟩,
 ⟨42,⟨#[98,97,114,114,105,101,114,32,119,97,105,116]⟩,⟨#[99,98,119,97,105,116]⟩,21,4,0,0,0⟩,
 ⟨50,⟨#[114,119,108,111,99,107,32,105,110,105,116]⟩,⟨#[99,114,105,110,105,116]⟩,22,0,0,0,0⟩,
 ⟨51,⟨#[114,119,108,111,99,107,32,100,101,115,116,114,111,121]⟩,⟨#[99,114,103,111,110,101]⟩,22,5,0,0,0⟩,
 ⟨52,⟨#[114,119,108,111,99,107,32,114,101,97,100]⟩,⟨#[99,114,114,101,97,100]⟩,22,5,0,0,0⟩,
 ⟨53,⟨#[114,119,108,111,99,107,32,116,114,121,114,101,97,100]⟩,⟨#[99,114,116,114,121,114]⟩,22,5,0,0,0⟩,
 ⟨54,⟨#[114,119,108,111,99,107,32,116,105,109,101,100,114,101,97,100]⟩,⟨#[99,114,116,114,101,97,100]⟩,22,5,0,0,0⟩,
 ⟨55,⟨#[114,119,108,111,99,107,32,119,114,105,116,101]⟩,⟨#[99,114,119,114,105,116,101]⟩,22,5,0,0,0⟩,
 ⟨56,⟨#[114,119,108,111,99,107,32,116,114,121,119,114,105,116,101]⟩,⟨#[99,114,116,114,121,119]⟩,22,5,0,0,0⟩,
 ⟨57,⟨#[114,119,108,111,99,107,32,116,105,109,101,100,119,114,105,116,101]⟩,⟨#[99,114,116,119,114,105,116]⟩,22,5,0,0,0⟩,
 ⟨58,⟨#[114,119,108,111,99,107,32,117,110,108,111,99,107]⟩,⟨#[99,114,102,114,101,101]⟩,22,5,0,0,0⟩,
 ⟨60,⟨#[99,111,110,100,32,105,110,105,116]⟩,⟨#[99,99,105,110,105,116]⟩,23,0,0,0,0⟩,
 ⟨61,⟨#[99,111,110,100,32,100,101,115,116,114,111,121]⟩,⟨#[99,99,103,111,110,101]⟩,23,6,0,0,0⟩,
 ⟨62,⟨#[99,111,110,100,32,119,97,105,116]⟩,⟨#[99,99,119,97,105,116]⟩,23,6,1,0,0⟩,
 ⟨63,⟨#[99,111,110,100,32,116,105,109,101,100,119,97,105,116]⟩,⟨#[99,99,116,105,109,101,100]⟩,23,6,1,0,0⟩,
 ⟨64,⟨#[99,111,110,100,32,115,105,103,110,97,108]⟩,⟨#[99,99,115,105,103,110]⟩,23,6,0,0,0⟩,
 ⟨65,⟨#[99,111,110,100,32,98,114,111,97,100,99,97,115,116]⟩,⟨#[99,99,98,114,111,97,100]⟩,23,6,0,0,0⟩,
 ⟨70,⟨#[102,117,116,101,120,32,119,97,105,116]⟩,⟨#[99,102,119,97,105,116]⟩,16,7,0,0,0⟩,
 ⟨71,⟨#[102,117,116,101,120,32,119,97,107,101]⟩,⟨#[99,102,119,97,107,101]⟩,16,7,0,0,0⟩,
 ⟨72,⟨#[102,117,116,101,120,32,114,101,113,117,101,117,101]⟩,⟨#[99,102,114,101,113]⟩,16,7,0,7,0⟩,
 ⟨73,⟨#[102,117,116,101,120,32,99,109,112,114,101,113,117,101,117,101]⟩,⟨#[99,102,99,109,112]⟩,16,7,0,7,0⟩]
theorem xw{P:Program}{b:Oper}{a:Act}{w w':World}{next:Act->World->Prop}{Q:Exit->Act->World->Prop}{v:Value}(h:(execOp a.eval b).run P w=.ok (.value v) w')(k:next (a.put b.dst v) w'):b.wp P a w next Q:=by
 unfold Oper.wp;rw[h];exact k
set_option maxRecDepth 1000000 in
theorem xx(w:World):Calls prog 98 #[] w (fun e w'=>e=.returned (.slice (some ⟨w.heap.size,0,none⟩) 45 45)/\Row w' w.heap.size 245 (dA.flatMap pC)/\Ch ag w w'):=by
 go_enter func98,ntmps98
 go_wp2
 refine xw (v:=.slice (some ⟨w.heap.size,0,none⟩) 45 45) (w':=w.alloc (.cells (dA.flatMap pC).toArray 245)) (by kernel_rfl) ?_;go_wp2
 go_ret;refine⟨rfl,?_,(Ch.refl _ _).alloc _⟩;have h:=Row.new w (dA.flatMap pC).toArray 245;exact h
end Go.Proofs.YtlihkblppjgebaaGreatDoor
