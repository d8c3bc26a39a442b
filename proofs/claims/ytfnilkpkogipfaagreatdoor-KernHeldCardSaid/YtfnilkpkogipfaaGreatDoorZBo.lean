import Derived.Deep.RegionWith
import Derived.Deep.RegionHeldLaw
import Derived.Deep.RegionLawGrows
import Derived.Test.YtfnilkpkogipfaaGreatDoorZBn
set_option linter.all false
set_option maxRecDepth 100000
set_option maxHeartbeats 8000000
namespace Go.Proofs.YtfnilkpkogipfaaGreatDoor
open Go.RowKit Go.Proofs.Tryz
theorem zK:(prog.info? 148).map (fun i=>(i.zero,i.size,i.bytes))=some (some (.agg (#[.int .u64 0,.int .u64 0,.bool false,.int .i64 0,.int .i64 0]++Array.replicate 32 (.int .u64 0)++#[.slice none 0 0])),38,320):=by kernel_rfl
theorem hU{l:List aV}{loop:Int}{calls:List br}(h:e2 l loop calls=true):0<l.length/\l.length<=2048:=by
 unfold e2 ja at h;simp only[Bool.and_eq_true,decide_eq_true_eq]at h;have a:=h.1.1.1;have b:=h.1.1.2.1;omega
def ak.zero:ak:=⟨0,0,false,0,⟨0,B4,[]⟩⟩
theorem sx:(prog.info? 121).map (fun i=>(i.zero,i.size,i.bytes))=some (some (.agg #[.int .i64 0,.int .i64 0,.int .i64 0,.int .i64 0,.int .u64 0,.int .i64 0,.int .i64 0]),7,56):=by kernel_rfl
theorem zL:(prog.info? 49).map (fun i=>(i.zero,i.size,i.bytes))=some (some (.agg #[.int .i64 0,.int .i64 0,.int .i64 0,.int .i64 0,.int .i64 0,.int .i64 0]),6,48):=by kernel_rfl
theorem ud{a:World}{g:Nat}{L:List Value}(h:∀(j:Nat) (u:Value),L[j]?=some u->a.cell? ⟨g,j,none⟩=some u):∀(j:Nat) (u:Value),L[j]?=some u->a.cell? ((⟨g,0,none⟩:Addr).add j)=some u:=fun j u c=>by
 have b:(⟨g,0,none⟩:Addr).add j=⟨g,j,none⟩:=by unfold Addr.add;split<;>simp_all
 rw[b];exact h j u c
theorem mo(l:List aV):∀u∈b' l,u.oneCell'=true:=fun u b=>by
 obtain⟨X,_,a⟩:=List.mem_flatMap.1 b;have:u∈[Value.int .i64 X.op,X.a,X.b,X.c,.int .u64 X.v,X.m,X.wh]:=a;simp only[List.mem_cons,List.not_mem_nil,or_false]at this;rcases this with rfl|rfl|rfl|rfl|rfl|rfl|rfl<;>rfl
theorem zM(l:List br):∀u∈l.flatMap br.cells,u.oneCell'=true:=fun u b=>by
 obtain⟨X,_,a⟩:=List.mem_flatMap.1 b;simp only[br.cells,List.mem_cons,List.not_mem_nil,or_false]at a;rcases a with rfl|rfl|rfl|rfl|rfl|rfl<;>rfl
theorem kR(l:List br):(l.flatMap br.cells).length=l.length*6:=by
 rw[List.length_flatMap];simp only[br.len];rw[List.map_const',List.sum_replicate_nat]
def zN(w:World)(t:TypeId)(n:Nat)(b:List Value)(B c cap:Nat)(wc:World):Prop:=(∃a,Row wc c t (b++a))/\n<=cap/\B<=c
def E6(mb:Nat)(post:List Value)(rest:List Value)(loop:Int)(l:List aV)(calls:List br)(b a:Nat)(w wc:World):Prop:=
 ∃c e d f,NM wc mb ([.slice (some ⟨c,0,none⟩) b e,.int .i64 loop,.slice (some ⟨d,0,none⟩) a f]++rest) (List.replicate 1000 0) post/\zN w 121 b (b' l) w.heap.size c e wc/\zN w 49 a (calls.flatMap br.cells) w.heap.size d f wc/\Ch (aK mb) w wc
def jC(n:Nat)(w:World)(p:Value)(wc:World):Prop:=
 ∃mb a e b f c d,p=.pointer (some ⟨mb,0,none⟩)/\NM wc mb [.slice none 0 0,.int .i64 0,.slice none 0 0,.slice none 0 0,.int .i64 0,.int .i64 0,.int .i64 0] (List.replicate 1000 0)
  [.pointer none,.pointer none,bf b,.pointer none,.pointer none,.pointer none,.pointer none,.map (some a),.slice (some ⟨e,0,none⟩) n n,.int .i64 0,.int .i64 0,.int .i64 0,.int .u64 0,.slice none 0 0]/\
  bH (α:=Nat) wc a .u64 bf []/\Row wc e 148 ((List.replicate n ak.zero).flatMap fun x=>x.cells (.slice none 0 0))/\aX wc b f c d (.slice none 0 0) aN.new/\
  (w.heap.size<=mb/\w.heap.size<=a/\w.heap.size<=e/\w.heap.size<=b/\w.heap.size<=f/\w.heap.size<=c/\w.heap.size<=d)/\a≠c/\a≠d/\Ch ag w wc
theorem zO:Tryz.zeroCells137.toList=[.slice none 0 0,.int .i64 0,.slice none 0 0,.slice none 0 0,.int .i64 0,.int .i64 0,.int .i64 0]++((List.replicate 1000 (0:Int)).map (Value.int .i64)++[.pointer none,.pointer none,.pointer none,.pointer none,.pointer none,.pointer none,.pointer none,.map none,.slice none 0 0,.int .i64 0,.int .i64 0,.int .i64 0,.int .u64 0,.slice none 0 0]):=by kernel_rfl
theorem bH.py{α:Type}{w:World}{b:Nat}{q:IntKind}{enc:α->Value}{l:List (Int×α)}(h:bH w b q enc l):bH w.drew b q enc l:=h
theorem gB(a:World){k:Nat}(b:a.heap.size=k):bH (α:=Nat) (a.alloc (.map #[] 0)) k .u64 bf []:=⟨#[],0,by rw[<-b];exact heap_alloc_new a _,rfl⟩
theorem fB(a:World){k:Nat}(b:a.heap.size=k){cs:Array Value}{t:TypeId}{l:List Value}(h:cs.toList=l):Row (a.alloc (.cells cs t)) k t l:=by rw[<-b,<-h];exact Row.new a cs t
theorem zP(pre:List Value)(rows:List Int)(post:List Value)(j:Nat)(v:Value)(a:pre.length=7)(b:rows.length=1000):(pre++(rows.map (Value.int .i64)++post)).set (1007+j) v=pre++(rows.map (Value.int .i64)++post.set j v):=by
 rw[List.set_append_right _ _ (by rw[a];omega),a,List.set_append_right _ _ (by rw[List.length_map,b];omega),List.length_map,b,show 1007+j-7-1000=j by omega]
theorem jC.of{n:Nat}{w a:World}{b h f l i j k:Nat}(r:a.heap.size=k)(m:bH (α:=Nat) a b .u64 bf [])(o:Row a h 148 ((List.replicate n ak.zero).flatMap fun x=>x.cells (.slice none 0 0)))
 (p:aX a f l i j (.slice none 0 0) aN.new) (d:w.heap.size<=b/\w.heap.size<=h/\w.heap.size<=f/\w.heap.size<=l/\w.heap.size<=i/\w.heap.size<=j) (s:b≠i) (t:b≠j) (c:Ch ag w a):
 jC n w (.pointer (some (k,0))) (a.alloc (Obj.cells (((Tryz.zeroCells137.setIfInBounds 1014 (.map (some b))).setIfInBounds 1015 (.slice (some (h,0)) n n)).setIfInBounds 1009 (.pointer (some (f,0)))) 137)):=by
 subst r;refine⟨a.heap.size,b,h,f,l,i,j,rfl,⟨?_,rfl,by rw[List.length_replicate]⟩,m.alloc _,o.alloc _,p.ch (c:=(Ch.refl (fun _=>False) a).alloc _) (fun e=>e) (fun e=>e) (fun e=>e) (fun e=>e) (fun g q=>by cases q),⟨c.size,d.1,d.2.1,d.2.2.1,d.2.2.2.1,d.2.2.2.2.1,d.2.2.2.2.2⟩,s,t,c.alloc _⟩;have:=Row.new a (((Tryz.zeroCells137.setIfInBounds 1014 (.map (some b))).setIfInBounds 1015 (.slice (some (h,0)) n n)).setIfInBounds 1009 (.pointer (some (f,0)))) 137;rw[Array.toList_setIfInBounds,Array.toList_setIfInBounds,Array.toList_setIfInBounds,zO,show 1014=1007+7 from rfl,show 1015=1007+8 from rfl,show 1009=1007+2 from rfl,zP _ _ _ _ _ rfl (List.length_replicate),zP _ _ _ _ _ rfl (List.length_replicate),zP _ _ _ _ _ rfl (List.length_replicate)]at this;exact this
def fC(l:List br):Nat->List Int
 |0=>List.replicate 1000 0
 |k+1=>(fC l k).set ((l.getD k default).num.toNat) ((k:Int)+1)
theorem oe{n:Int}:∀{l:List br} {s:List Bool},jb n l s=true->∀r∈l,1<=r.num/\r.num<=999
 |[],_,_=>fun r b=>by cases b
 |x::l,s,h=>fun r b=>by
  rw[jb,Bool.and_eq_true]at h;rcases List.mem_cons.1 b with rfl|c
  ·have a:=h.1
   unfold gl at a;simp only[Bool.and_eq_true,decide_eq_true_eq]at a;exact a.1.1.1
  ·exact oe h.2 r c
theorem pz{l:List aV}{loop:Int}{calls:List br}(h:e2 l loop calls=true):∀r∈calls,1<=r.num/\r.num<=999:=by
 unfold e2 at h;rw[Bool.and_eq_true]at h;exact oe h.2
def qH(n:Nat)(loop:Int):Nat->List ak
 |0=>List.replicate n ak.zero
 |k+1=>(qH n loop k).set k (ak.new loop)
theorem oh(n:Nat)(loop:Int):∀k,(qH n loop k).length=n
 |0=>List.length_replicate
 |k+1=>by rw[qH,List.length_set];exact oh n loop k
theorem oi(n:Nat)(loop:Int):∀k i,i<n->(qH n loop k)[i]?=some (if i<k then ak.new loop else ak.zero)
 |0,i,a=>by rw[qH,List.getElem?_replicate,if_pos a,if_neg (by omega)]
 |k+1,i,a=>by
  rw[qH,List.getElem?_set];split
  ·rename_i e;subst e;rw[oh,if_pos a,if_pos (by omega)]
  ·rw[oi n loop k i a]
   by_cases h:i<k
   ·rw[if_pos h,if_pos (by omega)]
   ·rw[if_neg h,if_neg (by omega)]
theorem zQ(n:Nat)(loop:Int):qH n loop n=List.replicate n (ak.new loop):=by
 apply List.ext_getElem?;intro i;by_cases a:i<n
 ·rw[oi n loop n i a,if_pos a,List.getElem?_replicate,if_pos a]
 ·rw[List.getElem?_eq_none (by rw[oh];omega),List.getElem?_eq_none (by rw[List.length_replicate];omega)]
theorem qI{l:List aV}{en b a:Int}(h:ei l en b a=true):0<=b/\b<=256/\0<=a/\a<=256:=by
 unfold ei at h;simp only[Bool.and_eq_true,decide_eq_true_eq]at h;obtain⟨⟨⟨c,d,e,f,_⟩,_⟩,_⟩:=h;omega
def Dl(C:KC)(n tt:Nat)(w:World)(e:Ending)(w':World):Prop:=
 ∃χ L Y,e=.returned (.tuple #[.pointer (some ⟨L.mb,0,none⟩),.nilIface])/\ae w' χ L Y C (hC C n tt)/\(∀i,χ i≠ .no->w.heap.size<=i)/\(∀i,χ i≠ .out)/\Ch ag w w'
theorem fU{α:Type}{d:World}{a b:Nat}{t:TypeId}{l:List Value}{q:IntKind}{enc:α->Value}{m:List (Int×α)}(h:Row d a t l)(g:bH d b q enc m):a≠b:=fun e=>by
 obtain⟨i,c,f,_⟩:=g;rw[<-e,show d.heap[a]?=some (.cells l.toArray t (0,0))from h]at f;cases f
def ue(l:List aV)(loop:Int)(calls:List br)(p:List aV)(en b a:Int):KC:=⟨l,loop,calls,p,en,b,a,fC calls calls.length⟩
def E7(mb:Nat)(post:List Value)(pre:List Value)(en e d:Int)(p:List aV)(a:Nat)(w wc:World):Prop:=
 ∃b c,NM wc mb (pre++[.slice (some ⟨b,0,none⟩) a c,.int .i64 en,.int .i64 e,.int .i64 d]) (List.replicate 1000 0) post/\zN w 121 a (b' p) w.heap.size b c wc/\Ch (aK mb) w wc
theorem jB{l:List aV}{en b a:Int}(h:ei l en b a=true):0<l.length/\l.length<=2048:=by
 unfold ei ja at h;simp only[Bool.and_eq_true,decide_eq_true_eq]at h;have c:=h.1.1;have d:=h.1.2.1;omega
theorem zR(n tt:Nat)(FN:1<=n/\n<=64)(FS:1<=tt/\tt<=65536)(l:List aV)(R:Nat)(c7:Nat)(loop:Int)(calls:List br)(gk:Nat)(c6:Nat)(p:List aV)(S:Nat)(pc:Nat)(en:Int)(f t:Nat)
 (FK:l.length<=c7) (Hj:calls.length<=c6) (FP:p.length<=pc) (s0:calls.length<=100000) (FJ:0<calls.length) (w:World) (s1:eE w R l) (s8:eE w S p)
 (kb:∃cQ,Row w gk 49 (calls.flatMap br.cells++cQ))
 (mk:e2 l loop calls=true) (ms:ei p en f t=true)
 (I:w.cell? (0,0)=some (.iface 335 (.agg #[(1,40)]))):
 Calls prog 11 #[.agg #[.int .i64 n,.int .i64 tt],.agg #[.slice (some (R,0)) l.length c7,loop,.slice (some (gk,0)) calls.length c6],.agg #[.slice (some (S,0)) p.length pc,en,.int .i64 f,.int .i64 t]] w (fun e w'=>(17+8*n+f+t+1<=tt/\Dl (ue l loop calls p en f t) n tt w e w')∨(tt<17+8*n+f+t+1/\z2 w e w')):=by
 obtain⟨cQ,kb⟩:=kb;obtain⟨w1,kT⟩:=nm (((w.alloc (.cells #[.int .i64 n,.int .i64 tt] 43)).alloc (.cells #[.slice (some (R,0)) l.length c7,loop,.slice (some (gk,0)) calls.length c6] 33)).alloc (.cells #[.slice (some (S,0)) p.length pc,en,.int .i64 f,.int .i64 t] 36));have c9:Hid (Ch ag w w1):=Z (by rw[<-kT];exact(((Ch.refl _ _).alloc _).alloc _).alloc _);have l':Hid (Row w1 w.heap.size 43 [.int .i64 n,.int .i64 tt]):=Z (by rw[<-kT];exact((Row.new w _ _).alloc _).alloc _);have av:Hid (Row w1 (w.heap.size+1) 33 [.slice (some (R,0)) l.length c7,loop,.slice (some (gk,0)) calls.length c6]):=Z (by
  rw[<-kT];have:=Row.new (w.alloc (.cells #[.int .i64 n,.int .i64 tt] 43)) #[.slice (some (R,0)) l.length c7,loop,.slice (some (gk,0)) calls.length c6] 33;rw[World.size_alloc]at this;exact this.alloc _)
 have Q:Hid (Row w1 (w.heap.size+2) 36 [.slice (some (S,0)) p.length pc,en,.int .i64 f,.int .i64 t]):=Z (by
  rw[<-kT];have:=Row.new ((w.alloc (.cells #[.int .i64 n,.int .i64 tt] 43)).alloc (.cells #[.slice (some (R,0)) l.length c7,loop,.slice (some (gk,0)) calls.length c6] 33)) #[.slice (some (S,0)) p.length pc,en,.int .i64 f,.int .i64 t] 36;rw[World.size_alloc,World.size_alloc]at this;exact this)
 have wh:Hid (eE w1 R l):=Z (s1.ch c9 (fun h=>h));have x2:Hid (eE w1 S p):=Z (s8.ch c9 (fun h=>h));have on:Hid (Row w1 gk 49 (calls.flatMap br.cells++cQ)):=Z (kb.ch c9 (fun h=>h));have og:Hid (w1.cell? (0,0)=some (.iface 335 (.agg #[(1,40)]))):=Z (c9.k I);have hB:=jc l (some ⟨R,0,none⟩) c7 loop calls (some ⟨gk,0,none⟩) c6 FK s0 w1 (fun _=>⟨R,rfl,wh⟩) (fun _=>⟨gk,cQ,rfl,on⟩) og;rw[mk]at hB;have hB:=Z hB;have wb:Hid (∀w2,Ch ag w1 w2->Calls prog 51 #[.agg #[.slice (some (S,0)) p.length pc,en,.int .i64 f,.int .i64 t]] w2 (qz true w2)):=Z (fun w2 c5=>by
  have:=jd p (some ⟨S,0,none⟩) pc en f t FP w2 (fun _=>⟨S,rfl,x2.ch c5 (fun h=>h)⟩) ((c5.cell (aE og) (fun h=>h)).trans og)
  rwa [ms]at this)
 obtain⟨c1,it⟩:=mn l.length;obtain⟨D,ip⟩:=mn calls.length;obtain⟨ce,jp⟩:=mn p.length;have pa:Hid (S<w.heap.size/\R<w.heap.size/\gk<w.heap.size):=Z ⟨s8.lt,s1.lt,kb.lt⟩;have Gn:=Z (pz mk);have lt:=Z (qI ms);have p3:=Z it;have eA:=Z ip;have p8:=Z jp;rw[<-it,<-ip]at av hB;rw[<-jp]at Q wb;rw[<-it,<-ip,<-jp]at kT⊢;have cA:=Z FN;have pl:=Z FS;obtain⟨th,IA⟩:=l'.c2;obtain⟨t10,t11,t12⟩:=av.c3;obtain⟨t20,t21,t22,t23⟩:=Q.c4;have F9:0<c1/\c1<=2048:=by rw[it];exact hU mk
 have F8:0<D/\D<=100000:=by rw[ip];exact⟨FJ,s0⟩
 have B3:Hid (0<ce/\ce<=2048):=Z (by rw[jp];exact jB ms);have B1:=Z F9;have B2:=Z F8;have i1:(1:Int)<=n:=by omega
 have i2:(n:Int)<=64:=by omega
 have Il:(1:Int)<=tt:=by omega
 have Im:(tt:Int)<=65536:=by omega
 clear F9 F8 it ip jp FJ FK Hj FP s0 s1 s8 kb mk ms I FN FS;go_enter func11,ntmps11
 go_wp2_with (first|(go_at_call 50;refine hB.mono ?_;rintro e w2 ⟨⟨y,rfl,sC⟩,fr⟩;obtain rfl:y=.nilIface:=sC;have up:=Z fr;have u20:=(Q.ch fr (fun h=>h)).cell (i:=0) rfl;have u21:=(Q.ch fr (fun h=>h)).cell (i:=1) rfl;have u22:=(Q.ch fr (fun h=>h)).cell (i:=2) rfl;have u23:=(Q.ch fr (fun h=>h)).cell (i:=3) rfl;clear fr)|(go_at_call 51;refine(wb _ up).mono ?_;rintro e U ⟨⟨y,rfl,sC⟩,FE⟩;obtain rfl:y=.nilIface:=sC;have bv:=Z (up.trans FE);clear FE))
 obtain⟨hf,gc,gs,gt,he⟩:=info_parts zK;have Hl:=fun w=>run_make (P:=prog) w 127 148 hf _ underlying127 gc gs .i64 .i64 (n:Int) (n:Int) (by omega) (by omega) (by rw[he];omega) (by omega)
 obtain⟨cs,n0⟩:=nm (madeCells (Value.agg (#[.int .u64 0,.int .u64 0,.bool false,.int .i64 0,.int .i64 0]++Array.replicate 32 (.int .u64 0)++#[.slice none 0 0])).cells ((n:Int).toNat*hf.size));simp only[n0]at Hl;rw[gt,Int.toNat_natCast]at n0;have Gc:=Z n0;have ex:Hid (cs.toList=(List.replicate n ak.zero).flatMap fun x=>x.cells (.slice none 0 0)):=Z (by
  rw[<-Gc];exact gP (enc:=fun x:ak=>x.cells (.slice none 0 0)) (k:=38) (fun x=>ak.len (x,_)) (by omega) ak.zero _ rfl n)
 have Ih:= @run_makeMap prog;clear n0 gc gs gt he;have th:=l'.c1;have un:U.cell? ⟨w.heap.size,0,none⟩=some (.int .i64 n):=bv.k th;clear th;go_cut [10] (fun p wc=>jC n U p wc)
 case first=>
  have l0:=World.new_ne U ⟨w.heap.size,0,none⟩ un;have l1:w.heap.size<U.heap.size:=aE un;go_region_held3 (fun w'=>w'.cell? ⟨w.heap.size,0,none⟩=some (.int .i64 n)) (go_keep) ((go_at_call 52;refine(ki _).mono ?_;rintro e d ⟨b,hb,mb,qb,rfl,fz,cf,ch,ci,ii,rg⟩;have Y:=Z fz;have z:Hid (Ch ag U d):=Z (Ch.trans (by repeat(first|exact Ch.refl _ _|with_reducible refine Ch.drew ?_|with_reducible refine Ch.alloc ?_ _)) rg);have dC:=Z rg;have W:=Z (And.intro cf (And.intro ch (And.intro ci ii)));have x5:=z.out.k un;clear fz rg cf ch ci ii))
  all_goals(go_wp2_with fail;go_meet)
  ·exact jC.of (by simp) (((gB U rfl).alloc _).py.ch dC (fun h=>h)) ((fB (U.alloc (.map #[] 0)) (k:=U.heap.size+1) (by simp) ex).drew.ch dC (fun h=>h)) Y (by have a:=W.out;simp only[World.size_alloc,World.size_drew]at a;omega) (by have a:=W.out;simp only[World.size_alloc,World.size_drew]at a;omega) (by have a:=W.out;simp only[World.size_alloc,World.size_drew]at a;omega) z
  ·exact jC.of (by simp) ((((gB U rfl)).py.ch dC (fun h=>h)).alloc _) (fB _ rfl ex) (Y.ch (c:=(Ch.refl (fun _=>False) d).alloc _) (fun e=>e) (fun e=>e) (fun e=>e) (fun e=>e) (fun g I=>by cases I)) (by have a:=W.out;have c4:=z.size;simp only[World.size_alloc,World.size_drew]at a;omega) (by have a:=W.out;simp only[World.size_alloc,World.size_drew]at a;omega) (by have a:=W.out;simp only[World.size_alloc,World.size_drew]at a;omega) (z.alloc _)
  ·exact jC.of (by simp) ((gB (U.alloc (.cells cs 148)) (k:=U.heap.size+1) (by simp)).py.ch dC (fun h=>h)) (((fB _ rfl ex).alloc _).drew.ch dC (fun h=>h)) Y (by have a:=W.out;simp only[World.size_alloc,World.size_drew]at a;omega) (by have a:=W.out;simp only[World.size_alloc,World.size_drew]at a;omega) (by have a:=W.out;simp only[World.size_alloc,World.size_drew]at a;omega) z
  ·exact jC.of (by simp) (gB _ rfl) (((fB _ rfl ex).drew.ch dC (fun h=>h)).alloc _) (Y.ch (c:=(Ch.refl (fun _=>False) d).alloc _) (fun e=>e) (fun e=>e) (fun e=>e) (fun e=>e) (fun g I=>by cases I)) (by have a:=W.out;have c4:=z.size;simp only[World.size_alloc,World.size_drew]at a;omega) (by have:=Y.heap.map.lt;omega) (by have:=Y.ff.lt;omega) (z.alloc _)
  ·exact jC.of (by simp) ((gB _ rfl).alloc _) (fB (d.alloc (.map #[] 0)) (k:=d.heap.size+1) (by simp) ex) (Y.ch (c:=((Ch.refl (fun _=>False) d).alloc _).alloc _) (fun e=>e) (fun e=>e) (fun e=>e) (fun e=>e) (fun g I=>by cases I)) (by have a:=W.out;have c4:=z.size;simp only[World.size_alloc,World.size_drew]at a;omega) (by have:=Y.heap.map.lt;omega) (by have:=Y.ff.lt;omega) ((z.alloc _).alloc _)
  ·exact jC.of (by simp) (gB (d.alloc (.cells cs 148)) (k:=d.heap.size+1) (by simp)) ((fB _ rfl ex).alloc _) (Y.ch (c:=((Ch.refl (fun _=>False) d).alloc _).alloc _) (fun e=>e) (fun e=>e) (fun e=>e) (fun e=>e) (fun g I=>by cases I)) (by have a:=W.out;have c4:=z.size;simp only[World.size_alloc,World.size_drew]at a;omega) (by have:=Y.heap.map.lt;omega) (by have:=Y.ff.lt;omega) ((z.alloc _).alloc _)
 case rest=>
  obtain⟨mb,am,o,bi,fd,c2,fn,rfl,s4,s2,ge,fz,FR,l0,l1,mA⟩:=hcut;obtain⟨w4,FT⟩:=nm wc;rw[FT]at s4 s2 ge fz mA⊢;have ap:=Z s4;have hm:Hid (Ch ag w1 w4):=Z (bv.trans mA.af);have eL:=Z FR;have ls:=Z s2;have c0:=Z ge;have ad:=Z fz;have wv:=Z (And.intro l0 l1);have Gb:=Z mA;clear s4 s2 ge fz FR l0 l1 mA FT;have Gm:=Z (fun(w:World) pre rows post (h:NM w mb pre rows post) (r:NR pre post o n 0 0)=>lG h r);have nC:=Z (Gm w4.drew _ _ _ ap.drew ⟨rfl,rfl,rfl,cA.1,cA.2,by omega,by omega,by omega,by omega⟩);have HO:=((l'.ch hm (fun h=>h)).cell (i:=1) rfl);have HP:=((Q.ch hm (fun h=>h)).cell (i:=2) rfl);have HQ:=((Q.ch hm (fun h=>h)).cell (i:=3) rfl);have Ik:(f:Int)<=65536:=by have:=lt.out;omega
  have Ii:(t:Int)<=65536:=by have:=lt.out;omega
  rcases Nat.lt_or_ge tt (17+8*n+f+t+1)with kf|kf
  ·have FQ:((tt:Int)<17+8*(n:Int)+f+t+1):=by omega
   have i3:=Z kf;clear kf;go_wp2_with fail
   have HK:IntKind.i64.wrap (17+8*(n:Int)+f)=17+8*(n:Int)+f:=IntWalk.i64_in _ (by omega);have HL:IntKind.i64.wrap (17+8*(n:Int)+f+t)=17+8*(n:Int)+f+t:=IntWalk.i64_in _ (by omega);have HM:IntKind.i64.wrap (17+8*(n:Int)+f+t+1)=17+8*(n:Int)+f+t+1:=IntWalk.i64_in _ (by omega);refine wp_region_still (by kernel_rfl) (by kernel_rfl) ?_;try simp only[]
   repeat still_step
   still_call (bZ nC)
   repeat still_step
   try refine wpStill_nil ?_
   go_wp2_with (go_at_call 49;refine(e8 _ _ _ _).mono ?_;rintro e w' ⟨rfl,rfl⟩)
   any_goals (first|(exfalso;omega)|skip)
   go_ret2;exact Or.inr ⟨i3,⟨_,rfl,aq.mk _ _⟩,(c9.trans hm.drew).alloc _⟩
  have FQ:¬((tt:Int)<17+8*(n:Int)+f+t+1):=by omega
  have i3:=Z kf;clear kf;go_wp2_with fail
  have HK:IntKind.i64.wrap (17+8*(n:Int)+f)=17+8*(n:Int)+f:=IntWalk.i64_in _ (by omega);have HL:IntKind.i64.wrap (17+8*(n:Int)+f+t)=17+8*(n:Int)+f+t:=IntWalk.i64_in _ (by omega);have HM:IntKind.i64.wrap (17+8*(n:Int)+f+t+1)=17+8*(n:Int)+f+t+1:=IntWalk.i64_in _ (by omega);refine wp_region_still (by kernel_rfl) (by kernel_rfl) ?_;try simp only[]
  repeat still_step
  still_call (bZ nC)
  repeat still_step
  try refine wpStill_nil ?_
  go_wp2_with fail
  any_goals (first|(exfalso;omega)|skip)
  change Code.wp _ _ _ _ w4.drew;obtain⟨d,n8⟩:=nm w4.drew;have z:Hid (Ch ag w1 d):=Z (by rw[<-n8];exact hm.drew);have ut:Hid (Ch ag w4 d):=Z (by rw[<-n8];exact(Ch.refl _ _).drew);have N:=Z (ap.ch ut (fun h=>h));rw[n8];clear n8 HO HP HQ nC FQ;have no:=((av.ch z (fun h=>h)).cell (i:=0) rfl);have nq:=((av.ch z (fun h=>h)).cell (i:=1) rfl);have nw:=((av.ch z (fun h=>h)).cell (i:=2) rfl);go_cut [] (fun wc=>E6 mb [.pointer none,.pointer none,bf bi,.pointer none,.pointer none,.pointer none,.pointer none,.map (some am),.slice (some (o,0)) n n,.int .i64 0,.int .i64 0,.int .i64 0,.int .u64 0,.slice none 0 0] [.slice none 0 0,.int .i64 0,.int .i64 0,.int .i64 0] loop l calls c1 D d wc)
  case first=>
   have Hw:=N.pc (i:=0) rfl;have Hx:=N.pc (i:=1) rfl;have Hy:=N.pc (i:=2) rfl;have f0:=N.fz 0;have f1:=N.fz 1;have f2:=N.fz 2;have H9:w.heap.size+1<mb:=Nat.lt_of_lt_of_le av.lt (Nat.le_trans bv.size eL.1);have d1:mb≠w.heap.size+1:=by omega
   have d2:w.heap.size+1≠mb:=by omega
   have l0:=World.new_ne d _ no;have l1:=World.new_ne d _ nq;have HA:=World.new_ne d _ nw;obtain⟨hf,gc,gs,gt,he⟩:=info_parts sx;obtain⟨i1,Hd,Hs,Ht,Hu⟩:=info_parts zL;have ok:=Z gc;have Gf:=Z Hd;have Gj:Hid (eE d R l):=Z (wh.ch z (fun h=>h));have Gi:Hid (Row d gk 49 (calls.flatMap br.cells++cQ)):=Z (on.ch z (fun h=>h));have GN:Hid ((b' l).length=c1*7):=Z (by rw[lU,p3];omega);have GO:Hid ((calls.flatMap br.cells).length=D*6):=Z (by rw[kR,eA]);go_region_held_law (fun w'=>w'.cell? ⟨w.heap.size+1,0,none⟩=some (.slice (some (R,0)) c1 c7)/\w'.cell? ⟨w.heap.size+1,1,none⟩=some (.int .i64 loop)/\w'.cell? ⟨w.heap.size+1,2,none⟩=some (.slice (some (gk,0)) D c6)) (go_keep) (first
    |(refine step_append_grows (by rfl) _ _ 30 (by rfl) 121 hf _ 7 56 underlying30 ok.out gs gt he (by rfl) (by omega) _ 0 0 [] (by rfl) (fun h=>⟨rfl,rfl⟩) (by rfl) (fun _ _ _ _ h=>by cases h) ⟨R,0,none⟩ c1 c7 (b' l) (by rfl) GN.out (ud (fun j u gf=>(Gj.out.ch (show Ch ag d _ by repeat(first|exact Ch.refl _ _|exact O.out|with_reducible refine Ch.drew ?_|with_reducible refine Ch.alloc ?_ _)) (fun h=>h)).cell j u gf)) (mo l) (by have:=B1.out;omega) (by have:=B1.out;unfold maxLen;omega) (by have:=B1.out;omega) ?_;intro G0 cW kd k5;have A:Hid (Ch ag d cW):=Z ((show Ch ag d _ by repeat(first|exact Ch.refl _ _|exact O.out|with_reducible refine Ch.drew ?_|with_reducible refine Ch.alloc ?_ _)).trans ((Ch.bQ k5).mono (fun i E=>by cases E)));obtain⟨c3,i7,tb,rfl,hA1,hA2,hA3,hA4,hA5⟩:=aS kd (by have:=B1.out;omega);have pp:=Z hA4;have hv:=Z (And.intro hA1 hA2);have HY:=A.out.k no;have HZ:=A.out.k nq;have H':=A.out.k nw;clear kd k5 hA1 hA2 hA3 hA4 hA5)
    |(refine step_append_grows (by rfl) _ _ 31 (by rfl) 49 i1 _ 6 48 underlying31 Gf.out Hs Ht Hu (by rfl) (by omega) _ 0 0 [] (by rfl) (fun h=>⟨rfl,rfl⟩) (by rfl) (fun _ _ _ _ h=>by cases h) ⟨gk,0,none⟩ D c6 (calls.flatMap br.cells) (by rfl) GO.out (ud (fun j u gf=>(Gi.out.ch (show Ch ag d _ by repeat(first|exact Ch.refl _ _|exact A.out|with_reducible refine Ch.drew ?_|with_reducible refine Ch.alloc ?_ _)) (fun h=>h)).cell (by rw[List.getElem?_append_left (List.getElem?_eq_some_iff.1 gf).1];exact gf))) (zM calls) (by have:=B2.out;omega) (by have:=B2.out;unfold maxLen;omega) (by have:=B2.out;omega) ?_;intro G0 lc FO r';have O:Hid (Ch ag d lc):=Z ((show Ch ag d _ by repeat(first|exact Ch.refl _ _|exact A.out|with_reducible refine Ch.drew ?_|with_reducible refine Ch.alloc ?_ _)).trans ((Ch.bQ r').mono (fun i E=>by cases E)));obtain⟨md,Do,Hv,rfl,F3,F4,Ha,F5,Hb⟩:=aS FO (by have:=B2.out;omega);have GV:=Z F5;have v2:=Z (And.intro F3 F4);have G2:=Z (Ch.bQ r');have I0:=O.out.k no;have I1:=O.out.k nq;have I2:=O.out.k nw;have Hw:=(N.out.ch O.out (fun h=>h)).pc (i:=0) rfl;have Hx:=(N.out.ch O.out (fun h=>h)).pc (i:=1) rfl;have Hy:=(N.out.ch O.out (fun h=>h)).pc (i:=2) rfl;have f0:=(N.out.ch O.out (fun h=>h)).fz 0;have f1:=(N.out.ch O.out (fun h=>h)).fz 1;have f2:=(N.out.ch O.out (fun h=>h)).fz 2;clear FO r' F3 F4 Ha F5 Hb))
   all_goals(go_wp2_with fail;go_meet)
   all_goals
    have ih:d.heap.size<=c3:=Nat.le_trans ((show Ch ag d _ by repeat(first|exact Ch.refl _ _|exact A.out|with_reducible refine Ch.drew ?_|with_reducible refine Ch.alloc ?_ _))).size hv.out.1;have pu:d.heap.size<=md:=Nat.le_trans ((show Ch ag d _ by repeat(first|exact Ch.refl _ _|exact A.out|with_reducible refine Ch.drew ?_|with_reducible refine Ch.alloc ?_ _))).size v2.out.1;have pv:Ch ag cW lc:=((show Ch ag cW _ by repeat(first|exact Ch.refl _ _|exact A.out|with_reducible refine Ch.drew ?_|with_reducible refine Ch.alloc ?_ _))).trans (G2.out.mono (fun i E=>by cases E));have qc:mb<d.heap.size:=N.lt;have c5:Ch (aK mb) lc (((lc.setCell (mb,0) (.slice (some (c3,0)) c1 i7)).setCell (mb,1) (.int .i64 loop)).setCell (mb,2) (.slice (some (md,0)) D Do)):=(((Ch.refl _ _).only _ _).only _ _).only _ _;refine⟨c3,i7,md,Do,(((N.ch O (fun h=>h)).tP (i:=0) (by omega) _).tP (i:=1) (by omega) _).tP (i:=2) (by omega) _,⟨⟨tb,?_⟩,?_,ih⟩,⟨⟨Hv,?_⟩,?_,pu⟩,O.af.trans c5⟩
    ·exact(pp.ch pv (fun h=>h)).ch c5 (fun e=>by have:c3=mb:=e;omega)
    ·have:=hv.2;omega
    ·exact GV.ch c5 (fun e=>by have:md=mb:=e;omega)
    ·have:=v2.2;omega
  case rest=>
   obtain⟨i4,eW,i5,fb,s5,cL,ck,ro⟩:=hcut;obtain⟨V,FU⟩:=nm wc;rw[FU]at s5 cL ck ro⊢;have al:=Z s5;have Gu:=Z cL;have Gv:=Z ck;have cq:=Z ro;clear s5 cL ck ro FU no nq nw;have HS:Hid (Ch ag w V):=Z ((c9.trans z).fresh cq (fun b hb e=>by have a:b=mb:=e;have c4:=eL.1;have r6:=Nat.lt_of_lt_of_le av.lt bv.size;omega));have et:∀x,x<w.heap.size+3->¬aK mb x:=fun x gr e=>by have a:x=mb:=e;have c4:=eL.1;have r6:=Nat.lt_of_lt_of_le Q.lt bv.size;omega
   have GZ:=Z ((Q.ch z (fun h=>h)).ch cq (et _ (by omega)));obtain⟨tl,tm,ni,tr⟩:=GZ.c4;go_wp2_with fail
   go_cut [] (fun wc=>E7 mb [.pointer none,.pointer none,bf bi,.pointer none,.pointer none,.pointer none,.pointer none,.map (some am),.slice (some (o,0)) n n,.int .i64 0,.int .i64 0,.int .i64 0,.int .u64 0,.slice none 0 0] [.slice (some (i4,0)) c1 eW,loop,.slice (some (i5,0)) D fb] en f t p ce V wc)
   case first=>
    have Hz:=al.pc (i:=3) rfl;have H9:w.heap.size+2<mb:=Nat.lt_of_lt_of_le Q.lt (Nat.le_trans bv.size eL.1);have d1:mb≠w.heap.size+2:=by omega
    have d2:w.heap.size+2≠mb:=by omega
    have d3:mb≠w.heap.size+1+1:=by omega
    have d4:w.heap.size+1+1≠mb:=by omega
    have l0:=World.new_ne V _ tl;have l1:=World.new_ne V _ tm;have HA:=World.new_ne V _ ni;have Iy:=World.new_ne V _ tr;obtain⟨hf,gc,gs,gt,he⟩:=info_parts sx;have ok:=Z gc;have Gr:Hid (eE V S p):=Z ((x2.ch z (fun h=>h)).ch cq (et _ (by have:=pa.out;omega)));have GQ:Hid ((b' p).length=ce*7):=Z (by rw[lU,p8];omega);go_region_held_law (fun w'=>w'.cell? ⟨w.heap.size+2,0,none⟩=some (.slice (some (S,0)) ce pc)/\w'.cell? ⟨w.heap.size+2,1,none⟩=some (.int .i64 en)/\w'.cell? ⟨w.heap.size+2,2,none⟩=some (.int .i64 f)/\w'.cell? ⟨w.heap.size+2,3,none⟩=some (.int .i64 t)) (go_keep) ((refine step_append_grows (by rfl) _ _ 30 (by rfl) 121 hf _ 7 56 underlying30 ok.out gs gt he (by rfl) (by omega) _ 0 0 [] (by rfl) (fun h=>⟨rfl,rfl⟩) (by rfl) (fun _ _ _ _ h=>by cases h) ⟨S,0,none⟩ ce pc (b' p) (by rfl) GQ.out (ud (fun j u gf=>(Gr.out.ch (show Ch ag V _ by repeat(first|exact Ch.refl _ _|with_reducible refine Ch.drew ?_|with_reducible refine Ch.alloc ?_ _)) (fun h=>h)).cell j u gf)) (mo p) (by have:=B3.out;omega) (by have:=B3.out;unfold maxLen;omega) (by have:=B3.out;omega) ?_;intro G0 cW kd k5;have A:Hid (Ch ag V cW):=Z ((show Ch ag V _ by repeat(first|exact Ch.refl _ _|with_reducible refine Ch.drew ?_|with_reducible refine Ch.alloc ?_ _)).trans ((Ch.bQ k5).mono (fun i E=>by cases E)));obtain⟨c3,i7,tb,rfl,hA1,hA2,hA3,hA4,hA5⟩:=aS kd (by have:=B3.out;omega);have pp:=Z hA4;have hv:=Z (And.intro hA1 hA2);have a0:=A.out.k tl;have a1:=A.out.k tm;have a2:=A.out.k ni;have a3:=A.out.k tr;have Hz:=(al.out.ch A.out (fun h=>h)).pc (i:=3) rfl;have Iv:=(al.out.ch A.out (fun h=>h)).pc (i:=4) rfl;have Iw:=(al.out.ch A.out (fun h=>h)).pc (i:=5) rfl;have Ix:=(al.out.ch A.out (fun h=>h)).pc (i:=6) rfl;have f3:=(al.out.ch A.out (fun h=>h)).fz 3;have f4:=(al.out.ch A.out (fun h=>h)).fz 4;have f5:=(al.out.ch A.out (fun h=>h)).fz 5;have f6:=(al.out.ch A.out (fun h=>h)).fz 6;clear kd k5 hA1 hA2 hA3 hA4 hA5))
    all_goals(go_wp2_with fail;go_meet)
    all_goals
     have ih:V.heap.size<=c3:=Nat.le_trans ((show Ch ag V _ by repeat(first|exact Ch.refl _ _|with_reducible refine Ch.drew ?_|with_reducible refine Ch.alloc ?_ _))).size hv.out.1;have qc:mb<V.heap.size:=al.lt;have c5:Ch (aK mb) cW ((((cW.setCell (mb,3) (.slice (some (c3,0)) ce i7)).setCell (mb,4) (.int .i64 en)).setCell (mb,5) (.int .i64 f)).setCell (mb,6) (.int .i64 t)):=((((Ch.refl _ _).only _ _).only _ _).only _ _).only _ _;refine⟨c3,i7,((((al.ch A (fun h=>h)).tP (i:=3) (by omega) _).tP (i:=4) (by omega) _).tP (i:=5) (by omega) _).tP (i:=6) (by omega) _,⟨⟨tb,?_⟩,?_,ih⟩,A.af.trans c5⟩
     ·exact pp.ch c5 (fun e=>by have:c3=mb:=e;omega)
     ·have:=hv.2;omega
   case rest=>
    obtain⟨mc,i6,s6,kw,rt⟩:=hcut;obtain⟨hl,FV⟩:=nm wc;rw[FV]at s6 kw rt⊢;have ww:=Z s6;have Gw:=Z kw;have hw:=Z rt;clear s6 kw rt FV tl tm ni tr;obtain⟨pre,st⟩:=nm ([Value.slice (some (i4,0)) c1 eW,loop,.slice (some (i5,0)) D fb,.slice (some (mc,0)) ce i6,en,.int .i64 f,.int .i64 t]);have pi:=Z st;have nx:Hid (Ch (aK mb) d hl):=Z (cq.trans hw);have cm:=Z et;have GY:=Z ((av.ch z (fun h=>h)).ch nx (et _ (by omega)));have mp:=ww.out;have mp:NM hl mb pre (List.replicate 1000 0) [.pointer none,.pointer none,bf bi,.pointer none,.pointer none,.pointer none,.pointer none,.map (some am),.slice (some (o,0)) n n,.int .i64 0,.int .i64 0,.int .i64 0,.int .u64 0,.slice none 0 0]:=by rw[<-st];exact ww
    obtain⟨post,sl⟩:=nm ([.pointer none,.pointer none,bf bi,.pointer none,.pointer none,.pointer none,.pointer none,.map (some am),.slice (some (o,0)) n n,.int .i64 0,.int .i64 0,.int .i64 0,.int .u64 0,.slice none 0 0]);rw[sl]at mp;have bw:=Z sl;have Gk:=Z mp;have Gh:Hid (Row hl gk 49 (calls.flatMap br.cells++cQ)):=Z ((on.ch z (fun h=>h)).ch nx (et _ (by have:=pa.2.2;omega)));have ni:=GY.k 2 rfl;have Ib:(D:Int)<=100000:=by have:=B2.out;omega
    clear mp st sl et;go_wp2_with fail
    go_loopg [99] (D+1) (fun r5 i wr=>∃k:Nat,k<=D/\r5=D-k+1/\i=.int .i64 k/\Hid (NM wr mb pre (fC calls k) post)/\Hid (Ch (aK mb) hl wr))
    case atStart=>exact⟨0,by omega,by omega,rfl,Gk,Z (Ch.refl _ _)⟩
    case round=>
     obtain⟨k,Hi,rfl,rfl,eC,li⟩:=hrel;by_cases n1:k<D
     ·obtain⟨X,k4⟩:∃X,calls[k]?=some X:=⟨_,List.getElem?_eq_getElem (by rw[<-eA];exact n1)⟩
      have HW:=Z k4;have ge:Hid (Row wr gk 49 (calls.flatMap br.cells++cQ)):=Z (Gh.ch li (cm _ (by have:=pa.2.2;omega)));have cC:∀j v,j<6->X.cells[j]?=some v->wr.cell? ⟨gk,k*6+j,none⟩=some v:=fun j v He Hq=>ge.out.cell (by
       rw[List.getElem?_append_left (by
        rw[kR,<-eA];have:(k+1)*6<=D*6:=Nat.mul_le_mul_right _ n1;omega)]
       exact(bP br.len k4 He).trans Hq)
      have s7:=Gn X (List.mem_of_getElem? k4);have F6:fC calls (k+1)=(fC calls k).set X.num.toNat ((k:Int)+1):=by
       rw[fC,List.getD_eq_getElem?_getD,k4];rfl
      obtain⟨num,at_,k0,k1,k2,k3⟩:=X;obtain⟨m,rfl⟩:∃m:Nat,num=m:=⟨num.toNat,by have:=s7.1;dsimp only at this;omega⟩;have FL:m<1000:=by have:=s7.2;dsimp only at this;omega
      have Ig:(m:Int)<1000:=by omega
      have If:(0:Int)<=m:=by omega
      have Gd:=Z F6;have AC:=cC 0 _ (by omega) rfl;have H0:=cC 1 _ (by omega) rfl;have H1:=cC 2 _ (by omega) rfl;have H2:=cC 3 _ (by omega) rfl;have H3:=cC 4 _ (by omega) rfl;have H4:=cC 5 _ (by omega) rfl;rw[Nat.add_zero]at AC;obtain⟨tg,hold⟩:∃tg,(fC calls k)[m]?=some tg:=⟨_,List.getElem?_eq_getElem (by rw[eC.n2];exact FL)⟩;have c2:=eC.rc hold;have H7:=eC.fz (7+m);have Ie:(k:Int)<D:=by omega
      have cL:=ge.out.lt;have ck:=eC.lt;clear cC k4 s7 F6 hold;go_wp2_with fail
      obtain⟨lb,go⟩:=nm (wr.alloc (.cells #[.int .i64 m,at_,k0,k1,k2,k3] 49));obtain⟨HN,sz⟩:=nm wr.heap.size;have Gz:Hid (Row lb HN 49 [.int .i64 m,at_,k0,k1,k2,k3]):=Z (by rw[<-go,<-sz];exact Row.new _ _ _);have x3:Hid (NM lb mb pre (fC calls k) post):=Z (by rw[<-go];exact eC.alloc _);have G5:Hid (Ch (aK mb) hl lb):=Z (by rw[<-go];exact li.alloc _);have x0:=Gz.c1;have I3:lb.cell? (mb,7+m)=some (.int .i64 tg):=by rw[<-go,World.cell?_alloc_past _ _ _ ck];exact c2
      have I7:=x3.fz (7+m);rw[go,sz];clear go sz cL ck AC H0 H1 H2 H3 H4 c2 H7;refine wp_region_still_tail 8 (by kernel_rfl) (by kernel_rfl) ?_;simp only[List.take_succ_cons,List.take_zero,List.drop_succ_cons,List.drop_zero]
      repeat still_step
      try refine wpStill_nil ?_
      change wpList _ _ _ _ _ lb.drew;go_wp2_with fail
      go_roundg (D-k)
      case measure=>omega
      case rel=>exact⟨k+1,by omega,by omega,by go_num,Z (by rw[Gd];exact x3.drew.au FL _),Z (G5.drew.only _ _)⟩
     ·have Hi:¬(k:Int)<D:=by omega
      have Hk:k=D:=by omega
      subst Hk;have Hr:∃F,F=wr:=⟨_,rfl⟩;obtain⟨F,rfl⟩:=Hr;have cl:Hid (Ch (aK mb) d F):=Z (nx.trans li);have GX:=Z ((l'.ch z (fun h=>h)).ch cl (cm _ (by omega)));have i9:¬aK mb w.heap.size:=cm _ (by omega);have I5:mb≠w.heap.size:=fun e=>i9 e.symm
      have I6:w.heap.size≠mb:=fun e=>i9 e
      go_wp2_with (first
       |(go_at_call 53;refine(sg _).mono ?_;rintro e dr ⟨rfl,Fy,mS⟩;have x4:=Z Fy;have v0:=Z mS;have Hc:=Z mS;have p1:=Z (eC.ch mS (fun h=>h));have HC:=p1.qc (j:=3) (by rw[<-bw];rfl);have HJ:=p1.fz 1010;clear Fy mS)
       |(go_at_call 54;refine(oJ _).mono ?_;rintro e ab ⟨qb,hi,cS,rfl,Fx,cf,ch,ci,mL⟩;have Gs:=Z Fx;have G9:=Z (And.intro cf (And.intro ch ci));have HU:=Z mL;have ll:Hid (Ch (aK mb) dr ab):=Z ((((Ch.refl _ _).only _ _)).trans mL.af);have ov:=Z ((p1.jZ 3 (bf (F.heap.size+1))).ch mL (fun h=>h));have HD:=ov.qc (j:=4) (by rw[<-bw];rfl);have HE:=ov.fz 1011;clear Fx mL cf ch ci)
       |(go_at_call 55;refine(qx _).mono ?_;rintro e M ⟨rfl,Fz,mW⟩;have Gx:=Z Fz;have HV:=Z mW;have hu:Hid (Ch (aK mb) ab M):=Z ((((Ch.refl _ _).only _ _)).trans mW.af);have p2:=Z ((ov.jZ 4 (bf qb)).ch mW (fun h=>h));have HF:=p2.qc (j:=5) (by rw[<-bw];rfl);have HG:=p2.fz 1012;clear Fz mW)
       |(go_at_call 56;refine(nX _).mono ?_;rintro e le ⟨rfl,Fr,mC⟩;have Gq:=Z Fr;have HT:=Z mC;have es:Hid (Ch (aK mb) M le):=Z ((((Ch.refl _ _).only _ _)).trans mC.af);have os:=Z ((p2.jZ 5 (bf _)).ch mC (fun h=>h));have HH:=os.qc (j:=6) (by rw[<-bw];rfl);have HI:=os.fz 1013;have HB:=((((GX.ch Hc.out (fun h=>h)).ch ll i9).ch hu i9).ch es i9).cell (i:=1) rfl;clear Fr mC)
       |fail)
      obtain⟨ty,nd⟩:=nm (le.setCell (mb,1013) (.pointer (some (M.heap.size+1,0))));have hF:=os.jZ 6 (bf (M.heap.size+1));rw[show le.setCell (mb,1007+6) (bf (M.heap.size+1))=ty from nd]at hF;have ec:Hid (Ch (aK mb) le ty):=Z (by rw[<-nd];exact(Ch.refl _ _).only _ _);obtain⟨FZ,s9⟩:∃q,(((post.set 3 (bf (F.heap.size+1))).set 4 (bf qb)).set 5 (bf (ab.heap.size+1))).set 6 (bf (M.heap.size+1))=q:=⟨_,rfl⟩;rw[s9]at hF;have i0:=Z s9;have hF:=Z hF;have wd:=zw mb pre (fC calls k) FZ o n f t tt ty hF ⟨by rw[<-i0,<-bw];rfl,by rw[<-pi];rfl,by rw[<-pi];rfl,cA.1,cA.2,by omega,lt.2.1,by omega,lt.2.2.2⟩ (by rw[<-i0,<-bw];simp) pl.1 pl.2 (by have:=i3.out;omega);rw[nd];clear nd s9 HC HJ HD HE HF HG HH HI HB
      (with_reducible refine wd.mono ?_)
      clear wd;rintro e c8 ⟨rfl,m,c,i8,eS,F7,FM,FA,cf,ch,ci,ii,FF⟩;have wn:=Z F7;have Gl:=Z FM;have Ga:=Z FA;have G8:=Z (And.intro cf (And.intro ch (And.intro ci ii)));have dN:=Z FF;clear F7 FM FA cf ch ci ii FF;have lm:Hid (Ch (aK mb) F c8):=Z (((((v0.af.trans ll).trans hu).trans es).trans ec).trans dN);have At:=Z (((av.ch z (fun h=>h)).ch cl (cm _ (by omega))).ch lm (cm _ (by omega)));have x1:=At.k 1 rfl;have Iz:=wn.qc (j:=8) (v:=.slice (some (o,0)) n n) (by rw[<-i0,<-bw];rfl);have cb:Hid (Ch (aK mb) w4 d):=Z ut.af;have EQ:o≠mb:=Row.ne c0 ap.row (by decide);have Gy:Hid (Row c8 o 148 ((qH n loop 0).flatMap fun x=>x.cells (.slice none 0 0))):=Z (c0.ch ((cb.trans cl).trans lm) (fun e=>EQ e));go_wp2_with fail
      go_loopg [150] (n+1) (fun r5 i wr=>∃q:Nat,q<=n/\r5=n-q+1/\i=.int .i64 q/\Hid (Row wr o 148 ((qH n loop q).flatMap fun x=>x.cells (.slice none 0 0)))/\Hid (Ch (aK o) c8 wr))
      case atStart=>exact⟨0,by omega,by omega,rfl,Gy,Z (Ch.refl _ _)⟩
      case round=>
       obtain⟨q,Ij,rfl,rfl,lv,H⟩:=hrel;have ID:=(At.ch H (fun e=>by have a:w.heap.size+1=o:=e;have c4:=eL.2.2.1;have r6:=Nat.lt_of_lt_of_le av.lt bv.size;omega)).cell (i:=1) rfl;have ws:=Z (wn.ch H (fun e=>EQ e.symm));have II:=ws.qc (j:=8) (v:=.slice (some (o,0)) n n) (by rw[<-i0,<-bw];rfl);by_cases n1:q<n
       ·have Hn:(q:Int)<n:=by omega
        have n2:=oi n loop q q n1;rw[if_neg (by omega)]at n2;have I4:wr.cell? ⟨o,q*38+4,none⟩=some (.int .i64 0):=lv.at (fun x=>ak.len (x,_)) n2 (by omega) rfl;have I8:=lv.free (q*38+4);have Gt:=Z n2;clear n2;go_wp2_with fail
        refine wp_region_still_tail 10 (by kernel_rfl) (by kernel_rfl) ?_;simp only[List.take_succ_cons,List.take_zero,List.drop_succ_cons,List.drop_zero]
        repeat still_step
        try refine wpStill_nil ?_
        change wpList _ _ _ _ _ wr.drew;go_wp2_with fail
        go_roundg (n-q)
        case measure=>omega
        case rel=>
         exact⟨q+1,by omega,by omega,by go_num,Z (lv.drew.put (fun x=>ak.len (x,_)) Gt (by omega) rfl),Z (H.drew.only _ _)⟩
       ·have Hn:¬(q:Int)<n:=by omega
        have Ho:q=n:=by omega
        subst Ho;have wk:Hid (mb<F.heap.size/\o<F.heap.size):=Z ⟨Nat.lt_of_lt_of_le ap.lt (Nat.le_trans cb.size cl.size),Nat.lt_of_lt_of_le c0.lt (Nat.le_trans cb.size cl.size)⟩;have us:Hid (Ch (aK mb) w4 c8):=Z ((cb.trans cl).trans lm);have d1:bi≠mb:=Row.ne ad.head ap.row (by decide);have d2:fd≠mb:=Row.ne ad.heap.head ap.row (by decide);have d3:mb≠c2:=fU ap.row ad.heap.map;have d4:mb≠fn:=fU ap.row ad.ff;have d5:mb≠am:=fU ap.row ls;have ih:bi≠o:=Row.ne ad.head c0 (by decide);have pu:fd≠o:=Row.ne ad.heap.head c0 (by decide);have pv:o≠c2:=fU c0 ad.heap.map;have qc:o≠fn:=fU c0 ad.ff;have H6:o≠am:=fU c0 ls;have GF:Hid (aX wr bi fd c2 fn (.slice none 0 0) aN.new):=Z ((ad.ch us d1 d2 (fun e=>d3 e.symm) (fun e=>d4 e.symm) (fun g I=>by cases I)).ch H ih pu (fun e=>pv e.symm) (fun e=>qc e.symm) (fun g I=>by cases I));have GL:Hid (bH (α:=Nat) wr am .u64 bf []):=Z ((ls.ch us (fun e=>d5 e.symm)).ch H (fun e=>H6 e.symm));have G:∀x,F.heap.size<=x->¬aK mb x/\¬aK o x:=fun x gr=>⟨fun e=>by have a:x=mb:=e;have:=wk.1;omega,fun e=>by have a:x=o:=e;have:=wk.2;omega⟩
        have IJ:=v0.size;have IP:=ll.size;have IN:=hu.size;have IQ:=es.size;have IL:=ec.size;have IM:=dN.size;have G6:Hid (Ch (aK mb) dr c8):=Z ((((ll.trans hu).trans es).trans ec).trans dN);have G4:Hid (Ch (aK mb) ab c8):=Z (((hu.trans es).trans ec).trans dN);have G7:Hid (Ch (aK mb) M c8):=Z ((es.trans ec).trans dN);have G3:Hid (Ch (aK mb) le c8):=Z (ec.trans dN);have GJ:Hid (eH wr (F.heap.size+1) F.heap.size []):=Z ((x4.ch G6 (G _ (by omega)).1 (G _ (by omega)).1).ch H (G _ (by omega)).2 (G _ (by omega)).2);have H8:=G9.out;have F':∀x,dr.heap.size<=x->¬aK mb x/\¬aK o x:=fun x gr=>G x (by omega)
        have qr:dr.heap.size<=qb/\dr.heap.size<=hi/\dr.heap.size<=cS:=by simpa using H8
        have GI:Hid (ig wr qb hi cS (List.replicate 8 [])):=Z (by
         have FB:∀i,QD qb hi cS (List.replicate 8 []) i->dr.heap.size<=i:=fun i E=>by
          rcases E with rfl|rfl|rfl|⟨s,Hp,_⟩
          ·exact qr.1
          ·exact qr.2.1
          ·exact qr.2.2
          ·have:s∈(List.replicate 8 ([]:List Sl)).flatten:=Hp
           simp at this
         exact(Gs.ch G4 (fun i E=>(F' i (FB i E)).1)).ch H (fun i E=>(F' i (FB i E)).2))
        have GK:=Z ((Gx.ch G7 (G _ (by simp;omega)).1 (G _ (by simp;omega)).1).ch H (G _ (by simp;omega)).2 (G _ (by simp;omega)).2);have GH:=Z ((Gq.ch G3 (G _ (by simp;omega)).1 (G _ (by simp;omega)).1).ch H (G _ (by simp;omega)).2 (G _ (by simp;omega)).2);have I9:=G8.out;have GG:=Z (Gl.ch H (G _ (by omega)).2 (G _ (by omega)).2 (G _ (by omega)).2);have GA:=Z (Ga.ch H (G _ (by omega)).2 (fun g I=>by cases I));have hn:Hid (Ch (aK mb) hl c8):=Z (li.trans lm);have IR:o<d.heap.size/\mb<d.heap.size:=⟨Nat.lt_of_lt_of_le c0.lt cb.size,Nat.lt_of_lt_of_le ap.lt cb.size⟩;have IG:=cq.size;have cL:=Gu.out;have ck:=Gv.out;have kw:=Gw.out;obtain⟨⟨Io,FG⟩,Hf,rd⟩:=cL;obtain⟨⟨Ip,FH⟩,Hg,re⟩:=ck;obtain⟨⟨Iq,FI⟩,Hh,Ic⟩:=kw;have cd:∀x,d.heap.size<=x->¬aK mb x/\¬aK o x:=fun x gr=>⟨fun e=>by have a:x=mb:=e;omega,fun e=>by have a:x=o:=e;omega⟩
        have GB:=Z (((FG.ch hw (cd _ rd).1).ch hn (cd _ rd).1).ch H (cd _ rd).2);have GC:=Z (((FH.ch hw (cd _ re).1).ch hn (cd _ re).1).ch H (cd _ re).2);have GD:=Z ((FI.ch hn (cd _ (by omega)).1).ch H (cd _ (by omega)).2);obtain⟨J,T⟩:=nm (ue l loop calls p en f t);have GM:Hid (Row wr o 148 ((List.replicate q (ak.new J.loop)).flatMap fun x=>x.cells (.slice none 0 0))):=Z (by
         have:=lv.out;rw[zQ]at this;rw[<-T];exact this)
        have F0:pre=ku J (lH mb m c i8 eS bi fd c2 fn (F.heap.size+1) F.heap.size qb hi cS (ab.heap.size+1) ab.heap.size (M.heap.size+1) M.heap.size am o i4 eW i5 fb mc i6):=by rw[<-pi,<-T,p3,eA,p8];rfl
        have F1:(FZ.set 0 (bf m)).set 1 (bf eS)=g0 (lH mb m c i8 eS bi fd c2 fn (F.heap.size+1) F.heap.size qb hi cS (ab.heap.size+1) ab.heap.size (M.heap.size+1) M.heap.size am o i4 eW i5 fb mc i6) (.slice none 0 0) q 0 0 0 0:=by rw[<-i0,<-bw];rfl
        have F2:fC calls k=J.rows:=by rw[<-T,eA];rfl
        have pm:=ws.out;rw[F0,F1,F2]at pm;have qm:J.wide.toNat=f:=by rw[<-T];exact Int.toNat_natCast f
        have ql:J.narrow.toNat=t:=by rw[<-T];exact Int.toNat_natCast t
        have x8:aO wr m c i8 (j2 J q tt).mem:=by show aO wr m c i8 (fQ tt q J.wide.toNat J.narrow.toNat);rw[qm,ql];exact GG
        have x7:aR wr eS m (.slice none 0 0) (j2 J q tt).blocks:=by show aR wr eS m (.slice none 0 0) ⟨17+8*q+J.wide.toNat+J.narrow.toNat,tt,[]⟩;rw[qm,ql];exact GA
        have IK:w.heap.size<=U.heap.size:=Nat.le_trans c9.size bv.size;have IE:U.heap.size<=d.heap.size:=Nat.le_trans Gb.size cb.size;have IH:=cl.size;have Ia:=eL.out;have Ir:=ad.heap.map.lt;have Is:=ad.ff.lt;have Iu:=ls.lt;have IF:=cb.size;have It:=x4.A0;have xs:aU wr (ab.heap.size+1) ab.heap.size (List.replicate 64 aD.zero):=by have h:=GK.out;rw[World.size_setCell]at h;exact h
        have x9:bL wr (M.heap.size+1) M.heap.size (List.replicate 64 bC.zero):=by have h:=GH.out;rw[World.size_setCell]at h;exact h
        have yk:=tT (B:=w.heap.size) (C:=J) (n:=q) (tt:=tt) cA.2 pm x8 x7 GF GJ GI xs x9 GL GM (by rw[<-T];exact GB) (by rw[<-T];exact GC) (by rw[<-T];exact GD)
         (by rw[<-T];show l.length<=eW;rw[<-p3];exact Hf) (by rw[<-T];show calls.length<=fb;rw[<-eA];exact Hg) (by rw[<-T];show p.length<=i6;rw[<-p8];exact Hh)
         (by omega) (fun e=>wv.1 e.symm) (fun e=>wv.2 e.symm) (by omega) (by omega) (by omega) (by omega) (by omega) (by omega) (by omega) (by omega) (by omega)
        have lo:=Z yk;have ob:=Z T;have io:=vp J q tt cA.1 cA.2 pl.2 (by rw[qm,ql];have:=i3.out;omega);obtain⟨G1,ne⟩:∃χ,hD wr w.heap.size F.heap.size am cS=χ:=⟨_,rfl⟩;rw[ne]at lo;have x6:Hid (∀i,G1 i≠ .no->w.heap.size<=i):=Z (fun i E=>by rw[<-ne]at E;exact(pn E).1);have Gp:Hid (g5 G1):=Z (fun i=>by rw[<-ne];exact tR i);obtain⟨y0,rc⟩:∃L,(lH mb m c i8 eS bi fd c2 fn (F.heap.size+1) F.heap.size qb hi cS (ab.heap.size+1) ab.heap.size (M.heap.size+1) M.heap.size am o i4 eW i5 fb mc i6)=L:=⟨_,rfl⟩;rw[rc]at lo;have s3:y0.mb=mb:=by rw[<-rc];rfl
        obtain⟨lw,rb⟩:∃K,j2 J q tt=K:=⟨_,rfl⟩;rw[rb]at lo io;have Gg:=Z rb;have FC:=io.bB.ok (by omega);have FD:=(mJ io.bB io.mem 1).1.ok (by omega);have rx:=io.fresh (by omega);have w0:=Z (uc en 0 FC FD rx lo);have Ge:=Z (kC (K:=lw) en 0 rx);rw[s3]at w0;have wl:=Z s3;have v1:Hid (Ch ag w wr):=Z (((c9.trans z).fresh ((cq.trans hw).trans hn) (fun x gr e=>(cm x (by omega)) e)).fresh H (fun x gr e=>by have a:x=o:=e;omega));have IC:=(((Q.ch z (fun h=>h)).ch ((cq.trans hw).trans hn) (cm _ (by omega))).ch H (fun e=>by have a:w.heap.size+2=o:=e;have r6:=Nat.lt_of_lt_of_le Q.lt bv.size;omega)).cell (i:=1) rfl;clear F0 F1 F2 pm x8 x7 xs x9 yk ne rc rb FC FD rx s3 T FG FH FI;go_wp2_with fail
        (with_reducible refine w0.out.mono ?_)
        rintro e lc ⟨rfl,IS,HX,a,FX⟩;have GR:=Z (FX Gp);clear FX;have v4:=Z a;have Ev:=a.at_.nr;rw[wl]at Ev;clear a;go_wp2_with fail
        (with_reducible refine(xp _ v4.out.at_).mono ?_)
        rintro e IB ⟨⟨v,rfl,_⟩,HR,G',c4,FY⟩;have GU:=Z (FY GR);clear FY;have v6:=Z (v4.trans Ge c4);clear c4 Ev;go_wp2_with fail
        go_ret2;have FW:=v6.nx;refine Or.inl ⟨i3,HR,y0,G',by rw[wl];rfl,?_,?_,GU,?_⟩
        ·have H5:hC (ue l loop calls p en f t) q tt={(bF lw en 0).2 with ring:=(g6 (bF lw en 0).2.ring (bF lw en 0).1).2}:=by rw[ob,<-Gg];unfold hC;rw[show J.entry=en by rw[<-ob];rfl]
         rw[H5,ob];exact v6.at_
        ·intro i E
         rcases Nat.lt_or_ge i wr.heap.size with h|h
         ·exact x6 i (by rw[<-FW.same i h];exact E)
         ·exact Nat.le_trans v1.size h
        ·exact v1.fresh FW.ch (fun x gr Hm=>by have:=x6 x Hm;omega)
end Go.Proofs.YtfnilkpkogipfaaGreatDoor
