import Derived.Deep.RegionWith
import Derived.Deep.RegionHeldLaw
import Derived.Deep.RegionLawGrows
import Derived.Test.YtfnilkpkogipfaaGreatDoorZBn
set_option linter.all false
set_option maxRecDepth 100000
set_option maxHeartbeats 8000000
namespace Go.Proofs.YtfnilkpkogipfaaGreatDoor
open Go.RowKit Go.Proofs.Tryz
theorem zK:(prog.info? 148).map (fun i=>(i.zero,i.size,i.bytes))=some (some (.agg (#[.int .u64 0,.int .u64 0,.bool false,.int .i64 0,.int .i64 0]++Array.replicate 32 (.int .u64 0)++#[.slice none 0 0])),38,320):=by kernel_rfl
theorem hU{l:List aV}{loop:Int}{calls:List br}(h:e2 l loop calls=true):0<l.length/\l.length<=2048:=by
 unfold e2 ja at h;simp only[Bool.and_eq_true,decide_eq_true_eq]at h;have a:=h.1.1.1;have b:=h.1.1.2.1;omega
def ak.zero:ak:=⟨0,0,false,0,⟨0,B4,[]⟩⟩
theorem sx:(prog.info? 121).map (fun i=>(i.zero,i.size,i.bytes))=some (some (.agg #[.int .i64 0,.int .i64 0,.int .i64 0,.int .i64 0,.int .u64 0,.int .i64 0,.int .i64 0]),7,56):=by kernel_rfl
theorem zL:(prog.info? 49).map (fun i=>(i.zero,i.size,i.bytes))=some (some (.agg #[.int .i64 0,.int .i64 0,.int .i64 0,.int .i64 0,.int .i64 0,.int .i64 0]),6,48):=by kernel_rfl
theorem ud{a:World}{g:Nat}{L:List Value}(h:∀(j:Nat) (u:Value),L[j]?=some u->a.cell? ⟨g,j,none⟩=some u):∀(j:Nat) (u:Value),L[j]?=some u->a.cell? ((⟨g,0,none⟩:Addr).add j)=some u:=fun j u c=>by
 have b:(⟨g,0,none⟩:Addr).add j=⟨g,j,none⟩:=by unfold Addr.add;split<;>simp_all
 rw[b];exact h j u c
theorem mo(l:List aV):∀u∈b' l,u.oneCell'=true:=fun u b=>by
 obtain⟨X,_,a⟩:=List.mem_flatMap.1 b;have:u∈[Value.int .i64 X.op,X.a,X.b,X.c,.int .u64 X.v,X.m,X.wh]:=a;simp only[List.mem_cons,List.not_mem_nil,or_false]at this;rcases this with rfl|rfl|rfl|rfl|rfl|rfl|rfl<;>rfl
theorem zM(l:List br):∀u∈l.flatMap br.cells,u.oneCell'=true:=fun u b=>by
 obtain⟨X,_,a⟩:=List.mem_flatMap.1 b;simp only[br.cells,List.mem_cons,List.not_mem_nil,or_false]at a;rcases a with rfl|rfl|rfl|rfl|rfl|rfl<;>rfl
theorem kR(l:List br):(l.flatMap br.cells).length=l.length*6:=by
 rw[List.length_flatMap];simp only[br.len];rw[List.map_const',List.sum_replicate_nat]
def zN(w:World)(t:TypeId)(n:Nat)(b:List Value)(B c cap:Nat)(wc:World):Prop:=(∃a,Row wc c t (b++a))/\n<=cap/\B<=c
def E6(mb:Nat)(post:List Value)(rest:List Value)(loop:Int)(l:List aV)(calls:List br)(b a:Nat)(w wc:World):Prop:=
 ∃c e d f,NM wc mb ([.slice (some ⟨c,0,none⟩) b e,.int .i64 loop,.slice (some ⟨d,0,none⟩) a f]++rest) (List.replicate 1000 0) post/\zN w 121 b (b' l) w.heap.size c e wc/\zN w 49 a (calls.flatMap br.cells) w.heap.size d f wc/\Ch (aK mb) w wc
def jC(n:Nat)(w:World)(p:Value)(wc:World):Prop:=
 ∃mb a e b f c d,p=.pointer (some ⟨mb,0,none⟩)/\NM wc mb [.slice none 0 0,.int .i64 0,.slice none 0 0,.slice none 0 0,.int .i64 0,.int .i64 0,.int .i64 0] (List.replicate 1000 0)
  [.pointer none,.pointer none,bf b,.pointer none,.pointer none,.pointer none,.pointer none,.map (some a),.slice (some ⟨e,0,none⟩) n n,.int .i64 0,.int .i64 0,.int .i64 0,.int .u64 0,.slice none 0 0]/\
  bH (α:=Nat) wc a .u64 bf []/\Row wc e 148 ((List.replicate n ak.zero).flatMap fun x=>x.cells (.slice none 0 0))/\aX wc b f c d (.slice none 0 0) aN.new/\
  (w.heap.size<=mb/\w.heap.size<=a/\w.heap.size<=e/\w.heap.size<=b/\w.heap.size<=f/\w.heap.size<=c/\w.heap.size<=d)/\a≠c/\a≠d/\Ch ag w wc
theorem zO:Tryz.zeroCells137.toList=[.slice none 0 0,.int .i64 0,.slice none 0 0,.slice none 0 0,.int .i64 0,.int .i64 0,.int .i64 0]++((List.replicate 1000 (0:Int)).map (Value.int .i64)++[.pointer none,.pointer none,.pointer none,.pointer none,.pointer none,.pointer none,.pointer none,.map none,.slice none 0 0,.int .i64 0,.int .i64 0,.int .i64 0,.int .u64 0,.slice none 0 0]):=by kernel_rfl
theorem bH.py{α:Type}{w:World}{b:Nat}{q:IntKind}{enc:α->Value}{l:List (Int×α)}(h:bH w b q enc l):bH w.drew b q enc l:=h
theorem gB(a:World){k:Nat}(b:a.heap.size=k):bH (α:=Nat) (a.alloc (.map #[] 0)) k .u64 bf []:=⟨#[],0,by rw[<-b];exact heap_alloc_new a _,rfl⟩
theorem fB(a:World){k:Nat}(b:a.heap.size=k){cs:Array Value}{t:TypeId}{l:List Value}(h:cs.toList=l):Row (a.alloc (.cells cs t)) k t l:=by rw[<-b,<-h];exact Row.new a cs t
theorem zP(pre:List Value)(rows:List Int)(post:List Value)(j:Nat)(v:Value)(a:pre.length=7)(b:rows.length=1000):(pre++(rows.map (Value.int .i64)++post)).set (1007+j) v=pre++(rows.map (Value.int .i64)++post.set j v):=by
 rw[List.set_append_right _ _ (by rw[a];omega),a,List.set_append_right _ _ (by rw[List.length_map,b];omega),List.length_map,b,show 1007+j-7-1000=j by omega]
theorem jC.of{n:Nat}{w a:World}{b h f l i j k:Nat}(r:a.heap.size=k)(m:bH (α:=Nat) a b .u64 bf [])(o:Row a h 148 ((List.replicate n ak.zero).flatMap fun x=>x.cells (.slice none 0 0)))
 (p:aX a f l i j (.slice none 0 0) aN.new) (d:w.heap.size<=b/\w.heap.size<=h/\w.heap.size<=f/\w.heap.size<=l/\w.heap.size<=i/\w.heap.size<=j) (s:b≠i) (t:b≠j) (c:Ch ag w a):
 jC n w (.pointer (some (k,0))) (a.alloc (Obj.cells (((Tryz.zeroCells137.setIfInBounds 1014 (.map (some b))).setIfInBounds 1015 (.slice (some (h,0)) n n)).setIfInBounds 1009 (.pointer (some (f,0)))) 137)):=by
 subst r;refine⟨a.heap.size,b,h,f,l,i,j,rfl,⟨?_,rfl,by rw[List.length_replicate]⟩,m.alloc _,o.alloc _,p.ch (c:=(Ch.refl (fun _=>False) a).alloc _) (fun e=>e) (fun e=>e) (fun e=>e) (fun e=>e) (fun g q=>by cases q),⟨c.size,d.1,d.2.1,d.2.2.1,d.2.2.2.1,d.2.2.2.2.1,d.2.2.2.2.2⟩,s,t,c.alloc _⟩;have:=Row.new a (((Tryz.zeroCells137.setIfInBounds 1014 (.map (some b))).setIfInBounds 1015 (.slice (some (h,0)) n n)).setIfInBounds 1009 (.pointer (some (f,0)))) 137;rw[Array.toList_setIfInBounds,Array.toList_setIfInBounds,Array.toList_setIfInBounds,zO,show 1014=1007+7 from rfl,show 1015=1007+8 from rfl,show 1009=1007+2 from rfl,zP _ _ _ _ _ rfl (List.length_replicate),zP _ _ _ _ _ rfl (List.length_replicate),zP _ _ _ _ _ rfl (List.length_replicate)]at this;exact this
def fC(l:List br):Nat->List Int
 |0=>List.replicate 1000 0
 |k+1=>(fC l k).set ((l.getD k default).num.toNat) ((k:Int)+1)
theorem oe{n:Int}:∀{l:List br} {s:List Bool},jb n l s=true->∀r∈l,1<=r.num/\r.num<=999
 |[],_,_=>fun r b=>by cases b
 |x::l,s,h=>fun r b=>by
  rw[jb,Bool.and_eq_true]at h;rcases List.mem_cons.1 b with rfl|c
  ·have a:=h.1
   unfold gl at a;simp only[Bool.and_eq_true,decide_eq_true_eq]at a;exact a.1.1.1
  ·exact oe h.2 r c
theorem pz{l:List aV}{loop:Int}{calls:List br}(h:e2 l loop calls=true):∀r∈calls,1<=r.num/\r.num<=999:=by
 unfold e2 at h;rw[Bool.and_eq_true]at h;exact oe h.2
def qH(n:Nat)(loop:Int):Nat->List ak
 |0=>List.replicate n ak.zero
 |k+1=>(qH n loop k).set k (ak.new loop)
theorem oh(n:Nat)(loop:Int):∀k,(qH n loop k).length=n
 |0=>List.length_replicate
 |k+1=>by rw[qH,List.length_set];exact oh n loop k
theorem oi(n:Nat)(loop:Int):∀k i,i<n->(qH n loop k)[i]?=some (if i<k then ak.new loop else ak.zero)
 |0,i,a=>by rw[qH,List.getElem?_replicate,if_pos a,if_neg (by omega)]
 |k+1,i,a=>by
  rw[qH,List.getElem?_set];split
  ·rename_i e;subst e;rw[oh,if_pos a,if_pos (by omega)]
  ·rw[oi n loop k i a]
   by_cases h:i<k
   ·rw[if_pos h,if_pos (by omega)]
   ·rw[if_neg h,if_neg (by omega)]
theorem zQ(n:Nat)(loop:Int):qH n loop n=List.replicate n (ak.new loop):=by
 apply List.ext_getElem?;intro i;by_cases a:i<n
 ·rw[oi n loop n i a,if_pos a,List.getElem?_replicate,if_pos a]
 ·rw[List.getElem?_eq_none (by rw[oh];omega),List.getElem?_eq_none (by rw[List.length_replicate];omega)]
theorem qI{l:List aV}{en b a:Int}(h:ei l en b a=true):0<=b/\b<=256/\0<=a/\a<=256:=by
 unfold ei at h;simp only[Bool.and_eq_true,decide_eq_true_eq]at h;obtain⟨⟨⟨c,d,e,f,_⟩,_⟩,_⟩:=h;omega
def Dl(C:KC)(n tt:Nat)(w:World)(e:Ending)(w':World):Prop:=
 ∃χ L Y,e=.returned (.tuple #[.pointer (some ⟨L.mb,0,none⟩),.nilIface])/\ae w' χ L Y C (hC C n tt)/\(∀i,χ i≠ .no->w.heap.size<=i)/\(∀i,χ i≠ .out)/\Ch ag w w'
theorem fU{α:Type}{d:World}{a b:Nat}{t:TypeId}{l:List Value}{q:IntKind}{enc:α->Value}{m:List (Int×α)}(h:Row d a t l)(g:bH d b q enc m):a≠b:=fun e=>by
 obtain⟨i,c,f,_⟩:=g;rw[<-e,show d.heap[a]?=some (.cells l.toArray t (0,0))from h]at f;cases f
def ue(l:List aV)(loop:Int)(calls:List br)(p:List aV)(en b a:Int):KC:=⟨l,loop,calls,p,en,b,a,fC calls calls.length⟩
def E7(mb:Nat)(post:List Value)(pre:List Value)(en e d:Int)(p:List aV)(a:Nat)(w wc:World):Prop:=
 ∃b c,NM wc mb (pre++[.slice (some ⟨b,0,none⟩) a c,.int .i64 en,.int .i64 e,.int .i64 d]) (List.replicate 1000 0) post/\zN w 121 a (b' p) w.heap.size b c wc/\Ch (aK mb) w wc
theorem jB{l:List aV}{en b a:Int}(h:ei l en b a=true):0<l.length/\l.length<=2048:=by
 unfold ei ja at h;simp only[Bool.and_eq_true,decide_eq_true_eq]at h;have c:=h.1.1;have d:=h.1.2.1;omega
theorem zR(n tt:Nat)(FM:1<=n/\n<=64)(FR:1<=tt/\tt<=65536)(l:List aV)(R:Nat)(c7:Nat)(loop:Int)(calls:List br)(gk:Nat)(c6:Nat)(p:List aV)(S:Nat)(pc:Nat)(en:Int)(t z:Nat)
 (FJ:l.length<=c7) (Hi:calls.length<=c6) (FO:p.length<=pc) (rt:calls.length<=100000) (FI:0<calls.length) (w:World) (rx:eE w R l) (s5:eE w S p)
 (k5:∃cQ,Row w gk 49 (calls.flatMap br.cells++cQ))
 (mc:e2 l loop calls=true) (mk:ei p en t z=true) (FP:17+8*n+t+z+1<=tt)
 (I:w.cell? (0,0)=some (.iface 335 (.agg #[(1,40)]))):
 Calls prog 11 #[.agg #[.int .i64 n,.int .i64 tt],.agg #[.slice (some (R,0)) l.length c7,loop,.slice (some (gk,0)) calls.length c6],.agg #[.slice (some (S,0)) p.length pc,en,.int .i64 t,.int .i64 z]] w (Dl (ue l loop calls p en t z) n tt w):=by
 obtain⟨cQ,k5⟩:=k5;obtain⟨w1,kf⟩:=nm (((w.alloc (.cells #[.int .i64 n,.int .i64 tt] 43)).alloc (.cells #[.slice (some (R,0)) l.length c7,loop,.slice (some (gk,0)) calls.length c6] 33)).alloc (.cells #[.slice (some (S,0)) p.length pc,en,.int .i64 t,.int .i64 z] 36));have ck:Hid (Ch ag w w1):=Z (by rw[<-kf];exact(((Ch.refl _ _).alloc _).alloc _).alloc _);have lv:Hid (Row w1 w.heap.size 43 [.int .i64 n,.int .i64 tt]):=Z (by rw[<-kf];exact((Row.new w _ _).alloc _).alloc _);have av:Hid (Row w1 (w.heap.size+1) 33 [.slice (some (R,0)) l.length c7,loop,.slice (some (gk,0)) calls.length c6]):=Z (by
  rw[<-kf];have:=Row.new (w.alloc (.cells #[.int .i64 n,.int .i64 tt] 43)) #[.slice (some (R,0)) l.length c7,loop,.slice (some (gk,0)) calls.length c6] 33;rw[World.size_alloc]at this;exact this.alloc _)
 have Q:Hid (Row w1 (w.heap.size+2) 36 [.slice (some (S,0)) p.length pc,en,.int .i64 t,.int .i64 z]):=Z (by
  rw[<-kf];have:=Row.new ((w.alloc (.cells #[.int .i64 n,.int .i64 tt] 43)).alloc (.cells #[.slice (some (R,0)) l.length c7,loop,.slice (some (gk,0)) calls.length c6] 33)) #[.slice (some (S,0)) p.length pc,en,.int .i64 t,.int .i64 z] 36;rw[World.size_alloc,World.size_alloc]at this;exact this)
 have wb:Hid (eE w1 R l):=Z (rx.ch ck (fun h=>h));have wv:Hid (eE w1 S p):=Z (s5.ch ck (fun h=>h));have ob:Hid (Row w1 gk 49 (calls.flatMap br.cells++cQ)):=Z (k5.ch ck (fun h=>h));have nx:Hid (w1.cell? (0,0)=some (.iface 335 (.agg #[(1,40)]))):=Z (ck.k I);have hw:=jc l (some ⟨R,0,none⟩) c7 loop calls (some ⟨gk,0,none⟩) c6 FJ rt w1 (fun _=>⟨R,rfl,wb⟩) (fun _=>⟨gk,cQ,rfl,ob⟩) nx;rw[mc]at hw;have hw:=Z hw;have v6:Hid (∀w2,Ch ag w1 w2->Calls prog 51 #[.agg #[.slice (some (S,0)) p.length pc,en,.int .i64 t,.int .i64 z]] w2 (qz true w2)):=Z (fun w2 c5=>by
  have:=jd p (some ⟨S,0,none⟩) pc en t z FO w2 (fun _=>⟨S,rfl,wv.ch c5 (fun h=>h)⟩) ((c5.cell (aE nx) (fun h=>h)).trans nx)
  rwa [mk]at this)
 obtain⟨c1,ip⟩:=mn l.length;obtain⟨D,io⟩:=mn calls.length;obtain⟨cd,it⟩:=mn p.length;have p2:Hid (S<w.heap.size/\R<w.heap.size/\gk<w.heap.size):=Z ⟨s5.lt,rx.lt,k5.lt⟩;have Gm:=Z (pz mc);have ww:=Z (qI mk);have ov:=Z ip;have eA:=Z io;have p1:=Z it;rw[<-ip,<-io]at av hw;rw[<-it]at Q v6;rw[<-ip,<-io,<-it]at kf⊢;have cA:=Z FM;have p8:=Z FR;have i0:=Z FP;obtain⟨sC,Ix⟩:=lv.c2;obtain⟨t10,t11,t12⟩:=av.c3;obtain⟨t20,t21,t22,t23⟩:=Q.c4;have F8:0<c1/\c1<=2048:=by rw[ip];exact hU mc
 have F7:0<D/\D<=100000:=by rw[io];exact⟨FI,rt⟩
 have B3:Hid (0<cd/\cd<=2048):=Z (by rw[it];exact jB mk);have B1:=Z F8;have B2:=Z F7;have i1:(1:Int)<=n:=by omega
 have i2:(n:Int)<=64:=by omega
 have Ii:(1:Int)<=tt:=by omega
 have Ij:(tt:Int)<=65536:=by omega
 clear F8 F7 ip io it FI FJ Hi FO rt rx s5 k5 mc mk I FM FR FP;go_enter func11,ntmps11
 go_wp2_with (first|(go_at_call 50;refine hw.mono ?_;rintro e w2 ⟨⟨y,rfl,sl⟩,fr⟩;obtain rfl:y=.nilIface:=sl;have tr:=Z fr;have u20:=(Q.ch fr (fun h=>h)).cell (i:=0) rfl;have u21:=(Q.ch fr (fun h=>h)).cell (i:=1) rfl;have u22:=(Q.ch fr (fun h=>h)).cell (i:=2) rfl;have u23:=(Q.ch fr (fun h=>h)).cell (i:=3) rfl;clear fr)|(go_at_call 51;refine(v6 _ tr).mono ?_;rintro e U ⟨⟨y,rfl,sl⟩,FD⟩;obtain rfl:y=.nilIface:=sl;have bv:=Z (tr.trans FD);clear FD))
 obtain⟨hf,gc,gs,gt,he⟩:=info_parts zK;have Hk:=fun w=>run_make (P:=prog) w 127 148 hf _ underlying127 gc gs .i64 .i64 (n:Int) (n:Int) (by omega) (by omega) (by rw[he];omega) (by omega)
 obtain⟨cs,mS⟩:=nm (madeCells (Value.agg (#[.int .u64 0,.int .u64 0,.bool false,.int .i64 0,.int .i64 0]++Array.replicate 32 (.int .u64 0)++#[.slice none 0 0])).cells ((n:Int).toNat*hf.size));simp only[mS]at Hk;rw[gt,Int.toNat_natCast]at mS;have Gb:=Z mS;have ex:Hid (cs.toList=(List.replicate n ak.zero).flatMap fun x=>x.cells (.slice none 0 0)):=Z (by
  rw[<-Gb];exact gP (enc:=fun x:ak=>x.cells (.slice none 0 0)) (k:=38) (fun x=>ak.len (x,_)) (by omega) ak.zero _ rfl n)
 have Ie:= @run_makeMap prog;clear mS gc gs gt he;have sC:=lv.c1;have tm:U.cell? ⟨w.heap.size,0,none⟩=some (.int .i64 n):=bv.k sC;clear sC;go_cut [10] (fun p wc=>jC n U p wc)
 case first=>
  have kw:=World.new_ne U ⟨w.heap.size,0,none⟩ tm;have kT:w.heap.size<U.heap.size:=aE tm;go_region_held3 (fun w'=>w'.cell? ⟨w.heap.size,0,none⟩=some (.int .i64 n)) (go_keep) ((go_at_call 52;refine(ki _).mono ?_;rintro e d ⟨b,hb,mb,qb,rfl,fz,ce,cf,ch,ih,rc⟩;have Y:=Z fz;have o:Hid (Ch ag U d):=Z (Ch.trans (by repeat(first|exact Ch.refl _ _|with_reducible refine Ch.drew ?_|with_reducible refine Ch.alloc ?_ _)) rc);have dC:=Z rc;have W:=Z (And.intro ce (And.intro cf (And.intro ch ih)));have x5:=o.out.k tm;clear fz rc ce cf ch ih))
  all_goals(go_wp2_with fail;go_meet)
  ·exact jC.of (by simp) (((gB U rfl).alloc _).py.ch dC (fun h=>h)) ((fB (U.alloc (.map #[] 0)) (k:=U.heap.size+1) (by simp) ex).drew.ch dC (fun h=>h)) Y (by have a:=W.out;simp only[World.size_alloc,World.size_drew]at a;omega) (by have a:=W.out;simp only[World.size_alloc,World.size_drew]at a;omega) (by have a:=W.out;simp only[World.size_alloc,World.size_drew]at a;omega) o
  ·exact jC.of (by simp) ((((gB U rfl)).py.ch dC (fun h=>h)).alloc _) (fB _ rfl ex) (Y.ch (c:=(Ch.refl (fun _=>False) d).alloc _) (fun e=>e) (fun e=>e) (fun e=>e) (fun e=>e) (fun g I=>by cases I)) (by have a:=W.out;have c4:=o.size;simp only[World.size_alloc,World.size_drew]at a;omega) (by have a:=W.out;simp only[World.size_alloc,World.size_drew]at a;omega) (by have a:=W.out;simp only[World.size_alloc,World.size_drew]at a;omega) (o.alloc _)
  ·exact jC.of (by simp) ((gB (U.alloc (.cells cs 148)) (k:=U.heap.size+1) (by simp)).py.ch dC (fun h=>h)) (((fB _ rfl ex).alloc _).drew.ch dC (fun h=>h)) Y (by have a:=W.out;simp only[World.size_alloc,World.size_drew]at a;omega) (by have a:=W.out;simp only[World.size_alloc,World.size_drew]at a;omega) (by have a:=W.out;simp only[World.size_alloc,World.size_drew]at a;omega) o
  ·exact jC.of (by simp) (gB _ rfl) (((fB _ rfl ex).drew.ch dC (fun h=>h)).alloc _) (Y.ch (c:=(Ch.refl (fun _=>False) d).alloc _) (fun e=>e) (fun e=>e) (fun e=>e) (fun e=>e) (fun g I=>by cases I)) (by have a:=W.out;have c4:=o.size;simp only[World.size_alloc,World.size_drew]at a;omega) (by have:=Y.heap.map.lt;omega) (by have:=Y.ff.lt;omega) (o.alloc _)
  ·exact jC.of (by simp) ((gB _ rfl).alloc _) (fB (d.alloc (.map #[] 0)) (k:=d.heap.size+1) (by simp) ex) (Y.ch (c:=((Ch.refl (fun _=>False) d).alloc _).alloc _) (fun e=>e) (fun e=>e) (fun e=>e) (fun e=>e) (fun g I=>by cases I)) (by have a:=W.out;have c4:=o.size;simp only[World.size_alloc,World.size_drew]at a;omega) (by have:=Y.heap.map.lt;omega) (by have:=Y.ff.lt;omega) ((o.alloc _).alloc _)
  ·exact jC.of (by simp) (gB (d.alloc (.cells cs 148)) (k:=d.heap.size+1) (by simp)) ((fB _ rfl ex).alloc _) (Y.ch (c:=((Ch.refl (fun _=>False) d).alloc _).alloc _) (fun e=>e) (fun e=>e) (fun e=>e) (fun e=>e) (fun g I=>by cases I)) (by have a:=W.out;have c4:=o.size;simp only[World.size_alloc,World.size_drew]at a;omega) (by have:=Y.heap.map.lt;omega) (by have:=Y.ff.lt;omega) ((o.alloc _).alloc _)
 case rest=>
  obtain⟨mb,am,f,bi,fd,c2,fn,rfl,s1,r',ge,fz,FQ,kw,kT,mp⟩:=hcut;obtain⟨w4,FS⟩:=nm wc;rw[FS]at s1 r' ge fz mp⊢;have ap:=Z s1;have lc:Hid (Ch ag w1 w4):=Z (bv.trans mp.af);have eL:=Z FQ;have lo:=Z r';have c0:=Z ge;have ad:=Z fz;have wn:=Z (And.intro kw kT);have Ga:=Z mp;clear s1 r' ge fz FQ kw kT mp FS;have Gl:=Z (fun(w:World) pre rows post (h:NM w mb pre rows post) (r:NR pre post f n 0 0)=>lG h r);have v4:=Z (Gl w4.drew _ _ _ ap.drew ⟨rfl,rfl,rfl,cA.1,cA.2,by omega,by omega,by omega,by omega⟩);have HL:=((lv.ch lc (fun h=>h)).cell (i:=1) rfl);have HM:=((Q.ch lc (fun h=>h)).cell (i:=2) rfl);have HN:=((Q.ch lc (fun h=>h)).cell (i:=3) rfl);have Ho:¬((tt:Int)<17+8*(n:Int)+t+z+1):=by have:=i0.out;omega
  have Ih:(t:Int)<=65536:=by have:=i0.out;omega
  have If:(z:Int)<=65536:=by have:=i0.out;omega
  go_wp2_with fail
  have Iz:IntKind.i64.wrap (17+8*(n:Int)+t)=17+8*(n:Int)+t:=IntWalk.i64_in _ (by omega);have IA:IntKind.i64.wrap (17+8*(n:Int)+t+z)=17+8*(n:Int)+t+z:=IntWalk.i64_in _ (by omega);have IB:IntKind.i64.wrap (17+8*(n:Int)+t+z+1)=17+8*(n:Int)+t+z+1:=IntWalk.i64_in _ (by omega);refine wp_region_still (by kernel_rfl) (by kernel_rfl) ?_;try simp only[]
  repeat still_step
  still_call (bZ v4)
  repeat still_step
  try refine wpStill_nil ?_
  go_wp2_with fail
  any_goals (first|(exfalso;omega)|skip)
  change Code.wp _ _ _ _ w4.drew;obtain⟨d,n1⟩:=nm w4.drew;have o:Hid (Ch ag w1 d):=Z (by rw[<-n1];exact lc.drew);have un:Hid (Ch ag w4 d):=Z (by rw[<-n1];exact(Ch.refl _ _).drew);have N:=Z (ap.ch un (fun h=>h));rw[n1];clear n1 HL HM HN v4 Ho;have ne:=((av.ch o (fun h=>h)).cell (i:=0) rfl);have ni:=((av.ch o (fun h=>h)).cell (i:=1) rfl);have no:=((av.ch o (fun h=>h)).cell (i:=2) rfl);go_cut [] (fun wc=>E6 mb [.pointer none,.pointer none,bf bi,.pointer none,.pointer none,.pointer none,.pointer none,.map (some am),.slice (some (f,0)) n n,.int .i64 0,.int .i64 0,.int .i64 0,.int .u64 0,.slice none 0 0] [.slice none 0 0,.int .i64 0,.int .i64 0,.int .i64 0] loop l calls c1 D d wc)
  case first=>
   have Hw:=N.pc (i:=0) rfl;have Hx:=N.pc (i:=1) rfl;have Hy:=N.pc (i:=2) rfl;have f0:=N.fz 0;have f1:=N.fz 1;have f2:=N.fz 2;have H8:w.heap.size+1<mb:=Nat.lt_of_lt_of_le av.lt (Nat.le_trans bv.size eL.1);have d1:mb≠w.heap.size+1:=by omega
   have d2:w.heap.size+1≠mb:=by omega
   have kw:=World.new_ne d _ ne;have kT:=World.new_ne d _ ni;have HA:=World.new_ne d _ no;obtain⟨hf,gc,gs,gt,he⟩:=info_parts sx;obtain⟨i1,Hc,Hs,Ht,Hu⟩:=info_parts zL;have nC:=Z gc;have Ge:=Z Hc;have Gi:Hid (eE d R l):=Z (wb.ch o (fun h=>h));have Gh:Hid (Row d gk 49 (calls.flatMap br.cells++cQ)):=Z (ob.ch o (fun h=>h));have GM:Hid ((b' l).length=c1*7):=Z (by rw[lU,ov];omega);have GN:Hid ((calls.flatMap br.cells).length=D*6):=Z (by rw[kR,eA]);go_region_held_law (fun w'=>w'.cell? ⟨w.heap.size+1,0,none⟩=some (.slice (some (R,0)) c1 c7)/\w'.cell? ⟨w.heap.size+1,1,none⟩=some (.int .i64 loop)/\w'.cell? ⟨w.heap.size+1,2,none⟩=some (.slice (some (gk,0)) D c6)) (go_keep) (first
    |(refine step_append_grows (by rfl) _ _ 30 (by rfl) 121 hf _ 7 56 underlying30 nC.out gs gt he (by rfl) (by omega) _ 0 0 [] (by rfl) (fun h=>⟨rfl,rfl⟩) (by rfl) (fun _ _ _ _ h=>by cases h) ⟨R,0,none⟩ c1 c7 (b' l) (by rfl) GM.out (ud (fun j u gf=>(Gi.out.ch (show Ch ag d _ by repeat(first|exact Ch.refl _ _|exact O.out|with_reducible refine Ch.drew ?_|with_reducible refine Ch.alloc ?_ _)) (fun h=>h)).cell j u gf)) (mo l) (by have:=B1.out;omega) (by have:=B1.out;unfold maxLen;omega) (by have:=B1.out;omega) ?_;intro F' cW kb k4;have A:Hid (Ch ag d cW):=Z ((show Ch ag d _ by repeat(first|exact Ch.refl _ _|exact O.out|with_reducible refine Ch.drew ?_|with_reducible refine Ch.alloc ?_ _)).trans ((Ch.bQ k4).mono (fun i E=>by cases E)));obtain⟨c3,i6,st,rfl,hA1,hA2,hA3,hA4,hA5⟩:=aS kb (by have:=B1.out;omega);have pi:=Z hA4;have hu:=Z (And.intro hA1 hA2);have HV:=A.out.k ne;have HW:=A.out.k ni;have HX:=A.out.k no;clear kb k4 hA1 hA2 hA3 hA4 hA5)
    |(refine step_append_grows (by rfl) _ _ 31 (by rfl) 49 i1 _ 6 48 underlying31 Ge.out Hs Ht Hu (by rfl) (by omega) _ 0 0 [] (by rfl) (fun h=>⟨rfl,rfl⟩) (by rfl) (fun _ _ _ _ h=>by cases h) ⟨gk,0,none⟩ D c6 (calls.flatMap br.cells) (by rfl) GN.out (ud (fun j u gf=>(Gh.out.ch (show Ch ag d _ by repeat(first|exact Ch.refl _ _|exact A.out|with_reducible refine Ch.drew ?_|with_reducible refine Ch.alloc ?_ _)) (fun h=>h)).cell (by rw[List.getElem?_append_left (List.getElem?_eq_some_iff.1 gf).1];exact gf))) (zM calls) (by have:=B2.out;omega) (by have:=B2.out;unfold maxLen;omega) (by have:=B2.out;omega) ?_;intro F' l1 FN ro;have O:Hid (Ch ag d l1):=Z ((show Ch ag d _ by repeat(first|exact Ch.refl _ _|exact A.out|with_reducible refine Ch.drew ?_|with_reducible refine Ch.alloc ?_ _)).trans ((Ch.bQ ro).mono (fun i E=>by cases E)));obtain⟨l',AC,Hv,rfl,F2,F3,H9,F4,Ha⟩:=aS FN (by have:=B2.out;omega);have GU:=Z F4;have ut:=Z (And.intro F2 F3);have G1:=Z (Ch.bQ ro);have HY:=O.out.k ne;have HZ:=O.out.k ni;have H':=O.out.k no;have Hw:=(N.out.ch O.out (fun h=>h)).pc (i:=0) rfl;have Hx:=(N.out.ch O.out (fun h=>h)).pc (i:=1) rfl;have Hy:=(N.out.ch O.out (fun h=>h)).pc (i:=2) rfl;have f0:=(N.out.ch O.out (fun h=>h)).fz 0;have f1:=(N.out.ch O.out (fun h=>h)).fz 1;have f2:=(N.out.ch O.out (fun h=>h)).fz 2;clear FN ro F2 F3 H9 F4 Ha))
   all_goals(go_wp2_with fail;go_meet)
   all_goals
    have i9:d.heap.size<=c3:=Nat.le_trans ((show Ch ag d _ by repeat(first|exact Ch.refl _ _|exact A.out|with_reducible refine Ch.drew ?_|with_reducible refine Ch.alloc ?_ _))).size hu.out.1;have pl:d.heap.size<=l':=Nat.le_trans ((show Ch ag d _ by repeat(first|exact Ch.refl _ _|exact A.out|with_reducible refine Ch.drew ?_|with_reducible refine Ch.alloc ?_ _))).size ut.out.1;have pm:Ch ag cW l1:=((show Ch ag cW _ by repeat(first|exact Ch.refl _ _|exact A.out|with_reducible refine Ch.drew ?_|with_reducible refine Ch.alloc ?_ _))).trans (G1.out.mono (fun i E=>by cases E));have pp:mb<d.heap.size:=N.lt;have c5:Ch (aK mb) l1 (((l1.setCell (mb,0) (.slice (some (c3,0)) c1 i6)).setCell (mb,1) (.int .i64 loop)).setCell (mb,2) (.slice (some (l',0)) D AC)):=(((Ch.refl _ _).only _ _).only _ _).only _ _;refine⟨c3,i6,l',AC,(((N.ch O (fun h=>h)).tP (i:=0) (by omega) _).tP (i:=1) (by omega) _).tP (i:=2) (by omega) _,⟨⟨st,?_⟩,?_,i9⟩,⟨⟨Hv,?_⟩,?_,pl⟩,O.af.trans c5⟩
    ·exact(pi.ch pm (fun h=>h)).ch c5 (fun e=>by have:c3=mb:=e;omega)
    ·have:=hu.2;omega
    ·exact GU.ch c5 (fun e=>by have:l'=mb:=e;omega)
    ·have:=ut.2;omega
  case rest=>
   obtain⟨i3,eW,i4,fb,s2,cL,ci,rd⟩:=hcut;obtain⟨V,FT⟩:=nm wc;rw[FT]at s2 cL ci rd⊢;have al:=Z s2;have Gt:=Z cL;have Gu:=Z ci;have cq:=Z rd;clear s2 cL ci rd FT ne ni no;have HP:Hid (Ch ag w V):=Z ((ck.trans o).fresh cq (fun b hb e=>by have a:b=mb:=e;have c4:=eL.1;have qm:=Nat.lt_of_lt_of_le av.lt bv.size;omega));have et:∀x,x<w.heap.size+3->¬aK mb x:=fun x gr e=>by have a:x=mb:=e;have c4:=eL.1;have qm:=Nat.lt_of_lt_of_le Q.lt bv.size;omega
   have GY:=Z ((Q.ch o (fun h=>h)).ch cq (et _ (by omega)));obtain⟨tb,tg,nd,th⟩:=GY.c4;go_wp2_with fail
   go_cut [] (fun wc=>E7 mb [.pointer none,.pointer none,bf bi,.pointer none,.pointer none,.pointer none,.pointer none,.map (some am),.slice (some (f,0)) n n,.int .i64 0,.int .i64 0,.int .i64 0,.int .u64 0,.slice none 0 0] [.slice (some (i3,0)) c1 eW,loop,.slice (some (i4,0)) D fb] en t z p cd V wc)
   case first=>
    have Hz:=al.pc (i:=3) rfl;have H8:w.heap.size+2<mb:=Nat.lt_of_lt_of_le Q.lt (Nat.le_trans bv.size eL.1);have d1:mb≠w.heap.size+2:=by omega
    have d2:w.heap.size+2≠mb:=by omega
    have d3:mb≠w.heap.size+1+1:=by omega
    have d4:w.heap.size+1+1≠mb:=by omega
    have kw:=World.new_ne V _ tb;have kT:=World.new_ne V _ tg;have HA:=World.new_ne V _ nd;have Iv:=World.new_ne V _ th;obtain⟨hf,gc,gs,gt,he⟩:=info_parts sx;have nC:=Z gc;have Gq:Hid (eE V S p):=Z ((wv.ch o (fun h=>h)).ch cq (et _ (by have:=p2.out;omega)));have GO:Hid ((b' p).length=cd*7):=Z (by rw[lU,p1];omega);go_region_held_law (fun w'=>w'.cell? ⟨w.heap.size+2,0,none⟩=some (.slice (some (S,0)) cd pc)/\w'.cell? ⟨w.heap.size+2,1,none⟩=some (.int .i64 en)/\w'.cell? ⟨w.heap.size+2,2,none⟩=some (.int .i64 t)/\w'.cell? ⟨w.heap.size+2,3,none⟩=some (.int .i64 z)) (go_keep) ((refine step_append_grows (by rfl) _ _ 30 (by rfl) 121 hf _ 7 56 underlying30 nC.out gs gt he (by rfl) (by omega) _ 0 0 [] (by rfl) (fun h=>⟨rfl,rfl⟩) (by rfl) (fun _ _ _ _ h=>by cases h) ⟨S,0,none⟩ cd pc (b' p) (by rfl) GO.out (ud (fun j u gf=>(Gq.out.ch (show Ch ag V _ by repeat(first|exact Ch.refl _ _|with_reducible refine Ch.drew ?_|with_reducible refine Ch.alloc ?_ _)) (fun h=>h)).cell j u gf)) (mo p) (by have:=B3.out;omega) (by have:=B3.out;unfold maxLen;omega) (by have:=B3.out;omega) ?_;intro F' cW kb k4;have A:Hid (Ch ag V cW):=Z ((show Ch ag V _ by repeat(first|exact Ch.refl _ _|with_reducible refine Ch.drew ?_|with_reducible refine Ch.alloc ?_ _)).trans ((Ch.bQ k4).mono (fun i E=>by cases E)));obtain⟨c3,i6,st,rfl,hA1,hA2,hA3,hA4,hA5⟩:=aS kb (by have:=B3.out;omega);have pi:=Z hA4;have hu:=Z (And.intro hA1 hA2);have a0:=A.out.k tb;have a1:=A.out.k tg;have a2:=A.out.k nd;have a3:=A.out.k th;have Hz:=(al.out.ch A.out (fun h=>h)).pc (i:=3) rfl;have Is:=(al.out.ch A.out (fun h=>h)).pc (i:=4) rfl;have It:=(al.out.ch A.out (fun h=>h)).pc (i:=5) rfl;have Iu:=(al.out.ch A.out (fun h=>h)).pc (i:=6) rfl;have f3:=(al.out.ch A.out (fun h=>h)).fz 3;have f4:=(al.out.ch A.out (fun h=>h)).fz 4;have f5:=(al.out.ch A.out (fun h=>h)).fz 5;have f6:=(al.out.ch A.out (fun h=>h)).fz 6;clear kb k4 hA1 hA2 hA3 hA4 hA5))
    all_goals(go_wp2_with fail;go_meet)
    all_goals
     have i9:V.heap.size<=c3:=Nat.le_trans ((show Ch ag V _ by repeat(first|exact Ch.refl _ _|with_reducible refine Ch.drew ?_|with_reducible refine Ch.alloc ?_ _))).size hu.out.1;have pp:mb<V.heap.size:=al.lt;have c5:Ch (aK mb) cW ((((cW.setCell (mb,3) (.slice (some (c3,0)) cd i6)).setCell (mb,4) (.int .i64 en)).setCell (mb,5) (.int .i64 t)).setCell (mb,6) (.int .i64 z)):=((((Ch.refl _ _).only _ _).only _ _).only _ _).only _ _;refine⟨c3,i6,((((al.ch A (fun h=>h)).tP (i:=3) (by omega) _).tP (i:=4) (by omega) _).tP (i:=5) (by omega) _).tP (i:=6) (by omega) _,⟨⟨st,?_⟩,?_,i9⟩,A.af.trans c5⟩
     ·exact pi.ch c5 (fun e=>by have:c3=mb:=e;omega)
     ·have:=hu.2;omega
   case rest=>
    obtain⟨lw,i5,s3,kd,re⟩:=hcut;obtain⟨hl,FU⟩:=nm wc;rw[FU]at s3 kd re⊢;have ws:=Z s3;have Gv:=Z kd;have hv:=Z re;clear s3 kd re FU tb tg nd th;obtain⟨pre,s8⟩:=nm ([Value.slice (some (i3,0)) c1 eW,loop,.slice (some (i4,0)) D fb,.slice (some (lw,0)) cd i5,en,.int .i64 t,.int .i64 z]);have p3:=Z s8;have nq:Hid (Ch (aK mb) d hl):=Z (cq.trans hv);have cm:=Z et;have GX:=Z ((av.ch o (fun h=>h)).ch nq (et _ (by omega)));have md:=ws.out;have md:NM hl mb pre (List.replicate 1000 0) [.pointer none,.pointer none,bf bi,.pointer none,.pointer none,.pointer none,.pointer none,.map (some am),.slice (some (f,0)) n n,.int .i64 0,.int .i64 0,.int .i64 0,.int .u64 0,.slice none 0 0]:=by rw[<-s8];exact ws
    obtain⟨post,s7⟩:=nm ([.pointer none,.pointer none,bf bi,.pointer none,.pointer none,.pointer none,.pointer none,.map (some am),.slice (some (f,0)) n n,.int .i64 0,.int .i64 0,.int .i64 0,.int .u64 0,.slice none 0 0]);rw[s7]at md;have bw:=Z s7;have Gj:=Z md;have Gg:Hid (Row hl gk 49 (calls.flatMap br.cells++cQ)):=Z ((ob.ch o (fun h=>h)).ch nq (et _ (by have:=p2.2.2;omega)));have nd:=GX.k 2 rfl;have I8:(D:Int)<=100000:=by have:=B2.out;omega
    clear md s8 s7 et;go_wp2_with fail
    go_loopg [99] (D+1) (fun ql i wr=>∃k:Nat,k<=D/\ql=D-k+1/\i=.int .i64 k/\Hid (NM wr mb pre (fC calls k) post)/\Hid (Ch (aK mb) hl wr))
    case atStart=>exact⟨0,by omega,by omega,rfl,Gj,Z (Ch.refl _ _)⟩
    case round=>
     obtain⟨k,Hh,rfl,rfl,eC,le⟩:=hrel;by_cases mW:k<D
     ·obtain⟨X,jp⟩:∃X,calls[k]?=some X:=⟨_,List.getElem?_eq_getElem (by rw[<-eA];exact mW)⟩
      have HT:=Z jp;have ge:Hid (Row wr gk 49 (calls.flatMap br.cells++cQ)):=Z (Gg.ch le (cm _ (by have:=p2.2.2;omega)));have cC:∀j v,j<6->X.cells[j]?=some v->wr.cell? ⟨gk,k*6+j,none⟩=some v:=fun j v Hd Hq=>ge.out.cell (by
       rw[List.getElem?_append_left (by
        rw[kR,<-eA];have:(k+1)*6<=D*6:=Nat.mul_le_mul_right _ mW;omega)]
       exact(bP br.len jp Hd).trans Hq)
      have s4:=Gm X (List.mem_of_getElem? jp);have F5:fC calls (k+1)=(fC calls k).set X.num.toNat ((k:Int)+1):=by
       rw[fC,List.getD_eq_getElem?_getD,jp];rfl
      obtain⟨num,at_,k0,k1,k2,k3⟩:=X;obtain⟨m,rfl⟩:∃m:Nat,num=m:=⟨num.toNat,by have:=s4.1;dsimp only at this;omega⟩;have FK:m<1000:=by have:=s4.2;dsimp only at this;omega
      have Ic:(m:Int)<1000:=by omega
      have Ib:(0:Int)<=m:=by omega
      have Gc:=Z F5;have At:=cC 0 _ (by omega) rfl;have G':=cC 1 _ (by omega) rfl;have H0:=cC 2 _ (by omega) rfl;have H1:=cC 3 _ (by omega) rfl;have H2:=cC 4 _ (by omega) rfl;have H3:=cC 5 _ (by omega) rfl;rw[Nat.add_zero]at At;obtain⟨sz,hold⟩:∃sz,(fC calls k)[m]?=some sz:=⟨_,List.getElem?_eq_getElem (by rw[eC.n2];exact FK)⟩;have c2:=eC.rc hold;have H6:=eC.fz (7+m);have Ia:(k:Int)<D:=by omega
      have cL:=ge.out.lt;have ci:=eC.lt;clear cC jp s4 F5 hold;go_wp2_with fail
      obtain⟨l0,go⟩:=nm (wr.alloc (.cells #[.int .i64 m,at_,k0,k1,k2,k3] 49));obtain⟨HK,s9⟩:=nm wr.heap.size;have Gy:Hid (Row l0 HK 49 [.int .i64 m,at_,k0,k1,k2,k3]):=Z (by rw[<-go,<-s9];exact Row.new _ _ _);have x2:Hid (NM l0 mb pre (fC calls k) post):=Z (by rw[<-go];exact eC.alloc _);have G4:Hid (Ch (aK mb) hl l0):=Z (by rw[<-go];exact le.alloc _);have x0:=Gy.c1;have I0:l0.cell? (mb,7+m)=some (.int .i64 sz):=by rw[<-go,World.cell?_alloc_past _ _ _ ci];exact c2
      have I4:=x2.fz (7+m);rw[go,s9];clear go s9 cL ci At G' H0 H1 H2 H3 c2 H6;refine wp_region_still_tail 8 (by kernel_rfl) (by kernel_rfl) ?_;simp only[List.take_succ_cons,List.take_zero,List.drop_succ_cons,List.drop_zero]
      repeat still_step
      try refine wpStill_nil ?_
      change wpList _ _ _ _ _ l0.drew;go_wp2_with fail
      go_roundg (D-k)
      case measure=>omega
      case rel=>exact⟨k+1,by omega,by omega,by go_num,Z (by rw[Gc];exact x2.drew.au FK _),Z (G4.drew.only _ _)⟩
     ·have Hh:¬(k:Int)<D:=by omega
      have Hj:k=D:=by omega
      subst Hj;have Hr:∃F,F=wr:=⟨_,rfl⟩;obtain⟨F,rfl⟩:=Hr;have cl:Hid (Ch (aK mb) d F):=Z (nq.trans le);have GV:=Z ((lv.ch o (fun h=>h)).ch cl (cm _ (by omega)));have i8:¬aK mb w.heap.size:=cm _ (by omega);have I2:mb≠w.heap.size:=fun e=>i8 e.symm
      have I3:w.heap.size≠mb:=fun e=>i8 e
      go_wp2_with (first
       |(go_at_call 53;refine(sg _).mono ?_;rintro e dr ⟨rfl,Fx,mC⟩;have x3:=Z Fx;have up:=Z mC;have Hb:=Z mC;have on:=Z (eC.ch mC (fun h=>h));have HC:=on.qc (j:=3) (by rw[<-bw];rfl);have HJ:=on.fz 1010;clear Fx mC)
       |(go_at_call 54;refine(oJ _).mono ?_;rintro e ab ⟨qb,hi,cS,rfl,Fr,ce,cf,ch,mA⟩;have Gr:=Z Fr;have G8:=Z (And.intro ce (And.intro cf ch));have HR:=Z mA;have li:Hid (Ch (aK mb) dr ab):=Z ((((Ch.refl _ _).only _ _)).trans mA.af);have ok:=Z ((on.jZ 3 (bf (F.heap.size+1))).ch mA (fun h=>h));have HD:=ok.qc (j:=4) (by rw[<-bw];rfl);have HE:=ok.fz 1011;clear Fr mA ce cf ch)
       |(go_at_call 55;refine(qx _).mono ?_;rintro e M ⟨rfl,Fy,mL⟩;have Gw:=Z Fy;have HS:=Z mL;have hn:Hid (Ch (aK mb) ab M):=Z ((((Ch.refl _ _).only _ _)).trans mL.af);have os:=Z ((ok.jZ 4 (bf qb)).ch mL (fun h=>h));have HF:=os.qc (j:=5) (by rw[<-bw];rfl);have HG:=os.fz 1012;clear Fy mL)
       |(go_at_call 56;refine(nX _).mono ?_;rintro e lb ⟨rfl,F9,ms⟩;have Gp:=Z F9;have HQ:=Z ms;have es:Hid (Ch (aK mb) M lb):=Z ((((Ch.refl _ _).only _ _)).trans ms.af);have og:=Z ((os.jZ 5 (bf _)).ch ms (fun h=>h));have HH:=og.qc (j:=6) (by rw[<-bw];rfl);have HI:=og.fz 1013;have HB:=((((GV.ch Hb.out (fun h=>h)).ch li i8).ch hn i8).ch es i8).cell (i:=1) rfl;clear F9 ms)
       |fail)
      obtain⟨tl,n2⟩:=nm (lb.setCell (mb,1013) (.pointer (some (M.heap.size+1,0))));have hB:=og.jZ 6 (bf (M.heap.size+1));rw[show lb.setCell (mb,1007+6) (bf (M.heap.size+1))=tl from n2]at hB;have ec:Hid (Ch (aK mb) lb tl):=Z (by rw[<-n2];exact(Ch.refl _ _).only _ _);obtain⟨FY,s6⟩:∃q,(((post.set 3 (bf (F.heap.size+1))).set 4 (bf qb)).set 5 (bf (ab.heap.size+1))).set 6 (bf (M.heap.size+1))=q:=⟨_,rfl⟩;rw[s6]at hB;have hF:=Z s6;have hB:=Z hB;have w0:=zw mb pre (fC calls k) FY f n t z tt tl hB ⟨by rw[<-hF,<-bw];rfl,by rw[<-p3];rfl,by rw[<-p3];rfl,cA.1,cA.2,by omega,ww.2.1,by omega,ww.2.2.2⟩ (by rw[<-hF,<-bw];simp) p8.1 p8.2 (by have:=i0.out;omega);rw[n2];clear n2 s6 HC HJ HD HE HF HG HH HI HB
      (with_reducible refine w0.mono ?_)
      clear w0;rintro e c8 ⟨rfl,m,c,i7,eS,F6,FL,Fz,ce,cf,ch,ih,FE⟩;have wk:=Z F6;have Gk:=Z FL;have G9:=Z Fz;have G7:=Z (And.intro ce (And.intro cf (And.intro ch ih)));have dN:=Z FE;clear F6 FL Fz ce cf ch ih FE;have ll:Hid (Ch (aK mb) F c8):=Z (((((up.af.trans li).trans hn).trans es).trans ec).trans dN);have yk:=Z (((av.ch o (fun h=>h)).ch cl (cm _ (by omega))).ch ll (cm _ (by omega)));have x1:=yk.k 1 rfl;have Iw:=wk.qc (j:=8) (v:=.slice (some (f,0)) n n) (by rw[<-hF,<-bw];rfl);have c9:Hid (Ch (aK mb) w4 d):=Z un.af;have Ev:f≠mb:=Row.ne c0 ap.row (by decide);have Gx:Hid (Row c8 f 148 ((qH n loop 0).flatMap fun x=>x.cells (.slice none 0 0))):=Z (c0.ch ((c9.trans cl).trans ll) (fun e=>Ev e));go_wp2_with fail
      go_loopg [150] (n+1) (fun ql i wr=>∃q:Nat,q<=n/\ql=n-q+1/\i=.int .i64 q/\Hid (Row wr f 148 ((qH n loop q).flatMap fun x=>x.cells (.slice none 0 0)))/\Hid (Ch (aK f) c8 wr))
      case atStart=>exact⟨0,by omega,by omega,rfl,Gx,Z (Ch.refl _ _)⟩
      case round=>
       obtain⟨q,Ig,rfl,rfl,ls,H⟩:=hrel;have ID:=(yk.ch H (fun e=>by have a:w.heap.size+1=f:=e;have c4:=eL.2.2.1;have qm:=Nat.lt_of_lt_of_le av.lt bv.size;omega)).cell (i:=1) rfl;have wl:=Z (wk.ch H (fun e=>Ev e.symm));have II:=wl.qc (j:=8) (v:=.slice (some (f,0)) n n) (by rw[<-hF,<-bw];rfl);by_cases mW:q<n
       ·have Hm:(q:Int)<n:=by omega
        have n0:=oi n loop q q mW;rw[if_neg (by omega)]at n0;have I1:wr.cell? ⟨f,q*38+4,none⟩=some (.int .i64 0):=ls.at (fun x=>ak.len (x,_)) n0 (by omega) rfl;have I5:=ls.free (q*38+4);have Gs:=Z n0;clear n0;go_wp2_with fail
        refine wp_region_still_tail 10 (by kernel_rfl) (by kernel_rfl) ?_;simp only[List.take_succ_cons,List.take_zero,List.drop_succ_cons,List.drop_zero]
        repeat still_step
        try refine wpStill_nil ?_
        change wpList _ _ _ _ _ wr.drew;go_wp2_with fail
        go_roundg (n-q)
        case measure=>omega
        case rel=>
         exact⟨q+1,by omega,by omega,by go_num,Z (ls.drew.put (fun x=>ak.len (x,_)) Gs (by omega) rfl),Z (H.drew.only _ _)⟩
       ·have Hm:¬(q:Int)<n:=by omega
        have Hn:q=n:=by omega
        subst Hn;have wd:Hid (mb<F.heap.size/\f<F.heap.size):=Z ⟨Nat.lt_of_lt_of_le ap.lt (Nat.le_trans c9.size cl.size),Nat.lt_of_lt_of_le c0.lt (Nat.le_trans c9.size cl.size)⟩;have ty:Hid (Ch (aK mb) w4 c8):=Z ((c9.trans cl).trans ll);have d1:bi≠mb:=Row.ne ad.head ap.row (by decide);have d2:fd≠mb:=Row.ne ad.heap.head ap.row (by decide);have d3:mb≠c2:=fU ap.row ad.heap.map;have d4:mb≠fn:=fU ap.row ad.ff;have d5:mb≠am:=fU ap.row lo;have i9:bi≠f:=Row.ne ad.head c0 (by decide);have pl:fd≠f:=Row.ne ad.heap.head c0 (by decide);have pm:f≠c2:=fU c0 ad.heap.map;have pp:f≠fn:=fU c0 ad.ff;have H5:f≠am:=fU c0 lo;have GD:Hid (aX wr bi fd c2 fn (.slice none 0 0) aN.new):=Z ((ad.ch ty d1 d2 (fun e=>d3 e.symm) (fun e=>d4 e.symm) (fun g I=>by cases I)).ch H i9 pl (fun e=>pm e.symm) (fun e=>pp e.symm) (fun g I=>by cases I));have GK:Hid (bH (α:=Nat) wr am .u64 bf []):=Z ((lo.ch ty (fun e=>d5 e.symm)).ch H (fun e=>H5 e.symm));have G:∀x,F.heap.size<=x->¬aK mb x/\¬aK f x:=fun x gr=>⟨fun e=>by have a:x=mb:=e;have:=wd.1;omega,fun e=>by have a:x=f:=e;have:=wd.2;omega⟩
        have IJ:=up.size;have IP:=li.size;have IN:=hn.size;have IQ:=es.size;have IL:=ec.size;have IM:=dN.size;have G5:Hid (Ch (aK mb) dr c8):=Z ((((li.trans hn).trans es).trans ec).trans dN);have G3:Hid (Ch (aK mb) ab c8):=Z (((hn.trans es).trans ec).trans dN);have G6:Hid (Ch (aK mb) M c8):=Z ((es.trans ec).trans dN);have G2:Hid (Ch (aK mb) lb c8):=Z (ec.trans dN);have GI:Hid (eH wr (F.heap.size+1) F.heap.size []):=Z ((x3.ch G5 (G _ (by omega)).1 (G _ (by omega)).1).ch H (G _ (by omega)).2 (G _ (by omega)).2);have H7:=G8.out;have FZ:∀x,dr.heap.size<=x->¬aK mb x/\¬aK f x:=fun x gr=>G x (by omega)
        have qc:dr.heap.size<=qb/\dr.heap.size<=hi/\dr.heap.size<=cS:=by simpa using H7
        have GH:Hid (ig wr qb hi cS (List.replicate 8 [])):=Z (by
         have FA:∀i,QD qb hi cS (List.replicate 8 []) i->dr.heap.size<=i:=fun i E=>by
          rcases E with rfl|rfl|rfl|⟨s,Hp,_⟩
          ·exact qc.1
          ·exact qc.2.1
          ·exact qc.2.2
          ·have:s∈(List.replicate 8 ([]:List Sl)).flatten:=Hp
           simp at this
         exact(Gr.ch G3 (fun i E=>(FZ i (FA i E)).1)).ch H (fun i E=>(FZ i (FA i E)).2))
        have GJ:=Z ((Gw.ch G6 (G _ (by simp;omega)).1 (G _ (by simp;omega)).1).ch H (G _ (by simp;omega)).2 (G _ (by simp;omega)).2);have GG:=Z ((Gp.ch G2 (G _ (by simp;omega)).1 (G _ (by simp;omega)).1).ch H (G _ (by simp;omega)).2 (G _ (by simp;omega)).2);have I6:=G7.out;have GF:=Z (Gk.ch H (G _ (by omega)).2 (G _ (by omega)).2 (G _ (by omega)).2);have Gz:=Z (G9.ch H (G _ (by omega)).2 (fun g I=>by cases I));have hm:Hid (Ch (aK mb) hl c8):=Z (le.trans ll);have IR:f<d.heap.size/\mb<d.heap.size:=⟨Nat.lt_of_lt_of_le c0.lt c9.size,Nat.lt_of_lt_of_le ap.lt c9.size⟩;have IG:=cq.size;have cL:=Gt.out;have ci:=Gu.out;have kd:=Gv.out;obtain⟨⟨Ik,FF⟩,He,r6⟩:=cL;obtain⟨⟨Il,FG⟩,Hf,rb⟩:=ci;obtain⟨⟨Im,FH⟩,Hg,I9⟩:=kd;have cb:∀x,d.heap.size<=x->¬aK mb x/\¬aK f x:=fun x gr=>⟨fun e=>by have a:x=mb:=e;omega,fun e=>by have a:x=f:=e;omega⟩
        have GA:=Z (((FF.ch hv (cb _ r6).1).ch hm (cb _ r6).1).ch H (cb _ r6).2);have GB:=Z (((FG.ch hv (cb _ rb).1).ch hm (cb _ rb).1).ch H (cb _ rb).2);have GC:=Z ((FH.ch hm (cb _ (by omega)).1).ch H (cb _ (by omega)).2);obtain⟨J,T⟩:=nm (ue l loop calls p en t z);have GL:Hid (Row wr f 148 ((List.replicate q (ak.new J.loop)).flatMap fun x=>x.cells (.slice none 0 0))):=Z (by
         have:=ls.out;rw[zQ]at this;rw[<-T];exact this)
        have EQ:pre=ku J (lH mb m c i7 eS bi fd c2 fn (F.heap.size+1) F.heap.size qb hi cS (ab.heap.size+1) ab.heap.size (M.heap.size+1) M.heap.size am f i3 eW i4 fb lw i5):=by rw[<-p3,<-T,ov,eA,p1];rfl
        have F0:(FY.set 0 (bf m)).set 1 (bf eS)=g0 (lH mb m c i7 eS bi fd c2 fn (F.heap.size+1) F.heap.size qb hi cS (ab.heap.size+1) ab.heap.size (M.heap.size+1) M.heap.size am f i3 eW i4 fb lw i5) (.slice none 0 0) q 0 0 0 0:=by rw[<-hF,<-bw];rfl
        have F1:fC calls k=J.rows:=by rw[<-T,eA];rfl
        have pa:=wl.out;rw[EQ,F0,F1]at pa;have pv:J.wide.toNat=t:=by rw[<-T];exact Int.toNat_natCast t
        have pu:J.narrow.toNat=z:=by rw[<-T];exact Int.toNat_natCast z
        have x7:aO wr m c i7 (j2 J q tt).mem:=by show aO wr m c i7 (fQ tt q J.wide.toNat J.narrow.toNat);rw[pv,pu];exact GF
        have x6:aR wr eS m (.slice none 0 0) (j2 J q tt).blocks:=by show aR wr eS m (.slice none 0 0) ⟨17+8*q+J.wide.toNat+J.narrow.toNat,tt,[]⟩;rw[pv,pu];exact Gz
        have IK:w.heap.size<=U.heap.size:=Nat.le_trans ck.size bv.size;have IE:U.heap.size<=d.heap.size:=Nat.le_trans Ga.size c9.size;have IH:=cl.size;have I7:=eL.out;have Io:=ad.heap.map.lt;have Ip:=ad.ff.lt;have Ir:=lo.lt;have IF:=c9.size;have Iq:=x3.A0;have x9:aU wr (ab.heap.size+1) ab.heap.size (List.replicate 64 aD.zero):=by have h:=GJ.out;rw[World.size_setCell]at h;exact h
        have x8:bL wr (M.heap.size+1) M.heap.size (List.replicate 64 bC.zero):=by have h:=GG.out;rw[World.size_setCell]at h;exact h
        have y0:=tT (B:=w.heap.size) (C:=J) (n:=q) (tt:=tt) cA.2 pa x7 x6 GD GI GH x9 x8 GK GL (by rw[<-T];exact GA) (by rw[<-T];exact GB) (by rw[<-T];exact GC)
         (by rw[<-T];show l.length<=eW;rw[<-ov];exact He) (by rw[<-T];show calls.length<=fb;rw[<-eA];exact Hf) (by rw[<-T];show p.length<=i5;rw[<-p1];exact Hg)
         (by omega) (fun e=>wn.1 e.symm) (fun e=>wn.2 e.symm) (by omega) (by omega) (by omega) (by omega) (by omega) (by omega) (by omega) (by omega) (by omega)
        have lm:=Z y0;have nw:=Z T;have ii:=vp J q tt cA.1 cA.2 p8.2 (by rw[pv,pu];have:=i0.out;omega);obtain⟨G0,n8⟩:∃χ,hD wr w.heap.size F.heap.size am cS=χ:=⟨_,rfl⟩;rw[n8]at lm;have x4:Hid (∀i,G0 i≠ .no->w.heap.size<=i):=Z (fun i E=>by rw[<-n8]at E;exact(pn E).1);have Gn:Hid (g5 G0):=Z (fun i=>by rw[<-n8];exact tR i);obtain⟨xs,r5⟩:∃L,(lH mb m c i7 eS bi fd c2 fn (F.heap.size+1) F.heap.size qb hi cS (ab.heap.size+1) ab.heap.size (M.heap.size+1) M.heap.size am f i3 eW i4 fb lw i5)=L:=⟨_,rfl⟩;rw[r5]at lm;have s0:xs.mb=mb:=by rw[<-r5];rfl
        obtain⟨lt,qr⟩:∃K,j2 J q tt=K:=⟨_,rfl⟩;rw[qr]at lm ii;have Gf:=Z qr;have FB:=ii.bB.ok (by omega);have FC:=(mJ ii.bB ii.mem 1).1.ok (by omega);have rg:=ii.fresh (by omega);have v2:=Z (uc en 0 FB FC rg lm);have Gd:=Z (kC (K:=lt) en 0 rg);rw[s0]at v2;have wh:=Z s0;have us:Hid (Ch ag w wr):=Z (((ck.trans o).fresh ((cq.trans hv).trans hm) (fun x gr e=>(cm x (by omega)) e)).fresh H (fun x gr e=>by have a:x=f:=e;omega));have IC:=(((Q.ch o (fun h=>h)).ch ((cq.trans hv).trans hm) (cm _ (by omega))).ch H (fun e=>by have a:w.heap.size+2=f:=e;have qm:=Nat.lt_of_lt_of_le Q.lt bv.size;omega)).cell (i:=1) rfl;clear EQ F0 F1 pa x7 x6 x9 x8 y0 n8 r5 qr FB FC rg s0 T FF FG FH;go_wp2_with fail
        (with_reducible refine v2.out.mono ?_)
        rintro e l1 ⟨rfl,IS,HU,a,FW⟩;have GQ:=Z (FW Gn);clear FW;have v0:=Z a;have Do:=a.at_.nr;rw[wh]at Do;clear a;go_wp2_with fail
        (with_reducible refine(xp _ v0.out.at_).mono ?_)
        rintro e Iy ⟨⟨v,rfl,_⟩,HO,GZ,c4,FX⟩;have GR:=Z (FX GQ);clear FX;have v1:=Z (v0.trans Gd c4);clear c4 Do;go_wp2_with fail
        go_ret2;have FV:=v1.nx;refine⟨HO,xs,GZ,by rw[wh];rfl,?_,?_,GR,?_⟩
        ·have H4:hC (ue l loop calls p en t z) q tt={(bF lt en 0).2 with ring:=(g6 (bF lt en 0).2.ring (bF lt en 0).1).2}:=by rw[nw,<-Gf];unfold hC;rw[show J.entry=en by rw[<-nw];rfl]
         rw[H4,nw];exact v1.at_
        ·intro i E
         rcases Nat.lt_or_ge i wr.heap.size with h|h
         ·exact x4 i (by rw[<-FV.same i h];exact E)
         ·exact Nat.le_trans us.size h
        ·exact us.fresh FV.ch (fun x gr Hl=>by have:=x4 x Hl;omega)
end Go.Proofs.YtfnilkpkogipfaaGreatDoor
