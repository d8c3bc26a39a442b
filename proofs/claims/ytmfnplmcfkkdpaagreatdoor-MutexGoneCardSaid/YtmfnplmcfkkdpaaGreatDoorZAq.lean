import Derived.Deep.RegionWith
import Derived.Deep.RegionHeldLaw
import Derived.Deep.RegionLawGrows
import Derived.Test.YtmfnplmcfkkdpaaGreatDoorZAp
set_option linter.all false
set_option maxRecDepth 100000
set_option maxHeartbeats 0
namespace Go.Proofs.YtmfnplmcfkkdpaaGreatDoor
open Go.RowKit Go.Proofs.Tryz
variable{l:List be}{W w:World}{b k:Nat}{t:TypeId}{en na wi:Int}
theorem E1:(prog.info? 95).map (fun i=>(i.zero,i.size,i.bytes))=some (some (.agg (#[.int .u64 0,.int .u64 0,.bool false,.int .i64 0,.int .i64 0]++Array.replicate 32 (.int .u64 0)++#[.slice none 0 0])),38,320):=by kernel_rfl
theorem jX{loop:Int}{calls:List bB}(h:fG l loop calls=true):0<l.length/\l.length<=2048:=by
 unfold fG jw at h;simp only[Bool.and_eq_true,decide_eq_true_eq]at h;have a:=h.1.1.1;have c:=h.1.1.2.1;omega
def aC.zero:aC:=⟨0,0,false,0,⟨0,DE,[]⟩⟩
theorem tz:(prog.info? 152).map (fun i=>(i.zero,i.size,i.bytes))=some (some (.agg #[.int .i64 0,.int .i64 0,.int .i64 0,.int .i64 0,.int .u64 0,.int .i64 0,.int .i64 0]),7,56):=by kernel_rfl
theorem A3:(prog.info? 121).map (fun i=>(i.zero,i.size,i.bytes))=some (some (.agg #[.int .i64 0,.int .i64 0,.int .i64 0,.int .i64 0,.int .i64 0,.int .i64 0]),6,48):=by kernel_rfl
theorem ri{g:Nat}{L:List Value}(h:∀(j:Nat) (u:Value),L[j]?=some u->W.cell? ⟨g,j,none⟩=some u):∀(j:Nat) (u:Value),L[j]?=some u->W.cell? ((⟨g,0,none⟩:Addr).add j)=some u:=fun j u c=>by
 have a:(⟨g,0,none⟩:Addr).add j=⟨g,j,none⟩:=by unfold Addr.add;split<;>simp_all
 rw[a];exact h j u c
theorem jF(l:List be):∀u∈b4 l,u.oneCell'=true:=fun u c=>by
 obtain⟨X,_,a⟩:=List.mem_flatMap.1 c;have:u∈[Value.int .i64 X.op,X.a,X.b,X.c,.int .u64 X.v,X.m,X.wh]:=a;simp only[List.mem_cons,List.not_mem_nil,or_false]at this;rcases this with rfl|rfl|rfl|rfl|rfl|rfl|rfl<;>rfl
theorem A4(l:List bB):∀u∈l.flatMap bB.cells,u.oneCell'=true:=fun u c=>by
 obtain⟨X,_,a⟩:=List.mem_flatMap.1 c;simp only[bB.cells,List.mem_cons,List.not_mem_nil,or_false]at a;rcases a with rfl|rfl|rfl|rfl|rfl|rfl<;>rfl
theorem lr(l:List bB):(l.flatMap bB.cells).length=l.length*6:=by
 rw[List.length_flatMap];simp only[bB.len];rw[List.map_const',List.sum_replicate_nat]
def A5(w:World)(t:TypeId)(n:Nat)(xs:List Value)(B c cap:Nat)(wc:World):Prop:=(∃a,Row wc c t (xs++a))/\n<=cap/\B<=c
def Hf(mb:Nat)(post:List Value)(rest:List Value)(loop:Int)(l:List be)(calls:List bB)(c a:Nat)(w wc:World):Prop:=
 ∃d f e g,NM wc mb ([.slice (some ⟨d,0,none⟩) c f,.int .i64 loop,.slice (some ⟨e,0,none⟩) a g]++rest) (List.replicate 1000 0) post/\A5 w 152 c (b4 l) w.heap.size d f wc/\A5 w 121 a (calls.flatMap bB.cells) w.heap.size e g wc/\Ch (aH mb) w wc
def rj(n:Nat)(w:World)(p:Value)(wc:World):Prop:=
 ∃mb tm wb a e c d,p=.pointer (some ⟨mb,0,none⟩)/\NM wc mb [.slice none 0 0,.int .i64 0,.slice none 0 0,.slice none 0 0,.int .i64 0,.int .i64 0,.int .i64 0] (List.replicate 1000 0)
  [.pointer none,.pointer none,bk a,.pointer none,.pointer none,.pointer none,.pointer none,.map (some tm),.slice (some ⟨wb,0,none⟩) n n,.int .i64 0,.int .i64 0,.int .i64 0,.int .u64 0,.slice none 0 0]/\
  bS (α:=Nat) wc tm .u64 bk []/\Row wc wb 95 ((List.replicate n aC.zero).flatMap fun x=>x.cells (.slice none 0 0))/\aX wc a e c d (.slice none 0 0) aN.new/\
  (w.heap.size<=mb/\w.heap.size<=tm/\w.heap.size<=wb/\w.heap.size<=a/\w.heap.size<=e/\w.heap.size<=c/\w.heap.size<=d)/\tm≠c/\tm≠d/\Ch ag w wc
theorem A6:Tryz.zeroCells74.toList=[.slice none 0 0,.int .i64 0,.slice none 0 0,.slice none 0 0,.int .i64 0,.int .i64 0,.int .i64 0]++((List.replicate 1000 (0:Int)).map (Value.int .i64)++[.pointer none,.pointer none,.pointer none,.pointer none,.pointer none,.pointer none,.pointer none,.map none,.slice none 0 0,.int .i64 0,.int .i64 0,.int .i64 0,.int .u64 0,.slice none 0 0]):=by kernel_rfl
theorem bS.A7{α:Type}{q:IntKind}{enc:α->Value}{l:List (Int×α)}(h:bS w b q enc l):bS w.drew b q enc l:=h
theorem mf(W:World)(a:W.heap.size=k):bS (α:=Nat) (W.alloc (.map #[] 0)) k .u64 bk []:=⟨#[],0,by rw[<-a];exact heap_alloc_new W _,rfl⟩
theorem iW(W:World)(a:W.heap.size=k){cs:Array Value}{l:List Value}(h:cs.toList=l):Row (W.alloc (.cells cs t)) k t l:=by rw[<-a,<-h];exact Row.new W cs t
theorem A8(pre:List Value)(rows:List Int)(post:List Value)(j:Nat)(v:Value)(a:pre.length=7)(c:rows.length=1000):(pre++(rows.map (Value.int .i64)++post)).set (1007+j) v=pre++(rows.map (Value.int .i64)++post.set j v):=by
 rw[List.set_append_right _ _ (by rw[a];omega),a,List.set_append_right _ _ (by rw[List.length_map,c];omega),List.length_map,c,show 1007+j-7-1000=j by omega]
theorem rj.of{n:Nat}{a:World}{tm wb e i f h:Nat}(q:a.heap.size=k)(j:bS (α:=Nat) a tm .u64 bk [])(m:Row a wb 95 ((List.replicate n aC.zero).flatMap fun x=>x.cells (.slice none 0 0)))
 (o:aX a e i f h (.slice none 0 0) aN.new) (d:w.heap.size<=tm/\w.heap.size<=wb/\w.heap.size<=e/\w.heap.size<=i/\w.heap.size<=f/\w.heap.size<=h) (r:tm≠f) (s:tm≠h) (c:Ch ag w a):
 rj n w (.pointer (some (k,0))) (a.alloc (Obj.cells (((Tryz.zeroCells74.setIfInBounds 1014 (.map (some tm))).setIfInBounds 1015 (.slice (some (wb,0)) n n)).setIfInBounds 1009 (.pointer (some (e,0)))) 74)):=by
 subst q;refine⟨a.heap.size,tm,wb,e,i,f,h,rfl,⟨?_,rfl,by rw[List.length_replicate]⟩,j.alloc _,m.alloc _,o.ch (c:=(Ch.refl (fun _=>False) a).alloc _) id id id id (fun g p=>by cases p),⟨c.size,d.1,d.2.1,d.2.2.1,d.2.2.2.1,d.2.2.2.2.1,d.2.2.2.2.2⟩,r,s,c.alloc _⟩;have:=Row.new a (((Tryz.zeroCells74.setIfInBounds 1014 (.map (some tm))).setIfInBounds 1015 (.slice (some (wb,0)) n n)).setIfInBounds 1009 (.pointer (some (e,0)))) 74;rw[Array.toList_setIfInBounds,Array.toList_setIfInBounds,Array.toList_setIfInBounds,A6,show 1014=1007+7 from rfl,show 1015=1007+8 from rfl,show 1009=1007+2 from rfl,A8 _ _ _ _ _ rfl (List.length_replicate),A8 _ _ _ _ _ rfl (List.length_replicate),A8 _ _ _ _ _ rfl (List.length_replicate)]at this;exact this
def fJ(l:List bB):Nat->List Int
 |0=>List.replicate 1000 0
 |k+1=>(fJ l k).set ((l.getD k default).num.toNat) ((k:Int)+1)
theorem oT{n:Int}:∀{l:List bB} {s:List Bool},jx n l s=true->∀r∈l,1<=r.num/\r.num<=999
 |[],_,_=>fun r c=>by cases c
 |x::l,s,h=>fun r c=>by
  rw[jx,Bool.and_eq_true]at h;rcases List.mem_cons.1 c with rfl|d
  ·have a:=h.1
   unfold gC at a;simp only[Bool.and_eq_true,decide_eq_true_eq]at a;exact a.1.1.1
  ·exact oT h.2 r d
theorem yM{loop:Int}{calls:List bB}(h:fG l loop calls=true):∀r∈calls,1<=r.num/\r.num<=999:=by
 unfold fG at h;rw[Bool.and_eq_true]at h;exact oT h.2
def rk(n:Nat)(loop:Int):Nat->List aC
 |0=>List.replicate n aC.zero
 |k+1=>(rk n loop k).set k (aC.new loop)
theorem oU(n:Nat)(loop:Int):∀k,(rk n loop k).length=n
 |0=>List.length_replicate
 |k+1=>by rw[rk,List.length_set];exact oU n loop k
theorem oV(n:Nat)(loop:Int):∀k i,i<n->(rk n loop k)[i]?=some (if i<k then aC.new loop else aC.zero)
 |0,i,a=>by rw[rk,List.getElem?_replicate,if_pos a,if_neg (by omega)]
 |k+1,i,a=>by
  rw[rk,List.getElem?_set];split
  ·rename_i e;subst e;rw[oU,if_pos a,if_pos (by omega)]
  ·rw[oV n loop k i a]
   by_cases h:i<k
   ·rw[if_pos h,if_pos (by omega)]
   ·rw[if_neg h,if_neg (by omega)]
theorem A9(n:Nat)(loop:Int):rk n loop n=List.replicate n (aC.new loop):=by
 apply List.ext_getElem?;intro i;by_cases a:i<n
 ·rw[oV n loop n i a,if_pos a,List.getElem?_replicate,if_pos a]
 ·rw[List.getElem?_eq_none (by rw[oU];omega),List.getElem?_eq_none (by rw[List.length_replicate];omega)]
theorem wN(h:eQ l en wi na=true):0<=wi/\wi<=256/\0<=na/\na<=256:=by
 unfold eQ at h;simp only[Bool.and_eq_true,decide_eq_true_eq]at h;obtain⟨⟨⟨a,c,d,e,_⟩,_⟩,_⟩:=h;omega
def E2(C:KC)(n tt:Nat)(w:World)(e:Ending)(w':World):Prop:=
 ∃χ L Y,e=.returned (.tuple #[.pointer (some ⟨L.mb,0,none⟩),.nilIface])/\ae w' χ L Y C (hY C n tt)/\(∀i,χ i≠ .no->w.heap.size<=i)/\(∀i,χ i≠ .out)/\Ch ag w w'
theorem gb{α:Type}{a:Nat}{l:List Value}{q:IntKind}{enc:α->Value}{m:List (Int×α)}(h:Row W a t l)(f:bS W b q enc m):a≠b:=fun e=>by
 obtain⟨g,c,d,_⟩:=f;rw[<-e,show W.heap[a]?=some (.cells l.toArray t (0,0))from h]at d;cases d
def vf(l:List be)(loop:Int)(calls:List bB)(p:List be)(en wi na:Int):KC:=⟨l,loop,calls,p,en,wi,na,fJ calls calls.length⟩
def Hg(mb:Nat)(post:List Value)(pre:List Value)(en wi na:Int)(p:List be)(a:Nat)(w wc:World):Prop:=
 ∃c d,NM wc mb (pre++[.slice (some ⟨c,0,none⟩) a d,.int .i64 en,.int .i64 wi,.int .i64 na]) (List.replicate 1000 0) post/\A5 w 152 a (b4 p) w.heap.size c d wc/\Ch (aH mb) w wc
theorem mg(h:eQ l en wi na=true):0<l.length/\l.length<=2048:=by
 unfold eQ jw at h;simp only[Bool.and_eq_true,decide_eq_true_eq]at h;have a:=h.1.1;have c:=h.1.2.1;omega
theorem tA(n tt:Nat)(v5:1<=n/\n<=64)(vn:1<=tt/\tt<=65536)(l:List be)(R:Nat)(lc:Nat)(loop:Int)(calls:List bB)(c3:Option Addr)(c4:Nat)(p:List be)(S:Nat)(pc:Nat)(en:Int)(wi na:Nat)
 (v2:l.length<=lc) (Gr:calls.length<=c4) (vc:p.length<=pc) (nJ:calls.length<=100000) (w:World) (nL:fN w R l) (ov:fN w S p)
 (le:∃gk I,c3=some ⟨gk,0,none⟩/\0<calls.length/\Row w gk 121 (calls.flatMap bB.cells++I))
 (hu:fG l loop calls=true) (hF:eQ p en wi na=true) (vk:17+8*n+wi+na+1<=tt)
 (H:w.cell? (0,0)=some (.iface 346 (.agg #[(4,80)]))):
 Calls prog 28 #[.agg #[.int .i64 n,.int .i64 tt],.agg #[.slice (some (R,0)) l.length lc,loop,.slice c3 calls.length c4],.agg #[.slice (some (S,0)) p.length pc,en,.int .i64 wi,.int .i64 na]] w (E2 (vf l loop calls p en wi na) n tt w):=by
 have mv:=Z vk;clear vk;obtain⟨w1,i5⟩:=nm (((w.alloc (.cells #[.int .i64 n,.int .i64 tt] 42)).alloc (.cells #[.slice (some (R,0)) l.length lc,loop,.slice c3 calls.length c4] 62)).alloc (.cells #[.slice (some (S,0)) p.length pc,en,.int .i64 wi,.int .i64 na] 45));have ci:Hid (Ch ag w w1):=Z (by rw[<-i5];exact(((Ch.refl _ _).alloc _).alloc _).alloc _);have kd:Hid (Row w1 w.heap.size 42 [.int .i64 n,.int .i64 tt]):=Z (by rw[<-i5];exact((Row.new w _ _).alloc _).alloc _);have am:Hid (Row w1 (w.heap.size+1) 62 [.slice (some (R,0)) l.length lc,loop,.slice c3 calls.length c4]):=Z (by
  rw[<-i5];have:=Row.new (w.alloc (.cells #[.int .i64 n,.int .i64 tt] 42)) #[.slice (some (R,0)) l.length lc,loop,.slice c3 calls.length c4] 62;rw[World.size_alloc]at this;exact this.alloc _)
 have Q:Hid (Row w1 (w.heap.size+2) 45 [.slice (some (S,0)) p.length pc,en,.int .i64 wi,.int .i64 na]):=Z (by
  rw[<-i5];have:=Row.new ((w.alloc (.cells #[.int .i64 n,.int .i64 tt] 42)).alloc (.cells #[.slice (some (R,0)) l.length lc,loop,.slice c3 calls.length c4] 62)) #[.slice (some (S,0)) p.length pc,en,.int .i64 wi,.int .i64 na] 45;rw[World.size_alloc,World.size_alloc]at this;exact this)
 have re:Hid (fN w1 R l):=Z (nL.ch ci id);have rL:Hid (fN w1 S p):=Z (ov.ch ci id);have l':Hid (∃gk I,c3=some ⟨gk,0,none⟩/\0<calls.length/\gk<w.heap.size/\Row w1 gk 121 (calls.flatMap bB.cells++I)):=Z (by
  obtain⟨gk,I,a,T,av⟩:=le;exact⟨gk,I,a,T,av.lt,av.ch ci id⟩)
 have lH:Hid (w1.cell? (0,0)=some (.iface 346 (.agg #[(4,80)]))):=Z (ci.k H);have gf:=mQ l (some ⟨R,0,none⟩) lc loop calls c3 c4 v2 nJ w1 (fun _=>⟨R,rfl,re⟩) (fun v6=>by
  obtain⟨gk,I,a,_,_,av⟩:=l'.out;exact⟨gk,I,a,av⟩) lH hu
 rw[hu]at gf;have gf:=Z gf;have rc:Hid (∀w2,Ch ag w1 w2->Calls prog 41 #[.agg #[.slice (some (S,0)) p.length pc,en,.int .i64 wi,.int .i64 na]] w2 (tc true w2)):=Z (fun w2 c2=>by
  have:=mR p (some ⟨S,0,none⟩) pc en wi na vc w2 (fun _=>⟨S,rfl,rL.ch c2 id⟩) ((c2.cell (aQ lH) id).trans lH) hF
  rwa [hF]at this)
 obtain⟨bx,hw⟩:=mn l.length;obtain⟨A,hv⟩:=mn calls.length;obtain⟨c9,hB⟩:=mn p.length;have z2:Hid (S<w.heap.size/\R<w.heap.size):=Z ⟨ov.lt,nL.lt⟩;have yd:=Z (yM hu);have k4:=Z (wN hF);have mk:=Z hw;have cA:=Z hv;have mp:=Z hB;rw[<-hw,<-hv]at am gf;rw[<-hB]at Q rc;rw[<-hw,<-hv,<-hB]at i5⊢;have cq:=Z v5;have mz:=Z vn;obtain⟨pl,M7⟩:=kd.c2;obtain⟨t10,t11,t12⟩:=am.c3;obtain⟨t20,t21,t22,t23⟩:=Q.c4;have tl:0<bx/\bx<=2048:=by rw[hw];exact jX hu
 have th:A<=100000:=by rw[hv];exact nJ
 have io:Hid (0<c9/\c9<=2048):=Z (by rw[hB];exact mg hF);have ii:=Z tl;have py:=Z th;have i1:(1:Int)<=n:=by omega
 have i2:(n:Int)<=64:=by omega
 have Le:(1:Int)<=tt:=by omega
 have Lj:(tt:Int)<=65536:=by omega
 clear tl th hw hv hB v2 Gr vc nJ nL ov le hu hF H v5 vn;go_in
 go_wp2_with (first|(go_at_call 40;refine gf.mono ?_;rintro e w2 ⟨⟨y,rfl,p8⟩,eV⟩;obtain rfl:y=.nilIface:=p8;have pN:=Z eV;have u20:=(Q.ch eV id).cell (i:=0) rfl;have u21:=(Q.ch eV id).cell (i:=1) rfl;have u22:=(Q.ch eV id).cell (i:=2) rfl;have u23:=(Q.ch eV id).cell (i:=3) rfl;clear eV)|(go_at_call 41;refine(rc _ pN).mono ?_;rintro e V ⟨⟨y,rfl,p8⟩,ut⟩;obtain rfl:y=.nilIface:=p8;have bi:=Z (pN.trans ut);clear ut))
 obtain⟨g4,fb,g1,g2,g3⟩:=info_parts E1;have Gv:=fun w=>run_make (P:=prog) w 72 95 g4 _ underlying72 fb g1 .i64 .i64 (n:Int) (n:Int) (by omega) (by omega) (by rw[g3];omega) (by omega)
 obtain⟨cs,lb⟩:=nm (madeCells (Value.agg (#[.int .u64 0,.int .u64 0,.bool false,.int .i64 0,.int .i64 0]++Array.replicate 32 (.int .u64 0)++#[.slice none 0 0])).cells ((n:Int).toNat*g4.size));simp only[lb]at Gv;rw[g2,Int.toNat_natCast]at lb;have wY:=Z lb;have ej:Hid (cs.toList=(List.replicate n aC.zero).flatMap fun x=>x.cells (.slice none 0 0)):=Z (by
  rw[<-wY];exact iu (enc:=fun x:aC=>x.cells (.slice none 0 0)) (k:=38) (fun x=>aC.len (x,_)) (by omega) aC.zero _ rfl n)
 have KS:= @run_makeMap prog;clear lb fb g1 g2 g3;have pl:=kd.c1;have px:V.cell? ⟨w.heap.size,0,none⟩=some (.int .i64 n):=bi.k pl;clear pl;go_cut [10] (fun p wc=>rj n V p wc)
 case first=>
  have i6:=World.new_ne V ⟨w.heap.size,0,none⟩ px;have i7:w.heap.size<V.heap.size:=aQ px;go_region_held3 (fun w'=>w'.cell? ⟨w.heap.size,0,none⟩=some (.int .i64 n)) (go_keep) ((go_at_call 42;refine(qq _).mono ?_;rintro e f ⟨b,hb,mb,qb,rfl,eW,cb,cd,ce,hm,no⟩;have a5:=Z eW;have o:Hid (Ch ag V f):=Z (Ch.trans (by repeat(first|exact Ch.refl _ _|with_reducible refine Ch.drew ?_|with_reducible refine Ch.alloc ?_ _)) no);have cW:=Z no;have a4:=Z (And.intro cb (And.intro cd (And.intro ce hm)));have x5:=o.out.k px;clear eW no cb cd ce hm))
  all_goals(go_wp2_with fail;go_meet)
  ·exact rj.of (by simp) (((mf V rfl).alloc _).A7.ch cW id) ((iW (V.alloc (.map #[] 0)) (k:=V.heap.size+1) (by simp) ej).drew.ch cW id) a5 (by have a:=a4.out;simp only[World.size_alloc,World.size_drew]at a;omega) (by have a:=a4.out;simp only[World.size_alloc,World.size_drew]at a;omega) (by have a:=a4.out;simp only[World.size_alloc,World.size_drew]at a;omega) o
  ·exact rj.of (by simp) ((((mf V rfl)).A7.ch cW id).alloc _) (iW _ rfl ej) (a5.ch (c:=(Ch.refl (fun _=>False) f).alloc _) id id id id (fun g H=>by cases H)) (by have a:=a4.out;have T:=o.size;simp only[World.size_alloc,World.size_drew]at a;omega) (by have a:=a4.out;simp only[World.size_alloc,World.size_drew]at a;omega) (by have a:=a4.out;simp only[World.size_alloc,World.size_drew]at a;omega) (o.alloc _)
  ·exact rj.of (by simp) ((mf (V.alloc (.cells cs 95)) (k:=V.heap.size+1) (by simp)).A7.ch cW id) (((iW _ rfl ej).alloc _).drew.ch cW id) a5 (by have a:=a4.out;simp only[World.size_alloc,World.size_drew]at a;omega) (by have a:=a4.out;simp only[World.size_alloc,World.size_drew]at a;omega) (by have a:=a4.out;simp only[World.size_alloc,World.size_drew]at a;omega) o
  ·exact rj.of (by simp) (mf _ rfl) (((iW _ rfl ej).drew.ch cW id).alloc _) (a5.ch (c:=(Ch.refl (fun _=>False) f).alloc _) id id id id (fun g H=>by cases H)) (by have a:=a4.out;have T:=o.size;simp only[World.size_alloc,World.size_drew]at a;omega) (by have:=a5.heap.map.lt;omega) (by have:=a5.fl.lt;omega) (o.alloc _)
  ·exact rj.of (by simp) ((mf _ rfl).alloc _) (iW (f.alloc (.map #[] 0)) (k:=f.heap.size+1) (by simp) ej) (a5.ch (c:=((Ch.refl (fun _=>False) f).alloc _).alloc _) id id id id (fun g H=>by cases H)) (by have a:=a4.out;have T:=o.size;simp only[World.size_alloc,World.size_drew]at a;omega) (by have:=a5.heap.map.lt;omega) (by have:=a5.fl.lt;omega) ((o.alloc _).alloc _)
  ·exact rj.of (by simp) (mf (f.alloc (.cells cs 95)) (k:=f.heap.size+1) (by simp)) ((iW _ rfl ej).alloc _) (a5.ch (c:=((Ch.refl (fun _=>False) f).alloc _).alloc _) id id id id (fun g H=>by cases H)) (by have a:=a4.out;have T:=o.size;simp only[World.size_alloc,World.size_drew]at a;omega) (by have:=a5.heap.map.lt;omega) (by have:=a5.fl.lt;omega) ((o.alloc _).alloc _)
 case rest=>
  obtain⟨mb,tm,wb,ap,eL,c0,eS,rfl,ok,ob,fn,eW,vl,i6,i7,kE⟩:=hcut;obtain⟨w4,vw⟩:=nm wc;rw[vw]at ok ob fn eW kE⊢;have al:=Z ok;have ip:Hid (Ch ag w1 w4):=Z (bi.trans kE.af);have et:=Z vl;have j':=Z ob;have bw:=Z fn;have ab:=Z eW;have rJ:=Z (And.intro i6 i7);have wX:=Z kE;clear ok ob fn eW vl i6 i7 kE vw;have y0:=Z (fun(w:World) pre rows post (h:NM w mb pre rows post) (r:NR pre post wb n 0 0)=>pV h r);have rb:=Z (y0 w4.drew _ _ _ al.drew ⟨rfl,rfl,rfl,cq.1,cq.2,by omega,by omega,by omega,by omega⟩);have IB:=((kd.ch ip id).cell (i:=1) rfl);have IF:=((Q.ch ip id).cell (i:=2) rfl);have IR:=((Q.ch ip id).cell (i:=3) rfl);have L6:(wi:Int)<=65536:=by have:=k4.out;omega
  have KZ:(na:Int)<=65536:=by have:=k4.out;omega
  have Gy:¬((tt:Int)<17+8*(n:Int)+wi+na+1):=by have:=mv.out;omega
  go_wp2_with fail
  have M9:IntKind.i64.wrap (17+8*(n:Int)+wi)=17+8*(n:Int)+wi:=IntWalk.i64_in _ (by omega);have Md:IntKind.i64.wrap (17+8*(n:Int)+wi+na)=17+8*(n:Int)+wi+na:=IntWalk.i64_in _ (by omega);have Me:IntKind.i64.wrap (17+8*(n:Int)+wi+na+1)=17+8*(n:Int)+wi+na+1:=IntWalk.i64_in _ (by omega);refine wp_region_still (by kernel_rfl) (by kernel_rfl) ?_;try simp only[]
  repeat still_step
  still_call (b5 rb)
  repeat still_step
  try refine wpStill_nil ?_
  go_wp2_with fail
  any_goals (first|(exfalso;omega)|skip)
  change Code.wp _ _ _ _ w4.drew;obtain⟨f,lm⟩:=nm w4.drew;have o:Hid (Ch ag w1 f):=Z (by rw[<-lm];exact ip.drew);have qc:Hid (Ch ag w4 f):=Z (by rw[<-lm];exact(Ch.refl _ _).drew);have N:=Z (al.ch qc id);rw[lm];clear lm IB IF IR rb Gy;have lv:=((am.ch o id).cell (i:=0) rfl);have lw:=((am.ch o id).cell (i:=1) rfl);have z12:=((am.ch o id).cell (i:=2) rfl);go_cut [] (fun wc=>Hf mb [.pointer none,.pointer none,bk ap,.pointer none,.pointer none,.pointer none,.pointer none,.map (some tm),.slice (some (wb,0)) n n,.int .i64 0,.int .i64 0,.int .i64 0,.int .u64 0,.slice none 0 0] [.slice none 0 0,.int .i64 0,.int .i64 0,.int .i64 0] loop l calls bx A f wc)
  case first=>
   have Hm:=N.pc (i:=0) rfl;have Hn:=N.pc (i:=1) rfl;have Ho:=N.pc (i:=2) rfl;have f0:=N.fz 0;have f1:=N.fz 1;have f2:=N.fz 2;have Fr:w.heap.size+1<mb:=Nat.lt_of_lt_of_le am.lt (Nat.le_trans bi.size et.1);have d1:mb≠w.heap.size+1:=(by omega);have d2:w.heap.size+1≠mb:=(by omega);have i6:=World.new_ne f _ lv;have i7:=World.new_ne f _ lw;have Hq:=World.new_ne f _ z12;obtain⟨g4,fb,g1,g2,g3⟩:=info_parts tz;obtain⟨i1,FK,H1,Hh,Hi⟩:=info_parts A3;have lI:=Z fb;have x4:=Z FK;have x9:Hid (fN f R l):=Z (re.ch o id);have BW:Hid ((b4 l).length=bx*7):=Z (by rw[mu,mk];omega);obtain⟨gk,I,rfl,vg,fd,li⟩:=l'.out;have x8:Hid (Row f gk 121 (calls.flatMap bB.cells++I)):=Z (li.ch o id);have vg:0<A/\A<=100000:=⟨by rw[cA];exact vg,py⟩;clear li fd;have BX:Hid ((calls.flatMap bB.cells).length=A*6):=Z (by rw[lr,cA]);go_region_held_law (fun w'=>w'.cell? ⟨w.heap.size+1,0,none⟩=some (.slice (some (R,0)) bx lc)/\w'.cell? ⟨w.heap.size+1,1,none⟩=some (.int .i64 loop)/\w'.cell? ⟨w.heap.size+1,2,none⟩=some (.slice (some ⟨gk,0,none⟩) A c4)) (go_keep) (first
    |(refine step_append_grows (by rfl) _ _ 43 (by rfl) 152 g4 _ 7 56 underlying43 lI.out g1 g2 g3 (by rfl) (by omega) _ 0 0 [] (by rfl) (fun h=>⟨rfl,rfl⟩) (by rfl) (fun _ _ _ _ h=>by cases h) ⟨R,0,none⟩ bx lc (b4 l) (by rfl) BW.out (ri (fun j u fr=>(x9.out.ch (show Ch ag f _ by repeat(first|exact Ch.refl _ _|exact O.out|with_reducible refine Ch.drew ?_|with_reducible refine Ch.alloc ?_ _)) id).cell j u fr)) (jF l) (by have:=ii.out;omega) (by have:=ii.out;unfold maxLen;omega) (by have:=ii.out;omega) ?_;intro v' cQ i3 i0;have z:Hid (Ch ag f cQ):=Z ((show Ch ag f _ by repeat(first|exact Ch.refl _ _|exact O.out|with_reducible refine Ch.drew ?_|with_reducible refine Ch.alloc ?_ _)).trans ((Ch.bK i0).mono (fun i D=>by cases D)));obtain⟨c1,he,pa,rfl,hA1,hA2,hA3,hA4,hA5⟩:=aE i3 (by have:=ii.out;omega);have mC:=Z hA4;have gc:=Z (And.intro hA1 hA2);have JD:=z.out.k lv;have JU:=z.out.k lw;have a12:=z.out.k z12;clear i3 i0 hA1 hA2 hA3 hA4 hA5)
    |(refine step_append_grows (by rfl) _ _ 60 (by rfl) 121 i1 _ 6 48 underlying60 x4.out H1 Hh Hi (by rfl) (by omega) _ 0 0 [] (by rfl) (fun h=>⟨rfl,rfl⟩) (by rfl) (fun _ _ _ _ h=>by cases h) ⟨gk,0,none⟩ A c4 (calls.flatMap bB.cells) (by rfl) BX.out (ri (fun j u fr=>(x8.out.ch (show Ch ag f _ by repeat(first|exact Ch.refl _ _|exact z.out|with_reducible refine Ch.drew ?_|with_reducible refine Ch.alloc ?_ _)) id).cell (by rw[List.getElem?_append_left (List.getElem?_eq_some_iff.1 fr).1];exact fr))) (A4 calls) (by omega) (by unfold maxLen;omega) (by omega) ?_;intro v' i9 v9 nC;have O:Hid (Ch ag f i9):=Z ((show Ch ag f _ by repeat(first|exact Ch.refl _ _|exact z.out|with_reducible refine Ch.drew ?_|with_reducible refine Ch.alloc ?_ _)).trans ((Ch.bK nC).mono (fun i D=>by cases D)));obtain⟨kk,s9,Hj,rfl,sK,sL,Fw,sV,FA⟩:=aE v9 (by omega);have CG:=Z sV;have ql:=Z (And.intro sK sL);have wd:=Z (Ch.bK nC);have J':=O.out.k lv;have K1:=O.out.k lw;have K5:=O.out.k z12;have Hm:=(N.out.ch O.out id).pc (i:=0) rfl;have Hn:=(N.out.ch O.out id).pc (i:=1) rfl;have Ho:=(N.out.ch O.out id).pc (i:=2) rfl;have f0:=(N.out.ch O.out id).fz 0;have f1:=(N.out.ch O.out id).fz 1;have f2:=(N.out.ch O.out id).fz 2;clear v9 nC sK sL Fw sV FA))
   all_goals(go_wp2_with fail;go_meet)
   all_goals
    have hi:f.heap.size<=c1:=Nat.le_trans ((show Ch ag f _ by repeat(first|exact Ch.refl _ _|exact z.out|with_reducible refine Ch.drew ?_|with_reducible refine Ch.alloc ?_ _))).size gc.out.1;have mL:f.heap.size<=kk:=Nat.le_trans ((show Ch ag f _ by repeat(first|exact Ch.refl _ _|exact z.out|with_reducible refine Ch.drew ?_|with_reducible refine Ch.alloc ?_ _))).size ql.out.1;have mM:Ch ag cQ i9:=((show Ch ag cQ _ by repeat(first|exact Ch.refl _ _|exact z.out|with_reducible refine Ch.drew ?_|with_reducible refine Ch.alloc ?_ _))).trans (wd.out.mono (fun i D=>by cases D));have mS:mb<f.heap.size:=N.lt;have c2:Ch (aH mb) i9 (((i9.setCell (mb,0) (.slice (some (c1,0)) bx he)).setCell (mb,1) (.int .i64 loop)).setCell (mb,2) (.slice (some (kk,0)) A s9)):=(((Ch.refl _ _).only _ _).only _ _).only _ _;refine⟨c1,he,kk,s9,(((N.ch O id).pg (i:=0) (by omega) _).pg (i:=1) (by omega) _).pg (i:=2) (by omega) _,⟨⟨pa,?_⟩,?_,hi⟩,⟨⟨Hj,?_⟩,?_,mL⟩,O.af.trans c2⟩
    ·exact(mC.ch mM id).ch c2 (fun e=>by have:c1=mb:=e;omega)
    ·have:=gc.2;omega
    ·exact CG.ch c2 (fun e=>by have:kk=mb:=e;omega)
    ·have:=ql.2;omega
  case rest=>
   obtain⟨gs,eA,gt,eC,on,cL,ch,nq⟩:=hcut;obtain⟨Y,vI⟩:=nm wc;rw[vI]at on cL ch nq⊢;have ad:=Z on;have z9:=Z cL;have zh:=Z ch;have cm:=Z nq;clear on cL ch nq vI lv lw z12;have J9:Hid (Ch ag w Y):=Z ((ci.trans o).fresh cm (fun b hb e=>by have a:b=mb:=e;have T:=et.1;have av:=Nat.lt_of_lt_of_le am.lt bi.size;omega));have g9:∀x,x<w.heap.size+3->¬aH mb x:=(fun x g0 e=>by have a:x=mb:=e;have T:=et.1;have av:=Nat.lt_of_lt_of_le Q.lt bi.size;omega);have D2:=Z ((Q.ch o id).ch cm (g9 _ (by omega)));obtain⟨pm,pp,lt,pu⟩:=D2.c4;go_wp2
   go_cut [] (fun wc=>Hg mb [.pointer none,.pointer none,bk ap,.pointer none,.pointer none,.pointer none,.pointer none,.map (some tm),.slice (some (wb,0)) n n,.int .i64 0,.int .i64 0,.int .i64 0,.int .u64 0,.slice none 0 0] [.slice (some (gs,0)) bx eA,loop,.slice (some (gt,0)) A eC] en wi na p c9 Y wc)
   case first=>
    have Hp:=ad.pc (i:=3) rfl;have Fr:w.heap.size+2<mb:=Nat.lt_of_lt_of_le Q.lt (Nat.le_trans bi.size et.1);have d1:mb≠w.heap.size+2:=(by omega);have d2:w.heap.size+2≠mb:=(by omega);have d3:mb≠w.heap.size+1+1:=(by omega);have d4:w.heap.size+1+1≠mb:=(by omega);have i6:=World.new_ne Y _ pm;have i7:=World.new_ne Y _ pp;have Hq:=World.new_ne Y _ lt;have LX:=World.new_ne Y _ pu;obtain⟨g4,fb,g1,g2,g3⟩:=info_parts tz;have lI:=Z fb;have z3:Hid (fN Y S p):=Z ((rL.ch o id).ch cm (g9 _ (by have:=z2.out;omega)));have BY:Hid ((b4 p).length=c9*7):=Z (by rw[mu,mp];omega);go_region_held_law (fun w'=>w'.cell? ⟨w.heap.size+2,0,none⟩=some (.slice (some (S,0)) c9 pc)/\w'.cell? ⟨w.heap.size+2,1,none⟩=some (.int .i64 en)/\w'.cell? ⟨w.heap.size+2,2,none⟩=some (.int .i64 wi)/\w'.cell? ⟨w.heap.size+2,3,none⟩=some (.int .i64 na)) (go_keep) ((refine step_append_grows (by rfl) _ _ 43 (by rfl) 152 g4 _ 7 56 underlying43 lI.out g1 g2 g3 (by rfl) (by omega) _ 0 0 [] (by rfl) (fun h=>⟨rfl,rfl⟩) (by rfl) (fun _ _ _ _ h=>by cases h) ⟨S,0,none⟩ c9 pc (b4 p) (by rfl) BY.out (ri (fun j u fr=>(z3.out.ch (show Ch ag Y _ by repeat(first|exact Ch.refl _ _|with_reducible refine Ch.drew ?_|with_reducible refine Ch.alloc ?_ _)) id).cell j u fr)) (jF p) (by have:=io.out;omega) (by have:=io.out;unfold maxLen;omega) (by have:=io.out;omega) ?_;intro v' cQ i3 i0;have z:Hid (Ch ag Y cQ):=Z ((show Ch ag Y _ by repeat(first|exact Ch.refl _ _|with_reducible refine Ch.drew ?_|with_reducible refine Ch.alloc ?_ _)).trans ((Ch.bK i0).mono (fun i D=>by cases D)));obtain⟨c1,he,pa,rfl,hA1,hA2,hA3,hA4,hA5⟩:=aE i3 (by have:=io.out;omega);have mC:=Z hA4;have gc:=Z (And.intro hA1 hA2);have a0:=z.out.k pm;have a1:=z.out.k pp;have a2:=z.out.k lt;have a3:=z.out.k pu;have Hp:=(ad.out.ch z.out id).pc (i:=3) rfl;have LL:=(ad.out.ch z.out id).pc (i:=4) rfl;have LR:=(ad.out.ch z.out id).pc (i:=5) rfl;have LW:=(ad.out.ch z.out id).pc (i:=6) rfl;have f3:=(ad.out.ch z.out id).fz 3;have f4:=(ad.out.ch z.out id).fz 4;have f5:=(ad.out.ch z.out id).fz 5;have f6:=(ad.out.ch z.out id).fz 6;clear i3 i0 hA1 hA2 hA3 hA4 hA5))
    all_goals(go_wp2_with fail;go_meet)
    all_goals
     have hi:Y.heap.size<=c1:=Nat.le_trans ((show Ch ag Y _ by repeat(first|exact Ch.refl _ _|with_reducible refine Ch.drew ?_|with_reducible refine Ch.alloc ?_ _))).size gc.out.1;have mS:mb<Y.heap.size:=ad.lt;have c2:Ch (aH mb) cQ ((((cQ.setCell (mb,3) (.slice (some (c1,0)) c9 he)).setCell (mb,4) (.int .i64 en)).setCell (mb,5) (.int .i64 wi)).setCell (mb,6) (.int .i64 na)):=((((Ch.refl _ _).only _ _).only _ _).only _ _).only _ _;refine⟨c1,he,((((ad.ch z id).pg (i:=3) (by omega) _).pg (i:=4) (by omega) _).pg (i:=5) (by omega) _).pg (i:=6) (by omega) _,⟨⟨pa,?_⟩,?_,hi⟩,z.af.trans c2⟩
     ·exact mC.ch c2 (fun e=>by have:c1=mb:=e;omega)
     ·have:=gc.2;omega
   case rest=>
    obtain⟨kf,hd,oq,i4,nw⟩:=hcut;obtain⟨g6,vK⟩:=nm wc;rw[vK]at oq i4 nw⊢;have rK:=Z oq;have zi:=Z i4;have ge:=Z nw;clear oq i4 nw vK pm pp lt pu;obtain⟨pre,p2⟩:=nm ([Value.slice (some (gs,0)) bx eA,loop,.slice (some (gt,0)) A eC,.slice (some (kf,0)) c9 hd,en,.int .i64 wi,.int .i64 na]);have ms:=Z p2;have lF:Hid (Ch (aH mb) f g6):=Z (cm.trans ge);have c7:=Z g9;have D1:=Z ((am.ch o id).ch lF (g9 _ (by omega)));have kw:=rK.out;have kw:NM g6 mb pre (List.replicate 1000 0) [.pointer none,.pointer none,bk ap,.pointer none,.pointer none,.pointer none,.pointer none,.map (some tm),.slice (some (wb,0)) n n,.int .i64 0,.int .i64 0,.int .i64 0,.int .u64 0,.slice none 0 0]:=(by rw[<-p2];exact rK);obtain⟨post,p1⟩:=nm ([.pointer none,.pointer none,bk ap,.pointer none,.pointer none,.pointer none,.pointer none,.map (some tm),.slice (some (wb,0)) n n,.int .i64 0,.int .i64 0,.int .i64 0,.int .u64 0,.slice none 0 0]);rw[p1]at kw;have bv:=Z p1;have xs:=Z kw;have lt:=D1.k 2 rfl;have Kz:(A:Int)<=100000:=(by have:=py.out;omega);clear kw p2 p1 g9;go_wp2
    go_loopg [99] (A+1) (fun n2 i wr=>∃k:Nat,k<=A/\n2=A-k+1/\i=.int .i64 k/\Hid (NM wr mb pre (fJ calls k) post)/\Hid (Ch (aH mb) g6 wr))
    case atStart=>exact⟨0,by omega,by omega,rfl,xs,Z (Ch.refl _ _)⟩
    case round=>
     obtain⟨k,Gp,rfl,rfl,es,it⟩:=hrel;by_cases fd:k<A
     ·obtain⟨gk,I,le,KD,li⟩:∃gk I,c3=some ⟨gk,0,none⟩/\gk<w.heap.size/\Row w1 gk 121 (calls.flatMap bB.cells++I):=by
       obtain⟨gk,I,a,_,T,av⟩:=l'.out;exact⟨gk,I,a,T,av⟩
      subst le;have x7:Hid (Row g6 gk 121 (calls.flatMap bB.cells++I)):=Z ((li.ch o id).ch lF (c7 _ (by omega)));obtain⟨X,hK⟩:∃X,calls[k]?=some X:=⟨_,List.getElem?_eq_getElem (by rw[<-cA];exact fd)⟩;have JC:=Z hK;have fn:Hid (Row wr gk 121 (calls.flatMap bB.cells++I)):=Z (x7.ch it (c7 _ (by omega)));have cC:∀j v,j<6->X.cells[j]?=some v->wr.cell? ⟨gk,k*6+j,none⟩=some v:=fun j v FL GA=>fn.out.cell (by
       rw[List.getElem?_append_left (by
        rw[lr,<-cA];have:(k+1)*6<=A*6:=Nat.mul_le_mul_right _ fd;omega)]
       exact(bJ bB.len hK FL).trans GA)
      have os:=yd X (List.mem_of_getElem? hK);have tb:fJ calls (k+1)=(fJ calls k).set X.num.toNat ((k:Int)+1):=by
       rw[fJ,List.getD_eq_getElem?_getD,hK];rfl
      obtain⟨num,at_,k0,k1,k2,k3⟩:=X;obtain⟨m,rfl⟩:∃m:Nat,num=m:=⟨num.toNat,by have:=os.1;dsimp only at this;omega⟩;have v3:m<1000:=(by have:=os.2;dsimp only at this;omega);have KR:(m:Int)<1000:=(by omega);have KK:(0:Int)<=m:=(by omega);have x2:=Z tb;have s8:=cC 0 _ (by omega) rfl;have D5:=cC 1 _ (by omega) rfl;have Do:=cC 2 _ (by omega) rfl;have Dr:=cC 3 _ (by omega) rfl;have DS:=cC 4 _ (by omega) rfl;have DX:=cC 5 _ (by omega) rfl;rw[Nat.add_zero]at s8;obtain⟨pi,hold⟩:∃pi,(fJ calls k)[m]?=some pi:=⟨_,List.getElem?_eq_getElem (by rw[es.n2];exact v3)⟩;have c0:=es.rc hold;have Ev:=es.fz (7+m);have KE:(k:Int)<A:=(by omega);have cL:=fn.out.lt;have ch:=es.lt;clear cC hK os tb hold;go_wp2_with fail
      obtain⟨i8,fz⟩:=nm (wr.alloc (.cells #[.int .i64 m,at_,k0,k1,k2,k3] 121));obtain⟨Ix,p3⟩:=nm wr.heap.size;have zl:Hid (Row i8 Ix 121 [.int .i64 m,at_,k0,k1,k2,k3]):=Z (by rw[<-fz,<-p3];exact Row.new _ _ _);have rM:Hid (NM i8 mb pre (fJ calls k) post):=Z (by rw[<-fz];exact es.alloc _);have wl:Hid (Ch (aH mb) g6 i8):=Z (by rw[<-fz];exact it.alloc _);have x0:=zl.c1;have K6:i8.cell? (mb,7+m)=some (.int .i64 pi):=(by rw[<-fz,World.cell?_alloc_past _ _ _ ch];exact c0);have Kn:=rM.fz (7+m);rw[fz,p3];clear fz p3 cL ch s8 D5 Do Dr DS DX c0 Ev;refine wp_region_still_tail 8 (by kernel_rfl) (by kernel_rfl) ?_;simp only[List.take_succ_cons,List.take_zero,List.drop_succ_cons,List.drop_zero]
      repeat still_step
      try refine wpStill_nil ?_
      change wpList _ _ _ _ _ i8.drew;go_wp2
      go_roundg (A-k)
      case measure=>omega
      case rel=>exact⟨k+1,by omega,by omega,by go_num,Z (by rw[x2];exact rM.drew.ax v3 _),Z (wl.drew.only _ _)⟩
     ·have Gp:¬(k:Int)<A:=by omega
      have Gt:k=A:=(by omega);subst Gt;have GM:∃E,E=wr:=⟨_,rfl⟩;obtain⟨E,rfl⟩:=GM;have cl:Hid (Ch (aH mb) f E):=Z (lF.trans it);have D0:=Z ((kd.ch o id).ch cl (c7 _ (by omega)));have hf:¬aH mb w.heap.size:=c7 _ (by omega);have K8:mb≠w.heap.size:=(fun e=>hf e.symm);have Ka:w.heap.size≠mb:=(fun e=>hf e);go_wp2_with (first
       |(go_at_call 43;refine(ta _).mono ?_;rintro e cS ⟨rfl,tY,l1⟩;have r':=Z tY;have qi:=Z l1;have FC:=Z l1;have md:=Z (es.ch l1 id);have Hs:=md.qc (j:=3) (by rw[<-bv];rfl);have Iv:=md.fz 1010;clear tY l1)
       |(go_at_call 44;refine(pf _).mono ?_;rintro e a9 ⟨qb,g5,qm,rfl,ty,cb,cd,ce,l0⟩;have z4:=Z ty;have ww:=Z (And.intro cb (And.intro cd ce));have Jl:=Z l0;have j9:Hid (Ch (aH mb) cS a9):=Z ((((Ch.refl _ _).only _ _)).trans l0.af);have mc:=Z ((md.km 3 (bk (E.heap.size+1))).ch l0 id);have HB:=mc.qc (j:=4) (by rw[<-bv];rfl);have HC:=mc.fz 1011;clear ty l0 cb cd ce)
       |(go_at_call 45;refine(q5 _).mono ?_;rintro e M ⟨rfl,tZ,la⟩;have zj:=Z tZ;have Jz:=Z la;have g8:Hid (Ch (aH mb) a9 M):=Z ((((Ch.refl _ _).only _ _)).trans la.af);have mh:=Z ((mc.km 4 (bk qb)).ch la id);have HJ:=mh.qc (j:=5) (by rw[<-bv];rfl);have HK:=mh.fz 1012;clear tZ la)
       |(go_at_call 46;refine(oF _).mono ?_;rintro e ih ⟨rfl,tr,kT⟩;have z0:=Z tr;have Jg:=Z kT;have dN:Hid (Ch (aH mb) M ih):=Z ((((Ch.refl _ _).only _ _)).trans kT.af);have m7:=Z ((mh.km 5 (bk _)).ch kT id);have HT:=m7.qc (j:=6) (by rw[<-bv];rfl);have Ic:=m7.fz 1013;have Hr:=((((D0.ch FC.out id).ch j9 hf).ch g8 hf).ch dN hf).cell (i:=1) rfl;clear tr kT)
       |fail)
      obtain⟨pv,lo⟩:=nm (ih.setCell (mb,1013) (.pointer (some (M.heap.size+1,0))));have go:=m7.km 6 (bk (M.heap.size+1));rw[show ih.setCell (mb,1007+6) (bk (M.heap.size+1))=pv from lo]at go;have dC:Hid (Ch (aH mb) ih pv):=Z (by rw[<-lo];exact(Ch.refl _ _).only _ _);obtain⟨w5,oC⟩:∃q,(((post.set 3 (bk (E.heap.size+1))).set 4 (bk qb)).set 5 (bk (a9.heap.size+1))).set 6 (bk (M.heap.size+1))=q:=⟨_,rfl⟩;rw[oC]at go;have gr:=Z oC;have go:=Z go;have rd:=AO mb pre (fJ calls k) w5 wb n wi na tt pv go ⟨by rw[<-gr,<-bv];rfl,by rw[<-ms];rfl,by rw[<-ms];rfl,cq.1,cq.2,by omega,k4.2.1,by omega,k4.2.2.2⟩ (by rw[<-gr,<-bv];simp) mz.1 mz.2 (by have:=mv.out;omega);rw[lo];clear lo oC Hs Iv HB HC HJ HK HT Ic Hr
      (with_reducible refine rd.mono ?_)
      clear rd;rintro e c5 ⟨rfl,m,c,d,ex,tg,v4,ub,cb,cd,ce,hm,uC⟩;have rt:=Z tg;have xG:=Z v4;have wz:=Z ub;have wv:=Z (And.intro cb (And.intro cd (And.intro ce hm)));have dr:=Z uC;clear tg v4 ub cb cd ce hm uC;have jp:Hid (Ch (aH mb) E c5):=Z (((((qi.af.trans j9).trans g8).trans dN).trans dC).trans dr);have s7:=Z (((am.ch o id).ch cl (c7 _ (by omega))).ch jp (c7 _ (by omega)));have x1:=s7.k 1 rfl;have L':=rt.qc (j:=8) (v:=.slice (some (wb,0)) n n) (by rw[<-gr,<-bv];rfl);have c6:Hid (Ch (aH mb) w4 f):=Z qc.af;have st:wb≠mb:=Row.ne bw al.row (by decide);have zk:Hid (Row c5 wb 95 ((rk n loop 0).flatMap fun x=>x.cells (.slice none 0 0))):=Z (bw.ch ((c6.trans cl).trans jp) (fun e=>st e));go_wp2
      go_loopg [150] (n+1) (fun n2 i wr=>∃q:Nat,q<=n/\n2=n-q+1/\i=.int .i64 q/\Hid (Row wr wb 95 ((rk n loop q).flatMap fun x=>x.cells (.slice none 0 0)))/\Hid (Ch (aH wb) c5 wr))
      case atStart=>exact⟨0,by omega,by omega,rfl,zk,Z (Ch.refl _ _)⟩
      case round=>
       obtain⟨q,K',rfl,rfl,k5,G⟩:=hrel;have Mg:=(s7.ch G (fun e=>by have a:w.heap.size+1=wb:=e;have T:=et.2.2.1;have av:=Nat.lt_of_lt_of_le am.lt bi.size;omega)).cell (i:=1) rfl;have rx:=Z (rt.ch G (fun e=>st e.symm));have Mo:=rx.qc (j:=8) (v:=.slice (some (wb,0)) n n) (by rw[<-gr,<-bv];rfl);by_cases fd:q<n
       ·have Gw:(q:Int)<n:=by omega
        have ll:=oV n loop q q fd;rw[if_neg (by omega)]at ll;have K7:wr.cell? ⟨wb,q*38+4,none⟩=some (.int .i64 0):=k5.at (fun x=>aC.len (x,_)) ll (by omega) rfl;have Kp:=k5.free (q*38+4);have z5:=Z ll;clear ll;go_wp2_with fail
        refine wp_region_still_tail 10 (by kernel_rfl) (by kernel_rfl) ?_;simp only[List.take_succ_cons,List.take_zero,List.drop_succ_cons,List.drop_zero]
        repeat still_step
        try refine wpStill_nil ?_
        change wpList _ _ _ _ _ wr.drew;go_wp2
        go_roundg (n-q)
        case measure=>omega
        case rel=>
         exact⟨q+1,by omega,by omega,by go_num,Z (k5.drew.put (fun x=>aC.len (x,_)) z5 (by omega) rfl),Z (G.drew.only _ _)⟩
       ·have Gw:¬(q:Int)<n:=by omega
        have Gx:q=n:=(by omega);subst Gx;have rg:Hid (mb<E.heap.size/\wb<E.heap.size):=Z ⟨Nat.lt_of_lt_of_le al.lt (Nat.le_trans c6.size cl.size),Nat.lt_of_lt_of_le bw.lt (Nat.le_trans c6.size cl.size)⟩;have q7:Hid (Ch (aH mb) w4 c5):=Z ((c6.trans cl).trans jp);have d1:ap≠mb:=Row.ne ab.head al.row (by decide);have d2:eL≠mb:=Row.ne ab.heap.head al.row (by decide);have d3:mb≠c0:=gb al.row ab.heap.map;have d4:mb≠eS:=gb al.row ab.fl;have d5:mb≠tm:=gb al.row j';have hi:ap≠wb:=Row.ne ab.head bw (by decide);have mL:eL≠wb:=Row.ne ab.heap.head bw (by decide);have mM:wb≠c0:=gb bw ab.heap.map;have mS:wb≠eS:=gb bw ab.fl;have DZ:wb≠tm:=gb bw j';have Ao:Hid (aX wr ap eL c0 eS (.slice none 0 0) aN.new):=Z ((ab.ch q7 d1 d2 (fun e=>d3 e.symm) (fun e=>d4 e.symm) (fun g H=>by cases H)).ch G hi mL (fun e=>mM e.symm) (fun e=>mS e.symm) (fun g H=>by cases H));have BQ:Hid (bS (α:=Nat) wr tm .u64 bk []):=Z ((j'.ch q7 (fun e=>d5 e.symm)).ch G (fun e=>DZ e.symm));have F:∀x,E.heap.size<=x->¬aH mb x/\¬aH wb x:=(fun x g0=>⟨fun e=>by have a:x=mb:=e;have:=rg.1;omega,fun e=>by have a:x=wb:=e;have:=rg.2;omega⟩);have Mp:=qi.size;have MO:=j9.size;have MN:=g8.size;have MS:=dN.size;have MK:=dC.size;have ML:=dr.size;have wn:Hid (Ch (aH mb) cS c5):=Z ((((j9.trans g8).trans dN).trans dC).trans dr);have wk:Hid (Ch (aH mb) a9 c5):=Z (((g8.trans dN).trans dC).trans dr);have ws:Hid (Ch (aH mb) M c5):=Z ((dN.trans dC).trans dr);have wh:Hid (Ch (aH mb) ih c5):=Z (dC.trans dr);have BO:Hid (eP wr (E.heap.size+1) E.heap.size []):=Z ((r'.ch wn (F _ (by omega)).1 (F _ (by omega)).1).ch G (F _ (by omega)).2 (F _ (by omega)).2);have EQ:=ww.out;have w6:∀x,cS.heap.size<=x->¬aH mb x/\¬aH wb x:=(fun x g0=>F x (by omega));have n1:cS.heap.size<=qb/\cS.heap.size<=g5/\cS.heap.size<=qm:=(by simpa using EQ);have AC:Hid (iE wr qb g5 qm (List.replicate 8 [])):=Z (by
         have un:∀i,QD qb g5 qm (List.replicate 8 []) i->cS.heap.size<=i:=fun i D=>by
          rcases D with rfl|rfl|rfl|⟨s,Gz,_⟩
          ·exact n1.1
          ·exact n1.2.1
          ·exact n1.2.2
          ·have:s∈(List.replicate 8 ([]:List Sl)).flatten:=Gz
           simp at this
         exact(z4.ch wk (fun i D=>(w6 i (un i D)).1)).ch G (fun i D=>(w6 i (un i D)).2))
        have BP:=Z ((zj.ch ws (F _ (by simp;omega)).1 (F _ (by simp;omega)).1).ch G (F _ (by simp;omega)).2 (F _ (by simp;omega)).2);have At:=Z ((z0.ch wh (F _ (by simp;omega)).1 (F _ (by simp;omega)).1).ch G (F _ (by simp;omega)).2 (F _ (by simp;omega)).2);have Kr:=wv.out;have Ap:=Z (xG.ch G (F _ (by omega)).2 (F _ (by omega)).2 (F _ (by omega)).2);have zp:=Z (wz.ch G (F _ (by omega)).2 (fun g H=>by cases H));have g7:Hid (Ch (aH mb) g6 c5):=Z (it.trans jp);have MU:wb<f.heap.size/\mb<f.heap.size:=⟨Nat.lt_of_lt_of_le bw.lt c6.size,Nat.lt_of_lt_of_le al.lt c6.size⟩;have Mn:=cm.size;have cL:=z9.out;have ch:=zh.out;have i4:=zi.out;obtain⟨⟨Lk,uQ⟩,FS,ne⟩:=cL;obtain⟨⟨Ll,v0⟩,FW,ni⟩:=ch;obtain⟨⟨Lm,v1⟩,Gn,KC⟩:=i4;have c8:∀x,f.heap.size<=x->¬aH mb x/\¬aH wb x:=(fun x g0=>⟨fun e=>by have a:x=mb:=e;omega,fun e=>by have a:x=wb:=e;omega⟩);have zr:=Z (((uQ.ch ge (c8 _ ne).1).ch g7 (c8 _ ne).1).ch G (c8 _ ne).2);have zt:=Z (((v0.ch ge (c8 _ ni).1).ch g7 (c8 _ ni).1).ch G (c8 _ ni).2);have A2:=Z ((v1.ch g7 (c8 _ (by omega)).1).ch G (c8 _ (by omega)).2);obtain⟨J,U⟩:=nm (vf l loop calls p en wi na);have BV:Hid (Row wr wb 95 ((List.replicate q (aC.new J.loop)).flatMap fun x=>x.cells (.slice none 0 0))):=Z (by
         have:=k5.out;rw[A9]at this;rw[<-U];exact this)
        have sz:pre=kV J (l7 mb m c d ex ap eL c0 eS (E.heap.size+1) E.heap.size qb g5 qm (a9.heap.size+1) a9.heap.size (M.heap.size+1) M.heap.size tm wb gs eA gt eC kf hd):=(by rw[<-ms,<-U,mk,cA,mp];rfl);have sC:(w5.set 0 (bk m)).set 1 (bk ex)=hx (l7 mb m c d ex ap eL c0 eS (E.heap.size+1) E.heap.size qb g5 qm (a9.heap.size+1) a9.heap.size (M.heap.size+1) M.heap.size tm wb gs eA gt eC kf hd) (.slice none 0 0) q 0 0 0 0:=(by rw[<-gr,<-bv];rfl);have sG:fJ calls k=J.rows:=(by rw[<-U,cA];rfl);have mA:=rx.out;rw[sz,sC,sG]at mA;have n0:J.wide.toNat=wi:=(by rw[<-U];exact Int.toNat_natCast wi);have mW:J.narrow.toNat=na:=(by rw[<-U];exact Int.toNat_natCast na);have s2:aO wr m c d (kp J q tt).mem:=(by show aO wr m c d (fY tt q J.wide.toNat J.narrow.toNat);rw[n0,mW];exact Ap);have s1:aT wr ex m (.slice none 0 0) (kp J q tt).blocks:=(by show aT wr ex m (.slice none 0 0) ⟨17+8*q+J.wide.toNat+J.narrow.toNat,tt,[]⟩;rw[n0,mW];exact zp);have MB:w.heap.size<=V.heap.size:=Nat.le_trans ci.size bi.size;have Mh:V.heap.size<=f.heap.size:=Nat.le_trans wX.size c6.size;have z59:=cl.size;have Kv:=et.out;have Lq:=ab.heap.map.lt;have Lr:=ab.fl.lt;have LA:=j'.lt;have Mm:=c6.size;have Ls:=r'.Co;have s4:aW wr (a9.heap.size+1) a9.heap.size (List.replicate 64 aF.zero):=(by have h:=BP.out;rw[World.size_setCell]at h;exact h);have s3:bP wr (M.heap.size+1) M.heap.size (List.replicate 64 bq.zero):=(by have h:=At.out;rw[World.size_setCell]at h;exact h);have s6:=uU (B:=w.heap.size) (C:=J) (n:=q) (tt:=tt) cq.2 mA s2 s1 Ao BO AC s4 s3 BQ BV (by rw[<-U];exact zr) (by rw[<-U];exact zt) (by rw[<-U];exact A2)
         (by rw[<-U];show l.length<=eA;rw[<-mk];exact FS) (by rw[<-U];show calls.length<=eC;rw[<-cA];exact FW) (by rw[<-U];show p.length<=hd;rw[<-mp];exact Gn)
         (by omega) (fun e=>rJ.1 e.symm) (fun e=>rJ.2 e.symm) (by omega) (by omega) (by omega) (by omega) (by omega) (by omega) (by omega) (by omega) (by omega)
        have jr:=Z s6;have lG:=Z U;have hn:=wM J q tt cq.1 cq.2 mz.2 (by rw[n0,mW];have:=mv.out;omega);obtain⟨w9,ls⟩:∃χ,hZ wr w.heap.size E.heap.size tm qm=χ:=⟨_,rfl⟩;rw[ls]at jr;have s0:Hid (∀i,w9 i≠ .no->w.heap.size<=i):=Z (fun i D=>by rw[<-ls]at D;exact(pW D).1);have yk:Hid (hD w9):=Z (fun i=>by rw[<-ls];exact uS i);obtain⟨s5,nd⟩:∃L,(l7 mb m c d ex ap eL c0 eS (E.heap.size+1) E.heap.size qb g5 qm (a9.heap.size+1) a9.heap.size (M.heap.size+1) M.heap.size tm wb gs eA gt eC kf hd)=L:=⟨_,rfl⟩;rw[nd]at jr;have og:s5.mb=mb:=(by rw[<-nd];rfl);obtain⟨kb,n8⟩:∃K,kp J q tt=K:=⟨_,rfl⟩;rw[n8]at jr hn;have x6:=Z n8;have up:=hn.bI.ok (by omega);have us:=(nk hn.bI hn.mem 1).1.ok (by omega);have nx:=hn.fresh (by omega);have r6:=Z (vd en 0 up us nx jr);have x3:=Z (k6 (K:=kb) en 0 nx);rw[og]at r6;have ro:=Z og;have qj:Hid (Ch ag w wr):=Z (((ci.trans o).fresh ((cm.trans ge).trans g7) (fun x g0 e=>(c7 x (by omega)) e)).fresh G (fun x g0 e=>by have a:x=wb:=e;omega));have Mf:=(((Q.ch o id).ch ((cm.trans ge).trans g7) (c7 _ (by omega))).ch G (fun e=>by have a:w.heap.size+2=wb:=e;have av:=Nat.lt_of_lt_of_le Q.lt bi.size;omega)).cell (i:=1) rfl;clear sz sC sG mA s2 s1 s4 s3 s6 ls nd n8 up us nx og U uQ v0 v1;go_wp2_with fail
        (with_reducible refine r6.out.mono ?_)
        rintro e i9 ⟨rfl,dZ,Y1,a,vN⟩;have CE:=Z (vN yk);clear vN;have qr:=Z a;have sl:=a.at_.nX;rw[ro]at sl;clear a;go_wp2_with fail
        (with_reducible refine(yL _ qr.out.at_).mono ?_)
        rintro e M8 ⟨⟨v,rfl,_⟩,I',D4,T,w0⟩;have CF:=Z (w0 CE);clear w0;have r5:=Z (qr.trans x3 T);clear T sl;go_wp2
        go_ret2;have vL:=r5.nx;refine⟨I',s5,D4,by rw[ro];rfl,?_,?_,CF,?_⟩
        ·have DY:hY (vf l loop calls p en wi na) q tt={(bQ kb en 0).2 with ring:=(hG (bQ kb en 0).2.ring (bQ kb en 0).1).2}:=by rw[lG,<-x6];unfold hY;rw[show J.entry=en by rw[<-lG];rfl]
         rw[DY,lG];exact r5.at_
        ·intro i D
         rcases Nat.lt_or_ge i wr.heap.size with h|h
         ·exact s0 i (by rw[<-vL.same i h];exact D)
         ·exact Nat.le_trans qj.size h
        ·exact qj.fresh vL.ch (fun x g0 v6=>by have:=s0 x v6;omega)
