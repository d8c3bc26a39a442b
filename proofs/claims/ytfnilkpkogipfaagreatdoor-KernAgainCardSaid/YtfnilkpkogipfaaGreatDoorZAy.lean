import Derived.ProofKit
import Derived.ChangeAt
import Derived.LaidMore
import Derived.HandedShaped
import Derived.Deep.Slices
import Derived.Deep.Fields
import Derived.ChangeSame
import Derived.SizedLaws
import Derived.OpenShut
import Derived.Test.YtfnilkpkogipfaaGreatDoorZAs
import Derived.Test.YtfnilkpkogipfaaGreatDoorZAv
import Derived.Test.YtfnilkpkogipfaaGreatDoorZAw
set_option linter.all false
set_option maxRecDepth 100000
set_option maxHeartbeats 8000000
namespace Go.Proofs.YtfnilkpkogipfaaGreatDoor
open Go.RowKit Go.Proofs.Tryz
section
variable{w:World}{b:Nat}{t:TypeId}{l:List Value}{x0 x1 x2 x3 x4:Value}
theorem Row.c5(h:Row w b t (x0::x1::x2::x3::x4::l)):w.cell? ⟨b,0,none⟩=some x0/\w.cell? ⟨b,1,none⟩=some x1/\w.cell? ⟨b,2,none⟩=some x2/\w.cell? ⟨b,3,none⟩=some x3/\w.cell? ⟨b,4,none⟩=some x4:=⟨h.cell rfl,h.cell rfl,h.cell rfl,h.cell rfl,h.cell rfl⟩
end
theorem EL:(prog.info? 148).map (fun i=>(i.zero,i.size,i.bytes))=some (some (.agg (#[.int .u64 0,.int .u64 0,.bool false,.int .i64 0,.int .i64 0]++Array.replicate 32 (.int .u64 0)++#[.slice none 0 0])),38,320):=by kernel_rfl
theorem ik{l:List aR}{loop:Int}{calls:List bB}(h:fF l loop calls=true):0<l.length/\l.length<=2048:=by
 unfold fF jm at h;simp only[Bool.and_eq_true,decide_eq_true_eq]at h;have a:=h.1.1.1;have b:=h.1.1.2.1;omega
def ay.zero:ay:=⟨0,0,false,0,⟨0,Dr,[]⟩⟩
theorem oI:(prog.info? 121).map (fun i=>(i.zero,i.size,i.bytes))=some (some (.agg #[.int .i64 0,.int .i64 0,.int .i64 0,.int .i64 0,.int .u64 0,.int .i64 0,.int .i64 0]),7,56):=by kernel_rfl
theorem AH:(prog.info? 49).map (fun i=>(i.zero,i.size,i.bytes))=some (some (.agg #[.int .i64 0,.int .i64 0,.int .i64 0,.int .i64 0,.int .i64 0,.int .i64 0]),6,48):=by kernel_rfl
theorem uV{a:World}{g:Nat}{L:List Value}(h:∀(j:Nat) (u:Value),L[j]?=some u->a.cell? ⟨g,j,none⟩=some u):∀(j:Nat) (u:Value),L[j]?=some u->a.cell? ((⟨g,0,none⟩:Addr).add j)=some u:=fun j u c=>by
 have b:(⟨g,0,none⟩:Addr).add j=⟨g,j,none⟩:=by unfold Addr.add;split<;>simp_all
 rw[b];exact h j u c
theorem jw(l:List aR):∀u∈b2 l,u.oneCell'=true:=fun u b=>by
 obtain⟨X,_,a⟩:=List.mem_flatMap.1 b;have:u∈[Value.int .i64 X.op,X.a,X.b,X.c,.int .u64 X.v,X.m,X.wh]:=a;simp only[List.mem_cons,List.not_mem_nil,or_false]at this;rcases this with rfl|rfl|rfl|rfl|rfl|rfl|rfl<;>rfl
theorem AI(l:List bB):∀u∈l.flatMap bB.cells,u.oneCell'=true:=fun u b=>by
 obtain⟨X,_,a⟩:=List.mem_flatMap.1 b;simp only[bB.cells,List.mem_cons,List.not_mem_nil,or_false]at a;rcases a with rfl|rfl|rfl|rfl|rfl|rfl<;>rfl
theorem ln(l:List bB):(l.flatMap bB.cells).length=l.length*6:=by
 rw[List.length_flatMap];simp only[bB.len];rw[List.map_const',List.sum_replicate_nat]
def AJ(w:World)(t:TypeId)(n:Nat)(b:List Value)(B c cap:Nat)(wc:World):Prop:=(∃a,Row wc c t (b++a))/\n<=cap/\B<=c
def GQ(mb:Nat)(post:List Value)(rest:List Value)(loop:Int)(l:List aR)(calls:List bB)(b a:Nat)(w wc:World):Prop:=
 ∃c e d f,NM wc mb ([.slice (some ⟨c,0,none⟩) b e,.int .i64 loop,.slice (some ⟨d,0,none⟩) a f]++rest) (List.replicate 1000 0) post/\AJ w 121 b (b2 l) w.heap.size c e wc/\AJ w 49 a (calls.flatMap bB.cells) w.heap.size d f wc/\Ch (aL mb) w wc
def q9(n:Nat)(w:World)(p:Value)(wc:World):Prop:=
 ∃mb a e b f c d,p=.pointer (some ⟨mb,0,none⟩)/\NM wc mb [.slice none 0 0,.int .i64 0,.slice none 0 0,.slice none 0 0,.int .i64 0,.int .i64 0,.int .i64 0] (List.replicate 1000 0)
  [.pointer none,.pointer none,bj b,.pointer none,.pointer none,.pointer none,.pointer none,.map (some a),.slice (some ⟨e,0,none⟩) n n,.int .i64 0,.int .i64 0,.int .i64 0,.int .u64 0,.slice none 0 0]/\
  bR (α:=Nat) wc a .u64 bj []/\Row wc e 148 ((List.replicate n ay.zero).flatMap fun x=>x.cells (.slice none 0 0))/\aZ wc b f c d (.slice none 0 0) aO.new/\
  (w.heap.size<=mb/\w.heap.size<=a/\w.heap.size<=e/\w.heap.size<=b/\w.heap.size<=f/\w.heap.size<=c/\w.heap.size<=d)/\a≠c/\a≠d/\Ch ag w wc
theorem AK:Tryz.zeroCells137.toList=[.slice none 0 0,.int .i64 0,.slice none 0 0,.slice none 0 0,.int .i64 0,.int .i64 0,.int .i64 0]++((List.replicate 1000 (0:Int)).map (Value.int .i64)++[.pointer none,.pointer none,.pointer none,.pointer none,.pointer none,.pointer none,.pointer none,.map none,.slice none 0 0,.int .i64 0,.int .i64 0,.int .i64 0,.int .u64 0,.slice none 0 0]):=by kernel_rfl
theorem bR.AL{α:Type}{w:World}{b:Nat}{q:IntKind}{enc:α->Value}{l:List (Int×α)}(h:bR w b q enc l):bR w.drew b q enc l:=h
theorem l6(a:World){k:Nat}(b:a.heap.size=k):bR (α:=Nat) (a.alloc (.map #[] 0)) k .u64 bj []:=⟨#[],0,by rw[<-b];exact heap_alloc_new a _,rfl⟩
theorem jx(a:World){k:Nat}(b:a.heap.size=k){cs:Array Value}{t:TypeId}{l:List Value}(h:cs.toList=l):Row (a.alloc (.cells cs t)) k t l:=by rw[<-b,<-h];exact Row.new a cs t
theorem AM(pre:List Value)(rows:List Int)(post:List Value)(j:Nat)(v:Value)(a:pre.length=7)(b:rows.length=1000):(pre++(rows.map (Value.int .i64)++post)).set (1007+j) v=pre++(rows.map (Value.int .i64)++post.set j v):=by
 rw[List.set_append_right _ _ (by rw[a];omega),a,List.set_append_right _ _ (by rw[List.length_map,b];omega),List.length_map,b,show 1007+j-7-1000=j by omega]
theorem q9.of{n:Nat}{w a:World}{b f e j h i k:Nat}(q:a.heap.size=k)(l:bR (α:=Nat) a b .u64 bj [])(m:Row a f 148 ((List.replicate n ay.zero).flatMap fun x=>x.cells (.slice none 0 0)))
 (o:aZ a e j h i (.slice none 0 0) aO.new) (d:w.heap.size<=b/\w.heap.size<=f/\w.heap.size<=e/\w.heap.size<=j/\w.heap.size<=h/\w.heap.size<=i) (r:b≠h) (s:b≠i) (c:Ch ag w a):
 q9 n w (.pointer (some (k,0))) (a.alloc (Obj.cells (((Tryz.zeroCells137.setIfInBounds 1014 (.map (some b))).setIfInBounds 1015 (.slice (some (f,0)) n n)).setIfInBounds 1009 (.pointer (some (e,0)))) 137)):=by
 subst q;refine⟨a.heap.size,b,f,e,j,h,i,rfl,⟨?_,rfl,by rw[List.length_replicate]⟩,l.alloc _,m.alloc _,o.ch (c:=(Ch.refl (fun _=>False) a).alloc _) id id id id (fun g p=>by cases p),⟨c.size,d.1,d.2.1,d.2.2.1,d.2.2.2.1,d.2.2.2.2.1,d.2.2.2.2.2⟩,r,s,c.alloc _⟩;have:=Row.new a (((Tryz.zeroCells137.setIfInBounds 1014 (.map (some b))).setIfInBounds 1015 (.slice (some (f,0)) n n)).setIfInBounds 1009 (.pointer (some (e,0)))) 137;rw[Array.toList_setIfInBounds,Array.toList_setIfInBounds,Array.toList_setIfInBounds,AK,show 1014=1007+7 from rfl,show 1015=1007+8 from rfl,show 1009=1007+2 from rfl,AM _ _ _ _ _ rfl (List.length_replicate),AM _ _ _ _ _ rfl (List.length_replicate),AM _ _ _ _ _ rfl (List.length_replicate)]at this;exact this
def fJ(l:List bB):Nat->List Int
 |0=>List.replicate 1000 0
 |k+1=>(fJ l k).set ((l.getD k default).num.toNat) ((k:Int)+1)
theorem oJ{n:Int}:∀{l:List bB} {s:List Bool},jn n l s=true->∀r∈l,1<=r.num/\r.num<=999
 |[],_,_=>fun r b=>by cases b
 |x::l,s,h=>fun r b=>by
  rw[jn,Bool.and_eq_true]at h;rcases List.mem_cons.1 b with rfl|c
  ·have a:=h.1
   unfold gB at a;simp only[Bool.and_eq_true,decide_eq_true_eq]at a;exact a.1.1.1
  ·exact oJ h.2 r c
theorem ys{l:List aR}{loop:Int}{calls:List bB}(h:fF l loop calls=true):∀r∈calls,1<=r.num/\r.num<=999:=by
 unfold fF at h;rw[Bool.and_eq_true]at h;exact oJ h.2
def q'(n:Nat)(loop:Int):Nat->List ay
 |0=>List.replicate n ay.zero
 |k+1=>(q' n loop k).set k (ay.new loop)
theorem oK(n:Nat)(loop:Int):∀k,(q' n loop k).length=n
 |0=>List.length_replicate
 |k+1=>by rw[q',List.length_set];exact oK n loop k
theorem oL(n:Nat)(loop:Int):∀k i,i<n->(q' n loop k)[i]?=some (if i<k then ay.new loop else ay.zero)
 |0,i,a=>by rw[q',List.getElem?_replicate,if_pos a,if_neg (by omega)]
 |k+1,i,a=>by
  rw[q',List.getElem?_set];split
  ·rename_i e;subst e;rw[oK,if_pos a,if_pos (by omega)]
  ·rw[oL n loop k i a]
   by_cases h:i<k
   ·rw[if_pos h,if_pos (by omega)]
   ·rw[if_neg h,if_neg (by omega)]
theorem AN(n:Nat)(loop:Int):q' n loop n=List.replicate n (ay.new loop):=by
 apply List.ext_getElem?;intro i;by_cases a:i<n
 ·rw[oL n loop n i a,if_pos a,List.getElem?_replicate,if_pos a]
 ·rw[List.getElem?_eq_none (by rw[oK];omega),List.getElem?_eq_none (by rw[List.length_replicate];omega)]
theorem wi{l:List aR}{en b a:Int}(h:dB l en b a=true):0<=b/\b<=256/\0<=a/\a<=256:=by
 unfold dB at h;simp only[Bool.and_eq_true,decide_eq_true_eq]at h;obtain⟨⟨⟨c,d,e,f,_⟩,_⟩,_⟩:=h;omega
def EM(C:KC)(n tt:Nat)(w:World)(e:Ending)(w':World):Prop:=
 ∃χ L Y,e=.returned (.tuple #[.pointer (some ⟨L.mb,0,none⟩),.nilIface])/\ae w' χ L Y C (fH C n tt)/\(∀i,χ i≠ .no->w.heap.size<=i)/\(∀i,χ i≠ .out)/\Ch ag w w'
theorem gb{α:Type}{d:World}{a b:Nat}{t:TypeId}{l:List Value}{q:IntKind}{enc:α->Value}{m:List (Int×α)}(h:Row d a t l)(g:bR d b q enc m):a≠b:=fun e=>by
 obtain⟨i,c,f,_⟩:=g;rw[<-e,show d.heap[a]?=some (.cells l.toArray t (0,0))from h]at f;cases f
def tn(l:List aR)(loop:Int)(calls:List bB)(p:List aR)(en b a:Int):KC:=⟨l,loop,calls,p,en,b,a,fJ calls calls.length⟩
def GR(mb:Nat)(post:List Value)(pre:List Value)(en e d:Int)(p:List aR)(a:Nat)(w wc:World):Prop:=
 ∃b c,NM wc mb (pre++[.slice (some ⟨b,0,none⟩) a c,.int .i64 en,.int .i64 e,.int .i64 d]) (List.replicate 1000 0) post/\AJ w 121 a (b2 p) w.heap.size b c wc/\Ch (aL mb) w wc
theorem jR{l:List aR}{en b a:Int}(h:dB l en b a=true):0<l.length/\l.length<=2048:=by
 unfold dB jm at h;simp only[Bool.and_eq_true,decide_eq_true_eq]at h;have c:=h.1.1;have d:=h.1.2.1;omega
theorem tp(n tt:Nat)(H4:1<=n/\n<=64)(H9:1<=tt/\tt<=65536)(l:List aR)(R:Nat)(c4:Nat)(loop:Int)(calls:List bB)(gk:Nat)(c3:Nat)(p:List aR)(S:Nat)(pc:Nat)(en:Int)(f t:Nat)
 (H1:l.length<=c4) (IK:calls.length<=c3) (H6:p.length<=pc) (rb:calls.length<=100000) (H0:0<calls.length) (w:World) (rc:fo w R l) (r':fo w S p)
 (io:∃cr,Row w gk 49 (calls.flatMap bB.cells++cr))
 (lo:fF l loop calls=true) (lt:dB p en f t=true)
 (I:w.cell? (0,0)=some (.iface 335 (.agg #[(1,40)]))):
 Calls prog 11 #[.agg #[.int .i64 n,.int .i64 tt],.agg #[.slice (some (R,0)) l.length c4,loop,.slice (some (gk,0)) calls.length c3],.agg #[.slice (some (S,0)) p.length pc,en,.int .i64 f,.int .i64 t]] w (fun e w'=>(17+8*n+f+t+1<=tt/\EM (tn l loop calls p en f t) n tt w e w')∨(tt<17+8*n+f+t+1/\AG w e w')):=by
 obtain⟨cr,io⟩:=io;obtain⟨w1,k4⟩:=nm (((w.alloc (.cells #[.int .i64 n,.int .i64 tt] 43)).alloc (.cells #[.slice (some (R,0)) l.length c4,loop,.slice (some (gk,0)) calls.length c3] 33)).alloc (.cells #[.slice (some (S,0)) p.length pc,en,.int .i64 f,.int .i64 t] 36));have c6:Hid (Ch ag w w1):=Z (by rw[<-k4];exact(((Ch.refl _ _).alloc _).alloc _).alloc _);have li:Hid (Row w1 w.heap.size 43 [.int .i64 n,.int .i64 tt]):=Z (by rw[<-k4];exact((Row.new w _ _).alloc _).alloc _);have ap:Hid (Row w1 (w.heap.size+1) 33 [.slice (some (R,0)) l.length c4,loop,.slice (some (gk,0)) calls.length c3]):=Z (by
  rw[<-k4];have:=Row.new (w.alloc (.cells #[.int .i64 n,.int .i64 tt] 43)) #[.slice (some (R,0)) l.length c4,loop,.slice (some (gk,0)) calls.length c3] 33;rw[World.size_alloc]at this;exact this.alloc _)
 have Q:Hid (Row w1 (w.heap.size+2) 36 [.slice (some (S,0)) p.length pc,en,.int .i64 f,.int .i64 t]):=Z (by
  rw[<-k4];have:=Row.new ((w.alloc (.cells #[.int .i64 n,.int .i64 tt] 43)).alloc (.cells #[.slice (some (R,0)) l.length c4,loop,.slice (some (gk,0)) calls.length c3] 33)) #[.slice (some (S,0)) p.length pc,en,.int .i64 f,.int .i64 t] 36;rw[World.size_alloc,World.size_alloc]at this;exact this)
 have un:Hid (fo w1 R l):=Z (rc.ch c6 id);have v4:Hid (fo w1 S p):=Z (r'.ch c6 id);have ni:Hid (Row w1 gk 49 (calls.flatMap bB.cells++cr)):=Z (io.ch c6 id);have nd:Hid (w1.cell? (0,0)=some (.iface 335 (.agg #[(1,40)]))):=Z (c6.k I);have hl:=mE l (some ⟨R,0,none⟩) c4 loop calls (some ⟨gk,0,none⟩) c3 H1 rb w1 (fun _=>⟨R,rfl,un⟩) (fun _=>⟨gk,cr,rfl,ni⟩) nd;rw[lo]at hl;have hl:=Z hl;have tr:Hid (∀w2,Ch ag w1 w2->Calls prog 51 #[.agg #[.slice (some (S,0)) p.length pc,en,.int .i64 f,.int .i64 t]] w2 (sU true w2)):=Z (fun w2 c2=>by
  have:=mF p (some ⟨S,0,none⟩) pc en f t H6 w2 (fun _=>⟨S,rfl,v4.ch c2 id⟩) ((c2.cell (aP nd) id).trans nd)
  rwa [lt]at this)
 obtain⟨bw,i8⟩:=mn l.length;obtain⟨D,i7⟩:=mn calls.length;obtain⟨c9,i9⟩:=mn p.length;have og:Hid (S<w.heap.size/\R<w.heap.size/\gk<w.heap.size):=Z ⟨r'.lt,rc.lt,io.lt⟩;have HS:=Z (ys lo);have lb:=Z (wi lt);have nC:=Z i8;have dN:=Z i7;have ob:=Z i9;rw[<-i8,<-i7]at ap hl;rw[<-i9]at Q tr;rw[<-i8,<-i7,<-i9]at k4⊢;have cl:=Z H4;have on:=Z H9;obtain⟨s7,J'⟩:=li.c2;obtain⟨t10,t11,t12⟩:=ap.c3;obtain⟨t20,t21,t22,t23⟩:=Q.c4;have Al:0<bw/\bw<=2048:=by rw[i8];exact ik lo
 have zh:0<D/\D<=100000:=by rw[i7];exact⟨H0,rb⟩
 have B3:Hid (0<c9/\c9<=2048):=Z (by rw[i9];exact jR lt);have B1:=Z Al;have B2:=Z zh;have i1:(1:Int)<=n:=by omega
 have i2:(n:Int)<=64:=by omega
 have JM:(1:Int)<=tt:=by omega
 have JN:(tt:Int)<=65536:=by omega
 clear Al zh i8 i7 i9 H0 H1 IK H6 rb rc r' io lo lt I H4 H9;go_in
 go_wp2_with (first|(go_at_call 50;refine hl.mono ?_;rintro e w2 ⟨⟨y,rfl,s4⟩,eS⟩;obtain rfl:y=.nilIface:=s4;have sv:=Z eS;have u20:=(Q.ch eS id).cell (i:=0) rfl;have u21:=(Q.ch eS id).cell (i:=1) rfl;have u22:=(Q.ch eS id).cell (i:=2) rfl;have u23:=(Q.ch eS id).cell (i:=3) rfl;clear eS)|(go_at_call 51;refine(tr _ sv).mono ?_;rintro e w3 ⟨⟨y,rfl,s4⟩,FC⟩;obtain rfl:y=.nilIface:=s4;have ax:=Z (sv.trans FC);clear FC))
 obtain⟨go,fb,gc,ge,gf⟩:=info_parts EL;have IM:=fun w=>run_make (P:=prog) w 127 148 go _ underlying127 fb gc .i64 .i64 (n:Int) (n:Int) (by omega) (by omega) (by rw[gf];omega) (by omega)
 obtain⟨cs,mk⟩:=nm (madeCells (Value.agg (#[.int .u64 0,.int .u64 0,.bool false,.int .i64 0,.int .i64 0]++Array.replicate 32 (.int .u64 0)++#[.slice none 0 0])).cells ((n:Int).toNat*go.size));simp only[mk]at IM;rw[ge,Int.toNat_natCast]at mk;have HH:=Z mk;have dC:Hid (cs.toList=(List.replicate n ay.zero).flatMap fun x=>x.cells (.slice none 0 0)):=Z (by
  rw[<-HH];exact ia (enc:=fun x:ay=>x.cells (.slice none 0 0)) (k:=38) (fun x=>ay.len (x,_)) (by omega) ay.zero _ rfl n)
 have JI:= @run_makeMap prog;clear mk fb gc ge gf;have s7:=li.c1;have st:w3.cell? ⟨w.heap.size,0,none⟩=some (.int .i64 n):=ax.k s7;clear s7;go_cut [10] (fun p wc=>q9 n w3 p wc)
 case first=>
  have k5:=World.new_ne w3 ⟨w.heap.size,0,none⟩ st;have kb:w.heap.size<w3.heap.size:=aP st;go_region_held3 (fun w'=>w'.cell? ⟨w.heap.size,0,none⟩=some (.int .i64 n)) (go_keep) ((go_at_call 52;refine(qn _).mono ?_;rintro e d ⟨b,hb,mb,qb,rfl,eW,cb,cd,ce,i5,ql⟩;have W:=Z eW;have z:Hid (Ch ag w3 d):=Z (Ch.trans (by repeat(first|exact Ch.refl _ _|with_reducible refine Ch.drew ?_|with_reducible refine Ch.alloc ?_ _)) ql);have cQ:=Z ql;have V:=Z (And.intro cb (And.intro cd (And.intro ce i5)));have x5:=z.out.k st;clear eW ql cb cd ce i5))
  all_goals(go_wp2_with fail;go_meet)
  ·exact q9.of (by simp) (((l6 w3 rfl).alloc _).AL.ch cQ id) ((jx (w3.alloc (.map #[] 0)) (k:=w3.heap.size+1) (by simp) dC).drew.ch cQ id) W (by have a:=V.out;simp only[World.size_alloc,World.size_drew]at a;omega) (by have a:=V.out;simp only[World.size_alloc,World.size_drew]at a;omega) (by have a:=V.out;simp only[World.size_alloc,World.size_drew]at a;omega) z
  ·exact q9.of (by simp) ((((l6 w3 rfl)).AL.ch cQ id).alloc _) (jx _ rfl dC) (W.ch (c:=(Ch.refl (fun _=>False) d).alloc _) id id id id (fun g I=>by cases I)) (by have a:=V.out;have c1:=z.size;simp only[World.size_alloc,World.size_drew]at a;omega) (by have a:=V.out;simp only[World.size_alloc,World.size_drew]at a;omega) (by have a:=V.out;simp only[World.size_alloc,World.size_drew]at a;omega) (z.alloc _)
  ·exact q9.of (by simp) ((l6 (w3.alloc (.cells cs 148)) (k:=w3.heap.size+1) (by simp)).AL.ch cQ id) (((jx _ rfl dC).alloc _).drew.ch cQ id) W (by have a:=V.out;simp only[World.size_alloc,World.size_drew]at a;omega) (by have a:=V.out;simp only[World.size_alloc,World.size_drew]at a;omega) (by have a:=V.out;simp only[World.size_alloc,World.size_drew]at a;omega) z
  ·exact q9.of (by simp) (l6 _ rfl) (((jx _ rfl dC).drew.ch cQ id).alloc _) (W.ch (c:=(Ch.refl (fun _=>False) d).alloc _) id id id id (fun g I=>by cases I)) (by have a:=V.out;have c1:=z.size;simp only[World.size_alloc,World.size_drew]at a;omega) (by have:=W.heap.map.lt;omega) (by have:=W.fm.lt;omega) (z.alloc _)
  ·exact q9.of (by simp) ((l6 _ rfl).alloc _) (jx (d.alloc (.map #[] 0)) (k:=d.heap.size+1) (by simp) dC) (W.ch (c:=((Ch.refl (fun _=>False) d).alloc _).alloc _) id id id id (fun g I=>by cases I)) (by have a:=V.out;have c1:=z.size;simp only[World.size_alloc,World.size_drew]at a;omega) (by have:=W.heap.map.lt;omega) (by have:=W.fm.lt;omega) ((z.alloc _).alloc _)
  ·exact q9.of (by simp) (l6 (d.alloc (.cells cs 148)) (k:=d.heap.size+1) (by simp)) ((jx _ rfl dC).alloc _) (W.ch (c:=((Ch.refl (fun _=>False) d).alloc _).alloc _) id id id id (fun g I=>by cases I)) (by have a:=V.out;have c1:=z.size;simp only[World.size_alloc,World.size_drew]at a;omega) (by have:=W.heap.map.lt;omega) (by have:=W.fm.lt;omega) ((z.alloc _).alloc _)
 case rest=>
  obtain⟨mb,al,o,av,eC,bx,eL,rfl,rg,rd,fd,eW,H8,k5,kb,lv⟩:=hcut;obtain⟨w4,Hn⟩:=nm wc;rw[Hn]at rg rd fd eW lv⊢;have am:=Z rg;have gt:Hid (Ch ag w1 w4):=Z (ax.trans lv.af);have es:=Z H8;have l1:=Z rd;have bv:=Z fd;have ab:=Z eW;have v1:=Z (And.intro k5 kb);have HG:=Z lv;clear rg rd fd eW H8 k5 kb lv Hn;have HR:=Z (fun(w:World) pre rows post (h:NM w mb pre rows post) (r:NR pre post o n 0 0)=>pO h r);have n2:=Z (HR w4.drew _ _ _ am.drew ⟨rfl,rfl,rfl,cl.1,cl.2,by omega,by omega,by omega,by omega⟩);have Jf:=((li.ch gt id).cell (i:=1) rfl);have Jg:=((Q.ch gt id).cell (i:=2) rfl);have Jh:=((Q.ch gt id).cell (i:=3) rfl);have JL:(f:Int)<=65536:=by have:=lb.out;omega
  have JJ:(t:Int)<=65536:=by have:=lb.out;omega
  rcases Nat.lt_or_ge tt (17+8*n+f+t+1)with it|it
  ·have H7:((tt:Int)<17+8*(n:Int)+f+t+1):=by omega
   have hu:=Z it;clear it;go_wp2_with fail
   have Jb:IntKind.i64.wrap (17+8*(n:Int)+f)=17+8*(n:Int)+f:=IntWalk.i64_in _ (by omega);have Jc:IntKind.i64.wrap (17+8*(n:Int)+f+t)=17+8*(n:Int)+f+t:=IntWalk.i64_in _ (by omega);have Jd:IntKind.i64.wrap (17+8*(n:Int)+f+t+1)=17+8*(n:Int)+f+t+1:=IntWalk.i64_in _ (by omega);refine wp_region_still (by kernel_rfl) (by kernel_rfl) ?_;try simp only[]
   repeat still_step
   still_call (b5 n2)
   repeat still_step
   try refine wpStill_nil ?_
   go_wp2_with (go_at_call 49;refine(fg _ _ _ _).mono ?_;rintro e w' ⟨rfl,rfl⟩)
   any_goals (first|(exfalso;omega)|skip)
   go_ret2;exact Or.inr ⟨hu,⟨_,rfl,ar.mk _ _⟩,(c6.trans gt.drew).alloc _⟩
  have H7:¬((tt:Int)<17+8*(n:Int)+f+t+1):=by omega
  have hu:=Z it;clear it;go_wp2_with fail
  have Jb:IntKind.i64.wrap (17+8*(n:Int)+f)=17+8*(n:Int)+f:=IntWalk.i64_in _ (by omega);have Jc:IntKind.i64.wrap (17+8*(n:Int)+f+t)=17+8*(n:Int)+f+t:=IntWalk.i64_in _ (by omega);have Jd:IntKind.i64.wrap (17+8*(n:Int)+f+t+1)=17+8*(n:Int)+f+t+1:=IntWalk.i64_in _ (by omega);refine wp_region_still (by kernel_rfl) (by kernel_rfl) ?_;try simp only[]
  repeat still_step
  still_call (b5 n2)
  repeat still_step
  try refine wpStill_nil ?_
  go_wp2_with fail
  any_goals (first|(exfalso;omega)|skip)
  change Code.wp _ _ _ _ w4.drew;obtain⟨d,ms⟩:=nm w4.drew;have z:Hid (Ch ag w1 d):=Z (by rw[<-ms];exact gt.drew);have sz:Hid (Ch ag w4 d):=Z (by rw[<-ms];exact(Ch.refl _ _).drew);have N:=Z (am.ch sz id);rw[ms];clear ms Jf Jg Jh n2 H7;have mS:=((ap.ch z id).cell (i:=0) rfl);have mW:=((ap.ch z id).cell (i:=1) rfl);have n0:=((ap.ch z id).cell (i:=2) rfl);go_cut [] (fun wc=>GQ mb [.pointer none,.pointer none,bj av,.pointer none,.pointer none,.pointer none,.pointer none,.map (some al),.slice (some (o,0)) n n,.int .i64 0,.int .i64 0,.int .i64 0,.int .u64 0,.slice none 0 0] [.slice none 0 0,.int .i64 0,.int .i64 0,.int .i64 0] loop l calls bw D d wc)
  case first=>
   have IY:=N.pc (i:=0) rfl;have IZ:=N.pc (i:=1) rfl;have I':=N.pc (i:=2) rfl;have f0:=N.fz 0;have f1:=N.fz 1;have f2:=N.fz 2;have IA:w.heap.size+1<mb:=Nat.lt_of_lt_of_le ap.lt (Nat.le_trans ax.size es.1);have d1:mb≠w.heap.size+1:=(by omega);have d2:w.heap.size+1≠mb:=(by omega);have k5:=World.new_ne d _ mS;have kb:=World.new_ne d _ mW;have J1:=World.new_ne d _ n0;obtain⟨go,fb,gc,ge,gf⟩:=info_parts oI;obtain⟨i1,IE,IU,IV,IW⟩:=info_parts AH;have ne:=Z fb;have HK:=Z IE;have HO:Hid (fo d R l):=Z (un.ch z id);have HN:Hid (Row d gk 49 (calls.flatMap bB.cells++cr)):=Z (ni.ch z id);have Ig:Hid ((b2 l).length=bw*7):=Z (by rw[iY,nC];omega);have Ih:Hid ((calls.flatMap bB.cells).length=D*6):=Z (by rw[ln,dN]);go_region_held_law (fun w'=>w'.cell? ⟨w.heap.size+1,0,none⟩=some (.slice (some (R,0)) bw c4)/\w'.cell? ⟨w.heap.size+1,1,none⟩=some (.int .i64 loop)/\w'.cell? ⟨w.heap.size+1,2,none⟩=some (.slice (some (gk,0)) D c3)) (go_keep) (first
    |(refine step_append_grows (by rfl) _ _ 30 (by rfl) 121 go _ 7 56 underlying30 ne.out gc ge gf (by rfl) (by omega) _ 0 0 [] (by rfl) (fun h=>⟨rfl,rfl⟩) (by rfl) (fun _ _ _ _ h=>by cases h) ⟨R,0,none⟩ bw c4 (b2 l) (by rfl) Ig.out (uV (fun j u fn=>(HO.out.ch (show Ch ag d _ by repeat(first|exact Ch.refl _ _|exact O.out|with_reducible refine Ch.drew ?_|with_reducible refine Ch.alloc ?_ _)) id).cell j u fn)) (jw l) (by have:=B1.out;omega) (by have:=B1.out;unfold maxLen;omega) (by have:=B1.out;omega) ?_;intro Hv cC ip ii;have A:Hid (Ch ag d cC):=Z ((show Ch ag d _ by repeat(first|exact Ch.refl _ _|exact O.out|with_reducible refine Ch.drew ?_|with_reducible refine Ch.alloc ?_ _)).trans ((Ch.bM ii).mono (fun i E=>by cases E)));obtain⟨c0,hF,s5,rfl,hA1,hA2,hA3,hA4,hA5⟩:=aF ip (by have:=B1.out;omega);have ov:=Z hA4;have hf:=Z (And.intro hA1 hA2);have Jp:=A.out.k mS;have Jq:=A.out.k mW;have Jr:=A.out.k n0;clear ip ii hA1 hA2 hA3 hA4 hA5)
    |(refine step_append_grows (by rfl) _ _ 31 (by rfl) 49 i1 _ 6 48 underlying31 HK.out IU IV IW (by rfl) (by omega) _ 0 0 [] (by rfl) (fun h=>⟨rfl,rfl⟩) (by rfl) (fun _ _ _ _ h=>by cases h) ⟨gk,0,none⟩ D c3 (calls.flatMap bB.cells) (by rfl) Ih.out (uV (fun j u fn=>(HN.out.ch (show Ch ag d _ by repeat(first|exact Ch.refl _ _|exact A.out|with_reducible refine Ch.drew ?_|with_reducible refine Ch.alloc ?_ _)) id).cell (by rw[List.getElem?_append_left (List.getElem?_eq_some_iff.1 fn).1];exact fn))) (AI calls) (by have:=B2.out;omega) (by have:=B2.out;unfold maxLen;omega) (by have:=B2.out;omega) ?_;intro Hv kf H5 r6;have O:Hid (Ch ag d kf):=Z ((show Ch ag d _ by repeat(first|exact Ch.refl _ _|exact A.out|with_reducible refine Ch.drew ?_|with_reducible refine Ch.alloc ?_ _)).trans ((Ch.bM r6).mono (fun i E=>by cases E)));obtain⟨lm,ww,IX,rfl,x8,x9,IB,xs,IC⟩:=aF H5 (by have:=B2.out;omega);have Il:=Z xs;have tg:=Z (And.intro x8 x9);have Hx:=Z (Ch.bM r6);have Js:=O.out.k mS;have Jt:=O.out.k mW;have Ju:=O.out.k n0;have IY:=(N.out.ch O.out id).pc (i:=0) rfl;have IZ:=(N.out.ch O.out id).pc (i:=1) rfl;have I':=(N.out.ch O.out id).pc (i:=2) rfl;have f0:=(N.out.ch O.out id).fz 0;have f1:=(N.out.ch O.out id).fz 1;have f2:=(N.out.ch O.out id).fz 2;clear H5 r6 x8 x9 IB xs IC))
   all_goals(go_wp2_with fail;go_meet)
   all_goals
    have i4:d.heap.size<=c0:=Nat.le_trans ((show Ch ag d _ by repeat(first|exact Ch.refl _ _|exact A.out|with_reducible refine Ch.drew ?_|with_reducible refine Ch.alloc ?_ _))).size hf.out.1;have p1:d.heap.size<=lm:=Nat.le_trans ((show Ch ag d _ by repeat(first|exact Ch.refl _ _|exact A.out|with_reducible refine Ch.drew ?_|with_reducible refine Ch.alloc ?_ _))).size tg.out.1;have p2:Ch ag cC kf:=((show Ch ag cC _ by repeat(first|exact Ch.refl _ _|exact A.out|with_reducible refine Ch.drew ?_|with_reducible refine Ch.alloc ?_ _))).trans (Hx.out.mono (fun i E=>by cases E));have p3:mb<d.heap.size:=N.lt;have c2:Ch (aL mb) kf (((kf.setCell (mb,0) (.slice (some (c0,0)) bw hF)).setCell (mb,1) (.int .i64 loop)).setCell (mb,2) (.slice (some (lm,0)) D ww)):=(((Ch.refl _ _).only _ _).only _ _).only _ _;refine⟨c0,hF,lm,ww,(((N.ch O id).uH (i:=0) (by omega) _).uH (i:=1) (by omega) _).uH (i:=2) (by omega) _,⟨⟨s5,?_⟩,?_,i4⟩,⟨⟨IX,?_⟩,?_,p1⟩,O.af.trans c2⟩
    ·exact(ov.ch p2 id).ch c2 (fun e=>by have:c0=mb:=e;omega)
    ·have:=hf.2;omega
    ·exact Il.ch c2 (fun e=>by have:lm=mb:=e;omega)
    ·have:=tg.2;omega
  case rest=>
   obtain⟨hv,ex,hw,eA,ro,cq,cf,qm⟩:=hcut;obtain⟨U,Ho⟩:=nm wc;rw[Ho]at ro cq cf qm⊢;have ad:=Z ro;have HY:=Z cq;have HZ:=Z cf;have ck:=Z qm;clear ro cq cf qm Ho mS mW n0;have Jj:Hid (Ch ag w U):=Z ((c6.trans z).fresh ck (fun b hb e=>by have a:b=mb:=e;have c1:=es.1;have pm:=Nat.lt_of_lt_of_le ap.lt ax.size;omega));have dr:∀x,x<w.heap.size+3->¬aL mb x:=(fun x fz e=>by have a:x=mb:=e;have c1:=es.1;have pm:=Nat.lt_of_lt_of_le Q.lt ax.size;omega);have Ip:=Z ((Q.ch z id).ch ck (dr _ (by omega)));obtain⟨s8,s9,mL,sb⟩:=Ip.c4;go_wp2
   go_cut [] (fun wc=>GR mb [.pointer none,.pointer none,bj av,.pointer none,.pointer none,.pointer none,.pointer none,.map (some al),.slice (some (o,0)) n n,.int .i64 0,.int .i64 0,.int .i64 0,.int .u64 0,.slice none 0 0] [.slice (some (hv,0)) bw ex,loop,.slice (some (hw,0)) D eA] en f t p c9 U wc)
   case first=>
    have J0:=ad.pc (i:=3) rfl;have IA:w.heap.size+2<mb:=Nat.lt_of_lt_of_le Q.lt (Nat.le_trans ax.size es.1);have d1:mb≠w.heap.size+2:=(by omega);have d2:w.heap.size+2≠mb:=(by omega);have d3:mb≠w.heap.size+1+1:=(by omega);have d4:w.heap.size+1+1≠mb:=(by omega);have k5:=World.new_ne U _ s8;have kb:=World.new_ne U _ s9;have J1:=World.new_ne U _ mL;have JY:=World.new_ne U _ sb;obtain⟨go,fb,gc,ge,gf⟩:=info_parts oI;have ne:=Z fb;have HV:Hid (fo U S p):=Z ((v4.ch z id).ch ck (dr _ (by have:=og.out;omega)));have Ii:Hid ((b2 p).length=c9*7):=Z (by rw[iY,ob];omega);go_region_held_law (fun w'=>w'.cell? ⟨w.heap.size+2,0,none⟩=some (.slice (some (S,0)) c9 pc)/\w'.cell? ⟨w.heap.size+2,1,none⟩=some (.int .i64 en)/\w'.cell? ⟨w.heap.size+2,2,none⟩=some (.int .i64 f)/\w'.cell? ⟨w.heap.size+2,3,none⟩=some (.int .i64 t)) (go_keep) ((refine step_append_grows (by rfl) _ _ 30 (by rfl) 121 go _ 7 56 underlying30 ne.out gc ge gf (by rfl) (by omega) _ 0 0 [] (by rfl) (fun h=>⟨rfl,rfl⟩) (by rfl) (fun _ _ _ _ h=>by cases h) ⟨S,0,none⟩ c9 pc (b2 p) (by rfl) Ii.out (uV (fun j u fn=>(HV.out.ch (show Ch ag U _ by repeat(first|exact Ch.refl _ _|with_reducible refine Ch.drew ?_|with_reducible refine Ch.alloc ?_ _)) id).cell j u fn)) (jw p) (by have:=B3.out;omega) (by have:=B3.out;unfold maxLen;omega) (by have:=B3.out;omega) ?_;intro Hv cC ip ii;have A:Hid (Ch ag U cC):=Z ((show Ch ag U _ by repeat(first|exact Ch.refl _ _|with_reducible refine Ch.drew ?_|with_reducible refine Ch.alloc ?_ _)).trans ((Ch.bM ii).mono (fun i E=>by cases E)));obtain⟨c0,hF,s5,rfl,hA1,hA2,hA3,hA4,hA5⟩:=aF ip (by have:=B3.out;omega);have ov:=Z hA4;have hf:=Z (And.intro hA1 hA2);have a0:=A.out.k s8;have a1:=A.out.k s9;have a2:=A.out.k mL;have a3:=A.out.k sb;have J0:=(ad.out.ch A.out id).pc (i:=3) rfl;have JV:=(ad.out.ch A.out id).pc (i:=4) rfl;have JW:=(ad.out.ch A.out id).pc (i:=5) rfl;have JX:=(ad.out.ch A.out id).pc (i:=6) rfl;have f3:=(ad.out.ch A.out id).fz 3;have f4:=(ad.out.ch A.out id).fz 4;have f5:=(ad.out.ch A.out id).fz 5;have f6:=(ad.out.ch A.out id).fz 6;clear ip ii hA1 hA2 hA3 hA4 hA5))
    all_goals(go_wp2_with fail;go_meet)
    all_goals
     have i4:U.heap.size<=c0:=Nat.le_trans ((show Ch ag U _ by repeat(first|exact Ch.refl _ _|with_reducible refine Ch.drew ?_|with_reducible refine Ch.alloc ?_ _))).size hf.out.1;have p3:mb<U.heap.size:=ad.lt;have c2:Ch (aL mb) cC ((((cC.setCell (mb,3) (.slice (some (c0,0)) c9 hF)).setCell (mb,4) (.int .i64 en)).setCell (mb,5) (.int .i64 f)).setCell (mb,6) (.int .i64 t)):=((((Ch.refl _ _).only _ _).only _ _).only _ _).only _ _;refine⟨c0,hF,((((ad.ch A id).uH (i:=3) (by omega) _).uH (i:=4) (by omega) _).uH (i:=5) (by omega) _).uH (i:=6) (by omega) _,⟨⟨s5,?_⟩,?_,i4⟩,A.af.trans c2⟩
     ·exact ov.ch c2 (fun e=>by have:c0=mb:=e;omega)
     ·have:=hf.2;omega
   case rest=>
    obtain⟨ll,hB,rt,jp,qr⟩:=hcut;obtain⟨gs,Hp⟩:=nm wc;rw[Hp]at rt jp qr⊢;have v2:=Z rt;have H':=Z jp;have hi:=Z qr;clear rt jp qr Hp s8 s9 mL sb;obtain⟨pre,s2⟩:=nm ([Value.slice (some (hv,0)) bw ex,loop,.slice (some (hw,0)) D eA,.slice (some (ll,0)) c9 hB,en,.int .i64 f,.int .i64 t]);have ok:=Z s2;have n1:Hid (Ch (aL mb) d gs):=Z (ck.trans hi);have ci:=Z dr;have Io:=Z ((ap.ch z id).ch n1 (dr _ (by omega)));have ls:=v2.out;have ls:NM gs mb pre (List.replicate 1000 0) [.pointer none,.pointer none,bj av,.pointer none,.pointer none,.pointer none,.pointer none,.map (some al),.slice (some (o,0)) n n,.int .i64 0,.int .i64 0,.int .i64 0,.int .u64 0,.slice none 0 0]:=(by rw[<-s2];exact v2);obtain⟨post,s1⟩:=nm ([.pointer none,.pointer none,bj av,.pointer none,.pointer none,.pointer none,.pointer none,.map (some al),.slice (some (o,0)) n n,.int .i64 0,.int .i64 0,.int .i64 0,.int .u64 0,.slice none 0 0]);rw[s1]at ls;have bi:=Z s1;have HP:=Z ls;have HM:Hid (Row gs gk 49 (calls.flatMap bB.cells++cr)):=Z ((ni.ch z id).ch n1 (dr _ (by have:=og.2.2;omega)));have mL:=Io.k 2 rfl;have JD:(D:Int)<=100000:=(by have:=B2.out;omega);clear ls s2 s1 dr;go_wp2
    go_loopg [99] (D+1) (fun pl i wr=>∃k:Nat,k<=D/\pl=D-k+1/\i=.int .i64 k/\Hid (NM wr mb pre (fJ calls k) post)/\Hid (Ch (aL mb) gs wr))
    case atStart=>exact⟨0,by omega,by omega,rfl,HP,Z (Ch.refl _ _)⟩
    case round=>
     obtain⟨k,IJ,rfl,rfl,ec,CR⟩:=hrel;by_cases mm:k<D
     ·obtain⟨X,ih⟩:∃X,calls[k]?=some X:=⟨_,List.getElem?_eq_getElem (by rw[<-dN];exact mm)⟩
      have Jn:=Z ih;have fd:Hid (Row wr gk 49 (calls.flatMap bB.cells++cr)):=Z (HM.ch CR (ci _ (by have:=og.2.2;omega)));have cm:∀j v,j<6->X.cells[j]?=some v->wr.cell? ⟨gk,k*6+j,none⟩=some v:=fun j v IF IS=>fd.out.cell (by
       rw[List.getElem?_append_left (by
        rw[ln,<-dN];have:(k+1)*6<=D*6:=Nat.mul_le_mul_right _ mm;omega)]
       exact(bD bB.len ih IF).trans IS)
      have rx:=HS X (List.mem_of_getElem? ih);have y0:fJ calls (k+1)=(fJ calls k).set X.num.toNat ((k:Int)+1):=by
       rw[fJ,List.getD_eq_getElem?_getD,ih];rfl
      obtain⟨num,at_,k0,k1,k2,k3⟩:=X;obtain⟨m,rfl⟩:∃m:Nat,num=m:=⟨num.toNat,by have:=rx.1;dsimp only at this;omega⟩;have H2:m<1000:=(by have:=rx.2;dsimp only at this;omega);have JH:(m:Int)<1000:=(by omega);have JG:(0:Int)<=m:=(by omega);have HI:=Z y0;have wv:=cm 0 _ (by omega) rfl;have Ir:=cm 1 _ (by omega) rfl;have Is:=cm 2 _ (by omega) rfl;have It:=cm 3 _ (by omega) rfl;have Iu:=cm 4 _ (by omega) rfl;have Iv:=cm 5 _ (by omega) rfl;rw[Nat.add_zero]at wv;obtain⟨s6,hold⟩:∃s6,(fJ calls k)[m]?=some s6:=⟨_,List.getElem?_eq_getElem (by rw[ec.n2];exact H2)⟩;have bx:=ec.rc hold;have Iy:=ec.fz (7+m);have JF:(k:Int)<D:=(by omega);have cq:=fd.out.lt;have cf:=ec.lt;clear cm ih rx y0 hold;go_wp2_with fail
      obtain⟨kd,fr⟩:=nm (wr.alloc (.cells #[.int .i64 m,at_,k0,k1,k2,k3] 49));obtain⟨Je,s3⟩:=nm wr.heap.size;have I2:Hid (Row kd Je 49 [.int .i64 m,at_,k0,k1,k2,k3]):=Z (by rw[<-fr,<-s3];exact Row.new _ _ _);have v6:Hid (NM kd mb pre (fJ calls k) post):=Z (by rw[<-fr];exact ec.alloc _);have HA:Hid (Ch (aL mb) gs kd):=Z (by rw[<-fr];exact CR.alloc _);have x0:=I2.c1;have Jv:kd.cell? (mb,7+m)=some (.int .i64 s6):=(by rw[<-fr,World.cell?_alloc_past _ _ _ cf];exact bx);have Jz:=v6.fz (7+m);rw[fr,s3];clear fr s3 cq cf wv Ir Is It Iu Iv bx Iy;refine wp_region_still_tail 8 (by kernel_rfl) (by kernel_rfl) ?_;simp only[List.take_succ_cons,List.take_zero,List.drop_succ_cons,List.drop_zero]
      repeat still_step
      try refine wpStill_nil ?_
      change wpList _ _ _ _ _ kd.drew;go_wp2
      go_roundg (D-k)
      case measure=>omega
      case rel=>exact⟨k+1,by omega,by omega,by go_num,Z (by rw[HI];exact v6.drew.az H2 _),Z (HA.drew.only _ _)⟩
     ·have IJ:¬(k:Int)<D:=by omega
      have IL:k=D:=(by omega);subst IL;have IT:∃F,F=wr:=⟨_,rfl⟩;obtain⟨F,rfl⟩:=IT;have ch:Hid (Ch (aL mb) d F):=Z (n1.trans CR);have Im:=Z ((li.ch z id).ch ch (ci _ (by omega)));have i3:¬aL mb w.heap.size:=ci _ (by omega);have Jx:mb≠w.heap.size:=(fun e=>i3 e.symm);have Jy:w.heap.size≠mb:=(fun e=>i3 e);go_wp2_with (first
       |(go_at_call 53;refine(sT _).mono ?_;rintro e cL ⟨rfl,CM,mc⟩;have w0:=Z CM;have sC:=Z mc;have ID:=Z mc;have nw:=Z (ec.ch mc id);have J3:=nw.qc (j:=3) (by rw[<-bi];rfl);have Ja:=nw.fz 1010;clear CM mc)
       |(go_at_call 54;refine(o7 _).mono ?_;rintro e Y ⟨qb,gr,cA,rfl,AC,cb,cd,ce,l'⟩;have HW:=Z AC;have HE:=Z (And.intro cb (And.intro cd ce));have Jl:=Z l';have kw:Hid (Ch (aL mb) cL Y):=Z ((((Ch.refl _ _).only _ _)).trans l'.af);have nq:=Z ((nw.kl 3 (bj (F.heap.size+1))).ch l' id);have J4:=nq.qc (j:=4) (by rw[<-bi];rfl);have J5:=nq.fz 1011;clear AC l' cb cd ce)
       |(go_at_call 55;refine(q0 _).mono ?_;rintro e M ⟨rfl,Do,md⟩;have I0:=Z Do;have Jm:=Z md;have he:Hid (Ch (aL mb) Y M):=Z ((((Ch.refl _ _).only _ _)).trans md.af);have nx:=Z ((nq.kl 4 (bj qb)).ch md id);have J6:=nx.qc (j:=5) (by rw[<-bi];rfl);have J7:=nx.fz 1012;clear Do md)
       |(go_at_call 56;refine(oq _).mono ?_;rintro e kv ⟨rfl,At,lw⟩;have HU:=Z At;have Jk:=Z lw;have cW:Hid (Ch (aL mb) M kv):=Z ((((Ch.refl _ _).only _ _)).trans lw.af);have no:=Z ((nx.kl 5 (bj _)).ch lw id);have J8:=no.qc (j:=6) (by rw[<-bi];rfl);have J9:=no.fz 1013;have J2:=((((Im.ch ID.out id).ch kw i3).ch he i3).ch cW i3).cell (i:=1) rfl;clear At lw)
       |fail)
      obtain⟨sl,mA⟩:=nm (kv.setCell (mb,1013) (.pointer (some (M.heap.size+1,0))));have hm:=no.kl 6 (bj (M.heap.size+1));rw[show kv.setCell (mb,1007+6) (bj (M.heap.size+1))=sl from mA]at hm;have cS:Hid (Ch (aL mb) kv sl):=Z (by rw[<-mA];exact(Ch.refl _ _).only _ _);obtain⟨Ht,s0⟩:∃q,(((post.set 3 (bj (F.heap.size+1))).set 4 (bj qb)).set 5 (bj (Y.heap.size+1))).set 6 (bj (M.heap.size+1))=q:=⟨_,rfl⟩;rw[s0]at hm;have hn:=Z s0;have hm:=Z hm;have ty:=Ap mb pre (fJ calls k) Ht o n f t tt sl hm ⟨by rw[<-hn,<-bi];rfl,by rw[<-ok];rfl,by rw[<-ok];rfl,cl.1,cl.2,by omega,lb.2.1,by omega,lb.2.2.2⟩ (by rw[<-hn,<-bi];simp) on.1 on.2 (by have:=hu.out;omega);rw[mA];clear mA s0 J3 Ja J4 J5 J6 J7 J8 J9 J2
      (with_reducible refine ty.mono ?_)
      clear ty;rintro e c5 ⟨rfl,m,c,i0,et,yk,H3,Ev,cb,cd,ce,i5,FL⟩;have ut:=Z yk;have HQ:=Z H3;have HF:=Z Ev;have HD:=Z (And.intro cb (And.intro cd (And.intro ce i5)));have CL:=Z FL;clear yk H3 Ev cb cd ce i5 FL;have kT:Hid (Ch (aL mb) F c5):=Z (((((sC.af.trans kw).trans he).trans cW).trans cS).trans CL);have ws:=Z (((ap.ch z id).ch ch (ci _ (by omega))).ch kT (ci _ (by omega)));have x1:=ws.k 1 rfl;have JZ:=ut.qc (j:=8) (v:=.slice (some (o,0)) n n) (by rw[<-hn,<-bi];rfl);have c7:Hid (Ch (aL mb) w4 d):=Z sz.af;have x3:o≠mb:=Row.ne bv am.row (by decide);have I1:Hid (Row c5 o 148 ((q' n loop 0).flatMap fun x=>x.cells (.slice none 0 0))):=Z (bv.ch ((c7.trans ch).trans kT) (fun e=>x3 e));go_wp2
      go_loopg [150] (n+1) (fun pl i wr=>∃q:Nat,q<=n/\pl=n-q+1/\i=.int .i64 q/\Hid (Row wr o 148 ((q' n loop q).flatMap fun x=>x.cells (.slice none 0 0)))/\Hid (Ch (aL o) c5 wr))
      case atStart=>exact⟨0,by omega,by omega,rfl,I1,Z (Ch.refl _ _)⟩
      case round=>
       obtain⟨q,JK,rfl,rfl,lc,H⟩:=hrel;have K2:=(ws.ch H (fun e=>by have a:w.heap.size+1=o:=e;have c1:=es.2.2.1;have pm:=Nat.lt_of_lt_of_le ap.lt ax.size;omega)).cell (i:=1) rfl;have v0:=Z (ut.ch H (fun e=>x3 e.symm));have K7:=v0.qc (j:=8) (v:=.slice (some (o,0)) n n) (by rw[<-hn,<-bi];rfl);by_cases mm:q<n
       ·have IP:(q:Int)<n:=by omega
        have mp:=oL n loop q q mm;rw[if_neg (by omega)]at mp;have Jw:wr.cell? ⟨o,q*38+4,none⟩=some (.int .i64 0):=lc.at (fun x=>ay.len (x,_)) mp (by omega) rfl;have JA:=lc.free (q*38+4);have HX:=Z mp;clear mp;go_wp2_with fail
        refine wp_region_still_tail 10 (by kernel_rfl) (by kernel_rfl) ?_;simp only[List.take_succ_cons,List.take_zero,List.drop_succ_cons,List.drop_zero]
        repeat still_step
        try refine wpStill_nil ?_
        change wpList _ _ _ _ _ wr.drew;go_wp2
        go_roundg (n-q)
        case measure=>omega
        case rel=>
         exact⟨q+1,by omega,by omega,by go_num,Z (lc.drew.put (fun x=>ay.len (x,_)) HX (by omega) rfl),Z (H.drew.only _ _)⟩
       ·have IP:¬(q:Int)<n:=by omega
        have IQ:q=n:=(by omega);subst IQ;have up:Hid (mb<F.heap.size/\o<F.heap.size):=Z ⟨Nat.lt_of_lt_of_le am.lt (Nat.le_trans c7.size ch.size),Nat.lt_of_lt_of_le bv.lt (Nat.le_trans c7.size ch.size)⟩;have sw:Hid (Ch (aL mb) w4 c5):=Z ((c7.trans ch).trans kT);have d1:av≠mb:=Row.ne ab.head am.row (by decide);have d2:eC≠mb:=Row.ne ab.heap.head am.row (by decide);have d3:mb≠bx:=gb am.row ab.heap.map;have d4:mb≠eL:=gb am.row ab.fm;have d5:mb≠al:=gb am.row l1;have i4:av≠o:=Row.ne ab.head bv (by decide);have p1:eC≠o:=Row.ne ab.heap.head bv (by decide);have p2:o≠bx:=gb bv ab.heap.map;have p3:o≠eL:=gb bv ab.fm;have Ix:o≠al:=gb bv l1;have I7:Hid (aZ wr av eC bx eL (.slice none 0 0) aO.new):=Z ((ab.ch sw d1 d2 (fun e=>d3 e.symm) (fun e=>d4 e.symm) (fun g I=>by cases I)).ch H i4 p1 (fun e=>p2 e.symm) (fun e=>p3 e.symm) (fun g I=>by cases I));have Ie:Hid (bR (α:=Nat) wr al .u64 bj []):=Z ((l1.ch sw (fun e=>d5 e.symm)).ch H (fun e=>Ix e.symm));have G:∀x,F.heap.size<=x->¬aL mb x/\¬aL o x:=(fun x fz=>⟨fun e=>by have a:x=mb:=e;have:=up.1;omega,fun e=>by have a:x=o:=e;have:=up.2;omega⟩);have K8:=sC.size;have Kd:=kw.size;have Kc:=he.size;have Ke:=cW.size;have Ka:=cS.size;have Kb:=CL.size;have HB:Hid (Ch (aL mb) cL c5):=Z ((((kw.trans he).trans cW).trans cS).trans CL);have Hz:Hid (Ch (aL mb) Y c5):=Z (((he.trans cW).trans cS).trans CL);have HC:Hid (Ch (aL mb) M c5):=Z ((cW.trans cS).trans CL);have Hy:Hid (Ch (aL mb) kv c5):=Z (cS.trans CL);have Ib:Hid (eO wr (F.heap.size+1) F.heap.size []):=Z ((w0.ch HB (G _ (by omega)).1 (G _ (by omega)).1).ch H (G _ (by omega)).2 (G _ (by omega)).2);have Iz:=HE.out;have Hu:∀x,cL.heap.size<=x->¬aL mb x/\¬aL o x:=(fun x fz=>G x (by omega));have pi:cL.heap.size<=qb/\cL.heap.size<=gr/\cL.heap.size<=cA:=(by simpa using Iz);have Ia:Hid (im wr qb gr cA (List.replicate 8 [])):=Z (by
         have EQ:∀i,QD qb gr cA (List.replicate 8 []) i->cL.heap.size<=i:=fun i E=>by
          rcases E with rfl|rfl|rfl|⟨s,IR,_⟩
          ·exact pi.1
          ·exact pi.2.1
          ·exact pi.2.2
          ·have:s∈(List.replicate 8 ([]:List Sl)).flatten:=IR
           simp at this
         exact(HW.ch Hz (fun i E=>(Hu i (EQ i E)).1)).ch H (fun i E=>(Hu i (EQ i E)).2))
        have Ic:=Z ((I0.ch HC (G _ (by simp;omega)).1 (G _ (by simp;omega)).1).ch H (G _ (by simp;omega)).2 (G _ (by simp;omega)).2);have I9:=Z ((HU.ch Hy (G _ (by simp;omega)).1 (G _ (by simp;omega)).1).ch H (G _ (by simp;omega)).2 (G _ (by simp;omega)).2);have JB:=HD.out;have I8:=Z (HQ.ch H (G _ (by omega)).2 (G _ (by omega)).2 (G _ (by omega)).2);have I3:=Z (HF.ch H (G _ (by omega)).2 (fun g I=>by cases I));have hd:Hid (Ch (aL mb) gs c5):=Z (CR.trans kT);have Kf:o<d.heap.size/\mb<d.heap.size:=⟨Nat.lt_of_lt_of_le bv.lt c7.size,Nat.lt_of_lt_of_le am.lt c7.size⟩;have K5:=ck.size;have cq:=HY.out;have cf:=HZ.out;have jp:=H'.out;obtain⟨⟨JO,FS⟩,IG,pv⟩:=cq;obtain⟨⟨JP,FW⟩,IH,qc⟩:=cf;obtain⟨⟨JQ,Gr⟩,II,JE⟩:=jp;have c8:∀x,d.heap.size<=x->¬aL mb x/\¬aL o x:=(fun x fz=>⟨fun e=>by have a:x=mb:=e;omega,fun e=>by have a:x=o:=e;omega⟩);have I4:=Z (((FS.ch hi (c8 _ pv).1).ch hd (c8 _ pv).1).ch H (c8 _ pv).2);have I5:=Z (((FW.ch hi (c8 _ qc).1).ch hd (c8 _ qc).1).ch H (c8 _ qc).2);have I6:=Z ((Gr.ch hd (c8 _ (by omega)).1).ch H (c8 _ (by omega)).2);obtain⟨J,T⟩:=nm (tn l loop calls p en f t);have If:Hid (Row wr o 148 ((List.replicate q (ay.new J.loop)).flatMap fun x=>x.cells (.slice none 0 0))):=Z (by
         have:=lc.out;rw[AN]at this;rw[<-T];exact this)
        have x4:pre=kR J (lZ mb m c i0 et av eC bx eL (F.heap.size+1) F.heap.size qb gr cA (Y.heap.size+1) Y.heap.size (M.heap.size+1) M.heap.size al o hv ex hw eA ll hB):=(by rw[<-ok,<-T,nC,dN,ob];rfl);have x6:(Ht.set 0 (bj m)).set 1 (bj et)=hc (lZ mb m c i0 et av eC bx eL (F.heap.size+1) F.heap.size qb gr cA (Y.heap.size+1) Y.heap.size (M.heap.size+1) M.heap.size al o hv ex hw eA ll hB) (.slice none 0 0) q 0 0 0 0:=(by rw[<-hn,<-bi];rfl);have x7:fJ calls k=J.rows:=(by rw[<-T,dN];rfl);have os:=v0.out;rw[x4,x6,x7]at os;have pa:J.wide.toNat=f:=(by rw[<-T];exact Int.toNat_natCast f);have p8:J.narrow.toNat=t:=(by rw[<-T];exact Int.toNat_natCast t);have wh:aM wr m c i0 (ko J q tt).mem:=(by show aM wr m c i0 (fX tt q J.wide.toNat J.narrow.toNat);rw[pa,p8];exact I8);have wd:aW wr et m (.slice none 0 0) (ko J q tt).blocks:=(by show aW wr et m (.slice none 0 0) ⟨17+8*q+J.wide.toNat+J.narrow.toNat,tt,[]⟩;rw[pa,p8];exact I3);have K9:w.heap.size<=w3.heap.size:=Nat.le_trans c6.size ax.size;have K3:w3.heap.size<=d.heap.size:=Nat.le_trans HG.size c7.size;have K6:=ch.size;have JC:=es.out;have JR:=ab.heap.map.lt;have JS:=ab.fm.lt;have JU:=l1.lt;have K4:=c7.size;have JT:=w0.BZ;have wl:a5 wr (Y.heap.size+1) Y.heap.size (List.replicate 64 aE.zero):=(by have h:=Ic.out;rw[World.size_setCell]at h;exact h);have wk:bX wr (M.heap.size+1) M.heap.size (List.replicate 64 bK.zero):=(by have h:=I9.out;rw[World.size_setCell]at h;exact h);have wq:=uL (B:=w.heap.size) (C:=J) (n:=q) (tt:=tt) cl.2 os wh wd I7 Ib Ia wl wk Ie If (by rw[<-T];exact I4) (by rw[<-T];exact I5) (by rw[<-T];exact I6)
         (by rw[<-T];show l.length<=ex;rw[<-nC];exact IG) (by rw[<-T];show calls.length<=eA;rw[<-dN];exact IH) (by rw[<-T];show p.length<=hB;rw[<-ob];exact II)
         (by omega) (fun e=>v1.1 e.symm) (fun e=>v1.2 e.symm) (by omega) (by omega) (by omega) (by omega) (by omega) (by omega) (by omega) (by omega) (by omega)
        have l0:=Z wq;have n8:=Z T;have i6:=wg J q tt cl.1 cl.2 on.2 (by rw[pa,p8];have:=hu.out;omega);obtain⟨Hw,mC⟩:∃χ,hO wr w.heap.size F.heap.size al cA=χ:=⟨_,rfl⟩;rw[mC]at l0;have wb:Hid (∀i,Hw i≠ .no->w.heap.size<=i):=Z (fun i E=>by rw[<-mC]at E;exact(pP E).1);have HT:Hid (ho Hw):=Z (fun i=>by rw[<-mC];exact uJ i);obtain⟨wn,pu⟩:∃L,(lZ mb m c i0 et av eC bx eL (F.heap.size+1) F.heap.size qb gr cA (Y.heap.size+1) Y.heap.size (M.heap.size+1) M.heap.size al o hv ex hw eA ll hB)=L:=⟨_,rfl⟩;rw[pu]at l0;have re:wn.mb=mb:=(by rw[<-pu];rfl);obtain⟨le,pp⟩:∃K,ko J q tt=K:=⟨_,rfl⟩;rw[pp]at l0 i6;have HL:=Z pp;have Fr:=i6.bH.ok (by omega);have FA:=(m4 i6.bH i6.mem 1).1.ok (by omega);have r5:=i6.fresh (by omega);have tm:=Z (uU en 0 Fr FA r5 l0);have HJ:=Z (kX (K:=le) en 0 r5);rw[re]at tm;have us:=Z re;have tb:Hid (Ch ag w wr):=Z (((c6.trans z).fresh ((ck.trans hi).trans hd) (fun x fz e=>(ci x (by omega)) e)).fresh H (fun x fz e=>by have a:x=o:=e;omega));have K1:=(((Q.ch z id).ch ((ck.trans hi).trans hd) (ci _ (by omega))).ch H (fun e=>by have a:w.heap.size+2=o:=e;have pm:=Nat.lt_of_lt_of_le Q.lt ax.size;omega)).cell (i:=1) rfl;clear x4 x6 x7 os wh wd wl wk wq mC pu pp Fr FA r5 re T FS FW Gr;go_wp2_with fail
        (with_reducible refine tm.out.mono ?_)
        rintro e kf ⟨rfl,Kg,Jo,a,Hr⟩;have Ij:=Z (Hr HT);clear Hr;have th:=Z a;have x2:=a.at_.nN;rw[us]at x2;clear a;go_wp2_with fail
        (with_reducible refine(yr _ th.out.at_).mono ?_)
        rintro e K0 ⟨⟨v,rfl,_⟩,Ji,Iq,c1,Hs⟩;have Ik:=Z (Hs Ij);clear Hs;have tl:=Z (th.trans HJ c1);clear c1 x2;go_wp2
        go_ret2;have Hq:=tl.nx;refine Or.inl ⟨hu,Ji,wn,Iq,by rw[us];rfl,?_,?_,Ik,?_⟩
        ·have Iw:fH (tn l loop calls p en f t) q tt={(bL le en 0).2 with ring:=(hp (bL le en 0).2.ring (bL le en 0).1).2}:=by rw[n8,<-HL];unfold fH;rw[show J.entry=en by rw[<-n8];rfl]
         rw[Iw,n8];exact tl.at_
        ·intro i E
         rcases Nat.lt_or_ge i wr.heap.size with h|h
         ·exact wb i (by rw[<-Hq.same i h];exact E)
         ·exact Nat.le_trans tb.size h
        ·exact tb.fresh Hq.ch (fun x fz IN=>by have:=wb x IN;omega)
def cM(v n:Int):Int:=if n<1 then 0 else if Int.tmod v n<0 then Int.tmod v n+n else Int.tmod v n
theorem ks(v n:Int)(d:n<=1000000)(w:World):Calls prog 27 #[v,n] w (fun e w'=>e=.returned (.int .i64 (cM v n))/\w=w'):=by
 go_in
 by_cases b:n<1
 ·have a:Hid (cM v n=0):=by show _=_;unfold cM;rw[if_pos b]
  go_wp2
  go_ret;rw[a];exact⟨rfl,rfl⟩
 ·have f:¬n=0:=by omega
  have g:=Int.tmod_lt_of_pos v (show 0<n by omega);have h:-n<Int.tmod v n:=by
   have:=Int.tmod_lt_of_pos (-v) (show 0<n by omega);rw[Int.neg_tmod]at this;omega
  by_cases c:Int.tmod v n<0
  ·have a:Hid (cM v n=Int.tmod v n+n):=by show _=_;unfold cM;rw[if_neg b,if_pos c]
   go_wp2
   go_ret;rw[a];exact⟨rfl,rfl⟩
  ·have a:Hid (cM v n=Int.tmod v n):=by show _=_;unfold cM;rw[if_neg b,if_neg c]
   go_wp2
   go_ret;rw[a];exact⟨rfl,rfl⟩
theorem dz(v n:Int)(h:1<=n):0<=cM v n/\cM v n<n:=by
 unfold cM;have a:=Int.tmod_lt_of_pos v (show 0<n by omega);have b:-n<Int.tmod v n:=by
  have:=Int.tmod_lt_of_pos (-v) (show 0<n by omega);rw[Int.neg_tmod]at this;omega
 split
 ·omega
 ·split<;>omega
def dh(wk a:Int):Int×Int:=(1+cM wk 5,if Int.tmod a 5=0 then 60+cM a 90 else 200+cM a 400)
theorem oS(wk a:Int):1<=(dh wk a).1/\(dh wk a).1<=64/\1<=(dh wk a).2/\(dh wk a).2<=65536:=by
 have b:=dz wk 5 (by decide);have c:=dz a 90 (by decide);have d:=dz a 400 (by decide);unfold dh;dsimp only
 split<;>omega
theorem tx(wk d:Int)(w:World):Calls prog 12 #[.agg #[wk,d]] w (dc (.agg #[.int .i64 (dh wk d).1,.int .i64 (dh wk d).2]) w):=by
 have y:=dz wk 5 (by decide);have z:=dz d 90 (by decide);have A:=dz d 400 (by decide);have h:=Z (fun v n B w=>ks v n B w);have l:Hid ((dh wk d).1=1+cM wk 5):=Z rfl;obtain⟨a,s⟩:=nm (cM wk 5);obtain⟨b,hb⟩:=nm (cM d 90);obtain⟨c,o⟩:=nm (cM d 400);have i:=Z (h wk 5 (by decide));have r:=Z (h d 90 (by decide));have j:=Z (h d 400 (by decide));rw[s]at i y l;rw[hb]at r z;rw[o]at j A;have u:=Z hb;have x:=Z o;clear s hb o h;have w1:IntKind.i64.wrap (200+c)=200+c:=IntWalk.i64_in _ (by omega);have w2:IntKind.i64.wrap (60+b)=60+b:=IntWalk.i64_in _ (by omega);have w3:IntKind.i64.wrap (1+a)=1+a:=IntWalk.i64_in _ (by omega);by_cases p:Int.tmod d 5=0
 ·have m:Hid ((dh wk d).2=60+b):=Z (by unfold dh;rw[if_pos p,u])
  go_in
  go_wp2_with (first|(go_at_call 27;(with_reducible refine(j.out _).mono ?_);rintro e w' ⟨rfl,rfl⟩)|(go_at_call 27;(with_reducible refine(r.out _).mono ?_);rintro e w' ⟨rfl,rfl⟩)|(go_at_call 27;(with_reducible refine(i.out _).mono ?_);rintro e w' ⟨rfl,rfl⟩))
  obtain⟨C,g⟩:=nm ((w.alloc (.cells #[wk,d] 23)).alloc (.cells #[.int .i64 (1+a),.int .i64 (60+b)] 43));have f:=jx (w.alloc (.cells #[wk,d] 23)) (k:=w.heap.size+1) (by simp) (cs:=#[.int .i64 (1+a),.int .i64 (60+b)]) (t:=43) rfl;rw[g]at f⊢;obtain⟨y0,q⟩:=f.c2;refine bodyPost_ret (v:=.agg #[.int .i64 (1+a),.int .i64 (60+b)]) ?_ rfl ?_
  ·simp[results,Tryz.f12,go_sem,y0,q]
  ·rw[l,m,<-g]
   exact⟨rfl,((Ch.refl _ _).alloc _).alloc _⟩
 ·have m:Hid ((dh wk d).2=200+c):=Z (by unfold dh;rw[if_neg p,x])
  have D:(Int.tmod d 5==0)=false:=by simpa using p
  go_in
  go_wp2_with (first|(go_at_call 27;(with_reducible refine(j.out _).mono ?_);rintro e w' ⟨rfl,rfl⟩)|(go_at_call 27;(with_reducible refine(i.out _).mono ?_);rintro e w' ⟨rfl,rfl⟩))
  obtain⟨C,g⟩:=nm ((w.alloc (.cells #[wk,d] 23)).alloc (.cells #[.int .i64 (1+a),.int .i64 (200+c)] 43));have f:=jx (w.alloc (.cells #[wk,d] 23)) (k:=w.heap.size+1) (by simp) (cs:=#[.int .i64 (1+a),.int .i64 (200+c)]) (t:=43) rfl;rw[g]at f⊢;obtain⟨y0,q⟩:=f.c2;refine bodyPost_ret (v:=.agg #[.int .i64 (1+a),.int .i64 (200+c)]) ?_ rfl ?_
  ·simp[results,Tryz.f12,go_sem,y0,q]
  ·rw[l,m,<-g]
   exact⟨rfl,((Ch.refl _ _).alloc _).alloc _⟩
def cellOf(x:fl):Int:=if 4294967296<x.a then x.a else x.a%4
def ew(x:fl):Int:=m9.getD (cM x.uZ 9).toNat 0
def iV(S:WS)(X:aR):WS:={S with code:=S.code++[X]}
def cI(S:WS)(x:fl):WS:=
 if 900<=ew x then iV (fK (fK S 2 (x.b%5)) 3 (x.c%5)) ⟨17+ew x-900,2,-1,if ew x=904 then 3 else 0,cellOf x,0,0⟩
 else if ew x=70 then cg S 70 [cellOf x,x.b%3,gW x.c,1+x.d%3]
 else if ew x=71 then cg S 71 [cellOf x,x.b%4,1+x.c%3]
 else cg S (ew x) [cellOf x,x.b%3,x.c%4,x.d%3]
structure iU(x:fl):Prop where
 a:aI x.a
 b:aI x.b
 c:aI x.c
 d:aI x.d
theorem tA{B:Nat}{w w1 a b:World}(h:Below B w w1)(d:B<=w1.heap.size)(c:Ch ag w1 a)(k:Below B a b):Below B w b:=(h.trans (c.below d (fun _ hb=>False.elim hb))).trans k
theorem yE(x:fl):m9[(cM x.uZ 9).toNat]?=some (ew x)/\(900<=ew x/\ew x<=904∨ew x=70∨ew x=71∨ew x=72∨ew x=73):=by
 obtain⟨a,c⟩:=dz x.uZ 9 (by decide);obtain⟨k,b⟩:=Int.eq_ofNat_of_zero_le a;unfold ew;rw[b,Int.toNat_natCast];have:k<9:=by omega
 rcases(show k=0∨k=1∨k=2∨k=3∨k=4∨k=5∨k=6∨k=7∨k=8 by omega)with rfl|rfl|rfl|rfl|rfl|rfl|rfl|rfl|rfl<;>decide
theorem rq.tB{w w1:World}{B b:Nat}{f k i a:Value}{S:WS}(h:rq w B b f k i S)(C:B<=w.heap.size)(y:aR)
 (A:w1.ownsRow B 121 7 a (S.code.length+1) (S.code.flatMap b3++b3 y)) (l:w.grownBy w1 f.ownBlock):
 rq (w1.setCell (b,0) a) B b a k i {S with code:=S.code++[y]}/\Below B w (w1.setCell (b,0) a)/\bb w (w1.setCell (b,0) a):=by
 have c:=kp (p:=b) (j:=0) (u:=a) l;have r:Row w1 b 111 [f,.int .i64 16,.slice none 0 0,k,i]:=by
  unfold Row;rw[l.block b h.row.lt (fun e=>bl h.code h.row (by decide) e.symm)];exact h.row
 have z:(w1.setCell (b,0) a).ownsRow B 121 7 a (S.code++[y]).length ((S.code++[y]).flatMap b3):=by
  have:=dR (j:=0) (u:=a) A r (by decide);rw[List.flatMap_append,List.length_append];simpa using this
 have q:∀{s:Nat} {v:Value} {n:Nat} {t:List Value},w.ownsRow B 3 s v n t->(w1.setCell (b,0) a).ownsRow B 3 s v n t:=fun o=>aj o c (fun g x d=>by
  obtain⟨_,cs,m⟩:=bS o x;rcases d with rfl|d
  ·exact absurd (e3 h.row m) (by decide)
  ·exact bl h.code m (by decide) d)
 exact⟨⟨r.bc _ _ rfl,h.hB,z,q h.work,q h.aQ,h.ne⟩,fZ c h.code h.hB C,bb.Hb c h.row h.code⟩
theorem rq.F9{w:World}{B b g n cap:Nat}{C A:Value}{S:WS}{l:List aR}{X:aR}(h:rq w B b (.slice (some (g,0)) n cap) C A {S with code:=l++[X]})(r:n=l.length+1)(c:Int):
 fM (w.setCell (g,l.length*7+3) (.int .i64 c)) B b C A {S with code:=l++[{X with c:=c}]}/\Below B w (w.setCell (g,l.length*7+3) (.int .i64 c))/\bb w (w.setCell (g,l.length*7+3) (.int .i64 c)):=by
 obtain⟨J,cs,m⟩:=bS h.code (k:=g) rfl;have d:Ch (aL g) w (w.setCell (g,l.length*7+3) (.int .i64 c)):=(Ch.refl _ _).only _ _;have q:∀{s:Nat} {v:Value} {n:Nat} {D:List Value},w.ownsRow B 3 s v n D->(w.setCell (g,l.length*7+3) (.int .i64 c)).ownsRow B 3 s v n D:=fun u=>aj u d (fun k o e=>by have a:k=g:=e;subst a;exact bl u m (by decide) o)
 have hlen:({S with code:=l++[X]}:WS).code.length=n:=by show(l++[X]).length=n;rw[List.length_append,r];rfl
 have p:=h.code;rw[hlen]at p;have G:(l++[X])[l.length]?=some X:=by rw[List.getElem?_append_right (Nat.le_refl _),Nat.sub_self];rfl
 have I:=hU (enc:=b3) p ev G 3 (by omega) rfl (v:=.int .i64 c) (y:={X with c:=c}) rfl hlen.symm;have E:(l++[X]).set l.length {X with c:=c}=l++[{X with c:=c}]:=by rw[List.set_append_right _ _ (Nat.le_refl _),Nat.sub_self];rfl
 have z:(w.setCell (g,l.length*7+3) (.int .i64 c)).ownsRow B 121 7 (.slice (some (g,0)) n cap) n (((l++[X]).set l.length {X with c:=c}).flatMap b3):=I;rw[E]at z;refine⟨⟨_,h.row.ch d (fun e=>by have a:b=g:=e;subst a;exact absurd (e3 h.row m) (by decide)),h.hB,?_,q h.work,q h.aQ,h.ne⟩,d.below (by have:=h.row.lt;have:=h.hB;omega) (fun i H=>by have e:i=g:=H;omega),bb.fQ d (fun k x t f o j=>by have e:k=g:=o;subst e;rw[m]at j;injection j with j;injection j with _ F _;exact Or.inr F.symm)⟩;show(w.setCell (g,l.length*7+3) (.int .i64 c)).ownsRow B 121 7 (.slice (some (g,0)) n cap) (l++[{X with c:=c}]).length ((l++[{X with c:=c}]).flatMap b3)
 have a:(l++[{X with c:=c}]).length=n:=by rw[List.length_append,r];rfl
 rw[a];exact z
theorem rj(x:fl)(fb:iU x)(S:WS)(B b:Nat){I H:Value}(w:World)(h:fM w B b I H S)(hm:B<=w.heap.size)(i7:S.code.length<=800000):
 Calls prog 48 #[(b,0),.agg #[.int .i64 x.uZ,.int .u64 x.a,.int .u64 x.b,.int .u64 x.c,.int .u64 x.d]] w (gO (cI S x) B b I H w):=by
 obtain⟨f,c9⟩:=yE x;obtain⟨eA,eC⟩:=dz x.uZ 9 (by decide);have ex:=Z (ks x.uZ 9 (by decide));obtain⟨k,eL⟩:=Int.eq_ofNat_of_zero_le eA;rw[eL]at ex eC f;rw[Int.toNat_natCast]at f;have gk:=Z f;have et:=Z c9;have gf:=Z h;have am:=Z fb;obtain⟨v,eS⟩:=nm (ew x);have C:=Z eS;have i5:k<9:=by omega
 obtain⟨G,p⟩:=h;have hv:w.cell? (b,1)=some (.int .i64 16):=p.row.cell rfl;have i8:=p.row.lt;clear f c9 eL eA eC fb p eS;go_in
 go_wp2_with fail
 obtain⟨hw,cb⟩:=nm (w.alloc (.cells #[.int .i64 x.uZ,.int .u64 x.a,.int .u64 x.b,.int .u64 x.c,.int .u64 x.d] 119));obtain⟨A,cQ⟩:=nm w.heap.size;have go:Hid (Row hw A 119 [.int .i64 x.uZ,.int .u64 x.a,.int .u64 x.b,.int .u64 x.c,.int .u64 x.d]):=Z (by rw[<-cb,<-cQ];exact Row.new _ _ _);have ge:=Z (Ch.al (D:=ag) cb);rw[cb,cQ];clear cb cQ hv;with_reducible refine(yC _).mono ?_
 rintro e w1 ⟨i3,i2,rfl,i4,eW,cq⟩;have c8:Hid (Ch ag w w1):=Z (ge.trans cq);have av:=Z (go.ch cq (fun e=>e));obtain⟨y0,fd,fn,fz,gc⟩:=av.c5;have es:=eW k _ gk;rw[C]at es;have P:=Z (gf.af c8);have Q:B<=w1.heap.size:=by have:=c8.size;omega
 have i6:(k:Int)<9:=by omega
 obtain⟨u1,u2⟩:=am.a;obtain⟨u3,u4⟩:=am.b;obtain⟨u5,u6⟩:=am.c;obtain⟨u7,u8⟩:=am.d;clear cq eW;go_upto_region 3 with(go_at_call 27;(with_reducible refine(ex.out _).mono ?_);rintro e w' ⟨rfl,rfl⟩)
 have q:Hid (Below B w w1/\bb w w1):=Z ⟨c8.below hm (fun _ hb=>False.elim hb),bb.af c8⟩;have he:(4294967296<x.a/\cellOf x=x.a)∨(x.a<=4294967296/\cellOf x=x.a%4):=by
  unfold cellOf;by_cases bv:4294967296<x.a
  ·exact Or.inl ⟨bv,if_pos bv⟩
  ·exact Or.inr ⟨by omega,if_neg bv⟩
 rcases he with⟨bv,bw⟩|⟨bv,bw⟩
 ·have J:=Z bw
  clear bw;go_upto_block 0 with fail
  have c3:=et.out;rw[C]at c3;rcases c3 with⟨f,c9⟩|f|f|f|f
  ·have d:Hid (cI S x=iV (fK (fK S 2 (x.b%5)) 3 (x.c%5)) ⟨17+v-900,2,-1,if v=904 then 3 else 0,x.a,0,0⟩):=Z (by unfold cI;rw[C,if_pos f,J])
   obtain⟨dC,c0,cS,cW,dr⟩:=info_parts ij;have ch:=Z c0;clear c0;go_wp2_with fail
   with_reducible refine(jy S 2 (x.b%5) B b w1 P.out Q (by omega)).mono ?_
   rintro e w2 ⟨rfl,c4,a1,ab⟩;have ck:=Z c4;have ap:Hid (Below B w w2/\bb w1 w2):=Z ⟨q.1.trans a1,ab⟩;have en:w2.cell? (A,3)=some (.int .u64 x.c):=(ab.row av (by decide) (by decide)).cell rfl;have cA:B<=w2.heap.size:=(by have:=a1.size;omega);have bx:(fK S 2 (x.b%5)).code.length=S.code.length+1:=(by simp[fK]);have cd:=Z bx;clear c4 a1 ab bx y0 fd fn fz gc es;go_wp2_with fail
   with_reducible refine(jy (fK S 2 (x.b%5)) 3 (x.c%5) B b w2 ck.out cA (by rw[cd.out];omega)).mono ?_
   rintro e w3 ⟨rfl,c5,a2,c1⟩;have R:Hid (Below B w w3/\bb w w3):=Z ⟨ap.1.trans a2,q.2.trans (ap.2.trans c1)⟩;obtain⟨o,a0⟩:=nm (fK (fK S 2 (x.b%5)) 3 (x.c%5));have cr:o.code.length=S.code.length+2:=(by rw[<-a0];simp[fK]);rw[a0]at d c5;have cC:B<=w3.heap.size:=(by have:=a2.size;omega);obtain⟨c,Y⟩:=nm o.code.length;have gt:c<=900000:=(by omega);have L:=Z Y;obtain⟨G,p⟩:=c5;have ci:=Z p;have c7:w3.cell? (b,0)=some G:=p.row.cell rfl;have ax:=p.row.free 0;have c2:=p.row.lt;have c6:G.ownBlock≠some b:=bl p.code p.row (by decide);have bi:w3.ownsRow B 121 7 G c (o.code.flatMap b3):=(by rw[<-Y];exact p.code);clear p a2 c1 a0 cr Y en;go_wp2_with (at_builtin;refine wpList_append_lies _ rfl _ _ _ rfl B 121 dC _ 7 56 underlying30 ch cS cW dr rfl (by omega) G c (o.code.flatMap b3) rfl (bi.alloc _) ⟨w3.heap.size,0,none⟩ 1 1 [.int .i64 (17+v-900),.int .i64 2,.int .i64 (-1),.int .i64 0,.int .u64 x.a,.int .i64 0,.int .i64 0] rfl rfl (World.news_of_block (cs:=#[.int .i64 (17+v-900),.int .i64 2,.int .i64 (-1),.int .i64 0,.int .u64 x.a,.int .i64 0,.int .i64 0]) (t:=121) (fr:=(0,0)) (heap_alloc_new w3 _)) (by simp[Value.oneCell']) (by omega) (by unfold maxLen;omega) (by omega) (by simp;omega) (w3.heap.size+1) (by simp) ?_)
   intro s z w4 ad V cm hf;have dN:w4.cell? (b,0)=some G:=(V.cell_far ⟨b,0,none⟩ (by simp;omega) (Ne.symm c6)).trans (by simp[go_sem,World.cell?_alloc_past,c2,c7]);have ec:w4.frozen? (b,0)=false:=(V.frozen_far ⟨b,0,none⟩ (by simp;omega) (Ne.symm c6)).trans (by simp[go_sem,World.frozen?_alloc_past,c2,ax]);have hd:c+1<=z:=by
    obtain⟨_,_,_,a3,_,U,_⟩:=aF ad (by omega);injection a3 with _ _ cl
    omega
   have r:Hid (rq (w4.setCell (b,0) (.slice (some (s,0)) (c+1) z)) B b (.slice (some (s,0)) (c+1) z) I H {o with code:=o.code++[⟨17+v-900,2,-1,0,x.a,0,0⟩]}/\Below B w3 (w4.setCell (b,0) (.slice (some (s,0)) (c+1) z))/\bb w3 (w4.setCell (b,0) (.slice (some (s,0)) (c+1) z))):=Z (ci.tB cC ⟨17+v-900,2,-1,0,x.a,0,0⟩ (by rw[L];exact ad) (au V));clear ad V cm bi c7 ax;by_cases F:v=904
   ·have cL:(v==904)=true:=by rw[beq_iff_eq];exact F
    rw[if_pos F]at d;clear F;go_upto_region 12 with fail
    obtain⟨a,g⟩:=nm (w4.setCell (b,0) (.slice (some (s,0)) (c+1) z));rw[g]at r⊢;have hF:a.cell? (b,0)=some (.slice (some (s,0)) (c+1) z):=r.1.row.cell rfl;have O:∃W,Row a s 121 ((o.code++[(⟨17+v-900,2,-1,0,x.a,0,0⟩:aR)]).flatMap b3++W):=by
     obtain⟨gs,gr,W,a3,_,U,_,al,_⟩:=aF r.1.code (by show 0<(o.code++[_]).length;simp);injection a3 with M _ cl
     injection M with M
     injection M with M
     subst M;exact⟨W,al⟩
    obtain⟨W,O⟩:=O;have i0:a.cell? (s,c*7+3)=some (.int .i64 0):=O.cell (by
     rw[List.getElem?_append_left (by rw[a4 ev,List.length_append,L];simp;omega)];exact(bD ev (show(o.code++[(⟨17+v-900,2,-1,0,x.a,0,0⟩:aR)])[c]?=some (⟨17+v-900,2,-1,0,x.a,0,0⟩:aR)from by rw[<-L,List.getElem?_append_right (Nat.le_refl _),Nat.sub_self];rfl) (j:=3) (by omega)).trans rfl)
    have i1:=O.free (c*7+3);have hi:IntKind.i64.wrap ((c:Int)+1-1)=c:=(by rw[show(c:Int)+1-1=c from by omega];exact IntWalk.i64_in _ (by omega));have hl:(c:Int)<c+1:=(by omega);have T:=Z (r.1.F9 (l:=o.code) (by rw[L]) 3);rw[L]at T;clear O g dN ec;go_still_tail 10,(by kernel_rfl)
    change wpList _ _ _ _ _ a.drew;go_wp2
    go_end0
    rw[d];have N:=R.1.trans (r.2.1.trans T.2.1);exact⟨rfl,T.1.af ((Ch.refl _ _).drew),⟨N.os,N.tape,N.output,N.size,N.block⟩,R.2.trans (r.2.2.trans T.2.2)⟩
   ·have cL:(v==904)=false:=by rw[beq_eq_false_iff_ne];exact F
    rw[if_neg F]at d;clear F;go_wp2
    go_end0
    rw[d];exact⟨rfl,⟨_,r.1⟩,R.1.trans r.2.1,R.2.trans r.2.2⟩
  ·have d:Hid (cI S x=cg S 70 [cellOf x,x.b%3,gW x.c,1+x.d%3]):=Z (by unfold cI;rw[C,f];rfl)
   rw[J]at d;subst f;have cf:=Z (fun w=>tw x.c am.c w);have hB:IntKind.u64.wrap (1+x.d%3)=1+x.d%3:=IntWalk.u64_in _ (by omega);have hn:x.b.tmod 3=x.b%3:=Int.tmod_eq_emod_of_nonneg u3;have hu:x.d.tmod 3=x.d%3:=Int.tmod_eq_emod_of_nonneg u7;go_wp2
   have ce:Hid (∀E,Ch ag w1 E->Row E w1.heap.size 56 ([x.a,x.b%3,gW x.c,1+x.d%3].map (Value.int .u64))->Calls prog 46 #[(b,0),.int .i64 70,.slice (some (w1.heap.size,0)) 4 4] E (gO (cg S 70 [x.a,x.b%3,gW x.c,1+x.d%3]) B b I H E)):=
    Z (fun E U al=>eH S 70 [x.a,x.b%3,gW x.c,1+x.d%3] (by simp) w1.heap.size 4 B b (by simp) E al (P.af U) (by have:=U.size;omega) (by omega))
   go_region_held3 (fun w'=>w'.cell? (A,2)=some (.int .u64 x.b)/\w'.cell? (A,3)=some (.int .u64 x.c)/\w'.cell? (A,4)=some (.int .u64 x.d)) (go_keep) (first|(go_at_call 27;fail)|(go_at_call 86;(with_reducible refine(cf.out _).mono ?_);rintro e w' ⟨rfl,rfl⟩)|(go_at_call 46;refine(ce.out _ g3 (by first|exact Row.new w1 _ _|exact(Row.new w1 _ _).drew)).mono ?_;rintro e a ⟨rfl,g,n,i⟩;have y:=Z g;have m:Hid (Below B w a):=Z (tA q.out.1 Q g3 n);have u:Hid (bb w a):=Z ((q.out.2.trans (bb.af g3)).trans i);have X:=Z (((show bb w1 a from(bb.af g3).trans i)).row av.out (by decide) (by decide));have t2:a.cell? (A,2)=some (.int .u64 x.b):=X.out.cell rfl;have t3:a.cell? (A,3)=some (.int .u64 x.c):=X.out.cell rfl;have t4:a.cell? (A,4)=some (.int .u64 x.d):=X.out.cell rfl;clear g n i))
   all_goals
    go_wp2
    go_end0
    rw[d];exact⟨rfl,y,⟨m.os,m.tape,m.out.output,m.size,m.block⟩,u⟩
  ·have d:Hid (cI S x=cg S 71 [cellOf x,x.b%4,1+x.c%3]):=Z (by unfold cI;rw[C,f];rfl)
   rw[J]at d;subst f;have K:=Z (show Calls prog 46 #[(b,0),.int .i64 71,.slice (some (w1.heap.size,0)) 3 3] (w1.alloc (.cells #[.int .u64 x.a,.int .u64 (x.b%4),.int .u64 (1+x.c%3)] 56)) (gO (cg S 71 [x.a,x.b%4,1+x.c%3]) B b I H (w1.alloc (.cells #[.int .u64 x.a,.int .u64 (x.b%4),.int .u64 (1+x.c%3)] 56)))from eH S 71 [x.a,x.b%4,1+x.c%3] (by simp) w1.heap.size 3 B b (by simp) (w1.alloc (.cells #[.int .u64 x.a,.int .u64 (x.b%4),.int .u64 (1+x.c%3)] 56)) (Row.new w1 _ _) (P.af g3) (by simp;omega) (by omega));go_wp2_with fail
   with_reducible refine K.out.mono ?_
   rintro e a ⟨rfl,g,n,i⟩;have y:=Z g;have m:Hid (Below B w a):=Z (tA q.1 Q g3 n);have u:Hid (bb w a):=Z ((q.2.trans (bb.af g3)).trans i);clear g n i;go_wp2
   go_end0
   rw[d];exact⟨rfl,y,m,u⟩
  ·have d:Hid (cI S x=cg S 72 [cellOf x,x.b%3,x.c%4,x.d%3]):=Z (by unfold cI;rw[C,f];rfl)
   rw[J]at d;subst f;have K:=Z (show Calls prog 46 #[(b,0),.int .i64 72,.slice (some (w1.heap.size,0)) 4 4] (w1.alloc (.cells #[.int .u64 x.a,.int .u64 (x.b%3),.int .u64 (x.c%4),.int .u64 (x.d%3)] 56)) (gO (cg S 72 [x.a,x.b%3,x.c%4,x.d%3]) B b I H (w1.alloc (.cells #[.int .u64 x.a,.int .u64 (x.b%3),.int .u64 (x.c%4),.int .u64 (x.d%3)] 56)))from eH S 72 [x.a,x.b%3,x.c%4,x.d%3] (by simp) w1.heap.size 4 B b (by simp) (w1.alloc (.cells #[.int .u64 x.a,.int .u64 (x.b%3),.int .u64 (x.c%4),.int .u64 (x.d%3)] 56)) (Row.new w1 _ _) (P.af g3) (by simp;omega) (by omega));go_wp2_with fail
   with_reducible refine K.out.mono ?_
   rintro e a ⟨rfl,g,n,i⟩;have y:=Z g;have m:Hid (Below B w a):=Z (tA q.1 Q g3 n);have u:Hid (bb w a):=Z ((q.2.trans (bb.af g3)).trans i);clear g n i;go_wp2
   go_end0
   rw[d];exact⟨rfl,y,m,u⟩
  ·have d:Hid (cI S x=cg S 73 [cellOf x,x.b%3,x.c%4,x.d%3]):=Z (by unfold cI;rw[C,f];rfl)
   rw[J]at d;subst f;have K:=Z (show Calls prog 46 #[(b,0),.int .i64 73,.slice (some (w1.heap.size,0)) 4 4] (w1.alloc (.cells #[.int .u64 x.a,.int .u64 (x.b%3),.int .u64 (x.c%4),.int .u64 (x.d%3)] 56)) (gO (cg S 73 [x.a,x.b%3,x.c%4,x.d%3]) B b I H (w1.alloc (.cells #[.int .u64 x.a,.int .u64 (x.b%3),.int .u64 (x.c%4),.int .u64 (x.d%3)] 56)))from eH S 73 [x.a,x.b%3,x.c%4,x.d%3] (by simp) w1.heap.size 4 B b (by simp) (w1.alloc (.cells #[.int .u64 x.a,.int .u64 (x.b%3),.int .u64 (x.c%4),.int .u64 (x.d%3)] 56)) (Row.new w1 _ _) (P.af g3) (by simp;omega) (by omega));go_wp2_with fail
   with_reducible refine K.out.mono ?_
   rintro e a ⟨rfl,g,n,i⟩;have y:=Z g;have m:Hid (Below B w a):=Z (tA q.1 Q g3 n);have u:Hid (bb w a):=Z ((q.2.trans (bb.af g3)).trans i);clear g n i;go_wp2
   go_end0
   rw[d];exact⟨rfl,y,m,u⟩
 ·have J:=Z bw
  clear bw;go_upto_block 0 with fail
  have c3:=et.out;rw[C]at c3;rcases c3 with⟨f,c9⟩|f|f|f|f
  ·have d:Hid (cI S x=iV (fK (fK S 2 (x.b%5)) 3 (x.c%5)) ⟨17+v-900,2,-1,if v=904 then 3 else 0,x.a%4,0,0⟩):=Z (by unfold cI;rw[C,if_pos f,J])
   obtain⟨dC,c0,cS,cW,dr⟩:=info_parts ij;have ch:=Z c0;clear c0;go_wp2_with fail
   with_reducible refine(jy S 2 (x.b%5) B b w1 P.out Q (by omega)).mono ?_
   rintro e w2 ⟨rfl,c4,a1,ab⟩;have ck:=Z c4;have ap:Hid (Below B w w2/\bb w1 w2):=Z ⟨q.1.trans a1,ab⟩;have en:w2.cell? (A,3)=some (.int .u64 x.c):=(ab.row av (by decide) (by decide)).cell rfl;have cA:B<=w2.heap.size:=(by have:=a1.size;omega);have bx:(fK S 2 (x.b%5)).code.length=S.code.length+1:=(by simp[fK]);have cd:=Z bx;clear c4 a1 ab bx y0 fd fn fz gc es;go_wp2_with fail
   with_reducible refine(jy (fK S 2 (x.b%5)) 3 (x.c%5) B b w2 ck.out cA (by rw[cd.out];omega)).mono ?_
   rintro e w3 ⟨rfl,c5,a2,c1⟩;have R:Hid (Below B w w3/\bb w w3):=Z ⟨ap.1.trans a2,q.2.trans (ap.2.trans c1)⟩;obtain⟨o,a0⟩:=nm (fK (fK S 2 (x.b%5)) 3 (x.c%5));have cr:o.code.length=S.code.length+2:=(by rw[<-a0];simp[fK]);rw[a0]at d c5;have cC:B<=w3.heap.size:=(by have:=a2.size;omega);obtain⟨c,Y⟩:=nm o.code.length;have gt:c<=900000:=(by omega);have L:=Z Y;obtain⟨G,p⟩:=c5;have ci:=Z p;have c7:w3.cell? (b,0)=some G:=p.row.cell rfl;have ax:=p.row.free 0;have c2:=p.row.lt;have c6:G.ownBlock≠some b:=bl p.code p.row (by decide);have bi:w3.ownsRow B 121 7 G c (o.code.flatMap b3):=(by rw[<-Y];exact p.code);clear p a2 c1 a0 cr Y en;go_wp2_with (at_builtin;refine wpList_append_lies _ rfl _ _ _ rfl B 121 dC _ 7 56 underlying30 ch cS cW dr rfl (by omega) G c (o.code.flatMap b3) rfl (bi.alloc _) ⟨w3.heap.size,0,none⟩ 1 1 [.int .i64 (17+v-900),.int .i64 2,.int .i64 (-1),.int .i64 0,.int .u64 (x.a%4),.int .i64 0,.int .i64 0] rfl rfl (World.news_of_block (cs:=#[.int .i64 (17+v-900),.int .i64 2,.int .i64 (-1),.int .i64 0,.int .u64 (x.a%4),.int .i64 0,.int .i64 0]) (t:=121) (fr:=(0,0)) (heap_alloc_new w3 _)) (by simp[Value.oneCell']) (by omega) (by unfold maxLen;omega) (by omega) (by simp;omega) (w3.heap.size+1) (by simp) ?_)
   intro s z w4 ad V cm hf;have dN:w4.cell? (b,0)=some G:=(V.cell_far ⟨b,0,none⟩ (by simp;omega) (Ne.symm c6)).trans (by simp[go_sem,World.cell?_alloc_past,c2,c7]);have ec:w4.frozen? (b,0)=false:=(V.frozen_far ⟨b,0,none⟩ (by simp;omega) (Ne.symm c6)).trans (by simp[go_sem,World.frozen?_alloc_past,c2,ax]);have hd:c+1<=z:=by
    obtain⟨_,_,_,a3,_,U,_⟩:=aF ad (by omega);injection a3 with _ _ cl
    omega
   have r:Hid (rq (w4.setCell (b,0) (.slice (some (s,0)) (c+1) z)) B b (.slice (some (s,0)) (c+1) z) I H {o with code:=o.code++[⟨17+v-900,2,-1,0,x.a%4,0,0⟩]}/\Below B w3 (w4.setCell (b,0) (.slice (some (s,0)) (c+1) z))/\bb w3 (w4.setCell (b,0) (.slice (some (s,0)) (c+1) z))):=Z (ci.tB cC ⟨17+v-900,2,-1,0,x.a%4,0,0⟩ (by rw[L];exact ad) (au V));clear ad V cm bi c7 ax;by_cases F:v=904
   ·have cL:(v==904)=true:=by rw[beq_iff_eq];exact F
    rw[if_pos F]at d;clear F;go_upto_region 12 with fail
    obtain⟨a,g⟩:=nm (w4.setCell (b,0) (.slice (some (s,0)) (c+1) z));rw[g]at r⊢;have hF:a.cell? (b,0)=some (.slice (some (s,0)) (c+1) z):=r.1.row.cell rfl;have O:∃W,Row a s 121 ((o.code++[(⟨17+v-900,2,-1,0,x.a%4,0,0⟩:aR)]).flatMap b3++W):=by
     obtain⟨gs,gr,W,a3,_,U,_,al,_⟩:=aF r.1.code (by show 0<(o.code++[_]).length;simp);injection a3 with M _ cl
     injection M with M
     injection M with M
     subst M;exact⟨W,al⟩
    obtain⟨W,O⟩:=O;have i0:a.cell? (s,c*7+3)=some (.int .i64 0):=O.cell (by
     rw[List.getElem?_append_left (by rw[a4 ev,List.length_append,L];simp;omega)];exact(bD ev (show(o.code++[(⟨17+v-900,2,-1,0,x.a%4,0,0⟩:aR)])[c]?=some (⟨17+v-900,2,-1,0,x.a%4,0,0⟩:aR)from by rw[<-L,List.getElem?_append_right (Nat.le_refl _),Nat.sub_self];rfl) (j:=3) (by omega)).trans rfl)
    have i1:=O.free (c*7+3);have hi:IntKind.i64.wrap ((c:Int)+1-1)=c:=(by rw[show(c:Int)+1-1=c from by omega];exact IntWalk.i64_in _ (by omega));have hl:(c:Int)<c+1:=(by omega);have T:=Z (r.1.F9 (l:=o.code) (by rw[L]) 3);rw[L]at T;clear O g dN ec;go_still_tail 10,(by kernel_rfl)
    change wpList _ _ _ _ _ a.drew;go_wp2
    go_end0
    rw[d];have N:=R.1.trans (r.2.1.trans T.2.1);exact⟨rfl,T.1.af ((Ch.refl _ _).drew),⟨N.os,N.tape,N.output,N.size,N.block⟩,R.2.trans (r.2.2.trans T.2.2)⟩
   ·have cL:(v==904)=false:=by rw[beq_eq_false_iff_ne];exact F
    rw[if_neg F]at d;clear F;go_wp2
    go_end0
    rw[d];exact⟨rfl,⟨_,r.1⟩,R.1.trans r.2.1,R.2.trans r.2.2⟩
  ·have d:Hid (cI S x=cg S 70 [cellOf x,x.b%3,gW x.c,1+x.d%3]):=Z (by unfold cI;rw[C,f];rfl)
   rw[J]at d;subst f;have cf:=Z (fun w=>tw x.c am.c w);have hB:IntKind.u64.wrap (1+x.d%3)=1+x.d%3:=IntWalk.u64_in _ (by omega);have hn:x.b.tmod 3=x.b%3:=Int.tmod_eq_emod_of_nonneg u3;have hu:x.d.tmod 3=x.d%3:=Int.tmod_eq_emod_of_nonneg u7;go_wp2
   have ce:Hid (∀E,Ch ag w1 E->Row E w1.heap.size 56 ([x.a%4,x.b%3,gW x.c,1+x.d%3].map (Value.int .u64))->Calls prog 46 #[(b,0),.int .i64 70,.slice (some (w1.heap.size,0)) 4 4] E (gO (cg S 70 [x.a%4,x.b%3,gW x.c,1+x.d%3]) B b I H E)):=
    Z (fun E U al=>eH S 70 [x.a%4,x.b%3,gW x.c,1+x.d%3] (by simp) w1.heap.size 4 B b (by simp) E al (P.af U) (by have:=U.size;omega) (by omega))
   go_region_held3 (fun w'=>w'.cell? (A,2)=some (.int .u64 x.b)/\w'.cell? (A,3)=some (.int .u64 x.c)/\w'.cell? (A,4)=some (.int .u64 x.d)) (go_keep) (first|(go_at_call 27;fail)|(go_at_call 86;(with_reducible refine(cf.out _).mono ?_);rintro e w' ⟨rfl,rfl⟩)|(go_at_call 46;refine(ce.out _ g3 (by first|exact Row.new w1 _ _|exact(Row.new w1 _ _).drew)).mono ?_;rintro e a ⟨rfl,g,n,i⟩;have y:=Z g;have m:Hid (Below B w a):=Z (tA q.out.1 Q g3 n);have u:Hid (bb w a):=Z ((q.out.2.trans (bb.af g3)).trans i);have X:=Z (((show bb w1 a from(bb.af g3).trans i)).row av.out (by decide) (by decide));have t2:a.cell? (A,2)=some (.int .u64 x.b):=X.out.cell rfl;have t3:a.cell? (A,3)=some (.int .u64 x.c):=X.out.cell rfl;have t4:a.cell? (A,4)=some (.int .u64 x.d):=X.out.cell rfl;clear g n i))
   all_goals
    go_wp2
    go_end0
    rw[d];exact⟨rfl,y,⟨m.os,m.tape,m.out.output,m.size,m.block⟩,u⟩
  ·have d:Hid (cI S x=cg S 71 [cellOf x,x.b%4,1+x.c%3]):=Z (by unfold cI;rw[C,f];rfl)
   rw[J]at d;subst f;have K:=Z (show Calls prog 46 #[(b,0),.int .i64 71,.slice (some (w1.heap.size,0)) 3 3] (w1.alloc (.cells #[.int .u64 (x.a%4),.int .u64 (x.b%4),.int .u64 (1+x.c%3)] 56)) (gO (cg S 71 [x.a%4,x.b%4,1+x.c%3]) B b I H (w1.alloc (.cells #[.int .u64 (x.a%4),.int .u64 (x.b%4),.int .u64 (1+x.c%3)] 56)))from eH S 71 [x.a%4,x.b%4,1+x.c%3] (by simp) w1.heap.size 3 B b (by simp) (w1.alloc (.cells #[.int .u64 (x.a%4),.int .u64 (x.b%4),.int .u64 (1+x.c%3)] 56)) (Row.new w1 _ _) (P.af g3) (by simp;omega) (by omega));go_wp2_with fail
   with_reducible refine K.out.mono ?_
   rintro e a ⟨rfl,g,n,i⟩;have y:=Z g;have m:Hid (Below B w a):=Z (tA q.1 Q g3 n);have u:Hid (bb w a):=Z ((q.2.trans (bb.af g3)).trans i);clear g n i;go_wp2
   go_end0
   rw[d];exact⟨rfl,y,m,u⟩
  ·have d:Hid (cI S x=cg S 72 [cellOf x,x.b%3,x.c%4,x.d%3]):=Z (by unfold cI;rw[C,f];rfl)
   rw[J]at d;subst f;have K:=Z (show Calls prog 46 #[(b,0),.int .i64 72,.slice (some (w1.heap.size,0)) 4 4] (w1.alloc (.cells #[.int .u64 (x.a%4),.int .u64 (x.b%3),.int .u64 (x.c%4),.int .u64 (x.d%3)] 56)) (gO (cg S 72 [x.a%4,x.b%3,x.c%4,x.d%3]) B b I H (w1.alloc (.cells #[.int .u64 (x.a%4),.int .u64 (x.b%3),.int .u64 (x.c%4),.int .u64 (x.d%3)] 56)))from eH S 72 [x.a%4,x.b%3,x.c%4,x.d%3] (by simp) w1.heap.size 4 B b (by simp) (w1.alloc (.cells #[.int .u64 (x.a%4),.int .u64 (x.b%3),.int .u64 (x.c%4),.int .u64 (x.d%3)] 56)) (Row.new w1 _ _) (P.af g3) (by simp;omega) (by omega));go_wp2_with fail
   with_reducible refine K.out.mono ?_
   rintro e a ⟨rfl,g,n,i⟩;have y:=Z g;have m:Hid (Below B w a):=Z (tA q.1 Q g3 n);have u:Hid (bb w a):=Z ((q.2.trans (bb.af g3)).trans i);clear g n i;go_wp2
   go_end0
   rw[d];exact⟨rfl,y,m,u⟩
  ·have d:Hid (cI S x=cg S 73 [cellOf x,x.b%3,x.c%4,x.d%3]):=Z (by unfold cI;rw[C,f];rfl)
   rw[J]at d;subst f;have K:=Z (show Calls prog 46 #[(b,0),.int .i64 73,.slice (some (w1.heap.size,0)) 4 4] (w1.alloc (.cells #[.int .u64 (x.a%4),.int .u64 (x.b%3),.int .u64 (x.c%4),.int .u64 (x.d%3)] 56)) (gO (cg S 73 [x.a%4,x.b%3,x.c%4,x.d%3]) B b I H (w1.alloc (.cells #[.int .u64 (x.a%4),.int .u64 (x.b%3),.int .u64 (x.c%4),.int .u64 (x.d%3)] 56)))from eH S 73 [x.a%4,x.b%3,x.c%4,x.d%3] (by simp) w1.heap.size 4 B b (by simp) (w1.alloc (.cells #[.int .u64 (x.a%4),.int .u64 (x.b%3),.int .u64 (x.c%4),.int .u64 (x.d%3)] 56)) (Row.new w1 _ _) (P.af g3) (by simp;omega) (by omega));go_wp2_with fail
   with_reducible refine K.out.mono ?_
   rintro e a ⟨rfl,g,n,i⟩;have y:=Z g;have m:Hid (Below B w a):=Z (tA q.1 Q g3 n);have u:Hid (bb w a):=Z ((q.2.trans (bb.af g3)).trans i);clear g n i;go_wp2
   go_end0
   rw[d];exact⟨rfl,y,m,u⟩
def AX(w:World)(e:Ending)(w':World):Prop:=∃a c,e=.returned (.slice a 0 c)/\Ch ag w w'
theorem yG(w:World):Calls prog 45 #[.int .i64 16] w (AX w):=by
 go_in
 go_wp2
 obtain⟨w1,a⟩:=nm (w.alloc (.cells #[] 3));have b:=Z (Ch.al (D:=ag) a);rw[a];clear a;go_loop [3,4] (fun l i=>∃k:Nat,k<=6/\i=.int .i64 k/\l=.slice (some (w.heap.size,0)) 0 0) (fun _ i=>6-(intOf i).toNat)
 case atStart=>exact⟨0,by omega,rfl,rfl⟩
 case round=>
  obtain⟨k,d,rfl,rfl⟩:=hrel;by_cases e:k<6
  ·have c:¬(18+(k:Int)<=16):=by omega
   go_wp2
   go_round
   case rel=>exact⟨k+1,by omega,by go_num,rfl⟩
   case measure=>simp[intOf];omega
  ·go_wp2_with fail
   go_ret;exact⟨_,_,rfl,b⟩
def gP(w:World)(B:Nat)(v:Value)(l:List fl):Prop:=
 ∃a c,v=.slice a l.length c/\l.length<=c/\∀k x,l[k]?=some x->∃g b,a=some ⟨g,b,none⟩/\g<B/\∀j u,(ET x)[j]?=some u->w.cell? ⟨g,b+k*5+j,none⟩=some u
structure fL where
 c':Nat
 first:List fl
 others:List (List fl)
 once:List fl
 mM:Bool
def jz(w:World)(B:Nat)(v:Value)(l:List (List fl)):Prop:=
 ∃a c,v=.slice a l.length c/\l.length<=c/\∀k x,l[k]?=some x->∃g b d,a=some ⟨g,b,none⟩/\g<B/\w.cell? ⟨g,b+k,none⟩=some d/\gP w B d x
def gd(w:World)(B:Nat)(p:Value)(P:fL):Prop:=
 ∃a c b d e,p=.agg #[.slice a P.c' c,b,d,e,.bool P.mM]/\gP w B b P.first/\jz w B d P.others/\gP w B e P.once
theorem gP.below{w w':World}{B:Nat}{v:Value}{l:List fl}(h:gP w B v l)(hb:Below B w w'):gP w' B v l:=by
 obtain⟨a,c,f,i,m⟩:=h;refine⟨a,c,f,i,fun k x q=> ?_⟩;obtain⟨g,d,e,b,n⟩:=m k x q;exact⟨g,d,e,b,fun j u o=>(hb.cell (p:=⟨g,d+k*5+j,none⟩) b).trans (n j u o)⟩
theorem jz.below{w w':World}{B:Nat}{v:Value}{l:List (List fl)}(h:jz w B v l)(hb:Below B w w'):jz w' B v l:=by
 obtain⟨a,c,f,i,j⟩:=h;refine⟨a,c,f,i,fun k x o=> ?_⟩;obtain⟨g,d,q,e,b,n,m⟩:=j k x o;exact⟨g,d,q,e,b,(hb.cell (p:=⟨g,d+k,none⟩) b).trans n,m.below hb⟩
structure jA(P:fL):Prop where
 first:∀x∈P.first,iU x
 others:∀l∈P.others,∀x∈l,iU x
 once:∀x∈P.once,iU x
theorem gP.EV{w:World}{B:Nat}{a:Option Addr}{n c:Nat}{l:List fl}(h:gP w B (.slice a n c) l){k:Nat}{x:fl}(r:l[k]?=some x):n=l.length/\n<=c/\∃g b,a=some ⟨g,b,none⟩/\g<B/\w.cell? ⟨g,b+k*5,none⟩=some (.int .i64 x.uZ)/\w.cell? ⟨g,b+k*5+1,none⟩=some (.int .u64 x.a)/\w.cell? ⟨g,b+k*5+2,none⟩=some (.int .u64 x.b)/\w.cell? ⟨g,b+k*5+3,none⟩=some (.int .u64 x.c)/\w.cell? ⟨g,b+k*5+4,none⟩=some (.int .u64 x.d):=by
 obtain⟨s,t,m,o,p⟩:=h;injection m with f i j
 subst f i j;obtain⟨g,b,e,q,d⟩:=p k x r;exact⟨rfl,o,g,b,e,q,d 0 _ rfl,d 1 _ rfl,d 2 _ rfl,d 3 _ rfl,d 4 _ rfl⟩
theorem oV(S:WS)(x:fl):(cI S x).code.length<=S.code.length+5/\(cI S x).work=S.work/\(cI S x).aQ=S.aQ:=by
 have b:∀(num:Int) (a:List Int),a.length<=4->(cg S num a).code.length<=S.code.length+5/\(cg S num a).work=S.work/\(cg S num a).aQ=S.aQ:=fun num a f=>by
  obtain⟨c,d,e⟩:=g2 a S 0;refine⟨?_,d,e⟩;show((fR S a 0).code++[_]).length<=_
  rw[List.length_append,c];simp;omega
 unfold cI;split
 ·refine⟨?_,rfl,rfl⟩
  simp[iV,fK]
 ·split
  ·exact b _ _ (by simp)
  ·split
   ·exact b _ _ (by simp)
   ·exact b _ _ (by simp)
def l7:aR:=⟨16,0,0,0,0,0,0⟩
def hJ:WS->Nat->Nat->WS
 |S,_,0=>S
 |S,i,n+1=>hJ (kt (cg S 1 [0,(i:Int)]) 3 i) (i+1) n
def e':WS->List Int->List (List fl)->WS×List Int
 |S,a,[]=>(S,a)
 |S,a,l::r=>e' (iV ((l.take 40).foldl cI S) l7) (a++[(S.code.length:Int)]) r
def pd(a:List Int)(once:Int):List Int->List Int->List aR->List aR
 |[],_,C=>C
 |_,[],C=>C
 |x::l,y::r,C=>pd a once l r (match C[x.toNat]? with|some X=>C.set x.toNat {X with v:=IntKind.u64.wrap (if 0<=y then a.getD y.toNat 0 else once)}|none=>C)
def bT(P:fL):List aR:=
 let S:=hJ ⟨[],[],[]⟩ 0 (min P.others.length 6)
 let S:=iV ((P.first.take 40).foldl cI S) l7
 let q:=e' S [] (P.others.take 6)
 let once:=(q.1.code.length:Int)
 let S:=iV ((P.once.take 6).foldl cI q.1) l7
 pd q.2 once S.work S.aQ S.code
section
open Go.ChangeAt Go.ChangeShapes Go.Deep Go.WideShapes
set_option maxRecDepth 100000
def gQ{α:Type}(w:World)(B:Nat)(v:Value)(k:Nat)(enc:α->List Value)(l:List α):Prop:=
 ∃a c,v=.slice a l.length c/\l.length<=c/\∀q x,l[q]?=some x->∃g b,a=some ⟨g,b,none⟩/\g<B/\∀j u,(enc x)[j]?=some u->w.cell? ⟨g,b+q*k+j,none⟩=some u
theorem ma{n:Int}(h:(Lit.int .u64 n).wf=true):aI n:=by
 unfold Lit.wf at h;simp at h;have a:IntKind.u64.min=0:=by decide
 have b:IntKind.u64.max=18446744073709551615:=by decide
 rw[a,b]at h;exact⟨h.1,by omega⟩
theorem lx{w:World}{a:Addr}{n:Nat}{u:Value}(h:w.cell? (a.add n)=some u):∃g e,a.block=g/\a.off=e/\w.cell? ⟨g,e+n,none⟩=some u/\(n=0->a=⟨g,e,none⟩):=by
 refine⟨a.block,a.off,rfl,rfl,?_,fun c=> ?_⟩
 ·unfold Addr.add at h
  by_cases c:n=0
  ·rw[if_pos c]at h
   subst c;have:a.spot=none:=by
    cases d:a.spot with
    |none=>rfl
    |some s=>
     unfold World.cell? at h;split at h
     ·rw[d]at h;cases h
     ·cases h
   obtain⟨b,e,s⟩:=a;dsimp only at this⊢;subst this;exact h
  ·rw[if_neg c]at h;exact h
 ·subst c
  rw[show a.add 0=a by unfold Addr.add;rw[if_pos rfl]]at h;cases d:a.spot with
  |none=>obtain⟨b,e,s⟩:=a;dsimp only at d⊢;rw[d]
  |some s=>
   unfold World.cell? at h;split at h
   ·rw[d]at h;cases h
   ·cases h
section
variable{H:Type}{enc:TypeId×Value->H}{w:World}{base:Nat}{spare:Nat->Bool}{held:Bool}
theorem me{α:Type} [Inhabited α]{ec:α->List Value}{k:Nat}{Ok:α->Prop}{T E:TypeId}(J:prog.underlying T=some (.slice E))(P:prog.cellsOf E=k)(Q:0<k)(M:∀x,(ec x).length=k)
 (N:∀n cs x a,w.cells? base a k=some cs->DataW.trod enc prog w base spare held n E cs=some x->∃X:α,Ok X/\∀r u,(ec X)[r]?=some u->w.cell? (a.add r)=some u)
 {fuel:Nat} {v:Value} {x:DataW H×List MemPlace} (h:DataW.trod enc prog w base spare held fuel T [v]=some x):∃l:List α,gQ w w.heap.size v k ec l/\∀X∈l,Ok X:=by
 rcases open_slice J h with⟨d,a1⟩|⟨a,len,cap,m,n,D,Y,s,hb,R,ad,S,F,B⟩
 ·injection d with d _
  subst d;exact⟨[],⟨none,0,rfl,Nat.le_refl _,fun q x F=>by cases F⟩,fun X o=>by cases o⟩
 ·injection s with s _
  subst s;rw[P]at B;have ab:len<=m:=by rw[S];split<;>omega
  obtain⟨f,t⟩:=choose_lt (n:=len) (p:=fun i X=>Ok X/\∀r u,(ec X)[r]?=some u->w.cell? ((a.add (i*k)).add r)=some u) (fun i a3=>by
   obtain⟨Z,L,V⟩:=B i (by omega);exact N _ _ _ _ L V)
  have hlen:((List.range len).map f).length=len:=by simp
  refine⟨(List.range len).map f,⟨some a,cap,by rw[hlen],by rw[hlen];exact R,fun q x c=> ?_⟩,fun X o=> ?_⟩
  ·have C:q<len:=by have:=(List.getElem?_eq_some_iff.1 c).1;rwa [hlen]at this
   rw[List.getElem?_map,List.getElem?_range C]at c;have e:=Option.some.inj c;subst e;have b:∃u,w.cell? ((a.add (0*k)).add 0)=some u:=by
    have U:0<(ec (f 0)).length:=(by rw[M];exact Q);exact⟨_,(t 0 (by omega)).2 0 _ (List.getElem?_eq_getElem U)⟩
   obtain⟨u0,b⟩:=b;rw[add_add,Nat.zero_mul,Nat.zero_add]at b;obtain⟨g,W,-,-,a2,G⟩:=lx b;have K:=G rfl;subst K;refine⟨g,W,rfl,World.block_lt_of_cell? w _ b,fun j u O=> ?_⟩;have A:=(t q C).2 j u O;rw[add_add]at A;obtain⟨a0,al,y,z,I,_⟩:=lx A;dsimp only at y z;subst y;subst z
   rwa [<-Nat.add_assoc]at I
  ·obtain⟨q,c,rfl⟩:=List.mem_map.1 o
   exact(t q (List.mem_range.1 c)).1
deriving instance Inhabited for fl
theorem yH:∃f0 f1 f2 f3 f4:Field,prog.underlying 119=some (.struct #[f0,f1,f2,f3,f4])/\oneCellFields prog #[f0,f1,f2,f3,f4]=true/\f0.type=3/\f1.type=56/\f2.type=56/\f3.type=56/\f4.type=56:=
 ⟨_,_,_,_,_,underlying119,by kernel_rfl,rfl,rfl,rfl,rfl,rfl⟩
theorem A8(n:Nat)(cs:List Value)(x:DataW H×List MemPlace)(a:Addr)(s:w.cells? base a 5=some cs)(y:DataW.trod enc prog w base spare held n 119 cs=some x):
 ∃X:fl,iU X/\∀r u,(ET X)[r]?=some u->w.cell? (a.add r)=some u:=by
 obtain⟨f0,f1,f2,f3,f4,v,c,t0,t1,t2,t3,t4⟩:=yH;obtain⟨M,k,_,_,hlen,z,b⟩:=DataW.trod_struct v y;rw[show prog.cellsOf 119=5 by kernel_rfl]at hlen;obtain⟨_,S,q⟩:=World.cells?_some s
 match cs,hlen with
 |[N,O,P,Q,R],_=>
  obtain⟨G,k0⟩:=hone_of c 0 f0 rfl;obtain⟨I,k1⟩:=hone_of c 1 f1 rfl;obtain⟨J,k2⟩:=hone_of c 2 f2 rfl;obtain⟨K,k3⟩:=hone_of c 3 f3 rfl;obtain⟨L,A⟩:=hone_of c 4 f4 rfl
  match M,z with
  |[y0,T,U,V,W],_=>
   have i:=b 0 f0 rfl;have j:=b 1 f1 rfl;have l:=b 2 f2 rfl;have m:=b 3 f3 rfl;have o:=b 4 f4 rfl;rw[G,k0,t0]at i;rw[I,k1,t1]at j;rw[J,k2,t2]at l;rw[K,k3,t3]at m;rw[L,A,t4]at o;obtain⟨B,d,-,-⟩:=DataW.trod_int underlying3 i;obtain⟨C,e,-,w1⟩:=DataW.trod_int underlying56 j;obtain⟨D,f,-,w2⟩:=DataW.trod_int underlying56 l;obtain⟨E,g,-,w3⟩:=DataW.trod_int underlying56 m;obtain⟨F,h,-,w4⟩:=DataW.trod_int underlying56 o;simp at d e f g h;subst d e f g h;refine⟨⟨B,C,D,E,F⟩,⟨ma w1,ma w2,ma w3,ma w4⟩,fun r u p=> ?_⟩;have t:r<5:=(List.getElem?_eq_some_iff.1 p).1;rw[q r t];exact p
theorem mf{fuel:Nat}{v:Value}{x:DataW H×List MemPlace}(h:DataW.trod enc prog w base spare held fuel 25 [v]=some x):∃l:List fl,gP w w.heap.size v l/\∀X∈l,iU X:=
 me (ec:=ET) (k:=5) underlying25 (by kernel_rfl) (by decide) (fun _=>rfl) (fun n cs x a b c=>A8 n cs x a b c) h
theorem tH{fuel:Nat}{v:Value}{x:DataW H×List MemPlace}(h:DataW.trod enc prog w base spare held fuel 26 [v]=some x):∃l:List (List fl),jz w w.heap.size v l/\∀b∈l,∀X∈b,iU X:=by
 rcases open_slice underlying26 h with⟨c,z⟩|⟨a,len,cap,m,n,D,T,r,hb,P,Y,Q,C,O⟩
 ·injection c with c _
  subst c;exact⟨[],⟨none,0,rfl,Nat.le_refl _,fun q x C=>by cases C⟩,fun X o=>by cases o⟩
 ·injection r with r _
  subst r;have W:len<=m:=by rw[Q];split<;>omega
  obtain⟨f,s⟩:=choose_lt (n:=len) (p:=fun i (X:List fl)=>(∀x∈X,iU x)/\∃j,w.cell? (a.add i)=some j/\gP w w.heap.size j X) (fun i V=>by
   obtain⟨F,A,R⟩:=O i (by omega);rw[show prog.cellsOf 25=1 by kernel_rfl,Nat.mul_one]at A;obtain⟨_,N,M⟩:=World.cells?_some A
   match F,N with
   |[E],_=>
    obtain⟨l,c,z⟩:=mf R;have k:=M 0 (by omega);rw[show(a.add i).add 0=a.add i by rw[add_add,Nat.add_zero]]at k;exact⟨l,z,E,k,c⟩)
  have hlen:((List.range len).map f).length=len:=by simp
  refine⟨(List.range len).map f,⟨some a,cap,by rw[hlen],by rw[hlen];exact P,fun q x d=> ?_⟩,fun X o=> ?_⟩
  ·have B:q<len:=by have:=(List.getElem?_eq_some_iff.1 d).1;rwa [hlen]at this
   rw[List.getElem?_map,List.getElem?_range B]at d;have e:=Option.some.inj d;subst e;obtain⟨a0,y,_⟩:=(s 0 (by omega)).2;obtain⟨g,S,-,-,k,G⟩:=lx y;have L:=G rfl;subst L;obtain⟨j,I,J⟩:=(s q B).2;obtain⟨U,Z,t,u,K,_⟩:=lx I;dsimp only at t u;subst t;subst u;exact⟨g,S,j,rfl,World.block_lt_of_cell? w _ y,K,J⟩
  ·obtain⟨q,d,rfl⟩:=List.mem_map.1 o
   exact(s q (List.mem_range.1 d)).1
theorem vd:∃f0 f1 f2 f3 f4:Field,prog.underlying 28=some (.struct #[f0,f1,f2,f3,f4])/\oneCellFields prog #[f0,f1,f2,f3,f4]=true/\f0.type=24/\f1.type=25/\f2.type=26/\f3.type=25/\f4.type=4:=
 ⟨_,_,_,_,_,underlying28,by kernel_rfl,rfl,rfl,rfl,rfl,rfl⟩
theorem yI{v:Value}{F:DataW H}{Z:List MemPlace}{r:Reach}{b:Nat}(M:Value.okWide prog w r b 28 v)(h:DataW.Trod enc prog w base spare held 28 v F Z):∃P:fL,gd w w.heap.size v P/\jA P:=by
 obtain⟨f0,f1,f2,f3,f4,q,e,t0,t1,t2,t3,t4⟩:=vd;obtain⟨cs,rfl,bi⟩:=okWide_struct q M;obtain⟨fuel,d⟩:=h;obtain⟨ab,k,_,_,hlen,N,d⟩:=DataW.trod_struct q d;rw[show prog.cellsOf 28=5 by kernel_rfl]at hlen;have p:(Value.agg cs).cells.toList=cs.toList:=by simp[Value.cells]
 obtain⟨l⟩:=cs
 match l,hlen with
 |[y,A,B,C,E],_=>
  obtain⟨U,k0⟩:=hone_of e 0 f0 rfl;obtain⟨V,k1⟩:=hone_of e 1 f1 rfl;obtain⟨W,k2⟩:=hone_of e 2 f2 rfl;obtain⟨X,k3⟩:=hone_of e 3 f3 rfl;obtain⟨Y,O⟩:=hone_of e 4 f4 rfl
  match ab,N with
  |[y0,bw,bx,c0,c1],_=>
   have f:=d 0 f0 rfl;have g:=d 1 f1 rfl;have i:=d 2 f2 rfl;have j:=d 3 f3 rfl;have o:=d 4 f4 rfl;rw[U,k0,t0]at f;rw[V,k1,t1]at g;rw[W,k2,t2]at i;rw[X,k3,t3]at j;rw[Y,O,t4]at o;obtain⟨Q,a1,t⟩:=mf g;obtain⟨R,a2,u⟩:=tH i;obtain⟨S,a3,x⟩:=mf j;obtain⟨s,I,-⟩:=DataW.trod_bool underlying4 o;have G:∃a n c,y=.slice a n c:=by
    rcases open_slice underlying24 f with⟨L,al⟩|⟨a,len,cap,m,n,D,ad,p,hb,ap,av,ax,bv,am⟩
    ·exact⟨_,_,_,(List.cons.inj L).1⟩
    ·exact⟨_,_,_,(List.cons.inj p).1⟩
   obtain⟨a0,T,z,rfl⟩:=G;have J:=(List.cons.inj I).1;have K:E=.bool s:=J;subst K;exact⟨⟨T,Q,R,S,s⟩,⟨a0,z,A,B,C,rfl,a1,a2,a3⟩,⟨t,u,x⟩⟩
theorem ve:∃f0 f1:Field,prog.underlying 23=some (.struct #[f0,f1])/\oneCellFields prog #[f0,f1]=true/\f0.type=3/\f1.type=3:=
 ⟨_,_,underlying23,by kernel_rfl,rfl,rfl⟩
theorem yJ{v:Value}{o:DataW H}{A:List MemPlace}{r:Reach}{b:Nat}(u:Value.okWide prog w r b 23 v)(h:DataW.Trod enc prog w base spare held 23 v o A):∃wk n:Int,v=.agg #[wk,n]:=by
 obtain⟨f0,f1,f,e,t0,t1⟩:=ve;obtain⟨cs,rfl,C⟩:=okWide_struct f u;obtain⟨fuel,a⟩:=h;obtain⟨B,k,_,_,hlen,x,a⟩:=DataW.trod_struct f a;rw[show prog.cellsOf 23=2 by kernel_rfl]at hlen;obtain⟨l⟩:=cs
 match l,hlen with
 |[j,m],_=>
  obtain⟨y,k0⟩:=hone_of e 0 f0 rfl;obtain⟨z,k1⟩:=hone_of e 1 f1 rfl
  match B,x with
  |[y0,D],_=>
   have c:=a 0 f0 rfl;have d:=a 1 f1 rfl;rw[y,k0,t0]at c;rw[z,k1,t1]at d;obtain⟨g,p,-,-⟩:=DataW.trod_int underlying3 c;obtain⟨i,s,-,-⟩:=DataW.trod_int underlying3 d;have q:j=.int .i64 g:=(List.cons.inj p).1;have t:m=.int .i64 i:=(List.cons.inj s).1;subst q;subst t;exact⟨g,i,rfl⟩
structure jW where
 kind:Int
 wk:Int
 draw:Int
 deriving Inhabited
def ly(x:jW):List Value:=[.int .i64 x.kind,.int .i64 x.wk,.int .u64 x.draw]
def DC(n:Int):List Value:=[.int .u64 n]
theorem oX{v:Value}{d:DataW H}{p:List MemPlace}(h:DataW.Trod enc prog w base spare held 29 v d p)(m:v.cells.toList=[v]):∃l:List Int,gQ w w.heap.size v 1 DC l/\∀n∈l,aI n:=by
 obtain⟨fuel,b⟩:=h;rw[m]at b;refine me (ec:=DC) (k:=1) (Ok:=aI) underlying29 (by kernel_rfl) (by decide) (fun _=>rfl) (fun n cs x a f g=> ?_) b;obtain⟨o,e,-,w2⟩:=DataW.trod_int underlying56 g;obtain⟨_,q,i⟩:=World.cells?_some f;subst e;refine⟨o,ma w2,fun r u c=> ?_⟩;have j:r<1:=(List.getElem?_eq_some_iff.1 c).1;rw[i r j];exact c
end
end
end Go.Proofs.YtfnilkpkogipfaaGreatDoor
