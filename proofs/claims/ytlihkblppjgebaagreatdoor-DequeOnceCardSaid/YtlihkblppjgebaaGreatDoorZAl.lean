import Derived.Deep.RegionHeld3
import Derived.Deep.AppendLies
import Derived.Deep.RegionLaw
import Derived.Test.YtlihkblppjgebaaGreatDoorZAi
set_option linter.all false
set_option maxRecDepth 100000
set_option maxHeartbeats 8000000
namespace Go.Proofs.YtlihkblppjgebaaGreatDoor
open Go.RowKit Go.Proofs.Tryz
structure FJ where
 code:List aV
 labels:List (ByteArray×Int)
 lines:List Int
 bp:List (Int×Int×ByteArray)
def FZ(l:List (ByteArray×Int)):List Value:=l.flatMap fun b=>[.string b.1,.int .i64 b.2]
def Gv(l:List Int):List Value:=l.map (Value.int .i64)
def FT(l:List (Int×Int×ByteArray)):List Value:=l.flatMap fun x=>[.int .i64 x.1,.int .i64 x.2.1,.string x.2.2]
def FP(l:List (ByteArray×Int)):Array MapEntry:=(l.zipIdx.map fun x=>({key:=.string x.1.1,val:=.int .i64 x.2,born:=x.2}:MapEntry)).toArray
def FU(w:World)(B p f:Nat)(st:FJ):Prop:=
 ∃b c d e a,w.heap[p]?=some (.cells #[b,c,d,.map (some a),e] 296 (0,0))/\B<=p/\
  w.ownsRow B 184 7 b st.code.length (b' st.code)/\b.ownBlock≠some f/\
  w.ownsRow B 301 2 c st.labels.length (FZ st.labels)/\
  w.ownsRow B 3 1 d st.lines.length (Gv st.lines)/\
  w.ownsRow B 300 3 e st.bp.length (FT st.bp)/\
  B<=a/\w.heap[a]?=some (.map (FP st.labels) st.labels.length)
def Gm(w w':World):Prop:=
 ∀(k:Nat) (c:Array Value) (t:TypeId) (f:Nat×Nat),(t=9∨t=249∨t=349)->w.heap[k]?=some (.cells c t f)->w'.heap[k]?=some (.cells c t f)
theorem Gm.refl(w:World):Gm w w:=fun _ _ _ _ _ h=>h
theorem Gm.trans{a b c:World}(h:Gm a b)(g:Gm b c):Gm a c:=fun k x t f d e=>g k x t f d (h k x t f d e)
theorem FE{w:World}{B:Nat}{e:TypeId}{size:Nat}{v:Value}{n:Nat}{l:List Value}(h:w.ownsRow B e size v n l){k:Nat}{c:Array Value}{t:TypeId}{f:Nat×Nat}(a:w.heap[k]?=some (.cells c t f))(j:t≠e):v.ownBlock≠some k:=by
 rcases h.2 with⟨rfl,_⟩|⟨g,cap,cur,rfl,_,d,_⟩
 ·simp[Value.ownBlock]
 ·intro i
  have:g=k:=by simpa[Value.ownBlock]using i
  subst this;rw[d]at a;injection a with a
  injection a with _ b _
  exact j b.symm
theorem HB{w:World}{B:Nat}{e:TypeId}{size:Nat}{v:Value}{n:Nat}{f:List Value}(h:w.ownsRow B e size v n f){k:Nat}{c:Array MapEntry}{t:Nat}(a:w.heap[k]?=some (.map c t)):v.ownBlock≠some k:=by
 rcases h.2 with⟨rfl,_⟩|⟨g,cap,cur,rfl,_,b,_⟩
 ·simp[Value.ownBlock]
 ·intro d
  have:g=k:=by simpa[Value.ownBlock]using d
  subst this;rw[b]at a;injection a with a
  cases a
theorem IS{w w':World}{r:Option Nat}(g:w.grownBy w' r)(i:∀b,r=some b->∀c t f,w.heap[b]?=some (.cells c t f)->t≠9/\t≠249/\t≠349):Gm w w':=by
 intro k c t f j d;rw[g.block k (Array.getElem?_eq_some_iff.1 d).1 (fun e=>by
  have a:=i k e.symm c t f d;rcases j with h|h|h
  ·exact a.1 h
  ·exact a.2.1 h
  ·exact a.2.2 h)]
 exact d
theorem FU.grown{w w':World}{B p c:Nat}{st:FJ}(h:FU w B p c st){X:aV}(a:re w c X)(b:w.grownBy w' (some c)):FU w' B p c st:=by
 obtain⟨q,o,r,s,g,f,l,n,j,hb,i,hw,m,d⟩:=h;refine⟨q,o,r,s,g,?_,l,n.kept b (Or.inr j),j,hb.kept b (Or.inr (FE hb a (by decide))),i.kept b (Or.inr (FE i a (by decide))),hw.kept b (Or.inr (FE hw a (by decide))),m,?_⟩
 ·rw[b.block p (Array.getElem?_eq_some_iff.1 f).1 (fun e=>by
   injection e with e;subst e;unfold re at a;rw[f]at a;injection a with a;injection a with _ k _;exact absurd k (by decide))]
  exact f
 ·rw[b.block g (Array.getElem?_eq_some_iff.1 d).1 (fun e=>by
   injection e with e;subst e;unfold re at a;rw[d]at a;injection a with a;cases a)]
  exact d
theorem Jl{w w':World}{a:Nat}{X:aV}(d:re w a X)(h:w.grownBy w' (some a)):Gm w w':=
 IS h fun b e c t f hb=>by
  injection e with e;subst e;unfold re at d;rw[d]at hb;injection hb with hb;injection hb with _ g _;subst g;decide
theorem HC{w w':World}{B b:Nat}(c:B<=b)(f:b<w.heap.size)(a:w.grownBy w' (some b)):Below B w w':=
 ⟨a.os,a.tape,a.output,a.size,fun k d=>a.block k (by omega) (fun e=>by injection e with e;omega)⟩
theorem IQ.mono{w:World}{a c:Nat}{line:Int}{t:Bool}{v:Value}(h:IQ w a line t v)(j:c<=a):IQ w c line t v:=by
 obtain⟨b,i,d,g,e,f⟩:=h;exact⟨b,i,d,by omega,e,f⟩
def pR(X:aV)(kind n:Int):aV:=if kind=1 then {X with a:=n}else if kind=2∨kind=5 then {X with b:=n}else {X with c:=n}
def FQ(X:aV)(kind:Int)(s:ByteArray):Except Bool aV:=
 if kind=6 then Gl X s
 else if kind<=5/\(GQ s).2 then .ok (pR X kind (GQ s).1)
 else if kind<=3 then .error true
 else HJ (if kind=5 then {X with b:=-1}else if kind=4 then {X with c:=-1}else X) (FG s)
def IT(st:FJ):Except Bool aV->Except Bool (FJ×aV)
 |.ok a=> .ok (st,a)
 |.error t=> .error t
def Hb(st:FJ)(X:aV)(kind:Int)(s:ByteArray)(line:Int):Except Bool (FJ×aV):=
 if 8<=kind/\GN s then .ok ({st with bp:=st.bp++[((st.code.length:Int),line,s)]},X)
 else if kind=8 then .error true
 else IT st (FQ X kind s)
def Gt(r:Except Bool (FJ×aV))(B p a:Nat)(line:Int)(w:World)(e:Ending)(w':World):Prop:=
 match r with
 |.ok (st,X)=>e=.returned .nilIface/\FU w' B p a st/\re w' a X/\Below B w w'/\Gm w w'
 |.error t=>∃v,e=.returned v/\IQ w' B line t v/\Below B w w'
theorem Gt.of{r:Except Bool aV}{r':Except Bool (FJ×aV)}{st:FJ}{B p a:Nat}{line:Int}{w:World}{X:aV}{e:Ending}{w':World}
 (h:B1 r a line w e w') (i:r'=IT st r) (j:FU w B p a st) (b:re w a X) (c:B<=a):Gt r' B p a line w e w':=by
 subst i;cases r with
 |ok k=>exact⟨h.1,j.grown b h.2.2,h.2.1,HC c b.lt h.2.2,Jl b h.2.2⟩
 |error t=>
  obtain⟨v,d,f,g⟩:=h;exact⟨v,d,f.mono (by have:=b.lt;omega),HC c b.lt g⟩
theorem MT(s:ByteArray)(t:s.size<=65536)(kind line:Int)(k:kind=1∨kind=2∨kind=3)(m i:Nat)(X:aV)(w:World)(g:re w i X):
 Calls prog 189 #[.pointer (some ⟨m,0,none⟩),.pointer (some ⟨i,0,none⟩),.int .i64 kind,.string s,.int .i64 line] w (B1 (FQ X kind s) i line w):=by
 have o:w.cell? ⟨i,1,none⟩=some (.int .i64 X.a):=g.cell 1;have p:w.cell? ⟨i,2,none⟩=some (.int .i64 X.b):=g.cell 2;have q:w.cell? ⟨i,3,none⟩=some (.int .i64 X.c):=g.cell 3;have f1:=g.free 1;have f2:=g.free 2;have f3:=g.free 3;have r:=g.lt;have j:=Z g;clear g;have l:s.size<=maxLen:=by unfold maxLen;omega
 rcases d:GQ s with⟨n,b⟩
 have h:=Z (GX s l n b d);clear l;cases b
 ·rcases k with rfl|rfl|rfl
  ·have f:Hid (FQ X 1 s=.error true):=by show _=_;unfold FQ;rw[d];rfl
   clear d;go_enter func189,ntmps189
   go_wp2_with (first|(go_at_call 228;refine(h.out _).mono ?_;rintro e w' ⟨rfl,rfl⟩)|(go_at_call 142;refine(FD _ _ _ _).mono ?_;rintro e w' ⟨rfl,rfl⟩))
   go_ret;exact B1.text f.out (by simp) (hb w _)
  ·have f:Hid (FQ X 2 s=.error true):=by show _=_;unfold FQ;rw[d];rfl
   clear d;go_enter func189,ntmps189
   go_wp2_with (first|(go_at_call 228;refine(h.out _).mono ?_;rintro e w' ⟨rfl,rfl⟩)|(go_at_call 142;refine(FD _ _ _ _).mono ?_;rintro e w' ⟨rfl,rfl⟩))
   go_ret;exact B1.text f.out (by simp) (hb w _)
  ·have f:Hid (FQ X 3 s=.error true):=by show _=_;unfold FQ;rw[d];rfl
   clear d;go_enter func189,ntmps189
   go_wp2_with (first|(go_at_call 228;refine(h.out _).mono ?_;rintro e w' ⟨rfl,rfl⟩)|(go_at_call 142;refine(FD _ _ _ _).mono ?_;rintro e w' ⟨rfl,rfl⟩))
   go_ret;exact B1.text f.out (by simp) (hb w _)
 ·rcases k with rfl|rfl|rfl
  ·have f:Hid (FQ X 1 s=.ok {X with a:=n}):=by show _=_;unfold FQ;rw[d];rfl
   clear d;go_enter func189,ntmps189
   go_wp2_with (go_at_call 228;refine(h.out _).mono ?_;rintro e w' ⟨rfl,rfl⟩)
   go_ret;exact B1.Hn _ f.out (j.out.Eb n) (p1 (hb w _) _ _)
  ·have f:Hid (FQ X 2 s=.ok {X with b:=n}):=by show _=_;unfold FQ;rw[d];rfl
   clear d;go_enter func189,ntmps189
   go_wp2_with (go_at_call 228;refine(h.out _).mono ?_;rintro e w' ⟨rfl,rfl⟩)
   go_ret;exact B1.Hn _ f.out (j.out.n3 n) (p1 (hb w _) _ _)
  ·have f:Hid (FQ X 3 s=.ok {X with c:=n}):=by show _=_;unfold FQ;rw[d];rfl
   clear d;go_enter func189,ntmps189
   go_wp2_with (go_at_call 228;refine(h.out _).mono ?_;rintro e w' ⟨rfl,rfl⟩)
   go_ret;exact B1.Hn _ f.out (j.out.vh n) (p1 (hb w _) _ _)
theorem MU(s:ByteArray)(z:s.size<=65536)(kind line:Int)(B:kind=4∨kind=5∨kind=7∨kind=6)(C h:Nat)(X:aV)(w:World)(l:re w h X):
 Calls prog 189 #[.pointer (some ⟨C,0,none⟩),.pointer (some ⟨h,0,none⟩),.int .i64 kind,.string s,.int .i64 line] w (B1 (FQ X kind s) h line w):=by
 have D:w.cell? ⟨h,2,none⟩=some (.int .i64 X.b):=l.cell 2;have E:w.cell? ⟨h,3,none⟩=some (.int .i64 X.c):=l.cell 3;have F:w.cell? ⟨h,4,none⟩=some (.int .u64 X.v):=l.cell 4;have f2:=l.free 2;have f3:=l.free 3;have f4:=l.free 4;have G:=l.lt;have m:=Z l;clear l;have g:s.size<=maxLen:=by unfold maxLen;omega
 rcases f:GQ s with⟨n,b⟩
 have k:=Z (GX s g n b f);rcases B with rfl|rfl|rfl|rfl
 ·cases b
  ·rcases a:FG s with j|v
   ·have d:Hid (FQ X 4 s=.error false):=by show _=_;unfold FQ;rw[f,a];rfl
    have i:=Z (Gs s g j a);clear a f g;go_enter func189,ntmps189
    go_wp2_with (first|(go_at_call 228;refine(k.out _).mono ?_;rintro e w' ⟨rfl,rfl⟩)|(go_at_call 229;refine(i.out _ _).mono ?_;rintro e w' ⟨rfl,rfl⟩))
    go_ret;exact B1.num d.out (by simp) (by repeat(first|exact hb _ _|refine p1 ?_ _ _|refine FY ?_ _))
   ·have d:Hid (FQ X 4 s=.ok {({X with c:=-1}:aV)with v:=v}):=by show _=_;unfold FQ;rw[f,a];rfl
    have i:=Z (Gq s g v a);clear a f g;go_enter func189,ntmps189
    go_wp2_with (first|(go_at_call 228;refine(k.out _).mono ?_;rintro e w' ⟨rfl,rfl⟩)|(go_at_call 229;refine(i.out _ _).mono ?_;rintro e w' ⟨rfl,y,A,rfl⟩))
    go_ret;exact B1.Hn _ d.out ((m.out.vh (-1)).mi v) (p1 (p1 (hb w _) _ _) _ _)
  ·have d:Hid (FQ X 4 s=.ok {X with c:=n}):=by show _=_;unfold FQ;rw[f];rfl
   clear f g;go_enter func189,ntmps189
   go_wp2_with (go_at_call 228;refine(k.out _).mono ?_;rintro e w' ⟨rfl,rfl⟩)
   go_ret;exact B1.Hn _ d.out (m.out.vh n) (p1 (hb w _) _ _)
 ·cases b
  ·rcases a:FG s with j|v
   ·have d:Hid (FQ X 5 s=.error false):=by show _=_;unfold FQ;rw[f,a];rfl
    have i:=Z (Gs s g j a);clear a f g;go_enter func189,ntmps189
    go_wp2_with (first|(go_at_call 228;refine(k.out _).mono ?_;rintro e w' ⟨rfl,rfl⟩)|(go_at_call 229;refine(i.out _ _).mono ?_;rintro e w' ⟨rfl,rfl⟩))
    go_ret;exact B1.num d.out (by simp) (by repeat(first|exact hb _ _|refine p1 ?_ _ _|refine FY ?_ _))
   ·have d:Hid (FQ X 5 s=.ok {({X with b:=-1}:aV)with v:=v}):=by show _=_;unfold FQ;rw[f,a];rfl
    have i:=Z (Gq s g v a);clear a f g;go_enter func189,ntmps189
    go_wp2_with (first|(go_at_call 228;refine(k.out _).mono ?_;rintro e w' ⟨rfl,rfl⟩)|(go_at_call 229;refine(i.out _ _).mono ?_;rintro e w' ⟨rfl,y,A,rfl⟩))
    go_ret;exact B1.Hn _ d.out ((m.out.n3 (-1)).mi v) (p1 (p1 (hb w _) _ _) _ _)
  ·have d:Hid (FQ X 5 s=.ok {X with b:=n}):=by show _=_;unfold FQ;rw[f];rfl
   clear f g;go_enter func189,ntmps189
   go_wp2_with (go_at_call 228;refine(k.out _).mono ?_;rintro e w' ⟨rfl,rfl⟩)
   go_ret;exact B1.Hn _ d.out (m.out.n3 n) (p1 (hb w _) _ _)
 ·rcases a:FG s with j|v
  ·have d:Hid (FQ X 7 s=.error false):=by show _=_;unfold FQ;rw[f,a];rfl
   have i:=Z (Gs s g j a);clear a f g;go_enter func189,ntmps189
   go_wp2_with (first|(go_at_call 228;refine(k.out _).mono ?_;rintro e w' ⟨rfl,rfl⟩)|(go_at_call 229;refine(i.out _ _).mono ?_;rintro e w' ⟨rfl,rfl⟩))
   go_ret;exact B1.num d.out (by simp) (by repeat(first|exact hb _ _|refine p1 ?_ _ _|refine FY ?_ _))
  ·have d:Hid (FQ X 7 s=.ok {X with v:=v}):=by show _=_;unfold FQ;rw[f,a];rfl
   have i:=Z (Gq s g v a);clear a f g;go_enter func189,ntmps189
   go_wp2_with (first|(go_at_call 228;refine(k.out _).mono ?_;rintro e w' ⟨rfl,rfl⟩)|(go_at_call 229;refine(i.out _ _).mono ?_;rintro e w' ⟨rfl,y,A,rfl⟩))
   go_ret;exact B1.Hn _ d.out ((m.out).mi v) (p1 (hb w _) _ _)
 ·have d:Hid (FQ X 6 s=Gl X s):=by show _=_;unfold FQ;rfl
  clear f g;rcases o:Gl X s with t|x
  ·have p:=Z (show Calls prog 230 #[.pointer (some ⟨h,0,none⟩),.string s,.int .i64 line] w (B1 (.error t) h line w)from o▸Kc s z line h X w m.out)
   have q:Hid (FQ X 6 s=.error t):=d.out.trans o;clear o;go_enter func189,ntmps189
   go_wp2_with (first|(go_at_call 228;refine(k.out _).mono ?_;rintro e w' ⟨rfl,rfl⟩)|(go_at_call 230;refine p.out.mono ?_;rintro e w' ⟨v,rfl,r,u⟩))
   go_ret;rw[q.out];exact⟨v,rfl,r,u⟩
  ·have p:=Z (show Calls prog 230 #[.pointer (some ⟨h,0,none⟩),.string s,.int .i64 line] w (B1 (.ok x) h line w)from o▸Kc s z line h X w m.out)
   have q:Hid (FQ X 6 s=.ok x):=d.out.trans o;clear o;go_enter func189,ntmps189
   go_wp2_with (first|(go_at_call 228;refine(k.out _).mono ?_;rintro e w' ⟨rfl,rfl⟩)|(go_at_call 230;refine p.out.mono ?_;rintro e w' ⟨rfl,r,u⟩))
   go_ret;rw[q.out];exact⟨rfl,r,u⟩
theorem Pm:(prog.info? 300).map (fun i=>(i.zero,i.size,i.bytes))=some (some (.agg #[.int .i64 0,.int .i64 0,.string ByteArray.empty]),3,32):=by kernel_rfl
theorem Gd{w:World}{B:Nat}{e:TypeId}{size:Nat}{v:Value}{n:Nat}{b:List Value}(h:w.ownsRow B e size v n b):∃a c,v=.slice a n c:=by
 rcases h.2 with⟨rfl,rfl⟩|⟨g,cap,cur,rfl,_⟩
 ·exact⟨_,_,rfl⟩
 ·exact⟨_,_,rfl⟩
theorem Hh(s:ByteArray)(a:s.size<=maxLen)(b:Bool)(h:GN s=b)(w:World):Calls prog 186 #[.string s] w (Ik b w):=by rw[<-h];exact LA s a w
theorem Fx{w:World}{b i:Nat}{c:Array Value}{t:TypeId}(h:w.heap[b]?=some (.cells c t (0,0))):w.cell? ⟨b,i,none⟩=c[i]?:=cell_of_row w b i _ _ _ h
theorem HD{w:World}{b i:Nat}{c:Array Value}{t:TypeId}(h:w.heap[b]?=some (.cells c t (0,0))):w.frozen? ⟨b,i,none⟩=false:=by
 unfold World.frozen?;simp only[h];simp
theorem Gi{w:World}{B c:Nat}{e a:TypeId}{size k:Nat}{v b:Value}{n j:Nat}{l m:List Value}(h:w.ownsRow B e size v n l)(d:w.ownsRow c a k b j m)(i:e≠a):v.ownBlock=none∨v.ownBlock≠b.ownBlock:=by
 rcases h.2 with⟨rfl,_⟩|⟨g,cap,cur,rfl,_,f,_⟩
 ·exact Or.inl rfl
 ·refine Or.inr fun heq=> ?_
  have:=FE d f i;exact this heq.symm
theorem Gj{w w1:World}{B:Nat}{e:TypeId}{size:Nat}{v:Value}{n:Nat}{d:List Value}{r:Option Nat}{p j:Nat}{c:Array Value}{f:Nat×Nat}{u:Value}
 (h:w.ownsRow B e size v n d) (a:w.grownBy w1 r) (b:v.ownBlock=none∨v.ownBlock≠r) (i:w1.heap[p]?=some (.cells c 296 f)) (g:e≠296):
 (w1.setCell ⟨p,j,none⟩ u).ownsRow B e size v n d:=
 ownsRow_setCell_other (h.kept a b) (FE (h.kept a b) i (Ne.symm g)) u
theorem Iy{w1:World}{B:Nat}{e:TypeId}{size:Nat}{v:Value}{n:Nat}{a:List Value}{p j:Nat}{c:Array Value}{f:Nat×Nat}{u:Value}
 (h:w1.ownsRow B e size v n a) (d:w1.heap[p]?=some (.cells c 296 f)) (b:e≠296):(w1.setCell ⟨p,j,none⟩ u).ownsRow B e size v n a:=
 ownsRow_setCell_other h (FE h d (Ne.symm b)) u
theorem FR{w w1:World}{a:Obj}{r:Option Nat}(h:(w.alloc a).grownBy w1 r):w.grownBy w1 r:=
 J8 (World.grownBy_alloc w a r) h
theorem F3{w w1:World}{r:Option Nat}(h:w.drew.grownBy w1 r):w.grownBy w1 r:=⟨h.os,h.tape,h.output,h.size,h.block⟩
theorem G5{w w1:World}{B p j:Nat}{u:Value}{r:Option Nat}(a:w.grownBy w1 r)(b:∀k,r=some k->B<=k)(c:B<=p)(f:p<w.heap.size):Below B w (w1.setCell ⟨p,j,none⟩ u):=
 ⟨a.os,a.tape,a.output,by have:=a.size;simp;omega,fun k d=>by
  rw[FN (by simp;omega)];exact a.block k (by omega) (fun e=>by have:=b k e.symm;omega)⟩
theorem Hi{w w1:World}{p j:Nat}{u:Value}{r:Option Nat}{c:Array Value}{f:Nat×Nat}(o:w.heap[p]?=some (.cells c 296 f))(m:w.grownBy w1 r)
 (q:∀b,r=some b->∀c t f,w.heap[b]?=some (.cells c t f)->t≠9/\t≠249/\t≠349):Gm w (w1.setCell ⟨p,j,none⟩ u):=by
 intro k g t i d a;have n:k≠p:=by
  intro e;subst e;rw[o]at a;injection a with a;injection a with _ l _
  subst l;rcases d with h|h|h<;>exact absurd h (by decide)
 rw[FN (by simpa using n)];exact IS m q k g t i d a
theorem HE{w:World}{B:Nat}{e:TypeId}{size:Nat}{v:Value}{n:Nat}{i:List Value}(h:w.ownsRow B e size v n i)(d:e≠9/\e≠249/\e≠349):
 ∀b,v.ownBlock=some b->∀c t f,w.heap[b]?=some (.cells c t f)->t≠9/\t≠249/\t≠349:=by
 intro b hb c t f g;by_cases a:t=e
 ·subst a;exact d
 ·exact absurd hb (FE h g a)
theorem La{w w1:World}{B p d:Nat}{st:FJ}{X:aV}{i n o l f:Value}{c:Nat}{y:Int×Int×ByteArray}
 (a:w.heap[p]?=some (.cells #[i,n,o,.map (some c),l] 296 (0,0))) (q:B<=p) (r:w.ownsRow B 184 7 i st.code.length (b' st.code)) (A:i.ownBlock≠some d)
 (hb:w.ownsRow B 301 2 n st.labels.length (FZ st.labels)) (s:w.ownsRow B 3 1 o st.lines.length (Gv st.lines)) (hw:w.ownsRow B 300 3 l st.bp.length (FT st.bp))
 (x:B<=c) (m:w.heap[c]?=some (.map (FP st.labels) st.labels.length)) (h:re w d X) (G:B<=d)
 (C:w1.ownsRow B 300 3 f (st.bp.length+1) (FT st.bp++[.int .i64 y.1,.int .i64 y.2.1,.string y.2.2])) (b:w.grownBy w1 l.ownBlock):
 FU (w1.setCell ⟨p,4,none⟩ f) B p d {st with bp:=st.bp++[y]}/\re (w1.setCell ⟨p,4,none⟩ f) d X/\Below B w (w1.setCell ⟨p,4,none⟩ f)/\Gm w (w1.setCell ⟨p,4,none⟩ f):=by
 have t:p<w.heap.size:=(Array.getElem?_eq_some_iff.1 a).1;have F:l.ownBlock≠some p:=FE hw a (by decide);have g:w1.heap[p]?=some (.cells #[i,n,o,.map (some c),l] 296 (0,0)):=by rw[b.block p t (Ne.symm F)];exact a
 have E:d≠p:=by
  intro e;subst e;unfold re at h;rw[h]at a;injection a with a;injection a with _ v _;exact absurd v (by decide)
 have D:c≠p:=by
  intro e;subst e;rw[m]at a;injection a with a;cases a
 refine⟨⟨i,n,o,f,c,?_,q,Gj r b (Gi r hw (by decide)) g (by decide),A,Gj hb b (Gi hb hw (by decide)) g (by decide),Gj s b (Gi s hw (by decide)) g (by decide),?_,x,?_⟩,?_,?_,?_⟩
 ·exact FX g
 ·have:=Iy (j:=4) (u:=f) C g (by decide)
  simpa[FT]using this
 ·rw[FN (by simpa using D),b.block c (Array.getElem?_eq_some_iff.1 m).1 (Ne.symm (HB hw m))];exact m
 ·unfold re
  rw[FN (by simpa using E),b.block d h.lt (Ne.symm (FE hw h (by decide)))];exact h
 ·exact G5 b (fun k z=>(hw.lt k z).1) q t
 ·exact Hi a b (HE hw (by decide))
theorem LB(s:ByteArray)(am:s.size<=65536)(kind line:Int)(a2:kind=8∨kind=9)(M:GN s=true)(B p f:Nat)(st:FJ)(X:aV)(w:World)
 (Q:re w f X) (ab:FU w B p f st) (H:B<=f) (hlen:st.bp.length<=1048576):
 Calls prog 189 #[.pointer (some ⟨p,0,none⟩),.pointer (some ⟨f,0,none⟩),.int .i64 kind,.string s,.int .i64 line] w
  (Gt (.ok ({st with bp:=st.bp++[((st.code.length:Int),line,s)]},X)) B p f line w):=by
 obtain⟨U,K,R,S,T⟩:=info_parts Pm;obtain⟨bi,av,bv,d,al,c,I,j,N,hb,O,hw,J,L⟩:=ab;obtain⟨W,Y,rfl⟩:=Gd j;have ap:w.cell? ⟨p,0,none⟩=some (.slice W st.code.length Y):=Fx c;have V:w.cell? ⟨p,4,none⟩=some d:=Fx c;have G:w.frozen? ⟨p,4,none⟩=false:=HD c;have h:p<w.heap.size:=(Array.getElem?_eq_some_iff.1 c).1;have i:d.ownBlock≠some p:=FE hw c (by decide);have l:s.size<=maxLen:=by unfold maxLen;omega
 rcases P:GQ s with⟨n,b⟩
 have E:=Z (GX s l n b P);have z:=Z (Hh s l true M);clear P M l;have D:=Z c;have v:=Z j;have A:=Z N;have r:=Z hb;have C:=Z O;have x:=Z L;have F:=Z Q;have u:=Z K;clear c j N hb O L Q K;rcases a2 with rfl|rfl
 ·go_enter func189,ntmps189
  go_wp2_with (first|(go_at_call 228;refine(E.out _).mono ?_;rintro e w' ⟨rfl,rfl⟩)|(go_at_call 186;refine(z.out _).mono ?_;rintro e w' ⟨rfl,rfl⟩))
  go_region_law (first|(refine step_append_lies _ (by rfl) _ _ _ (by rfl) B 300 U _ 3 32 underlying294 u.out R S T rfl (by omega) d st.bp.length (FT st.bp) (by rfl) ((hw.alloc _).drew) ⟨w.heap.size,0,none⟩ 1 1 [.int .i64 st.code.length,.int .i64 line,.string s] (by rfl) (by rfl) (World.news_of_block (cs:=#[.int .i64 st.code.length,.int .i64 line,.string s]) (t:=300) (fr:=(0,0)) (heap_alloc_new w _)) (by simp[Value.oneCell']) (by omega) (by unfold maxLen;omega) (by omega) (by simp;omega) (w.heap.size+1) (by simp) ?_;intro a0 cap w1 k a a1 a3;have g:w1.cell? ⟨p,4,none⟩=some d:=(a.cell_far ⟨p,4,none⟩ (by simp;omega) (Ne.symm i)).trans (by simp[go_sem,World.cell?_alloc_past,h,V]);have ad:w1.frozen? ⟨p,4,none⟩=false:=(a.frozen_far ⟨p,4,none⟩ (by simp;omega) (Ne.symm i)).trans (by simp[go_sem,World.frozen?_alloc_past,h,G])))
  all_goals
   go_wp2
   go_ret;obtain⟨m,o,q,g⟩:=La (y:=((st.code.length:Int),line,s)) D.out I v.out A.out r.out C.out hw J x.out F.out H (by simpa using k) (FR (F3 a));exact⟨rfl,m,o,q,g⟩
 ·go_enter func189,ntmps189
  go_wp2_with (first|(go_at_call 228;refine(E.out _).mono ?_;rintro e w' ⟨rfl,rfl⟩)|(go_at_call 186;refine(z.out _).mono ?_;rintro e w' ⟨rfl,rfl⟩))
  go_region_law (first|(refine step_append_lies _ (by rfl) _ _ _ (by rfl) B 300 U _ 3 32 underlying294 u.out R S T rfl (by omega) d st.bp.length (FT st.bp) (by rfl) ((hw.alloc _).drew) ⟨w.heap.size,0,none⟩ 1 1 [.int .i64 st.code.length,.int .i64 line,.string s] (by rfl) (by rfl) (World.news_of_block (cs:=#[.int .i64 st.code.length,.int .i64 line,.string s]) (t:=300) (fr:=(0,0)) (heap_alloc_new w _)) (by simp[Value.oneCell']) (by omega) (by unfold maxLen;omega) (by omega) (by simp;omega) (w.heap.size+1) (by simp) ?_;intro a0 cap w1 k a a1 a3;have g:w1.cell? ⟨p,4,none⟩=some d:=(a.cell_far ⟨p,4,none⟩ (by simp;omega) (Ne.symm i)).trans (by simp[go_sem,World.cell?_alloc_past,h,V]);have ad:w1.frozen? ⟨p,4,none⟩=false:=(a.frozen_far ⟨p,4,none⟩ (by simp;omega) (Ne.symm i)).trans (by simp[go_sem,World.frozen?_alloc_past,h,G])))
  all_goals
   go_wp2
   go_ret;obtain⟨m,o,q,g⟩:=La (y:=((st.code.length:Int),line,s)) D.out I v.out A.out r.out C.out hw J x.out F.out H (by simpa using k) (FR (F3 a));exact⟨rfl,m,o,q,g⟩
theorem LC(s:ByteArray)(u:s.size<=65536)(kind line:Int)(o:kind=8∨kind=9)(k:GN s=false)(p d:Nat)(X:aV)(w:World)(c:re w d X):
 Calls prog 189 #[.pointer (some ⟨p,0,none⟩),.pointer (some ⟨d,0,none⟩),.int .i64 kind,.string s,.int .i64 line] w
  (B1 (if kind=8 then .error true else HJ X (FG s)) d line w):=by
 have q:w.cell? ⟨d,4,none⟩=some (.int .u64 X.v):=c.cell 4;have f4:=c.free 4;have t:=c.lt;have m:=Z c;clear c;have a:s.size<=maxLen:=by unfold maxLen;omega
 rcases l:GQ s with⟨n,b⟩
 have i:=Z (GX s a n b l);have g:=Z (Hh s a false k);clear l k;rcases o with rfl|rfl
 ·rw[if_pos rfl]
  clear a;go_enter func189,ntmps189
  go_wp2_with (first|(go_at_call 228;refine(i.out _).mono ?_;rintro e w' ⟨rfl,rfl⟩)|(go_at_call 186;refine(g.out _).mono ?_;rintro e w' ⟨rfl,rfl⟩)|(go_at_call 142;refine(FD _ _ _ _).mono ?_;rintro e w' ⟨rfl,rfl⟩))
  go_ret;exact B1.text rfl (by simp) (hb w _)
 ·rw[if_neg (by decide)]
  rcases f:FG s with j|v
  ·have h:=Z (Gs s a j f)
   clear f a;go_enter func189,ntmps189
   go_wp2_with (first|(go_at_call 228;refine(i.out _).mono ?_;rintro e w' ⟨rfl,rfl⟩)|(go_at_call 186;refine(g.out _).mono ?_;rintro e w' ⟨rfl,rfl⟩)|(go_at_call 229;refine(h.out _ _).mono ?_;rintro e w' ⟨rfl,rfl⟩))
   go_ret;exact B1.num rfl (by simp) (by repeat(first|exact hb _ _|refine p1 ?_ _ _|refine FY ?_ _))
  ·have h:=Z (Gq s a v f)
   clear f a;go_enter func189,ntmps189
   go_wp2_with (first|(go_at_call 228;refine(i.out _).mono ?_;rintro e w' ⟨rfl,rfl⟩)|(go_at_call 186;refine(g.out _).mono ?_;rintro e w' ⟨rfl,rfl⟩)|(go_at_call 229;refine(h.out _ _).mono ?_;rintro e w' ⟨rfl,r,x,rfl⟩))
   go_ret;exact B1.Hn _ rfl (m.out.mi v) (p1 (hb w _) _ _)
theorem Kd(s:ByteArray)(g:s.size<=65536)(kind line:Int)(m:1<=kind)(n:kind<=9)(B p a:Nat)(st:FJ)(X:aV)(w:World)
 (b:re w a X) (f:FU w B p a st) (c:B<=a) (hlen:st.bp.length<=1048576):
 Calls prog 189 #[.pointer (some ⟨p,0,none⟩),.pointer (some ⟨a,0,none⟩),.int .i64 kind,.string s,.int .i64 line] w
  (Gt (Hb st X kind s line) B p a line w):=by
 by_cases i:8<=kind
 ·have j:kind=8∨kind=9:=by omega
  by_cases d:GN s=true
  ·have e:Hb st X kind s line=.ok ({st with bp:=st.bp++[((st.code.length:Int),line,s)]},X):=by
    unfold Hb;rw[if_pos ⟨i,d⟩]
   rw[e];exact LB s g kind line j d B p a st X w b f c hlen
  ·have k:GN s=false:=by simpa using d
   refine(LC s g kind line j k p a X w b).mono fun e w' h=>Gt.of h ?_ f b c
   unfold Hb;rw[if_neg (fun h=>d h.2)];by_cases h:kind=8
   ·rw[if_pos h,if_pos h];rfl
   ·rw[if_neg h,if_neg h]
    have e:FQ X kind s=HJ X (FG s):=by
     unfold FQ;rw[if_neg (by omega),if_neg (by omega),if_neg (by omega),if_neg (by omega),if_neg (by omega)]
    rw[e]
 ·have e:Hb st X kind s line=IT st (FQ X kind s):=by
   unfold Hb;rw[if_neg (fun h=>i h.1),if_neg (by omega)]
  by_cases l:kind<=3
  ·exact(MT s g kind line (by omega) p a X w b).mono fun _ w' h=>Gt.of h e f b c
  ·exact(MU s g kind line (by omega) p a X w b).mono fun _ w' h=>Gt.of h e f b c
end Go.Proofs.YtlihkblppjgebaaGreatDoor
