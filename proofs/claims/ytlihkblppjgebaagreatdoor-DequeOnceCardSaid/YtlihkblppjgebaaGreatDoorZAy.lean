import Derived.Deep.RegionHeldLaw
import Derived.Laws.Concat
import Derived.Test.YtlihkblppjgebaaGreatDoorZAt
set_option linter.all false
set_option maxRecDepth 100000
set_option maxHeartbeats 8000000
namespace Go.Proofs.YtlihkblppjgebaaGreatDoor
open Go.RowKit Go.Proofs.Tryz
structure gm where
 code:List aV
 labels:List (ByteArray×Int)
 lines:List Int
 bp:List (Int×Int×ByteArray)
 line:Int
def oK(b:ByteArray×Int):List Value:=[.string b.1,.int .i64 b.2]
def n4(x:Int×Int×ByteArray):List Value:=[.int .i64 x.1,.int .i64 x.2.1,.string x.2.2]
def dg(X:aV):List Value:=(aC X).toList
def iu(n:Int):List Value:=[.int .i64 n]
structure n5(w:World)(B p bx:Nat)(vc vl vn vw:Value)(S:gm):Prop where
 row:Row w p 189 [vc,vl,vn,vw,.int .i64 S.line]
 hB:B<=p
 code:w.ownsRow B 184 7 vc S.code.length (S.code.flatMap dg)
 ne:vc.ownBlock≠some bx
 labels:w.ownsRow B 198 2 vl S.labels.length (S.labels.flatMap oK)
 lines:w.ownsRow B 3 1 vn S.lines.length (S.lines.flatMap iu)
 bp:w.ownsRow B 196 3 vw S.bp.length (S.bp.flatMap n4)
def dD(w:World)(B p a:Nat)(S:gm):Prop:=∃b c d e,n5 w B p a b c d e S
def g7(w w':World):Prop:=∀(k:Nat) (c:Array Value) (t:TypeId) (f:Nat×Nat),t≠189->t≠184->t≠196->w.heap[k]?=some (.cells c t f)->w'.heap[k]?=some (.cells c t f)
theorem g7.refl(w:World):g7 w w:=fun _ _ _ _ _ _ _ h=>h
theorem g7.trans{a b c:World}(h:g7 a b)(g:g7 b c):g7 a c:=fun k x t f d e i j=>g k x t f d e i (h k x t f d e i j)
theorem g7.row{w w':World}(h:g7 w w'){b:Nat}{t:TypeId}{l:List Value}(e:Row w b t l)(a:t≠189)(c:t≠184)(d:t≠196):Row w' b t l:=h b _ t _ a c d e
theorem g7.fa{w w':World}{D:Nat->Prop}(c:Ch D w w')(b:∀k x t f,D k->w.heap[k]?=some (.cells x t f)->t=189∨t=184∨t=196):g7 w w':=by
 intro k x t f e g i a;rw[c.same k (Array.getElem?_eq_some_iff.1 a).1 (fun d=>by rcases b k x t f d a with h|h|h<;>contradiction)];exact a
theorem bh{w:World}{B:Nat}{e:TypeId}{size:Nat}{v:Value}{n:Nat}{l:List Value}(h:w.ownsRow B e size v n l){k:Nat}{c:Array Value}{t:TypeId}{f:Nat×Nat}(a:w.heap[k]?=some (.cells c t f))(j:t≠e):v.ownBlock≠some k:=by
 rcases h.2 with⟨rfl,_⟩|⟨g,cap,cur,rfl,_,d,_⟩
 ·simp[Value.ownBlock]
 ·intro i
  have:g=k:=by simpa[Value.ownBlock]using i
  subst this;rw[d]at a;injection a with a
  injection a with _ b _
  exact j b.symm
theorem bJ{w:World}{B:Nat}{e:TypeId}{size:Nat}{v:Value}{n:Nat}{f:List Value}(h:w.ownsRow B e size v n f){k:Nat}(a:v.ownBlock=some k):B<=k/\∃c,w.heap[k]?=some (.cells c e (0,0)):=by
 rcases h.2 with⟨rfl,_⟩|⟨g,cap,cur,rfl,b,d,_⟩
 ·cases a
 ·have:g=k:=by simpa[Value.ownBlock]using a
  subst this;exact⟨b,_,d⟩
theorem eD{w:World}{b:Nat}{t:TypeId}{l:List Value}(h:Row w b t l){c:Array Value}{d:TypeId}{f:Nat×Nat}(a:w.heap[b]?=some (.cells c d f)):d=t:=by
 unfold Row at h;rw[h]at a;injection a with a;injection a with _ e _;exact e.symm
theorem n5.ins{w w':World}{B p a:Nat}{i j k l:Value}{S:gm}(h:n5 w B p a i j k l S){X:aV}(f:ao w a X)(c:Ch (aK a) w w'):n5 w' B p a i j k l S where
 row:=h.row.ch c (fun e=>by have b:p=a:=e;subst b;exact absurd (eD h.row f) (by decide))
 hB:=h.hB
 code:=ar h.code c (fun g d e=>by have b:g=a:=e;subst b;exact h.ne d)
 ne:=h.ne
 labels:=ar h.labels c (fun g d e=>by have b:g=a:=e;subst b;exact bh h.labels f (by decide) d)
 lines:=ar h.lines c (fun g d e=>by have b:g=a:=e;subst b;exact bh h.lines f (by decide) d)
 bp:=ar h.bp c (fun g d e=>by have b:g=a:=e;subst b;exact bh h.bp f (by decide) d)
theorem n5.af{w w':World}{B p b:Nat}{d f i j:Value}{S:gm}(h:n5 w B p b d f i j S)(c:Ch ag w w'):n5 w' B p b d f i j S where
 row:=h.row.ch c (fun e=>e)
 hB:=h.hB
 code:=ar h.code c (fun g a e=>e)
 ne:=h.ne
 labels:=ar h.labels c (fun g a e=>e)
 lines:=ar h.lines c (fun g a e=>e)
 bp:=ar h.bp c (fun g a e=>e)
theorem dD.af{w w':World}{B p a:Nat}{S:gm}(h:dD w B p a S)(c:Ch ag w w'):dD w' B p a S:=by
 obtain⟨b,d,e,f,h⟩:=h;exact⟨b,d,e,f,h.af c⟩
theorem dD.ins{w w':World}{B p a:Nat}{S:gm}(h:dD w B p a S){X:aV}(b:ao w a X)(c:Ch (aK a) w w'):dD w' B p a S:=by
 obtain⟨d,e,f,g,h⟩:=h;exact⟨d,e,f,g,h.ins b c⟩
def vk(p:Nat)(v:Value):Nat->Prop:=fun i=>i=p∨v.ownBlock=some i
theorem j3{w w1:World}{p j:Nat}{v u:Value}(a:w.grownBy w1 v.ownBlock):Ch (vk p v) w (w1.setCell ⟨p,j,none⟩ u):=
 Ch.gS (D:=vk p v) (p:=⟨p,j,none⟩) ⟨a.os,a.tape,a.output,a.size,fun b hb c=>a.block b hb (fun e=>c (Or.inr e.symm))⟩ (Or.inl rfl) u
theorem fS{w w':World}{B p:Nat}{v:Value}{e:TypeId}{s n:Nat}{f:List Value}(c:Ch (vk p v) w w')(h:w.ownsRow B e s v n f)(a:B<=p)(d:B<=w.heap.size):Below B w w':=
 c.below d (fun b hb=>by rcases hb with rfl|hb;exact a;exact(bJ h hb).1)
theorem dL{w1:World}{B p j:Nat}{e:TypeId}{s n:Nat}{a:List Value}{v u:Value}{t:TypeId}{l:List Value}(h:w1.ownsRow B e s v n a)(f:Row w1 p t l)(i:t≠e):(w1.setCell ⟨p,j,none⟩ u).ownsRow B e s v n a:=
 ar (D:=aK p) h ((Ch.refl _ _).only _ _) (fun g d b=>by have c:g=p:=b;subst c;exact bh h f i d)
theorem n5.want{w w1:World}{B p q:Nat}{C D E l i:Value}{S:gm}(h:n5 w B p q C D E l S){X:aV}(G:ao w q X)(M:B<=w.heap.size)(y:Int×Int×ByteArray)
 (L:w1.ownsRow B 196 3 i (S.bp.length+1) (S.bp.flatMap n4++n4 y)) (a:w.grownBy w1 l.ownBlock):
 dD (w1.setCell ⟨p,3,none⟩ i) B p q {S with bp:=S.bp++[y]}/\ao (w1.setCell ⟨p,3,none⟩ i) q X/\Below B w (w1.setCell ⟨p,3,none⟩ i)/\g7 w (w1.setCell ⟨p,3,none⟩ i):=by
 have c:=j3 (p:=p) (j:=3) (u:=i) a;have O:Ch (vk p l) w w1:=⟨a.os,a.tape,a.output,a.size,fun b hb J=>a.block b hb (fun e=>J (Or.inr e.symm))⟩;have H:∀{k:Nat} {cs:Array Value} {t:TypeId} {f:Nat×Nat},w.heap[k]?=some (.cells cs t f)->t≠189->t≠196->¬vk p l k:=fun d r m z=>by
  rcases z with rfl|z
  ·exact r (eD h.row d)
  ·exact bh h.bp d m z
 have A:∀{e:TypeId} {s:Nat} {v:Value} {n:Nat} {N:List Value},w.ownsRow B e s v n N->e≠189->e≠196->∀g,v.ownBlock=some g->¬vk p l g:=fun K r m g a=>by
  obtain⟨_,cs,d⟩:=bJ K a;exact H d r m
 have F:Row w1 p 189 [C,D,E,l,.int .i64 S.line]:=by
  unfold Row;rw[a.block p h.row.lt (fun e=>bh h.bp h.row (by decide) e.symm)];exact h.row
 refine⟨⟨C,D,E,i,⟨F.a' _ _ rfl,h.hB,ar h.code c (A h.code (by decide) (by decide)),h.ne,ar h.labels c (A h.labels (by decide) (by decide)),ar h.lines c (A h.lines (by decide) (by decide)),?_⟩⟩,G.ch c (H G (by decide) (by decide)),fS c h.bp h.hB M,?_⟩
 ·have:=dL (j:=3) (u:=i) L F (by decide)
  rw[List.flatMap_append,List.length_append];simpa using this
 ·refine g7.fa c (fun k x t f d o=> ?_)
  rcases d with rfl|d
  ·exact Or.inl (eD h.row o)
  ·obtain⟨_,cs,m⟩:=bJ h.bp d
   rw[m]at o;injection o with o;injection o with _ I _
   exact Or.inr (Or.inr I.symm)
def j4(kind n:Int)(X:aV):aV:=if kind=0 then {X with a:=n}else if kind=1∨kind=3 then {X with b:=n}else if kind=2∨kind=4 then {X with c:=n}else X
def oL(kind v:Int)(X:aV):aV:=if kind=3 then {X with v:=v,b:=-1}else if kind=4 then {X with v:=v,c:=-1}else {X with v:=v}
def sn(kind:Int)(s:ByteArray)(S:gm)(X:aV):Option (gm×aV):=
 if kind=5 then(tW s X).map fun a=>(S,a)
 else if(kind=6∨kind=8)/\fR s=true then some ({S with bp:=S.bp++[(S.line,(S.code.length:Int),s)]},j4 kind (dP s).1 X)
 else if kind=6 then none
 else if kind=0∨kind=1∨kind=2 then(if(dP s).2 then some (S,j4 kind (dP s).1 X)else none)
 else if(dP s).2=true/\(kind=3∨kind=4)then some (S,j4 kind (dP s).1 X)
 else(xh s).map fun v=>(S,oL kind v (j4 kind (dP s).1 X))
def dq(S:gm)(X:aV)(B p a:Nat)(w:World)(e:Ending)(w':World):Prop:=e=.returned (.pointer none)/\dD w' B p a S/\ao w' a X/\Below B w w'/\g7 w w'
theorem dq.of{S:gm}{X g:aV}{B p a:Nat}{w w':World}(l:dD w B p a S)(d:ao w a g)(h:B<=a)(m:ao w' a X)(c:Ch (aK a) w w'):dq S X B p a w (.returned (.pointer none)) w':=
 ⟨rfl,l.ins d c,m,c.below (Nat.le_of_lt (Nat.lt_of_le_of_lt h d.lt)) (fun b hb=>by have e:b=a:=hb;omega),g7.fa c (fun k x t f j i=>by have e:k=a:=j;subst e;exact Or.inr (Or.inl (eD d i)))⟩
def hQ(a:List ByteArray)(w:World)(e:Ending)(w':World):Prop:=
 ∃v,e=.returned v/\w'.ownsRow w.heap.size 9 1 v a.length (a.map Value.string)/\Below w.heap.size w w'
theorem hQ.mk{a:List ByteArray}{w w':World}{v:Value}(acc:List ByteArray)(h:a=acc)(b:w'.ownsRow w.heap.size 9 1 v acc.length (acc.map Value.string))(hb:Below w.heap.size w w'):hQ a w (.returned v) w':=by
 subst h;exact⟨v,rfl,b,hb⟩
abbrev Ez:=Bool×Bool×Bool×Bool×Bool×Bool×Bool×Bool
def zF(op:Int):Ez:=
 if op=1 then(true,false,false,true,false,false,false,true)
 else if op=2∨op=23∨op=49∨op=50∨op=47∨op=39∨op=54 then(true,true,false,false,false,false,false,true)
 else if op=3∨op=4∨op=5∨op=6∨op=7∨op=8∨op=9∨op=10∨op=11 then(true,true,true,true,false,true,false,true)
 else if op=12∨op=15 then(false,false,false,true,false,false,true,true)
 else if op=13∨op=14 then(true,false,false,true,false,false,true,true)
 else if op=16∨op=33∨op=55∨op=56∨op=58 then(false,false,false,false,false,false,false,true)
 else if op=17∨op=18∨op=19∨op=20∨op=31 then(true,true,false,true,true,false,false,true)
 else if op=21∨op=32 then(true,true,true,true,true,false,false,true)
 else if op=22 then(false,false,false,true,false,false,false,true)
 else if op=43 then(true,true,false,true,true,false,false,true)
 else if op=45 then(true,true,false,true,false,false,false,true)
 else if op=24∨op=25∨op=26∨op=27∨op=48 then(true,true,true,false,false,false,false,true)
 else if op=28∨op=29∨op=30∨op=34∨op=35∨op=36∨op=37∨op=38∨op=40∨op=41∨op=42∨op=44∨op=46∨op=51∨op=52∨op=53∨op=57 then(true,false,false,false,false,false,false,true)
 else(false,false,false,false,false,false,false,false)
def Fm(p:Ez):Value:=.agg #[.bool p.1,.bool p.2.1,.bool p.2.2.1,.bool p.2.2.2.1,.bool p.2.2.2.2.1,.bool p.2.2.2.2.2.1,.bool p.2.2.2.2.2.2.1,.bool p.2.2.2.2.2.2.2]
def vl(p:Ez)(w:World)(e:Ending)(w':World):Prop:=e=.returned (Fm p)/\Below w.heap.size w w'
theorem vl.mk{p:Ez}{a b c d x y z i:Bool}{w w':World}(h:p=(a,b,c,d,x,y,z,i))(hb:Below w.heap.size w w'):vl p w (.returned (.agg #[.bool a,.bool b,.bool c,.bool d,.bool x,.bool y,.bool z,.bool i])) w':=by subst h;exact⟨rfl,hb⟩
def n7(op:Int):Bool:=decide (op=17∨op=18∨op=19∨op=20∨op=31∨op=21∨op=32)
def b4:List ByteArray:=[⟨#[115,101,116]⟩,⟨#[109,111,118]⟩,⟨#[97,100,100]⟩,⟨#[115,117,98]⟩,⟨#[97,110,100]⟩,⟨#[111,114]⟩,⟨#[120,111,114]⟩,⟨#[115,104,108]⟩,⟨#[115,104,114]⟩,⟨#[101,113]⟩,⟨#[108,116]⟩,⟨#[106,109,112]⟩,⟨#[106,122]⟩,⟨#[106,110,122]⟩,⟨#[106,115,114]⟩,⟨#[114,101,116]⟩,⟨#[108,100]⟩,⟨#[115,116]⟩,⟨#[115,119,112]⟩,⟨#[102,97,100]⟩,⟨#[99,97,115]⟩,⟨#[99,97,108,108]⟩,⟨#[104,115,104]⟩,⟨#[113,112,116]⟩,⟨#[113,116,107]⟩,⟨#[113,109,118]⟩,⟨#[113,104,115]⟩,⟨#[115,108,112]⟩,⟨#[104,110,100]⟩,⟨#[112,105,107]⟩,⟨#[108,97,121]⟩,⟨#[116,97,107]⟩,⟨#[105,110,106]⟩,⟨#[105,106,116]⟩,⟨#[114,117,110]⟩,⟨#[112,114,107]⟩,⟨#[115,108,102]⟩,⟨#[119,114,107]⟩,⟨#[119,107,100]⟩,⟨#[119,107,110]⟩,⟨#[110,111,119]⟩,⟨#[100,114,119]⟩,⟨#[103,101,116]⟩,⟨#[102,114,101]⟩,⟨#[111,98,106]⟩,⟨#[100,101,108]⟩,⟨#[99,107,112]⟩,⟨#[116,110,119]⟩,⟨#[116,115,116]⟩,⟨#[116,104,109]⟩,⟨#[116,106,110]⟩,⟨#[116,100,116]⟩,⟨#[116,101,120]⟩,⟨#[116,114,112]⟩,⟨#[101,110,100]⟩,⟨#[121,108,100]⟩,⟨#[99,98,107]⟩,⟨#[102,105,110]⟩]
def gn(op:Int):List Int:=
 if op=1 then [0,8]else if op=12∨op=15 then [6]else if op=13∨op=14 then [0,6]else if op=22 then [7]else if op=43 then [0,3]else if op=45 then [0,1,7]
 else(if(zF op).1 then [0]else [])++(if n7 op then [5]else if(zF op).2.1 then [1]else [])++(if(zF op).2.2.2.2.2.1 then [4]else if(zF op).2.2.1 then [2]else [])
def qE(l:List Int):List Value:=l.map (Value.int .i64)
structure hR(B:Nat)(w0 w:World)(v:Value)(acc:List Int):Prop where
 own:w.ownsRow B 3 1 v acc.length (qE acc)
 below:Below B w0 w
theorem hR.keep{B:Nat}{a w w':World}{v:Value}{acc:List Int}(h:hR B a w v acc)(hb:Below w.heap.size w w')(b:B<=w.heap.size):hR B a w' v acc:=
 ⟨h.own.kept (row:=none) ⟨hb.os,hb.tape,hb.output,hb.size,fun k c _=>hb.block k c⟩ (by cases v.ownBlock<;>simp),h.below.trans (hb.mono b)⟩
def cM:List (ByteArray×Int)->ByteArray->Option Int
 |[],_=>none
 |b::l,n=>if(b.1.data.toList==n.data.toList)=true then some b.2 else cM l n
def dY(w:World)(g:Nat)(l:List ByteArray):Prop:=∃a,Row w g 9 (l.map Value.string++a)
theorem dY.cell{w:World}{g:Nat}{l:List ByteArray}(h:dY w g l){k:Nat}{x:ByteArray}(a:l[k]?=some x):w.cell? ⟨g,k,none⟩=some (.string x):=by
 obtain⟨b,h⟩:=h;refine h.cell ?_;rw[List.getElem?_append_left (by rw[List.length_map];exact(List.getElem?_eq_some_iff.1 a).1),List.getElem?_map,a];rfl
theorem dY.af{w w':World}{g:Nat}{l:List ByteArray}(h:dY w g l)(c:Ch ag w w'):dY w' g l:=by
 obtain⟨a,h⟩:=h;exact⟨a,h.ch c (fun e=>e)⟩
def iJ(w:ByteArray):List ByteArray->Int->Int->Int
 |[],_,x=>x
 |n::l,i,x=>iJ w l (i+1) (if(n.data.toList==w.data.toList)=true then 1+i else x)
def BB(op:Int):aV:=⟨op,0,0,0,0,0,0⟩
def iw:List Int->List ByteArray->gm->aV->Option (gm×aV)
 |[],_,S,X=>some (S,X)
 |_::_,[],_,_=>none
 |k::b,s::l,S,X=>match sn k s S X with|none=>none|some (S',a)=>iw b l S' a
def qG(a:List Int)(l:List ByteArray):Bool:=decide (l.length=a.length+2)&&(b3 (l.getD (l.length-1) ByteArray.empty) 0==33)
def vm(b:List Int)(l:List ByteArray):Option (gm×aV)->Option gm
 |none=>none
 |some (S,X)=>if qG b l=true then(qC (l.getD (l.length-1) ByteArray.empty) X).map fun a=>{S with code:=S.code++[a]}else some {S with code:=S.code++[X]}
def pq(S:gm)(l:List ByteArray)(op:Int):Option gm:=
 if op=0 then none
 else if l.length=(gn op).length+1∨qG (gn op) l=true then vm (gn op) l (iw (gn op) (l.drop 1) S (BB op))else none
def sq(S:gm)(n:ByteArray):Option gm:=
 if fR n=true/\cM S.labels n=none then some {S with labels:=S.labels++[(n,(S.code.length:Int))],lines:=S.lines++[S.line]}else none
def lK(S:gm):List ByteArray->Option gm
 |[]=>none
 |w::l=>if b3 w (w.size-1)=58/\l.length=0 then sq S (w.extract 0 (w.size-1))else pq S (w::l) (iJ w b4 0 0)
theorem dY.keep{w w':World}{g:Nat}{l:List ByteArray}(h:dY w g l)(k:g7 w w'):dY w' g l:=by
 obtain⟨a,h⟩:=h;exact⟨a,k.row h (by decide) (by decide) (by decide)⟩
theorem pr(op:Int):(gn op).length<=3:=by
 unfold gn
 repeat' split
 all_goals simp
theorem mj{k:Int}{c:List Int}{l:List ByteArray}{S:gm}{X:aV}{r:gm×aV}(h:iw (k::c) l S X=some r):∃s l' S' a,l=s::l'/\sn k s S X=some (S',a)/\iw c l' S' a=some r:=by
 cases l with
 |nil=>cases h
 |cons s l'=>
  unfold iw at h;cases b:sn k s S X with
  |none=>rw[b]at h;cases h
  |some p=>
   obtain⟨S',a⟩:=p;rw[b]at h;exact⟨s,l',S',a,rfl,b,h⟩
theorem ps{k:Int}{s:ByteArray}{S S':gm}{X a:aV}(h:sn k s S X=some (S',a)):S'.code=S.code/\S'.labels=S.labels/\S'.lines=S.lines/\S'.line=S.line/\S'.bp.length<=S.bp.length+1:=by
 unfold sn at h
 repeat' split at h
 all_goals first
  |(cases h;done)
  |(obtain⟨rfl,rfl⟩:=Prod.mk.inj (Option.some.inj h);simp)
  |(rw[Option.map_eq_some_iff]at h;obtain⟨_,_,h⟩:=h;obtain⟨rfl,rfl⟩:=Prod.mk.inj h;simp)
theorem jh:∀(a:List Int) {l:List ByteArray} {S S':gm} {X b:aV},iw a l S X=some (S',b)->S'.code=S.code/\S'.labels=S.labels/\S'.lines=S.lines/\S'.line=S.line/\S'.bp.length<=S.bp.length+a.length
 |[],l,S,S',X,b,h=>by
  obtain⟨rfl,rfl⟩:=Prod.mk.inj (Option.some.inj h);simp
 |k::a,l,S,S',X,b,h=>by
  obtain⟨s,l',j,m,rfl,g,i⟩:=mj h;obtain⟨a1,a2,a3,a4,n⟩:=ps g;obtain⟨c,d,e,f,o⟩:=jh a i;exact⟨c.trans a1,d.trans a2,e.trans a3,f.trans a4,by simp only[List.length_cons];omega⟩
theorem ml{S S':gm}{l:List ByteArray}{op:Int}(h:pq S l op=some S'):op≠0/\∃b a d e,iw (gn op) (l.drop 1) S (BB op)=some (b,a)/\S'={b with code:=b.code++[d]}/\
 ((e=true/\l.length=(gn op).length+2/\b3 (l.getD (l.length-1) ByteArray.empty) 0=33/\qC (l.getD (l.length-1) ByteArray.empty) a=some d)∨(e=false/\l.length=(gn op).length+1/\d=a)):=by
 unfold pq at h;split at h
 ·cases h
 ·rename_i g
  refine⟨g,?_⟩;split at h
  ·rename_i i
   unfold vm at h;cases f:iw (gn op) (l.drop 1) S (BB op)with
   |none=>rw[f]at h;cases h
   |some q=>
    obtain⟨b,a⟩:=q;rw[f]at h;dsimp only at h;split at h
    ·rename_i c
     rw[Option.map_eq_some_iff]at h;obtain⟨d,j,rfl⟩:=h;unfold qG at c;rw[Bool.and_eq_true,decide_eq_true_eq,beq_iff_eq]at c;exact⟨b,a,d,true,rfl,rfl,Or.inl ⟨rfl,c.1,c.2,j⟩⟩
    ·rename_i c
     exact⟨b,a,a,false,rfl,(Option.some.inj h).symm,Or.inr ⟨rfl,i.resolve_right c,rfl⟩⟩
  ·cases h
end Go.Proofs.YtlihkblppjgebaaGreatDoor
