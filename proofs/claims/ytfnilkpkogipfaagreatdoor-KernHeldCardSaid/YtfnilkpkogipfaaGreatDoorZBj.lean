import Derived.Deep.RegionHeldLaw
import Derived.Laws.Concat
import Derived.Test.YtfnilkpkogipfaaGreatDoorZAn
import Derived.Test.YtfnilkpkogipfaaGreatDoorZBi
set_option linter.all false
set_option maxRecDepth 100000
set_option maxHeartbeats 8000000
namespace Go.Proofs.YtfnilkpkogipfaaGreatDoor
open Go.RowKit Go.Proofs.Tryz
structure gm where
 code:List aV
 labels:List (ByteArray×Int)
 lines:List Int
 bp:List (Int×Int×ByteArray)
 line:Int
def oK(b:ByteArray×Int):List Value:=[.string b.1,.int .i64 b.2]
def n4(x:Int×Int×ByteArray):List Value:=[.int .i64 x.1,.int .i64 x.2.1,.string x.2.2]
def dg(X:aV):List Value:=(aC X).toList
def iu(n:Int):List Value:=[n]
structure n5(w:World)(B p bx:Nat)(vc vl vn vw:Value)(S:gm):Prop where
 row:Row w p 232 [vc,vl,vn,vw,.int .i64 S.line]
 hB:B<=p
 code:w.ownsRow B 121 7 vc S.code.length (S.code.flatMap dg)
 ne:vc.ownBlock≠some bx
 labels:w.ownsRow B 238 2 vl S.labels.length (S.labels.flatMap oK)
 lines:w.ownsRow B 3 1 vn S.lines.length (S.lines.flatMap iu)
 bp:w.ownsRow B 236 3 vw S.bp.length (S.bp.flatMap n4)
def dD(w:World)(B p a:Nat)(S:gm):Prop:=∃b c d e,n5 w B p a b c d e S
def g7(w w':World):Prop:=∀(k:Nat) (c:Array Value) (t:TypeId) (f:Nat×Nat),t≠232->t≠121->t≠236->w.heap[k]?=some (.cells c t f)->w'.heap[k]?=some (.cells c t f)
theorem g7.refl(w:World):g7 w w:=fun _ _ _ _ _ _ _ h=>h
theorem g7.trans{a b c:World}(h:g7 a b)(g:g7 b c):g7 a c:=fun k x t f d e i j=>g k x t f d e i (h k x t f d e i j)
theorem g7.row{w w':World}(h:g7 w w'){b:Nat}{t:TypeId}{l:List Value}(e:Row w b t l)(a:t≠232)(c:t≠121)(d:t≠236):Row w' b t l:=h b _ t _ a c d e
theorem g7.fa{w w':World}{D:Nat->Prop}(c:Ch D w w')(b:∀k x t f,D k->w.heap[k]?=some (.cells x t f)->t=232∨t=121∨t=236):g7 w w':=by
 intro k x t f e g i a;rw[c.same k (Array.getElem?_eq_some_iff.1 a).1 (fun d=>by rcases b k x t f d a with h|h|h<;>contradiction)];exact a
theorem bh{w:World}{B:Nat}{e:TypeId}{size:Nat}{v:Value}{n:Nat}{l:List Value}(h:w.ownsRow B e size v n l){k:Nat}{c:Array Value}{t:TypeId}{f:Nat×Nat}(a:w.heap[k]?=some (.cells c t f))(j:t≠e):v.ownBlock≠some k:=by
 rcases h.2 with⟨rfl,_⟩|⟨g,cap,cur,rfl,_,d,_⟩
 ·simp[Value.ownBlock]
 ·intro i
  have:g=k:=by simpa[Value.ownBlock]using i
  subst this;rw[d]at a;injection a with a
  injection a with _ b _
  exact j b.symm
theorem bJ{w:World}{B:Nat}{e:TypeId}{size:Nat}{v:Value}{n:Nat}{f:List Value}(h:w.ownsRow B e size v n f){k:Nat}(a:v.ownBlock=some k):B<=k/\∃c,w.heap[k]?=some (.cells c e (0,0)):=by
 rcases h.2 with⟨rfl,_⟩|⟨g,cap,cur,rfl,b,d,_⟩
 ·cases a
 ·have:g=k:=by simpa[Value.ownBlock]using a
  subst this;exact⟨b,_,d⟩
theorem eD{w:World}{b:Nat}{t:TypeId}{l:List Value}(h:Row w b t l){c:Array Value}{d:TypeId}{f:Nat×Nat}(a:w.heap[b]?=some (.cells c d f)):d=t:=by
 unfold Row at h;rw[h]at a;injection a with a;injection a with _ e _;exact e.symm
theorem n5.ins{w w':World}{B p a:Nat}{i j k l:Value}{S:gm}(h:n5 w B p a i j k l S){X:aV}(f:ao w a X)(c:Ch (aK a) w w'):n5 w' B p a i j k l S where
 row:=h.row.ch c (fun e=>by have b:p=a:=e;subst b;exact absurd (eD h.row f) (by decide))
 hB:=h.hB
 code:=ar h.code c (fun g d e=>by have b:g=a:=e;subst b;exact h.ne d)
 ne:=h.ne
 labels:=ar h.labels c (fun g d e=>by have b:g=a:=e;subst b;exact bh h.labels f (by decide) d)
 lines:=ar h.lines c (fun g d e=>by have b:g=a:=e;subst b;exact bh h.lines f (by decide) d)
 bp:=ar h.bp c (fun g d e=>by have b:g=a:=e;subst b;exact bh h.bp f (by decide) d)
theorem n5.af{w w':World}{B p b:Nat}{d f i j:Value}{S:gm}(h:n5 w B p b d f i j S)(c:Ch ag w w'):n5 w' B p b d f i j S where
 row:=h.row.ch c (fun e=>e)
 hB:=h.hB
 code:=ar h.code c (fun g a e=>e)
 ne:=h.ne
 labels:=ar h.labels c (fun g a e=>e)
 lines:=ar h.lines c (fun g a e=>e)
 bp:=ar h.bp c (fun g a e=>e)
theorem dD.af{w w':World}{B p a:Nat}{S:gm}(h:dD w B p a S)(c:Ch ag w w'):dD w' B p a S:=by
 obtain⟨b,d,e,f,h⟩:=h;exact⟨b,d,e,f,h.af c⟩
theorem dD.ins{w w':World}{B p a:Nat}{S:gm}(h:dD w B p a S){X:aV}(b:ao w a X)(c:Ch (aK a) w w'):dD w' B p a S:=by
 obtain⟨d,e,f,g,h⟩:=h;exact⟨d,e,f,g,h.ins b c⟩
def vk(p:Nat)(v:Value):Nat->Prop:=fun i=>i=p∨v.ownBlock=some i
theorem j3{w w1:World}{p j:Nat}{v u:Value}(a:w.grownBy w1 v.ownBlock):Ch (vk p v) w (w1.setCell (p,j) u):=
 Ch.gS (D:=vk p v) (p:=⟨p,j,none⟩) ⟨a.os,a.tape,a.output,a.size,fun b hb c=>a.block b hb (fun e=>c (Or.inr e.symm))⟩ (Or.inl rfl) u
theorem fS{w w':World}{B p:Nat}{v:Value}{e:TypeId}{s n:Nat}{f:List Value}(c:Ch (vk p v) w w')(h:w.ownsRow B e s v n f)(a:B<=p)(d:B<=w.heap.size):Below B w w':=
 c.below d (fun b hb=>by rcases hb with rfl|hb;exact a;exact(bJ h hb).1)
theorem dL{w1:World}{B p j:Nat}{e:TypeId}{s n:Nat}{a:List Value}{v u:Value}{t:TypeId}{l:List Value}(h:w1.ownsRow B e s v n a)(f:Row w1 p t l)(i:t≠e):(w1.setCell (p,j) u).ownsRow B e s v n a:=
 ar (D:=aK p) h ((Ch.refl _ _).only _ _) (fun g d b=>by have c:g=p:=b;subst c;exact bh h f i d)
theorem n5.want{w w1:World}{B p q:Nat}{C D E l i:Value}{S:gm}(h:n5 w B p q C D E l S){X:aV}(G:ao w q X)(M:B<=w.heap.size)(y:Int×Int×ByteArray)
 (L:w1.ownsRow B 236 3 i (S.bp.length+1) (S.bp.flatMap n4++n4 y)) (a:w.grownBy w1 l.ownBlock):
 dD (w1.setCell (p,3) i) B p q {S with bp:=S.bp++[y]}/\ao (w1.setCell (p,3) i) q X/\Below B w (w1.setCell (p,3) i)/\g7 w (w1.setCell (p,3) i):=by
 have c:=j3 (p:=p) (j:=3) (u:=i) a;have O:Ch (vk p l) w w1:=⟨a.os,a.tape,a.output,a.size,fun b hb J=>a.block b hb (fun e=>J (Or.inr e.symm))⟩;have H:∀{k:Nat} {cs:Array Value} {t:TypeId} {f:Nat×Nat},w.heap[k]?=some (.cells cs t f)->t≠232->t≠236->¬vk p l k:=fun d r m z=>by
  rcases z with rfl|z
  ·exact r (eD h.row d)
  ·exact bh h.bp d m z
 have A:∀{e:TypeId} {s:Nat} {v:Value} {n:Nat} {N:List Value},w.ownsRow B e s v n N->e≠232->e≠236->∀g,v.ownBlock=some g->¬vk p l g:=fun K r m g a=>by
  obtain⟨_,cs,d⟩:=bJ K a;exact H d r m
 have F:Row w1 p 232 [C,D,E,l,.int .i64 S.line]:=by
  unfold Row;rw[a.block p h.row.lt (fun e=>bh h.bp h.row (by decide) e.symm)];exact h.row
 refine⟨⟨C,D,E,i,⟨F.a' _ _ rfl,h.hB,ar h.code c (A h.code (by decide) (by decide)),h.ne,ar h.labels c (A h.labels (by decide) (by decide)),ar h.lines c (A h.lines (by decide) (by decide)),?_⟩⟩,G.ch c (H G (by decide) (by decide)),fS c h.bp h.hB M,?_⟩
 ·have:=dL (j:=3) (u:=i) L F (by decide)
  rw[List.flatMap_append,List.length_append];simpa using this
 ·refine g7.fa c (fun k x t f d o=> ?_)
  rcases d with rfl|d
  ·exact Or.inl (eD h.row o)
  ·obtain⟨_,cs,m⟩:=bJ h.bp d
   rw[m]at o;injection o with o;injection o with _ I _
   exact Or.inr (Or.inr I.symm)
theorem zD:(prog.info? 236).map (fun i=>(i.zero,i.size,i.bytes))=some (some (.agg #[.int .i64 0,.int .i64 0,.string ByteArray.empty]),3,32):=by kernel_rfl
def j4(kind n:Int)(X:aV):aV:=if kind=0 then {X with a:=n}else if kind=1∨kind=3 then {X with b:=n}else if kind=2∨kind=4 then {X with c:=n}else X
def oL(kind v:Int)(X:aV):aV:=if kind=3 then {X with v:=v,b:=-1}else if kind=4 then {X with v:=v,c:=-1}else {X with v:=v}
def sn(kind:Int)(s:ByteArray)(S:gm)(X:aV):Option (gm×aV):=
 if kind=5 then(tW s X).map fun a=>(S,a)
 else if(kind=6∨kind=8)/\fR s=true then some ({S with bp:=S.bp++[(S.line,(S.code.length:Int),s)]},j4 kind (dP s).1 X)
 else if kind=6 then none
 else if kind=0∨kind=1∨kind=2 then(if(dP s).2 then some (S,j4 kind (dP s).1 X)else none)
 else if(dP s).2=true/\(kind=3∨kind=4)then some (S,j4 kind (dP s).1 X)
 else(xh s).map fun v=>(S,oL kind v (j4 kind (dP s).1 X))
def dq(S:gm)(X:aV)(B p a:Nat)(w:World)(e:Ending)(w':World):Prop:=e=.returned (.pointer none)/\dD w' B p a S/\ao w' a X/\Below B w w'/\g7 w w'
theorem dq.of{S:gm}{X g:aV}{B p a:Nat}{w w':World}(l:dD w B p a S)(d:ao w a g)(h:B<=a)(m:ao w' a X)(c:Ch (aK a) w w'):dq S X B p a w (.returned (.pointer none)) w':=
 ⟨rfl,l.ins d c,m,c.below (Nat.le_of_lt (Nat.lt_of_le_of_lt h d.lt)) (fun b hb=>by have e:b=a:=hb;omega),g7.fa c (fun k x t f j i=>by have e:k=a:=j;subst e;exact Or.inr (Or.inl (eD d i)))⟩
theorem j5(s:ByteArray)(a:s.size<=maxLen)(b:Bool)(h:fR s=b)(w:World):Calls prog 130 #[.string s] w (QB b w):=by rw[<-h];exact xg s a w
theorem tX(kind:Int)(k:kind=6∨kind=8)(s:ByteArray)(c2:s.size<=65536)(z:fR s=true)(B p d:Nat)(S:gm)(X:aV)(w:World)
 (o:ao w d X) (Q:dD w B p d S) (bv:B<=d) (hlen:S.bp.length<=1048576):
 Calls prog 134 #[(p,0),kind,.string s,(d,0)] w
  (dq {S with bp:=S.bp++[(S.line,(S.code.length:Int),s)]} X B p d w):=by
 obtain⟨W,y,T,U,V⟩:=info_parts zD;have l:s.size<=maxLen:=by unfold maxLen;omega
 rcases A:dP s with⟨n,b⟩
 have I:=Z (jA s l n b A);have H:=Z (j5 s l true z);obtain⟨am,ap,av,h,a⟩:=Q;have K:=Z a;have L:=Z o;have c1:=a.row.lt;have j:h.ownBlock≠some p:=bh a.bp a.row (by decide);obtain⟨u,v,x⟩:=aA a.code;have F:=Z x;have G:=Z y;have O:B<=w.heap.size:=by have:=o.lt;omega
 clear A z l a o y x;have r:Hid (∀(w1:World),Ch ag w w1->n5 w1 B p d am ap av h S/\ao w1 d X):=Z (fun w1 c=>⟨K.af c,L.ch c (fun e=>e)⟩);rcases k with rfl|rfl
 all_goals
  go_enter func134,ntmps134
  go_wp2_with (first|(go_at_call 154;(with_reducible refine(I.out _).mono ?_);rintro e w' ⟨rfl,Y,rfl⟩)|(go_at_call 130;(with_reducible refine(H.out _).mono ?_);rintro e w' ⟨rfl,a0,rfl⟩))
  obtain⟨w1,m⟩:=nm (w.drewN (Y+a0));have f:=Z (Ch.dN (D:=ag) m);rw[m];clear m;have a:=(r _ f).1;have J:=Z a;have M:=Z (r _ f).2;have C:=f.size;have a1:w1.cell? (p,0)=some (.slice u S.code.length v):=by rw[<-F];exact a.row.cell rfl
  have a2:w1.cell? (p,3)=some h:=a.row.cell rfl;have a3:w1.cell? (p,4)=some (.int .i64 S.line):=a.row.cell rfl;have N:=a.row.free 3;have i:p<w1.heap.size:=by omega
  have R:=a.bp;have q:=Z C;clear a C;go_region_law (first|(refine step_append_lies _ (by rfl) _ _ _ (by rfl) B 236 W _ 3 32 underlying230 G T U V rfl (by omega) h S.bp.length (S.bp.flatMap n4) (by rfl) ((R.alloc _).drew) ⟨w1.heap.size,0,none⟩ 1 1 [.int .i64 S.line,.int .i64 S.code.length,.string s] (by rfl) (by rfl) (World.news_of_block (cs:=#[.int .i64 S.line,.int .i64 S.code.length,.string s]) (t:=236) (fr:=(0,0)) (heap_alloc_new w1 _)) (by simp[Value.oneCell']) (by omega) (by unfold maxLen;omega) (by omega) (by simp;have:=q.out;omega) (w1.heap.size+1) (by simp) ?_;intro bi cap w2 P g bw c0;have E:w2.cell? (p,3)=some h:=(g.cell_far ⟨p,3,none⟩ (by simp;omega) (Ne.symm j)).trans (by simp[go_sem,World.cell?_alloc_past,i,a2]);have c4:w2.frozen? (p,3)=false:=(g.frozen_far ⟨p,3,none⟩ (by simp;omega) (Ne.symm j)).trans (by simp[go_sem,World.frozen?_alloc_past,i,N]);have c3:w2.cell? (p,0)=some (.slice u S.code.length v):=(g.cell_far ⟨p,0,none⟩ (by simp;omega) (Ne.symm j)).trans (by simp[go_sem,World.cell?_alloc_past,i,a1]);have c5:w2.cell? (p,4)=some (.int .i64 S.line):=(g.cell_far ⟨p,4,none⟩ (by simp;omega) (Ne.symm j)).trans (by simp[go_sem,World.cell?_alloc_past,i,a3])))
  all_goals
   go_wp2
   go_ret;obtain⟨ab,ad,al,E⟩:=J.want M (by have:=q.out;omega) (S.line,(S.code.length:Int),s) P (ax (cO g));exact⟨rfl,ab,ad,(f.below O (fun _ hb=>False.elim hb)).trans al,(g7.fa f (fun _ _ _ _ k _=>False.elim k)).trans E⟩
theorem xk(kind:Int)(N:0<=kind/\kind<=8)(s:ByteArray)(H:s.size<=65536)(B p f:Nat)(S C:gm)(X u:aV)(w:World)(h:sn kind s S X=some (C,u))
 (d:ao w f X) (z:dD w B p f S) (g:B<=f) (hlen:S.bp.length<=1048576) (t:p≠f):
 Calls prog 134 #[(p,0),kind,.string s,(f,0)] w (dq C u B p f w):=by
 have m:s.size<=maxLen:=by unfold maxLen;omega
 by_cases r:(kind=6∨kind=8)/\fR s=true
 ·unfold sn at h
  rw[if_neg (by omega),if_pos r]at h;have e:j4 kind (dP s).1 X=X:=by unfold j4;rw[if_neg (by omega),if_neg (by omega),if_neg (by omega)]
  rw[e]at h;obtain⟨rfl,rfl⟩:=Prod.mk.inj (Option.some.inj h);exact tX kind r.1 s H r.2 B p f S X w d z g hlen
 ·have l:=Z z
  have a:=Z d;have f1:=d.free 1;have f2:=d.free 2;have f3:=d.free 3;have f4:=d.free 4;have Q:w.cell? (f,1)=some (.int .i64 X.a):=d.cell rfl;have R:w.cell? (f,2)=some (.int .i64 X.b):=d.cell rfl;have T:w.cell? (f,3)=some (.int .i64 X.c):=d.cell rfl;have U:w.cell? (f,4)=some (.int .u64 X.v):=d.cell rfl;obtain⟨V,W,Y,a0,D⟩:=z;have i:w.cell? (p,4)=some (.int .i64 S.line):=D.row.cell rfl;rcases y:dP s with⟨n,b⟩
  have k:=Z (jA s m n b y);have G:kind=6∨kind=8->fR s=false:=fun x=>by
   cases M:fR s with
   |false=>rfl
   |true=>exact absurd ⟨x,M⟩ r
  have A:=Z (fun x w=>j5 s m false (G x) w);have O:kind=0∨kind=1∨kind=2∨kind=3∨kind=4∨kind=5∨kind=6∨kind=7∨kind=8:=by omega
  unfold sn at h;rw[y]at h;clear D d y N G;rcases O with rfl|rfl|rfl|rfl|rfl|rfl|rfl|rfl|rfl
  all_goals(first|rw[if_neg (by decide),if_neg r]at h|skip)
  all_goals clear r
  ·cases b<;>simp[j4,oL]at h
   obtain⟨rfl,rfl⟩:=h;go_enter func134,ntmps134
   go_wp2_with (go_at_call 154;(with_reducible refine(k.out _).mono ?_);rintro e w' ⟨rfl,o,rfl⟩)
   go_ret;refine dq.of l.out a.out g ?_ (by repeat(first|exact Ch.refl _ _|with_reducible refine Ch.drewN ?_ _|with_reducible refine Ch.drew ?_|with_reducible refine Ch.only ?_ _ _))
   (repeat(first|with_reducible refine ao.drewN ?_ _|with_reducible refine ao.drew ?_))
   refine ao.Eb (X:=X) ?_ n
   (repeat(first|with_reducible refine ao.drewN ?_ _|with_reducible refine ao.drew ?_))
   exact a
  ·cases b<;>simp[j4,oL]at h
   obtain⟨rfl,rfl⟩:=h;go_enter func134,ntmps134
   go_wp2_with (go_at_call 154;(with_reducible refine(k.out _).mono ?_);rintro e w' ⟨rfl,o,rfl⟩)
   go_ret;refine dq.of l.out a.out g ?_ (by repeat(first|exact Ch.refl _ _|with_reducible refine Ch.drewN ?_ _|with_reducible refine Ch.drew ?_|with_reducible refine Ch.only ?_ _ _))
   (repeat(first|with_reducible refine ao.drewN ?_ _|with_reducible refine ao.drew ?_))
   refine ao.n3 (X:=X) ?_ n
   (repeat(first|with_reducible refine ao.drewN ?_ _|with_reducible refine ao.drew ?_))
   exact a
  ·cases b<;>simp[j4,oL]at h
   obtain⟨rfl,rfl⟩:=h;go_enter func134,ntmps134
   go_wp2_with (go_at_call 154;(with_reducible refine(k.out _).mono ?_);rintro e w' ⟨rfl,o,rfl⟩)
   go_ret;refine dq.of l.out a.out g ?_ (by repeat(first|exact Ch.refl _ _|with_reducible refine Ch.drewN ?_ _|with_reducible refine Ch.drew ?_|with_reducible refine Ch.only ?_ _ _))
   (repeat(first|with_reducible refine ao.drewN ?_ _|with_reducible refine ao.drew ?_))
   refine ao.vh (X:=X) ?_ n
   (repeat(first|with_reducible refine ao.drewN ?_ _|with_reducible refine ao.drew ?_))
   exact a
  ·cases b
   ·simp[j4,oL]at h
    obtain⟨v,j,rfl,rfl⟩:=h;have q:=Z (cR s m v j p S.line);clear j;go_enter func134,ntmps134
    go_wp2_with (first|(go_at_call 154;(with_reducible refine(k.out _).mono ?_);rintro e w' ⟨rfl,o,rfl⟩)|(go_at_call 158;(with_reducible refine(q.out _ ?_).mono ?_);(first|exact i|simp[go_sem,t,i]);rintro e w' ⟨rfl,m,rfl⟩))
    go_ret;refine dq.of l.out a.out g ?_ (by repeat(first|exact Ch.refl _ _|with_reducible refine Ch.drewN ?_ _|with_reducible refine Ch.drew ?_|with_reducible refine Ch.only ?_ _ _))
    (repeat(first|with_reducible refine ao.drewN ?_ _|with_reducible refine ao.drew ?_))
    refine ao.n3 (X:={X with b:=n,v:=v}) ?_ (-1)
    (repeat(first|with_reducible refine ao.drewN ?_ _|with_reducible refine ao.drew ?_))
    refine ao.mi (X:={X with b:=n}) ?_ v
    (repeat(first|with_reducible refine ao.drewN ?_ _|with_reducible refine ao.drew ?_))
    refine ao.n3 (X:=X) ?_ n
    (repeat(first|with_reducible refine ao.drewN ?_ _|with_reducible refine ao.drew ?_))
    exact a
   ·simp[j4,oL]at h
    obtain⟨rfl,rfl⟩:=h;go_enter func134,ntmps134
    go_wp2_with (go_at_call 154;(with_reducible refine(k.out _).mono ?_);rintro e w' ⟨rfl,o,rfl⟩)
    go_ret;refine dq.of l.out a.out g ?_ (by repeat(first|exact Ch.refl _ _|with_reducible refine Ch.drewN ?_ _|with_reducible refine Ch.drew ?_|with_reducible refine Ch.only ?_ _ _))
    (repeat(first|with_reducible refine ao.drewN ?_ _|with_reducible refine ao.drew ?_))
    refine ao.n3 (X:=X) ?_ n
    (repeat(first|with_reducible refine ao.drewN ?_ _|with_reducible refine ao.drew ?_))
    exact a
  ·cases b
   ·simp[j4,oL]at h
    obtain⟨v,j,rfl,rfl⟩:=h;have q:=Z (cR s m v j p S.line);clear j;go_enter func134,ntmps134
    go_wp2_with (first|(go_at_call 154;(with_reducible refine(k.out _).mono ?_);rintro e w' ⟨rfl,o,rfl⟩)|(go_at_call 158;(with_reducible refine(q.out _ ?_).mono ?_);(first|exact i|simp[go_sem,t,i]);rintro e w' ⟨rfl,m,rfl⟩))
    go_ret;refine dq.of l.out a.out g ?_ (by repeat(first|exact Ch.refl _ _|with_reducible refine Ch.drewN ?_ _|with_reducible refine Ch.drew ?_|with_reducible refine Ch.only ?_ _ _))
    (repeat(first|with_reducible refine ao.drewN ?_ _|with_reducible refine ao.drew ?_))
    refine ao.vh (X:={X with c:=n,v:=v}) ?_ (-1)
    (repeat(first|with_reducible refine ao.drewN ?_ _|with_reducible refine ao.drew ?_))
    refine ao.mi (X:={X with c:=n}) ?_ v
    (repeat(first|with_reducible refine ao.drewN ?_ _|with_reducible refine ao.drew ?_))
    refine ao.vh (X:=X) ?_ n
    (repeat(first|with_reducible refine ao.drewN ?_ _|with_reducible refine ao.drew ?_))
    exact a
   ·simp[j4,oL]at h
    obtain⟨rfl,rfl⟩:=h;go_enter func134,ntmps134
    go_wp2_with (go_at_call 154;(with_reducible refine(k.out _).mono ?_);rintro e w' ⟨rfl,o,rfl⟩)
    go_ret;refine dq.of l.out a.out g ?_ (by repeat(first|exact Ch.refl _ _|with_reducible refine Ch.drewN ?_ _|with_reducible refine Ch.drew ?_|with_reducible refine Ch.only ?_ _ _))
    (repeat(first|with_reducible refine ao.drewN ?_ _|with_reducible refine ao.drew ?_))
    refine ao.vh (X:=X) ?_ n
    (repeat(first|with_reducible refine ao.drewN ?_ _|with_reducible refine ao.drew ?_))
    exact a
  ·simp at h
   obtain⟨E,rfl⟩:=h;have J:=Z (fun w i d=>xi s H X u E p f S.line w i d);clear E;go_enter func134,ntmps134
   go_wp2_with (first|(go_at_call 154;(with_reducible refine(k.out _).mono ?_);rintro e w' ⟨rfl,o,rfl⟩)|(go_at_call 157;(with_reducible refine(J.out _ ?_ ?_).mono ?_);exact i;exact a.out.drewN _;rintro e w' ⟨rfl,I,F⟩;have L:=Z I;have K:=Z F;clear I F))
   go_ret;exact dq.of l a g L (Ch.trans ((Ch.refl _ _).drewN o) K)
  ·simp at h
  ·simp[j4,oL]at h
   obtain⟨v,j,rfl,rfl⟩:=h;have q:=Z (cR s m v j p S.line);clear j;cases b
   all_goals
    go_enter func134,ntmps134
    go_wp2_with (first|(go_at_call 154;(with_reducible refine(k.out _).mono ?_);rintro e w' ⟨rfl,o,rfl⟩)|(go_at_call 130;(with_reducible refine(A.out (by decide) _).mono ?_);rintro e w' ⟨rfl,P,rfl⟩)|(go_at_call 158;(with_reducible refine(q.out _ ?_).mono ?_);(first|exact i|simp[go_sem,t,i]);rintro e w' ⟨rfl,m,rfl⟩))
    go_ret;refine dq.of l.out a.out g ?_ (by repeat(first|exact Ch.refl _ _|with_reducible refine Ch.drewN ?_ _|with_reducible refine Ch.drew ?_|with_reducible refine Ch.only ?_ _ _))
    (repeat(first|with_reducible refine ao.drewN ?_ _|with_reducible refine ao.drew ?_))
    refine ao.mi (X:=X) ?_ v
    (repeat(first|with_reducible refine ao.drewN ?_ _|with_reducible refine ao.drew ?_))
    exact a
  ·simp[j4,oL]at h
   obtain⟨v,j,rfl,rfl⟩:=h;have q:=Z (cR s m v j p S.line);clear j;cases b
   all_goals
    go_enter func134,ntmps134
    go_wp2_with (first|(go_at_call 154;(with_reducible refine(k.out _).mono ?_);rintro e w' ⟨rfl,o,rfl⟩)|(go_at_call 130;(with_reducible refine(A.out (by decide) _).mono ?_);rintro e w' ⟨rfl,P,rfl⟩)|(go_at_call 158;(with_reducible refine(q.out _ ?_).mono ?_);(first|exact i|simp[go_sem,t,i]);rintro e w' ⟨rfl,m,rfl⟩))
    go_ret;refine dq.of l.out a.out g ?_ (by repeat(first|exact Ch.refl _ _|with_reducible refine Ch.drewN ?_ _|with_reducible refine Ch.drew ?_|with_reducible refine Ch.only ?_ _ _))
    (repeat(first|with_reducible refine ao.drewN ?_ _|with_reducible refine ao.drew ?_))
    refine ao.mi (X:=X) ?_ v
    (repeat(first|with_reducible refine ao.drewN ?_ _|with_reducible refine ao.drew ?_))
    exact a
theorem Bx:(prog.info? 9).map (fun i=>(i.zero,i.size,i.bytes))=some (some (.string ByteArray.empty),1,16):=by kernel_rfl
def so(l:List UInt8):ByteArray:=⟨l.toArray⟩
theorem sp(l:List UInt8):(so l).size=l.length:=by simp[so,ByteArray.size]
theorem jg(l:List UInt8):(so l).data.toList=l:=by simp[so]
def oM(w:List UInt8):List ByteArray:=if w=[]then []else [so w]
def kM:List UInt8->List UInt8->List ByteArray
 |[],w=>oM w
 |c::cs,w=>if(c.toNat:Int)≠32/\(c.toNat:Int)≠59 then kM cs (w++[c])else if(c.toNat:Int)=59 then oM w else oM w++kM cs []
def eY(s:ByteArray):List ByteArray:=kM s.data.toList []
def hQ(a:List ByteArray)(w:World)(e:Ending)(w':World):Prop:=
 ∃v,e=.returned v/\w'.ownsRow w.heap.size 9 1 v a.length (a.map Value.string)/\Below w.heap.size w w'
theorem hQ.mk{a:List ByteArray}{w w':World}{v:Value}(acc:List ByteArray)(h:a=acc)(b:w'.ownsRow w.heap.size 9 1 v acc.length (acc.map Value.string))(hb:Below w.heap.size w w'):hQ a w (.returned v) w':=by
 subst h;exact⟨v,rfl,b,hb⟩
theorem lJ{B:Nat}{w wr w2:World}{a:Obj}{l:Value}{n:Nat}{f:List Value}(h:Below B w wr)(e:wr.ownsRow B 9 1 l n f)(c:(wr.alloc a).grownBy w2 l.ownBlock)(b:B<=wr.heap.size:=by omega):Below B w w2:=
 (h.alloc b a).grown c (by simp;omega) (fun k d=>(e.lt k d).1)
theorem qD{B:Nat}{w2:World}{l:Value}{acc:List ByteArray}{x:ByteArray}(h:w2.ownsRow B 9 1 l (acc.length+1) (acc.map Value.string++[.string x])):w2.ownsRow B 9 1 l (acc++[x]).length ((acc++[x]).map Value.string):=by
 simpa using h
def zE(s:ByteArray)(w:World)(l wv i:Value)(wr:World):Prop:=
 ∃(k:Nat) (a:List UInt8) (acc:List ByteArray),k<=s.size+1/\i=.int .i64 k/\wv=.string (so a)/\a.length<=k/\acc.length<=k/\wr.ownsRow w.heap.size 9 1 l acc.length (acc.map Value.string)/\Below w.heap.size w wr/\((k<=s.size/\acc++kM (s.data.toList.drop k) a=eY s)∨(s.size<k/\acc=eY s))
theorem n6(s:ByteArray)(a0:s.size<=65536)(w:World):Calls prog 103 #[.string s] w (hQ (eY s) w):=by
 obtain⟨M,H,J,K,L⟩:=info_parts Bx;go_enter func103,ntmps103
 go_wp2_with fail
 go_loopw [3,4,5] (fun l wv i wr=>zE s w l wv i wr) (fun _ _ i _=>s.size+1-(intOf i).toNat)
 case atStart=>exact⟨0,[],[],by omega,rfl,rfl,by simp,by simp,World.ownsRow_nil _ _ _ _,Below.refl _ _,Or.inl ⟨by omega,rfl⟩⟩
 case round=>
  obtain⟨k,f,acc,Y,rfl,rfl,a2,X,m,o,D⟩:=hrel;have a1:=o.size;rcases D with⟨U,D⟩|⟨U,D⟩
  ·have B:=Z D
   clear D;have P:(so f).size=f.length:=sp f;have W:=Z P;have I:(so f).size<=65536:=by omega
   clear P;by_cases V:k<s.size
   ·have v:Hid (s.data.toList.drop k=s[k]::s.data.toList.drop (k+1)):=drop_cons s k V
    have R:Hid (so f++s.extract k (k+1)=so (f++[s[k]])):=by
     show _=_
     have e:(s.extract k (k+1)).data.toList=[s[k]]:=by
      rw[ByteArray.data_extract,Array.toList_extract,List.extract_eq_take_drop,show k+1-k=1 from by omega,v];rfl
     apply ByteArray.ext;apply Array.ext';rw[ByteArray.data_append,Array.toList_append,e,jg,jg]
    by_cases C:(s[k].toNat:Int)=32
    ·obtain⟨t,c⟩:=nm (so f)
     rw[c]at I⊢;have N:=Z c;have O:((s[k].toNat:Int) !=32)=false:=by simpa using C
     have T:((s[k].toNat:Int)==59)=false:=by rw[C];rfl
     by_cases d:f=[]
     ·have p:t.toList=[]:=by rw[<-c,d,ByteArray.toList_eq];rfl
      have E:(!t.toList.isEmpty)=false:=by rw[p];rfl
      have n:Hid (acc++kM (s.data.toList.drop (k+1)) []=eY s):=by
       show _=_
       rw[<-B,v];rw[kM,if_neg (by omega),if_neg (by omega),d];rfl
      clear c d C;go_wp2
      go_roundw
      case rel=>exact⟨k+1,[],acc,by omega,by go_num,rfl,by simp,by omega,m,o,Or.inl ⟨by omega,n⟩⟩
      case measure=>simp[intOf];omega
     ·have p:¬t.toList=[]:=by
       intro q;have x:(so f).toList=[]:=by rw[c];exact q
       rw[ByteArray.toList_eq]at x;exact d (by rw[<-jg f];exact x)
      have E:(!t.toList.isEmpty)=true:=by
       cases q:t.toList with
       |nil=>exact absurd q p
       |cons a b=>rfl
      have n:Hid ((acc++[t])++kM (s.data.toList.drop (k+1)) []=eY s):=by
       show _=_
       rw[<-B,v];rw[kM,if_neg (by omega),if_neg (by omega),oM,if_neg d,c,List.append_assoc]
      clear c d C;go_wp2_with (at_builtin;refine wpList_append_own _ rfl _ _ 195 rfl w.heap.size 9 M (.string ByteArray.empty) 1 16 underlying195 H J K L rfl (by decide) _ _ _ rfl (m.alloc _) ⟨wr.heap.size,0,none⟩ 1 1 [.string t] rfl rfl ?_ ?_ ?_ ?_ ?_ ?_)
      ·intro j u g
       match j,g with
       |0,g=>simp at g;subst g;simp[Addr.add]
      ·first|rfl|(intro u A;simp at A;subst A;rfl)
      ·unfold maxLen;omega
      ·omega
      ·simp;omega
      intro Q w2 z y _;have F:=lJ o m y;have G:=qD z;clear z y m o;go_wp2
      go_roundw
      case rel=>exact⟨k+1,[],acc++[t],by omega,by go_num,rfl,by simp,by simp;try omega,G,F,Or.inl ⟨by omega,n⟩⟩
      case measure=>simp[intOf];omega
    ·by_cases r:(s[k].toNat:Int)=59
     ·obtain⟨t,c⟩:=nm (so f)
      rw[c]at I⊢;have N:=Z c;have O:((s[k].toNat:Int) !=32)=true:=by rw[r];rfl
      have S:((s[k].toNat:Int) !=59)=false:=by rw[r];rfl
      have T:((s[k].toNat:Int)==59)=true:=by rw[r];rfl
      by_cases d:f=[]
      ·have p:t.toList=[]:=by rw[<-c,d,ByteArray.toList_eq];rfl
       have E:(!t.toList.isEmpty)=false:=by rw[p];rfl
       have n:Hid (acc++[]=eY s):=by
        show _=_
        rw[<-B,v];rw[kM,if_neg (by omega),if_pos r,d];rfl
       clear c d r;go_wp2
       go_ret;exact hQ.mk _ (by have h:=n.out;rw[List.append_nil]at h;exact h.symm) m o
      ·have p:¬t.toList=[]:=by
        intro q;have x:(so f).toList=[]:=by rw[c];exact q
        rw[ByteArray.toList_eq]at x;exact d (by rw[<-jg f];exact x)
       have E:(!t.toList.isEmpty)=true:=by
        cases q:t.toList with
        |nil=>exact absurd q p
        |cons a b=>rfl
       have n:Hid ((acc++[t])++[]=eY s):=by
        show _=_
        rw[<-B,v];rw[kM,if_neg (by omega),if_pos r,oM,if_neg d,c,List.append_nil]
       clear c d r;go_wp2_with (at_builtin;refine wpList_append_own _ rfl _ _ 195 rfl w.heap.size 9 M (.string ByteArray.empty) 1 16 underlying195 H J K L rfl (by decide) _ _ _ rfl (m.alloc _) ⟨wr.heap.size,0,none⟩ 1 1 [.string t] rfl rfl ?_ ?_ ?_ ?_ ?_ ?_)
       ·intro j u g
        match j,g with
        |0,g=>simp at g;subst g;simp[Addr.add]
       ·first|rfl|(intro u A;simp at A;subst A;rfl)
       ·unfold maxLen;omega
       ·omega
       ·simp;omega
       intro Q w2 z y _;have F:=lJ o m y;have G:=qD z;clear z y m o;go_wp2
       go_ret;exact hQ.mk _ (by have h:=n.out;rw[List.append_nil]at h;exact h.symm) G F
     ·have O:((s[k].toNat:Int) !=32)=true:=by simpa using C
      have S:((s[k].toNat:Int) !=59)=true:=by simpa using r
      have n:Hid (acc++kM (s.data.toList.drop (k+1)) (f++[s[k]])=eY s):=by
       show _=_
       rw[<-B,v,kM,if_pos ⟨C,r⟩]
      clear C r;go_wp2
      go_roundw
      case rel=>exact⟨k+1,f++[s[k]],acc,by omega,by go_num,congrArg Value.string R,by simp;omega,by omega,m,o,Or.inl ⟨by omega,n⟩⟩
      case measure=>simp[intOf];omega
   ·have v:Hid (s.data.toList.drop k=[]):=hP s k (by omega)
    obtain⟨t,c⟩:=nm (so f);rw[c]at I⊢;have N:=Z c;by_cases d:f=[]
    ·have p:t.toList=[]:=by rw[<-c,d,ByteArray.toList_eq];rfl
     have E:(!t.toList.isEmpty)=false:=by rw[p];rfl
     have n:Hid (acc++[]=eY s):=by
      show _=_
      rw[<-B,v];rw[kM,d];rfl
     clear c d;go_wp2
     go_roundw
     case rel=>exact⟨k+1,[],acc,by omega,by go_num,rfl,by simp,by omega,m,o,Or.inr ⟨by omega,by have h:=n.out;rw[List.append_nil]at h;exact h⟩⟩
     case measure=>simp[intOf];omega
    ·have p:¬t.toList=[]:=by
      intro q;have x:(so f).toList=[]:=by rw[c];exact q
      rw[ByteArray.toList_eq]at x;exact d (by rw[<-jg f];exact x)
     have E:(!t.toList.isEmpty)=true:=by
      cases q:t.toList with
      |nil=>exact absurd q p
      |cons a b=>rfl
     have n:Hid ((acc++[t])++[]=eY s):=by
      show _=_
      rw[<-B,v];rw[kM,oM,if_neg d,c,List.append_nil]
     clear c d;go_wp2_with (at_builtin;refine wpList_append_own _ rfl _ _ 195 rfl w.heap.size 9 M (.string ByteArray.empty) 1 16 underlying195 H J K L rfl (by decide) _ _ _ rfl (m.alloc _) ⟨wr.heap.size,0,none⟩ 1 1 [.string t] rfl rfl ?_ ?_ ?_ ?_ ?_ ?_)
     ·intro j u g
      match j,g with
      |0,g=>simp at g;subst g;simp[Addr.add]
     ·first|rfl|(intro u A;simp at A;subst A;rfl)
     ·unfold maxLen;omega
     ·omega
     ·simp;omega
     intro Q w2 z y _;have F:=lJ o m y;have G:=qD z;clear z y m o;go_wp2
     go_roundw
     case rel=>exact⟨k+1,[],acc++[t],by omega,by go_num,rfl,by simp,by simp;omega,G,F,Or.inr ⟨by omega,by have h:=n.out;rw[List.append_nil]at h;exact h⟩⟩
     case measure=>simp[intOf];omega
  ·go_wp2
   go_ret;exact hQ.mk _ D.symm m o
end Go.Proofs.YtfnilkpkogipfaaGreatDoor
