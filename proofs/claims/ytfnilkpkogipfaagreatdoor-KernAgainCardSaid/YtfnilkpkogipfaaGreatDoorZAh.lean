import Derived.Deep.RegionHeldLaw
import Derived.Laws.Concat
import Derived.Test.YtfnilkpkogipfaaGreatDoorZAb
import Derived.Test.YtfnilkpkogipfaaGreatDoorZAc
import Derived.Test.YtfnilkpkogipfaaGreatDoorZAd
import Derived.Test.YtfnilkpkogipfaaGreatDoorZAe
set_option linter.all false
set_option maxRecDepth 100000
set_option maxHeartbeats 8000000
namespace Go.Proofs.YtfnilkpkogipfaaGreatDoor
open Go.RowKit Go.Proofs.Tryz
theorem wR(args:Array Value)(w:World):(callFunc 30 args).run prog w=.ok (.enter 30 args) w:=by kernel_rfl
theorem BJ(m:Nat)(w:World):(Go.method 494 73 (.pointer (some (m,0))) "Load").run prog w=.ok (30,.pointer (some (m,0))) w:=by kernel_rfl
theorem wS(args:Array Value)(w:World):(callFunc 95 args).run prog w=.ok (.enter 95 args) w:=by kernel_rfl
theorem BK(m:Nat)(w:World):(Go.method 494 73 (.pointer (some (m,0))) "Store").run prog w=.ok (95,.pointer (some (m,0))) w:=by kernel_rfl
theorem wT(args:Array Value)(w:World):(callFunc 230 args).run prog w=.ok (.enter 230 args) w:=by kernel_rfl
theorem BL(m:Nat)(w:World):(Go.method 494 73 (.pointer (some (m,0))) "Swap").run prog w=.ok (230,.pointer (some (m,0))) w:=by kernel_rfl
theorem wU(args:Array Value)(w:World):(callFunc 140 args).run prog w=.ok (.enter 140 args) w:=by kernel_rfl
theorem BM(m:Nat)(w:World):(Go.method 494 73 (.pointer (some (m,0))) "Add").run prog w=.ok (140,.pointer (some (m,0))) w:=by kernel_rfl
theorem wV(args:Array Value)(w:World):(callFunc 189 args).run prog w=.ok (.enter 189 args) w:=by kernel_rfl
theorem BN(m:Nat)(w:World):(Go.method 494 73 (.pointer (some (m,0))) "Cas").run prog w=.ok (189,.pointer (some (m,0))) w:=by kernel_rfl
theorem BO(m:Nat)(w:World):(nilAhead 494 73 (.pointer (some (m,0))) "Cas").run prog w=.ok (some false) w:=by kernel_rfl
theorem mP.of{x:Option Int×aA}{m c b:Nat}{w:World}{e:Ending}{w':World}(h:lC x m c b w e w'):mP x.1 (fun w'=>aM w' m c b x.2/\Ch (dp m c) w w') e w':=by
 obtain⟨a,f⟩:=h;refine⟨?_,f⟩;cases d:x.1 with
 |none=>rw[d]at a;obtain⟨v,g,i⟩:=a;exact⟨_,_,g,i⟩
 |some v=>rw[d]at a;exact a
def rH(m c d:Nat):qt 73 (.pointer (some (m,0))) aA where
 At:=fun S w=>aM w m c d S
 vA:=fun S w=>aM w m c d S
 Ok:=fun _=>True
 D:=dp m c
 acc:=aA.acc
 FL:=30
 FS:=95
 FW:=230
 FA:=140
 FC:=189
 mL:=BJ m
 mS:=BK m
 mW:=BL m
 mA:=BM m
 mC:=BN m
 nC:=BO m
 eL:=wR
 eS:=wS
 eW:=wT
 eA:=wU
 eC:=wV
 keep:=fun _ _ _ h k=>h.ch k id id id
 Dd:=fun _ _ h=>h
 zf:=fun _ _ _ h k=>h.ch k id id id
 cL:=fun S a w _ b h=>(ht m c d S a b w h).mono fun _ _ h=>mP.of h
 cS:=fun S a v w _ b e h=>(ey m c d S a v b e w h).mono fun _ _ h=>⟨h.1,h.2⟩
 cW:=fun S a v w _ b e h=>(mg m c d S a v b e w h).mono fun _ _ h=>mP.of h
 cA:=fun S a v w _ b e h=>(nh m c d S a v b e w h).mono fun _ _ h=>mP.of h
 cC:=fun S a f v w _ b _ e h=>(nj m c d S a f v b e w h).mono fun _ _ h=>mP.of h
structure gC where
 code:List aR
 labels:List (ByteArray×Int)
 lines:List Int
 bs:List (Int×Int×ByteArray)
 line:Int
def o8(b:ByteArray×Int):List Value:=[.string b.1,.int .i64 b.2]
def oy(x:Int×Int×ByteArray):List Value:=[.int .i64 x.1,.int .i64 x.2.1,.string x.2.2]
def b3(X:aR):List Value:=(aG X).toList
def jr(n:Int):List Value:=[n]
structure oz(w:World)(B p bx:Nat)(vc vl vn vw:Value)(S:gC):Prop where
 row:Row w p 232 [vc,vl,vn,vw,.int .i64 S.line]
 hB:B<=p
 code:w.ownsRow B 121 7 vc S.code.length (S.code.flatMap b3)
 ne:vc.ownBlock≠some bx
 labels:w.ownsRow B 238 2 vl S.labels.length (S.labels.flatMap o8)
 lines:w.ownsRow B 3 1 vn S.lines.length (S.lines.flatMap jr)
 bs:w.ownsRow B 236 3 vw S.bs.length (S.bs.flatMap oy)
def dK(w:World)(B p a:Nat)(S:gC):Prop:=∃b c d e,oz w B p a b c d e S
def hq(w w':World):Prop:=∀(k:Nat) (c:Array Value) (t:TypeId) (f:Nat×Nat),t≠232->t≠121->t≠236->w.heap[k]?=some (.cells c t f)->w'.heap[k]?=some (.cells c t f)
theorem hq.refl(w:World):hq w w:=fun _ _ _ _ _ _ _ h=>h
theorem hq.trans{a b c:World}(h:hq a b)(g:hq b c):hq a c:=fun k x t f d e i j=>g k x t f d e i (h k x t f d e i j)
theorem hq.row{w w':World}(h:hq w w'){b:Nat}{t:TypeId}{l:List Value}(e:Row w b t l)(a:t≠232)(c:t≠121)(d:t≠236):Row w' b t l:=h b _ t _ a c d e
theorem hq.fQ{w w':World}{D:Nat->Prop}(c:Ch D w w')(b:∀k x t f,D k->w.heap[k]?=some (.cells x t f)->t=232∨t=121∨t=236):hq w w':=by
 intro k x t f e g i a;rw[c.same k (Array.getElem?_eq_some_iff.1 a).1 (fun d=>by rcases b k x t f d a with h|h|h<;>contradiction)];exact a
theorem bl{w:World}{B:Nat}{e:TypeId}{size:Nat}{v:Value}{n:Nat}{l:List Value}(h:w.ownsRow B e size v n l){k:Nat}{c:Array Value}{t:TypeId}{f:Nat×Nat}(a:w.heap[k]?=some (.cells c t f))(j:t≠e):v.ownBlock≠some k:=by
 rcases h.2 with⟨rfl,_⟩|⟨g,cap,cur,rfl,_,d,_⟩
 ·simp[Value.ownBlock]
 ·intro i
  have:g=k:=by simpa[Value.ownBlock]using i
  subst this;rw[d]at a;injection a with a
  injection a with _ b _
  exact j b.symm
theorem bS{w:World}{B:Nat}{e:TypeId}{size:Nat}{v:Value}{n:Nat}{f:List Value}(h:w.ownsRow B e size v n f){k:Nat}(a:v.ownBlock=some k):B<=k/\∃c,w.heap[k]?=some (.cells c e (0,0)):=by
 rcases h.2 with⟨rfl,_⟩|⟨g,cap,cur,rfl,b,d,_⟩
 ·cases a
 ·have:g=k:=by simpa[Value.ownBlock]using a
  subst this;exact⟨b,_,d⟩
theorem e3{w:World}{b:Nat}{t:TypeId}{l:List Value}(h:Row w b t l){c:Array Value}{d:TypeId}{f:Nat×Nat}(a:w.heap[b]?=some (.cells c d f)):d=t:=by
 unfold Row at h;rw[h]at a;injection a with a;injection a with _ e _;exact e.symm
theorem oz.ins{w w':World}{B p a:Nat}{i j k l:Value}{S:gC}(h:oz w B p a i j k l S){X:aR}(f:aq w a X)(c:Ch (aL a) w w'):oz w' B p a i j k l S where
 row:=h.row.ch c (fun e=>by have b:p=a:=e;subst b;exact absurd (e3 h.row f) (by decide))
 hB:=h.hB
 code:=aj h.code c (fun g d e=>by have b:g=a:=e;subst b;exact h.ne d)
 ne:=h.ne
 labels:=aj h.labels c (fun g d e=>by have b:g=a:=e;subst b;exact bl h.labels f (by decide) d)
 lines:=aj h.lines c (fun g d e=>by have b:g=a:=e;subst b;exact bl h.lines f (by decide) d)
 bs:=aj h.bs c (fun g d e=>by have b:g=a:=e;subst b;exact bl h.bs f (by decide) d)
theorem oz.af{w w':World}{B p b:Nat}{d f i j:Value}{S:gC}(h:oz w B p b d f i j S)(c:Ch ag w w'):oz w' B p b d f i j S where
 row:=h.row.ch c id
 hB:=h.hB
 code:=aj h.code c (fun g a e=>e)
 ne:=h.ne
 labels:=aj h.labels c (fun g a e=>e)
 lines:=aj h.lines c (fun g a e=>e)
 bs:=aj h.bs c (fun g a e=>e)
theorem dK.af{w w':World}{B p a:Nat}{S:gC}(h:dK w B p a S)(c:Ch ag w w'):dK w' B p a S:=by
 obtain⟨b,d,e,f,h⟩:=h;exact⟨b,d,e,f,h.af c⟩
theorem dK.ins{w w':World}{B p a:Nat}{S:gC}(h:dK w B p a S){X:aR}(b:aq w a X)(c:Ch (aL a) w w'):dK w' B p a S:=by
 obtain⟨d,e,f,g,h⟩:=h;exact⟨d,e,f,g,h.ins b c⟩
def ym(p:Nat)(v:Value):Nat->Prop:=fun i=>i=p∨v.ownBlock=some i
theorem kp{w w1:World}{p j:Nat}{v u:Value}(a:w.grownBy w1 v.ownBlock):Ch (ym p v) w (w1.setCell (p,j) u):=
 Ch.g5 (D:=ym p v) (p:=⟨p,j,none⟩) ⟨a.os,a.tape,a.output,a.size,fun b hb c=>a.block b hb (fun e=>c (Or.inr e.symm))⟩ (Or.inl rfl) u
theorem fZ{w w':World}{B p:Nat}{v:Value}{e:TypeId}{s n:Nat}{f:List Value}(c:Ch (ym p v) w w')(h:w.ownsRow B e s v n f)(a:B<=p)(d:B<=w.heap.size):Below B w w':=
 c.below d (fun b hb=>by rcases hb with rfl|hb;exact a;exact(bS h hb).1)
theorem dR{w1:World}{B p j:Nat}{e:TypeId}{s n:Nat}{a:List Value}{v u:Value}{t:TypeId}{l:List Value}(h:w1.ownsRow B e s v n a)(f:Row w1 p t l)(i:t≠e):(w1.setCell (p,j) u).ownsRow B e s v n a:=
 aj (D:=aL p) h ((Ch.refl _ _).only _ _) (fun g d b=>by have c:g=p:=b;subst c;exact bl h f i d)
theorem oz.want{w w1:World}{B p q:Nat}{C D E l i:Value}{S:gC}(h:oz w B p q C D E l S){X:aR}(G:aq w q X)(M:B<=w.heap.size)(y:Int×Int×ByteArray)
 (L:w1.ownsRow B 236 3 i (S.bs.length+1) (S.bs.flatMap oy++oy y)) (a:w.grownBy w1 l.ownBlock):
 dK (w1.setCell (p,3) i) B p q {S with bs:=S.bs++[y]}/\aq (w1.setCell (p,3) i) q X/\Below B w (w1.setCell (p,3) i)/\hq w (w1.setCell (p,3) i):=by
 have c:=kp (p:=p) (j:=3) (u:=i) a;have O:Ch (ym p l) w w1:=⟨a.os,a.tape,a.output,a.size,fun b hb J=>a.block b hb (fun e=>J (Or.inr e.symm))⟩;have H:∀{k:Nat} {cs:Array Value} {t:TypeId} {f:Nat×Nat},w.heap[k]?=some (.cells cs t f)->t≠232->t≠236->¬ym p l k:=fun d r m z=>by
  rcases z with rfl|z
  ·exact r (e3 h.row d)
  ·exact bl h.bs d m z
 have A:∀{e:TypeId} {s:Nat} {v:Value} {n:Nat} {N:List Value},w.ownsRow B e s v n N->e≠232->e≠236->∀g,v.ownBlock=some g->¬ym p l g:=fun K r m g a=>by
  obtain⟨_,cs,d⟩:=bS K a;exact H d r m
 have F:Row w1 p 232 [C,D,E,l,.int .i64 S.line]:=by
  unfold Row;rw[a.block p h.row.lt (fun e=>bl h.bs h.row (by decide) e.symm)];exact h.row
 refine⟨⟨C,D,E,i,⟨F.bc _ _ rfl,h.hB,aj h.code c (A h.code (by decide) (by decide)),h.ne,aj h.labels c (A h.labels (by decide) (by decide)),aj h.lines c (A h.lines (by decide) (by decide)),?_⟩⟩,G.ch c (H G (by decide) (by decide)),fZ c h.bs h.hB M,?_⟩
 ·have:=dR (j:=3) (u:=i) L F (by decide)
  rw[List.flatMap_append,List.length_append];simpa using this
 ·refine hq.fQ c (fun k x t f d o=> ?_)
  rcases d with rfl|d
  ·exact Or.inl (e3 h.row o)
  ·obtain⟨_,cs,m⟩:=bS h.bs d
   rw[m]at o;injection o with o;injection o with _ I _
   exact Or.inr (Or.inr I.symm)
theorem Ay:(prog.info? 236).map (fun i=>(i.zero,i.size,i.bytes))=some (some (.agg #[.int .i64 0,.int .i64 0,.string ByteArray.empty]),3,32):=by kernel_rfl
def kq(kind n:Int)(X:aR):aR:=if kind=0 then {X with a:=n}else if kind=1∨kind=3 then {X with b:=n}else if kind=2∨kind=4 then {X with c:=n}else X
def o9(kind v:Int)(X:aR):aR:=if kind=3 then {X with v:=v,b:=-1}else if kind=4 then {X with v:=v,c:=-1}else {X with v:=v}
def s'(kind:Int)(s:ByteArray)(S:gC)(X:aR):Option (gC×aR):=
 if kind=5 then(uN s X).map fun a=>(S,a)
 else if(kind=6∨kind=8)/\fY s=true then some ({S with bs:=S.bs++[(S.line,(S.code.length:Int),s)]},kq kind (dU s).1 X)
 else if kind=6 then none
 else if kind=0∨kind=1∨kind=2 then(if(dU s).2 then some (S,kq kind (dU s).1 X)else none)
 else if(dU s).2=true/\(kind=3∨kind=4)then some (S,kq kind (dU s).1 X)
 else(yi s).map fun v=>(S,o9 kind v (kq kind (dU s).1 X))
def dy(S:gC)(X:aR)(B p a:Nat)(w:World)(e:Ending)(w':World):Prop:=e=.returned (.pointer none)/\dK w' B p a S/\aq w' a X/\Below B w w'/\hq w w'
theorem dy.of{S:gC}{X g:aR}{B p a:Nat}{w w':World}(l:dK w B p a S)(d:aq w a g)(h:B<=a)(m:aq w' a X)(c:Ch (aL a) w w'):dy S X B p a w (.returned (.pointer none)) w':=
 ⟨rfl,l.ins d c,m,c.below (Nat.le_of_lt (Nat.lt_of_le_of_lt h d.lt)) (fun b hb=>by have e:b=a:=hb;omega),hq.fQ c (fun k x t f j i=>by have e:k=a:=j;subst e;exact Or.inr (Or.inl (e3 d i)))⟩
theorem kr(s:ByteArray)(a:s.size<=maxLen)(b:Bool)(h:fY s=b)(w:World):Calls prog 130 #[.string s] w (QB b w):=by rw[<-h];exact yh s a w
theorem uO(kind:Int)(k:kind=6∨kind=8)(s:ByteArray)(c0:s.size<=65536)(z:fY s=true)(B p d:Nat)(S:gC)(X:aR)(w:World)
 (o:aq w d X) (Q:dK w B p d S) (bi:B<=d) (hlen:S.bs.length<=1048576):
 Calls prog 134 #[(p,0),kind,.string s,(d,0)] w
  (dy {S with bs:=S.bs++[(S.line,(S.code.length:Int),s)]} X B p d w):=by
 obtain⟨W,y,T,U,V⟩:=info_parts Ay;have l:s.size<=maxLen:=by unfold maxLen;omega
 rcases A:dU s with⟨n,b⟩
 have I:=Z (jQ s l n b A);have H:=Z (kr s l true z);obtain⟨am,ap,av,h,a⟩:=Q;have K:=Z a;have L:=Z o;have bx:=a.row.lt;have j:h.ownBlock≠some p:=bl a.bs a.row (by decide);obtain⟨u,v,x⟩:=ao a.code;have F:=Z x;have G:=Z y;have O:B<=w.heap.size:=by have:=o.lt;omega
 clear A z l a o y x;have r:Hid (∀(w1:World),Ch ag w w1->oz w1 B p d am ap av h S/\aq w1 d X):=Z (fun w1 c=>⟨K.af c,L.ch c id⟩);rcases k with rfl|rfl
 all_goals
  go_in
  go_wp2_with (first|(go_at_call 154;(with_reducible refine(I.out _).mono ?_);rintro e w' ⟨rfl,Y,rfl⟩)|(go_at_call 130;(with_reducible refine(H.out _).mono ?_);rintro e w' ⟨rfl,a0,rfl⟩))
  obtain⟨w1,m⟩:=nm (w.drewN (Y+a0));have f:=Z (Ch.dN (D:=ag) m);rw[m];clear m;have a:=(r _ f).1;have J:=Z a;have M:=Z (r _ f).2;have C:=f.size;have a1:w1.cell? (p,0)=some (.slice u S.code.length v):=by rw[<-F];exact a.row.cell rfl
  have a2:w1.cell? (p,3)=some h:=a.row.cell rfl;have a3:w1.cell? (p,4)=some (.int .i64 S.line):=a.row.cell rfl;have N:=a.row.free 3;have i:p<w1.heap.size:=by omega
  have R:=a.bs;have q:=Z C;clear a C;go_region_law (first|(refine step_append_lies _ (by rfl) _ _ _ (by rfl) B 236 W _ 3 32 underlying230 G T U V rfl (by omega) h S.bs.length (S.bs.flatMap oy) (by rfl) ((R.alloc _).drew) ⟨w1.heap.size,0,none⟩ 1 1 [.int .i64 S.line,.int .i64 S.code.length,.string s] (by rfl) (by rfl) (World.news_of_block (cs:=#[.int .i64 S.line,.int .i64 S.code.length,.string s]) (t:=236) (fr:=(0,0)) (heap_alloc_new w1 _)) (by simp[Value.oneCell']) (by omega) (by unfold maxLen;omega) (by omega) (by simp;have:=q.out;omega) (w1.heap.size+1) (by simp) ?_;intro ax cap w2 P g bv bw;have E:w2.cell? (p,3)=some h:=(g.cell_far ⟨p,3,none⟩ (by simp;omega) (Ne.symm j)).trans (by simp[go_sem,World.cell?_alloc_past,i,a2]);have c2:w2.frozen? (p,3)=false:=(g.frozen_far ⟨p,3,none⟩ (by simp;omega) (Ne.symm j)).trans (by simp[go_sem,World.frozen?_alloc_past,i,N]);have c1:w2.cell? (p,0)=some (.slice u S.code.length v):=(g.cell_far ⟨p,0,none⟩ (by simp;omega) (Ne.symm j)).trans (by simp[go_sem,World.cell?_alloc_past,i,a1]);have c3:w2.cell? (p,4)=some (.int .i64 S.line):=(g.cell_far ⟨p,4,none⟩ (by simp;omega) (Ne.symm j)).trans (by simp[go_sem,World.cell?_alloc_past,i,a3])))
  all_goals
   go_wp2
   go_ret;obtain⟨ab,ad,al,E⟩:=J.want M (by have:=q.out;omega) (S.line,(S.code.length:Int),s) P (au (cT g));exact⟨rfl,ab,ad,(f.below O (fun _ hb=>False.elim hb)).trans al,(hq.fQ f (fun _ _ _ _ k _=>False.elim k)).trans E⟩
theorem yn(kind:Int)(N:0<=kind/\kind<=8)(s:ByteArray)(H:s.size<=65536)(B p f:Nat)(S C:gC)(X u:aR)(w:World)(h:s' kind s S X=some (C,u))
 (d:aq w f X) (z:dK w B p f S) (g:B<=f) (hlen:S.bs.length<=1048576) (t:p≠f):
 Calls prog 134 #[(p,0),kind,.string s,(f,0)] w (dy C u B p f w):=by
 have m:s.size<=maxLen:=by unfold maxLen;omega
 by_cases r:(kind=6∨kind=8)/\fY s=true
 ·unfold s' at h
  rw[if_neg (by omega),if_pos r]at h;have e:kq kind (dU s).1 X=X:=by unfold kq;rw[if_neg (by omega),if_neg (by omega),if_neg (by omega)]
  rw[e]at h;obtain⟨rfl,rfl⟩:=Prod.mk.inj (Option.some.inj h);exact uO kind r.1 s H r.2 B p f S X w d z g hlen
 ·have l:=Z z
  have a:=Z d;have f1:=d.free 1;have f2:=d.free 2;have f3:=d.free 3;have f4:=d.free 4;have Q:w.cell? (f,1)=some (.int .i64 X.a):=d.cell rfl;have R:w.cell? (f,2)=some (.int .i64 X.b):=d.cell rfl;have T:w.cell? (f,3)=some (.int .i64 X.c):=d.cell rfl;have U:w.cell? (f,4)=some (.int .u64 X.v):=d.cell rfl;obtain⟨V,W,Y,a0,D⟩:=z;have i:w.cell? (p,4)=some (.int .i64 S.line):=D.row.cell rfl;rcases y:dU s with⟨n,b⟩
  have k:=Z (jQ s m n b y);have G:kind=6∨kind=8->fY s=false:=fun x=>by
   cases M:fY s with
   |false=>rfl
   |true=>exact absurd ⟨x,M⟩ r
  have A:=Z (fun x w=>kr s m false (G x) w);have O:kind=0∨kind=1∨kind=2∨kind=3∨kind=4∨kind=5∨kind=6∨kind=7∨kind=8:=by omega
  unfold s' at h;rw[y]at h;clear D d y N G;rcases O with rfl|rfl|rfl|rfl|rfl|rfl|rfl|rfl|rfl
  all_goals(first|rw[if_neg (by decide),if_neg r]at h|skip)
  all_goals clear r
  ·cases b<;>simp[kq,o9]at h
   obtain⟨rfl,rfl⟩:=h;go_in
   go_wp2_with (go_at_call 154;(with_reducible refine(k.out _).mono ?_);rintro e w' ⟨rfl,o,rfl⟩)
   go_ret;refine dy.of l.out a.out g ?_ (by repeat(first|exact Ch.refl _ _|with_reducible refine Ch.drewN ?_ _|with_reducible refine Ch.drew ?_|with_reducible refine Ch.only ?_ _ _))
   (repeat(first|with_reducible refine aq.drewN ?_ _|with_reducible refine aq.drew ?_))
   refine aq.FQ (X:=X) ?_ n
   (repeat(first|with_reducible refine aq.drewN ?_ _|with_reducible refine aq.drew ?_))
   exact a
  ·cases b<;>simp[kq,o9]at h
   obtain⟨rfl,rfl⟩:=h;go_in
   go_wp2_with (go_at_call 154;(with_reducible refine(k.out _).mono ?_);rintro e w' ⟨rfl,o,rfl⟩)
   go_ret;refine dy.of l.out a.out g ?_ (by repeat(first|exact Ch.refl _ _|with_reducible refine Ch.drewN ?_ _|with_reducible refine Ch.drew ?_|with_reducible refine Ch.only ?_ _ _))
   (repeat(first|with_reducible refine aq.drewN ?_ _|with_reducible refine aq.drew ?_))
   refine aq.ox (X:=X) ?_ n
   (repeat(first|with_reducible refine aq.drewN ?_ _|with_reducible refine aq.drew ?_))
   exact a
  ·cases b<;>simp[kq,o9]at h
   obtain⟨rfl,rfl⟩:=h;go_in
   go_wp2_with (go_at_call 154;(with_reducible refine(k.out _).mono ?_);rintro e w' ⟨rfl,o,rfl⟩)
   go_ret;refine dy.of l.out a.out g ?_ (by repeat(first|exact Ch.refl _ _|with_reducible refine Ch.drewN ?_ _|with_reducible refine Ch.drew ?_|with_reducible refine Ch.only ?_ _ _))
   (repeat(first|with_reducible refine aq.drewN ?_ _|with_reducible refine aq.drew ?_))
   refine aq.v5 (X:=X) ?_ n
   (repeat(first|with_reducible refine aq.drewN ?_ _|with_reducible refine aq.drew ?_))
   exact a
  ·cases b
   ·simp[kq,o9]at h
    obtain⟨v,j,rfl,rfl⟩:=h;have q:=Z (cV s m v j p S.line);clear j;go_in
    go_wp2_with (first|(go_at_call 154;(with_reducible refine(k.out _).mono ?_);rintro e w' ⟨rfl,o,rfl⟩)|(go_at_call 158;(with_reducible refine(q.out _ ?_).mono ?_);(first|exact i|simp[go_sem,t,i]);rintro e w' ⟨rfl,m,rfl⟩))
    go_ret;refine dy.of l.out a.out g ?_ (by repeat(first|exact Ch.refl _ _|with_reducible refine Ch.drewN ?_ _|with_reducible refine Ch.drew ?_|with_reducible refine Ch.only ?_ _ _))
    (repeat(first|with_reducible refine aq.drewN ?_ _|with_reducible refine aq.drew ?_))
    refine aq.ox (X:={X with b:=n,v:=v}) ?_ (-1)
    (repeat(first|with_reducible refine aq.drewN ?_ _|with_reducible refine aq.drew ?_))
    refine aq.mH (X:={X with b:=n}) ?_ v
    (repeat(first|with_reducible refine aq.drewN ?_ _|with_reducible refine aq.drew ?_))
    refine aq.ox (X:=X) ?_ n
    (repeat(first|with_reducible refine aq.drewN ?_ _|with_reducible refine aq.drew ?_))
    exact a
   ·simp[kq,o9]at h
    obtain⟨rfl,rfl⟩:=h;go_in
    go_wp2_with (go_at_call 154;(with_reducible refine(k.out _).mono ?_);rintro e w' ⟨rfl,o,rfl⟩)
    go_ret;refine dy.of l.out a.out g ?_ (by repeat(first|exact Ch.refl _ _|with_reducible refine Ch.drewN ?_ _|with_reducible refine Ch.drew ?_|with_reducible refine Ch.only ?_ _ _))
    (repeat(first|with_reducible refine aq.drewN ?_ _|with_reducible refine aq.drew ?_))
    refine aq.ox (X:=X) ?_ n
    (repeat(first|with_reducible refine aq.drewN ?_ _|with_reducible refine aq.drew ?_))
    exact a
  ·cases b
   ·simp[kq,o9]at h
    obtain⟨v,j,rfl,rfl⟩:=h;have q:=Z (cV s m v j p S.line);clear j;go_in
    go_wp2_with (first|(go_at_call 154;(with_reducible refine(k.out _).mono ?_);rintro e w' ⟨rfl,o,rfl⟩)|(go_at_call 158;(with_reducible refine(q.out _ ?_).mono ?_);(first|exact i|simp[go_sem,t,i]);rintro e w' ⟨rfl,m,rfl⟩))
    go_ret;refine dy.of l.out a.out g ?_ (by repeat(first|exact Ch.refl _ _|with_reducible refine Ch.drewN ?_ _|with_reducible refine Ch.drew ?_|with_reducible refine Ch.only ?_ _ _))
    (repeat(first|with_reducible refine aq.drewN ?_ _|with_reducible refine aq.drew ?_))
    refine aq.v5 (X:={X with c:=n,v:=v}) ?_ (-1)
    (repeat(first|with_reducible refine aq.drewN ?_ _|with_reducible refine aq.drew ?_))
    refine aq.mH (X:={X with c:=n}) ?_ v
    (repeat(first|with_reducible refine aq.drewN ?_ _|with_reducible refine aq.drew ?_))
    refine aq.v5 (X:=X) ?_ n
    (repeat(first|with_reducible refine aq.drewN ?_ _|with_reducible refine aq.drew ?_))
    exact a
   ·simp[kq,o9]at h
    obtain⟨rfl,rfl⟩:=h;go_in
    go_wp2_with (go_at_call 154;(with_reducible refine(k.out _).mono ?_);rintro e w' ⟨rfl,o,rfl⟩)
    go_ret;refine dy.of l.out a.out g ?_ (by repeat(first|exact Ch.refl _ _|with_reducible refine Ch.drewN ?_ _|with_reducible refine Ch.drew ?_|with_reducible refine Ch.only ?_ _ _))
    (repeat(first|with_reducible refine aq.drewN ?_ _|with_reducible refine aq.drew ?_))
    refine aq.v5 (X:=X) ?_ n
    (repeat(first|with_reducible refine aq.drewN ?_ _|with_reducible refine aq.drew ?_))
    exact a
  ·simp at h
   obtain⟨E,rfl⟩:=h;have J:=Z (fun w i d=>yj s H X u E p f S.line w i d);clear E;go_in
   go_wp2_with (first|(go_at_call 154;(with_reducible refine(k.out _).mono ?_);rintro e w' ⟨rfl,o,rfl⟩)|(go_at_call 157;(with_reducible refine(J.out _ ?_ ?_).mono ?_);exact i;exact a.out.drewN _;rintro e w' ⟨rfl,I,F⟩;have L:=Z I;have K:=Z F;clear I F))
   go_ret;exact dy.of l a g L (Ch.trans ((Ch.refl _ _).drewN o) K)
  ·simp at h
  ·simp[kq,o9]at h
   obtain⟨v,j,rfl,rfl⟩:=h;have q:=Z (cV s m v j p S.line);clear j;cases b
   all_goals
    go_in
    go_wp2_with (first|(go_at_call 154;(with_reducible refine(k.out _).mono ?_);rintro e w' ⟨rfl,o,rfl⟩)|(go_at_call 130;(with_reducible refine(A.out (by decide) _).mono ?_);rintro e w' ⟨rfl,P,rfl⟩)|(go_at_call 158;(with_reducible refine(q.out _ ?_).mono ?_);(first|exact i|simp[go_sem,t,i]);rintro e w' ⟨rfl,m,rfl⟩))
    go_ret;refine dy.of l.out a.out g ?_ (by repeat(first|exact Ch.refl _ _|with_reducible refine Ch.drewN ?_ _|with_reducible refine Ch.drew ?_|with_reducible refine Ch.only ?_ _ _))
    (repeat(first|with_reducible refine aq.drewN ?_ _|with_reducible refine aq.drew ?_))
    refine aq.mH (X:=X) ?_ v
    (repeat(first|with_reducible refine aq.drewN ?_ _|with_reducible refine aq.drew ?_))
    exact a
  ·simp[kq,o9]at h
   obtain⟨v,j,rfl,rfl⟩:=h;have q:=Z (cV s m v j p S.line);clear j;cases b
   all_goals
    go_in
    go_wp2_with (first|(go_at_call 154;(with_reducible refine(k.out _).mono ?_);rintro e w' ⟨rfl,o,rfl⟩)|(go_at_call 130;(with_reducible refine(A.out (by decide) _).mono ?_);rintro e w' ⟨rfl,P,rfl⟩)|(go_at_call 158;(with_reducible refine(q.out _ ?_).mono ?_);(first|exact i|simp[go_sem,t,i]);rintro e w' ⟨rfl,m,rfl⟩))
    go_ret;refine dy.of l.out a.out g ?_ (by repeat(first|exact Ch.refl _ _|with_reducible refine Ch.drewN ?_ _|with_reducible refine Ch.drew ?_|with_reducible refine Ch.only ?_ _ _))
    (repeat(first|with_reducible refine aq.drewN ?_ _|with_reducible refine aq.drew ?_))
    refine aq.mH (X:=X) ?_ v
    (repeat(first|with_reducible refine aq.drewN ?_ _|with_reducible refine aq.drew ?_))
    exact a
def cR:List (ByteArray×Int)->ByteArray->Option Int
 |[],_=>none
 |b::l,n=>if(b.1.data.toList==n.data.toList)=true then some b.2 else cR l n
def q7:Option Int->Int×Bool
 |none=>(0,false)
 |some v=>(v,true)
theorem ig(b:ByteArray×Int):(o8 b).length=2:=rfl
theorem yo(l:List (ByteArray×Int))(n:ByteArray)(v:Value)(B:Nat)(w:World)(h:w.ownsRow B 238 2 v l.length (l.flatMap o8))(G:l.length<=1000000):
 Calls prog 82 #[v,.string n] w (yS .i64 (q7 (cR l n)) w):=by
 have C:=Z h;obtain⟨a,c,rfl⟩:=ao h;have z:Hid (∀(k:Nat) (b:k<l.length),∃g,a=some ⟨g,0,none⟩/\l.length<=c/\w.cell? ⟨g,k*2,none⟩=some (.string l[k].1)/\w.cell? ⟨g,k*2+1,none⟩=some (.int .i64 l[k].2)):=Z (fun k b=>by
  obtain⟨g,cap,K,F,I,q,J,s,_⟩:=aF C (by omega);obtain⟨rfl,rfl⟩:a=some ⟨g,0,none⟩/\c=cap:=by injection F with D _ E;exact⟨D,E⟩
  have u:l[k]?=some l[k]:=List.getElem?_eq_getElem b;refine⟨g,rfl,q,?_,?_⟩
  ·refine s.cell ?_
   rw[List.getElem?_append_left (by rw[a4 ig];omega)];exact(bD ig u (j:=0) (by omega)).trans rfl
  ·refine s.cell ?_
   rw[List.getElem?_append_left (by rw[a4 ig];omega)];exact(bD ig u (j:=1) (by omega)).trans rfl)
 clear h;obtain⟨N,p⟩:=mn l.length;have o:=Z p;rw[<-p]at G⊢;have A:Hid (∀k,k<N->∃(b:k<l.length),True):=Z (fun k b=>⟨by rw[<-o];exact b,trivial⟩);clear p;go_wp2
 go_loopw [6] (fun i wr=>∃(k m:Nat),k<=N/\i=.int .i64 k/\wr=w.drewN m/\Hid (cR (l.drop k) n=cR l n)) (fun i _=>N-(intOf i).toNat)
 case atStart=>exact⟨0,0,by omega,rfl,rfl,rfl⟩
 case round=>
  obtain⟨k,m,b,rfl,rfl,f⟩:=hrel;by_cases H:k<N
  ·obtain⟨r,_⟩:=A k H
   obtain⟨g,rfl,q,x0,x1⟩:=z k r;have e:Hid (l.drop k=l[k]::l.drop (k+1)):=Z (List.drop_eq_getElem_cons r);obtain⟨y,x⟩:=nm (l[k]);rw[x]at x0 x1 e;clear x;have y0:(w.drewN m).cell? ⟨g,k*2,none⟩=some (.string y.1):=x0;have L:(w.drewN m).cell? ⟨g,k*2+1,none⟩=some (.int .i64 y.2):=x1;rw[<-o]at q;clear x0 x1;cases t:(y.1.toList==n.toList)with
   |true=>
    have d:Hid (cR l n=some y.2):=Z (by
     rw[<-f,e,cR,if_pos (by rw[<-ByteArray.toList_eq,<-ByteArray.toList_eq];exact t)])
    go_wp2
    go_ret2;exact⟨by rw[d];rfl,m,rfl⟩
   |false=>
    have d:Hid (cR (l.drop (k+1)) n=cR l n):=Z (by
     rw[<-f,e,cR,if_neg (by rw[<-ByteArray.toList_eq,<-ByteArray.toList_eq,t];decide)])
    go_wp2
    go_roundw
    case rel=>exact⟨k+1,m,by omega,by go_num,rfl,d⟩
    case measure=>simp[intOf];omega
  ·have d:Hid (cR l n=none):=Z (by
    rw[<-f,List.drop_of_length_le (by have:=o.out;omega)];rfl)
   go_wp2
   go_ret2;exact⟨by rw[d];rfl,m,rfl⟩
end Go.Proofs.YtfnilkpkogipfaaGreatDoor
