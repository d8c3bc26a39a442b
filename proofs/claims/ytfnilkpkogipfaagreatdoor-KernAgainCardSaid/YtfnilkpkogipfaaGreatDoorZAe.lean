import Derived.Laws.MakeOwn
import Derived.Deep.RegionLawGrows
import Derived.Laws.CopyRow
import Derived.Deep.LoopGhost
import Derived.Deep.DrawnRows
import Derived.Test.YtfnilkpkogipfaaGreatDoorZAa
set_option linter.all false
set_option maxRecDepth 100000
set_option maxHeartbeats 8000000
namespace Go.Proofs.YtfnilkpkogipfaaGreatDoor
open Go.RowKit Go.Proofs.Tryz
structure aA where
 cells:List Int
 width:List Int
structure aM(w:World)(m c d:Nat)(S:aA):Prop where
 hd:∃t n:Int,Row w m 163 [.slice (some (c,0)) S.cells.length S.cells.length,.slice (some (d,0)) S.cells.length S.cells.length,t,n]
 cells:Row w c 56 (S.cells.map (Value.int .u64))
 width:Row w d 5 (S.width.map (Value.int .u8))
 len:S.width.length=S.cells.length
 qd:S.cells.length<=65536
 ok:∀(i:Nat) (x:Int),S.width[i]?=some x->0<=x/\x<=255
 u64:∀(i:Nat) (x:Int),S.cells[i]?=some x->aI x
theorem aM.head{w:World}{m c a:Nat}{S:aA}(h:aM w m c a S):Row w m 163 [.slice (some (c,0)) S.cells.length S.cells.length,.slice (some (a,0)) S.cells.length S.cells.length,.int .i64 h.hd.choose,.int .i64 h.hd.choose_spec.choose]:=h.hd.choose_spec.choose_spec
theorem aM.mc{w:World}{m c a:Nat}{S:aA}(h:aM w m c a S):m≠c:=h.head.ne h.cells (by decide)
theorem aM.md{w:World}{m c a:Nat}{S:aA}(h:aM w m c a S):m≠a:=h.head.ne h.width (by decide)
theorem aM.cd{w:World}{m c a:Nat}{S:aA}(h:aM w m c a S):c≠a:=h.cells.ne h.width (by decide)
theorem aM.alloc{w:World}{m c b:Nat}{S:aA}(h:aM w m c b S)(a:Obj):aM (w.alloc a) m c b S:=⟨⟨_,_,h.head.alloc a⟩,h.cells.alloc a,h.width.alloc a,h.len,h.qd,h.ok,h.u64⟩
theorem aM.drew{w:World}{m c a:Nat}{S:aA}(h:aM w m c a S):aM w.drew m c a S:=⟨h.hd,h.cells,h.width,h.len,h.qd,h.ok,h.u64⟩
theorem aM.drewN{w:World}{m c a:Nat}{S:aA}(h:aM w m c a S)(n:Nat):aM (w.drewN n) m c a S:=⟨h.hd,h.cells,h.width,h.len,h.qd,h.ok,h.u64⟩
theorem aM.ch{w w':World}{D:Nat->Prop}{m c a:Nat}{S:aA}(h:aM w m c a S)(k:Ch D w w')(e:¬D m)(b:¬D c)(d:¬D a):aM w' m c a S:=⟨⟨_,_,h.head.ch k e⟩,h.cells.ch k b,h.width.ch k d,h.len,h.qd,h.ok,h.u64⟩
theorem aM.count{w:World}{m c a:Nat}{S:aA}(h:aM w m c a S)(n:Int):aM (w.setCell (m,3) (.int .i64 n)) m c a S:=
 ⟨⟨_,_,h.head.bc _ _ rfl⟩,h.cells.other (fun e=>h.mc e.symm) _,h.width.other (fun e=>h.md e.symm) _,h.len,h.qd,h.ok,h.u64⟩
theorem aM.lay{w:World}{m c b:Nat}{S:aA}(h:aM w m c b S)(i:Nat)(v:Int)(f:aI v):aM (w.setCell (c,i) (.int .u64 v)) m c b {S with cells:=S.cells.set i v}:=
 ⟨⟨_,_,by simpa using h.head.other h.mc _⟩,h.cells.bc _ _ (by rw[List.map_set]),h.width.other (fun e=>h.cd e.symm) _,by simpa using h.len,by simpa using h.qd,h.ok,fun j x a=>by
  by_cases e:i=j
  ·subst e
   rw[List.getElem?_set_self']at a;cases d:S.cells[i]? with
   |none=>rw[d]at a;simp at a
   |some y=>rw[d]at a;have:v=x:=by simpa using a
            subst this;exact f
  ·rw[List.getElem?_set_ne e]at a;exact h.u64 j x a⟩
def aA.wid(S:aA)(at_:Int):Int:=S.width.getD at_.toNat 0
theorem dV(n:Int)(t:TypeId)(x:Value)(w:World):Calls prog 65 #[n,.iface t x] w (fun e w'=>e=.returned (.iface 197 (.pointer (some (w.heap.size,0))))/\w.alloc (.cells #[.string ⟨#[109,101,109]⟩,n,.iface t x] 199)=w'):=by
 go_wp2
 go_ret;exact⟨rfl,rfl⟩
theorem pf(m c f:Nat)(S:aA)(a:Int)(g:aI a)(w:World)(h:aM w m c f S):
 Calls prog 121 #[(m,0),.int .u64 a] w (eg (.int .i64 (S.wid a)) w):=by
 obtain⟨i,j⟩:=h.head.c2;have l:=h.qd;obtain⟨k,rfl⟩:=Int.eq_ofNat_of_zero_le g.lo;clear g;obtain⟨N,b⟩:=mn S.cells.length;rw[<-b]at i j l;by_cases n:k<N
 ·obtain⟨x,d⟩:∃x,S.width[k]?=some x:=⟨_,List.getElem?_eq_getElem (by rw[h.len,<-b];exact n)⟩
  have e:=h.ok k x d;have E:Hid (S.wid k=x):=Z (by unfold aA.wid;rw[Int.toNat_natCast,List.getD_eq_getElem?_getD,d];rfl);have q:w.cell? (f,k)=some (.int .u8 x):=h.width.cell (by rw[List.getElem?_map,d];rfl);have o:(k:Int)<N:=by omega
  have p:=e.1;have r:=e.2;clear h b d e;go_wp2
  go_ret;exact eg.mk (by rw[E];rfl)
 ·have E:Hid (S.wid k=0):=Z (by unfold aA.wid;rw[Int.toNat_natCast,List.getD_eq_getElem?_getD,List.getElem?_eq_none (by rw[h.len];omega)];rfl)
  have o:¬(k:Int)<N:=by omega
  clear h b;go_wp2
  go_ret;exact eg.mk (by rw[E];rfl)
def aA.acc(S:aA)(kind a b v:Int):Option Int×aA:=
 if S.wid a=0 then(none,S)else
 let held:=S.cells.getD a.toNat 0
 if kind=3 then(some held,{S with cells:=S.cells.set a.toNat (rr (S.wid a) held v)})
 else if kind=4 then
  if held=gi (S.wid a) b then(some held,{S with cells:=S.cells.set a.toNat (gi (S.wid a) v)})else(some held,S)
 else if kind=1∨kind=2 then(some held,{S with cells:=S.cells.set a.toNat (gi (S.wid a) v)})
 else(some held,S)
def dD(a b c:Nat):Nat->Prop:=fun i=>i=a∨i=b∨i=c
def lC(x:Option Int×aA)(m c a:Nat)(w:World)(e:Ending)(w':World):Prop:=
 (match x.1 with
  |some v=>e=.returned (.tuple #[.int .u64 v,.nilIface])
  |none=>∃v,e=.returned (.tuple #[.int .u64 0,v])/\ar v)/\aM w' m c a x.2/\Ch (dp m c) w w'
theorem aM.held{w:World}{m c b:Nat}{S:aA}(h:aM w m c b S){k:Nat}(d:k<S.cells.length):w.cell? (c,k)=some (.int .u64 (S.cells.getD k 0))/\aI (S.cells.getD k 0):=by
 have a:S.cells[k]?=some (S.cells.getD k 0):=by rw[List.getD_eq_getElem?_getD,List.getElem?_eq_getElem d];rfl
 exact⟨h.cells.cell (by rw[List.getElem?_map,a];rfl),h.u64 _ _ a⟩
theorem g6(m c p:Nat)(S:aA)(kind a j v:Int)(Q:kind=0∨kind=1∨kind=2∨kind=3∨kind=4)(G:aI a)(T:aI v)(w:World)(h:aM w m c p S):
 Calls prog 74 #[(m,0),kind,.int .u64 a,.int .u64 j,.int .u64 v] w (lC (S.acc kind a j v) m c p w):=by
 have H:=Z h;obtain⟨y,z⟩:=h.head.c2;obtain⟨t,C⟩:∃t:Int,w.cell? (m,3)=some (.int .i64 t):=⟨_,h.head.cell (i:=3) rfl⟩;have f3:=h.head.free 3;have V:=h.qd;have I:=h.mc;have ad:=h.head.lt;have a2:=h.cells.lt;obtain⟨k,rfl⟩:=Int.eq_ofNat_of_zero_le G.lo;have l:=Z (fun w h=>pf m c p S k G w h);have a0:=Z G;have K:=Z T;clear G T;obtain⟨N,F⟩:=mn S.cells.length;obtain⟨g,r⟩:=nm (S.wid k);rw[r]at l;rw[<-F]at y z V;by_cases A:g=0
 ·subst A
  have E:Hid (S.acc kind k j v=(none,S)):=Z (by unfold aA.acc;rw[if_pos r]);clear h r F Q;have X:(k:Int)<=4611686018427387904∨¬(k:Int)<=4611686018427387904:=by omega
  rcases X with Y|Y
  all_goals
   go_in
   go_wp2_with (first|(go_at_call 121;refine(l _ H).mono ?_;rintro e w' ⟨rfl,rfl⟩)|(go_at_call 65;refine(dV _ _ _ _).mono ?_;rintro e w' ⟨rfl,rfl⟩))
   go_ret2;rw[E];exact⟨⟨_,rfl,ar.mk _ _⟩,H.alloc _,(Ch.refl _ _).alloc _⟩
 ·have ab:k<N:=by
   rcases Nat.lt_or_ge k N with O|O
   ·exact O
   ·exact absurd (by rw[<-r];unfold aA.wid;rw[Int.toNat_natCast,List.getD_eq_getElem?_getD,List.getElem?_eq_none (by rw[h.len];omega)];rfl) A
  obtain⟨q,R⟩:=h.held (k:=k) (by omega);have D:=h.cells.free k;have al:(g==0)=false:=by rw[beq_eq_false_iff_ne];exact A
  have a3:(k:Int)<N:=by omega
  have E:Hid (S.acc kind k j v=let held:=S.cells.getD k 0
   if kind=3 then(some held,{S with cells:=S.cells.set k (rr g held v)})
   else if kind=4 then
    if held=gi g j then(some held,{S with cells:=S.cells.set k (gi g v)})else(some held,S)
   else if kind=1∨kind=2 then(some held,{S with cells:=S.cells.set k (gi g v)})
   else(some held,S)):=Z (by unfold aA.acc;rw[if_neg (by rw[r];exact A),r,Int.toNat_natCast])
  obtain⟨held,P⟩:=nm (S.cells.getD k 0);rw[P]at q E;have a1:=Z R;have s:=Z (fun n=>h.count n);have B:=Z F;clear h r F A P R;have x:=Z (fun v w=>ku g v w);have U:=Z (fun a b w=>qa g a b w);rcases Q with rfl|rfl|rfl|rfl|rfl
  ·go_in
   go_wp2_with (go_at_call 121;refine(l _ H).mono ?_;rintro e w' ⟨rfl,rfl⟩)
   go_ret2;rw[E];exact⟨rfl,s _,(Ch.refl _ _).hr _ _⟩
  ·go_in
   go_wp2_with (go_at_call 121;refine(l _ H).mono ?_;rintro e w' ⟨rfl,rfl⟩)
   obtain⟨w1,d⟩:=nm (w.setCell (m,3) (.int .i64 (wrap64 (t+1))));rw[d];have f:Hid (aM w1 m c p S):=Z (by rw[<-d];exact s _);have o:Hid (Ch (dp m c) w w1):=Z (by rw[<-d];exact(Ch.refl _ _).hr _ _);have d0:w1.cell? (m,0)=some (.slice (some (c,0)) N N):=(by rw[B];exact f.head.cell (i:=0) rfl);have M:w1.cell? (c,k)=some (.int .u64 held):=(by rw[<-d,World.cell?_setCell_other _ _ _ _ (by intro e;exact I (congrArg Addr.block e))];exact q);have L:=f.cells.free k;clear d q D y z C f3;refine wp_region_still_tail 8 (by kernel_rfl) (by kernel_rfl) ?_;simp only[List.take_succ_cons,List.take_zero,List.drop_succ_cons,List.drop_zero]
   repeat still_step
   still_call (b5 (x _ _))
   repeat still_step
   try refine wpStill_nil ?_
   change wpList _ _ _ _ _ w1.drew;go_wp2
   go_ret2;rw[E];exact⟨rfl,f.drew.lay k _ (iq _ _ K),o.drew.jX _ _⟩
  ·go_in
   go_wp2_with (go_at_call 121;refine(l _ H).mono ?_;rintro e w' ⟨rfl,rfl⟩)
   obtain⟨w1,d⟩:=nm (w.setCell (m,3) (.int .i64 (wrap64 (t+1))));rw[d];have f:Hid (aM w1 m c p S):=Z (by rw[<-d];exact s _);have o:Hid (Ch (dp m c) w w1):=Z (by rw[<-d];exact(Ch.refl _ _).hr _ _);have d0:w1.cell? (m,0)=some (.slice (some (c,0)) N N):=(by rw[B];exact f.head.cell (i:=0) rfl);have M:w1.cell? (c,k)=some (.int .u64 held):=(by rw[<-d,World.cell?_setCell_other _ _ _ _ (by intro e;exact I (congrArg Addr.block e))];exact q);have L:=f.cells.free k;clear d q D y z C f3;refine wp_region_still_tail 8 (by kernel_rfl) (by kernel_rfl) ?_;simp only[List.take_succ_cons,List.take_zero,List.drop_succ_cons,List.drop_zero]
   repeat still_step
   still_call (b5 (x _ _))
   repeat still_step
   try refine wpStill_nil ?_
   change wpList _ _ _ _ _ w1.drew;go_wp2
   go_ret2;rw[E];exact⟨rfl,f.drew.lay k _ (iq _ _ K),o.drew.jX _ _⟩
  ·go_in
   go_wp2_with (go_at_call 121;refine(l _ H).mono ?_;rintro e w' ⟨rfl,rfl⟩)
   obtain⟨w1,d⟩:=nm (w.setCell (m,3) (.int .i64 (wrap64 (t+1))));rw[d];have f:Hid (aM w1 m c p S):=Z (by rw[<-d];exact s _);have o:Hid (Ch (dp m c) w w1):=Z (by rw[<-d];exact(Ch.refl _ _).hr _ _);have d0:w1.cell? (m,0)=some (.slice (some (c,0)) N N):=(by rw[B];exact f.head.cell (i:=0) rfl);have M:w1.cell? (c,k)=some (.int .u64 held):=(by rw[<-d,World.cell?_setCell_other _ _ _ _ (by intro e;exact I (congrArg Addr.block e))];exact q);have L:=f.cells.free k;clear d q D y z C f3;refine wp_region_still_tail 9 (by kernel_rfl) (by kernel_rfl) ?_;simp only[List.take_succ_cons,List.take_zero,List.drop_succ_cons,List.drop_zero]
   repeat still_step
   still_call (b5 (U _ _ _))
   repeat still_step
   try refine wpStill_nil ?_
   change wpList _ _ _ _ _ w1.drew;go_wp2
   go_ret2;rw[E];exact⟨rfl,f.drew.lay k _ (mY _ _ _),o.drew.jX _ _⟩
  ·by_cases u:held=gi g j
   ·have W:(held !=gi g j)=false:=by rw[bne_eq_false_iff_eq];exact u
    have J:Hid (S.acc 4 k j v=(some held,{S with cells:=S.cells.set k (gi g v)})):=Z (by rw[E];simp only[if_pos u];rfl);clear u;go_in
    go_wp2_with (first|(go_at_call 121;refine(l _ H).mono ?_;rintro e w' ⟨rfl,rfl⟩)|(go_at_call 122;refine(x _ _).mono ?_;rintro e w' ⟨rfl,rfl⟩))
    obtain⟨w1,d⟩:=nm (w.setCell (m,3) (.int .i64 (wrap64 (t+1))));rw[d];have f:Hid (aM w1 m c p S):=Z (by rw[<-d];exact s _);have o:Hid (Ch (dp m c) w w1):=Z (by rw[<-d];exact(Ch.refl _ _).hr _ _);have d0:w1.cell? (m,0)=some (.slice (some (c,0)) N N):=(by rw[B];exact f.head.cell (i:=0) rfl);have M:w1.cell? (c,k)=some (.int .u64 held):=(by rw[<-d,World.cell?_setCell_other _ _ _ _ (by intro e;exact I (congrArg Addr.block e))];exact q);have L:=f.cells.free k;clear d q D y z C f3;refine wp_region_still_tail 8 (by kernel_rfl) (by kernel_rfl) ?_;simp only[List.take_succ_cons,List.take_zero,List.drop_succ_cons,List.drop_zero]
    repeat still_step
    still_call (b5 (x _ _))
    repeat still_step
    try refine wpStill_nil ?_
    change wpList _ _ _ _ _ w1.drew;go_wp2
    go_ret2;rw[J];exact⟨rfl,f.drew.lay k _ (iq _ _ K),o.drew.jX _ _⟩
   ·have W:(held !=gi g j)=true:=by rw[bne_iff_ne];exact u
    have J:Hid (S.acc 4 k j v=(some held,S)):=Z (by rw[E];simp only[if_neg u];rfl);clear u;go_in
    go_wp2_with (first|(go_at_call 121;refine(l _ H).mono ?_;rintro e w' ⟨rfl,rfl⟩)|(go_at_call 122;refine(x _ _).mono ?_;rintro e w' ⟨rfl,rfl⟩))
    go_ret2;rw[J];exact⟨rfl,s _,(Ch.refl _ _).hr _ _⟩
theorem ht(m c j:Nat)(S:aA)(a:Int)(k:aI a)(w:World)(h:aM w m c j S):
 Calls prog 30 #[(m,0),.int .u64 a] w (lC (S.acc 0 a 0 0) m c j w):=by
 have f:=Z (g6 m c j S 0 a 0 0 (by omega) k ⟨by omega,by omega⟩ w h);clear h k;rcases l:S.acc 0 a 0 0 with⟨_|held,o⟩
 all_goals
  rw[l]at f;clear l
 ·go_in
  go_wp2_with (go_at_call 74;refine f.mono ?_;rintro e w' ⟨⟨v,rfl,n⟩,d,b⟩;obtain⟨t,x,rfl⟩:=n;have i:=Z d;have g:=Z b;clear d b)
  go_ret2;exact⟨⟨_,rfl,ar.mk _ _⟩,i,g⟩
 ·go_in
  go_wp2_with (go_at_call 74;refine f.mono ?_;rintro e w' ⟨rfl,d,b⟩;have i:=Z d;have g:=Z b;clear d b)
  go_ret2;exact⟨rfl,i,g⟩
theorem mg(m c k:Nat)(S:aA)(a v:Int)(l:aI a)(f:aI v)(w:World)(h:aM w m c k S):
 Calls prog 230 #[(m,0),.int .u64 a,.int .u64 v] w (lC (S.acc 2 a 0 v) m c k w):=by
 have g:=Z (g6 m c k S 2 a 0 v (by omega) l f w h);clear h l f;rcases n:S.acc 2 a 0 v with⟨_|held,o⟩
 all_goals
  rw[n]at g;clear n
 ·go_in
  go_wp2_with (go_at_call 74;refine g.mono ?_;rintro e w' ⟨⟨v,rfl,f⟩,d,b⟩;obtain⟨t,x,rfl⟩:=f;have j:=Z d;have i:=Z b;clear d b)
  go_ret2;exact⟨⟨_,rfl,ar.mk _ _⟩,j,i⟩
 ·go_in
  go_wp2_with (go_at_call 74;refine g.mono ?_;rintro e w' ⟨rfl,d,b⟩;have j:=Z d;have i:=Z b;clear d b)
  go_ret2;exact⟨rfl,j,i⟩
theorem nh(m c k:Nat)(S:aA)(a v:Int)(l:aI a)(f:aI v)(w:World)(h:aM w m c k S):
 Calls prog 140 #[(m,0),.int .u64 a,.int .u64 v] w (lC (S.acc 3 a 0 v) m c k w):=by
 have g:=Z (g6 m c k S 3 a 0 v (by omega) l f w h);clear h l f;rcases n:S.acc 3 a 0 v with⟨_|held,o⟩
 all_goals
  rw[n]at g;clear n
 ·go_in
  go_wp2_with (go_at_call 74;refine g.mono ?_;rintro e w' ⟨⟨v,rfl,f⟩,d,b⟩;obtain⟨t,x,rfl⟩:=f;have j:=Z d;have i:=Z b;clear d b)
  go_ret2;exact⟨⟨_,rfl,ar.mk _ _⟩,j,i⟩
 ·go_in
  go_wp2_with (go_at_call 74;refine g.mono ?_;rintro e w' ⟨rfl,d,b⟩;have j:=Z d;have i:=Z b;clear d b)
  go_ret2;exact⟨rfl,j,i⟩
theorem nj(m c l:Nat)(S:aA)(a g v:Int)(n:aI a)(f:aI v)(w:World)(h:aM w m c l S):
 Calls prog 189 #[(m,0),.int .u64 a,.int .u64 g,.int .u64 v] w (lC (S.acc 4 a g v) m c l w):=by
 have i:=Z (g6 m c l S 4 a g v (by omega) n f w h);clear h n f;rcases o:S.acc 4 a g v with⟨_|held,p⟩
 all_goals
  rw[o]at i;clear o
 ·go_in
  go_wp2_with (go_at_call 74;refine i.mono ?_;rintro e w' ⟨⟨v,rfl,f⟩,d,b⟩;obtain⟨t,x,rfl⟩:=f;have k:=Z d;have j:=Z b;clear d b)
  go_ret2;exact⟨⟨_,rfl,ar.mk _ _⟩,k,j⟩
 ·go_in
  go_wp2_with (go_at_call 74;refine i.mono ?_;rintro e w' ⟨rfl,d,b⟩;have k:=Z d;have j:=Z b;clear d b)
  go_ret2;exact⟨rfl,k,j⟩
def qe(ok:Bool)(e:Ending):Prop:=∃v,e=.returned v/\(if ok then v=.nilIface else ar v)
theorem ey(m c k:Nat)(S:aA)(a v:Int)(l:aI a)(f:aI v)(w:World)(h:aM w m c k S):
 Calls prog 95 #[(m,0),.int .u64 a,.int .u64 v] w (fun e w'=>qe (S.acc 1 a 0 v).1.isSome e/\aM w' m c k (S.acc 1 a 0 v).2/\Ch (dp m c) w w'):=by
 have g:=Z (g6 m c k S 1 a 0 v (by omega) l f w h);clear h l f;rcases n:S.acc 1 a 0 v with⟨_|held,o⟩
 all_goals
  rw[n]at g;clear n
 ·go_in
  go_wp2_with (go_at_call 74;refine g.mono ?_;rintro e w' ⟨⟨v,rfl,f⟩,d,b⟩;obtain⟨t,x,rfl⟩:=f;have j:=Z d;have i:=Z b;clear d b)
  go_ret;exact⟨⟨_,rfl,ar.mk _ _⟩,j,i⟩
 ·go_in
  go_wp2_with (go_at_call 74;refine g.mono ?_;rintro e w' ⟨rfl,d,b⟩;have j:=Z d;have i:=Z b;clear d b)
  go_ret;exact⟨⟨_,rfl,rfl⟩,j,i⟩
def aA.i'(S:aA)(a n:Nat)(there:Bool):Bool:=decide (a+n<=S.cells.length)&&(List.range n).all fun i=>(S.width.getD (a+i) 0 !=0)==there
theorem jF{S:aA}{a n:Nat}{there:Bool}(h:S.i' a n there=true):a+n<=S.cells.length/\∀i,i<n->(S.width.getD (a+i) 0 !=0)=there:=by
 unfold aA.i' at h;rw[Bool.and_eq_true,decide_eq_true_eq,List.all_eq_true]at h;exact⟨h.1,fun i b=>by simpa using h.2 i (List.mem_range.2 b)⟩
theorem Bp{S:aA}{a n:Nat}{there:Bool}(b:a+n<=S.cells.length)(c:∀i,i<n->(S.width.getD (a+i) 0 !=0)=there):S.i' a n there=true:=by
 unfold aA.i';rw[Bool.and_eq_true,decide_eq_true_eq,List.all_eq_true];exact⟨b,fun i d=>by simpa using c i (List.mem_range.1 d)⟩
theorem vp{S:aA}{a n:Nat}{there:Bool}{i:Nat}(b:i<n)(h:(S.width.getD (a+i) 0 !=0)≠there):S.i' a n there=false:=by
 cases hb:S.i' a n there
 ·rfl
 ·exact absurd ((jF hb).2 i b) h
theorem j6(m c y:Nat)(S:aA)(a n:Nat)(there:Bool)(I:a<=1000000)(Q:n<=1000000)(w:World)(h:aM w m c y S):
 Calls prog 66 #[(m,0),.int .i64 a,.int .i64 n,.bool there] w (fun e w'=>qe (S.i' a n there) e/\Ch ag w w'):=by
 obtain⟨C,D⟩:=h.head.c2;have F:=h.qd;have P:=h.head.lt;have J:=h.width.lt;obtain⟨N,g⟩:=mn S.cells.length;rw[<-g]at C D F;by_cases z:a+n<=N
 ·have A:Hid (∀j,j<n->w.cell? ⟨y,a+j,none⟩=some (.int .u8 (S.width.getD (a+j) 0))/\0<=S.width.getD (a+j) 0/\S.width.getD (a+j) 0<=255):=Z (fun j l=>by
   have f:S.width[a+j]?=some (S.width.getD (a+j) 0):=(by rw[List.getD_eq_getElem?_getD,List.getElem?_eq_getElem (by rw[h.len,<-g];omega)];rfl);exact⟨h.width.cell (by rw[List.getElem?_map,f];rfl),h.ok _ _ f⟩)
  have B:=Z g;have R:(a:Int)+n<=N:=by omega
  have E:¬((N:Int)-a<n):=by omega
  clear h g z;go_wp2
  go_loop [9] (fun s=>∃k:Nat,s=.int .i64 ((a+k:Nat):Int)/\k<=n/\Hid (∀j,j<k->(S.width.getD (a+j) 0 !=0)=there)) (fun s=>a+n-(intOf s).toNat)
  case atStart=>exact⟨0,by go_num,Nat.zero_le _,fun j l=>absurd l (Nat.not_lt_zero _)⟩
  case round=>
   obtain⟨k,rfl,M,p⟩:=hrel;by_cases u:k<n
   ·obtain⟨q,G,H⟩:=A k u
    obtain⟨x,f⟩:=nm (S.width.getD (a+k) 0);rw[f]at q G H;have o:=Z f;clear f;obtain⟨i,d⟩:=mn (a+k);rw[<-d]at q⊢;have K:(i:Int)<a+n:=(by omega);have L:(i:Int)<N:=(by omega);have v:=Z d;cases hb:(x !=0)
    ·cases there
     ·skip
      have r:Hid (∀j,j<k+1->(S.width.getD (a+j) 0 !=0)=false):=Z (fun j l=>by
       by_cases t:j=k
       ·subst t;rw[o];exact hb
       ·exact p j (by omega))
      clear d;go_wp2
      go_round
      case rel=>exact⟨k+1,by rw[show a+(k+1)=i+1 from by have:=v.out;omega];go_num,by omega,r⟩
      case measure=>simp[intOf];omega
     ·skip
      have b:Hid (S.i' a n true=false):=Z (vp u (by rw[o,hb];decide));clear d;go_wp2_with (go_at_call 65;refine(dV _ _ _ _).mono ?_;rintro e w' ⟨rfl,rfl⟩)
      go_ret;rw[b];exact⟨⟨_,rfl,ar.mk _ _⟩,(Ch.refl _ _).alloc _⟩
    ·cases there
     ·skip
      have b:Hid (S.i' a n false=false):=Z (vp u (by rw[o,hb];decide));clear d;go_wp2_with (go_at_call 65;refine(dV _ _ _ _).mono ?_;rintro e w' ⟨rfl,rfl⟩)
      go_ret;rw[b];exact⟨⟨_,rfl,ar.mk _ _⟩,(Ch.refl _ _).alloc _⟩
     ·skip
      have r:Hid (∀j,j<k+1->(S.width.getD (a+j) 0 !=0)=true):=Z (fun j l=>by
       by_cases t:j=k
       ·subst t;rw[o];exact hb
       ·exact p j (by omega))
      clear d;go_wp2
      go_round
      case rel=>exact⟨k+1,by rw[show a+(k+1)=i+1 from by have:=v.out;omega];go_num,by omega,r⟩
      case measure=>simp[intOf];omega
   ·have O:¬(((a+k:Nat):Int)<a+n):=by omega
    have b:Hid (S.i' a n there=true):=Z (Bp (by rw[<-B];omega) (fun j l=>p j (by omega)));go_wp2
    go_ret;rw[b];exact⟨⟨_,rfl,rfl⟩,Ch.refl _ _⟩
 ·have b:Hid (S.i' a n there=false):=Z (by
   cases hb:S.i' a n there
   ·rfl
   ·exact absurd (jF hb).1 (by omega))
  have E:(N:Int)-a<n:=by omega
  clear h g z;go_in
  go_wp2_with (go_at_call 65;refine(dV _ _ _ _).mono ?_;rintro e w' ⟨rfl,rfl⟩)
  go_ret;rw[b];exact⟨⟨_,rfl,ar.mk _ _⟩,(Ch.refl _ _).alloc _⟩
def az(l:List Int)(a:Nat)(v:Int):Nat->List Int
 |0=>l
 |k+1=>(az l a v k).set (a+k) v
theorem dq(l:List Int)(a:Nat)(v:Int):∀k,(az l a v k).length=l.length
 |0=>rfl
 |k+1=>by rw[az,List.length_set,dq l a v k]
theorem aM.DJ{w:World}{m c b:Nat}{S:aA}(h:aM w m c b S)(i:Nat)(v:Int)(f:0<=v/\v<=255):aM (w.setCell (b,i) (.int .u8 v)) m c b {S with width:=S.width.set i v}:=
 ⟨⟨_,_,h.head.other h.md _⟩,h.cells.other h.cd _,h.width.bc _ _ (by rw[List.map_set]),by simpa using h.len,h.qd,fun j x a=>by
  by_cases e:i=j
  ·subst e
   rw[List.getElem?_set_self']at a;cases d:S.width[i]? with
   |none=>rw[d]at a;simp at a
   |some y=>rw[d]at a;have:v=x:=by simpa using a
            subst this;exact f
  ·rw[List.getElem?_set_ne e]at a;exact h.ok j x a,h.u64⟩
theorem aM.there{w:World}{m c a:Nat}{S:aA}(h:aM w m c a S)(n:Int):aM (w.setCell (m,2) (.int .i64 n)) m c a S:=
 ⟨⟨_,_,h.head.bc _ _ rfl⟩,h.cells.other (fun e=>h.mc e.symm) _,h.width.other (fun e=>h.md e.symm) _,h.len,h.qd,h.ok,h.u64⟩
def aA.laid(S:aA)(a n:Nat)(b:Int):aA:={S with width:=az S.width a b n,cells:=az S.cells a 0 n}
def aA.map(S:aA)(a n:Nat)(b:Int):Bool×aA:=
 if n≠0/\S.i' a n false=true then(true,S.laid a n b)else(false,S)
def aA.gl(S:aA)(a n:Nat):Bool×aA:=
 if n≠0/\S.i' a n true=true then(true,S.laid a n 0)else(false,S)
def tP(x:Bool×aA)(m c a:Nat)(w:World)(e:Ending)(w':World):Prop:=qe x.1 e/\aM w' m c a x.2/\Ch (dD m c a) w w'
theorem Ch.Gj{a b c:Nat}{v w:World}(h:Ch (dD a b c) v w)(d:Nat)(x:Value):Ch (dD a b c) v (w.setCell (a,d) x):=h.g5 (p:=⟨a,d,none⟩) (show a=a∨a=b∨a=c from Or.inl rfl) x
theorem Ch.Gk{a b c:Nat}{v w:World}(h:Ch (dD a b c) v w)(d:Nat)(x:Value):Ch (dD a b c) v (w.setCell (b,d) x):=h.g5 (p:=⟨b,d,none⟩) (show b=a∨b=b∨b=c from Or.inr (Or.inl rfl)) x
theorem Ch.Gl{a b c:Nat}{v w:World}(h:Ch (dD a b c) v w)(d:Nat)(x:Value):Ch (dD a b c) v (w.setCell (c,d) x):=h.g5 (p:=⟨c,d,none⟩) (show c=a∨c=b∨c=c from Or.inr (Or.inr rfl)) x
theorem kz(m c d:Nat)(S:aA)(a n:Nat)(L:a<=1000000)(U:n<=1000000)(w:World)(h:aM w m c d S):
 Calls prog 26 #[(m,0),.int .i64 a,.int .i64 n,.int .i64 32] w (tP (S.map a n 32) m c d w):=by
 have H:=Z h;have p:=Z (j6 m c d S a n false L U w h);by_cases q:n=0
 ·subst q
  have E:Hid (S.map a 0 32=(false,S)):=Z (by unfold aA.map;rw[if_neg (by simp)]);clear h;go_in
  go_wp2_with (go_at_call 65;refine(dV _ _ _ _).mono ?_;rintro e w' ⟨rfl,rfl⟩)
  go_ret;rw[E];exact⟨⟨_,rfl,ar.mk _ _⟩,H.alloc _,(Ch.refl _ _).alloc _⟩
 have ap:(1:Int)<=n:=by omega
 cases f:S.i' a n false
 ·have E:Hid (S.map a n 32=(false,S)):=Z (by unfold aA.map;rw[if_neg (by rw[f];simp)])
  rw[f]at p;clear h f q
  all_goals
   go_in
   go_wp2_with (first|(go_at_call 66;refine p.mono ?_;rintro e w1 ⟨⟨v,rfl,A⟩,g⟩;obtain⟨t,x,rfl⟩:=A;have l:=Z g;clear g)|(go_at_call 65;refine(dV _ _ _ _).mono ?_;rintro e w' ⟨rfl,rfl⟩))
   go_ret;rw[E];exact⟨⟨_,rfl,ar.mk _ _⟩,H.ch l id id id,l.af⟩
 ·have P:=(jF f).1
  have E:Hid (S.map a n 32=(true,S.laid a n 32)):=Z (by unfold aA.map;rw[if_pos ⟨q,f⟩]);rw[f]at p;obtain⟨N,r⟩:=mn S.cells.length;have M:=h.qd;rw[<-r]at M P;have o:=Z r;clear h f q r
  all_goals
   go_in
   go_wp2_with fail
   refine p.mono ?_;rintro e w1 ⟨⟨v,rfl,A⟩,g⟩;obtain rfl:v=.nilIface:=A;have I:=Z (H.ch g id id id);have l:=Z (g.af (D:=dD m c d));clear g;go_wp2
   go_loopw [10] (fun s wr=>∃k:Nat,s=.int .i64 ((a+k:Nat):Int)/\k<=n/\Hid (aM wr m c d (S.laid a k 32)/\Ch (dD m c d) w wr)) (fun s _=>a+n-(intOf s).toNat)
   case atStart=>exact⟨0,by go_num,Nat.zero_le _,I,l⟩
   case round=>
    obtain⟨k,rfl,a3,j⟩:=hrel;have b:=j.1;have V:wr.cell? (m,0)=some (.slice (some (c,0)) N N):=(by have:=b.head.cell (i:=0) rfl;rwa [show(S.laid a k 32).cells.length=N from by unfold aA.laid;rw[dq];exact o.symm]at this);have W:wr.cell? (m,1)=some (.slice (some (d,0)) N N):=(by have:=b.head.cell (i:=1) rfl;rwa [show(S.laid a k 32).cells.length=N from by unfold aA.laid;rw[dq];exact o.symm]at this);obtain⟨C,J⟩:∃C:Int,wr.cell? (m,2)=some (.int .i64 C):=⟨_,b.head.cell (i:=2) rfl⟩;have f2:=b.head.free 2;have R:=b.mc;have T:=b.md;have O:=b.cd;by_cases ad:k<n
    ·obtain⟨i,y⟩:=mn (a+k)
     have F:∃u,wr.cell? (c,i)=some u:=by
      have z:(S.laid a k 32).cells.length=N:=(by unfold aA.laid;rw[dq];exact o.symm);exact⟨_,b.cells.cell (by rw[List.getElem?_map,List.getElem?_eq_getElem (by rw[z];omega)];rfl)⟩
     have G:∃u,wr.cell? (d,i)=some u:=by
      have z:(S.laid a k 32).width.length=N:=(by rw[b.len];unfold aA.laid;rw[dq];exact o.symm);exact⟨_,b.width.cell (by rw[List.getElem?_map,List.getElem?_eq_getElem (by rw[z];omega)];rfl)⟩
     obtain⟨u1,F⟩:=F;obtain⟨u2,G⟩:=G;have X:=b.cells.free i;have Y:=b.width.free i;have a1:(i:Int)<a+n:=(by omega);have a2:(i:Int)<N:=(by omega);have B:=Z y;rw[<-y];have a0:d≠c:=(fun e=>O e.symm);have al:c≠m:=(fun e=>R e.symm);have am:d≠m:=(fun e=>T e.symm);clear y b J f2;go_wp2
     go_roundw
     case rel=>
      refine⟨k+1,by rw[show a+(k+1)=i+1 from by have:=B.out;omega];go_num,by omega,?_,?_⟩
      ·have K:=B.out
       subst K;exact(j.1.DJ (a+k) 32 (by omega)).lay (a+k) 0 ⟨by omega,by omega⟩
      ·exact(j.2.Gl _ _).Gk _ _
     case measure=>simp[intOf];omega
    ·have Q:k=n:=by omega
     subst Q;have ab:¬(((a+k:Nat):Int)<a+k):=(by omega);clear b;go_wp2
     go_ret;rw[E];exact⟨⟨_,rfl,rfl⟩,j.1.there _,j.2.Gj _ _⟩
theorem ez(m c d:Nat)(S:aA)(a n:Nat)(L:a<=1000000)(U:n<=1000000)(w:World)(h:aM w m c d S):
 Calls prog 26 #[(m,0),.int .i64 a,.int .i64 n,.int .i64 64] w (tP (S.map a n 64) m c d w):=by
 have H:=Z h;have p:=Z (j6 m c d S a n false L U w h);by_cases q:n=0
 ·subst q
  have E:Hid (S.map a 0 64=(false,S)):=Z (by unfold aA.map;rw[if_neg (by simp)]);clear h;go_in
  go_wp2_with (go_at_call 65;refine(dV _ _ _ _).mono ?_;rintro e w' ⟨rfl,rfl⟩)
  go_ret;rw[E];exact⟨⟨_,rfl,ar.mk _ _⟩,H.alloc _,(Ch.refl _ _).alloc _⟩
 have ap:(1:Int)<=n:=by omega
 cases f:S.i' a n false
 ·have E:Hid (S.map a n 64=(false,S)):=Z (by unfold aA.map;rw[if_neg (by rw[f];simp)])
  rw[f]at p;clear h f q
  all_goals
   go_in
   go_wp2_with (first|(go_at_call 66;refine p.mono ?_;rintro e w1 ⟨⟨v,rfl,A⟩,g⟩;obtain⟨t,x,rfl⟩:=A;have l:=Z g;clear g)|(go_at_call 65;refine(dV _ _ _ _).mono ?_;rintro e w' ⟨rfl,rfl⟩))
   go_ret;rw[E];exact⟨⟨_,rfl,ar.mk _ _⟩,H.ch l id id id,l.af⟩
 ·have P:=(jF f).1
  have E:Hid (S.map a n 64=(true,S.laid a n 64)):=Z (by unfold aA.map;rw[if_pos ⟨q,f⟩]);rw[f]at p;obtain⟨N,r⟩:=mn S.cells.length;have M:=h.qd;rw[<-r]at M P;have o:=Z r;clear h f q r
  all_goals
   go_in
   go_wp2_with fail
   refine p.mono ?_;rintro e w1 ⟨⟨v,rfl,A⟩,g⟩;obtain rfl:v=.nilIface:=A;have I:=Z (H.ch g id id id);have l:=Z (g.af (D:=dD m c d));clear g;go_wp2
   go_loopw [10] (fun s wr=>∃k:Nat,s=.int .i64 ((a+k:Nat):Int)/\k<=n/\Hid (aM wr m c d (S.laid a k 64)/\Ch (dD m c d) w wr)) (fun s _=>a+n-(intOf s).toNat)
   case atStart=>exact⟨0,by go_num,Nat.zero_le _,I,l⟩
   case round=>
    obtain⟨k,rfl,a3,j⟩:=hrel;have b:=j.1;have V:wr.cell? (m,0)=some (.slice (some (c,0)) N N):=(by have:=b.head.cell (i:=0) rfl;rwa [show(S.laid a k 64).cells.length=N from by unfold aA.laid;rw[dq];exact o.symm]at this);have W:wr.cell? (m,1)=some (.slice (some (d,0)) N N):=(by have:=b.head.cell (i:=1) rfl;rwa [show(S.laid a k 64).cells.length=N from by unfold aA.laid;rw[dq];exact o.symm]at this);obtain⟨C,J⟩:∃C:Int,wr.cell? (m,2)=some (.int .i64 C):=⟨_,b.head.cell (i:=2) rfl⟩;have f2:=b.head.free 2;have R:=b.mc;have T:=b.md;have O:=b.cd;by_cases ad:k<n
    ·obtain⟨i,y⟩:=mn (a+k)
     have F:∃u,wr.cell? (c,i)=some u:=by
      have z:(S.laid a k 64).cells.length=N:=(by unfold aA.laid;rw[dq];exact o.symm);exact⟨_,b.cells.cell (by rw[List.getElem?_map,List.getElem?_eq_getElem (by rw[z];omega)];rfl)⟩
     have G:∃u,wr.cell? (d,i)=some u:=by
      have z:(S.laid a k 64).width.length=N:=(by rw[b.len];unfold aA.laid;rw[dq];exact o.symm);exact⟨_,b.width.cell (by rw[List.getElem?_map,List.getElem?_eq_getElem (by rw[z];omega)];rfl)⟩
     obtain⟨u1,F⟩:=F;obtain⟨u2,G⟩:=G;have X:=b.cells.free i;have Y:=b.width.free i;have a1:(i:Int)<a+n:=(by omega);have a2:(i:Int)<N:=(by omega);have B:=Z y;rw[<-y];have a0:d≠c:=(fun e=>O e.symm);have al:c≠m:=(fun e=>R e.symm);have am:d≠m:=(fun e=>T e.symm);clear y b J f2;go_wp2
     go_roundw
     case rel=>
      refine⟨k+1,by rw[show a+(k+1)=i+1 from by have:=B.out;omega];go_num,by omega,?_,?_⟩
      ·have K:=B.out
       subst K;exact(j.1.DJ (a+k) 64 (by omega)).lay (a+k) 0 ⟨by omega,by omega⟩
      ·exact(j.2.Gl _ _).Gk _ _
     case measure=>simp[intOf];omega
    ·have Q:k=n:=by omega
     subst Q;have ab:¬(((a+k:Nat):Int)<a+k):=(by omega);clear b;go_wp2
     go_ret;rw[E];exact⟨⟨_,rfl,rfl⟩,j.1.there _,j.2.Gj _ _⟩
theorem kA(m c d:Nat)(S:aA)(a n:Nat)(L:a<=1000000)(U:n<=1000000)(w:World)(h:aM w m c d S):
 Calls prog 129 #[(m,0),.int .i64 a,.int .i64 n] w (tP (S.gl a n) m c d w):=by
 have H:=Z h;have p:=Z (j6 m c d S a n true L U w h);by_cases q:n=0
 ·subst q
  have E:Hid (S.gl a 0=(false,S)):=Z (by unfold aA.gl;rw[if_neg (by simp)]);clear h;go_in
  go_wp2_with (go_at_call 65;refine(dV _ _ _ _).mono ?_;rintro e w' ⟨rfl,rfl⟩)
  go_ret;rw[E];exact⟨⟨_,rfl,ar.mk _ _⟩,H.alloc _,(Ch.refl _ _).alloc _⟩
 have ap:(1:Int)<=n:=by omega
 cases f:S.i' a n true
 ·have E:Hid (S.gl a n=(false,S)):=Z (by unfold aA.gl;rw[if_neg (by rw[f];simp)])
  rw[f]at p;clear h f q
  all_goals
   go_in
   go_wp2_with (first|(go_at_call 66;refine p.mono ?_;rintro e w1 ⟨⟨v,rfl,A⟩,g⟩;obtain⟨t,x,rfl⟩:=A;have l:=Z g;clear g)|(go_at_call 65;refine(dV _ _ _ _).mono ?_;rintro e w' ⟨rfl,rfl⟩))
   go_ret;rw[E];exact⟨⟨_,rfl,ar.mk _ _⟩,H.ch l id id id,l.af⟩
 ·have P:=(jF f).1
  have E:Hid (S.gl a n=(true,S.laid a n 0)):=Z (by unfold aA.gl;rw[if_pos ⟨q,f⟩]);rw[f]at p;obtain⟨N,r⟩:=mn S.cells.length;have M:=h.qd;rw[<-r]at M P;have o:=Z r;clear h f q r
  all_goals
   go_in
   go_wp2_with fail
   refine p.mono ?_;rintro e w1 ⟨⟨v,rfl,A⟩,g⟩;obtain rfl:v=.nilIface:=A;have I:=Z (H.ch g id id id);have l:=Z (g.af (D:=dD m c d));clear g;go_wp2
   go_loopw [8] (fun s wr=>∃k:Nat,s=.int .i64 ((a+k:Nat):Int)/\k<=n/\Hid (aM wr m c d (S.laid a k 0)/\Ch (dD m c d) w wr)) (fun s _=>a+n-(intOf s).toNat)
   case atStart=>exact⟨0,by go_num,Nat.zero_le _,I,l⟩
   case round=>
    obtain⟨k,rfl,a3,j⟩:=hrel;have b:=j.1;have V:wr.cell? (m,0)=some (.slice (some (c,0)) N N):=(by have:=b.head.cell (i:=0) rfl;rwa [show(S.laid a k 0).cells.length=N from by unfold aA.laid;rw[dq];exact o.symm]at this);have W:wr.cell? (m,1)=some (.slice (some (d,0)) N N):=(by have:=b.head.cell (i:=1) rfl;rwa [show(S.laid a k 0).cells.length=N from by unfold aA.laid;rw[dq];exact o.symm]at this);obtain⟨C,J⟩:∃C:Int,wr.cell? (m,2)=some (.int .i64 C):=⟨_,b.head.cell (i:=2) rfl⟩;have f2:=b.head.free 2;have R:=b.mc;have T:=b.md;have O:=b.cd;by_cases ad:k<n
    ·obtain⟨i,y⟩:=mn (a+k)
     have F:∃u,wr.cell? (c,i)=some u:=by
      have z:(S.laid a k 0).cells.length=N:=(by unfold aA.laid;rw[dq];exact o.symm);exact⟨_,b.cells.cell (by rw[List.getElem?_map,List.getElem?_eq_getElem (by rw[z];omega)];rfl)⟩
     have G:∃u,wr.cell? (d,i)=some u:=by
      have z:(S.laid a k 0).width.length=N:=(by rw[b.len];unfold aA.laid;rw[dq];exact o.symm);exact⟨_,b.width.cell (by rw[List.getElem?_map,List.getElem?_eq_getElem (by rw[z];omega)];rfl)⟩
     obtain⟨u1,F⟩:=F;obtain⟨u2,G⟩:=G;have X:=b.cells.free i;have Y:=b.width.free i;have a1:(i:Int)<a+n:=(by omega);have a2:(i:Int)<N:=(by omega);have B:=Z y;rw[<-y];have a0:d≠c:=(fun e=>O e.symm);have al:c≠m:=(fun e=>R e.symm);have am:d≠m:=(fun e=>T e.symm);clear y b J f2;go_wp2
     go_roundw
     case rel=>
      refine⟨k+1,by rw[show a+(k+1)=i+1 from by have:=B.out;omega];go_num,by omega,?_,?_⟩
      ·have K:=B.out
       subst K;exact(j.1.DJ (a+k) 0 (by omega)).lay (a+k) 0 ⟨by omega,by omega⟩
      ·exact(j.2.Gl _ _).Gk _ _
     case measure=>simp[intOf];omega
    ·have Q:k=n:=by omega
     subst Q;have ab:¬(((a+k:Nat):Int)<a+k):=(by omega);clear b;go_wp2
     go_ret;rw[E];exact⟨⟨_,rfl,rfl⟩,j.1.there _,j.2.Gj _ _⟩
section
open Go.Extern Go.Extern.Stop Go.Stop
theorem DL(t:Value)(w:World):
 Calls prog 125 #[.nilIface,t] w fun e w'=>e=.returned (.bool false)/\w'=w:=by
 go_wp2
 go_ret;exact⟨rfl,rfl⟩
theorem hx.wD(t:Addr)(w:World):(ReflectliteValue.unpack (.iface 264 (.pointer (some t)))).run prog w
 =.ok (.agg #[(1,264),(w.heap.size,0),.int .u64 150]) (w.alloc (.cells #[.pointer (some t)] 264)):=by kernel_rfl
theorem hx.type27(a:Addr)(w:World):(ReflectliteValue.methodAny (ReflectliteValue.valueError "reflectlite.Value.Type" 0) (fun t _ _ _=>ReflectliteType.toType t) #[.agg #[(1,264),.pointer (some a),.int .u64 150]]).run prog w
 =.ok (.iface 335 (.agg #[(1,264)])) w:=by kernel_rfl
theorem hx.tQ(h:Value)(w:World):(Go.method 494 335 (.agg #[h]) "Kind").run prog w=.ok (226,h) w:=by kernel_rfl
theorem hx.DM(w:World):((ReflectliteType.abiMethod fun t=>(fun a:Nat=>Value.int IntKind.u8 (a:Int))<$>Rtype.kind t) #[(1,264)]).run prog w=.ok (.int .u8 22) w:=by kernel_rfl
theorem hx.DN(w:World):((ReflectliteType.abiMethod fun t=>(fun a:Nat=>Value.int IntKind.u8 (a:Int))<$>Rtype.kind t) #[(1,197)]).run prog w=.ok (.int .u8 22) w:=by kernel_rfl
theorem G2(z:Sem Value)(f:TypeId->Addr->Nat->Nat->Sem Value)(v:Value):
 ReflectliteValue.method z f #[v]=(do match<-ReflectliteValue.parts v with|none=>z|some (t,a,b)=>f t a b (b%32)):=rfl
theorem hx.vq(a:Addr)(w:World):(ReflectliteValue.parts (.agg #[(1,264),.pointer (some a),.int .u64 150])).run prog w=.ok (some (264,a,150)) w:=by kernel_rfl
theorem hx.Bt(a p:Addr)(b:World)(c:b.cell? a=some (.pointer (some p))):
 (ReflectliteValue.method (ReflectliteValue.valueError "reflectlite.Value.IsNil" 0) ReflectliteValue.isNil #[.agg #[(1,264),.pointer (some a),.int .u64 150]]).run prog b=.ok (.bool false) b:=by
 rw[G2];simp only[Sem.run_bind,hx.vq,Result.andThen];simp[ReflectliteValue.isNil,loadVar,isAgg,underlying,underlying264,c,Result.andThen]
theorem hx.tR(h:Value)(w:World):(Go.method 494 335 (.agg #[h]) "Elem").run prog w=.ok (256,.agg #[h]) w:=by kernel_rfl
theorem hx.lD(h:Value)(w:World):(Go.method 494 335 (.agg #[h]) "Implements").run prog w=.ok (257,.agg #[h]) w:=by kernel_rfl
theorem hx.j8(h:Value)(w:World):(Go.method 494 335 (.agg #[h]) "AssignableTo").run prog w=.ok (254,.agg #[h]) w:=by kernel_rfl
theorem hx.DO(w:World):(ReflectliteType.method ReflectliteType.elem #[.agg #[(1,264)]]).run prog w=.ok (.iface 335 (.agg #[(1,197)])) w:=by kernel_rfl
theorem hx.qf(w:World):(ReflectliteType.relation "Implements" ReflectliteType.implements_ #[.agg #[(1,197)],.iface 335 (.agg #[(1,40)])]).run prog w=.ok (.bool true) w:=by kernel_rfl
theorem hx.yZ(v:Value)(w:World):(ReflectliteType.typeOf #[.iface 197 v]).run prog w=.ok (.iface 335 (.agg #[(1,197)])) w:=by kernel_rfl
theorem hx.qg(w:World):(ReflectliteType.relation "AssignableTo" ReflectliteType.assignableTo #[.agg #[(1,197)],.iface 335 (.agg #[(1,197)])]).run prog w=.ok (.bool true) w:=by kernel_rfl
theorem hx.wE(e:Addr)(w:World):(ReflectliteValue.unpack (.iface 197 (.pointer (some e)))).run prog w
 =.ok (.agg #[(1,197),(w.heap.size,0),.int .u64 150]) (w.alloc (.cells #[.pointer (some e)] 197)):=by kernel_rfl
theorem hx.y1(w:World):(Rtype.elem? 264).run prog w=.ok (some 197) w:=by kernel_rfl
theorem hx.Gm(p:Addr)(w:World):(ReflectliteValue.mk 197 p ReflectliteValue.flagAddr).run prog w=.ok (.agg #[(1,197),.pointer (some p),.int .u64 406]) w:=by kernel_rfl
theorem hx.Bu(a p:Addr)(b:World)(c:b.cell? a=some (.pointer (some p))):
 (ReflectliteValue.method (ReflectliteValue.valueError "reflectlite.Value.Elem" 0) ReflectliteValue.elem #[.agg #[(1,264),.pointer (some a),.int .u64 150]]).run prog b
  =.ok (.agg #[(1,197),.pointer (some p),.int .u64 406]) b:=by
 rw[G2];simp only[Sem.run_bind,hx.vq,Result.andThen];simp[ReflectliteValue.elem,loadVar,isAgg,underlying,underlying264,c,Result.andThen,hx.y1,hx.Gm]
theorem Hd(v x:Value):ReflectliteValue.set #[v,x]=(do
 let(some (dst,a,c),some (src,b,_)):=(<-ReflectliteValue.parts v,<-ReflectliteValue.parts x)
  |unsupported (.noEntry "extern/(internal/reflectlite.Value).Set.zeroValue")
 if c/ReflectliteValue.flagAddr%2==0 then unsupported (.noEntry "extern/(internal/reflectlite.Value).Set.unaddressable")
 let val<-loadVar src b
 if<-Rtype.directlyAssignable dst src then storeVar dst a val
 else if<-Rtype.implements dst src then
  if(<-Rtype.kind src)==20 then
   match val with
   |.nilIface=>unsupported (.noEntry "extern/reflectlite: a nil value of one interface type handed on as a value of another")
   |_=>storeVar dst a val
  else storeVar dst a (.iface src val)
 else panicString ("reflectlite.Set: value of type " ++(<-Rtype.spelt src)++ " is not assignable to type " ++(<-Rtype.spelt dst))
 pure (.tuple #[])):=rfl
theorem hx.y2(a:Addr)(w:World):(ReflectliteValue.parts (.agg #[(1,197),.pointer (some a),.int .u64 406])).run prog w=.ok (some (197,a,406)) w:=by kernel_rfl
theorem hx.Bv(a:Addr)(w:World):(ReflectliteValue.parts (.agg #[(1,197),.pointer (some a),.int .u64 150])).run prog w=.ok (some (197,a,150)) w:=by kernel_rfl
theorem hx.y3(w:World):(Rtype.directlyAssignable 197 197).run prog w=.ok true w:=by kernel_rfl
theorem hx.Fa(c b e:Addr)(g:Value)(a:World)(hb:a.cell? b=some (.pointer (some e)))(f:a.cell? c=some g)(d:a.frozen? c=false):
 (ReflectliteValue.set #[.agg #[(1,197),.pointer (some c),.int .u64 406],.agg #[(1,197),.pointer (some b),.int .u64 150]]).run prog a
  =.ok (.tuple #[]) (a.setCell c (.pointer (some e))):=by
 rw[Hd];simp only[Sem.run_bind,hx.y2,hx.Bv,Result.andThen];simp[ReflectliteValue.flagAddr,loadVar,isAgg,underlying,underlying197,hb,Result.andThen,hx.y3,storeVar,Value.cells,storeCells,Addr.add];rw[run_store prog a c _ _ (by rfl)];simp[f,d]
theorem DP(e t:Addr)(d:Value)(w:World)(a:w.cell? (0,0)=some (.iface 335 (.agg #[(1,40)])))(b:w.cell? t=some d)(i:w.frozen? t=false):
 Calls prog 125 #[.iface 197 (.pointer (some e)),.iface 264 (.pointer (some t))] w fun f w'=>f=.returned (.bool true)/\w'=((((w.alloc (.cells #[.pointer (some t)] 264)).alloc (.cells #[(1,264),(w.heap.size,0),.int .u64 150] 302)).alloc (.cells #[(1,264),(w.heap.size,0),.int .u64 150] 302)).alloc (.cells #[.pointer (some e)] 197)).setCell t (.pointer (some e)):=by
 have u:= @run_callFunc_extern prog 150 _ (fun args=>ReflectliteValue.unpack (args.getD 0 (.tuple #[]))) func150 (by kernel_rfl) (by kernel_rfl) (by kernel_rfl) (by kernel_rfl);have v:= @run_callFunc_extern prog 151 _ (ReflectliteValue.methodAny (ReflectliteValue.valueError "reflectlite.Value.Type" 0) (fun t _ _ _=>ReflectliteType.toType t)) func151 (by kernel_rfl) (by kernel_rfl) (by kernel_rfl) (by kernel_rfl);have x:= @run_callFunc_extern prog 152 _ (ReflectliteValue.method (ReflectliteValue.valueError "reflectlite.Value.IsNil" 0) ReflectliteValue.isNil) func152 (by kernel_rfl) (by kernel_rfl) (by kernel_rfl) (by kernel_rfl);have p:= @run_callFunc_extern prog 226 _ (ReflectliteType.abiMethod fun t=>do pure (.int .u8 (<-Rtype.kind t))) func226 (by kernel_rfl) (by kernel_rfl) (by kernel_rfl) (by kernel_rfl);have r:= @run_callFunc_extern prog 256 _ (ReflectliteType.method ReflectliteType.elem) func256 (by kernel_rfl) (by kernel_rfl) (by kernel_rfl) (by kernel_rfl);have s:= @run_callFunc_extern prog 257 _ (ReflectliteType.relation "Implements" ReflectliteType.implements_) func257 (by kernel_rfl) (by kernel_rfl) (by kernel_rfl) (by kernel_rfl);have m:= @run_callFunc_extern prog 178 _ ReflectliteType.typeOf func178 (by kernel_rfl) (by kernel_rfl) (by kernel_rfl) (by kernel_rfl);have q:= @run_callFunc_extern prog 254 _ (ReflectliteType.relation "AssignableTo" ReflectliteType.assignableTo) func254 (by kernel_rfl) (by kernel_rfl) (by kernel_rfl) (by kernel_rfl);have n:= @run_callFunc_extern prog 179 _ (ReflectliteValue.method (ReflectliteValue.valueError "reflectlite.Value.Elem" 0) ReflectliteValue.elem) func179 (by kernel_rfl) (by kernel_rfl) (by kernel_rfl) (by kernel_rfl);have o:= @run_callFunc_extern prog 180 _ ReflectliteValue.set func180 (by kernel_rfl) (by kernel_rfl) (by kernel_rfl) (by kernel_rfl);have G:=hx.yZ;have B:=hx.j8;have k:=hx.qg;have H:=hx.wE;have f6:=hx.wD;have f7:=hx.type27;have E:=hx.tQ;have C:=hx.tR;have D:=hx.lD;have A:=hx.DM;have z:=hx.DN;have l:=hx.DO;have i25:=hx.qf;have F:=hx.Bt ⟨w.heap.size,0,none⟩ t ((w.alloc (.cells #[.pointer (some t)] 264)).alloc (.cells #[(1,264),(w.heap.size,0),.int .u64 150] 302)) (by simp);have j:0<w.heap.size:=by
  rcases Nat.eq_zero_or_pos w.heap.size with g|h
  ·simp[World.cell?,g]at a
  ·exact h
 have y:((w.alloc (.cells #[.pointer (some t)] 264)).alloc (.cells #[(1,264),(w.heap.size,0),.int .u64 150] 302)).cell? (0,0)=some (.iface 335 (.agg #[(1,40)])):=by
  rw[World.cell?_alloc_lt _ _ ⟨0,0,none⟩ (by simp),World.cell?_alloc_lt _ _ ⟨0,0,none⟩ j];exact a
 have c:t.block<w.heap.size:=by
  rcases Nat.lt_or_ge t.block w.heap.size with h|h
  ·exact h
  ·simp[World.cell?,Array.getElem?_eq_none h]at b
 have el:=hx.Bu ⟨w.heap.size,0,none⟩ t (((w.alloc (.cells #[.pointer (some t)] 264)).alloc (.cells #[(1,264),(w.heap.size,0),.int .u64 150] 302)).alloc (.cells #[(1,264),(w.heap.size,0),.int .u64 150] 302)) (by rw[World.cell?_alloc_lt _ _ ⟨w.heap.size,0,none⟩ (by simp;omega)];simp);have st:=hx.Fa t ⟨w.heap.size+1+1+1,0,none⟩ e d ((((w.alloc (.cells #[.pointer (some t)] 264)).alloc (.cells #[(1,264),(w.heap.size,0),.int .u64 150] 302)).alloc (.cells #[(1,264),(w.heap.size,0),.int .u64 150] 302)).alloc (.cells #[.pointer (some e)] 197))
  (by rw[World.cell?_alloc_at _ _ _ _ (by simp)];rfl)
  (by rw[World.cell?_alloc_lt _ _ t (by simp;omega),World.cell?_alloc_lt _ _ t (by simp;omega),World.cell?_alloc_lt _ _ t (by simp;omega),World.cell?_alloc_lt _ _ t c];exact b)
  (by rw[World.frozen?_alloc_old _ _ t (by simp;omega),World.frozen?_alloc_old _ _ t (by simp;omega),World.frozen?_alloc_old _ _ t (by simp;omega),World.frozen?_alloc_old _ _ t (Nat.ne_of_lt c)];exact i)
 go_wp2
 refine wp_loop_rounds 1 ?_;rw[rounds_succ];go_wp2
 go_ret;exact⟨rfl,rfl⟩
end
instance{w:World}{a0:Addr}{v0:Value}:CoeOut (w.cell? a0=some v0) (World->Prop):=⟨fun _ u=>u.cell? a0=some v0⟩
instance{w:World}{a0 a1:Addr}{v0 v1:Value}:CoeOut (w.cell? a0=some v0/\w.cell? a1=some v1) (World->Prop):=⟨fun _ u=>u.cell? a0=some v0/\u.cell? a1=some v1⟩
instance{w:World}{a0 a1 a2:Addr}{v0 v1 v2:Value}:CoeOut (w.cell? a0=some v0/\w.cell? a1=some v1/\w.cell? a2=some v2) (World->Prop):=⟨fun _ u=>u.cell? a0=some v0/\u.cell? a1=some v1/\u.cell? a2=some v2⟩
instance{w:World}{a0 a1 a2 a3:Addr}{v0 v1 v2 v3:Value}:CoeOut (w.cell? a0=some v0/\w.cell? a1=some v1/\w.cell? a2=some v2/\w.cell? a3=some v3) (World->Prop):=⟨fun _ u=>u.cell? a0=some v0/\u.cell? a1=some v1/\u.cell? a2=some v2/\u.cell? a3=some v3⟩
instance{w:World}{a0 a1 a2 a3 a4:Addr}{v0 v1 v2 v3 v4:Value}:CoeOut (w.cell? a0=some v0/\w.cell? a1=some v1/\w.cell? a2=some v2/\w.cell? a3=some v3/\w.cell? a4=some v4) (World->Prop):=⟨fun _ u=>u.cell? a0=some v0/\u.cell? a1=some v1/\u.cell? a2=some v2/\u.cell? a3=some v3/\u.cell? a4=some v4⟩
instance{w:World}{a0 a1 a2 a3 a4 a5:Addr}{v0 v1 v2 v3 v4 v5:Value}:CoeOut (w.cell? a0=some v0/\w.cell? a1=some v1/\w.cell? a2=some v2/\w.cell? a3=some v3/\w.cell? a4=some v4/\w.cell? a5=some v5) (World->Prop):=⟨fun _ u=>u.cell? a0=some v0/\u.cell? a1=some v1/\u.cell? a2=some v2/\u.cell? a3=some v3/\u.cell? a4=some v4/\u.cell? a5=some v5⟩
instance{w:World}{a0 a1 a2 a3 a4 a5 a6:Addr}{v0 v1 v2 v3 v4 v5 v6:Value}:CoeOut (w.cell? a0=some v0/\w.cell? a1=some v1/\w.cell? a2=some v2/\w.cell? a3=some v3/\w.cell? a4=some v4/\w.cell? a5=some v5/\w.cell? a6=some v6) (World->Prop):=⟨fun _ u=>u.cell? a0=some v0/\u.cell? a1=some v1/\u.cell? a2=some v2/\u.cell? a3=some v3/\u.cell? a4=some v4/\u.cell? a5=some v5/\u.cell? a6=some v6⟩
structure du(w:World)(b g:Nat)(cs:List Int)(fr n:Nat):Prop where
 head:Row w b 209 [.slice (some (g,0)) 64 64,.int .i64 fr,.int .i64 n]
 rows:Row w g 56 (cs.map (Value.int .u64))
 len:cs.length=64
 hf:fr<64
 hn:n<=64
def eO(w:World)(b g:Nat)(q:List Int):Prop:=
 ∃cs fr,du w b g cs fr q.length/\∀i,i<q.length->cs[(fr+i)%64]?=q[i]?
theorem du.alloc{w:World}{b g:Nat}{cs:List Int}{fr n:Nat}(h:du w b g cs fr n)(a:Obj):du (w.alloc a) b g cs fr n:=⟨h.head.alloc a,h.rows.alloc a,h.len,h.hf,h.hn⟩
theorem du.drew{w:World}{b g:Nat}{cs:List Int}{fr n:Nat}(h:du w b g cs fr n):du w.drew b g cs fr n:=⟨h.head,h.rows,h.len,h.hf,h.hn⟩
theorem du.drewN{w:World}{b g:Nat}{cs:List Int}{fr n:Nat}(h:du w b g cs fr n)(k:Nat):du (w.drewN k) b g cs fr n:=⟨h.head,h.rows,h.len,h.hf,h.hn⟩
theorem du.ne{w:World}{b g:Nat}{cs:List Int}{fr n:Nat}(h:du w b g cs fr n):b≠g:=h.head.ne h.rows (by decide)
theorem du.ch{w w':World}{D:Nat->Prop}{b g:Nat}{cs:List Int}{fr n:Nat}(h:du w b g cs fr n)(c:Ch D w w')(hb:¬D b)(a:¬D g):du w' b g cs fr n:=⟨h.head.ch c hb,h.rows.ch c a,h.len,h.hf,h.hn⟩
theorem eO.ch{w w':World}{D:Nat->Prop}{b g:Nat}{q:List Int}(h:eO w b g q)(c:Ch D w w')(hb:¬D b)(e:¬D g):eO w' b g q:=by
 obtain⟨cs,fr,a,d⟩:=h;exact⟨cs,fr,a.ch c hb e,d⟩
theorem kc(b g:Nat)(cs:List Int)(fr n i:Nat)(s:i<=64)(w:World)(h:du w b g cs fr n):
 Calls prog 101 #[(b,0),.int .i64 i] w (fun e w'=>e=.returned (.pointer (some (g,(fr+i)%64)))/\∃k,w'=w.drewN k):=by
 obtain⟨l,o⟩:=h.head.c2;have r:=h.hf;have t:=h.rows.lt;have q:=h.head.lt;have p:IntKind.i64.wrap ((fr:Int)+i)=(fr:Int)+i:=IntWalk.i64_in _ (by omega);have c:((fr:Int)+i).tmod 64=(((fr+i)%64:Nat):Int):=by rw[Int.tmod_eq_emod_of_nonneg (by omega)];omega
 have d:(0:Int)<=(((fr+i)%64:Nat):Int):=by omega
 have f:(((fr+i)%64:Nat):Int)<64:=by omega
 have j:IntKind.i64.wrap (((fr+i)%64:Nat):Int)=(((fr+i)%64:Nat):Int):=IntWalk.i64_in _ (by omega);obtain⟨m,a⟩:=mn ((fr+i)%64);rw[<-a]at c d f j⊢;clear a h;go_wp2
 go_quiet (fail)
 go_wp2
 go_ret;exact⟨rfl,_,rfl⟩
theorem zg{cs:List Int}{fr:Nat}{q:List Int}{v:Int}(c:cs.length=64)(d:q.length<64)(h:∀i,i<q.length->cs[(fr+i)%64]?=q[i]?):
 ∀i,i<(q++[v]).length->(cs.set ((fr+q.length)%64) v)[(fr+i)%64]?=(q++[v])[i]?:=by
 intro i b;rw[List.length_append,List.length_cons,List.length_nil]at b;by_cases a:i=q.length
 ·subst a
  rw[List.getElem?_set_self (by omega),List.getElem?_append_right (Nat.le_refl _)];simp
 ·rw[List.getElem?_set_ne (by omega),List.getElem?_append_left (by omega)]
  exact h i (by omega)
theorem du.set{w:World}{b g:Nat}{cs:List Int}{fr n:Nat}(h:du w b g cs fr n)(m:Nat)(v:Int):du (w.setCell (g,m) (.int .u64 v)) b g (cs.set m v) fr n:=
 ⟨h.head.other h.ne _,h.rows.bc _ _ (by rw[List.map_set]),by simpa using h.len,h.hf,h.hn⟩
theorem du.Fc{w:World}{b g:Nat}{cs:List Int}{fr n:Nat}(h:du w b g cs fr n)(m:Nat)(a:m<=64){v:Int}(c:v=(m:Int)):du (w.setCell (b,2) (.int .i64 v)) b g cs fr m:=by
 subst c;exact⟨h.head.bc _ _ rfl,h.rows.other (fun e=>h.ne e.symm) _,h.len,h.hf,a⟩
theorem du.cJ{w:World}{b g:Nat}{cs:List Int}{fr n:Nat}(h:du w b g cs fr n)(m:Nat)(a:m<64){v:Int}(c:v=(m:Int)):du (w.setCell (b,1) (.int .i64 v)) b g cs m n:=by
 subst c;exact⟨h.head.bc _ _ rfl,h.rows.other (fun e=>h.ne e.symm) _,h.len,a,h.hn⟩
def BR(ok:Bool)(b g:Nat)(a:List Int)(w:World)(e:Ending)(w':World):Prop:=
 (∃v,e=.returned v/\(if ok then v=.nilIface else ar v))/\eO w' b g a/\Ch (dp b g) w w'
def hp(q:List Int)(v:Int):Bool×List Int:=if q.length=64 then(false,q)else(true,q++[v])
theorem mr(b g:Nat)(q:List Int)(v:Int)(w:World)(h:eO w b g q):
 Calls prog 59 #[(b,0),.int .u64 v] w (BR (hp q v).1 b g (hp q v).2 w):=by
 obtain⟨cs,fr,d,o⟩:=h;have a:=Z d;have n:=Z o;have B:=d.head.c1;have r:=d.head.k 2 rfl;have f2:=d.head.free 2;have x:=d.hn;obtain⟨N,i⟩:=mn q.length;rw[<-i]at r x;have c:=Z i;clear d o i;by_cases f:N=64
 ·subst f
  have E:Hid (hp q v=(false,q)):=Z (by unfold hp;rw[if_pos c.out.symm]);go_wp2
  go_quiet (fail)
  go_wp2
  go_ret;rw[E];exact⟨⟨_,rfl,ar.mk _ _⟩,⟨cs,fr,(a.drewN _).alloc _,n⟩,((Ch.refl _ _).drewN _).alloc _⟩
 ·have E:Hid (hp q v=(true,q++[v])):=Z (by unfold hp;rw[if_neg (by rw[<-c.out];exact f)])
  have hb:((N:Int)==64)=false:=by rw[beq_eq_false_iff_ne];omega
  have y:N<64:=by omega
  have l:Hid (du w b g cs fr N):=Z (by rw[c];exact a);clear f;go_wp2
  go_quiet (fail)
  go_wp2_with fail
  refine(kc b g cs fr N N (by omega) _ (l.drewN _)).mono ?_;rintro e w1 ⟨rfl,k,rfl⟩;have s:∃u,w.cell? (g,(fr+N)%64)=some u:=by
   have C:=a.len;have:(cs.map (Value.int .u64))[(fr+N)%64]?=some (.int .u64 (cs[(fr+N)%64]'(by omega))):=(by rw[List.getElem?_map,List.getElem?_eq_getElem (by omega)];rfl);exact⟨_,a.rows.cell this⟩
  obtain⟨u,A⟩:=s;have t:=a.rows.free ((fr+N)%64);have z:=a.ne;obtain⟨m,j⟩:=mn ((fr+N)%64);rw[<-j]at A t⊢;have p:=Z j;have D:g≠b:=fun e=>z e.symm
  clear j;go_wp2
  go_ret;rw[E];refine⟨⟨_,rfl,rfl⟩,⟨cs.set m v,fr,?_,?_⟩,?_⟩
  ·rw[List.length_append,<-c]
   exact((l.drewN _).set m v).Fc (N+1) (by omega) rfl
  ·rw[p,c]
   exact zg a.len (by rw[<-c];exact y) n
  ·exact(((Ch.refl _ _).drewN _).jX _ _).hr _ _
def gU:List Int->Int×Bool×List Int
 |[]=>(0,false,[])
 |x::q=>(x,true,q)
def BS(x:Int×Bool×List Int)(b g:Nat)(w:World)(e:Ending)(w':World):Prop:=
 e=.returned (.tuple #[.int .u64 x.1,.bool x.2.1])/\eO w' b g x.2.2/\Ch (dp b g) w w'
theorem wW{cs:List Int}{fr:Nat}{x:Int}{q:List Int}(h:∀i,i<(x::q).length->cs[(fr+i)%64]?=(x::q)[i]?):
 ∀i,i<q.length->cs[((fr+1)%64+i)%64]?=q[i]?:=by
 intro i a;have:=h (i+1) (by simp;omega);rw[List.getElem?_cons_succ]at this;rw[<-this]
 congr 1
 omega
theorem qx(b g:Nat)(q:List Int)(w:World)(h:eO w b g q):
 Calls prog 191 #[(b,0)] w (BS (gU q) b g w):=by
 obtain⟨cs,fr,a,f⟩:=h;have z:=Z a;have s:=Z f;obtain⟨B,C,j⟩:=a.head.c3;have f1:=a.head.free 1;have f2:=a.head.free 2;cases q with
 |nil=>
  clear a f;go_wp2
  go_ret2;exact⟨rfl,⟨cs,fr,z,s⟩,Ch.refl _ _⟩
 |cons x q=>
  obtain⟨N,l⟩:=mn q.length;have G:=a.hn;rw[List.length_cons,<-l]at j G;have r:=Z l;have p:Hid (du w b g cs fr (N+1)):=Z (by rw[r];exact a);have hb:(((N+1:Nat):Int)==0)=false:=by rw[beq_eq_false_iff_ne];omega
  have v:=a.hf;have o:=f 0 (by simp);rw[Nat.add_zero,Nat.mod_eq_of_lt v]at o;have t:w.cell? (g,fr)=some (.int .u64 x):=a.rows.cell (by rw[List.getElem?_map,o];rfl);have K:IntKind.i64.wrap ((fr:Int)+1)=(fr:Int)+1:=IntWalk.i64_in _ (by omega);have D:((fr:Int)+1).tmod 64=(((fr+1)%64:Nat):Int):=by rw[Int.tmod_eq_emod_of_nonneg (by omega)];omega
  have E:IntKind.i64.wrap (((fr+1)%64:Nat):Int)=(((fr+1)%64:Nat):Int):=IntWalk.i64_in _ (by omega);obtain⟨m,n⟩:=mn ((fr+1)%64);rw[<-n]at D E;have A:=Z n;have F:m<64:=by omega
  have u:((N+1:Nat):Int)=(N:Int)+1:=by omega
  rw[u]at j hb;have L:(N:Int)+1-1=(N:Int):=by omega
  clear a f l n o u;go_in
  go_wp2_with fail
  refine(kc b g cs fr (N+1) 0 (by omega) _ p).mono ?_;rw[Nat.add_zero,Nat.mod_eq_of_lt v];rintro e w1 ⟨rfl,d⟩;have c:Hid (du w1 b g cs fr (N+1)):=Z (by obtain⟨k,rfl⟩:=d;exact p.drewN _);have y:Hid (Ch (dp b g) w w1):=Z (by obtain⟨k,rfl⟩:=d;exact(Ch.refl _ _).drewN _);obtain⟨d0,d1⟩:=c.head.c2;have d2:w1.cell? (b,2)=some (.int .i64 ((N:Int)+1)):=c.head.cell (i:=2) rfl;have J:w1.cell? (g,fr)=some (.int .u64 x):=by obtain⟨k,rfl⟩:=d;exact t
  have H:=c.head.free 1;have I:=c.head.free 2;clear B C j t f1 f2 d;go_wp2
  go_still_tail 12,(by kernel_rfl)
  change wpList _ _ _ _ _ w1.drew;go_wp2
  go_ret2;refine⟨rfl,⟨cs,m,?_,?_⟩,?_⟩
  ·show du _ b g cs m q.length
   rw[<-r];exact(c.drew.cJ m F rfl).Fc N (by omega) (by omega)
  ·rw[A]
   exact wW s
  ·exact(y.drew.hr _ _).hr _ _
structure Sl where
 id:Int
 ad:Int
 mask:Int
 b:Nat
def ptrTo:Option Nat->Value
 |none=> .pointer none
 |some b=> .pointer (some (b,0))
def bP(l:List Sl):List Value:=[ptrTo (l.head?.map Sl.b),ptrTo (l.getLast?.map Sl.b)]
theorem dL(qb lb:Nat)(g:Value)(a:Int)(n c:Nat)(d:1<=n)(f:n<=64)(w:World)(h:Row w qb 214 [.slice (some (lb,0)) n c,g]):
 Calls prog 123 #[(qb,0),.int .u64 a] w (eg (.int .i64 (bg a n)) w):=by
 have i:=h.c1;have b:=Z (fun w=>nc a n d f w);clear h;go_in
 go_wp2_with (go_at_call 149;refine(b _).mono ?_;rintro e w' ⟨rfl,rfl⟩)
 go_ret;exact eg.mk rfl
theorem tZ(qb lb c n k s:Nat)(p:Value)(Q:List Value)(id d mask:Int)(pv y:Value)(v:1<=n)(x:n<=64)(j:bg d n=k)(D:k<n)(w:World)
 (g:Row w qb 214 [.slice (some (lb,0)) n c,p]) (b:Row w lb 254 Q) (hlen:Q.length=n*2) (l:Q[k*2+1]?=some (.pointer none))
 (a:Row w s 256 [.int .u64 id,.int .u64 d,.int .u64 mask,pv,y]):
 Calls prog 207 #[(qb,0),(s,0)] w (fun e w'=>e=.returned (.tuple #[])/\
  Row w' lb 254 ((Q.set (k*2) (.pointer (some (s,0)))).set (k*2+1) (.pointer (some (s,0))))/\Row w' s 256 [.int .u64 id,.int .u64 d,.int .u64 mask,.pointer none,.pointer none]/\Ch (dp lb s) w w'):=by
 have i:=Z (fun w h=>dL qb lb p d n c v x w h);rw[j]at i;have t:=Z g;have r:=Z b;have u:=Z a;have f:lb≠s:=b.ne a (by decide);have m:s≠lb:=fun e=>f e.symm
 have z:=g.c1;have G:=a.k 1 rfl;have H:=a.k 3 rfl;have I:=a.k 4 rfl;have A:=a.free 3;have B:=a.free 4;have F:=b.cell l;obtain⟨q,o⟩:∃q,Q[k*2]?=some q:=⟨_,List.getElem?_eq_getElem (by omega)⟩;have E:=b.cell o;have k0:=b.free (k*2);have k1:=b.free (k*2+1);have C:(k:Int)<(n:Int):=by omega
 clear g b a j l o hlen;go_wp2
 go_quiet ((go_at_call 123;exact Calls.quiet_of_same (b5 (i _ t))))
 go_wp2
 go_end0
 refine⟨rfl,?_,?_,?_⟩
 ·exact(((((r.drewN _).other f _).other f _).set (k*2) _).set (k*2+1) _)
 ·exact((((u.drewN _).set 3 _).set 4 _).other m _).other m _
 ·exact(((((Ch.refl _ _).drewN _).jX _ _).jX _ _).hr _ _).hr _ _
theorem w8(qb lb c n k s t:Nat)(v:Value)(Q:List Value)(id f mask:Int)(pv K B L:Value)(z y A:Int)(G:1<=n)(H:n<=64)(l:bg f n=k)(R:k<n)(w:World)
 (i:Row w qb 214 [.slice (some (lb,0)) n c,v]) (a:Row w lb 254 Q) (hlen:Q.length=n*2) (m:Q[k*2+1]?=some (.pointer (some (t,0))))
 (b:Row w s 256 [.int .u64 id,.int .u64 f,.int .u64 mask,pv,K]) (d:Row w t 256 [.int .u64 z,.int .u64 y,.int .u64 A,B,L]) (r:s≠t):
 Calls prog 207 #[(qb,0),(s,0)] w (fun e w'=>e=.returned (.tuple #[])/\
  Row w' lb 254 (Q.set (k*2+1) (.pointer (some (s,0))))/\Row w' s 256 [.int .u64 id,.int .u64 f,.int .u64 mask,(t,0),.pointer none]/\
  Row w' t 256 [.int .u64 z,.int .u64 y,.int .u64 A,B,(s,0)]/\Ch (dD lb s t) w w'):=by
 have j:=Z (fun w h=>dL qb lb v f n c G H w h);rw[l]at j;have D:=Z i;have C:=Z a;have E:=Z b;have g:lb≠s:=a.ne b (by decide);have I:s≠lb:=fun e=>g e.symm
 have o:lb≠t:=a.ne d (by decide);have J:t≠lb:=fun e=>o e.symm
 have u:t≠s:=fun e=>r e.symm
 have F:=Z d;have t4:=d.k 4 rfl;have u4:=d.free 4;have M:=i.c1;have U:=b.k 1 rfl;have V:=b.k 3 rfl;have W:=b.k 4 rfl;have N:=b.free 3;have O:=b.free 4;have T:=a.cell m;obtain⟨x,q⟩:∃x,Q[k*2]?=some x:=⟨_,List.getElem?_eq_getElem (by omega)⟩;have S:=a.cell q;have k0:=a.free (k*2);have k1:=a.free (k*2+1);have P:(k:Int)<(n:Int):=by omega
 clear i a b d l m q hlen;go_wp2
 go_quiet ((go_at_call 123;exact Calls.quiet_of_same (b5 (j _ D))))
 go_wp2
 go_end0
 refine⟨rfl,?_,?_,?_,?_⟩
 ·exact((((C.drewN _).other g _).other g _).other o _).set (k*2+1) _
 ·exact((((E.drewN _).set 3 _).set 4 _).other r _).other I _
 ·exact((((F.drewN _).other u _).other u _).set 4 _).other J _
 ·exact(((((Ch.refl _ _).drewN _).g5 (p:=⟨s,3,none⟩) (Or.inr (Or.inl rfl)) _).g5 (p:=⟨s,4,none⟩) (Or.inr (Or.inl rfl)) _).g5 (p:=⟨t,4,none⟩) (Or.inr (Or.inr rfl)) _).g5 (p:=⟨lb,k*2+1,none⟩) (Or.inl rfl) _
theorem rS(qb lb c n k s:Nat)(m:Value)(Q:List Value)(id d mask:Int)(t:1<=n)(u:n<=64)(i:bg d n=k)(z:k<n)(w:World)
 (f:Row w qb 214 [.slice (some (lb,0)) n c,m]) (a:Row w lb 254 Q) (hlen:Q.length=n*2)
 (b:Row w s 256 [.int .u64 id,.int .u64 d,.int .u64 mask,.pointer none,.pointer none]):
 Calls prog 137 #[(qb,0),(s,0)] w (fun e w'=>e=.returned (.tuple #[])/\
  Row w' lb 254 ((Q.set (k*2) (.pointer none)).set (k*2+1) (.pointer none))/\Ch (aL lb) w w'):=by
 have g:=Z (fun w h=>dL qb lb m d n c t u w h);rw[i]at g;have r:=Z f;have q:=Z a;have v:lb≠s:=a.ne b (by decide);have A:s≠lb:=fun e=>v e.symm
 have x:=f.c1;have D:=b.k 1 rfl;have E:=b.k 3 rfl;have F:=b.k 4 rfl;obtain⟨p,l⟩:∃p,Q[k*2+1]?=some p:=⟨_,List.getElem?_eq_getElem (by omega)⟩;have C:=a.cell l;obtain⟨o,j⟩:∃o,Q[k*2]?=some o:=⟨_,List.getElem?_eq_getElem (by omega)⟩;have B:=a.cell j;have k0:=a.free (k*2);have k1:=a.free (k*2+1);have y:(k:Int)<(n:Int):=by omega
 clear f a b i j l hlen;go_wp2
 go_quiet ((go_at_call 123;exact Calls.quiet_of_same (b5 (g _ r))))
 go_wp2
 go_end0
 refine⟨rfl,?_,?_⟩
 ·exact((q.drewN _).set (k*2) _).set (k*2+1) _
 ·exact(((Ch.refl _ _).drewN _).only _ _).only _ _
theorem qC(qb lb c n k s x:Nat)(u:Value)(Q:List Value)(id i mask A z B:Int)(O C:Value)(J:1<=n)(K:n<=64)(o:bg i n=k)(U:k<n)(w:World)
 (j:Row w qb 214 [.slice (some ⟨lb,0,none⟩) n c,u]) (a:Row w lb 254 Q) (hlen:Q.length=n*2)
 (b:Row w s 256 [.int .u64 id,.int .u64 i,.int .u64 mask,.pointer none,.pointer (some ⟨x,0,none⟩)]) (d:Row w x 256 [.int .u64 A,.int .u64 z,.int .u64 B,O,C]) (V:s≠x):
 Calls prog 137 #[.pointer (some ⟨qb,0,none⟩),.pointer (some ⟨s,0,none⟩)] w (fun e w'=>e=.returned (.tuple #[])/\
  Row w' lb 254 (Q.set (k*2) (.pointer (some ⟨x,0,none⟩)))/\Row w' x 256 [.int .u64 A,.int .u64 z,.int .u64 B,.pointer none,C]/\Ch (dp lb x) w w'):=by
 have l:=Z (fun w h=>dL qb lb u i n c J K w h);rw[o]at l;have G:=Z j;have E:=Z a;have L:lb≠s:=a.ne b (by decide);have M:s≠lb:=fun e=>L e.symm
 have q:lb≠x:=a.ne d (by decide);have N:x≠lb:=fun e=>q e.symm
 have H:=Z b;have I:=Z d;have x3:=d.k 3 rfl;have a2:=d.free 3;have P:=j.c1;have Y:=b.k 1 rfl;have a0:=b.k 3 rfl;have a1:=b.k 4 rfl;obtain⟨y,t⟩:∃y,Q[k*2+1]?=some y:=⟨_,List.getElem?_eq_getElem (by omega)⟩;have X:=a.cell t;obtain⟨v,r⟩:∃v,Q[k*2]?=some v:=⟨_,List.getElem?_eq_getElem (by omega)⟩;have W:=a.cell r;have k0:=a.free (k*2);have k1:=a.free (k*2+1);have T:(k:Int)<(n:Int):=by omega
 clear j a b d o r t hlen;go_wp2
 go_quiet ((go_at_call 123;exact Calls.quiet_of_same (b5 (l _ G))))
 obtain⟨w1,f⟩:=nm ((w.drewN nq).setCell ⟨lb,k*2,none⟩ (.pointer (some ⟨x,0,none⟩)));have F:=Z (f▸(E.drewN nq).set (k*2) (.pointer (some ⟨x,0,none⟩)));have m:Hid (Row w1 s 256 _):=Z (f▸(H.drewN nq).other (p:=⟨lb,k*2,none⟩) M (.pointer (some ⟨x,0,none⟩)));have g:Hid (Row w1 x 256 _):=Z (f▸(I.drewN nq).other (p:=⟨lb,k*2,none⟩) N (.pointer (some ⟨x,0,none⟩)));have D:Hid (Ch (dp lb x) w w1):=Z (f▸((Ch.refl _ _).drewN nq).hr _ _);have d3:=m.k 3 rfl;have d4:=m.k 4 rfl;have R:=g.k 3 rfl;have S:=g.free 3;go_wp2
 go_still_tail 10,(by kernel_rfl)
 go_wp2
 go_end0
 refine⟨rfl,?_,?_,?_⟩
 ·exact F.drew.other q _
 ·exact g.drew.set 3 _
 ·exact D.drew.jX _ _
theorem rT(qb lb c n k s x:Nat)(v:Value)(Q:List Value)(id l mask B A C:Int)(D V:Value)(M:1<=n)(N:n<=64)(t:bg l n=k)(ad:k<n)(w:World)
 (m:Row w qb 214 [.slice (some (lb,0)) n c,v]) (a:Row w lb 254 Q) (hlen:Q.length=n*2)
 (b:Row w s 256 [.int .u64 id,.int .u64 l,.int .u64 mask,(x,0),.pointer none]) (f:Row w x 256 [.int .u64 B,.int .u64 A,.int .u64 C,D,V]) (R:s≠x):
 Calls prog 137 #[(qb,0),(s,0)] w (fun e w'=>e=.returned (.tuple #[])/\
  Row w' lb 254 (Q.set (k*2+1) (.pointer (some (x,0))))/\Row w' x 256 [.int .u64 B,.int .u64 A,.int .u64 C,D,.pointer none]/\Ch (dp lb x) w w'):=by
 have q:=Z (fun w h=>dL qb lb v l n c M N w h);rw[t]at q;have G:=Z m;have F:=Z a;have O:lb≠s:=a.ne b (by decide);have al:s≠lb:=fun e=>O e.symm
 have u:lb≠x:=a.ne f (by decide);have P:x≠lb:=fun e=>u e.symm
 have J:=Z b;have K:=Z f;have x4:=f.k 4 rfl;have W:=f.free 4;have am:x≠s:=fun e=>R e.symm
 have L:=m.c1;have S:=b.k 1 rfl;have T:=b.k 3 rfl;have U:=b.k 4 rfl;obtain⟨z,p⟩:∃z,Q[k*2+1]?=some z:=⟨_,List.getElem?_eq_getElem (by omega)⟩;have av:=a.cell p;have I:=Z p;obtain⟨y,o⟩:∃y,Q[k*2]?=some y:=⟨_,List.getElem?_eq_getElem (by omega)⟩;have ap:=a.cell o;have H:=Z o;have k0:=a.free (k*2);have k1:=a.free (k*2+1);have ab:(k:Int)<(n:Int):=by omega
 clear m a b f t o p hlen;go_wp2
 go_quiet ((go_at_call 123;exact Calls.quiet_of_same (b5 (q _ G))))
 obtain⟨i,d⟩:=nm (w.drewN nq);have g:=Z (d▸F.drewN nq);have r:Hid (Row i s 256 _):=Z (d▸J.drewN nq);have j:Hid (Row i x 256 _):=Z (d▸K.drewN nq);have E:Hid (Ch (dp lb x) w i):=Z (d▸(Ch.refl _ _).drewN nq);have a3:=r.k 3 rfl;have X:=r.k 4 rfl;have Y:=j.k 4 rfl;have f4:=j.free 4;rw[d];clear d L S T U x4 W;go_wp2
 go_still_tail 10,(by kernel_rfl)
 change wpList _ _ _ _ _ i.drew;have a0:=g.cell H;have a1:=g.cell I;have a2:=g.free (k*2+1);go_wp2
 go_end0
 refine⟨rfl,?_,?_,?_⟩
 ·exact(g.drew.other u _).set (k*2+1) _
 ·exact(j.drew.set 4 _).other P _
 ·exact(E.drew.jX _ _).hr _ _
theorem t'(qb lb c n k s x y:Nat)(D:Value)(Q:List Value)(id p mask H G I:Int)(J bv c0 N:Value)(L K M:Int)(a2:1<=n)(ab:n<=64)(z:bg p n=k)(c6:k<n)(w:World)
 (q:Row w qb 214 [.slice (some ⟨lb,0,none⟩) n c,D]) (a:Row w lb 254 Q) (hlen:Q.length=n*2)
 (d:Row w s 256 [.int .u64 id,.int .u64 p,.int .u64 mask,.pointer (some ⟨x,0,none⟩),.pointer (some ⟨y,0,none⟩)]) (i:Row w x 256 [.int .u64 H,.int .u64 G,.int .u64 I,J,bv]) (C:Row w y 256 [.int .u64 L,.int .u64 K,.int .u64 M,c0,N]) (A:s≠x) (am:s≠y) (B:x≠y):
 Calls prog 137 #[.pointer (some ⟨qb,0,none⟩),.pointer (some ⟨s,0,none⟩)] w (fun e w'=>e=.returned (.tuple #[])/\
  Row w' x 256 [.int .u64 H,.int .u64 G,.int .u64 I,J,.pointer (some ⟨y,0,none⟩)]/\Row w' y 256 [.int .u64 L,.int .u64 K,.int .u64 M,.pointer (some ⟨x,0,none⟩),N]/\Ch (dp x y) w w'):=by
 have u:=Z (fun w h=>dL qb lb D p n c a2 ab w h);rw[z]at u;have S:=Z q;have R:=Z a;have ad:lb≠s:=a.ne d (by decide);have c7:s≠lb:=fun e=>ad e.symm
 have al:lb≠x:=a.ne i (by decide);have c8:x≠lb:=fun e=>al e.symm
 have T:=Z d;have U:=Z i;have W:=Z C;have ap:y≠x:=fun e=>B e.symm
 have cb:y≠s:=fun e=>am e.symm
 have x4:=i.k 4 rfl;have bx:=i.free 4;have c9:x≠s:=fun e=>A e.symm
 have a0:=q.c1;have av:=d.k 1 rfl;have ax:=d.k 3 rfl;have bi:=d.k 4 rfl;obtain⟨F,t⟩:∃F,Q[k*2+1]?=some F:=⟨_,List.getElem?_eq_getElem (by omega)⟩;have ce:=a.cell t;have c3:=Z t;obtain⟨E,r⟩:∃E,Q[k*2]?=some E:=⟨_,List.getElem?_eq_getElem (by omega)⟩;have cd:=a.cell r;have c2:=Z r;have k0:=a.free (k*2);have k1:=a.free (k*2+1);have c5:(k:Int)<(n:Int):=by omega
 clear q a d i C z r t hlen;go_wp2
 go_quiet ((go_at_call 123;exact Calls.quiet_of_same (b5 (u _ S))))
 obtain⟨g,b⟩:=nm (w.drewN nq);have c1:=Z (b▸R.drewN nq);have j:Hid (Row g s 256 _):=Z (b▸T.drewN nq);have l:Hid (Row g x 256 _):=Z (b▸U.drewN nq);have O:Hid (Ch (dp x y) w g):=Z (b▸(Ch.refl _ _).drewN nq);have m:Hid (Row g y 256 _):=Z (b▸W.drewN nq);have a3:=j.k 3 rfl;have X:=j.k 4 rfl;have Y:=l.k 4 rfl;have f4:=l.free 4;have bw:=m.k 3 rfl;have a1:=m.free 3;rw[b];clear b a0 av ax bi x4 bx;go_wp2
 go_still_tail 10,(by kernel_rfl)
 change wpList _ _ _ _ _ g.drew;obtain⟨w1,f⟩:=nm (g.drew.setCell ⟨x,4,none⟩ (.pointer (some ⟨y,0,none⟩)));have v:Hid (Row w1 s 256 _):=Z (f▸j.drew.other A (.pointer (some ⟨y,0,none⟩)));have V:=Z (f▸l.drew.set 4 (.pointer (some ⟨y,0,none⟩)));have o:Hid (Row w1 y 256 _):=Z (f▸m.drew.other ap (.pointer (some ⟨y,0,none⟩)));have P:Hid (Ch (dp x y) w w1):=Z (f▸O.drew.hr _ _);have d3:=v.k 3 rfl;have d4:=v.k 4 rfl;have cf:=o.k 3 rfl;have c4:=o.free 3;go_wp2_with fail
 try rw[f]
 clear f a3 X Y f4 bw a1;go_wp2
 go_still_tail 10,(by kernel_rfl)
 change wpList _ _ _ _ _ w1.drew;go_wp2
 go_end0
 refine⟨rfl,?_,?_,?_⟩
 ·exact V.drew.other B _
 ·exact o.drew.set 3 _
 ·exact P.drew.jX _ _
def sU(ok:Bool)(w:World)(e:Ending)(w':World):Prop:=(∃u,e=.returned u/\(if ok then u=.nilIface else ar u))/\Ch ag w w'
theorem lY(p n:Int)(w:World):Calls prog 90 #[p,n] w (sU (decide (0<=p/\p<n)) w):=by
 have c:p<0∨(¬p<0/\n<=p)∨(¬p<0/\¬n<=p):=by omega
 rcases c with a|⟨a,b⟩|⟨a,b⟩
 ·have E:Hid (decide (0<=p/\p<n)=false):=Z (by rw[decide_eq_false_iff_not];omega)
  go_in
  go_wp2_with (go_at_call 88;refine(bo _ _ _ _).mono ?_;rintro e w' ⟨rfl,rfl⟩)
  go_ret;rw[E];exact⟨⟨_,rfl,ar.mk _ _⟩,(Ch.refl _ _).alloc _⟩
 ·have E:Hid (decide (0<=p/\p<n)=false):=Z (by rw[decide_eq_false_iff_not];omega)
  have d:0<=p:=by omega
  go_in
  go_wp2_with (go_at_call 88;refine(bo _ _ _ _).mono ?_;rintro e w' ⟨rfl,rfl⟩)
  go_ret;rw[E];exact⟨⟨_,rfl,ar.mk _ _⟩,(Ch.refl _ _).alloc _⟩
 ·have E:Hid (decide (0<=p/\p<n)=true):=Z (by rw[decide_eq_true_iff];omega)
  go_wp2
  go_ret;exact⟨⟨_,rfl,rfl⟩,Ch.refl _ _⟩
theorem vV(e:Addr)(tb:Nat)(c:Value)(w:World)(g:w.cell? (0,0)=some (.iface 335 (.agg #[(1,40)])))(b:w.cell? (tb,0)=some c)(f:w.frozen? (tb,0)=false):
 Calls prog 125 #[.iface 197 (.pointer (some e)),.iface 264 (.pointer (some (tb,0)))] w fun d w'=>d=.returned (.bool true)/\w'.cell? (tb,0)=some (.pointer (some e))/\Ch (aL tb) w w':=by
 have a:=World.block_lt_of_cell? w _ b;refine(DP e ⟨tb,0,none⟩ c w g b f).mono ?_;rintro d w' ⟨rfl,rfl⟩;refine⟨rfl,?_,(((((Ch.refl _ _).alloc _).alloc _).alloc _).alloc _).only _ _⟩;refine World.cell?_setCell_same _ _ _ (?_:World.cell? _ _=some c);rw[World.cell?_alloc_past _ _ _ (by simp at a⊢;omega),World.cell?_alloc_past _ _ _ (by simp at a⊢;omega),World.cell?_alloc_past _ _ _ (by simp at a⊢;omega),World.cell?_alloc_past _ _ _ (by simpa using a)];exact b
theorem sV(l:List aR)(a:Option Addr)(c:Nat)(r:Bool)(B:l.length<=2048)(y:l.length<=c)(w:World)(C:l≠[]->∃g,a=some ⟨g,0,none⟩/\fo w g l)
 (q:w.cell? (0,0)=some (.iface 335 (.agg #[(1,40)]))):
 Calls prog 89 #[.slice a l.length c,.bool r] w (sU (gS l.length r l 0).isNone w):=by
 obtain⟨w1,E⟩:=nm (w.alloc (.cells #[.pointer none] 197));have f:=Z (Ch.al (D:=ag) E);have F:Hid (l≠[]->∃g,a=some ⟨g,0,none⟩/\fo w1 g l):=Z (fun h=>by obtain⟨g,e,q⟩:=C h;exact⟨g,e,q.ch f id⟩);have s:=Z (Row.al E);have v:Hid (w1.cell? (0,0)=some (.iface 335 (.agg #[(1,40)]))):=Z (f.k q);have o:=Z (pg l a c r B y w1 F);obtain⟨N,x⟩:=mn l.length;rw[<-x]at o⊢;obtain⟨k,A⟩:=nm (gS N r l 0);rw[A]at o⊢;clear C q B y x A;cases k with
 |none=>
  go_in
  go_wp2_with (first|(go_at_call 115;refine o.mono ?_;rintro e w2 ⟨rfl,n⟩;have d:=Z (Ch.b4 n);clear n)|(go_at_call 125;refine(DL _ _).mono ?_;rintro e w' ⟨rfl,rfl⟩))
  go_ret;exact⟨⟨_,rfl,rfl⟩,f.trans d⟩
 |some i=>
  go_in
  go_wp2_with (first|(go_at_call 115;refine o.mono ?_;rintro e w2 ⟨b,rfl,G,hb,n⟩;have d:=Z (Ch.b4 n);have u:=Z hb;clear n hb))
  refine(vV ⟨b,0,none⟩ w.heap.size (.pointer none) w2 ((d.cell (aP v) id).trans v) ((s.ch d id).cell (i:=0) rfl) ((s.ch d id).free 0)).mono ?_;rintro e w3 ⟨rfl,J,t⟩;have m:=Z t;have K:w.heap.size<w1.heap.size:=s.lt;have I:w3.cell? (b,1)=some (.int .i64 i):=(t.cell (p:=⟨b,1,none⟩) (Array.getElem?_eq_some_iff.1 u).1 (fun e=>by have:b=w.heap.size:=e;omega)).trans ((show Row w2 b 199 _ from u.out).cell (i:=1) rfl);clear t G;go_wp2_with (go_at_call 88;refine(bo _ _ _ _).mono ?_;rintro e w' ⟨rfl,rfl⟩)
  go_ret;refine⟨⟨_,rfl,ar.mk _ _⟩,Ch.alloc ?_ _⟩;exact⟨m.os.trans (f.trans d).os,m.tape.trans (f.trans d).tape,m.out.output.trans (f.trans d).output,Nat.le_trans (f.trans d).size m.size,fun j z H=>(m.same j (Nat.lt_of_lt_of_le z (f.trans d).size) (fun e=>by have:j=w.heap.size:=e;omega)).trans ((f.trans d).same j z H)⟩
end Go.Proofs.YtfnilkpkogipfaaGreatDoor
