import Derived.Laws.MakeOwn
import Derived.Deep.RegionLawGrows
import Derived.Laws.CopyRow
import Derived.Deep.LoopGhost
import Derived.Deep.DrawnRows
import Derived.Test.YtfnilkpkogipfaaGreatDoorZAa
set_option linter.all false
set_option maxRecDepth 100000
set_option maxHeartbeats 8000000
namespace Go.Proofs.YtfnilkpkogipfaaGreatDoor
open Go.RowKit Go.Proofs.Tryz
structure fs(w:World)(b o:Nat)(pc:Int)(r:Nat->Int):Prop where
 pc:w.cell? (b,o)=some (.int .i64 pc)
 ph:∀k,k<32->w.cell? ⟨b,o+1+k,none⟩=some (.int .u64 (r k))
def iu(n:Int):Bool:=decide (0<=n)&&decide (n<32)
theorem pj(n:Int)(w:World):Calls prog 120 #[n] w (eg (.bool (iu n)) w):=by
 by_cases a:0<=n
 ·have E:Hid (iu n=decide (n<32)):=Z (by unfold iu;simp[a])
  go_wp2
  go_ret;exact eg.mk (by rw[E];rfl)
 ·have b:decide (0<=n)=false:=by simpa using a
  have E:Hid (iu n=false):=Z (by unfold iu;simp[a]);go_wp2
  go_ret;exact eg.mk (by rw[E];rfl)
def gT(r:Nat->Int)(n:Int):Int:=if 0<=n/\n<32 then r n.toNat else 0
theorem np(b f:Nat)(pc:Int)(r:Nat->Int)(n:Int)(w:World)(h:fs w b f pc r):Calls prog 72 #[(b,f),n] w (eg (.int .u64 (gT r n)) w):=by
 by_cases c:0<=n/\n<32
 ·have E:Hid (gT r n=r n.toNat):=Z (by unfold gT;rw[if_pos c])
  have a:iu n=true:=by unfold iu;simp[c]
  have d:=Z a;obtain⟨g,i⟩:=c;have j:=h.ph n.toNat (by omega);clear a;go_in
  go_wp2_with (go_at_call 120;refine(pj _ _).mono ?_;rw[d];rintro e w' ⟨rfl,rfl⟩)
  go_ret;exact eg.mk (by rw[E];rfl)
 ·have E:Hid (gT r n=0):=Z (by unfold gT;rw[if_neg c])
  have a:iu n=false:=by unfold iu;simp;omega
  have d:=Z a;clear a;go_in
  go_wp2_with (go_at_call 120;refine(pj _ _).mono ?_;rw[d];rintro e w' ⟨rfl,rfl⟩)
  go_ret;exact eg.mk (by rw[E];rfl)
def iv(r:Nat->Int)(x:aR):Int:=if x.c=-1 then x.v else gT r x.c
theorem fs.alloc{w:World}{b a:Nat}{pc:Int}{r:Nat->Int}(h:fs w b a pc r)(x:Obj):fs (w.alloc x) b a pc r:=
 ⟨nb h.pc x,fun k c=>nb (h.ph k c) x⟩
theorem wF(b c:Nat)(pc:Int)(r:Nat->Int)(x:aR)(w:World)(h:fs w b c pc r):Calls prog 73 #[(b,c),aK x] w (dc (.int .u64 (iv r x)) w):=by
 have H:=Z (h.alloc (.cells (aG x) 121 (0,0)));unfold aK aG;by_cases a:x.c=-1
 ·have E:Hid (iv r x=x.v):=Z (by unfold iv;rw[if_pos a])
  go_wp2
  go_ret;exact dc.mk (by rw[E];rfl) ((Ch.refl _ _).alloc _)
 ·have E:Hid (iv r x=gT r x.c):=Z (by unfold iv;rw[if_neg a])
  have hb:(x.c==-1)=false:=by simpa using a
  go_in
  go_wp2_with (go_at_call 72;refine(np b c pc r _ _ H).mono ?_;rintro e w' ⟨rfl,rfl⟩)
  go_ret;exact dc.mk (by rw[E];rfl) ((Ch.refl _ _).alloc _)
theorem fs.ch{w w':World}{D:Nat->Prop}{b e:Nat}{pc:Int}{r:Nat->Int}(h:fs w b e pc r)(c:Ch D w w')(a:¬D b):fs w' b e pc r:=
 ⟨(c.cell (aP h.pc) a).trans h.pc,fun k d=>(c.cell (aP (h.ph k d)) a).trans (h.ph k d)⟩
theorem fs.drew{w:World}{b a:Nat}{pc:Int}{r:Nat->Int}(h:fs w b a pc r):fs w.drew b a pc r:=⟨h.pc,h.ph⟩
def dt(r:Nat->Int)(x:aR):Int:=if x.b=-1 then x.v else rr 64 (gT r x.b) x.v
theorem kB(b c:Nat)(pc:Int)(r:Nat->Int)(x:aR)(w:World)(h:fs w b c pc r):Calls prog 116 #[(b,c),aK x] w (dc (.int .u64 (dt r x)) w):=by
 have H:=Z (h.alloc (.cells (aG x) 121 (0,0)));unfold aK aG;by_cases d:x.b=-1
 ·have E:Hid (dt r x=x.v):=Z (by unfold dt;rw[if_pos d])
  go_wp2
  go_ret;exact dc.mk (by rw[E];rfl) ((Ch.refl _ _).alloc _)
 ·have E:Hid (dt r x=rr 64 (gT r x.b) x.v):=Z (by unfold dt;rw[if_neg d])
  have hb:(x.b==-1)=false:=by simpa using d
  clear d;go_wp2
  obtain⟨w1,a⟩:=nm (w.alloc (.cells #[x.op,x.a,x.b,x.c,.int .u64 x.v,x.m,x.wh] 121));have e:Hid (fs w1 b c pc r):=Z (by rw[<-a];exact H);have g:=Z (Ch.al (D:=ag) a);have t2:w1.cell? (w.heap.size,2)=some (.int .i64 x.b):=by rw[<-a];simp
  have t4:w1.cell? (w.heap.size,4)=some (.int .u64 x.v):=by rw[<-a];simp
  rw[a];clear a;obtain⟨tb,f⟩:=mn w.heap.size;rw[<-f]at t2 t4⊢;clear f;go_quiet ((first|(go_at_call 72;exact Calls.quiet_of_same (b5 (np b c pc r _ _ (show fs _ b c pc r from⟨e.pc,e.ph⟩))))|(go_at_call 117;exact Calls.quiet_of_same (b5 (qa _ _ _ _)))))
  go_wp2
  go_ret;exact dc.mk (by rw[E];rfl) (g.drewN _)
def vr(b:Bool):Int:=if b then 1 else 0
theorem y5(b:Bool)(w:World):Calls prog 119 #[.bool b] w (eg (.int .u64 (vr b)) w):=by
 cases b
 all_goals
  go_wp2
  go_ret;exact eg.mk rfl
def Fb(b c:Int):Int:=IntKind.u64.wrap (b*2^min (bits .and .u64 c 63).toNat 64)
def Bw(b c:Int):Int:=b.fdiv (2^min (bits .and .u64 c 63).toNat 64)
theorem Bx(b c:Int)(w:World):(Op.shift .shl .u64 b .u64 (bits .and .u64 c 63)).run prog w=.ok (.int .u64 (Fb b c)) w:=by
 have:=(iX .and c 63).lo;unfold Op.shift;rw[if_neg (by omega)];rfl
theorem By(b c:Int)(w:World):(Op.shift .shr .u64 b .u64 (bits .and .u64 c 63)).run prog w=.ok (.int .u64 (Bw b c)) w:=by
 have:=(iX .and c 63).lo;unfold Op.shift;rw[if_neg (by omega)];rfl
theorem Bz(b c:Int)(h:aI b):aI (Bw b c):=by
 have a:=h.lo;have d:=h.hi;unfold Bw;have e:(0:Int)<2^min (bits .and .u64 c 63).toNat 64:=Int.pow_pos (by omega);rw[Int.fdiv_eq_ediv_of_nonneg _ (by omega)];exact⟨Int.ediv_nonneg a (by omega),Int.lt_of_le_of_lt (Int.ediv_le_self _ a) d⟩
def hy(x:aR)(b c:Int):Int:=
 if x.op=1 then x.v
 else if x.op=3 then rr 64 b c
 else if x.op=4 then yU 64 b c
 else if x.op=5 then bits .and .u64 b c
 else if x.op=6 then bits .or .u64 b c
 else if x.op=7 then bits .xor .u64 b c
 else if x.op=8 then Fb b c
 else if x.op=9 then Bw b c
 else if x.op=10 then vr (b==c)
 else if x.op=11 then vr (decide (b<c))
 else b
theorem y6(b:Bool):aI (vr b):=by cases b<;>exact⟨by decide,by decide⟩
theorem tS(x:aR)(b c:Int)(a:aI x.v)(hb:aI b):aI (hy x b c):=by
 unfold hy
 repeat' split
 all_goals first|exact a|exact mY _ _ _|exact yV _ _ _|exact iX _ _ _|exact cx _|exact Bz _ _ hb|exact y6 _|exact hb
theorem tT(x:aR)(b c:Int)(w:World):Calls prog 71 #[aK x,.int .u64 b,.int .u64 c] w (dc (.int .u64 (hy x b c)) w):=by
 unfold aK aG;have a:=Bx b c;have d:=By b c;go_in
 go_wp2_with (first|(go_at_call 117;refine(qa _ _ _ _).mono ?_;rintro e w' ⟨rfl,rfl⟩)|(go_at_call 118;refine(yW _ _ _ _).mono ?_;rintro e w' ⟨rfl,rfl⟩)|(go_at_call 119;refine(y5 _ _).mono ?_;rintro e w' ⟨rfl,rfl⟩))
 all_goals
  go_ret;refine dc.mk ?_ ((Ch.refl _ _).alloc _);simp only[beq_iff_eq,beq_eq_false_iff_ne,ne_eq]at*;unfold hy
  repeat first
   |rfl
   |rw[if_pos (by omega)]
   |rw[if_neg (by omega)]
def mP(x:Option Int)(post:World->Prop)(e:Ending)(w':World):Prop:=
 (match x with
  |some v=>e=.returned (.tuple #[.int .u64 v,.nilIface])
  |none=>∃n v,e=.returned (.tuple #[.int .u64 n,v])/\ar v)/\post w'
def Gn(ok:Bool)(post:World->Prop)(e:Ending)(w':World):Prop:=(∃v,e=.returned v/\(if ok then v=.nilIface else ar v))/\post w'
structure qt(T:TypeId)(X:Value)(σ:Type) where
 At:σ->World->Prop
 vA:σ->World->Prop
 Ok:σ->Prop
 D:Nat->Prop
 acc:σ->Int->Int->Int->Int->Option Int×σ
 FL:FuncId
 FS:FuncId
 FW:FuncId
 FA:FuncId
 FC:FuncId
 mL:∀w,(Go.method 494 T X "Load").run prog w=.ok (FL,X) w
 mS:∀w,(Go.method 494 T X "Store").run prog w=.ok (FS,X) w
 mW:∀w,(Go.method 494 T X "Swap").run prog w=.ok (FW,X) w
 mA:∀w,(Go.method 494 T X "Add").run prog w=.ok (FA,X) w
 mC:∀w,(Go.method 494 T X "Cas").run prog w=.ok (FC,X) w
 nC:∀w,(nilAhead 494 T X "Cas").run prog w=.ok (some false) w
 eL:∀args w,(callFunc FL args).run prog w=.ok (.enter FL args) w
 eS:∀args w,(callFunc FS args).run prog w=.ok (.enter FS args) w
 eW:∀args w,(callFunc FW args).run prog w=.ok (.enter FW args) w
 eA:∀args w,(callFunc FA args).run prog w=.ok (.enter FA args) w
 eC:∀args w,(callFunc FC args).run prog w=.ok (.enter FC args) w
 keep:∀S w w',At S w->Ch ag w w'->At S w'
 Dd:∀S w,At S w->vA S w
 zf:∀S w w',vA S w->Ch ag w w'->vA S w'
 cL:∀S a w,Ok S->aI a->At S w->Calls prog FL #[X,.int .u64 a] w (mP (acc S 0 a 0 0).1 (fun w'=>vA (acc S 0 a 0 0).2 w'/\Ch D w w'))
 cS:∀S a v w,Ok S->aI a->aI v->At S w->Calls prog FS #[X,.int .u64 a,.int .u64 v] w (Gn (acc S 1 a 0 v).1.isSome (fun w'=>vA (acc S 1 a 0 v).2 w'/\Ch D w w'))
 cW:∀S a v w,Ok S->aI a->aI v->At S w->Calls prog FW #[X,.int .u64 a,.int .u64 v] w (mP (acc S 2 a 0 v).1 (fun w'=>vA (acc S 2 a 0 v).2 w'/\Ch D w w'))
 cA:∀S a v w,Ok S->aI a->aI v->At S w->Calls prog FA #[X,.int .u64 a,.int .u64 v] w (mP (acc S 3 a 0 v).1 (fun w'=>vA (acc S 3 a 0 v).2 w'/\Ch D w w'))
 cC:∀S a o v w,Ok S->aI a->aI o->aI v->At S w->Calls prog FC #[X,.int .u64 a,.int .u64 o,.int .u64 v] w (mP (acc S 4 a o v).1 (fun w'=>vA (acc S 4 a o v).2 w'/\Ch D w w'))
def bQ{a:Type}(acc:a->Int->Int->Int->Int->Option Int×a)(S:a)(x:aR)(r:Nat->Int):Option Int×a:=
 let at_:=dt r x
 let v:=r x.a.toNat
 if x.op=17 then acc S 0 at_ 0 0
 else if x.op=18 then((acc S 1 at_ 0 v).1.map fun _=>v,(acc S 1 at_ 0 v).2)
 else if x.op=19 then acc S 2 at_ 0 v
 else if x.op=20 then acc S 3 at_ 0 v
 else acc S 4 at_ v (r x.c.toNat)
theorem wO{r:Nat->Int}(a:∀k,k<32->aI (r k))(n:Int):aI (gT r n):=by
 unfold gT;split
 ·exact a _ (by omega)
 ·exact⟨by decide,by decide⟩
theorem jI{r:Nat->Int}(b:∀k,k<32->aI (r k))(x:aR)(a:aI x.v):aI (dt r x):=by
 unfold dt;split
 ·exact a
 ·exact mY 64 _ _
theorem qu{T:TypeId}{X:Value}{Y:Type}(a:qt T X Y)(S:Y)(ab:Hid (a.Ok S))(b t:Nat)(pc:Int)(r:Nat->Int)(x:aR)(cl:0<=x.a/\x.a<32)(W:x.op=17∨x.op=18∨x.op=19∨x.op=20∨(x.op=21/\0<=x.c/\x.c<32))(bx:∀k,k<32->aI (r k))(c9:aI x.v)
 (w:World) (h:fs w b t pc r) (c7:a.At S w):
 Calls prog 69 #[(b,t),aK x,.iface T X] w (mP (bQ a.acc S x r).1 (fun w'=>a.vA (bQ a.acc S x r).2 w'/\Ch a.D w w')):=by
 obtain⟨f,c8⟩:=nm (w.alloc (.cells #[x.op,x.a,x.b,x.c,.int .u64 x.v,x.m,x.wh] 121));have p:=Z (Ch.al (D:=ag) c8);have c3:fs f b t pc r:=h.ch p id;have c4:Row f w.heap.size 121 (aG x).toList:=by rw[<-c8];exact Row.new w _ _
 have H:=Z c3;have a0:=Z c7;have cb:=Z bx;obtain⟨t0,t1,t2,t3,t4,t5,t6⟩:=c4.c7;have a1:=Z c4;have Q:=Z (fun w h=>kB b t pc r x w h);have U:=Z (jI bx x c9);obtain⟨s,v⟩:=nm (dt r x);rw[v]at Q U;obtain⟨cq,cr⟩:=cl;have ck:=c3.ph x.a.toNat (by omega);have a2:=Z (bx x.a.toNat (by omega));obtain⟨y,F⟩:=nm (r x.a.toNat);have a3:=Z F;rw[F]at ck a2;clear bx c9 c4 c3 h c7;unfold aK aG at Q⊢;by_cases I:x.op=17
 ·have ce:(x.op==17)=true:=by simp[I]
  have E:Hid (bQ a.acc S x r=a.acc S 0 s 0 0):=Z (by unfold bQ;dsimp only;rw[if_pos I,v]);obtain⟨q,o⟩:=nm (a.acc S 0 s 0 0);obtain⟨N,c1⟩:=q;rw[o]at E;have K:=Z o;clear o I W v F;cases N
  all_goals
   go_wp2
   go_region_held3 (fun w'=>w'.cell? ⟨w.heap.size,0,none⟩=some (.int .i64 x.op)/\w'.cell? ⟨w.heap.size,1,none⟩=some (.int .i64 x.a)/\w'.cell? ⟨w.heap.size,2,none⟩=some (.int .i64 x.b)/\w'.cell? ⟨w.heap.size,3,none⟩=some (.int .i64 x.c)/\w'.cell? ⟨w.heap.size,4,none⟩=some (.int .u64 x.v)/\w'.cell? ⟨w.heap.size,5,none⟩=some (.int .i64 x.m)/\w'.cell? ⟨w.heap.size,6,none⟩=some (.int .i64 x.wh)/\w'.cell? (b,t+1+x.a.toNat)=some (.int .u64 y)) (go_keep) ((go_at_call 116;refine(Q f.drew ⟨H.pc,H.ph⟩).mono ?_;rintro e w2 ⟨rfl,g⟩;have i:=Z g;have L:=Z (Row.ch (w:=f.drew) a1.drew g id);have G:Hid (fs w2 b t pc r):=Z (fs.ch (w:=f.drew) H.drew g id);obtain⟨ad,d1,am,ap,av,ax,bi⟩:=L.c7;have d2:=G.ph x.a.toNat (by omega);rw[a3]at d2;clear g))
   all_goals
    have J:Hid (a.At S w2):=Z (a.keep S f.drew w2 (a.keep S w f.drew a0 p.drew) i);have bw:=a.mL;have bv:=a.eL;have j:=Z (a.cL S s w2 ab U J);rw[K]at j;go_wp2_with (first|(refine j.mono ?_;rintro e w3 ⟨⟨n,u,rfl,C⟩,c,d⟩;obtain⟨tt,c2,rfl⟩:=C;have m:=Z c;have l:=Z d;clear c d)|(refine j.mono ?_;rintro e w3 ⟨rfl,c,d⟩;have m:=Z c;have l:=Z d;clear c d))
    go_ret2;rw[E]
    first|exact⟨⟨_,_,rfl,ar.mk _ _⟩,m,((p.drew.trans i).af).trans l⟩|exact⟨rfl,m,((p.drew.trans i).af).trans l⟩
 have ce:(x.op==17)=false:=by simpa using I
 have O:∀A B:Option Int×Y,(if x.op=17 then A else B)=B:=fun A B=>if_neg I
 by_cases M:x.op=18
 ·have cf:(x.op==18)=true:=by simp[M]
  have E:Hid (bQ a.acc S x r=((a.acc S 1 s 0 y).1.map fun _=>y,(a.acc S 1 s 0 y).2)):=Z (by unfold bQ;dsimp only;rw[O,if_pos M,v,F]);obtain⟨q,o⟩:=nm (a.acc S 1 s 0 y);obtain⟨N,c1⟩:=q;rw[o]at E;have K:=Z o;clear o M W v F I O;cases N
  all_goals
   go_wp2
   go_region_held3 (fun w'=>w'.cell? ⟨w.heap.size,0,none⟩=some (.int .i64 x.op)/\w'.cell? ⟨w.heap.size,1,none⟩=some (.int .i64 x.a)/\w'.cell? ⟨w.heap.size,2,none⟩=some (.int .i64 x.b)/\w'.cell? ⟨w.heap.size,3,none⟩=some (.int .i64 x.c)/\w'.cell? ⟨w.heap.size,4,none⟩=some (.int .u64 x.v)/\w'.cell? ⟨w.heap.size,5,none⟩=some (.int .i64 x.m)/\w'.cell? ⟨w.heap.size,6,none⟩=some (.int .i64 x.wh)/\w'.cell? (b,t+1+x.a.toNat)=some (.int .u64 y)) (go_keep) ((go_at_call 116;refine(Q f.drew ⟨H.pc,H.ph⟩).mono ?_;rintro e w2 ⟨rfl,g⟩;have i:=Z g;have L:=Z (Row.ch (w:=f.drew) a1.drew g id);have G:Hid (fs w2 b t pc r):=Z (fs.ch (w:=f.drew) H.drew g id);obtain⟨ad,d1,am,ap,av,ax,bi⟩:=L.c7;have d2:=G.ph x.a.toNat (by omega);rw[a3]at d2;clear g))
   all_goals
    have J:Hid (a.At S w2):=Z (a.keep S f.drew w2 (a.keep S w f.drew a0 p.drew) i);have bw:=a.mS;have bv:=a.eS;have j:=Z (a.cS S s y w2 ab U a2 J);rw[K]at j;go_wp2_with (first|(refine j.mono ?_;rintro e w3 ⟨⟨u,rfl,C⟩,c,d⟩;obtain⟨tt,c2,rfl⟩:ar u:=C;have m:=Z c;have l:=Z d;clear c d)|(refine j.mono ?_;rintro e w3 ⟨⟨u,rfl,C⟩,c,d⟩;obtain rfl:u=.nilIface:=C;have m:=Z c;have l:=Z d;clear c d))
    go_ret2;rw[E]
    first|exact⟨⟨_,_,rfl,ar.mk _ _⟩,m,((p.drew.trans i).af).trans l⟩|exact⟨rfl,m,((p.drew.trans i).af).trans l⟩
 have cf:(x.op==18)=false:=by simpa using M
 have V:∀A B:Option Int×Y,(if x.op=18 then A else B)=B:=fun A B=>if_neg M
 by_cases P:x.op=19
 ·have ch:(x.op==19)=true:=by simp[P]
  have E:Hid (bQ a.acc S x r=a.acc S 2 s 0 y):=Z (by unfold bQ;dsimp only;rw[O,V,if_pos P,v,F]);obtain⟨q,o⟩:=nm (a.acc S 2 s 0 y);obtain⟨N,c1⟩:=q;rw[o]at E;have K:=Z o;clear o P W v F I O M V;cases N
  all_goals
   go_wp2
   go_region_held3 (fun w'=>w'.cell? ⟨w.heap.size,0,none⟩=some (.int .i64 x.op)/\w'.cell? ⟨w.heap.size,1,none⟩=some (.int .i64 x.a)/\w'.cell? ⟨w.heap.size,2,none⟩=some (.int .i64 x.b)/\w'.cell? ⟨w.heap.size,3,none⟩=some (.int .i64 x.c)/\w'.cell? ⟨w.heap.size,4,none⟩=some (.int .u64 x.v)/\w'.cell? ⟨w.heap.size,5,none⟩=some (.int .i64 x.m)/\w'.cell? ⟨w.heap.size,6,none⟩=some (.int .i64 x.wh)/\w'.cell? (b,t+1+x.a.toNat)=some (.int .u64 y)) (go_keep) ((go_at_call 116;refine(Q f.drew ⟨H.pc,H.ph⟩).mono ?_;rintro e w2 ⟨rfl,g⟩;have i:=Z g;have L:=Z (Row.ch (w:=f.drew) a1.drew g id);have G:Hid (fs w2 b t pc r):=Z (fs.ch (w:=f.drew) H.drew g id);obtain⟨ad,d1,am,ap,av,ax,bi⟩:=L.c7;have d2:=G.ph x.a.toNat (by omega);rw[a3]at d2;clear g))
   all_goals
    have J:Hid (a.At S w2):=Z (a.keep S f.drew w2 (a.keep S w f.drew a0 p.drew) i);have bw:=a.mW;have bv:=a.eW;have j:=Z (a.cW S s y w2 ab U a2 J);rw[K]at j;go_wp2_with (first|(refine j.mono ?_;rintro e w3 ⟨⟨n,u,rfl,C⟩,c,d⟩;obtain⟨tt,c2,rfl⟩:=C;have m:=Z c;have l:=Z d;clear c d)|(refine j.mono ?_;rintro e w3 ⟨rfl,c,d⟩;have m:=Z c;have l:=Z d;clear c d))
    go_ret2;rw[E]
    first|exact⟨⟨_,_,rfl,ar.mk _ _⟩,m,((p.drew.trans i).af).trans l⟩|exact⟨rfl,m,((p.drew.trans i).af).trans l⟩
 have ch:(x.op==19)=false:=by simpa using P
 have al:∀A B:Option Int×Y,(if x.op=19 then A else B)=B:=fun A B=>if_neg P
 by_cases R:x.op=20
 ·have ci:(x.op==20)=true:=by simp[R]
  have E:Hid (bQ a.acc S x r=a.acc S 3 s 0 y):=Z (by unfold bQ;dsimp only;rw[O,V,al,if_pos R,v,F]);obtain⟨q,o⟩:=nm (a.acc S 3 s 0 y);obtain⟨N,c1⟩:=q;rw[o]at E;have K:=Z o;clear o R W v F I O M V P al;cases N
  all_goals
   go_wp2
   go_region_held3 (fun w'=>w'.cell? ⟨w.heap.size,0,none⟩=some (.int .i64 x.op)/\w'.cell? ⟨w.heap.size,1,none⟩=some (.int .i64 x.a)/\w'.cell? ⟨w.heap.size,2,none⟩=some (.int .i64 x.b)/\w'.cell? ⟨w.heap.size,3,none⟩=some (.int .i64 x.c)/\w'.cell? ⟨w.heap.size,4,none⟩=some (.int .u64 x.v)/\w'.cell? ⟨w.heap.size,5,none⟩=some (.int .i64 x.m)/\w'.cell? ⟨w.heap.size,6,none⟩=some (.int .i64 x.wh)/\w'.cell? (b,t+1+x.a.toNat)=some (.int .u64 y)) (go_keep) ((go_at_call 116;refine(Q f.drew ⟨H.pc,H.ph⟩).mono ?_;rintro e w2 ⟨rfl,g⟩;have i:=Z g;have L:=Z (Row.ch (w:=f.drew) a1.drew g id);have G:Hid (fs w2 b t pc r):=Z (fs.ch (w:=f.drew) H.drew g id);obtain⟨ad,d1,am,ap,av,ax,bi⟩:=L.c7;have d2:=G.ph x.a.toNat (by omega);rw[a3]at d2;clear g))
   all_goals
    have J:Hid (a.At S w2):=Z (a.keep S f.drew w2 (a.keep S w f.drew a0 p.drew) i);have bw:=a.mA;have bv:=a.eA;have j:=Z (a.cA S s y w2 ab U a2 J);rw[K]at j;go_wp2_with (first|(refine j.mono ?_;rintro e w3 ⟨⟨n,u,rfl,C⟩,c,d⟩;obtain⟨tt,c2,rfl⟩:=C;have m:=Z c;have l:=Z d;clear c d)|(refine j.mono ?_;rintro e w3 ⟨rfl,c,d⟩;have m:=Z c;have l:=Z d;clear c d))
    go_ret2;rw[E]
    first|exact⟨⟨_,_,rfl,ar.mk _ _⟩,m,((p.drew.trans i).af).trans l⟩|exact⟨rfl,m,((p.drew.trans i).af).trans l⟩
 have ci:(x.op==20)=false:=by simpa using R
 have c6:∀A B:Option Int×Y,(if x.op=20 then A else B)=B:=fun A B=>if_neg R
 have cm:0<=x.c/\x.c<32:=by
  rcases W with q|q|q|q|q
  ·exact absurd q I
  ·exact absurd q M
  ·exact absurd q P
  ·exact absurd q R
  ·exact q.2
 obtain⟨cs,cA⟩:=cm;have c5:=Z (cb x.c.toNat (by omega));obtain⟨z,c0⟩:=nm (r x.c.toNat);have cd:=Z c0;rw[c0]at c5;have E:Hid (bQ a.acc S x r=a.acc S 4 s y z):=Z (by unfold bQ;dsimp only;rw[O,V,al,c6,v,F,c0]);obtain⟨q,o⟩:=nm (a.acc S 4 s y z);obtain⟨N,c1⟩:=q;rw[o]at E;have K:=Z o;clear o W v F c0 I M P R O V al c6;cases N
 all_goals
  go_wp2
  go_region_held3 (fun w'=>w'.cell? ⟨w.heap.size,0,none⟩=some (.int .i64 x.op)/\w'.cell? ⟨w.heap.size,1,none⟩=some (.int .i64 x.a)/\w'.cell? ⟨w.heap.size,2,none⟩=some (.int .i64 x.b)/\w'.cell? ⟨w.heap.size,3,none⟩=some (.int .i64 x.c)/\w'.cell? ⟨w.heap.size,4,none⟩=some (.int .u64 x.v)/\w'.cell? ⟨w.heap.size,5,none⟩=some (.int .i64 x.m)/\w'.cell? ⟨w.heap.size,6,none⟩=some (.int .i64 x.wh)/\w'.cell? (b,t+1+x.a.toNat)=some (.int .u64 y)) (go_keep) ((go_at_call 116;refine(Q f.drew ⟨H.pc,H.ph⟩).mono ?_;rintro e w2 ⟨rfl,g⟩;have i:=Z g;have L:=Z (Row.ch (w:=f.drew) a1.drew g id);have G:Hid (fs w2 b t pc r):=Z (fs.ch (w:=f.drew) H.drew g id);obtain⟨ad,d1,am,ap,av,ax,bi⟩:=L.c7;have d2:=G.ph x.a.toNat (by omega);rw[a3]at d2;clear g))
  all_goals
   have J:Hid (a.At S w2):=Z (a.keep S f.drew w2 (a.keep S w f.drew a0 p.drew) i);have bw:=a.mC;have cC:=a.nC;have bv:=a.eC;have j:=Z (a.cC S s y z w2.drew ab U a2 c5 (a.keep S w2 w2.drew J (Ch.refl _ w2).drew));rw[K]at j;have d3:=G.ph x.c.toNat (by omega);rw[cd]at d3;go_wp2
   go_region_with (first|(refine j.mono ?_;rintro e w3 ⟨⟨n,u,rfl,C⟩,c,d⟩;obtain⟨tt,c2,rfl⟩:=C;have m:=Z c;have l:=Z d;clear c d)|(refine j.mono ?_;rintro e w3 ⟨rfl,c,d⟩;have m:=Z c;have l:=Z d;clear c d))
   all_goals
    go_wp2
    go_ret2;rw[E]
    first|exact⟨⟨_,_,rfl,ar.mk _ _⟩,m,((p.drew.trans i.drew).af).trans l⟩|exact⟨rfl,m,((p.drew.trans i.drew).af).trans l⟩
end Go.Proofs.YtfnilkpkogipfaaGreatDoor
