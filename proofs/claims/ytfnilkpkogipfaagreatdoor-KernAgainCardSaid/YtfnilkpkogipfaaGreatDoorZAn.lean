import Derived.RangeFuncNested
import Derived.RangeFuncBound
import Derived.RangeFuncCalls
import Derived.RangeFuncLeaves
import Derived.Shelf.Abstract
import Derived.Shelf.RegionOpen
import Derived.OwnWalkIn
import Derived.TacticsInMore
import Derived.LoopNIn
import Derived.LoopIn
import Derived.Test.YtfnilkpkogipfaaGreatDoorZAj
import Derived.Test.YtfnilkpkogipfaaGreatDoorZAk
set_option linter.all false
set_option maxRecDepth 100000
set_option maxHeartbeats 8000000
namespace Go.Proofs.YtfnilkpkogipfaaGreatDoor
open Go.RowKit Go.Proofs.Tryz
section
open Classical in
theorem Ch.cut{D E:Nat->Prop}{w w':World}(h:Ch (DX E D) w w'):∃w1,Ch E w w1/\Ch D w1 w'/\Ch D w' w1:=by
 refine⟨{w' with heap:=w'.heap.mapIdx fun k c=>if D k then(w.heap[k]?).getD c else c},⟨h.os,h.tape,h.output,?_,?_⟩,⟨rfl,rfl,rfl,?_,?_⟩,⟨rfl,rfl,rfl,?_,?_⟩⟩
 ·rw[Array.size_mapIdx];exact h.size
 ·intro k b d
  show(w'.heap.mapIdx _)[k]?=_
  rw[Array.getElem?_mapIdx];have f:k<w'.heap.size:=Nat.lt_of_lt_of_le b h.size;by_cases a:D k
  ·rw[Array.getElem?_eq_getElem f]
   simp[a,Array.getElem?_eq_getElem b]
  ·rw[h.same k b (fun e=>e.elim d a),Array.getElem?_eq_getElem b]
   simp[a]
 ·rw[Array.size_mapIdx];exact Nat.le_refl _
 ·intro k b a
  show _=(w'.heap.mapIdx _)[k]?
  rw[Array.getElem?_mapIdx];cases w'.heap[k]?<;>simp[a]
 ·rw[Array.size_mapIdx];exact Nat.le_refl _
 ·intro k b a
  show(w'.heap.mapIdx _)[k]?=_
  rw[Array.getElem?_mapIdx];cases w'.heap[k]?<;>simp[a]
section
variable{w w':World}{χ:Nat->aX}{L:cz}{Y:Var}{C:KC}{K:KS}
theorem ae.FB(h:ae w χ L Y C K){c:bN}(a:ak K c){b j:Nat}(e:aS L Y c b j):∃pre post v,aJ w b j (qH c) pre post v (K.F c)/\(χ b=.wk∨∃id k,χ b=.fr id k)/\∀g,v.ownBlock=some g->χ g=.back:=by
 cases c with
 |own i=>
  obtain⟨rfl,rfl⟩:=e;obtain⟨pre,post,l,_⟩:=h.ug a;exact⟨_,_,_,l,Or.inl (h.wk (by simp)).k,fun g m=>(h.wk (by simp)).kb i _ (KS.gY a) g m⟩
 |ai id k=>
  obtain⟨rfl,rfl⟩:=e;obtain⟨t,f,d⟩:=a;have hF:=h.fr id t k _ f (List.getElem?_eq_getElem d) (by simp);refine⟨[],(t.l[k]).post,Y.bv id k,?_,Or.inr ⟨id,k,hF.kf⟩,hF.kb⟩;rw[show K.F (.ai id k)=(t.l[k]).f from by
   show((K.T id).l.getD k default).f=_
   rw[KS.dk f,List.getD_eq_getElem?_getD,List.getElem?_eq_getElem d];rfl]
  exact hF.is
theorem xq(K:KS)(c:bN)(f:cu)(S:aA):({K with mem:=S}:KS).cJ c f={K.cJ c f with mem:=S}:=by cases c<;>rfl
theorem ae.Cb(h:ae w χ L Y C K){c:bN}(n:ak K c){b j:Nat}(F:aS L Y c b j){pre post:List Value}{v l:Value}{f:cu}{S:aA}(y:aJ w b j (qH c) pre post v (K.F c))(o:χ b=.wk∨∃id k,χ b=.fr id k)(G:∀g,v.ownBlock=some g->χ g=.back)
 (z:aJ w' b j (qH c) pre post l f) (p:aT w v l) (E:aM w' L.m L.c L.d S) (x:Ch (DX (aL b) (dp L.m L.c)) w w'):∃aY Y',dJ χ L Y C K (({K with mem:=S}:KS).cJ c f) w aY Y' w':=by
 obtain⟨w1,s,t,u⟩:=x.cut;have a:=h.mem (by simp);have hb:¬dp L.m L.c b:=fun e=>by
  rcases e with rfl|rfl
  ·rcases o with e|⟨_,_,e⟩<;>rw[a.k1]at e<;>cases e
  ·rcases o with e|⟨_,_,e⟩<;>rw[a.k2]at e<;>cases e
 have A:aJ w1 b j (qH c) pre post l f:=z.ch u hb (fun g B e=>by
  rcases p g B with m|m
  ·have d:=G g m
   rcases e with rfl|rfl
   ·rw[a.k1]at d;cases d
   ·rw[a.k2]at d;cases d
  ·rcases e with rfl|rfl
   ·have:=a.is.head.lt;omega
   ·have:=a.is.cells.lt;omega)
 obtain⟨I,r,q⟩:=h.zG n F y A p s;have H:=q.at_.nM E t (fun i D=>fW D);rw[xq];exact⟨I,r,q.trans (bu n f) H⟩
end
end
section
section
variable{w:World}{χ:Nat->aX}{L:cz}{Y:Var}{C:KC}{K:KS}
theorem xI{x:Int}(a:0<=x)(b:x<=100):wrap64 x=x:=by unfold wrap64;omega
def m2(v:Int)(w:World)(e:Ending)(w':World):Prop:=e=.returned (.int .u64 v)/\Ch ag w w'
theorem zS{x:Int}{n:Nat}(d:1<=n)(e:n<=64)(c:0<=x):∃m,x%(n:Int)=m/\0<=m/\m<=100/\wrap64 (x%(n:Int))=m/\x.tmod (n:Int)=m:=by
 have a:=Int.emod_nonneg x (b:=(n:Int)) (by omega);have b:=Int.emod_lt_of_pos x (b:=(n:Int)) (by omega);exact⟨_,rfl,a,by omega,xI a (by omega),Int.tmod_eq_emod_of_nonneg c⟩
theorem zT(i:Nat)(D:i<K.wk.length)(id:Int)(c:bN)(b J:Nat)(B:ak K c)(E:aS L Y c b J)(G:∀k,k<32->aI ((K.F c).r k))(n l d o r q s:Int)(u:n=23∨n=41∨n=37∨n=40∨n=42∨n=29∨n=38∨n=39∨n=47)(hb:0<=d/\d<32)(X:0<=K.w/\K.w<K.wk.length)(S:C.a8.length<=2048)(h:ae w χ L Y C K):
 Calls prog 168 #[(L.mb,0),(L.wb,i*38),.int .u64 id,(b,J),aK ⟨n,l,d,o,r,q,s⟩] w (m2 (hW C K i id c ⟨n,l,d,o,r,q,s⟩) w):=by
 unfold aK aG;dsimp only;obtain⟨al,I,N,P,M⟩:=h.r8 n l d o r q s;have a:Hid (ae al χ L Y C K):=Z P.at_;obtain⟨t0,t1,t2,t3,t4,t5,t6⟩:=M.c7;obtain⟨cb,cd⟩:=hb;have ad:=a.aC B E d.toNat (by omega);obtain⟨f,j⟩:∃y,(K.F c).r d.toNat=y:=⟨_,rfl⟩;have am:=Z j;have H:=G d.toNat (by omega);rw[j]at ad H;obtain⟨W,c5⟩:=H;obtain⟨a0,c6⟩:=X;have c3:=(a.wk (by simp)).n;have a2:IntKind.u64.wrap (K.wk.length:Int)=K.wk.length:=by unfold IntKind.wrap IntKind.bits IntKind.signed;simp;omega
 have a1:IntKind.u64.wrap K.w=K.w:=by unfold IntKind.wrap IntKind.bits IntKind.signed;simp;omega
 have k1:=a.j1;have k2:=a.r0;have k3:=a.Di;have c7:=a.fD D;have c8:=a.Gd;have a3:=a.c3;obtain⟨md,c0,bv,bw,V,bx⟩:=zS (x:=K.w) (n:=K.wk.length) (by omega) (by omega) a0;obtain⟨ab,c1,av,ax,T,bi⟩:=zS (x:=f) (n:=K.wk.length) (by omega) (by omega) W;have O:=Z (fun(m:Int) (h:0<=m/\m<=100) p w=>pA m h.1 h.2 p w);obtain⟨R,A⟩:=lB f 8 (by omega);obtain⟨g,t⟩:=nm (bg f ((8:Nat):Int));have v:=Z (nc f 8 (by omega) (by omega));rw[t]at v R A;have ap:g<8:=by omega
 have z:Hid (∀n,n=23∨n=41∨n=37∨n=40∨n=42∨n=29∨n=38∨n=39∨n=47->hW C K i id c ⟨n,l,d,o,r,q,s⟩=if n=23 then 1+2*g else if n=41 then K.clock.now else if n=37 then id else if n=40 then(K.wk.length:Int)else if n=42 then K.draw else if n=29 then(K.W i).hand else if n=38 then g' md else if n=39 then g' ab else if f<C.a8.length then 1 else 0):=Z (by
  have Q:IntKind.u64.wrap (1+2*bg f 8)=1+2*g:=by rw[show bg f 8=g from t];unfold IntKind.wrap IntKind.bits IntKind.signed;simp;omega
  intro n u;rcases u with rfl|rfl|rfl|rfl|rfl|rfl|rfl|rfl|rfl<;>simp[hW,j,a2,a1,Q,V,T])
 have c4:(K.wk.length:Int)<=64:=by omega
 have c2:(1:Int)<=K.wk.length:=by omega
 have U:(C.a8.length:Int)<=2048:=by omega
 obtain⟨c9,F⟩:∃n,C.a8.length=n:=⟨_,rfl⟩;rw[F]at a3 U z;clear h B E G D j t A F S;rcases u with rfl|rfl|rfl|rfl|rfl|rfl|rfl|rfl|rfl
 all_goals
  go_in
  go_wp2
  try rw[I]
  clear I;go_quiet (fail)
  go_wp2_with (first|(go_at_call 149;refine(v _).mono ?_;rintro e w' ⟨rfl,rfl⟩)|(go_at_call 63;refine(Fq (a.drewN _)).mono ?_;rintro e w' ⟨rfl,rfl⟩)|(go_at_call 80;refine(O _ (by exact⟨by assumption,by assumption⟩) _ _).mono ?_;rintro e w' ⟨rfl,rfl⟩)|fail)
  all_goals
   go_ret;rw[z.out]
   ·refine⟨?_,N.drewN _⟩
    first|rfl|(simp;done)|(simp;omega)
   ·decide
end
end
theorem o7(w:World):Calls prog 54 #[.int .i64 8] w (fun e w'=>∃qb lb mb,e=.returned (.tuple #[.pointer (some ⟨qb,0,none⟩),.nilIface])/\im w' qb lb mb (List.replicate 8 [])/\w.heap.size<=qb/\w.heap.size<=lb/\w.heap.size<=mb/\Ch ag w w'):=by
 obtain⟨j,c,f,g,i⟩:=info_parts Cv;have o:=run_make (P:=prog) w 211 254 j _ underlying211 c f .i64 .i64 8 8 (by omega) (by omega) (by rw[i];decide) (by omega);obtain⟨cs,a⟩:=nm (madeCells (Value.agg #[.pointer none,.pointer none]).cells ((8:Int).toNat*j.size));rw[a]at o;rw[g]at a;have m:=Z a;have q:= @run_makeMap prog;clear a c f g i;go_wp2
 go_ret2;have n:=ia (enc:=fun _:Unit=>[Value.pointer none,Value.pointer none]) (k:=2) (fun _=>rfl) (by omega) () #[.pointer none,.pointer none] rfl 8;have p:Row (w.alloc (.cells cs 254)) w.heap.size 254 ((List.replicate 8 ([]:List Sl)).flatMap bP):=by
  have:=Row.new w cs 254;rw[<-m]at this⊢;rw[show(List.replicate 8 ([]:List Sl)).flatMap bP=(List.replicate 8 ()).flatMap (fun _:Unit=>[Value.pointer none,Value.pointer none])from rfl,<-n];exact this
 have b:∀(k:Nat) (l:List Sl),(List.replicate 8 ([]:List Sl))[k]?=some l->l=[]:=fun k l h=>by
  have:=List.mem_of_getElem? h;simpa using this
 refine⟨w.heap.size+2,w.heap.size,w.heap.size+1,by simp,⟨?_,(p.alloc _).alloc _,by simp,?_,⟨[],⟨#[],0,?_,rfl⟩,List.nodup_nil,fun id=>rfl⟩,by simp,by simp,?_⟩,by omega,by omega,by omega,(((Ch.refl _ _).alloc _).alloc _).alloc _⟩
 ·have:=Row.new ((w.alloc (.cells cs 254)).alloc (.map #[] 0)) #[.slice (some (w.heap.size,0)) 8 8,.map (some (w.heap.size+1))] 214
  rw[World.size_alloc,World.size_alloc]at this;exact this
 ·intro k l h;rw[b k l h];trivial
 ·rw[Below.heap_alloc _ _ _ (by simp)]
  have:=heap_alloc_new (w.alloc (.cells cs 254)) (.map #[] 0);rw[World.size_alloc]at this;exact this
 ·intro k l h s d;rw[b k l h]at d;cases d
def aA.new(n:Nat):aA:=⟨List.replicate n 0,List.replicate n 0⟩
theorem aM.new{w:World}{m c a n:Nat}(f:n<=65536)(b:Row w m 163 [.slice (some (c,0)) n n,.slice (some (a,0)) n n,.int .i64 0,.int .i64 0])
 (d:Row w c 56 (List.replicate n (.int .u64 0))) (e:Row w a 5 (List.replicate n (.int .u8 0))):aM w m c a (aA.new n) where
 hd:=⟨_,_,by unfold aA.new;simpa using b⟩
 cells:=by unfold aA.new;simpa using d
 width:=by unfold aA.new;simpa using e
 len:=by simp[aA.new]
 qd:=by simpa[aA.new]using f
 ok:=fun i x h=>by
  have:=List.mem_of_getElem? h;simp[aA.new]at this;omega
 u64:=fun i x h=>by
  have:=List.mem_of_getElem? h;simp[aA.new]at this;rw[this.2];exact⟨by decide,by decide⟩
def Ao(n:Nat)(w:World)(e:Ending)(w':World):Prop:=∃m c a,e=.returned (.tuple #[.pointer (some ⟨m,0,none⟩),.nilIface])/\aM w' m c a (aA.new n)/\w.heap.size<=m/\w.heap.size<=c/\w.heap.size<=a/\Ch ag w w'
theorem ot(n:Nat)(x:1<=n)(f:n<=65536)(w:World):Calls prog 25 #[.int .i64 n] w (Ao n w):=by
 obtain⟨u,j,r,s,t⟩:=info_parts ix;obtain⟨v,k,o,p,q⟩:=info_parts Ey;have l:=fun w=>run_make (P:=prog) w 29 56 u _ underlying29 j r .i64 .i64 (n:Int) (n:Int) (by omega) (by omega) (by rw[t];omega) (by omega)
 have m:=fun w=>run_make (P:=prog) w 161 5 v _ underlying161 k o .i64 .i64 (n:Int) (n:Int) (by omega) (by omega) (by rw[q];omega) (by omega)
 simp only[Int.toNat_natCast]at l m;obtain⟨cs,b⟩:=nm (madeCells (Value.int .u64 0).cells (n*u.size));obtain⟨a,c⟩:=nm (madeCells (Value.int .u8 0).cells (n*v.size));have h:cs.toList=List.replicate n (.int .u64 0):=by
  rw[<-b,s,Nat.mul_one];exact oo (.int .u64 0) n
 have i:a.toList=List.replicate n (.int .u8 0):=by
  rw[<-c,p,Nat.mul_one];exact oo (.int .u8 0) n
 simp only[b]at l;simp only[c]at m;have d:=Z h;have e:=Z i;have y:(1:Int)<=n:=by omega
 have z:(n:Int)<=65536:=by omega
 have g:=Z f;clear b c j r s t k o p q h i x f;go_wp2
 go_region
 all_goals
  go_wp2
  go_ret2
 ·refine⟨w.heap.size+1+1,w.heap.size,w.heap.size+1,rfl,aM.new g ?_ ?_ ?_,by omega,by omega,by omega,((((Ch.refl _ _).alloc _).alloc _).alloc _).drew⟩
  ·have:=Row.new ((w.alloc (.cells cs 56)).alloc (.cells a 5)) #[.slice (some ⟨w.heap.size,0,none⟩) n n,.slice (some ⟨w.heap.size+1,0,none⟩) n n,.int .i64 0,.int .i64 0] 163
   rw[World.size_alloc,World.size_alloc]at this;exact this
  ·have:=Row.new w cs 56
   rw[d]at this;exact(this.alloc _).alloc _
  ·have:=Row.new (w.alloc (.cells cs 56)) a 5
   rw[e,World.size_alloc]at this;exact this.alloc _
 ·refine⟨w.heap.size+1+1,w.heap.size+1,w.heap.size,rfl,aM.new g ?_ ?_ ?_,by omega,by omega,by omega,((((Ch.refl _ _).alloc _).alloc _).alloc _).drew⟩
  ·have:=Row.new ((w.alloc (.cells a 5)).alloc (.cells cs 56)) #[.slice (some ⟨w.heap.size+1,0,none⟩) n n,.slice (some ⟨w.heap.size,0,none⟩) n n,.int .i64 0,.int .i64 0] 163
   rw[World.size_alloc,World.size_alloc]at this;exact this
  ·have:=Row.new (w.alloc (.cells a 5)) cs 56
   rw[d,World.size_alloc]at this;exact this.alloc _
  ·have:=Row.new w a 5
   rw[e]at this;exact(this.alloc _).alloc _
def iT(w:ByteArray):List ByteArray->Int->Int->Int
 |[],_,x=>x
 |n::l,i,x=>iT w l (i+1) (if(n.data.toList==w.data.toList)=true then 1+i else x)
def CE(op:Int):aR:=⟨op,0,0,0,0,0,0⟩
def iJ:List Int->List ByteArray->gC->aR->Option (gC×aR)
 |[],_,S,X=>some (S,X)
 |_::_,[],_,_=>none
 |k::c,s::l,S,X=>match s' k s S X with|none=>none|some (a,b)=>iJ c l a b
def q8(a:List Int)(l:List ByteArray):Bool:=decide (l.length=a.length+2)&&(ca (l.getD (l.length-1) ByteArray.empty) 0==33)
def v'(b:List Int)(l:List ByteArray):Option (gC×aR)->Option gC
 |none=>none
 |some (S,X)=>if q8 b l=true then(q4 (l.getD (l.length-1) ByteArray.empty) X).map fun a=>{S with code:=S.code++[a]}else some {S with code:=S.code++[X]}
def pR(S:gC)(l:List ByteArray)(op:Int):Option gC:=
 if op=0 then none
 else if l.length=(gD op).length+1∨q8 (gD op) l=true then v' (gD op) l (iJ (gD op) (l.drop 1) S (CE op))else none
def td(S:gC)(n:ByteArray):Option gC:=
 if fY n=true/\cR S.labels n=none then some {S with labels:=S.labels++[(n,(S.code.length:Int))],lines:=S.lines++[S.line]}else none
def l4(S:gC):List ByteArray->Option gC
 |[]=>none
 |w::l=>if ca w (w.size-1)=58/\l.length=0 then td S (w.extract 0 (w.size-1))else pR S (w::l) (iT w cc 0 0)
theorem lj:cc.length=58:=by decide+kernel
theorem oz.uT{w w':World}{B p b:Nat}{d f i j:Value}{S:gC}(h:oz w B p p d f i j S)(c:Ch ag w w')(l:w.heap.size<=b):oz w' B p b d f i j S:=
 ⟨h.row.ch c id,h.hB,aj h.code c (fun g a e=>e),fun e=>by obtain⟨_,_,k⟩:=bS h.code e;have:=(Array.getElem?_eq_some_iff.1 k).1;omega,aj h.labels c (fun g a e=>e),aj h.lines c (fun g a e=>e),aj h.bs c (fun g a e=>e)⟩
theorem dK.uT{w w':World}{B p a:Nat}{S:gC}(h:dK w B p p S)(c:Ch ag w w')(b:w.heap.size<=a):dK w' B p a S:=by
 obtain⟨d,e,f,g,h⟩:=h;exact⟨d,e,f,g,h.uT c b⟩
theorem ee.keep{w w':World}{g:Nat}{l:List ByteArray}(h:ee w g l)(k:hq w w'):ee w' g l:=by
 obtain⟨a,h⟩:=h;exact⟨a,k.row h (by decide) (by decide) (by decide)⟩
theorem aq.EI{w:World}{b:Nat}{X:aR}(h:aq w b X)(n:Int):aq (w.setCell (b,0) (.int .i64 n)) b {X with op:=n}:=Row.bc h _ _ rfl
theorem AB{w w':World}{a:Nat}{X:aR}(g:aq w a X)(c:Ch (aL a) w w'):hq w w':=
 hq.fQ c (fun k x t f d b=>by have e:k=a:=d;subst e;exact Or.inr (Or.inl (e3 g b)))
theorem AD(op:Int):∀k∈gD op,0<=k/\k<=8:=by
 intro k a;unfold gD at a;have e:∀{b:Bool} {x:Int},k∈(if b=true then [x]else [])->k=x:=fun {b x} h=>by
  cases b<;>simp at h;exact h
 split at a
 ·simp at a;omega
 ·split at a
  ·simp at a;omega
  ·split at a
   ·simp at a;omega
   ·split at a
    ·simp at a;omega
    ·split at a
     ·simp at a;omega
     ·split at a
      ·simp at a;omega
      ·rcases List.mem_append.1 a with h|h
       ·rcases List.mem_append.1 h with h|h
        ·have:=e h;omega
        ·split at h
         ·simp at h;omega
         ·have:=e h;omega
       ·split at h
        ·simp at h;omega
        ·have:=e h;omega
theorem pS(op:Int):(gD op).length<=3:=by
 unfold gD
 repeat' split
 all_goals simp
theorem mI{k:Int}{d:List Int}{l:List ByteArray}{S:gC}{X:aR}{r:gC×aR}(h:iJ (k::d) l S X=some r):∃s l' a b,l=s::l'/\s' k s S X=some (a,b)/\iJ d l' a b=some r:=by
 cases l with
 |nil=>cases h
 |cons s l'=>
  unfold iJ at h;cases c:s' k s S X with
  |none=>rw[c]at h;cases h
  |some p=>
   obtain⟨a,b⟩:=p;rw[c]at h;exact⟨s,l',a,b,rfl,c,h⟩
theorem pT{k:Int}{s:ByteArray}{S a:gC}{X b:aR}(h:s' k s S X=some (a,b)):a.code=S.code/\a.labels=S.labels/\a.lines=S.lines/\a.line=S.line/\a.bs.length<=S.bs.length+1:=by
 unfold s' at h
 repeat' split at h
 all_goals first
  |(cases h;done)
  |(obtain⟨rfl,rfl⟩:=Prod.mk.inj (Option.some.inj h);simp)
  |(rw[Option.map_eq_some_iff]at h;obtain⟨_,_,h⟩:=h;obtain⟨rfl,rfl⟩:=Prod.mk.inj h;simp)
theorem jt:∀(b:List Int) {l:List ByteArray} {S a:gC} {X c:aR},iJ b l S X=some (a,c)->a.code=S.code/\a.labels=S.labels/\a.lines=S.lines/\a.line=S.line/\a.bs.length<=S.bs.length+b.length
 |[],l,S,a,X,c,h=>by
  obtain⟨rfl,rfl⟩:=Prod.mk.inj (Option.some.inj h);simp
 |k::b,l,S,a,X,c,h=>by
  obtain⟨s,l',n,o,rfl,j,m⟩:=mI h;obtain⟨a1,a2,a3,d,p⟩:=pT j;obtain⟨e,f,g,i,q⟩:=jt b m;exact⟨e.trans a1,f.trans a2,g.trans a3,i.trans d,by simp only[List.length_cons];omega⟩
theorem mJ{S f:gC}{l:List ByteArray}{op:Int}(h:pR S l op=some f):op≠0/\∃b a d e,iJ (gD op) (l.drop 1) S (CE op)=some (b,a)/\f={b with code:=b.code++[d]}/\
 ((e=true/\l.length=(gD op).length+2/\ca (l.getD (l.length-1) ByteArray.empty) 0=33/\q4 (l.getD (l.length-1) ByteArray.empty) a=some d)∨(e=false/\l.length=(gD op).length+1/\d=a)):=by
 unfold pR at h;split at h
 ·cases h
 ·rename_i i
  refine⟨i,?_⟩;split at h
  ·rename_i j
   unfold v' at h;cases g:iJ (gD op) (l.drop 1) S (CE op)with
   |none=>rw[g]at h;cases h
   |some q=>
    obtain⟨b,a⟩:=q;rw[g]at h;dsimp only at h;split at h
    ·rename_i c
     rw[Option.map_eq_some_iff]at h;obtain⟨d,k,rfl⟩:=h;unfold q8 at c;rw[Bool.and_eq_true,decide_eq_true_eq,beq_iff_eq]at c;exact⟨b,a,d,true,rfl,rfl,Or.inl ⟨rfl,c.1,c.2,k⟩⟩
    ·rename_i c
     exact⟨b,a,a,false,rfl,(Option.some.inj h).symm,Or.inr ⟨rfl,j.resolve_right c,rfl⟩⟩
  ·cases h
theorem ij:(prog.info? 121).map (fun i=>(i.zero,i.size,i.bytes))=some (some (.agg #[.int .i64 0,.int .i64 0,.int .i64 0,.int .i64 0,.int .u64 0,.int .i64 0,.int .i64 0]),7,56):=by kernel_rfl
theorem AE(l:List ByteArray)(j:ByteArray)(am:l[0]?=some j)(fz:∀x∈l,1<=x.size/\x.size<=65536)(mC:l.length<=100000)(fb:¬(ca j (j.size-1)=58/\l.length=1))(g cap B p:Nat)(S hi:gC)(w:World)(gc:ee w g l)(mp:l.length<=cap)(I:dK w B p p S)(md:B<=w.heap.size)
 (h:pR S l (iT j cc 0 0)=some hi) (hB:S.code.length<=1000000) (ad:S.bs.length<=1000000):
 Calls prog 104 #[(p,0),.slice (some (g,0)) l.length cap] w (oC hi B p w):=by
 have t0:w.cell? (g,0)=some (.string j):=gc.cell am;have fn:=fz j (List.mem_of_getElem? am);have n:1<=j.size:=fn.1;have z:j.size<=65536:=fn.2;have p1:j.size-1<j.size:=by omega
 have mk:1<=l.length:=by have:=(List.getElem?_eq_some_iff.1 am).1;omega
 obtain⟨A,en⟩:=nm (iT j cc 0 0);rw[en]at h;have hd:=Z en;have k3:=Z h;have le:=Z gc;have he:=Z fz;have bw:=Z I;have gr:=Z (And.intro hB ad);have on:=Z am;obtain⟨H,ec⟩:=mn l.length;have P:=Z ec;rw[<-ec]at mC fb mp mk⊢;clear en h gc fz I hB ad am fn ec;have hb:((j[j.size-1].toNat:Int)==58)=false∨(((j[j.size-1].toNat:Int)==58)=true/\((H:Int)==1)=false):=by
  cases q:((j[j.size-1].toNat:Int)==58)with
  |false=>exact Or.inl rfl
  |true=>
   refine Or.inr ⟨rfl,?_⟩;rw[cj,beq_iff_eq]at q;rw[beq_eq_false_iff_ne];intro e;exact fb ⟨q,by omega⟩
 clear fb;go_in
 go_upto_region 2 with fail
 go_cut [29] (fun b wc=>b=.bool false/\w=wc)
 case first=>
  rcases hb with lv|⟨lv,ov⟩
  all_goals
   go_wp2
   go_meet
   exact⟨rfl,rfl⟩
 case rest=>
  obtain⟨rfl,rfl⟩:=hcut;clear hb t0 p1 n z;obtain⟨a,hw⟩:=nm w.heap.size;have G:=Z hw;go_upto_block 0 with(first|(go_at_call 132;(with_reducible refine(uQ _).mono ?_);rintro e w2 ⟨rfl,i4,ad⟩;have gt:=Z i4;have ce:=Z ad;clear i4 ad))
  have bx:Hid (aq w2 a (CE 0)):=Z (by
   have r:=Row.new w (aG (CE 0)) 121;rw[G]at r;exact Row.ch r ce id)
  have kf:Hid (Row w2 (a+1) 9 (cc.map Value.string)):=Z (by
   have r:=gt.out;rw[World.size_alloc,G]at r;exact r)
  have ax:Hid (Ch ag w w2):=Z (((Ch.refl _ _).alloc _).trans ce);have V:a<w2.heap.size:=bx.lt;clear gt ce hw;go_cut [] (fun wc=>aq wc a (CE A)/\Ch (aL a) w2 wc)
  case first=>
   go_wp2
   go_loopw [10] (fun i wr=>∃(k:Nat) (op:Int),k<=58/\i=.int .i64 k/\aq wr a (CE op)/\Ch (aL a) w2 wr/\iT j (cc.drop k) k op=A) (fun i _=>58-(intOf i).toNat)
   case atStart=>exact⟨0,0,by omega,rfl,bx,Ch.refl _ _,hd⟩
   case round=>
    obtain⟨k,op,ms,rfl,q,c4,et⟩:=hrel;have ci:=Z et;have cW:=Z q;have cf:=Z c4;by_cases eW:k<58
    ·have W:k<cc.length:=by rw[lj];exact eW
     have ch:Hid (cc.drop k=cc[k]::cc.drop (k+1)):=Z (List.drop_eq_getElem_cons W);have y0:wr.cell? ⟨a+1,k,none⟩=some (.string cc[k]):=(kf.ch c4 (fun e=>by have lw:a+1=a:=e;omega)).cell (by rw[List.getElem?_map,List.getElem?_eq_getElem W];rfl);obtain⟨y,jp⟩:=nm (cc[k]);rw[jp]at y0 ch;have f0:=q.free 0;have hn:wr.cell? (a,0)=some (.int .i64 op):=q.cell rfl;clear jp et q c4;cases Y:(y.toList==j.toList)with
     |true=>
      have O:Hid (iT j (cc.drop (k+1)) ((k+1:Nat):Int) (1+(k:Int))=A):=Z (by
       have h:=ci.out;rw[ch,iT,if_pos (by rw[<-ByteArray.toList_eq,<-ByteArray.toList_eq];exact Y)]at h;exact h)
      go_wp2
      go_roundw
      case rel=>exact⟨k+1,1+(k:Int),by omega,by go_num,cW.EI _,cf.only _ _,O⟩
      case measure=>simp[intOf];omega
     |false=>
      have O:Hid (iT j (cc.drop (k+1)) ((k+1:Nat):Int) op=A):=Z (by
       have h:=ci.out;rw[ch,iT,if_neg (by rw[<-ByteArray.toList_eq,<-ByteArray.toList_eq,Y];decide)]at h;exact h)
      go_wp2
      go_roundw
      case rel=>exact⟨k+1,op,by omega,by go_num,cW,cf,O⟩
      case measure=>simp[intOf];omega
    ·have O:Hid (op=A):=Z (by
      have h:=ci.out;rw[List.drop_of_length_le (by rw[lj];omega)]at h;exact h)
     clear et q c4;go_wp2
     go_meet
     exact⟨by rw[<-O];exact cW,cf⟩
  case rest=>
   obtain⟨c8,al⟩:=hcut;obtain⟨w3,ge⟩:=nm wc;rw[ge]at c8 al⊢;clear ge V;have lm:=Z c8;have l0:Hid (dK w3 B p a S):=Z ((bw.uT ax (by have:=G.out;omega)).ins bx al);have li:Hid (ee w3 g l):=Z ((le.af ax).keep (AB bx al));have go:Hid (Below B w w3):=Z ((ax.below md (fun _ hb=>False.elim hb)).trans (al.below (by have:=ax.size;omega) (fun b hb=>by have e:b=a:=hb;have:=G.out;omega)));have hn:w3.cell? (a,0)=some (.int .i64 A):=c8.cell rfl;clear c8 al;obtain⟨i6,E,dC,d,lo,J,hu,c5⟩:=mJ k3;have cC:=Z J;have lc:=Z hu;have mW:((A:Int)==0)=false:=(by rw[beq_eq_false_iff_ne];exact i6);obtain⟨L,R⟩:=nm (gD A);have kw:Hid (∀k∈L,0<=k/\k<=8):=Z (by rw[<-R];exact AD A);have mm:L.length<=3:=(by rw[<-R];exact pS A);have cq:=Z (fun w=>uR A w);rw[R]at c5 cq;rw[R]at cC;obtain⟨Q,c3⟩:=mn L.length;have cm:=Z c3;rw[<-c3,<-P]at c5;rw[<-c3]at mm;have bv:=Z c5;clear c3 c5 J hu i6 R hd;go_upto_region 20 with(go_at_call 133;(with_reducible refine(cq.out _).mono ?_);rintro e w4 ⟨r5,rfl,c6,hv⟩;obtain⟨lt,co,rfl⟩:=ao c6;rw[<-cm.out]at c6⊢;have kv:=Z c6;have bi:=Z hv;clear c6 hv)
   have l1:Hid (dK w4 B p a S):=Z (l0.af (Ch.b4 bi));have hf:Hid (aq w4 a (CE A)):=Z (lm.ch (Ch.b4 bi) id);have cQ:Hid (ee w4 g l):=Z (li.af (Ch.b4 bi));have k1:Hid (Below B w w4):=Z (go.trans (bi.mono (by have:=go.size;omega)));clear hn mW cq;obtain⟨N,av⟩:=nm (l.getD (H-1) ByteArray.empty);have eS:w4.cell? (g,H-1)=some (.string N):=cQ.cell (by rw[<-av,P,List.getD_eq_getElem?_getD,List.getElem?_eq_getElem (by have:=P.out;omega)];rfl);have ni:1<=N.size/\N.size<=65536:=he N (by rw[<-av,P,List.getD_eq_getElem?_getD,List.getElem?_eq_getElem (by have:=P.out;omega)];exact List.getElem_mem _);rw[av]at bv;obtain⟨ip,ne⟩:=ni;have nd:0<N.size:=ip;have ll:=Z av;clear av;go_cut [12] (fun m wc=>m=.bool lo/\w4=wc)
   case first=>
    rcases bv with⟨n,z,C,_⟩|⟨n,z,_⟩
    ·have dN:((H:Int)==(Q:Int)+2)=true:=by rw[beq_iff_eq];omega
     have lw:((N[0].toNat:Int)==33)=true:=(by rw[cj,beq_iff_eq];exact C);have cl:=Z n;clear n z C;go_wp2
     go_meet
     exact⟨by rw[cl],rfl⟩
    ·have dN:((H:Int)==(Q:Int)+2)=false:=by rw[beq_eq_false_iff_ne];omega
     have cl:=Z n;clear n z;go_wp2
     go_meet
     exact⟨by rw[cl],rfl⟩
   case rest=>
    obtain⟨rfl,M⟩:=hcut;rw[<-M];clear M;go_upto_region 21 with fail
    go_cut [131] (fun m wc=>m=.bool false/\w4=wc)
    case first=>
     rcases bv with⟨n,z,C,_⟩|⟨n,z,_⟩
     ·have dN:((H:Int) !=(Q:Int)+1)=true:=by rw[bne_iff_ne];omega
      subst n;clear z C;go_wp2
      go_meet
      exact⟨rfl,rfl⟩
     ·have dN:((H:Int) !=(Q:Int)+1)=false:=by rw[bne_eq_false_iff_eq];omega
      clear n z;go_wp2
      go_meet
      exact⟨rfl,rfl⟩
    case rest=>
     obtain⟨rfl,M⟩:=hcut;rw[<-M];clear M;go_upto_block 2 with fail
     clear eS nd;have pm:S.bs.length<=1000000:=gr.2;go_cut [] (fun wc=>dK wc B p a E/\aq wc a dC/\Below B w4 wc/\hq w4 wc)
     case first=>
      go_wp2
      go_loopw [13] (fun i wr=>∃(k:Nat) (ab:gC) (c1:aR),k<=Q/\i=.int .i64 k/\dK wr B p a ab/\aq wr a c1/\Below B w4 wr/\hq w4 wr/\iJ (L.drop k) (l.drop (k+1)) ab c1=some (E,dC)/\ab.bs.length<=S.bs.length+k) (fun i _=>Q-(intOf i).toNat)
      case atStart=>exact⟨0,S,CE A,by omega,rfl,l1,hf,Below.refl _ _,hq.refl _,cC,by omega⟩
      case round=>
       obtain⟨k,ab,c1,ms,rfl,I,q,V,X,J,pp⟩:=hrel;by_cases eW:k<Q
       ·have W:k<L.length:=by have:=cm.out;omega
        rw[List.drop_eq_getElem_cons W]at J;obtain⟨s,l',hl,hm,eL,c7,ih⟩:=mI J;have i3:k+1<l.length:=by
         have:0<(l.drop (k+1)).length:=(by rw[eL];simp);rw[List.length_drop]at this;omega
        rw[List.drop_eq_getElem_cons i3]at eL;obtain⟨Y,rfl⟩:=List.cons.inj eL;obtain⟨a1,a2,a3,ls,os⟩:=pT c7;have ii:=he s (by rw[<-Y];exact List.getElem_mem _);have eA:=kw L[k] (List.getElem_mem _);obtain⟨kd,eC⟩:=nm (L[k]);rw[eC]at c7 eA;have y0:wr.cell? ⟨g,k+1,none⟩=some (.string s):=(cQ.keep X).cell (by rw[List.getElem?_eq_getElem i3,Y]);obtain⟨k0,nC,qb,i5,mL,pi,mS,i7,_⟩:=aF kv (by omega);obtain⟨rfl,rfl⟩:lt=some ⟨k0,0,none⟩/\co=nC:=by injection i5 with n _ C;exact⟨n,C⟩
        have rb:wr.cell? ⟨k0,k,none⟩=some (.int .i64 kd):=(X.row i7 (by decide) (by decide) (by decide)).cell (by
         rw[List.getElem?_append_left (by rw[List.length_map];exact W),List.getElem?_map,List.getElem?_eq_getElem W,eC];rfl)
        have k2:=Z (fun w q I=>yn kd eA s ii.2 B p a ab hl c1 hm w c7 q I (by have:=G.out;omega) (by omega) (fun e=>by
         have n:=hf.lt;obtain⟨_,_,_,_,o⟩:=bw.out;have:=o.row.lt;have:=G.out;omega))
        have pc:(k:Int)+1<H:=(by have:=P.out;omega);have cL:=Z I;have dr:=Z q;have cd:=Z V;have ck:=Z X;have lb:=Z ih;have pu:IntKind.i64.wrap ((k:Int)+1)=(k:Int)+1:=IntWalk.i64_in _ (by omega);have pv:((k:Int)+1).toNat=k+1:=(by omega);have ge:(0:Int)<=(k:Int)+1:=(by omega);clear J c7 ii eA i7 i5 mL mS I q V X ih Y eC a1 a2 a3 ls;go_wp2
        go_still_tail 10,(by kernel_rfl)
        change wpList _ _ _ _ _ wr.drew;go_wp2_with (go_at_call 134;(with_reducible refine(k2.out _ ?_ ?_).mono ?_);exact dr.out;exact cL.out.af ((Ch.refl _ _).drew);rintro e v ⟨rfl,ap,u,D,i2⟩;have cr:=Z ap;have c0:=Z u;have c9:Hid (Below B wr v):=Z ⟨D.os,D.tape,D.output,D.size,D.block⟩;have k5:Hid (hq wr v):=Z (fun k c t f n z C c2=>i2 k c t f n z C c2);clear ap u D i2)
        go_roundw
        case rel=>exact⟨k+1,hl,hm,by omega,by go_num,cr,c0,cd.trans c9,ck.trans k5,lb,by omega⟩
        case measure=>simp[intOf];omega
       ·have i0:L.drop k=[]:=List.drop_of_length_le (by have:=cm.out;omega)
        rw[i0]at J;obtain⟨rfl,rfl⟩:=Prod.mk.inj (Option.some.inj J);have cL:=Z I;have dr:=Z q;have cd:=Z V;have ck:=Z X;clear J I q V X i0;go_wp2
        go_meet
        exact⟨cL,dr,cd,ck⟩
     case rest=>
      obtain⟨fd,gf,es,ex⟩:=hcut;obtain⟨gk,M⟩:=nm wc;rw[M]at fd gf es ex⊢;have cA:=Z fd;have cS:=Z gf;have cb:Hid (Below B w gk):=Z (k1.trans es);have eS:gk.cell? (g,H-1)=some (.string N):=(cQ.keep ex).cell (by rw[<-ll,List.getD_eq_getElem?_getD,List.getElem?_eq_getElem (by have:=P.out;omega)];rfl);clear M fd gf es ex;go_upto_if 154 with fail
      go_cut [] (fun wc=>dK wc B p a E/\aq wc a d/\Below B w wc)
      case first=>
       rcases bv with⟨n,z,C,c2⟩|⟨n,z,C⟩
       ·have kb:=Z (fun w n1 n2 q=>yl N ne ip dC d c2 p a E.line w n1 n2 q)
        have i9:p≠a:=fun e=>by
         obtain⟨_,_,_,_,o⟩:=bw.out;have:=o.row.lt;have:=G.out;omega
        have mA:gk.cell? (p,4)=some (.int .i64 E.line):=by
         obtain⟨_,_,_,_,o⟩:=cA.out;exact o.row.cell rfl
        have kT:=Z i9;subst n;clear z C c2 i9;go_wp2_with (go_at_call 135;(with_reducible refine(kb.out _ ?_ kT.out ?_).mono ?_);exact mA;exact cS.out;rintro e v ⟨rfl,u,hF⟩;have c0:=Z u;have gs:=Z hF;clear u hF)
        go_meet
        exact⟨cA.ins cS gs,c0,cb.trans (gs.below (by have:=cb.size;omega) (fun b hb=>by have e:b=a:=hb;have:=G.out;omega))⟩
       ·have O:=Z C
        subst n;clear z C;go_wp2
        go_meet
        exact⟨cA,by rw[O];exact cS,cb⟩
      case rest=>
       obtain⟨ap,u,D⟩:=hcut;obtain⟨v,io⟩:=nm wc;rw[io]at ap u D⊢;obtain⟨a0,qm,qr,r6,o⟩:=ap;have cr:=Z o;have c0:=Z u;have c9:=Z D;have x0:v.cell? (a,0)=some (.int .i64 d.op):=u.cell rfl;have x1:v.cell? (a,1)=some (.int .i64 d.a):=u.cell rfl;have x2:v.cell? (a,2)=some (.int .i64 d.b):=u.cell rfl;have x3:v.cell? (a,3)=some (.int .i64 d.c):=u.cell rfl;have x4:v.cell? (a,4)=some (.int .u64 d.v):=u.cell rfl;have x5:v.cell? (a,5)=some (.int .i64 d.m):=u.cell rfl;have x6:v.cell? (a,6)=some (.int .i64 d.wh):=u.cell rfl;have ob:v.cell? (p,0)=some a0:=o.row.cell rfl;have mb:=o.row.free 0;have i8:=o.row.lt;have U:=u.lt;have it:a0.ownBlock≠some p:=bl o.code o.row (by decide);have T:a0.ownBlock≠some a:=o.ne;have R:v.ownsRow B 121 7 a0 E.code.length (E.code.flatMap b3):=o.code;have pa:E.code.length<=1000000:=(by rw[(jt _ cC).1];exact gr.1);have mc:B<=v.heap.size:=(by have:=D.size;omega);obtain⟨nx,i1,no,nq,nw⟩:=info_parts ij;have k4:=Z i1;clear io o u D i1 eS;go_wp2
       have n8:p≠a:=fun e=>by
        obtain⟨_,_,_,_,o⟩:=bw.out;have:=o.row.lt;have:=G.out;omega
       have pl:a≠p:=Ne.symm n8;go_region_law (first|(refine step_append_lies _ (by rfl) _ _ _ (by rfl) B 121 nx _ 7 56 underlying30 k4 no nq nw rfl (by omega) a0 E.code.length (E.code.flatMap b3) (by rfl) ((R.alloc _).drew) ⟨v.heap.size,0,none⟩ 1 1 [d.op,d.a,d.b,d.c,.int .u64 d.v,d.m,d.wh] (by rfl) (by rfl) (World.news_of_block (cs:=#[d.op,d.a,d.b,d.c,.int .u64 d.v,d.m,d.wh]) (t:=121) (fr:=(0,0)) (heap_alloc_new v _)) (by simp[Value.oneCell']) (by omega) (by unfold maxLen;omega) (by omega) (by simp;omega) (v.heap.size+1) (by simp) ?_;intro p3 p2 K n0 F p8 eW;have qc:K.cell? (p,0)=some a0:=(F.cell_far ⟨p,0,none⟩ (by simp;omega) (Ne.symm it)).trans (by simp[go_sem,World.cell?_alloc_past,i8,ob]);have ql:K.frozen? (p,0)=false:=(F.frozen_far ⟨p,0,none⟩ (by simp;omega) (Ne.symm it)).trans (by simp[go_sem,World.frozen?_alloc_past,i8,mb]);have rc:K.cell? (a,0)=some (.int .i64 d.op):=(F.cell_far ⟨a,0,none⟩ (by simp;omega) (Ne.symm T)).trans (by simp[go_sem,World.cell?_alloc_past,U,x0]);have rd:K.cell? (a,1)=some (.int .i64 d.a):=(F.cell_far ⟨a,1,none⟩ (by simp;omega) (Ne.symm T)).trans (by simp[go_sem,World.cell?_alloc_past,U,x1]);have re:K.cell? (a,2)=some (.int .i64 d.b):=(F.cell_far ⟨a,2,none⟩ (by simp;omega) (Ne.symm T)).trans (by simp[go_sem,World.cell?_alloc_past,U,x2]);have rg:K.cell? (a,3)=some (.int .i64 d.c):=(F.cell_far ⟨a,3,none⟩ (by simp;omega) (Ne.symm T)).trans (by simp[go_sem,World.cell?_alloc_past,U,x3]);have ro:K.cell? (a,4)=some (.int .u64 d.v):=(F.cell_far ⟨a,4,none⟩ (by simp;omega) (Ne.symm T)).trans (by simp[go_sem,World.cell?_alloc_past,U,x4]);have rt:K.cell? (a,5)=some (.int .i64 d.m):=(F.cell_far ⟨a,5,none⟩ (by simp;omega) (Ne.symm T)).trans (by simp[go_sem,World.cell?_alloc_past,U,x5]);have rx:K.cell? (a,6)=some (.int .i64 d.wh):=(F.cell_far ⟨a,6,none⟩ (by simp;omega) (Ne.symm T)).trans (by simp[go_sem,World.cell?_alloc_past,U,x6])))
       all_goals
        go_wp2
        go_ret;obtain⟨og,ok⟩:=cr.iI mc d n0 (au (cT F));exact⟨rfl,by rw[lc];exact og,c9.trans ok⟩
def oD(S:gC):gC:={S with line:=S.line+1}
def ju(S:gC)(b:List ByteArray):Option gC:=match b with
 |[]=>some (oD S)
 |w::l=>match l4 S (w::l)with|none=>none|some a=>some (oD a)
def gN:List UInt8->List UInt8->gC->Option gC
 |[],cur,S=>if cur=[]then some S else ju S (lf cur [])
 |c::cs,cur,S=>if(c.toNat:Int)=10 then(match ju S (lf cur [])with|none=>none|some a=>gN cs [] a)else gN cs (cur++[c]) S
def oE:List (Int×Int×ByteArray)->List (ByteArray×Int)->List aR->Option (List aR)
 |[],_,C=>some C
 |x::l,L,C=>match cR L x.2.2 with
  |none=>none
  |some at_=>match C[x.2.1.toNat]? with
   |none=>none
   |some X=>if 0<=x.2.1 then oE l L (C.set x.2.1.toNat {X with v:=IntKind.u64.wrap at_})else none
def Dw(C:List aR)(L:List (ByteArray×Int)):Option (List aR×List (ByteArray×Int)):=
 if C.length<=2048/\L.all (fun b=>b.2 !=(C.length:Int))=true then some (C,L)else none
def iK(s:ByteArray):Option (List aR×List (ByteArray×Int)):=
 if s.size<=65536 then(match gN s.data.toList [] ⟨[],[],[],[],0⟩with
  |none=>none
  |some S=>match oE S.bs S.labels S.code with|none=>none|some C=>Dw C S.labels)else none
theorem te:∀(l w:List UInt8),∀x∈lf l w,1<=x.size/\x.size<=w.length+l.length:=by
 have b:∀(w:List UInt8),∀x∈o' w,1<=x.size/\x.size<=w.length:=by
  intro w x a;unfold o' at a;split at a
  ·cases a
  ·rename_i d
   have:x=ta w:=(by simpa using a);subst this;rw[tc];have:=List.length_pos_iff.2 d;omega
 intro l
 induction l with
 |nil=>intro w x a;have:=b w x a;simp only[List.length_nil];omega
 |cons c l ih=>
  intro w x a;unfold lf at a;simp only[List.length_cons];split at a
  ·have:=ih _ x a;simp only[List.length_append,List.length_cons,List.length_nil]at this;omega
  ·split at a
   ·have:=b w x a;omega
   ·rcases List.mem_append.1 a with h|h
    ·have:=b w x h;omega
    ·have:=ih _ x h;simp only[List.length_nil]at this;omega
theorem wa:∀(l w:List UInt8),(lf l w).length<=1+l.length:=by
 have a:∀(w:List UInt8),(o' w).length<=1:=by intro w;unfold o';split<;>simp
 intro l
 induction l with
 |nil=>intro w;have:=a w;simp only[List.length_nil];exact this
 |cons c l ih=>
  intro w;unfold lf;simp only[List.length_cons];split
  ·have:=ih (w++[c]);omega
  ·split
   ·have:=a w;omega
   ·rw[List.length_append];have:=a w;have:=ih [];omega
theorem jv{S a:gC}{l:List ByteArray}(h:l4 S l=some a):a.code.length<=S.code.length+1/\a.labels.length<=S.labels.length+1/\a.lines.length<=S.lines.length+1/\a.bs.length<=S.bs.length+3/\a.line=S.line:=by
 cases l with
 |nil=>cases h
 |cons w l=>
  change(if ca w (w.size-1)=58/\l.length=0 then td S (w.extract 0 (w.size-1))else pR S (w::l) (iT w cc 0 0))=some a at h;split at h
  ·unfold td at h
   split at h
   ·obtain rfl:=Option.some.inj h;simp
   ·cases h
  ·obtain⟨_,e,f,g,d,c,rfl,_⟩:=mJ h
   obtain⟨a1,a2,a3,b,i⟩:=jt _ c;have:=pS (iT w cc 0 0);simp only[List.length_append,List.length_cons,List.length_nil];rw[a1,a2,a3,b];refine⟨by omega,by omega,by omega,by omega,rfl⟩
theorem pU(l:List ByteArray)(v:0<l.length)(m:∀x∈l,1<=x.size/\x.size<=65536)(y:l.length<=100000)(g cap B p:Nat)(S b:gC)(w:World)(n:ee w g l)(f:l.length<=cap)(j:dK w B p p S)(d:B<=w.heap.size)
 (h:l4 S l=some b) (o:S.code.length<=1000000) (q:S.bs.length<=1000000) (r:S.labels.length<=1000000) (s:S.lines.length<=1000000):
 Calls prog 104 #[(p,0),.slice (some (g,0)) l.length cap] w (oC b B p w):=by
 cases l with
 |nil=>exact absurd v (by simp)
 |cons a l=>
  change(if ca a (a.size-1)=58/\l.length=0 then td S (a.extract 0 (a.size-1))else pR S (a::l) (iT a cc 0 0))=some b at h;split at h
  ·rename_i c
   obtain⟨t,u⟩:=c;have e:l=[]:=List.length_eq_zero_iff.1 u;subst e;unfold td at h;split at h
   ·rename_i i
    obtain rfl:=Option.some.inj h;have k:=m a (by simp);exact uS a _ rfl k.1 k.2 t g cap B p S w n (by simpa using f) j d i.1 i.2 r s
   ·cases h
  ·rename_i c
   exact AE (a::l) a rfl m y (fun e=>c ⟨e.1,by have:=e.2;simp only[List.length_cons]at this;omega⟩) g cap B p S b w n f j d h o q
theorem dK.more{w:World}{B p:Nat}{S:gC}(h:dK w B p p S):dK (w.setCell (p,4) (.int .i64 (S.line+1))) B p p (oD S):=by
 obtain⟨b,c,d,e,h⟩:=h;have a:=h.row;exact⟨b,c,d,e,a.bc _ _ rfl,h.hB,dR h.code a (by decide),h.ne,dR h.labels a (by decide),dR h.lines a (by decide),dR h.bs a (by decide)⟩
theorem ev(X:aR):(b3 X).length=7:=rfl
theorem oz.mH{w:World}{B p:Nat}{g n cap:Nat}{o r t:Value}{S:gC}{C:List aR}(h:oz w B p p (.slice (some (g,0)) n cap) o r t {S with code:=C}){i:Nat}{X:aR}(x:C[i]?=some X)(d:n=C.length)(v:Int):
 dK (w.setCell (g,i*7+4) (.int .u64 v)) B p p {S with code:=C.set i {X with v:=v}}/\Below B w (w.setCell (g,i*7+4) (.int .u64 v)):=by
 have A:(Value.slice (some (g,0)) n cap).ownBlock=some g:=rfl;obtain⟨F,cs,j⟩:=bS h.code A;have c:Ch (aL g) w (w.setCell (g,i*7+4) (.int .u64 v)):=(Ch.refl _ _).only _ _;have q:∀{e:TypeId} {s:Nat} {m:Value} {n:Nat} {u:List Value},w.ownsRow B e s m n u->121≠e->(w.setCell (g,i*7+4) (.int .u64 v)).ownsRow B e s m n u:=fun l z=>aj l c (fun k D e=>by have a:k=g:=e;subst a;exact bl l j z D)
 refine⟨⟨.slice (some (g,0)) n cap,o,r,t,?_⟩,c.below (by have:=h.row.lt;have:=h.hB;omega) (fun b hb=>by have e:b=g:=hb;omega)⟩;have f:=h.code;rw[show({S with code:=C}:gC).code=C from rfl,<-d]at f;have E:=hU (enc:=b3) f ev x 4 (by omega) rfl (v:=.int .u64 v) (y:={X with v:=v}) rfl d;refine⟨h.row.ch c (fun e=>by have a:p=g:=e;subst a;exact absurd (e3 h.row j) (by decide)),h.hB,?_,h.ne,q h.labels (by decide),q h.lines (by decide),q h.bs (by decide)⟩;rw[show({S with code:=C.set i {X with v:=v}}:gC).code=C.set i {X with v:=v}from rfl,List.length_set,<-d];exact E
def CF(r:List aR×List (ByteArray×Int))(w:World)(e:Ending)(w':World):Prop:=
 ∃a b,e=.returned (.tuple #[a,b,.pointer none])/\w'.ownsRow w.heap.size 121 7 a r.1.length (r.1.flatMap b3)/\w'.ownsRow w.heap.size 238 2 b r.2.length (r.2.flatMap o8)/\Ch ag w w'
structure tf(k:Nat)(S:gC):Prop where
 c:S.code.length<=k
 l:S.labels.length<=k
 n:S.lines.length<=k
 w:S.bs.length<=3*k
 a0:0<=S.line
 a1:S.line<=k
theorem tf.more{k:Nat}{S d:gC}{e:List ByteArray}(h:tf k S)(a:ju S e=some d):tf (k+1) d:=by
 have:=h.c;have:=h.l;have:=h.n;have:=h.w;have:=h.a0;have:=h.a1;cases e with
 |nil=>
  obtain rfl:=Option.some.inj a;exact⟨by show S.code.length<=_;omega,by show S.labels.length<=_;omega,by show S.lines.length<=_;omega,by show S.bs.length<=_;omega,by show 0<=S.line+1;omega,by show S.line+1<=_;omega⟩
 |cons w l=>
  unfold ju at a;dsimp only at a;cases c:l4 S (w::l)with
  |none=>rw[c]at a;cases a
  |some b=>
   rw[c]at a;obtain rfl:=Option.some.inj a;obtain⟨a1,a2,a3,f,g⟩:=jv c;exact⟨by show b.code.length<=_;omega,by show b.labels.length<=_;omega,by show b.lines.length<=_;omega,by show b.bs.length<=_;omega,by show 0<=b.line+1;omega,by show b.line+1<=_;omega⟩
theorem tf.mono{k a:Nat}{S:gC}(h:tf k S)(b:k<=a):tf a S:=by
 have:=h.c;have:=h.l;have:=h.n;have:=h.w;have:=h.a0;have:=h.a1;exact⟨by omega,by omega,by omega,by omega,by omega,by omega⟩
def f'(s:ByteArray)(f k:Nat):List UInt8:=(s.data.toList.drop f).take (k-f)
theorem oF(s:ByteArray)(k:Nat):f' s k k=[]:=by unfold f';rw[Nat.sub_self];rfl
theorem yp(s:ByteArray)(f k:Nat)(b:f<=k)(a:k<s.size):f' s f (k+1)=f' s f k++[s[k]]:=by
 unfold f';rw[show k+1-f=(k-f)+1 from by omega,List.take_add_one,List.getElem?_drop,show f+(k-f)=k from by omega,List.getElem?_eq_getElem (by simpa using a)];rfl
theorem ti(s:ByteArray)(f k:Nat)(a:f<=k)(b:k<=s.size):e7 (s.extract f k)=lf (f' s f k) []:=by
 unfold e7 f';rw[ByteArray.data_extract,Array.toList_extract,List.extract_eq_take_drop]
theorem lk(s:ByteArray)(f k:Nat):(f' s f k).length<=k-f:=by unfold f';rw[List.length_take];omega
theorem CG(s:ByteArray)(f k:Nat)(a:f<k)(b:k<=s.size):f' s f k≠[]:=by
 intro h;have:(f' s f k).length=k-f:=by unfold f';rw[List.length_take,List.length_drop];simp;omega
 rw[h]at this;simp at this;omega
theorem below_drewN{B:Nat}{w w':World}(h:Below B w w')(n:Nat):Below B w (w'.drewN n):=⟨h.os,h.tape,h.output,h.size,h.block⟩
theorem tj{w:World}{B:Nat}{v:Value}{a:List ByteArray}(h:w.ownsRow B 9 1 v a.length (a.map Value.string))(b:0<a.length):∃g cap,v=.slice (some ⟨g,0,none⟩) a.length cap/\a.length<=cap/\ee w g a:=by
 obtain⟨g,cap,f,d,i,c,j,e,_⟩:=aF h b;exact⟨g,cap,d,c,f,e⟩
theorem l5(s:ByteArray)(r:List aR×List (ByteArray×Int))(h:iK s=some r)(w:World):Calls prog 60 #[.string s] w (CF r w):=by
 unfold iK at h;split at h
 ·rename_i nw
  cases z:gN s.data.toList [] ⟨[],[],[],[],0⟩with
  |none=>rw[z]at h;cases h
  |some a=>
   rw[z]at h;dsimp only at h;cases al:oE a.bs a.labels a.code with
   |none=>rw[al]at h;cases h
   |some ap=>
    rw[al]at h;dsimp only at h;have k4:=Z z;have k5:=Z al;have kb:=Z h;clear h z al;have nx:(s.size:Int)<=65536:=(by omega);obtain⟨B,fn⟩:=nm w.heap.size;have R:=Z fn;go_in
    go_upto_block 0 with fail
    obtain⟨k3,ec⟩:=nm (w.alloc (.cells #[.slice none 0 0,.slice none 0 0,.slice none 0 0,.slice none 0 0,.int .i64 0] 232));have lb:Hid (dK k3 B B B ⟨[],[],[],[],0⟩):=Z (by
     have r:=Row.new w #[.slice none 0 0,.slice none 0 0,.slice none 0 0,.slice none 0 0,.int .i64 0] 232;rw[ec,fn]at r;exact⟨_,_,_,_,r,Nat.le_refl _,World.ownsRow_nil _ _ _ _,(fun e=>by cases e),World.ownsRow_nil _ _ _ _,World.ownsRow_nil _ _ _ _,World.ownsRow_nil _ _ _ _⟩)
    have kf:Hid (Below B w k3):=Z (by rw[<-ec];exact(Below.refl _ _).alloc (by omega) _);rw[ec];clear ec fn;go_cut [] (fun wc=>dK wc B B B a/\Below B w wc/\tf 65537 a)
    case first=>
     go_wp2
     go_loopw [6,7] (fun fr i wr=>∃(f k:Nat) (S:gC),fr=.int .i64 f/\i=.int .i64 k/\dK wr B B B S/\Below B w wr/\((k<=s.size/\f<=k/\tf k S/\gN (s.data.toList.drop k) (f' s f k) S=some a)∨(k=s.size+1/\tf k S/\S=a))) (fun _ i _=>s.size+1-(intOf i).toNat)
     case atStart=>exact⟨0,0,_,rfl,rfl,lb,kf,Or.inl ⟨by omega,by omega,⟨by simp,by simp,by simp,by simp,by simp,by simp⟩,by rw[oF];exact k4⟩⟩
     case round=>
      obtain⟨f,k,S,rfl,rfl,c,p,hrel⟩:=hrel;rcases hrel with⟨c2,a1,q,d⟩|⟨rfl,q,rfl⟩
      ·have Q:=Z q
       have c4:=Z c;have P:=Z p;by_cases cq:k<s.size
       ·have cL:Hid (s.data.toList.drop k=s[k]::s.data.toList.drop (k+1)):=drop_cons s k cq
        by_cases am:(s[k].toNat:Int)=10
        ·rw[cL,gN,if_pos am]at d
         have lt:((s[k].toNat:Int) !=10)=false:=(by rw[am];rfl);have mb:((k:Int)==s.size)=false:=(by rw[beq_eq_false_iff_ne];omega);cases F:ju S (lf (f' s f k) [])with
         |none=>rw[F]at d;cases d
         |some l=>
          rw[F]at d;dsimp only at d;have I:Hid ((k+1<=s.size/\(k+1)<=(k+1)/\tf (k+1) l/\gN (s.data.toList.drop (k+1)) (f' s (k+1) (k+1)) l=some a)∨(k+1=s.size+1/\tf (k+1) l/\l=a)):=Z (Or.inl ⟨by omega,Nat.le_refl _,q.more F,by rw[oF];exact d⟩);have av:=Z (ti s f k a1 c2);obtain⟨t,cr⟩:=nm (s.extract f k);have hb:t.size<=65536:=(by rw[<-cr];simp;omega);have V:=Z (fun w=>oA t hb w);rw[cr]at av;rw[av]at V;have cd:Hid (∀x∈lf (f' s f k) [],1<=x.size/\x.size<=65536):=Z (fun x ab=>by
           have z:=te _ _ x ab;have al:=lk s f k;simp only[List.length_nil]at z;omega)
          have c7:Hid ((lf (f' s f k) []).length<=65537):=Z (by
           have z:=wa (f' s f k) [];have al:=lk s f k;omega)
          have A:Hid (k<=65536):=Z (by omega);obtain⟨O,cs⟩:=nm (lf (f' s f k) []);rw[cs]at V cd c7 F;have c6:=Z F;have md:t.size<=maxLen:=(by unfold maxLen;omega);clear cs d q c p F am;cases O with
          |nil=>
           have ax:Hid (l=oD S):=Z (Option.some.inj c6).symm;go_upto_region 15 with(go_at_call 103;(with_reducible refine(V.out _).mono ?_);rintro e w2 ⟨hm,rfl,L,K⟩;obtain⟨a2,eW,rfl⟩:=ao L;have H:=Z K;clear L K;simp only[List.length_nil])
           have u:Hid (dK w2 B B B S):=Z (c4.out.af (Ch.b4 H));have T:Hid (Below B w w2):=Z (P.out.trans (H.mono (by have:=P.out.size;have:=R.out;omega)));have hl:w2.cell? (B,4)=some (.int .i64 S.line):=by
            obtain⟨_,_,_,_,b⟩:=u.out;exact b.row.cell rfl
           have fd:w2.frozen? (B,4)=false:=by
            obtain⟨_,_,_,_,b⟩:=u.out;exact b.row.free 4
           have hw:=Q.out.a0;have hB:=Q.out.a1;have mS:=A.out;go_wp2
           go_roundw
           case rel=>exact⟨k+1,k+1,l,by go_num,by go_num,by rw[ax];exact u.more,T.setCell (by simp) _,I⟩
           case measure=>simp[intOf];omega
          |cons x O=>
           have y:=c6.out;unfold ju at y;dsimp only at y;cases M:l4 S (x::O)with
           |none=>rw[M]at y;cases y
           |some J=>
            rw[M]at y;have ax:Hid (l=oD J):=Z (Option.some.inj y).symm;have N:=Q.out;have c8:=Z (jv M).2.2.2.2;have cb:=Z (fun g cap w hd gf c fz=>pU (x::O) (by simp) cd (by have:=c7.out;omega) g cap B B S J w hd gf c fz M (by have:=N.c;have:=A.out;omega) (by have:=N.w;have:=A.out;omega) (by have:=N.l;have:=A.out;omega) (by have:=N.n;have:=A.out;omega));obtain⟨D,E⟩:=mn ((x::O).length);have U:=Z E;have lo:0<D:=(by rw[E];simp);have ls:(0:Int)<D:=(by omega);rw[<-E]at cb;clear M y N E;go_wp2_with fail
            with_reducible refine(V.out _).mono ?_
            rintro e w2 ⟨hm,rfl,L,K⟩;obtain⟨lm,eW,rfl,cl,G⟩:=tj L (by simp);have eA:=Z cl;have ce:=Z G;have H:=Z K;rw[<-U];have u:Hid (dK w2 B B B S):=Z (c4.out.af (Ch.b4 H));have T:Hid (Below B w w2):=Z (P.out.trans (H.mono (by have:=P.out.size;have:=R.out;omega)));clear L K cl G;go_wp2_with fail
            with_reducible refine(cb.out _ _ _ ce.out (by have:=eA.out;rw[U.out];exact this) u.out (by have:=T.out.size;have:=R.out;omega)).mono ?_
            rintro e w3 ⟨rfl,a3,ck⟩;have eL:=Z a3;have ex:=Z (T.trans ck);have hl:w3.cell? (B,4)=some (.int .i64 J.line):=by
             obtain⟨_,_,_,_,b⟩:=a3;exact b.row.cell rfl
            have fd:w3.frozen? (B,4)=false:=by
             obtain⟨_,_,_,_,b⟩:=a3;exact b.row.free 4
            have hw:0<=J.line:=(by rw[c8];exact Q.out.a0);have hB:J.line<=65536:=(by rw[c8];have:=Q.out.a1;have:=A.out;omega);clear a3 ck;go_wp2
            go_roundw
            case rel=>exact⟨k+1,k+1,l,by go_num,by go_num,by rw[ax];exact eL.more,ex.setCell (by simp) _,by first|exact I|exact I.imp id (fun h=>⟨h.1,h.2.1,rfl⟩)⟩
            case measure=>simp[intOf];omega
        ·have I:Hid ((k+1<=s.size/\f<=k+1/\tf (k+1) S/\gN (s.data.toList.drop (k+1)) (f' s f (k+1)) S=some a)∨(k+1=s.size+1/\tf (k+1) S/\S=a)):=Z (Or.inl ⟨by omega,by omega,q.mono (by omega),by
          rw[cL,gN,if_neg am]at d;rw[yp s f k a1 cq];exact d⟩)
         have lt:((s[k].toNat:Int) !=10)=true:=(by simpa using am);clear am q c p d;go_wp2
         go_roundw
         case rel=>exact⟨f,k+1,S,rfl,by go_num,c4.out,P.out,I⟩
         case measure=>simp[intOf];omega
       ·have ii:k=s.size:=by omega
        have cL:Hid (s.data.toList.drop k=[]):=ib s k (by omega);rw[cL,gN]at d;have mb:((k:Int)==s.size)=true:=(by rw[beq_iff_eq];omega);by_cases go:f=k
        ·have I:Hid ((k+1<=s.size/\f<=k+1/\tf (k+1) S/\gN (s.data.toList.drop (k+1)) (f' s f (k+1)) S=some a)∨(k+1=s.size+1/\tf (k+1) S/\S=a)):=Z (Or.inr ⟨by omega,q.mono (by omega),by
          rw[go,oF,if_pos rfl]at d;exact Option.some.inj d⟩)
         have l':((f:Int)==(k:Int))=true:=(by rw[beq_iff_eq];omega);clear ii q c p d go;go_wp2
         go_roundw
         case rel=>exact⟨f,k+1,S,rfl,by go_num,c4.out,P.out,I⟩
         case measure=>simp[intOf];omega
        ·rw[if_neg (CG s f k (by omega) c2)]at d
         cases F:ju S (lf (f' s f k) [])with
         |none=>rw[F]at d;cases d
         |some l=>
          rw[F]at d;obtain rfl:=Option.some.inj d;have I:Hid ((k+1<=s.size/\(k+1)<=(k+1)/\tf (k+1) l/\gN (s.data.toList.drop (k+1)) (f' s (k+1) (k+1)) l=some l)∨(k+1=s.size+1/\tf (k+1) l/\l=l)):=Z (Or.inr ⟨by omega,q.more F,rfl⟩);have l':((f:Int)==(k:Int))=false:=(by rw[beq_eq_false_iff_ne];omega);clear ii;have av:=Z (ti s f k a1 c2);obtain⟨t,cr⟩:=nm (s.extract f k);have hb:t.size<=65536:=(by rw[<-cr];simp;omega);have V:=Z (fun w=>oA t hb w);rw[cr]at av;rw[av]at V;have cd:Hid (∀x∈lf (f' s f k) [],1<=x.size/\x.size<=65536):=Z (fun x ab=>by
           have z:=te _ _ x ab;have al:=lk s f k;simp only[List.length_nil]at z;omega)
          have c7:Hid ((lf (f' s f k) []).length<=65537):=Z (by
           have z:=wa (f' s f k) [];have al:=lk s f k;omega)
          have A:Hid (k<=65536):=Z (by omega);obtain⟨O,cs⟩:=nm (lf (f' s f k) []);rw[cs]at V cd c7 F;have c6:=Z F;have md:t.size<=maxLen:=(by unfold maxLen;omega);clear cs d q c p F go;cases O with
          |nil=>
           have ax:Hid (l=oD S):=Z (Option.some.inj c6).symm;go_upto_region 15 with(go_at_call 103;(with_reducible refine(V.out _).mono ?_);rintro e w2 ⟨hm,rfl,L,K⟩;obtain⟨a2,eW,rfl⟩:=ao L;have H:=Z K;clear L K;simp only[List.length_nil])
           have u:Hid (dK w2 B B B S):=Z (c4.out.af (Ch.b4 H));have T:Hid (Below B w w2):=Z (P.out.trans (H.mono (by have:=P.out.size;have:=R.out;omega)));have hl:w2.cell? (B,4)=some (.int .i64 S.line):=by
            obtain⟨_,_,_,_,b⟩:=u.out;exact b.row.cell rfl
           have fd:w2.frozen? (B,4)=false:=by
            obtain⟨_,_,_,_,b⟩:=u.out;exact b.row.free 4
           have hw:=Q.out.a0;have hB:=Q.out.a1;have mS:=A.out;go_wp2
           go_roundw
           case rel=>exact⟨k+1,k+1,l,by go_num,by go_num,by rw[ax];exact u.more,T.setCell (by simp) _,I⟩
           case measure=>simp[intOf];omega
          |cons x O=>
           have y:=c6.out;unfold ju at y;dsimp only at y;cases M:l4 S (x::O)with
           |none=>rw[M]at y;cases y
           |some J=>
            rw[M]at y;have ax:Hid (l=oD J):=Z (Option.some.inj y).symm;have N:=Q.out;have c8:=Z (jv M).2.2.2.2;have cb:=Z (fun g cap w hd gf c fz=>pU (x::O) (by simp) cd (by have:=c7.out;omega) g cap B B S J w hd gf c fz M (by have:=N.c;have:=A.out;omega) (by have:=N.w;have:=A.out;omega) (by have:=N.l;have:=A.out;omega) (by have:=N.n;have:=A.out;omega));obtain⟨D,E⟩:=mn ((x::O).length);have U:=Z E;have lo:0<D:=(by rw[E];simp);have ls:(0:Int)<D:=(by omega);rw[<-E]at cb;clear M y N E;go_wp2_with fail
            with_reducible refine(V.out _).mono ?_
            rintro e w2 ⟨hm,rfl,L,K⟩;obtain⟨lm,eW,rfl,cl,G⟩:=tj L (by simp);have eA:=Z cl;have ce:=Z G;have H:=Z K;rw[<-U];have u:Hid (dK w2 B B B S):=Z (c4.out.af (Ch.b4 H));have T:Hid (Below B w w2):=Z (P.out.trans (H.mono (by have:=P.out.size;have:=R.out;omega)));clear L K cl G;go_wp2_with fail
            with_reducible refine(cb.out _ _ _ ce.out (by have:=eA.out;rw[U.out];exact this) u.out (by have:=T.out.size;have:=R.out;omega)).mono ?_
            rintro e w3 ⟨rfl,a3,ck⟩;have eL:=Z a3;have ex:=Z (T.trans ck);have hl:w3.cell? (B,4)=some (.int .i64 J.line):=by
             obtain⟨_,_,_,_,b⟩:=a3;exact b.row.cell rfl
            have fd:w3.frozen? (B,4)=false:=by
             obtain⟨_,_,_,_,b⟩:=a3;exact b.row.free 4
            have hw:0<=J.line:=(by rw[c8];exact Q.out.a0);have hB:J.line<=65536:=(by rw[c8];have:=Q.out.a1;have:=A.out;omega);clear a3 ck;go_wp2
            go_roundw
            case rel=>exact⟨k+1,k+1,l,by go_num,by go_num,by rw[ax];exact eL.more,ex.setCell (by simp) _,by first|exact I|exact I.imp id (fun h=>⟨h.1,h.2.1,rfl⟩)⟩
            case measure=>simp[intOf];omega
      ·have eS:=Z c
       have cC:=Z p;have cS:=Z q;clear c p q;go_wp2
       go_meet
       exact⟨eS,cC,cS.mono (by omega)⟩
    case rest=>
     obtain⟨c,p,q⟩:=hcut;have cC:=Z p;have cS:=Z q;have mm:a.bs.length<=200000:=(by have:=q.w;omega);have i2:=Z c;obtain⟨w1,io⟩:=nm wc;rw[io]at i2 cC⊢;clear c p q io;obtain⟨D,E⟩:=mn a.bs.length;have U:=Z E;rw[<-E]at mm;clear E;go_upto_block 2 with fail
     go_cut [] (fun wc=>dK wc B B B {a with code:=ap}/\Below B w wc/\ap.length=a.code.length)
     case first=>
      go_wp2
      go_loopw [10] (fun i wr=>∃(k:Nat) (C:List aR),k<=D/\i=.int .i64 k/\dK wr B B B {a with code:=C}/\Below B w wr/\oE (a.bs.drop k) a.labels C=some ap/\C.length=a.code.length) (fun i _=>D-(intOf i).toNat)
      case atStart=>exact⟨0,a.code,by omega,rfl,i2,cC,k5,rfl⟩
      case round=>
       obtain⟨k,C,c2,rfl,c,p,o,dr⟩:=hrel;have eS:=Z c;have hF:=Z p;have i0:=Z dr;obtain⟨bw,c5,k2,hn,b⟩:=c;have cQ:=Z b;have k0:wr.cell? (B,3)=some hn:=b.row.cell rfl;have gt:wr.ownsRow B 236 3 hn D (a.bs.flatMap oy):=(by rw[U];exact b.bs);have l1:=Z gt;obtain⟨li,fb,rfl⟩:=ao gt;clear gt b p dr;by_cases cq:k<D
       ·have c3:k<a.bs.length:=by have:=U.out;omega
        rw[List.drop_eq_getElem_cons c3]at o;obtain⟨x,ab⟩:=nm (a.bs[k]);have hi:a.bs[k]?=some x:=(by rw[List.getElem?_eq_getElem c3,ab]);rw[ab,oE]at o;cases a1:cR a.labels x.2.2 with
        |none=>rw[a1]at o;cases o
        |some at_=>
         rw[a1]at o;dsimp only at o;obtain⟨x0,mC,hu⟩:=x;dsimp only at o a1;cases c1:C[mC.toNat]? with
         |none=>rw[c1]at o;cases o
         |some X=>
          rw[c1]at o;dsimp only at o;split at o
          ·rename_i i8
           obtain⟨bv,rfl⟩:=Int.eq_ofNat_of_zero_le i8;rw[Int.toNat_natCast]at c1 o;have nd:bv<C.length:=(List.getElem?_eq_some_iff.1 c1).1;have i4:=Z c1;have lc:=Z o;obtain⟨c0,ll,mp,jp,_,nC,_,hf,_⟩:=aF l1 (by omega);obtain⟨rfl,rfl⟩:li=some ⟨c0,0,none⟩/\fb=ll:=by injection jp with z _ Y;exact⟨z,Y⟩
           have ip:wr.cell? ⟨c0,k*3+1,none⟩=some (.int .i64 bv):=hf.cell (by
            rw[List.getElem?_append_left (by rw[a4 (k:=3) (fun _=>rfl)];omega)];exact(bD (k:=3) (enc:=oy) (fun _=>rfl) hi (j:=1) (by omega)).trans rfl)
           have mk:wr.cell? ⟨c0,k*3+2,none⟩=some (.string hu):=hf.cell (by
            rw[List.getElem?_append_left (by rw[a4 (k:=3) (fun _=>rfl)];omega)];exact(bD (k:=3) (enc:=oy) (fun _=>rfl) hi (j:=2) (by omega)).trans rfl)
           have ad:wr.cell? (B,0)=some bw:=cQ.row.cell rfl;have en:wr.cell? (B,1)=some c5:=cQ.row.cell rfl;have kw:Hid (∀n,Calls prog 82 #[c5,.string hu] (wr.drewN n) (fun e w'=>e=.returned (.tuple #[at_,.bool true])/\∃m,w'=(wr.drewN n).drewN m)):=
            Z (fun n=>hk a.labels hu (at_,true) (by rw[a1];rfl) c5 B (wr.drewN n) cQ.labels (by have:=cS.l;omega))
           have ni:(k:Int)<D:=(by omega);clear o a1 jp hf hi ab i8 c3 c1;go_wp2
           go_quiet ((go_at_call 82;exact Calls.quiet_of (kw _)))
           obtain⟨w2,G⟩:=nm (wr.drewN nq);have ce:Hid (Below B w w2):=Z (by rw[<-G];exact below_drewN hF nq);have u:Hid (oz w2 B B B bw c5 k2 (.slice (some (c0,0)) D fb) {a with code:=C}):=Z (by rw[<-G];exact cQ.af ((Ch.refl _ _).drewN _));have hv:w2.cell? ⟨c0,k*3+1,none⟩=some (.int .i64 bv):=(by rw[<-G];exact ip);have y0:w2.cell? (B,0)=some bw:=(by rw[<-G];exact ad);have og:w2.cell? (B,3)=some (.slice (some (c0,0)) D fb):=(by rw[<-G];exact k0);rw[G];obtain⟨i7,i5,ob,cm,_,i9,_,gk,_⟩:=aF u.code (by show 0<C.length;omega);have ci:Hid (bw=.slice (some (i7,0)) C.length i5):=Z cm;obtain⟨bx,ge⟩:=mn C.length;have c9:=Z ge;have ne:(bv:Int)<bx:=(by omega);have ok:w2.cell? (i7,bv*7+4)=some (.int .u64 X.v):=gk.cell (by
            rw[List.getElem?_append_left (by show _<(C.flatMap b3).length;rw[a4 ev];omega)];exact(bD ev i4 (j:=4) (by omega)).trans rfl)
           have f4:=gk.free (bv*7+4);have n8:bx<=i5:=(by rw[ge];exact i9);rw[ci,<-c9]at y0 u;clear G ip mk ad en k0 cm i9 gk ge;go_wp2
           go_still_tail 14,(by kernel_rfl)
           change wpList _ _ _ _ _ w2.drew;go_wp2
           go_roundw
           obtain⟨k1,ms⟩:=oz.mH u i4 c9 (IntKind.u64.wrap at_)
           case rel=>
            refine⟨k+1,C.set bv {X with v:=IntKind.u64.wrap at_},by omega,by go_num,?_,?_,lc,by rw[List.length_set];exact i0⟩
            ·first|exact k1|exact k1.af ((Ch.refl _ _).drew)
            ·have a0:=ce.trans ms
             exact⟨a0.os,a0.tape,a0.output,a0.size,a0.block⟩
           case measure=>simp[intOf];omega
          ·cases o
       ·have dC:a.bs.drop k=[]:=List.drop_of_length_le (by have:=U.out;omega)
        rw[dC]at o;have av:Hid (C=ap):=Z (Option.some.inj o);clear o dC;go_wp2
        go_meet
        rw[<-av];exact⟨eS,hF,i0⟩
     case rest=>
      obtain⟨c,p,dr⟩:=hcut;obtain⟨w4,it⟩:=nm wc;rw[it]at c p⊢;have Y:=kb.out;unfold Dw at Y;split at Y
      ·rename_i dC
       obtain⟨lv,ih⟩:=dC;obtain rfl:=Option.some.inj Y;have n0:=Z c;have kv:=Z p;obtain⟨bw,c5,k2,hn,b⟩:=c;have mW:=Z b;have gr:w4.ownsRow B 121 7 bw ap.length (ap.flatMap b3):=b.code;have gs:=b.labels;have ad:w4.cell? (B,0)=some bw:=b.row.cell rfl;have en:w4.cell? (B,1)=some c5:=b.row.cell rfl;have l0:=Z gr;have i1:=Z gs;obtain⟨ac,i6,rfl⟩:=ao gr;obtain⟨cf,ch,rfl⟩:=ao gs;obtain⟨bx,ci⟩:=mn ap.length;obtain⟨W,gc⟩:=mn a.labels.length;have c9:=Z ci;have eC:=Z gc;have n1:W<=65537:=(by have:=cS.l;omega);rw[<-ci]at ad lv;have cA:w4.cell? (B,1)=some (.slice cf W ch):=(by rw[gc];exact en);have kd:Hid (∀k,k<W->∃(cW:Nat) (at_:Int),cf=some ⟨cW,0,none⟩/\W<=ch/\(at_==(bx:Int))=false/\w4.cell? ⟨cW,k*2+1,none⟩=some (.int .i64 at_)):=Z (fun k c2=>by
        have c3:k<a.labels.length:=(by have:=eC.out;omega);obtain⟨g,cap,mp,lw,_,am,_,mc,_⟩:=aF i1 (by show 0<a.labels.length;omega);have ab:a.labels[k]?=some a.labels[k]:=List.getElem?_eq_getElem c3;obtain⟨rfl,rfl⟩:cf=some ⟨g,0,none⟩/\ch=cap:=by injection lw with z _ Y;exact⟨z,Y⟩
        refine⟨g,a.labels[k].2,rfl,by have:=eC.out;rw[this];exact am,?_,?_⟩
        ·have:=List.all_eq_true.1 ih _ (List.getElem_mem c3)
         rw[<-c9]at this;rw[bne_iff_ne]at this;rw[beq_eq_false_iff_ne];exact this
        ·refine mc.cell ?_
         rw[List.getElem?_append_left (by show _<(a.labels.flatMap o8).length;rw[a4 ig];omega)];exact(bD ig ab (j:=1) (by omega)).trans rfl)
       clear it b gr gs ci gc en p dr Y ih;go_upto_block 4 with fail
       go_cut [] (fun wc=>∃m,wc=w4.drewN m)
       case first=>
        go_wp2
        go_loopw [13] (fun i wr=>∃(k m:Nat),k<=W/\i=.int .i64 k/\wr=w4.drewN m) (fun i _=>W-(intOf i).toNat)
        case atStart=>exact⟨0,0,by omega,rfl,rfl⟩
        case round=>
         obtain⟨k,m,c2,rfl,rfl⟩:=hrel;obtain⟨es,bi⟩:=nm (w4.drewN m);have i3:=Z bi;have y0:es.cell? (B,0)=some (.slice ac bx i6):=(by rw[<-bi];exact ad);have hv:es.cell? (B,1)=some (.slice cf W ch):=(by rw[<-bi];exact cA);rw[bi];by_cases cq:k<W
         ·obtain⟨cW,at_,rfl,no,n2,cm⟩:=kd k cq
          have mL:es.cell? ⟨cW,k*2+1,none⟩=some (.int .i64 at_):=(by rw[<-bi];exact cm);clear bi cm ad cA;go_wp2
          go_quiet (fail)
          obtain⟨mA,he⟩:=nm (es.drewN nq);have le:Hid (mA=w4.drewN (m+nq)):=Z (by rw[<-he,<-i3,World.drewN_drewN]);rw[he];clear he y0 hv mL;go_wp2
          go_roundw
          case rel=>exact⟨k+1,m+nq,by omega,by go_num,le⟩
          case measure=>simp[intOf];omega
         ·clear bi ad cA
          go_wp2
          go_meet
          exact⟨m,i3.symm⟩
       case rest=>
        obtain⟨m,dN⟩:=hcut;have kT:=Z dN;have y0:wc.cell? (B,0)=some (.slice ac bx i6):=(by rw[dN];exact ad);have hv:wc.cell? (B,1)=some (.slice cf W ch):=(by rw[dN];exact cA);clear dN ad cA;go_wp2
        go_quiet (fail)
        go_wp2
        go_ret3;have et:Ch ag w4 (wc.drewN nq):=(by rw[kT];exact((Ch.refl _ _).drewN _).drewN _);refine⟨_,_,rfl,?_,?_,?_⟩
        ·have a0:=aj l0 et (fun _ _ e=>e)
         rw[c9,R];exact a0
        ·have a0:=aj i1 et (fun _ _ e=>e)
         rw[eC,R];exact a0
        ·exact(Ch.b4 (by rw[R];exact kv)).trans et
      ·cases Y
 ·cases h
end Go.Proofs.YtfnilkpkogipfaaGreatDoor
