import Derived.Laws.CopyRow
import Derived.Test.YtlihkblppjgebaaGreatDoorZAg
import Derived.Test.YtlihkblppjgebaaGreatDoorZAh
set_option linter.all false
set_option maxRecDepth 100000
set_option maxHeartbeats 0
namespace Go.Proofs.YtlihkblppjgebaaGreatDoor
open Go.RowKit Go.Proofs.Tryz
variable{w:World}{B b m n s:Nat}{v:Value}{e:TypeId}
structure iK where
 at_:Nat
 n:Nat
 w:Int
 deriving DecidableEq,Repr,Inhabited
def iK.cells(b:iK):List Value:=[.int .i64 b.at_,.int .i64 b.n,.int .i64 b.w]
theorem iK.len(b:iK):b.cells.length=3:=rfl
structure a8 where
 from_:Nat
 y9:Nat
 l:List iK
structure aT(w:World)(b m:Nat)(v:Value)(S:a8):Prop where
 head:Row w b 314 [(m,0),.int .i64 S.from_,.int .i64 S.y9,v]
 own:w.ownsRow 0 317 3 v S.l.length (S.l.flatMap iK.cells)
def dF(b:Nat)(v:Value):Nat->Prop:=fun i=>i=b∨v.ownBlock=some i
theorem aT.alloc{S:a8}(h:aT w b m v S)(o:Obj):aT (w.alloc o) b m v S:=⟨h.head.alloc o,h.own.alloc o⟩
theorem aT.drew{S:a8}(h:aT w b m v S):aT w.drew b m v S:=⟨h.head,h.own.drew⟩
theorem aT.drewN{S:a8}(h:aT w b m v S)(n:Nat):aT (w.drewN n) b m v S:=⟨h.head,⟨h.own.1,h.own.2⟩⟩
theorem aT.ch{w':World}{D:Nat->Prop}{S:a8}(h:aT w b m v S)(c:Ch D w w')(hb:¬D b)(hd:∀g,v.ownBlock=some g->¬D g):aT w' b m v S:=⟨h.head.ch c hb,ak h.own c hd⟩
theorem aE{xs:List Value}(h:w.ownsRow B e s v n xs)(o:0<n):∃g cap c,v=.slice (some ⟨g,0,none⟩) n cap/\B<=g/\n<=cap/\cap<=maxLen/\Row w g e (xs++c)/\(xs++c).length=cap*s:=by
 rcases h.2 with⟨_,l⟩|⟨g,cap,cur,rfl,d,i,f,j,k,a⟩
 ·omega
 ·refine⟨g,cap,cur.toList.drop (n*s),rfl,d,f,j,?_,?_⟩
  ·unfold Row;rw[<-a,List.take_append_drop];simpa using i
  ·rw[<-a,List.take_append_drop];simpa using k
theorem kI{α:Type}{enc:α->List Value}{g cap:Nat}{l:List α}(h:w.ownsRow B e s (.slice (some (g,0)) n cap) n (l.flatMap enc))(d:∀x,(enc x).length=s)(G:n=l.length){i:Nat}{x:α}(f:l[i]?=some x):
 (∀j v,j<s->(enc x)[j]?=some v->w.cell? ⟨g,i*s+j,none⟩=some v)/\g<w.heap.size/\(∀j,w.frozen? ⟨g,j,none⟩=false):=by
 have D:=(List.getElem?_eq_some_iff.1 f).1;obtain⟨u,t,H,o,A,C,F,c,E⟩:=aE h (by omega);injection o with a y z
 injection a with a
 injection a with a
 subst a;have k:=aU d l;refine⟨fun j v p r=>c.cell ?_,c.lt,fun j=>c.free j⟩;have q:i*s+j<l.length*s:=by
  calc i*s+j<i*s+s:=by omega
   _=(i+1)*s:=by rw[Nat.succ_mul]
   _<=l.length*s:=Nat.mul_le_mul_right _ (by omega)
 rw[List.getElem?_append_left (by rw[k];exact q)];exact(bJ d f p).trans r
def a8.ek(S:a8)(i:Nat):Nat:=if i=0 then S.from_ else match S.l[i-1]? with|some x=>x.at_+x.n|none=>0
def a8.gh(S:a8)(i:Nat):Nat:=if i=S.l.length then S.y9 else match S.l[i]? with|some x=>x.at_|none=>0
structure a8.Ok(S:a8):Prop where
 from_:S.from_<=70000
 y9:S.y9<=70000
 l:∀x∈S.l,x.at_<=70000/\x.n<=70000
 len:S.l.length<=900000
theorem qs(b m:Nat)(v:Value)(S:a8)(a:S.Ok)(i:Nat)(r:i<=S.l.length)(w:World)(h:aT w b m v S):
 Calls prog 150 #[(b,0),.int .i64 i] w (fun e w'=>e=.returned (.int .i64 (S.ek i))/\∃k,w'=w.drewN k):=by
 by_cases j:i=0
 ·subst j
  have E:Hid (S.ek 0=S.from_):=Z (by unfold a8.ek;rw[if_pos rfl]);have t:=h.head.k 1 rfl;go_wp2
  go_ret;rw[E];exact⟨rfl,0,rfl⟩
 ·obtain⟨p,rfl⟩:∃p,i=p+1:=⟨i-1,by omega⟩
  obtain⟨x,c⟩:∃x,S.l[p]?=some x:=⟨_,List.getElem?_eq_getElem (by omega)⟩;have E:Hid (S.ek (p+1)=x.at_+x.n):=Z (by unfold a8.ek;rw[if_neg (by omega),Nat.add_sub_cancel,c]);have J:=a.l x (List.mem_of_getElem? c);obtain⟨g,cap,K,rfl,A,o,G,-,-⟩:=aE h.own (by omega);obtain⟨d,F,D⟩:=kI h.own iK.len rfl c;have L:w.cell? ⟨g,p*3,none⟩=some (.int .i64 x.at_):=d 0 _ (by omega) rfl;have M:w.cell? ⟨g,p*3+1,none⟩=some (.int .i64 x.n):=d 1 _ (by omega) rfl;have f:=h.head.k 3 rfl;obtain⟨N,l⟩:=mn S.l.length;rw[<-l]at f r o;have q:((p+1:Nat):Int)=(p:Int)+1:=by omega
  have C:((p:Int)+1==0)=false:=by rw[beq_eq_false_iff_ne];omega
  have u:IntKind.i64.wrap ((p:Int)+1-1)=(p:Int):=by rw[show(p:Int)+1-1=p from by omega];exact IntWalk.i64_in _ (by have:=a.len;omega)
  have z:IntKind.i64.wrap (p:Int)=(p:Int):=IntWalk.i64_in _ (by have:=a.len;omega);have y:IntKind.i64.wrap ((x.at_:Int)+x.n)=((x.at_:Int)+x.n):=IntWalk.i64_in _ (by omega);have I:(p:Int)<N:=by omega
  have H:(0:Int)<=p:=by omega
  rw[q];go_wp2
  go_quiet (fail)
  go_wp2
  go_ret;rw[E];exact⟨rfl,_,rfl⟩
theorem nM(b m:Nat)(v:Value)(S:a8)(p:S.Ok)(i:Nat)(o:i<=S.l.length)(w:World)(h:aT w b m v S):
 Calls prog 151 #[(b,0),.int .i64 i] w (ez (.int .i64 (S.gh i)) w):=by
 obtain⟨q,t,d⟩:=au h.own;have r:=h.head.k 2 rfl;have j:=h.head.k 3 rfl;obtain⟨N,c⟩:=mn S.l.length;by_cases a:i=S.l.length
 ·have E:Hid (S.gh i=S.y9):=Z (by unfold a8.gh;rw[if_pos a])
  rw[<-c]at a d;subst a;subst d;go_wp2
  go_ret;exact ez.mk (by rw[E];rfl)
 ·obtain⟨x,f⟩:∃x,S.l[i]?=some x:=⟨_,List.getElem?_eq_getElem (by omega)⟩
  have E:Hid (S.gh i=x.at_):=Z (by unfold a8.gh;rw[if_neg a,f]);obtain⟨g,cap,F,rfl,u,l,D,-,-⟩:=aE h.own (by omega);obtain⟨k,C,z⟩:=kI h.own iK.len rfl f;have G:w.cell? (g,i*3)=some (.int .i64 x.at_):=k 0 _ (by omega) rfl;rw[<-c]at j o a l;have hlen:=p.len;rw[<-c]at hlen;have y:((i:Int)==(N:Int))=false:=by rw[beq_eq_false_iff_ne];omega
  have A:(i:Int)<N:=by omega
  go_wp2
  go_ret;exact ez.mk (by rw[E];rfl)
section
attribute [local go_sem↓] Go.wp_at_zero Go.wp_at_succ
variable{w:World}{B cap g i s:Nat}{e:TypeId}
theorem nN{P:Program}(w:World)(f A ty elem:TypeId)(size g o b k:Nat)(a:Addr)(d z:Nat)(cur:Array Value)(t:TypeId)(cs:List Value)
 (y:P.underlying f=some (.slice elem)) (h:(P.info? elem).map (·.size)=some size)
 (n:w.heap[g]?=some (.cells cur t (0,0))) (r:cs.length=Nat.min d b*size)
 (u:∀j v,cs[j]?=some v->w.cell? (a.add j)=some v) (m:o+cs.length<=cur.size) (l:∀v∈cs,v.oneCell'=true):
 (Builtin.copy_ #[f,A] ty #[.slice (some (g,o)) b k,.slice (some a) d z]).run P w=
  .ok (goInt (Nat.min d b)) (w.setRow g (cur.toList.take o++cs++cur.toList.drop (o+cs.length)).toArray):=by
 have q:=run_loadCells_list (P:=P) w a cs u;have x:=run_storeCells_at P g o t cs 0 cur w n (by simpa using m) l;cases c:P.info? elem with
 |none=>simp[c]at h
 |some i=>
  have p:i.size=size:=by simpa[c]using h
  simp[Builtin.copy_,run_underlying y,Builtin.lenOf,Builtin.firstCells,sizeOf,typeInfo,c,p,<-r,q,x]
theorem pz(w:World)(g:Nat)(cs:Array Value):Ch (aH g) w (w.setRow g cs):=
 ⟨rfl,rfl,rfl,by simp[World.setRow],fun k a hd=>setRow_other w g k cs (fun e=>hd e)⟩
theorem lJ{α:Type}{enc:α->List Value}{k:Nat}(a:∀x,(enc x).length=k):∀(l:List α) (n:Nat),(l.flatMap enc).drop (n*k)=(l.drop n).flatMap enc
 |[],n=>by simp
 |x::l,0=>by simp
 |x::l,n+1=>by
  rw[List.flatMap_cons,List.drop_succ_cons,Nat.succ_mul,List.drop_append,a,show n*k+k-k=n*k from by omega,lJ a l n,List.drop_of_length_le (by rw[a];omega),List.nil_append]
theorem xa{α:Type}{enc:α->List Value}{P:Program}{T ty:TypeId}{l:List α}{z:α}{dC sC:Nat}(G:P.underlying T=some (.slice e))(F:(P.info? e).map (·.size)=some s)
 (a:∀x,(enc x).length=s) (q:∀x,∀v∈enc x,v.oneCell'=true) (M:i<l.length) (h:w.ownsRow B e s (.slice (some (g,0)) (l.length+1) cap) (l.length+1) ((l++[z]).flatMap enc)):
 ∃w',(Builtin.copy_ #[T,T] ty #[.slice (some (g,(i+1)*s)) (l.length-i) dC,.slice (some (g,i*s)) (l.length+1-i) sC]).run P w=.ok (goInt ((l.length-i:Nat):Int)) w'/\
  w'.ownsRow B e s (.slice (some (g,0)) (l.length+1) cap) (l.length+1) ((l.take (i+1)++l.drop i).flatMap enc)/\Ch (aH g) w w':=by
 obtain⟨L,K,b,A,r,y,E,n,C⟩:=aE h (by omega);injection A with f O J
 injection f with f
 injection f with f
 subst f J;have d:((l++[z]).flatMap enc).length=(l.length+1)*s:=by rw[aU a];simp
 have c:=aU a (l.drop i);rw[List.length_drop]at c;have o:Nat.min (l.length+1-i) (l.length-i)=l.length-i:=Nat.min_eq_right (by omega);have p:=nN (P:=P) w T T ty e s g ((i+1)*s) (l.length-i) dC ⟨g,i*s,none⟩ (l.length+1-i) sC ((l++[z]).flatMap enc++b).toArray e ((l.drop i).flatMap enc) G F n (by rw[o];exact c) (fun j v m=>by
  have N:j<(l.length-i)*s:=by rw[<-c];exact(List.getElem?_eq_some_iff.1 m).1
  rw[show(⟨g,i*s,none⟩:Addr).add j=⟨g,i*s+j,none⟩from by unfold Addr.add;split<;>simp_all];refine n.cell ?_;have hb:i*s+j<l.length*s:=by
   have:i*s+(l.length-i)*s=l.length*s:=(by rw[<-Nat.add_mul];congr 1;omega);omega
  rw[List.getElem?_append_left (by rw[d,Nat.succ_mul];omega),List.flatMap_append,List.getElem?_append_left (by rw[aU a];exact hb)];rw[<-lJ a,List.getElem?_drop]at m;exact m) (by
  rw[List.size_toArray,List.length_append,d,c];have:(i+1)*s+(l.length-i)*s=(l.length+1)*s:=by rw[<-Nat.add_mul];congr 1;omega
  omega) (fun v H=>by
  obtain⟨x,_,I⟩:=List.mem_flatMap.1 H;exact q x v I)
 rw[o]at p;refine⟨_,p,?_,pz _ _ _⟩;have k:=setRow_heap w g _ (List.take ((i+1)*s) ((l++[z]).flatMap enc++b).toArray.toList++(l.drop i).flatMap enc++List.drop ((i+1)*s+((l.drop i).flatMap enc).length) ((l++[z]).flatMap enc++b).toArray.toList).toArray e (0,0) n;have u:List.take ((i+1)*s) ((l++[z]).flatMap enc++b)=(l.take (i+1)).flatMap enc:=by
  rw[List.take_append,jP a,d,show(i+1)*s-(l.length+1)*s=0 from by have:(i+1)*s<=(l.length+1)*s:=Nat.mul_le_mul_right _ (by omega);omega,List.take_zero,List.append_nil,List.take_append_of_le_length (by omega)]
 have t:List.drop ((i+1)*s+((l.drop i).flatMap enc).length) ((l++[z]).flatMap enc++b)=b:=by
  rw[c,show(i+1)*s+(l.length-i)*s=(l.length+1)*s from by rw[<-Nat.add_mul];congr 1;omega,<-d,List.drop_left'];rfl
 rw[List.toList_toArray]at k;rw[u,t]at k⊢;have D:(l.take (i+1)++l.drop i).length=l.length+1:=by rw[List.length_append,List.length_take,List.length_drop];omega
 have f2:=aU a (l.take (i+1)++l.drop i);rw[D]at f2;refine⟨f2,Or.inr ⟨g,cap,_,rfl,r,k,y,E,?_,?_⟩⟩
 ·rw[List.size_toArray,<-List.flatMap_append,List.length_append,f2,<-d,<-List.length_append];exact C
 ·rw[List.toList_toArray,<-List.flatMap_append]
  exact List.take_left' f2
theorem nO{P:Program}(w:World)(c p ty elem:TypeId)(d a:Option Addr)(b j h o:Nat)(n:P.underlying c=some (.slice elem))(m:((P.info? elem).map (·.size)).isSome=true)(l:Nat.min h b=0):
 (Builtin.copy_ #[c,p] ty #[.slice d b j,.slice a h o]).run P w=.ok (goInt 0) w:=by
 cases f:P.info? elem with
 |none=>simp[f]at m
 |some i=>
  have k:∀(x:Addr),(loadCells x 0).run P w=.ok #[] w:=fun x=>by simpa using run_loadCells_list (P:=P) w x [] (by simp)
  cases d<;>cases a<;>simp[Builtin.copy_,run_underlying n,Builtin.lenOf,Builtin.firstCells,sizeOf,typeInfo,f,l,storeCells,k]
theorem ig{α:Type}{enc:α->List Value}{n:Nat}{l:List α}(h:w.ownsRow B e s (.slice (some (g,0)) n cap) n (l.flatMap enc))(c:∀x,(enc x).length=s){x y:α}(k:l[i]?=some x)(j:Nat)(r:j<s){a:Nat}(o:a=i*s+j){v:Value}(D:(enc x).set j v=enc y)(f:n=l.length):
 (w.setCell (g,a) v).ownsRow B e s (.slice (some (g,0)) n cap) n ((l.set i y).flatMap enc):=by
 subst o;have J:=(List.getElem?_eq_some_iff.1 k).1;obtain⟨H,G,E,q,m,p,z,A,t⟩:=aE h (by omega);injection q with b K F
 injection b with b
 injection b with b
 subst b F;have d:=aU c l;have f2:=aU c (l.set i y);rw[List.length_set]at f2;have u:i*s+j<l.length*s:=by
  have I:i*s+s<=l.length*s:=by rw[<-Nat.succ_mul];exact Nat.mul_le_mul_right _ (by omega)
  omega
 have C:=A.bc (i*s+j) v (l':=(l.set i y).flatMap enc++E) (by
  rw[List.set_append_left _ _ (by rw[d];exact u),fm c k r D])
 refine⟨by rw[f2,f],Or.inr ⟨g,cap,_,rfl,m,C,p,z,?_,?_⟩⟩
 ·rw[List.size_toArray,List.length_append,f2,<-d,<-List.length_append];exact t
 ·rw[List.toList_toArray,f]
  exact List.take_left' f2
end
section
attribute [local go_sem↓] Go.wp_at_zero Go.wp_at_succ
variable{w:World}{b cap g m:Nat}{v:Value}{S:a8}
def a8.kc(S:a8)(n:Nat):Nat->Nat->Option Nat
 |0,_=>none
 |f+1,i=>if(S.gh i:Int)-S.ek i<n then a8.kc S n f (i+1)else some i
def a8.find(S:a8)(n:Nat):Option Nat:=S.kc n (S.l.length+1) 0
def df(S:a8)(M:aI)(n:Nat):Option Nat×a8×aI:=
 if n=0∨4096<n then(none,S,M)else
 match S.find n with
 |none=>(none,S,M)
 |some i=>if(M.map (S.ek i) n 64).1=true then(some (S.ek i),{S with l:=S.l.take i++[⟨S.ek i,n,64⟩]++S.l.drop i},(M.map (S.ek i) n 64).2)else(none,S,M)
def lK(b:Nat)(v:Value)(m c d:Nat):Nat->Prop:=fun i=>dF b v i∨dL m c d i
def D6(x:Option Nat×a8×aI)(b m c d:Nat)(v:Value)(w:World)(e:Ending)(w':World):Prop:=
 (match x.1 with
  |some a=>e=.returned (.tuple #[.int .i64 a,.nilIface])
  |none=>∃u,e=.returned (.tuple #[.int .i64 0,u])/\ar u)/\(∃v',aT w' b m v' x.2.1/\aS w v v')/\aO w' m c d x.2.2/\Ch (lK b v m c d) w w'
theorem fV(n:Int)(t:TypeId)(x:Value)(w:World):Calls prog 149 #[n,.iface t x] w (fun e w'=>e=.returned (.iface 247 (.pointer (some (w.heap.size,0))))/\w.alloc (.cells #[.string ⟨#[97,108,108,111,99]⟩,n,.iface t x] 249)=w'):=by
 go_wp2
 go_ret;exact⟨rfl,rfl⟩
theorem xb(w:World)(a b:Nat):(w.drewN a).drewN b=w.drewN (a+b):=by unfold World.drewN;simp[Nat.add_assoc]
theorem vO:(prog.info? 317).map (fun i=>(i.zero,i.size,i.bytes))=some (some (.agg #[.int .i64 0,.int .i64 0,.int .i64 0]),3,24):=by kernel_rfl
theorem aT.hq{c d:Nat}{M:aI}(h:aT w b m v S)(a:aO w m c d M):(¬dL m c d b/\∀g,v.ownBlock=some g->¬dL m c d g)/\(¬dF b v m/\¬dF b v c/\¬dF b v d):=by
 refine⟨⟨?_,?_⟩,?_,?_,?_⟩
 ·rintro(e|e|e)
  ·exact h.head.ne a.head (by decide) e
  ·exact h.head.ne a.cells (by decide) e
  ·exact h.head.ne a.width (by decide) e
 ·rintro g f (e|e|e)
  ·exact aZ h.own a.head (by decide) (by rw[f,e])
  ·exact aZ h.own a.cells (by decide) (by rw[f,e])
  ·exact aZ h.own a.width (by decide) (by rw[f,e])
 ·rintro(e|e)
  ·exact h.head.ne a.head (by decide) e.symm
  ·exact aZ h.own a.head (by decide) e
 ·rintro(e|e)
  ·exact h.head.ne a.cells (by decide) e.symm
  ·exact aZ h.own a.cells (by decide) e
 ·rintro(e|e)
  ·exact h.head.ne a.width (by decide) e.symm
  ·exact aZ h.own a.width (by decide) e
theorem aT.app{w4:World}{z:iK}(h:aT w b m v S)
 (d:w4.ownsRow 0 317 3 (.slice (some (g,0)) (S.l.length+1) cap) (S.l.length+1) (S.l.flatMap iK.cells++z.cells)) (j:w.grownBy w4 v.ownBlock):
 aT (w4.setCell (b,3) (.slice (some (g,0)) (S.l.length+1) cap)) b m (.slice (some (g,0)) (S.l.length+1) cap) {S with l:=S.l++[z]}/\
 Ch (dF b v) w (w4.setCell (b,3) (.slice (some (g,0)) (S.l.length+1) cap)):=by
 have c:=Ch.bK j;have a:=h.head.ch c (aZ h.own h.head (by decide));have f:b≠g:=by
  intro e;subst e;exact aZ d a (by decide) rfl
 refine⟨⟨a.bc _ _ rfl,?_⟩,(Ch.mono (E:=dF b v) c fun i n=>Or.inr n).hj (p:=⟨b,3,none⟩) (Or.inl rfl) _⟩;have:(S.l++[z]).flatMap iK.cells=S.l.flatMap iK.cells++z.cells:=by simp
 rw[this];show(w4.setCell (b,3) _).ownsRow 0 317 3 _ (S.l++[z]).length _
 rw[List.length_append,List.length_cons,List.length_nil];exact ak (D:=aH b) d ((Ch.refl _ _).only 3 (.slice (some (g,0)) (S.l.length+1) cap)) (fun k o e=>by
  have:g=k:=by simpa[Value.ownBlock]using o
  subst this;exact f (show _=_ from e.symm))
def iK.zero:iK:=⟨0,0,0⟩
theorem aT.lay{n:Nat}{l:List iK}(h:aT w b m (.slice (some (g,0)) n cap) {S with l:=l})(c:n=l.length){i:Nat}(f:i<l.length)(x:iK){i1 i2:Nat}(o:i1=i*3+1)(p:i2=i*3+2):
 aT (((w.setCell (g,i*3) (.int .i64 x.at_)).setCell (g,i1) (.int .i64 x.n)).setCell (g,i2) (.int .i64 x.w)) b m (.slice (some (g,0)) n cap) {S with l:=l.set i x}:=by
 obtain⟨y,q⟩:∃y,l[i]?=some y:=⟨_,List.getElem?_eq_getElem f⟩;have d:b≠g:=fun e=>aZ h.own h.head (by decide) (by rw[e];rfl)
 have j:=h.own;rw[show({S with l:=l}:a8).l=l from rfl,<-c]at j;have r:=ig j iK.len q 0 (by omega) (a:=i*3) (by omega) (v:=.int .i64 x.at_) (y:=⟨x.at_,y.n,y.w⟩) rfl c;have s:=ig r iK.len (x:=⟨x.at_,y.n,y.w⟩) (by simp[f]) 1 (by omega) o (v:=.int .i64 x.n) (y:=⟨x.at_,x.n,y.w⟩) rfl (by simpa using c);have k:=ig s iK.len (x:=⟨x.at_,x.n,y.w⟩) (by simp[f]) 2 (by omega) p (v:=.int .i64 x.w) (y:=x) rfl (by simpa using c);rw[List.set_set,List.set_set]at k;refine⟨((h.head.other d _).other d _).other d _,?_⟩;show World.ownsRow _ 0 317 3 _ (l.set i x).length _
 rw[List.length_set,<-c];exact k
theorem zu{α:Type}(l:List α)(k:Nat)(x:α)(a:k<l.length):(l.take (k+1)++l.drop k).set k x=l.take k++[x]++l.drop k:=by
 rw[List.take_succ_eq_append_getElem a,List.append_assoc,List.append_assoc,List.set_append_right _ _ (by rw[List.length_take];omega)]
 congr 1
 rw[List.length_take,Nat.min_eq_left (by omega),Nat.sub_self];rfl
theorem vP{α:Type}(l:List α)(z x:α){k:Nat}(a:k=l.length):(l++[z]).set k x=l.take k++[x]++l.drop k:=by subst a;simp
theorem kJ(b m c d:Nat)(v:Value)(S:a8)(M:aI)(ad:S.Ok)(n:Nat)(hn:n<=1000000)(w:World)(h:aT w b m v S)(c2:aO w m c d M):
 Calls prog 113 #[.pointer (some ⟨b,0,none⟩),.int .i64 n,.int .i64 64] w (D6 (df S M n) b m c d v w):=by
 obtain⟨go,cQ,gf,en,gk⟩:=info_parts vO;have bi:=Z cQ;have H:=Z h;have c6:=Z c2;have c7:=Z ad;clear cQ;by_cases bv:n=0
 ·have E:Hid (df S M n=(none,S,M)):=Z (by unfold df;rw[if_pos (Or.inl bv)])
  subst bv;clear h c2 ad;go_in
  go_wp2_with (go_at_call 149;refine(fV _ _ _ _).mono ?_;rintro e w' ⟨rfl,rfl⟩)
  go_ret2;rw[E];exact⟨⟨_,rfl,ar.mk _ _⟩,⟨v,H.alloc _,aS.refl _ _⟩,c6.alloc _,ay⟩
 by_cases a5:4096<n
 ·have E:Hid (df S M n=(none,S,M)):=Z (by unfold df;rw[if_pos (Or.inr a5)])
  have gs:(4096:Int)<n:=by omega
  have eS:¬((n:Int)<1):=by omega
  clear h c2 ad bv;go_in
  go_wp2_with (go_at_call 149;refine(fV _ _ _ _).mono ?_;rintro e w' ⟨rfl,rfl⟩)
  go_ret2;rw[E];exact⟨⟨_,rfl,ar.mk _ _⟩,⟨v,H.alloc _,aS.refl _ _⟩,c6.alloc _,ay⟩
 have E:Hid (df S M n=match S.find n with
  |none=>(none,S,M)
  |some i=>if(M.map (S.ek i) n 64).1=true then(some (S.ek i),{S with l:=S.l.take i++[⟨S.ek i,n,64⟩]++S.l.drop i},(M.map (S.ek i) n 64).2)else(none,S,M)):=Z (by unfold df;rw[if_neg (by omega)])
 have eS:¬((n:Int)<1):=by omega
 have gt:¬((4096:Int)<n):=by omega
 obtain⟨G,I,al⟩:=au h.own;obtain⟨N,bw⟩:=mn S.l.length;rw[<-bw]at al;have F:=Z bw;have hb:N<=900000:=by rw[bw];exact ad.len
 subst al;clear h c2 ad bw bv;go_wp2
 go_loopw [8] (fun s wr=>∃k:Nat,s=.int .i64 k/\k<=N+1/\Hid (S.kc n (N+1-k) k=S.find n/\∃q,wr=w.drewN q)) (fun s _=>N+1-(intOf s).toNat)
 case atStart=>exact⟨0,rfl,Nat.zero_le _,by rw[F];rfl,0,rfl⟩
 case round=>
  obtain⟨k,rfl,hl,a3⟩:=hrel;have V:Hid (aT wr b m (.slice G N I) S/\aO wr m c d M/\Ch (lK b (.slice G N I) m c d) w wr):=Z (by
   obtain⟨q,rfl⟩:=a3.2;exact⟨H.drewN q,c6.drewN q,ay⟩)
  have cA:=V.1.head.k 3 rfl;by_cases cS:k<=N
  ·have g7:(k:Int)<=N:=by omega
   have c4:Hid (S.kc n (N+1-k) k=if(S.gh k:Int)-S.ek k<n then S.kc n (N+1-(k+1)) (k+1)else some k):=Z (by
    rw[show N+1-k=(N+1-(k+1))+1 from by omega,a8.kc])
   have ge:S.ek k<=140000/\S.gh k<=140000:=by
    have bx:=c7.out;have hi:=bx.from_;have hu:=bx.y9;refine⟨?_,?_⟩
    ·unfold a8.ek
     split
     ·omega
     ·split
      ·rename_i x am;have:=bx.l x (List.mem_of_getElem? am);omega
      ·omega
    ·unfold a8.gh
     split
     ·omega
     ·split
      ·rename_i x am;have:=bx.l x (List.mem_of_getElem? am);omega
      ·omega
   obtain⟨a,c0⟩:=mn (S.ek k);obtain⟨st,ci⟩:=mn (S.gh k);have et:Hid (∀w,aT w b m (.slice G N I) S->Calls prog 150 #[.pointer (some ⟨b,0,none⟩),.int .i64 k] w (fun e w'=>e=.returned (.int .i64 a)/\∃q,w'=w.drewN q)):=Z (fun w h=>by rw[c0];exact qs b m _ S c7 k (by rw[<-F];exact cS) w h);have c8:Hid (∀w,aT w b m (.slice G N I) S->Calls prog 151 #[.pointer (some ⟨b,0,none⟩),.int .i64 k] w (ez (.int .i64 st) w)):=Z (fun w h=>by rw[ci];exact nM b m _ S c7 k (by rw[<-F];exact cS) w h);rw[<-c0,<-ci]at c4 ge;have cm:=Z c0;clear c0 ci;go_wp2_with fail
   refine(et _ V.1).mono ?_;rintro e w1 ⟨rfl,ec⟩;have C:Hid (aT w1 b m (.slice G N I) S/\aO w1 m c d M/\Ch (lK b (.slice G N I) m c d) w w1/\∃q,w1=w.drewN q):=Z (by
    obtain⟨q,rfl⟩:=ec;obtain⟨c3,rfl⟩:=a3.2;exact⟨V.1.drewN q,V.2.1.drewN q,V.2.2.drewN q,c3+q,xb _ _ _⟩)
   have d0:=C.1.head.c1;clear ec cA;by_cases dr:(st:Int)-a<n
   ·have av:Hid (S.kc n (N+1-(k+1)) (k+1)=S.find n):=Z (by rw[<-a3.1,c4,if_pos dr])
    go_wp2_with (go_at_call 151;refine(c8 _ C.1).mono ?_;rintro e w' ⟨rfl,rfl⟩)
    go_roundw
    case rel=>exact⟨k+1,by go_num,by omega,av,C.2.2.2⟩
    case measure=>simp[intOf];omega
   ·have av:Hid (S.find n=some k):=Z (by rw[<-a3.1,c4,if_neg dr])
    cases R:(M.map a n 64).1
    ·have U:Hid (df S M n=(none,S,M)):=Z (by rw[E,av];simp only[<-cm.out,R];rfl)
     have a2:=Z (fun w h=>fo m c d M a n (by omega) (by omega) w h);have dN:(M.map a n 64).2=M:=(by unfold aI.map at R⊢;split at R;cases R;rename_i eW;rw[if_neg eW]);rw[show M.map a n 64=(false,M)from Prod.ext R dN]at a2;clear R dN;go_wp2_with (first|(go_at_call 151;refine(c8 _ C.1).mono ?_;rintro e w' ⟨rfl,rfl⟩)|(go_at_call 109;refine(a2 _ C.2.1).mono ?_;rintro e w2 ⟨⟨u,rfl,ck⟩,O,a1⟩;obtain⟨tt,hw,rfl⟩:=ck;have ex:=Z O;have cq:=Z a1;clear O a1)|(go_at_call 149;refine(fV _ _ _ _).mono ?_;rintro e w' ⟨rfl,rfl⟩))
     go_ret2;rw[U];have f:=C.1.hq C.2.1;exact⟨⟨_,rfl,ar.mk _ _⟩,⟨_,(C.1.ch cq f.1.1 f.1.2).alloc _,aS.refl _ _⟩,ex.alloc _,(C.2.2.1.trans (cq.mono fun i r=>Or.inr r)).alloc _⟩
    ·have U:Hid (df S M n=(some a,{S with l:=S.l.take k++[⟨a,n,64⟩]++S.l.drop k},(M.map a n 64).2)):=Z (by rw[E,av];simp only[<-cm.out,R];rfl)
     have a2:=Z (fun w h=>fo m c d M a n (by omega) (by omega) w h);obtain⟨a4,O⟩:=nm ((M.map a n 64).2);rw[show M.map a n 64=(true,a4)from Prod.ext R O]at a2;rw[O]at U;clear R O;go_wp2_with (first|(go_at_call 151;refine(c8 _ C.1).mono ?_;rintro e w' ⟨rfl,rfl⟩)|fail)
     refine(a2 _ C.2.1).mono ?_;rintro e w2 ⟨⟨u,rfl,ck⟩,O,a1⟩;obtain rfl:u=.nilIface:=ck;have f:=C.1.hq C.2.1;have A:Hid (aT w2 b m (.slice G N I) S/\aO w2 m c d a4/\Ch (lK b (.slice G N I) m c d) w w2):=Z ⟨C.1.ch a1 f.1.1 f.1.2,O,C.2.2.1.trans (a1.mono fun i r=>Or.inr r)⟩;clear O a1 f d0;have d3:=A.1.head.k 3 rfl;have cC:=A.1.head.free 3;have ce:=A.1.own;rw[<-F]at ce;have eA:=Z ce;clear ce;go_wp2_with (at_builtin;refine wpList_append_lies _ rfl _ _ _ rfl 0 317 go _ 3 24 underlying312 bi gf en gk rfl (by omega) _ N (S.l.flatMap iK.cells) rfl (eA.alloc _) ⟨w2.heap.size,0,none⟩ 1 1 [.int .i64 0,.int .i64 0,.int .i64 0] rfl rfl (World.news_of_block (cs:=#[.int .i64 0,.int .i64 0,.int .i64 0]) (t:=317) (fr:=(0,0)) (heap_alloc_new w2 _)) (by simp[Value.oneCell']) (by omega) (by unfold maxLen;omega) (by omega) (by simp) (w2.heap.size+1) (by simp) ?_)
     intro g cap w4 cf c1 cb g9;have a0:=A.1.app (z:=iK.zero) (by rw[<-F];exact cf) (ao c1);rw[<-F]at a0;have f:=A.1.hq A.2.1;obtain⟨j,cl⟩:=nm (w4.setCell ⟨b,3,none⟩ (.slice (some ⟨g,0,none⟩) (N+1) cap));have eL:w4.cell? ⟨b,3,none⟩=some (.slice G N I):=((Ch.bK (ao c1)).cell (p:=⟨b,3,none⟩) A.1.head.lt (aZ A.1.own A.1.head (by decide))).trans d3;have k3:w4.frozen? ⟨b,3,none⟩=false:=((Ch.bK (ao c1)).frozen (p:=⟨b,3,none⟩) A.1.head.lt (aZ A.1.own A.1.head (by decide))).trans cC;rw[cl]at a0;have cL:∀i,i<w.heap.size->dF b (.slice (some ⟨g,0,none⟩) (N+1) cap) i->dF b (.slice G N I) i:=fun i r am=>by
      rcases am with a5|a5
      ·exact Or.inl a5
      ·have fd:g=i:=by simpa[Value.ownBlock]using a5
       rcases cb with a9|a9
       ·exact Or.inr (by rw[a9,fd])
       ·have:=A.2.2.size;omega
     have c5:Hid (aS w (.slice G N I) (.slice (some ⟨g,0,none⟩) (N+1) cap)):=Z (aS.at (by
      rcases cb with a9|a9
      ·exact Or.inl (by rw[a9])
      ·have:=A.2.2.size;exact Or.inr (by omega)))
     have B:Hid (aT j b m (.slice (some ⟨g,0,none⟩) (N+1) cap) {S with l:=S.l++[iK.zero]}/\aO j m c d a4/\Ch (lK b (.slice G N I) m c d) w j/\(∀i,i<w.heap.size->dF b (.slice (some ⟨g,0,none⟩) (N+1) cap) i->dF b (.slice G N I) i)):=Lib.hid
      ⟨a0.1,A.2.1.ch a0.2 f.2.1 f.2.2.1 f.2.2.2,A.2.2.trans (a0.2.mono fun i r=>Or.inl r),cL⟩
     have hf:N+1<=cap:=by
      obtain⟨_,_,_,X,_,he,_⟩:=aE cf (by omega);injection X with c3 es hv
      omega
     clear a0 f cL c1 cb g9 d3 cC cf;go_wp2
     try rw[cl]
     clear cl eL k3;have cA:=B.1.head.k 3 rfl;by_cases cW:k<N
     ·have hm:k+1<cap:=by omega
      have cd:=B.1.own.drew;rw[show({S with l:=S.l++[iK.zero]}:a8).l=S.l++[iK.zero]from rfl,List.length_append,List.length_cons,List.length_nil,Nat.zero_add,F]at cd;obtain⟨L,ch,K,c9⟩:=xa (P:=prog) (T:=312) (ty:=3) (dC:=cap-(k+1)) (sC:=cap-k) underlying312 (by rw[bi];simp[en]) iK.len (fun x v al=>by simp[iK.cells]at al;rcases al with rfl|rfl|rfl<;>rfl) (by rw[<-F];exact cW) cd;rw[<-F]at ch K;clear cd;have o:Hid (aT L b m (.slice (some ⟨g,0,none⟩) (N+1) cap) {S with l:=S.l.take (k+1)++S.l.drop k}/\aO L m c d a4/\Ch (dF b (.slice (some ⟨g,0,none⟩) (N+1) cap)) j L):=Z (by
       have f:=B.1.hq B.2.1;have hd:Ch (dF b (.slice (some ⟨g,0,none⟩) (N+1) cap)) j L:=(Ch.refl _ _).drew.trans (c9.mono fun i r=>Or.inr (congrArg some (show g=i from Eq.symm r)));refine⟨⟨B.1.head.drew.ch c9 (fun e=>aZ B.1.own B.1.head (by decide) (congrArg some (show g=b from Eq.symm e))),?_⟩,B.2.1.ch hd f.2.1 f.2.2.1 f.2.2.2,hd⟩;show L.ownsRow 0 317 3 _ (S.l.take (k+1)++S.l.drop k).length _
       rw[List.length_append,List.length_take,List.length_drop,<-F,show min (k+1) N+(N-k)=N+1 from by omega];exact K)
      clear K c9;have J:(S.l.take (k+1)++S.l.drop k).length=N+1:=(by rw[List.length_append,List.length_take,List.length_drop,<-F];omega);obtain⟨Y,ap⟩:∃y,(S.l.take (k+1)++S.l.drop k)[k]?=some y:=⟨_,List.getElem?_eq_getElem (by rw[J];omega)⟩;have K:=o.1.own;rw[show({S with l:=S.l.take (k+1)++S.l.drop k}:a8).l=S.l.take (k+1)++S.l.drop k from rfl,J]at K;obtain⟨Q,g8,fb⟩:=kI K iK.len J.symm ap;have gr:L.cell? ⟨g,k*3,none⟩=some (.int .i64 Y.at_):=Q 0 _ (by omega) rfl;have c3:L.cell? ⟨g,k*3+1,none⟩=some (.int .i64 Y.n):=Q 1 _ (by omega) rfl;have es:L.cell? ⟨g,k*3+2,none⟩=some (.int .i64 Y.w):=Q 2 _ (by omega) rfl;have eC:L.cell? ⟨b,3,none⟩=some (.slice (some ⟨g,0,none⟩) (N+1) cap):=o.1.head.cell (i:=3) rfl;have W:=Z J;have gc:(k:Int)<(N:Int)+1:=(by omega);clear Q ap K J;have fz:(k:Int)+1<=(N:Int)+1:=(by omega);have g0:(0:Int)<=(k:Int)+1:=(by omega);have g1:IntKind.i64.wrap ((k:Int)+1)=(k:Int)+1:=IntWalk.i64_in _ (by omega);have g2:((k:Int)+1).toNat=k+1:=(by omega);have g3:(k:Int)<=(N:Int)+1:=(by omega);have g4:k<cap:=(by omega);have g5:¬cap=k:=(by omega);have g6:¬cap=k+1:=(by omega);have fn:k<=N+1:=(by omega);go_wp2
      go_still_tail 13,(by kernel_rfl)
      change wpList _ _ _ _ _ j.drew;go_wp2
      go_ret2;rw[U];refine⟨rfl,⟨.slice (some ⟨g,0,none⟩) (N+1) cap,?_,c5⟩,?_,?_⟩
      ·have:=o.1.lay W.symm (i:=k) (by rw[W];omega) ⟨a,n,64⟩ (i1:=k*3+1) (i2:=k*3+2) rfl rfl
       rw[zu _ _ _ (by rw[<-F];exact cW)]at this;exact this
      ·have f:=o.1.hq o.2.1
       exact o.2.1.ch (D:=aH g) ay (fun e=>f.2.1 (Or.inr (congrArg some (show g=m from Eq.symm e)))) (fun e=>f.2.2.1 (Or.inr (congrArg some (show g=c from Eq.symm e)))) (fun e=>f.2.2.2 (Or.inr (congrArg some (show g=d from Eq.symm e))))
      ·have ab:Ch (dF b (.slice (some ⟨g,0,none⟩) (N+1) cap)) L _:=Ch.mono (D:=aH g) ((((Ch.refl _ L).only (k*3) (.int .i64 a)).only (k*3+1) (.int .i64 n)).only (k*3+2) (.int .i64 64)) (fun i r=>Or.inr (congrArg some (show g=i from Eq.symm r)))
       exact B.2.2.1.join (o.2.2.trans ab) (fun i r X=>Or.inl (B.2.2.2 i r X))
     ·obtain rfl:k=N:=by omega
      have o:Hid (aT j b m (.slice (some ⟨g,0,none⟩) (k+1) cap) {S with l:=S.l++[iK.zero]}/\aO j m c d a4/\Ch (dF b (.slice (some ⟨g,0,none⟩) (k+1) cap)) j j):=Z ⟨B.1,B.2.1,Ch.refl _ _⟩;have J:(S.l++[iK.zero]).length=k+1:=(by rw[List.length_append,List.length_cons,List.length_nil,<-F]);obtain⟨Y,ap⟩:∃y,(S.l++[iK.zero])[k]?=some y:=⟨_,List.getElem?_eq_getElem (by rw[J];omega)⟩;have K:=o.1.own;rw[show({S with l:=S.l++[iK.zero]}:a8).l=S.l++[iK.zero]from rfl,J]at K;obtain⟨Q,g8,fb⟩:=kI K iK.len J.symm ap;have gr:j.cell? ⟨g,k*3,none⟩=some (.int .i64 Y.at_):=Q 0 _ (by omega) rfl;have c3:j.cell? ⟨g,k*3+1,none⟩=some (.int .i64 Y.n):=Q 1 _ (by omega) rfl;have es:j.cell? ⟨g,k*3+2,none⟩=some (.int .i64 Y.w):=Q 2 _ (by omega) rfl;have eC:j.cell? ⟨b,3,none⟩=some (.slice (some ⟨g,0,none⟩) (k+1) cap):=o.1.head.cell (i:=3) rfl;have W:=Z J;have gc:(k:Int)<(k:Int)+1:=(by omega);clear Q ap K J;have fz:(k:Int)+1<=(k:Int)+1:=(by omega);have g0:(0:Int)<=(k:Int)+1:=(by omega);have g1:IntKind.i64.wrap ((k:Int)+1)=(k:Int)+1:=IntWalk.i64_in _ (by omega);have g2:((k:Int)+1).toNat=k+1:=(by omega);have g3:(k:Int)<=(k:Int)+1:=(by omega);have g4:k<cap:=(by omega);have g5:¬cap=k:=(by omega);have fn:k<=k+1:=(by omega);by_cases g6:cap=k+1
      ·skip
       have ch:∀(d a:Option Addr) (dC sC:Nat),(Builtin.copy_ #[312,312] 3 #[.slice d 0 dC,.slice a 1 sC]).run prog j.drew=.ok (goInt 0) j.drew:=(fun d a dC sC=>nO j.drew _ _ _ _ d a 0 dC 1 sC underlying312 (by rw[bi];rfl) rfl);go_wp2
       go_still_tail 13,(by kernel_rfl)
       change wpList _ _ _ _ _ j.drew;go_wp2
       go_ret2;rw[U];refine⟨rfl,⟨.slice (some ⟨g,0,none⟩) (k+1) cap,?_,c5⟩,?_,?_⟩
       ·have:=o.1.lay W.symm (i:=k) (by rw[W];omega) ⟨a,n,64⟩ (i1:=k*3+1) (i2:=k*3+2) rfl rfl
        rw[vP _ _ _ F]at this;exact this.drew
       ·have f:=o.1.hq o.2.1
        exact o.2.1.ch (D:=aH g) ay (fun e=>f.2.1 (Or.inr (congrArg some (show g=m from Eq.symm e)))) (fun e=>f.2.2.1 (Or.inr (congrArg some (show g=c from Eq.symm e)))) (fun e=>f.2.2.2 (Or.inr (congrArg some (show g=d from Eq.symm e))))
       ·have ab:Ch (dF b (.slice (some ⟨g,0,none⟩) (k+1) cap)) j _:=Ch.mono (D:=aH g) ((((Ch.refl _ j).only (k*3) (.int .i64 a)).only (k*3+1) (.int .i64 n)).only (k*3+2) (.int .i64 64)).drew (fun i r=>Or.inr (congrArg some (show g=i from Eq.symm r)))
        exact B.2.2.1.join (o.2.2.trans ab) (fun i r X=>Or.inl (B.2.2.2 i r X))
      ·skip
       have ch:∀(d a:Option Addr) (dC sC:Nat),(Builtin.copy_ #[312,312] 3 #[.slice d 0 dC,.slice a 1 sC]).run prog j.drew=.ok (goInt 0) j.drew:=(fun d a dC sC=>nO j.drew _ _ _ _ d a 0 dC 1 sC underlying312 (by rw[bi];rfl) rfl);go_wp2
       go_still_tail 13,(by kernel_rfl)
       change wpList _ _ _ _ _ j.drew;go_wp2
       go_ret2;rw[U];refine⟨rfl,⟨.slice (some ⟨g,0,none⟩) (k+1) cap,?_,c5⟩,?_,?_⟩
       ·have:=o.1.lay W.symm (i:=k) (by rw[W];omega) ⟨a,n,64⟩ (i1:=k*3+1) (i2:=k*3+2) rfl rfl
        rw[vP _ _ _ F]at this;exact this.drew
       ·have f:=o.1.hq o.2.1
        exact o.2.1.ch (D:=aH g) ay (fun e=>f.2.1 (Or.inr (congrArg some (show g=m from Eq.symm e)))) (fun e=>f.2.2.1 (Or.inr (congrArg some (show g=c from Eq.symm e)))) (fun e=>f.2.2.2 (Or.inr (congrArg some (show g=d from Eq.symm e))))
       ·have ab:Ch (dF b (.slice (some ⟨g,0,none⟩) (k+1) cap)) j _:=Ch.mono (D:=aH g) ((((Ch.refl _ j).only (k*3) (.int .i64 a)).only (k*3+1) (.int .i64 n)).only (k*3+2) (.int .i64 64)).drew (fun i r=>Or.inr (congrArg some (show g=i from Eq.symm r)))
        exact B.2.2.1.join (o.2.2.trans ab) (fun i r X=>Or.inl (B.2.2.2 i r X))
  ·have g7:¬((k:Int)<=N):=by omega
   have U:Hid (df S M n=(none,S,M)):=Z (by
    rw[E,<-a3.1,show N+1-k=0 from by omega];rfl)
   go_wp2_with (go_at_call 149;refine(fV _ _ _ _).mono ?_;rintro e w' ⟨rfl,rfl⟩)
   go_ret2;rw[U];exact⟨⟨_,rfl,ar.mk _ _⟩,⟨_,V.1.alloc _,aS.refl _ _⟩,V.2.1.alloc _,V.2.2.alloc _⟩
end
attribute [local go_sem↓] Go.wp_at_zero Go.wp_at_succ
variable{g:Nat}
def zv:List Value->Nat->List Value->List Value
 |L,_,[]=>L
 |L,o,v::r=>zv (L.set o v) (o+1) r
theorem vQ:∀(a:List Value) (L:List Value) (o:Nat),o+a.length<=L.length->zv L o a=L.take o++a++L.drop (o+a.length)
 |[],L,o,_=>by simp[zv]
 |v::r,L,o,h=>by
  rw[List.length_cons]at h;rw[zv,vQ r (L.set o v) (o+1) (by rw[List.length_set];omega),list_seg_step L o v r h];rfl
theorem Row.xc{t:TypeId}:∀(a:List Value) (o:Nat) (w:World) (L:List Value),Row w g t L->Row (w.setCells g o a) g t (zv L o a)
 |[],_,_,_,h=>h
 |v::r,o,w,L,h=>Row.xc r (o+1) _ _ (h.set o v)
theorem vR:∀(a:List Value) (o:Nat) (w:World),Ch (aH g) w (w.setCells g o a)
 |[],_,w=>Ch.refl _ w
 |v::r,o,w=>((Ch.refl _ w).only o v).trans (vR r (o+1) _)
theorem rO{P:Program}{α:Type}{enc:α->List Value}{ops:Array Oper}{o:Oper}{a:Act}{w:World}{K:Act->World->Prop}{Q:Exit->Act->World->Prop}{E:Prop}
 (S:o.guard=none) (s x:Operand) (T:TypeId) (Z:o.op=Op.call {callee:=Callee.builtin Builtin.append,args:=#[s,x],argTypes:=#[T,T]})
 (e:TypeId) (A:TypeInfo) (size:Nat) (a2:P.underlying T=some (.slice e)) (U:P.info? e=some A) (a9:A.size=size)
 {l:List α} (f:∀x,(enc x).length=size) (H:∀x,∀v∈enc x,v.oneCell'=true) (B g i n cap:Nat) (ap:i<n) (p:n=l.length)
 (a0:a.eval s=.slice (some (g,0)) i cap) (r:Addr) (c G:Nat) (a1:G=n-(i+1)) (a4:a.eval x=.slice (some r) G c) (M:i+1<n->r=⟨g,(i+1)*size,none⟩)
 (Y:w.ownsRow B e size (.slice (some (g,0)) n cap) n (l.flatMap enc))
 (J:∀w',w'.ownsRow B e size (.slice (some (g,0)) (n-1) cap) (n-1) ((l.eraseIdx i).flatMap enc)->Ch (aH g) w w'->K (a.put o.dst (.slice (some (g,0)) (n-1) cap)) w'):
 if Region.wanted o (yielded ops a.tmps)=true then Oper.wp P o a w K Q else E:=by
 subst a1;obtain⟨al,ad,C,O,I,N,X,q,t⟩:=aE Y (by omega);injection O with k bv ab
 injection k with k
 injection k with k
 subst k ab;have D:=aU f l;have b:=aU f (l.drop (i+1));rw[List.length_drop,<-p]at b;have am:n*size<=cap*size:=Nat.mul_le_mul_right _ N;have bi:i*size+(n-(i+1))*size+size=n*size:=by
  rw[<-Nat.add_mul,<-Nat.succ_mul];congr 1;omega
 refine step_append_room S s x T Z e A size a2 U a9 g 0 i cap a0 r (n-(i+1)) c ((l.drop (i+1)).flatMap enc) a4 b (fun j u d=> ?_) (fun u a3=> ?_) (by omega) (fun j d=> ?_) ?_
 ·have F:=(List.getElem?_eq_some_iff.1 d).1
  rw[b]at F;have V:i+1<n:=by
   rcases Nat.lt_or_ge (i+1) n with h|h
   ·exact h
   ·rw[show n-(i+1)=0 from by omega]at F;omega
  rw[M V,show(⟨g,(i+1)*size,none⟩:Addr).add j=⟨g,(i+1)*size+j,none⟩from by unfold Addr.add;split<;>simp_all];have av:(i+1)*size=i*size+size:=Nat.succ_mul _ _;refine q.cell ?_;rw[List.getElem?_append_left (by rw[D,<-p];omega)];rw[<-lJ f,List.getElem?_drop]at d;exact d
 ·obtain⟨y,_,a5⟩:=List.mem_flatMap.1 a3
  exact H y u a5
 ·rw[b]at d
  rw[Nat.zero_add];have W:i*size+j<(l.flatMap enc++C).length:=by rw[t];omega
  exact⟨by rw[q.cell (List.getElem?_eq_getElem W)];rfl,q.free _⟩
 ·have hlen:i+(n-(i+1))=n-1:=by omega
  rw[hlen,Nat.zero_add];refine J _ ?_ (vR _ _ _);have z:=q.xc ((l.drop (i+1)).flatMap enc) (i*size) w;have R:i*size+((l.drop (i+1)).flatMap enc).length<=(l.flatMap enc++C).length:=by rw[b,t];omega
  rw[vQ _ _ _ R,b]at z;have L:(l.flatMap enc++C).take (i*size)=(l.take i).flatMap enc:=by
   rw[List.take_append,jP f,D,<-p,show i*size-n*size=0 from by omega,List.take_zero,List.append_nil]
  rw[L,<-List.flatMap_append,<-List.eraseIdx_eq_take_drop_succ]at z;have m:=aU f (l.eraseIdx i);rw[List.length_eraseIdx_of_lt (by omega),<-p]at m;refine⟨m,Or.inr ⟨g,cap,_,rfl,I,z,by omega,X,?_,?_⟩⟩
  ·rw[List.size_toArray,List.length_append,m,List.length_drop,t]
   have:(n-1)*size=i*size+(n-(i+1))*size:=(by rw[<-Nat.add_mul];congr 1;omega);omega
  ·rw[List.toList_toArray]
   exact List.take_left' m
def mB:List iK->Int->Nat->Option Nat
 |[],_,_=>none
 |x::l,a,i=>if(x.at_:Int)==a then some i else mB l a (i+1)
def m1(S:a8)(M:aI)(a:Int):Bool×a8×aI:=
 match mB S.l a 0 with
 |none=>(false,S,M)
 |some i=>match S.l[i]? with
  |none=>(false,S,M)
  |some x=>((M.gj x.at_ x.n).1,{S with l:=S.l.eraseIdx i},(M.gj x.at_ x.n).2)
def D7(x:Bool×a8×aI)(b m c d:Nat)(v:Value)(w:World)(e:Ending)(w':World):Prop:=
 qh x.1 e/\(∃v',aT w' b m v' x.2.1/\aS w v v')/\aO w' m c d x.2.2/\Ch (lK b v m c d) w w'
theorem kK(b m c d:Nat)(v:Value)(S:a8)(M:aI)(ad:S.Ok)(a:Int)(w:World)(h:aT w b m v S)(c8:aO w m c d M):
 Calls prog 115 #[(b,0),a] w (D7 (m1 S M a) b m c d v w):=by
 obtain⟨cf,c6,eS,ce,eW⟩:=info_parts vO;have c1:=Z c6;have H:=Z h;have ck:=Z c8;have cl:=Z ad;obtain⟨cq,j,W⟩:=au h.own;obtain⟨N,a9⟩:=mn S.l.length;have hlen:=ad.len;rw[<-a9]at W hlen;have o:=Z a9;have K:=h.head.k 3 rfl;subst W;clear h c8 ad a9 c6;go_wp2
 go_loopw [13] (fun s wr=>∃k:Nat,s=.int .i64 k/\k<=N/\Hid (mB (S.l.drop k) a k=mB S.l a 0/\Ch ag w wr)) (fun s _=>N-(intOf s).toNat)
 case atStart=>exact⟨0,rfl,Nat.zero_le _,rfl,Ch.refl _ _⟩
 case round=>
  obtain⟨k,rfl,eA,B⟩:=hrel;have J:Hid (aT wr b m (.slice cq N j) S/\aO wr m c d M):=Z ⟨H.ch B.2 id (fun _ _ h=>h),ck.ch B.2 id id id⟩;by_cases R:k<N
  ·obtain⟨x,X⟩:∃x,S.l[k]?=some x:=⟨_,List.getElem?_eq_getElem (by rw[<-o];exact R)⟩
   have c5:S.l.drop k=x::S.l.drop (k+1):=by
    obtain⟨cs,cA⟩:=List.getElem?_eq_some_iff.1 X;rw[List.drop_eq_getElem_cons cs,cA]
   have a2:=J.1.own;rw[<-o]at a2;obtain⟨g,cap,fz,F,et,ex,eC,-,-⟩:=aE a2 (by omega);injection F with bi ch ec
   subst bi ec;obtain⟨a1,c7,cL⟩:=kI a2 iK.len o X;have dN:wr.cell? (g,k*3)=some (.int .i64 x.at_):=a1 0 _ (by omega) rfl;have bi:wr.cell? (g,k*3+1)=some (.int .i64 x.n):=a1 1 _ (by omega) rfl;have ch:wr.cell? (g,k*3+2)=some (.int .i64 x.w):=a1 2 _ (by omega) rfl;have cQ:(k:Int)<N:=(by omega);have cm:=Z X;have c0:=Z c5;have eL:=cl.l x (List.mem_of_getElem? X);clear a1 X c5 a2 K;cases F:(x.at_:Int)==a
   ·have ci:Hid (mB (S.l.drop (k+1)) a (k+1)=mB S.l a 0):=Z (by
     rw[<-B.1,c0];show _=if((x.at_:Int)==a)=true then _ else _;rw[F];rfl)
    have cS:((x.at_:Int) !=a)=true:=(by rw[bne,F];rfl);clear F;go_wp2
    go_roundw
    case rel=>exact⟨k+1,by go_num,by omega,ci,B.2.alloc _⟩
    case measure=>simp[intOf];omega
   ·have cS:((x.at_:Int) !=a)=false:=by rw[bne,F];rfl
    have E:Hid (m1 S M a=((M.gj x.at_ x.n).1,{S with l:=S.l.eraseIdx k},(M.gj x.at_ x.n).2)):=Z (by
     have:mB S.l a 0=some k:=by
      rw[<-B.1,c0];show(if((x.at_:Int)==a)=true then _ else _)=_;rw[F];rfl
     unfold m1;rw[this];simp only[cm.out])
    clear F;obtain⟨w1,av⟩:=nm (wr.alloc (.cells #[.int .i64 x.at_,.int .i64 x.n,.int .i64 x.w] 317));have f:Hid (aT w1 b m (.slice (some (g,0)) N j) S/\aO w1 m c d M/\Ch (lK b (.slice (some (g,0)) N j) m c d) w w1/\Row w1 wr.heap.size 317 x.cells):=Z (by
     rw[<-av];exact⟨J.1.alloc _,J.2.alloc _,B.2.af.alloc _,Row.new wr _ _⟩)
    have ap:Hid (g<wr.heap.size/\b<wr.heap.size):=Z ⟨c7,J.1.head.lt⟩;have c2:=f.1.head.c1;have K:=f.1.head.k 3 rfl;have f3:=f.1.head.free 3;obtain⟨t0,t1⟩:=f.2.2.2.c2;go_wp2
    try rw[av]
    clear av dN bi ch cL c7;obtain⟨tb,c9⟩:=mn wr.heap.size;rw[<-c9]at f ap t0 t1⊢;have cd:g≠tb:=(by have:=ap.out;omega);have cb:b≠tb:=(by have:=ap.out;omega);clear c9;have al:=f.1.own;rw[<-o]at al;have c4:=Z al;have C:Hid (¬aH g b):=Z (fun e=>aZ f.1.own f.1.head (by decide) (congrArg some (show g=b from Eq.symm e)));have c3:Hid (∀x:iK,∀v∈x.cells,v.oneCell'=true):=Z (fun x v W=>by simp[iK.cells]at W;rcases W with rfl|rfl|rfl<;>rfl);clear al;have i1:(0:Int)<=k:=(by omega);have i2:(k:Int)<=j:=(by omega);have fb:IntKind.i64.wrap ((k:Int)+1)=(k:Int)+1:=IntWalk.i64_in _ (by omega);have fd:(0:Int)<=(k:Int)+1:=(by omega);have cW:(k:Int)+1<=N:=(by omega);have fn:((k:Int)+1).toNat=k+1:=(by omega);have dr:k<=j:=(by omega);have dC:k+1<=N:=(by omega);by_cases cC:j=k+1
    ·obtain rfl:N=k+1:=by omega
     subst cC;have fr:(k:Int)<=(k:Int)+1:=(by omega);have i10:k<=k+1:=(by omega);clear i2 cW dr dC;go_region_law (first|(refine rO (by rfl) (.tmp 28) (.tmp 35) 312 (by rfl) 317 cf 3 underlying312 c1 ce iK.len c3 0 g k (k+1) (k+1) R o (by rfl) ⟨g,0,none⟩ 0 0 (by omega) (by rfl) (fun h=>by omega) c4.drew ?_;intro w2 U A;have a3:=Z U;have L:=Z A;have a4:w2.cell? (b,3)=some (.slice (some (g,0)) (k+1) (k+1)):=(A.cell (p:=⟨b,3,none⟩) f.1.head.lt C.out).trans K;have k3:w2.frozen? (b,3)=false:=(A.frozen (p:=⟨b,3,none⟩) f.1.head.lt C.out).trans f3;clear U A))
     all_goals
      obtain⟨w3,t⟩:=nm (w2.setCell (b,3) (.slice (some (g,0)) k (k+1)));have n:Hid (aT w3 b m (.slice (some (g,0)) k (k+1)) {S with l:=S.l.eraseIdx k}/\aO w3 m c d M/\Ch (lK b (.slice (some (g,0)) (k+1) (k+1)) m c d) w w3/\Row w3 tb 317 x.cells):=Z (by
       have I:=f.1.hq f.2.1;have ab:b≠g:=(fun e=>C.out e);have hd:Ch (dF b (.slice (some (g,0)) (k+1) (k+1))) w1 w3:=by
        rw[<-t];have a5:Ch (dF b (.slice (some (g,0)) (k+1) (k+1))) w1 w2:=(Ch.refl _ _).drew.trans (L.mono fun i r=>Or.inr (congrArg some (show g=i from Eq.symm r)));exact a5.hj (p:=⟨b,3,none⟩) (Or.inl rfl) _
       refine⟨⟨?_,?_⟩,f.2.1.ch hd I.2.1 I.2.2.1 I.2.2.2,f.2.2.1.trans (hd.mono fun i r=>Or.inl r),f.2.2.2.ch hd ?_⟩
       ·rw[<-t];exact(f.1.head.drew.ch L C.out).bc _ _ rfl
       ·show w3.ownsRow 0 317 3 _ (S.l.eraseIdx k).length _
        rw[List.length_eraseIdx_of_lt (by rw[<-o];exact R),<-o,<-t];exact ak (D:=aH b) a3 ay (fun q am e=>ab (by
         have:g=q:=(by simpa[Value.ownBlock]using am);rw[this];exact(show q=b from e).symm))
       ·rintro(e|e)
        ·exact cb e.symm
        ·exact cd (by simpa[Value.ownBlock]using e))
      have k0:w3.cell? (b,0)=some (.pointer (some (m,0))):=n.1.head.cell (i:=0) rfl;obtain⟨bv,bw⟩:=n.2.2.2.c2;go_wp2
      try rw[t]
      clear t a4 k3 c2 K f3 t0 t1;have P:=Z (fun w h=>kC m c d M x.at_ x.n (by omega) (by omega) w h);have T:=Z (n.1.hq n.2.1);obtain⟨y,Y⟩:=nm (M.gj x.at_ x.n);rw[Y]at P E;clear Y;obtain⟨bx,es⟩:=y;go_still_tail 8,(by kernel_rfl)
      change wpList _ _ _ _ _ w3.drew;go_wp2_with fail
      refine(P _ n.2.1.drew).mono ?_;rintro e a0 ⟨⟨u,rfl,V⟩,Q,G⟩;have O:=Z Q;have z:Hid (aT a0 b m (.slice (some (g,0)) k (k+1)) {S with l:=S.l.eraseIdx k}/\Ch (lK b (.slice (some (g,0)) (k+1) (k+1)) m c d) w a0):=Z ⟨n.1.drew.ch G T.out.1.1 T.out.1.2,n.2.2.1.drew.trans (G.mono fun i r=>Or.inr r)⟩;clear Q G k0 bv bw;cases bx
      ·obtain⟨tt,en,rfl⟩:ar u:=V
       go_wp2_with (go_at_call 149;refine(fV _ _ _ _).mono ?_;rintro e w' ⟨rfl,rfl⟩)
       go_ret;rw[E];exact⟨⟨_,rfl,ar.mk _ _⟩,⟨_,z.1.alloc _,aS.of_eq rfl⟩,O.alloc _,z.2.alloc _⟩
      ·obtain rfl:u=.nilIface:=V
       go_wp2
       go_ret;rw[E];exact⟨⟨_,rfl,rfl⟩,⟨_,z.1,aS.of_eq rfl⟩,O,z.2⟩
    ·go_region_law (first|(refine rO (by rfl) (.tmp 28) (.tmp 35) 312 (by rfl) 317 cf 3 underlying312 c1 ce iK.len c3 0 g k N j R o (by rfl) ⟨g,(k+1)*3,none⟩ (j-(k+1)) (N-(k+1)) rfl (by rfl) (fun h=>rfl) c4.drew ?_;intro w2 U A;have a3:=Z U;have L:=Z A;have a4:w2.cell? (b,3)=some (.slice (some (g,0)) N j):=(A.cell (p:=⟨b,3,none⟩) f.1.head.lt C.out).trans K;have k3:w2.frozen? (b,3)=false:=(A.frozen (p:=⟨b,3,none⟩) f.1.head.lt C.out).trans f3;clear U A))
     all_goals
      obtain⟨w3,t⟩:=nm (w2.setCell (b,3) (.slice (some (g,0)) (N-1) j));have n:Hid (aT w3 b m (.slice (some (g,0)) (N-1) j) {S with l:=S.l.eraseIdx k}/\aO w3 m c d M/\Ch (lK b (.slice (some (g,0)) N j) m c d) w w3/\Row w3 tb 317 x.cells):=Z (by
       have I:=f.1.hq f.2.1;have ab:b≠g:=(fun e=>C.out e);have hd:Ch (dF b (.slice (some (g,0)) N j)) w1 w3:=by
        rw[<-t];have a5:Ch (dF b (.slice (some (g,0)) N j)) w1 w2:=(Ch.refl _ _).drew.trans (L.mono fun i r=>Or.inr (congrArg some (show g=i from Eq.symm r)));exact a5.hj (p:=⟨b,3,none⟩) (Or.inl rfl) _
       refine⟨⟨?_,?_⟩,f.2.1.ch hd I.2.1 I.2.2.1 I.2.2.2,f.2.2.1.trans (hd.mono fun i r=>Or.inl r),f.2.2.2.ch hd ?_⟩
       ·rw[<-t];exact(f.1.head.drew.ch L C.out).bc _ _ rfl
       ·show w3.ownsRow 0 317 3 _ (S.l.eraseIdx k).length _
        rw[List.length_eraseIdx_of_lt (by rw[<-o];exact R),<-o,<-t];exact ak (D:=aH b) a3 ay (fun q am e=>ab (by
         have:g=q:=(by simpa[Value.ownBlock]using am);rw[this];exact(show q=b from e).symm))
       ·rintro(e|e)
        ·exact cb e.symm
        ·exact cd (by simpa[Value.ownBlock]using e))
      have k0:w3.cell? (b,0)=some (.pointer (some (m,0))):=n.1.head.cell (i:=0) rfl;obtain⟨bv,bw⟩:=n.2.2.2.c2;go_wp2
      try rw[t]
      clear t a4 k3 c2 K f3 t0 t1;have P:=Z (fun w h=>kC m c d M x.at_ x.n (by omega) (by omega) w h);have T:=Z (n.1.hq n.2.1);obtain⟨y,Y⟩:=nm (M.gj x.at_ x.n);rw[Y]at P E;clear Y;obtain⟨bx,es⟩:=y;go_still_tail 8,(by kernel_rfl)
      change wpList _ _ _ _ _ w3.drew;go_wp2_with fail
      refine(P _ n.2.1.drew).mono ?_;rintro e a0 ⟨⟨u,rfl,V⟩,Q,G⟩;have O:=Z Q;have z:Hid (aT a0 b m (.slice (some (g,0)) (N-1) j) {S with l:=S.l.eraseIdx k}/\Ch (lK b (.slice (some (g,0)) N j) m c d) w a0):=Z ⟨n.1.drew.ch G T.out.1.1 T.out.1.2,n.2.2.1.drew.trans (G.mono fun i r=>Or.inr r)⟩;clear Q G k0 bv bw;cases bx
      ·obtain⟨tt,en,rfl⟩:ar u:=V
       go_wp2_with (go_at_call 149;refine(fV _ _ _ _).mono ?_;rintro e w' ⟨rfl,rfl⟩)
       go_ret;rw[E];exact⟨⟨_,rfl,ar.mk _ _⟩,⟨_,z.1.alloc _,aS.of_eq rfl⟩,O.alloc _,z.2.alloc _⟩
      ·obtain rfl:u=.nilIface:=V
       go_wp2
       go_ret;rw[E];exact⟨⟨_,rfl,rfl⟩,⟨_,z.1,aS.of_eq rfl⟩,O,z.2⟩
  ·have cQ:¬(k:Int)<N:=by omega
   have E:Hid (m1 S M a=(false,S,M)):=Z (by
    have:mB S.l a 0=none:=(by rw[<-B.1,List.drop_eq_nil_of_le (by rw[<-o];omega)];rfl);unfold m1;rw[this])
   go_wp2_with (go_at_call 149;refine(fV _ _ _ _).mono ?_;rintro e w' ⟨rfl,rfl⟩)
   go_ret;rw[E];exact⟨⟨_,rfl,ar.mk _ _⟩,⟨_,J.1.alloc _,aS.refl _ _⟩,J.2.alloc _,B.2.af.alloc _⟩
