import Derived.Laws.CopyRow
import Derived.Test.YtmfnplmcfkkdpaaGreatDoorZAf
import Derived.Test.YtmfnplmcfkkdpaaGreatDoorZAg
set_option linter.all false
set_option maxRecDepth 100000
set_option maxHeartbeats 0
namespace Go.Proofs.YtmfnplmcfkkdpaaGreatDoor
open Go.RowKit Go.Proofs.Tryz
variable{w:World}{B b m n s:Nat}{v:Value}{e:TypeId}
structure iK where
 at_:Nat
 n:Nat
 w:Int
 deriving DecidableEq,Repr,Inhabited
def iK.cells(b:iK):List Value:=[.int .i64 b.at_,.int .i64 b.n,.int .i64 b.w]
theorem iK.len(b:iK):b.cells.length=3:=rfl
structure a8 where
 from_:Nat
 y9:Nat
 l:List iK
structure aT(w:World)(b m:Nat)(v:Value)(S:a8):Prop where
 head:Row w b 272 [(m,0),.int .i64 S.from_,.int .i64 S.y9,v]
 own:w.ownsRow 0 275 3 v S.l.length (S.l.flatMap iK.cells)
def dF(b:Nat)(v:Value):Nat->Prop:=fun i=>i=b∨v.ownBlock=some i
theorem aT.alloc{S:a8}(h:aT w b m v S)(o:Obj):aT (w.alloc o) b m v S:=⟨h.head.alloc o,h.own.alloc o⟩
theorem aT.drew{S:a8}(h:aT w b m v S):aT w.drew b m v S:=⟨h.head,h.own.drew⟩
theorem aT.drewN{S:a8}(h:aT w b m v S)(n:Nat):aT (w.drewN n) b m v S:=⟨h.head,⟨h.own.1,h.own.2⟩⟩
theorem aT.ch{w':World}{D:Nat->Prop}{S:a8}(h:aT w b m v S)(c:Ch D w w')(hb:¬D b)(a:∀g,v.ownBlock=some g->¬D g):aT w' b m v S:=⟨h.head.ch c hb,ak h.own c a⟩
theorem aE{xs:List Value}(h:w.ownsRow B e s v n xs)(o:0<n):∃g cap c,v=.slice (some ⟨g,0,none⟩) n cap/\B<=g/\n<=cap/\cap<=maxLen/\Row w g e (xs++c)/\(xs++c).length=cap*s:=by
 rcases h.2 with⟨_,l⟩|⟨g,cap,cur,rfl,d,i,f,j,k,a⟩
 ·omega
 ·refine⟨g,cap,cur.toList.drop (n*s),rfl,d,f,j,?_,?_⟩
  ·unfold Row;rw[<-a,List.take_append_drop];simpa using i
  ·rw[<-a,List.take_append_drop];simpa using k
theorem kI{α:Type}{enc:α->List Value}{g cap:Nat}{l:List α}(h:w.ownsRow B e s (.slice (some (g,0)) n cap) n (l.flatMap enc))(d:∀x,(enc x).length=s)(F:n=l.length){i:Nat}{x:α}(f:l[i]?=some x):
 (∀j v,j<s->(enc x)[j]?=some v->w.cell? ⟨g,i*s+j,none⟩=some v)/\g<w.heap.size/\(∀j,w.frozen? ⟨g,j,none⟩=false):=by
 have C:=(List.getElem?_eq_some_iff.1 f).1;obtain⟨g',t,G,o,z,A,E,c,D⟩:=aE h (by omega);injection o with a u y
 injection a with a
 injection a with a
 subst a;have k:=aU d l;refine⟨fun j v p r=>c.cell ?_,c.lt,fun j=>c.free j⟩;have q:i*s+j<l.length*s:=by
  calc i*s+j<i*s+s:=by omega
   _=(i+1)*s:=by rw[Nat.succ_mul]
   _<=l.length*s:=Nat.mul_le_mul_right _ (by omega)
 rw[List.getElem?_append_left (by rw[k];exact q)];exact(bJ d f p).trans r
def a8.ek(S:a8)(i:Nat):Nat:=if i=0 then S.from_ else match S.l[i-1]? with|some x=>x.at_+x.n|none=>0
def a8.gh(S:a8)(i:Nat):Nat:=if i=S.l.length then S.y9 else match S.l[i]? with|some x=>x.at_|none=>0
structure a8.Ok(S:a8):Prop where
 from_:S.from_<=70000
 y9:S.y9<=70000
 l:∀x∈S.l,x.at_<=70000/\x.n<=70000
 len:S.l.length<=900000
theorem qs(b m:Nat)(v:Value)(S:a8)(a:S.Ok)(i:Nat)(r:i<=S.l.length)(w:World)(h:aT w b m v S):
 Calls prog 125 #[(b,0),.int .i64 i] w (fun e w'=>e=.returned (.int .i64 (S.ek i))/\∃k,w'=w.drewN k):=by
 by_cases j:i=0
 ·subst j
  have E:Hid (S.ek 0=S.from_):=Z (by unfold a8.ek;rw[if_pos rfl]);have t:=h.head.k 1 rfl;go_wp2
  go_ret;rw[E];exact⟨rfl,0,rfl⟩
 ·obtain⟨p,rfl⟩:∃p,i=p+1:=⟨i-1,by omega⟩
  obtain⟨x,c⟩:∃x,S.l[p]?=some x:=⟨_,List.getElem?_eq_getElem (by omega)⟩;have E:Hid (S.ek (p+1)=x.at_+x.n):=Z (by unfold a8.ek;rw[if_neg (by omega),Nat.add_sub_cancel,c]);have J:=a.l x (List.mem_of_getElem? c);obtain⟨g,cap,K,rfl,A,o,G,-,-⟩:=aE h.own (by omega);obtain⟨d,F,D⟩:=kI h.own iK.len rfl c;have L:w.cell? ⟨g,p*3,none⟩=some (.int .i64 x.at_):=d 0 _ (by omega) rfl;have M:w.cell? ⟨g,p*3+1,none⟩=some (.int .i64 x.n):=d 1 _ (by omega) rfl;have f:=h.head.k 3 rfl;obtain⟨N,l⟩:=mn S.l.length;rw[<-l]at f r o;have q:((p+1:Nat):Int)=(p:Int)+1:=by omega
  have C:((p:Int)+1==0)=false:=by rw[beq_eq_false_iff_ne];omega
  have u:IntKind.i64.wrap ((p:Int)+1-1)=(p:Int):=by rw[show(p:Int)+1-1=p from by omega];exact IntWalk.i64_in _ (by have:=a.len;omega)
  have z:IntKind.i64.wrap (p:Int)=(p:Int):=IntWalk.i64_in _ (by have:=a.len;omega);have y:IntKind.i64.wrap ((x.at_:Int)+x.n)=((x.at_:Int)+x.n):=IntWalk.i64_in _ (by omega);have I:(p:Int)<N:=by omega
  have H:(0:Int)<=p:=by omega
  rw[q];go_wp2
  go_quiet (fail)
  go_wp2
  go_ret;rw[E];exact⟨rfl,_,rfl⟩
theorem nM(b m:Nat)(v:Value)(S:a8)(p:S.Ok)(i:Nat)(o:i<=S.l.length)(w:World)(h:aT w b m v S):
 Calls prog 126 #[(b,0),.int .i64 i] w (ez (.int .i64 (S.gh i)) w):=by
 obtain⟨q,t,d⟩:=au h.own;have r:=h.head.k 2 rfl;have j:=h.head.k 3 rfl;obtain⟨N,c⟩:=mn S.l.length;by_cases a:i=S.l.length
 ·have E:Hid (S.gh i=S.y9):=Z (by unfold a8.gh;rw[if_pos a])
  rw[<-c]at a d;subst a;subst d;go_wp2
  go_ret;exact ez.mk (by rw[E];rfl)
 ·obtain⟨x,f⟩:∃x,S.l[i]?=some x:=⟨_,List.getElem?_eq_getElem (by omega)⟩
  have E:Hid (S.gh i=x.at_):=Z (by unfold a8.gh;rw[if_neg a,f]);obtain⟨g,cap,F,rfl,u,l,D,-,-⟩:=aE h.own (by omega);obtain⟨k,C,z⟩:=kI h.own iK.len rfl f;have G:w.cell? (g,i*3)=some (.int .i64 x.at_):=k 0 _ (by omega) rfl;rw[<-c]at j o a l;have hlen:=p.len;rw[<-c]at hlen;have y:((i:Int)==(N:Int))=false:=by rw[beq_eq_false_iff_ne];omega
  have A:(i:Int)<N:=by omega
  go_wp2
  go_ret;exact ez.mk (by rw[E];rfl)
section
attribute [local go_sem↓] Go.wp_at_zero Go.wp_at_succ
variable{w:World}{B cap g i s:Nat}{e:TypeId}
theorem nN{P:Program}(w:World)(f A ty elem:TypeId)(size g o b k:Nat)(a:Addr)(d z:Nat)(cur:Array Value)(t:TypeId)(cs:List Value)
 (y:P.underlying f=some (.slice elem)) (h:(P.info? elem).map (·.size)=some size)
 (n:w.heap[g]?=some (.cells cur t (0,0))) (r:cs.length=Nat.min d b*size)
 (u:∀j v,cs[j]?=some v->w.cell? (a.add j)=some v) (m:o+cs.length<=cur.size) (l:∀v∈cs,v.oneCell'=true):
 (Builtin.copy_ #[f,A] ty #[.slice (some (g,o)) b k,.slice (some a) d z]).run P w=
  .ok (goInt (Nat.min d b)) (w.setRow g (cur.toList.take o++cs++cur.toList.drop (o+cs.length)).toArray):=by
 have q:=run_loadCells_list (P:=P) w a cs u;have x:=run_storeCells_at P g o t cs 0 cur w n (by simpa using m) l;cases c:P.info? elem with
 |none=>simp[c]at h
 |some i=>
  have p:i.size=size:=by simpa[c]using h
  simp[Builtin.copy_,run_underlying y,Builtin.lenOf,Builtin.firstCells,sizeOf,typeInfo,c,p,<-r,q,x]
theorem pz(w:World)(g:Nat)(cs:Array Value):Ch (aH g) w (w.setRow g cs):=
 ⟨rfl,rfl,rfl,by simp[World.setRow],fun k b a=>setRow_other w g k cs (fun e=>a e)⟩
theorem lJ{α:Type}{enc:α->List Value}{k:Nat}(a:∀x,(enc x).length=k):∀(l:List α) (n:Nat),(l.flatMap enc).drop (n*k)=(l.drop n).flatMap enc
 |[],n=>by simp
 |x::l,0=>by simp
 |x::l,n+1=>by
  rw[List.flatMap_cons,List.drop_succ_cons,Nat.succ_mul,List.drop_append,a,show n*k+k-k=n*k from by omega,lJ a l n,List.drop_of_length_le (by rw[a];omega),List.nil_append]
theorem xa{α:Type}{enc:α->List Value}{P:Program}{T ty:TypeId}{l:List α}{z:α}{dC sC:Nat}(G:P.underlying T=some (.slice e))(F:(P.info? e).map (·.size)=some s)
 (a:∀x,(enc x).length=s) (q:∀x,∀v∈enc x,v.oneCell'=true) (L:i<l.length) (h:w.ownsRow B e s (.slice (some (g,0)) (l.length+1) cap) (l.length+1) ((l++[z]).flatMap enc)):
 ∃w',(Builtin.copy_ #[T,T] ty #[.slice (some (g,(i+1)*s)) (l.length-i) dC,.slice (some (g,i*s)) (l.length+1-i) sC]).run P w=.ok (goInt ((l.length-i:Nat):Int)) w'/\
  w'.ownsRow B e s (.slice (some (g,0)) (l.length+1) cap) (l.length+1) ((l.take (i+1)++l.drop i).flatMap enc)/\Ch (aH g) w w':=by
 obtain⟨g',K,b,A,r,y,E,n,C⟩:=aE h (by omega);injection A with f N J
 injection f with f
 injection f with f
 subst f J;have d:((l++[z]).flatMap enc).length=(l.length+1)*s:=by rw[aU a];simp
 have c:=aU a (l.drop i);rw[List.length_drop]at c;have o:Nat.min (l.length+1-i) (l.length-i)=l.length-i:=Nat.min_eq_right (by omega);have p:=nN (P:=P) w T T ty e s g ((i+1)*s) (l.length-i) dC ⟨g,i*s,none⟩ (l.length+1-i) sC ((l++[z]).flatMap enc++b).toArray e ((l.drop i).flatMap enc) G F n (by rw[o];exact c) (fun j v m=>by
  have M:j<(l.length-i)*s:=by rw[<-c];exact(List.getElem?_eq_some_iff.1 m).1
  rw[show(⟨g,i*s,none⟩:Addr).add j=⟨g,i*s+j,none⟩from by unfold Addr.add;split<;>simp_all];refine n.cell ?_;have hb:i*s+j<l.length*s:=by
   have:i*s+(l.length-i)*s=l.length*s:=(by rw[<-Nat.add_mul];congr 1;omega);omega
  rw[List.getElem?_append_left (by rw[d,Nat.succ_mul];omega),List.flatMap_append,List.getElem?_append_left (by rw[aU a];exact hb)];rw[<-lJ a,List.getElem?_drop]at m;exact m) (by
  rw[List.size_toArray,List.length_append,d,c];have:(i+1)*s+(l.length-i)*s=(l.length+1)*s:=by rw[<-Nat.add_mul];congr 1;omega
  omega) (fun v H=>by
  obtain⟨x,_,I⟩:=List.mem_flatMap.1 H;exact q x v I)
 rw[o]at p;refine⟨_,p,?_,pz _ _ _⟩;have k:=setRow_heap w g _ (List.take ((i+1)*s) ((l++[z]).flatMap enc++b).toArray.toList++(l.drop i).flatMap enc++List.drop ((i+1)*s+((l.drop i).flatMap enc).length) ((l++[z]).flatMap enc++b).toArray.toList).toArray e (0,0) n;have u:List.take ((i+1)*s) ((l++[z]).flatMap enc++b)=(l.take (i+1)).flatMap enc:=by
  rw[List.take_append,jP a,d,show(i+1)*s-(l.length+1)*s=0 from by have:(i+1)*s<=(l.length+1)*s:=Nat.mul_le_mul_right _ (by omega);omega,List.take_zero,List.append_nil,List.take_append_of_le_length (by omega)]
 have t:List.drop ((i+1)*s+((l.drop i).flatMap enc).length) ((l++[z]).flatMap enc++b)=b:=by
  rw[c,show(i+1)*s+(l.length-i)*s=(l.length+1)*s from by rw[<-Nat.add_mul];congr 1;omega,<-d,List.drop_left'];rfl
 rw[List.toList_toArray]at k;rw[u,t]at k⊢;have D:(l.take (i+1)++l.drop i).length=l.length+1:=by rw[List.length_append,List.length_take,List.length_drop];omega
 have f2:=aU a (l.take (i+1)++l.drop i);rw[D]at f2;refine⟨f2,Or.inr ⟨g,cap,_,rfl,r,k,y,E,?_,?_⟩⟩
 ·rw[List.size_toArray,<-List.flatMap_append,List.length_append,f2,<-d,<-List.length_append];exact C
 ·rw[List.toList_toArray,<-List.flatMap_append]
  exact List.take_left' f2
theorem nO{P:Program}(w:World)(c p ty elem:TypeId)(d a:Option Addr)(b j h o:Nat)(n:P.underlying c=some (.slice elem))(m:((P.info? elem).map (·.size)).isSome=true)(l:Nat.min h b=0):
 (Builtin.copy_ #[c,p] ty #[.slice d b j,.slice a h o]).run P w=.ok (goInt 0) w:=by
 cases f:P.info? elem with
 |none=>simp[f]at m
 |some i=>
  have k:∀(x:Addr),(loadCells x 0).run P w=.ok #[] w:=fun x=>by simpa using run_loadCells_list (P:=P) w x [] (by simp)
  cases d<;>cases a<;>simp[Builtin.copy_,run_underlying n,Builtin.lenOf,Builtin.firstCells,sizeOf,typeInfo,f,l,storeCells,k]
theorem ig{α:Type}{enc:α->List Value}{n:Nat}{l:List α}(h:w.ownsRow B e s (.slice (some (g,0)) n cap) n (l.flatMap enc))(c:∀x,(enc x).length=s){x y:α}(k:l[i]?=some x)(j:Nat)(r:j<s){a:Nat}(o:a=i*s+j){v:Value}(D:(enc x).set j v=enc y)(f:n=l.length):
 (w.setCell (g,a) v).ownsRow B e s (.slice (some (g,0)) n cap) n ((l.set i y).flatMap enc):=by
 subst o;have I:=(List.getElem?_eq_some_iff.1 k).1;obtain⟨g',G,E,q,m,p,z,A,t⟩:=aE h (by omega);injection q with b J F
 injection b with b
 injection b with b
 subst b F;have d:=aU c l;have f2:=aU c (l.set i y);rw[List.length_set]at f2;have u:i*s+j<l.length*s:=by
  have H:i*s+s<=l.length*s:=by rw[<-Nat.succ_mul];exact Nat.mul_le_mul_right _ (by omega)
  omega
 have C:=A.bc (i*s+j) v (l':=(l.set i y).flatMap enc++E) (by
  rw[List.set_append_left _ _ (by rw[d];exact u),fm c k r D])
 refine⟨by rw[f2,f],Or.inr ⟨g,cap,_,rfl,m,C,p,z,?_,?_⟩⟩
 ·rw[List.size_toArray,List.length_append,f2,<-d,<-List.length_append];exact t
 ·rw[List.toList_toArray,f]
  exact List.take_left' f2
end
section
attribute [local go_sem↓] Go.wp_at_zero Go.wp_at_succ
variable{w:World}{b cap g m:Nat}{v:Value}{S:a8}
def a8.kc(S:a8)(n:Nat):Nat->Nat->Option Nat
 |0,_=>none
 |f+1,i=>if(S.gh i:Int)-S.ek i<n then a8.kc S n f (i+1)else some i
def a8.find(S:a8)(n:Nat):Option Nat:=S.kc n (S.l.length+1) 0
def df(S:a8)(M:aI)(n:Nat):Option Nat×a8×aI:=
 if n=0∨4096<n then(none,S,M)else
 match S.find n with
 |none=>(none,S,M)
 |some i=>if(M.map (S.ek i) n 64).1=true then(some (S.ek i),{S with l:=S.l.take i++[⟨S.ek i,n,64⟩]++S.l.drop i},(M.map (S.ek i) n 64).2)else(none,S,M)
def lK(b:Nat)(v:Value)(m c d:Nat):Nat->Prop:=fun i=>dF b v i∨dL m c d i
def D6(x:Option Nat×a8×aI)(b m c d:Nat)(v:Value)(w:World)(e:Ending)(w':World):Prop:=
 (match x.1 with
  |some a=>e=.returned (.tuple #[.int .i64 a,.nilIface])
  |none=>∃u,e=.returned (.tuple #[.int .i64 0,u])/\ar u)/\(∃v',aT w' b m v' x.2.1/\aS w v v')/\aO w' m c d x.2.2/\Ch (lK b v m c d) w w'
theorem fV(n:Int)(t:TypeId)(x:Value)(w:World):Calls prog 124 #[n,.iface t x] w (fun e w'=>e=.returned (.iface 185 (.pointer (some (w.heap.size,0))))/\w.alloc (.cells #[.string ⟨#[97,108,108,111,99]⟩,n,.iface t x] 187)=w'):=by
 go_wp2
 go_ret;exact⟨rfl,rfl⟩
theorem xb(w:World)(a b:Nat):(w.drewN a).drewN b=w.drewN (a+b):=by unfold World.drewN;simp[Nat.add_assoc]
theorem vO:(prog.info? 275).map (fun i=>(i.zero,i.size,i.bytes))=some (some (.agg #[.int .i64 0,.int .i64 0,.int .i64 0]),3,24):=by kernel_rfl
theorem aT.hq{c d:Nat}{M:aI}(h:aT w b m v S)(a:aO w m c d M):(¬dL m c d b/\∀g,v.ownBlock=some g->¬dL m c d g)/\(¬dF b v m/\¬dF b v c/\¬dF b v d):=by
 refine⟨⟨?_,?_⟩,?_,?_,?_⟩
 ·rintro(e|e|e)
  ·exact h.head.ne a.head (by decide) e
  ·exact h.head.ne a.cells (by decide) e
  ·exact h.head.ne a.width (by decide) e
 ·rintro g f (e|e|e)
  ·exact aZ h.own a.head (by decide) (by rw[f,e])
  ·exact aZ h.own a.cells (by decide) (by rw[f,e])
  ·exact aZ h.own a.width (by decide) (by rw[f,e])
 ·rintro(e|e)
  ·exact h.head.ne a.head (by decide) e.symm
  ·exact aZ h.own a.head (by decide) e
 ·rintro(e|e)
  ·exact h.head.ne a.cells (by decide) e.symm
  ·exact aZ h.own a.cells (by decide) e
 ·rintro(e|e)
  ·exact h.head.ne a.width (by decide) e.symm
  ·exact aZ h.own a.width (by decide) e
theorem aT.app{w4:World}{z:iK}(h:aT w b m v S)
 (d:w4.ownsRow 0 275 3 (.slice (some (g,0)) (S.l.length+1) cap) (S.l.length+1) (S.l.flatMap iK.cells++z.cells)) (j:w.grownBy w4 v.ownBlock):
 aT (w4.setCell (b,3) (.slice (some (g,0)) (S.l.length+1) cap)) b m (.slice (some (g,0)) (S.l.length+1) cap) {S with l:=S.l++[z]}/\
 Ch (dF b v) w (w4.setCell (b,3) (.slice (some (g,0)) (S.l.length+1) cap)):=by
 have c:=Ch.bK j;have a:=h.head.ch c (aZ h.own h.head (by decide));have f:b≠g:=by
  intro e;subst e;exact aZ d a (by decide) rfl
 refine⟨⟨a.bc _ _ rfl,?_⟩,(Ch.mono (E:=dF b v) c fun i n=>Or.inr n).hj (p:=⟨b,3,none⟩) (Or.inl rfl) _⟩;have:(S.l++[z]).flatMap iK.cells=S.l.flatMap iK.cells++z.cells:=by simp
 rw[this];show(w4.setCell (b,3) _).ownsRow 0 275 3 _ (S.l++[z]).length _
 rw[List.length_append,List.length_cons,List.length_nil];exact ak (D:=aH b) d ((Ch.refl _ _).only 3 (.slice (some (g,0)) (S.l.length+1) cap)) (fun k o e=>by
  have:g=k:=by simpa[Value.ownBlock]using o
  subst this;exact f (show _=_ from e.symm))
def iK.zero:iK:=⟨0,0,0⟩
theorem aT.lay{n:Nat}{l:List iK}(h:aT w b m (.slice (some (g,0)) n cap) {S with l:=l})(c:n=l.length){i:Nat}(f:i<l.length)(x:iK){i1 i2:Nat}(o:i1=i*3+1)(p:i2=i*3+2):
 aT (((w.setCell (g,i*3) (.int .i64 x.at_)).setCell (g,i1) (.int .i64 x.n)).setCell (g,i2) (.int .i64 x.w)) b m (.slice (some (g,0)) n cap) {S with l:=l.set i x}:=by
 obtain⟨y,q⟩:∃y,l[i]?=some y:=⟨_,List.getElem?_eq_getElem f⟩;have d:b≠g:=fun e=>aZ h.own h.head (by decide) (by rw[e];rfl)
 have j:=h.own;rw[show({S with l:=l}:a8).l=l from rfl,<-c]at j;have r:=ig j iK.len q 0 (by omega) (a:=i*3) (by omega) (v:=.int .i64 x.at_) (y:=⟨x.at_,y.n,y.w⟩) rfl c;have s:=ig r iK.len (x:=⟨x.at_,y.n,y.w⟩) (by simp[f]) 1 (by omega) o (v:=.int .i64 x.n) (y:=⟨x.at_,x.n,y.w⟩) rfl (by simpa using c);have k:=ig s iK.len (x:=⟨x.at_,x.n,y.w⟩) (by simp[f]) 2 (by omega) p (v:=.int .i64 x.w) (y:=x) rfl (by simpa using c);rw[List.set_set,List.set_set]at k;refine⟨((h.head.other d _).other d _).other d _,?_⟩;show World.ownsRow _ 0 275 3 _ (l.set i x).length _
 rw[List.length_set,<-c];exact k
theorem zu{α:Type}(l:List α)(k:Nat)(x:α)(a:k<l.length):(l.take (k+1)++l.drop k).set k x=l.take k++[x]++l.drop k:=by
 rw[List.take_succ_eq_append_getElem a,List.append_assoc,List.append_assoc,List.set_append_right _ _ (by rw[List.length_take];omega)]
 congr 1
 rw[List.length_take,Nat.min_eq_left (by omega),Nat.sub_self];rfl
theorem vP{α:Type}(l:List α)(z x:α){k:Nat}(a:k=l.length):(l++[z]).set k x=l.take k++[x]++l.drop k:=by subst a;simp
theorem kJ(b m c d:Nat)(v:Value)(S:a8)(M:aI)(ab:S.Ok)(n:Nat)(hv:n<=1000000)(w:World)(h:aT w b m v S)(c1:aO w m c d M):
 Calls prog 85 #[.pointer (some ⟨b,0,none⟩),.int .i64 n,.int .i64 64] w (D6 (df S M n) b m c d v w):=by
 obtain⟨gs,dr,go,ex,gr⟩:=info_parts vO;have av:=Z dr;have c3:=Z h;have c6:=Z c1;have c7:=Z ab;clear dr;by_cases bi:n=0
 ·have E:Hid (df S M n=(none,S,M)):=Z (by unfold df;rw[if_pos (Or.inl bi)])
  subst bi;clear h c1 ab;go_in
  go_wp2_with (go_at_call 124;refine(fV _ _ _ _).mono ?_;rintro e w' ⟨rfl,rfl⟩)
  go_ret2;rw[E];exact⟨⟨_,rfl,ar.mk _ _⟩,⟨v,c3.alloc _,aS.refl _ _⟩,c6.alloc _,ay⟩
 by_cases a4:4096<n
 ·have E:Hid (df S M n=(none,S,M)):=Z (by unfold df;rw[if_pos (Or.inr a4)])
  have hb:(4096:Int)<n:=by omega
  have fb:¬((n:Int)<1):=by omega
  clear h c1 ab bi;go_in
  go_wp2_with (go_at_call 124;refine(fV _ _ _ _).mono ?_;rintro e w' ⟨rfl,rfl⟩)
  go_ret2;rw[E];exact⟨⟨_,rfl,ar.mk _ _⟩,⟨v,c3.alloc _,aS.refl _ _⟩,c6.alloc _,ay⟩
 have E:Hid (df S M n=match S.find n with
  |none=>(none,S,M)
  |some i=>if(M.map (S.ek i) n 64).1=true then(some (S.ek i),{S with l:=S.l.take i++[⟨S.ek i,n,64⟩]++S.l.drop i},(M.map (S.ek i) n 64).2)else(none,S,M)):=Z (by unfold df;rw[if_neg (by omega)])
 have fb:¬((n:Int)<1):=by omega
 have hd:¬((4096:Int)<n):=by omega
 obtain⟨G,H,ad⟩:=au h.own;obtain⟨N,bv⟩:=mn S.l.length;rw[<-bv]at ad;have F:=Z bv;have he:N<=900000:=by rw[bv];exact ab.len
 subst ad;clear h c1 ab bv bi;go_wp2
 go_loopw [8] (fun s wr=>∃k:Nat,s=.int .i64 k/\k<=N+1/\Hid (S.kc n (N+1-k) k=S.find n/\∃q,wr=w.drewN q)) (fun s _=>N+1-(intOf s).toNat)
 case atStart=>exact⟨0,rfl,Nat.zero_le _,by rw[F];rfl,0,rfl⟩
 case round=>
  obtain⟨k,rfl,hn,a2⟩:=hrel;have U:Hid (aT wr b m (.slice G N H) S/\aO wr m c d M/\Ch (lK b (.slice G N H) m c d) w wr):=Z (by
   obtain⟨q,rfl⟩:=a2.2;exact⟨c3.drewN q,c6.drewN q,ay⟩)
  have cL:=U.1.head.k 3 rfl;by_cases dN:k<=N
  ·have g9:(k:Int)<=N:=by omega
   have c4:Hid (S.kc n (N+1-k) k=if(S.gh k:Int)-S.ek k<n then S.kc n (N+1-(k+1)) (k+1)else some k):=Z (by
    rw[show N+1-k=(N+1-(k+1))+1 from by omega,a8.kc])
   have gk:S.ek k<=140000/\S.gh k<=140000:=by
    have bw:=c7.out;have hm:=bw.from_;have hw:=bw.y9;refine⟨?_,?_⟩
    ·unfold a8.ek
     split
     ·omega
     ·split
      ·rename_i x al;have:=bw.l x (List.mem_of_getElem? al);omega
      ·omega
    ·unfold a8.gh
     split
     ·omega
     ·split
      ·rename_i x al;have:=bw.l x (List.mem_of_getElem? al);omega
      ·omega
   obtain⟨a,bx⟩:=mn (S.ek k);obtain⟨st,cl⟩:=mn (S.gh k);have eC:Hid (∀w,aT w b m (.slice G N H) S->Calls prog 125 #[.pointer (some ⟨b,0,none⟩),.int .i64 k] w (fun e w'=>e=.returned (.int .i64 a)/\∃q,w'=w.drewN q)):=Z (fun w h=>by rw[bx];exact qs b m _ S c7 k (by rw[<-F];exact dN) w h);have c8:Hid (∀w,aT w b m (.slice G N H) S->Calls prog 126 #[.pointer (some ⟨b,0,none⟩),.int .i64 k] w (ez (.int .i64 st) w)):=Z (fun w h=>by rw[cl];exact nM b m _ S c7 k (by rw[<-F];exact dN) w h);rw[<-bx,<-cl]at c4 gk;have cA:=Z bx;clear bx cl;go_wp2_with fail
   refine(eC _ U.1).mono ?_;rintro e w1 ⟨rfl,et⟩;have C:Hid (aT w1 b m (.slice G N H) S/\aO w1 m c d M/\Ch (lK b (.slice G N H) m c d) w w1/\∃q,w1=w.drewN q):=Z (by
    obtain⟨q,rfl⟩:=et;obtain⟨c2,rfl⟩:=a2.2;exact⟨U.1.drewN q,U.2.1.drewN q,U.2.2.drewN q,c2+q,xb _ _ _⟩)
   have d0:=C.1.head.c1;clear et cL;by_cases en:(st:Int)-a<n
   ·have ap:Hid (S.kc n (N+1-(k+1)) (k+1)=S.find n):=Z (by rw[<-a2.1,c4,if_pos en])
    go_wp2_with (go_at_call 126;refine(c8 _ C.1).mono ?_;rintro e w' ⟨rfl,rfl⟩)
    go_roundw
    case rel=>exact⟨k+1,by go_num,by omega,ap,C.2.2.2⟩
    case measure=>simp[intOf];omega
   ·have ap:Hid (S.find n=some k):=Z (by rw[<-a2.1,c4,if_neg en])
    cases Q:(M.map a n 64).1
    ·have R:Hid (df S M n=(none,S,M)):=Z (by rw[E,ap];simp only[<-cA.out,Q];rfl)
     have a1:=Z (fun w h=>fo m c d M a n (by omega) (by omega) w h);have es:(M.map a n 64).2=M:=(by unfold aI.map at Q⊢;split at Q;cases Q;rename_i fd;rw[if_neg fd]);rw[show M.map a n 64=(false,M)from Prod.ext Q es]at a1;clear Q es;go_wp2_with (first|(go_at_call 126;refine(c8 _ C.1).mono ?_;rintro e w' ⟨rfl,rfl⟩)|(go_at_call 80;refine(a1 _ C.2.1).mono ?_;rintro e w2 ⟨⟨u,rfl,cm⟩,L,a0⟩;obtain⟨tt,hF,rfl⟩:=cm;have eL:=Z L;have cC:=Z a0;clear L a0)|(go_at_call 124;refine(fV _ _ _ _).mono ?_;rintro e w' ⟨rfl,rfl⟩))
     go_ret2;rw[R];have f:=C.1.hq C.2.1;exact⟨⟨_,rfl,ar.mk _ _⟩,⟨_,(C.1.ch cC f.1.1 f.1.2).alloc _,aS.refl _ _⟩,eL.alloc _,(C.2.2.1.trans (cC.mono fun i r=>Or.inr r)).alloc _⟩
    ·have R:Hid (df S M n=(some a,{S with l:=S.l.take k++[⟨a,n,64⟩]++S.l.drop k},(M.map a n 64).2)):=Z (by rw[E,ap];simp only[<-cA.out,Q];rfl)
     have a1:=Z (fun w h=>fo m c d M a n (by omega) (by omega) w h);obtain⟨a3,L⟩:=nm ((M.map a n 64).2);rw[show M.map a n 64=(true,a3)from Prod.ext Q L]at a1;rw[L]at R;clear Q L;go_wp2_with (first|(go_at_call 126;refine(c8 _ C.1).mono ?_;rintro e w' ⟨rfl,rfl⟩)|fail)
     refine(a1 _ C.2.1).mono ?_;rintro e w2 ⟨⟨u,rfl,cm⟩,L,a0⟩;obtain rfl:u=.nilIface:=cm;have f:=C.1.hq C.2.1;have A:Hid (aT w2 b m (.slice G N H) S/\aO w2 m c d a3/\Ch (lK b (.slice G N H) m c d) w w2):=Z ⟨C.1.ch a0 f.1.1 f.1.2,L,C.2.2.1.trans (a0.mono fun i r=>Or.inr r)⟩;clear L a0 f d0;have d3:=A.1.head.k 3 rfl;have cQ:=A.1.head.free 3;have ce:=A.1.own;rw[<-F]at ce;have eS:=Z ce;clear ce;go_wp2_with (at_builtin;refine wpList_append_lies _ rfl _ _ _ rfl 0 275 gs _ 3 24 underlying270 av go ex gr rfl (by omega) _ N (S.l.flatMap iK.cells) rfl (eS.alloc _) ⟨w2.heap.size,0,none⟩ 1 1 [.int .i64 0,.int .i64 0,.int .i64 0] rfl rfl (World.news_of_block (cs:=#[.int .i64 0,.int .i64 0,.int .i64 0]) (t:=275) (fr:=(0,0)) (heap_alloc_new w2 _)) (by simp[Value.oneCell']) (by omega) (by unfold maxLen;omega) (by omega) (by simp) (w2.heap.size+1) (by simp) ?_)
     intro g cap w4 ch c0 cb ge;have Y:=A.1.app (z:=iK.zero) (by rw[<-F];exact ch) (ao c0);rw[<-F]at Y;have f:=A.1.hq A.2.1;obtain⟨j,cq⟩:=nm (w4.setCell ⟨b,3,none⟩ (.slice (some ⟨g,0,none⟩) (N+1) cap));have eW:w4.cell? ⟨b,3,none⟩=some (.slice G N H):=((Ch.bK (ao c0)).cell (p:=⟨b,3,none⟩) A.1.head.lt (aZ A.1.own A.1.head (by decide))).trans d3;have k3:w4.frozen? ⟨b,3,none⟩=false:=((Ch.bK (ao c0)).frozen (p:=⟨b,3,none⟩) A.1.head.lt (aZ A.1.own A.1.head (by decide))).trans cQ;rw[cq]at Y;have cS:∀i,i<w.heap.size->dF b (.slice (some ⟨g,0,none⟩) (N+1) cap) i->dF b (.slice G N H) i:=fun i r al=>by
      rcases al with a4|a4
      ·exact Or.inl a4
      ·have fz:g=i:=by simpa[Value.ownBlock]using a4
       rcases cb with a5|a5
       ·exact Or.inr (by rw[a5,fz])
       ·have:=A.2.2.size;omega
     have c5:Hid (aS w (.slice G N H) (.slice (some ⟨g,0,none⟩) (N+1) cap)):=Z (aS.at (by
      rcases cb with a5|a5
      ·exact Or.inl (by rw[a5])
      ·have:=A.2.2.size;exact Or.inr (by omega)))
     have B:Hid (aT j b m (.slice (some ⟨g,0,none⟩) (N+1) cap) {S with l:=S.l++[iK.zero]}/\aO j m c d a3/\Ch (lK b (.slice G N H) m c d) w j/\(∀i,i<w.heap.size->dF b (.slice (some ⟨g,0,none⟩) (N+1) cap) i->dF b (.slice G N H) i)):=Lib.hid
      ⟨Y.1,A.2.1.ch Y.2 f.2.1 f.2.2.1 f.2.2.2,A.2.2.trans (Y.2.mono fun i r=>Or.inl r),cS⟩
     have hi:N+1<=cap:=by
      obtain⟨_,_,_,W,_,hf,_⟩:=aE ch (by omega);injection W with c2 eA hB
      omega
     clear Y f cS c0 cb ge d3 cQ ch;go_wp2
     try rw[cq]
     clear cq eW k3;have cL:=B.1.head.k 3 rfl;by_cases ej:k<N
     ·have hu:k+1<cap:=by omega
      have cd:=B.1.own.drew;rw[show({S with l:=S.l++[iK.zero]}:a8).l=S.l++[iK.zero]from rfl,List.length_append,List.length_cons,List.length_nil,Nat.zero_add,F]at cd;obtain⟨K,ci,J,c9⟩:=xa (P:=prog) (T:=270) (ty:=3) (dC:=cap-(k+1)) (sC:=cap-k) underlying270 (by rw[av];simp[ex]) iK.len (fun x v ad=>by simp[iK.cells]at ad;rcases ad with rfl|rfl|rfl<;>rfl) (by rw[<-F];exact ej) cd;rw[<-F]at ci J;clear cd;have o:Hid (aT K b m (.slice (some ⟨g,0,none⟩) (N+1) cap) {S with l:=S.l.take (k+1)++S.l.drop k}/\aO K m c d a3/\Ch (dF b (.slice (some ⟨g,0,none⟩) (N+1) cap)) j K):=Z (by
       have f:=B.1.hq B.2.1;have cW:Ch (dF b (.slice (some ⟨g,0,none⟩) (N+1) cap)) j K:=(Ch.refl _ _).drew.trans (c9.mono fun i r=>Or.inr (congrArg some (show g=i from Eq.symm r)));refine⟨⟨B.1.head.drew.ch c9 (fun e=>aZ B.1.own B.1.head (by decide) (congrArg some (show g=b from Eq.symm e))),?_⟩,B.2.1.ch cW f.2.1 f.2.2.1 f.2.2.2,cW⟩;show K.ownsRow 0 275 3 _ (S.l.take (k+1)++S.l.drop k).length _
       rw[List.length_append,List.length_take,List.length_drop,<-F,show min (k+1) N+(N-k)=N+1 from by omega];exact J)
      clear J c9;have I:(S.l.take (k+1)++S.l.drop k).length=N+1:=(by rw[List.length_append,List.length_take,List.length_drop,<-F];omega);obtain⟨X,am⟩:∃y,(S.l.take (k+1)++S.l.drop k)[k]?=some y:=⟨_,List.getElem?_eq_getElem (by rw[I];omega)⟩;have J:=o.1.own;rw[show({S with l:=S.l.take (k+1)++S.l.drop k}:a8).l=S.l.take (k+1)++S.l.drop k from rfl,I]at J;obtain⟨O,gc,fn⟩:=kI J iK.len I.symm am;have gt:K.cell? ⟨g,k*3,none⟩=some (.int .i64 X.at_):=O 0 _ (by omega) rfl;have c2:K.cell? ⟨g,k*3+1,none⟩=some (.int .i64 X.n):=O 1 _ (by omega) rfl;have eA:K.cell? ⟨g,k*3+2,none⟩=some (.int .i64 X.w):=O 2 _ (by omega) rfl;have eV:K.cell? ⟨b,3,none⟩=some (.slice (some ⟨g,0,none⟩) (N+1) cap):=o.1.head.cell (i:=3) rfl;have V:=Z I;have gf:(k:Int)<(N:Int)+1:=(by omega);clear O am J I;have g1:(k:Int)+1<=(N:Int)+1:=(by omega);have g2:(0:Int)<=(k:Int)+1:=(by omega);have g3:IntKind.i64.wrap ((k:Int)+1)=(k:Int)+1:=IntWalk.i64_in _ (by omega);have g4:((k:Int)+1).toNat=k+1:=(by omega);have g5:(k:Int)<=(N:Int)+1:=(by omega);have g6:k<cap:=(by omega);have g7:¬cap=k:=(by omega);have g8:¬cap=k+1:=(by omega);have g0:k<=N+1:=(by omega);go_wp2
      go_still_tail 13,(by kernel_rfl)
      change wpList _ _ _ _ _ j.drew;go_wp2
      go_ret2;rw[R];refine⟨rfl,⟨.slice (some ⟨g,0,none⟩) (N+1) cap,?_,c5⟩,?_,?_⟩
      ·have:=o.1.lay V.symm (i:=k) (by rw[V];omega) ⟨a,n,64⟩ (i1:=k*3+1) (i2:=k*3+2) rfl rfl
       rw[zu _ _ _ (by rw[<-F];exact ej)]at this;exact this
      ·have f:=o.1.hq o.2.1
       exact o.2.1.ch (D:=aH g) ay (fun e=>f.2.1 (Or.inr (congrArg some (show g=m from Eq.symm e)))) (fun e=>f.2.2.1 (Or.inr (congrArg some (show g=c from Eq.symm e)))) (fun e=>f.2.2.2 (Or.inr (congrArg some (show g=d from Eq.symm e))))
      ·have a9:Ch (dF b (.slice (some ⟨g,0,none⟩) (N+1) cap)) K _:=Ch.mono (D:=aH g) ((((Ch.refl _ K).only (k*3) (.int .i64 a)).only (k*3+1) (.int .i64 n)).only (k*3+2) (.int .i64 64)) (fun i r=>Or.inr (congrArg some (show g=i from Eq.symm r)))
       exact B.2.2.1.join (o.2.2.trans a9) (fun i r W=>Or.inl (B.2.2.2 i r W))
     ·obtain rfl:k=N:=by omega
      have o:Hid (aT j b m (.slice (some ⟨g,0,none⟩) (k+1) cap) {S with l:=S.l++[iK.zero]}/\aO j m c d a3/\Ch (dF b (.slice (some ⟨g,0,none⟩) (k+1) cap)) j j):=Z ⟨B.1,B.2.1,Ch.refl _ _⟩;have I:(S.l++[iK.zero]).length=k+1:=(by rw[List.length_append,List.length_cons,List.length_nil,<-F]);obtain⟨X,am⟩:∃y,(S.l++[iK.zero])[k]?=some y:=⟨_,List.getElem?_eq_getElem (by rw[I];omega)⟩;have J:=o.1.own;rw[show({S with l:=S.l++[iK.zero]}:a8).l=S.l++[iK.zero]from rfl,I]at J;obtain⟨O,gc,fn⟩:=kI J iK.len I.symm am;have gt:j.cell? ⟨g,k*3,none⟩=some (.int .i64 X.at_):=O 0 _ (by omega) rfl;have c2:j.cell? ⟨g,k*3+1,none⟩=some (.int .i64 X.n):=O 1 _ (by omega) rfl;have eA:j.cell? ⟨g,k*3+2,none⟩=some (.int .i64 X.w):=O 2 _ (by omega) rfl;have eV:j.cell? ⟨b,3,none⟩=some (.slice (some ⟨g,0,none⟩) (k+1) cap):=o.1.head.cell (i:=3) rfl;have V:=Z I;have gf:(k:Int)<(k:Int)+1:=(by omega);clear O am J I;have g1:(k:Int)+1<=(k:Int)+1:=(by omega);have g2:(0:Int)<=(k:Int)+1:=(by omega);have g3:IntKind.i64.wrap ((k:Int)+1)=(k:Int)+1:=IntWalk.i64_in _ (by omega);have g4:((k:Int)+1).toNat=k+1:=(by omega);have g5:(k:Int)<=(k:Int)+1:=(by omega);have g6:k<cap:=(by omega);have g7:¬cap=k:=(by omega);have g0:k<=k+1:=(by omega);by_cases g8:cap=k+1
      ·skip
       have ci:∀(d a:Option Addr) (dC sC:Nat),(Builtin.copy_ #[270,270] 3 #[.slice d 0 dC,.slice a 1 sC]).run prog j.drew=.ok (goInt 0) j.drew:=(fun d a dC sC=>nO j.drew _ _ _ _ d a 0 dC 1 sC underlying270 (by rw[av];rfl) rfl);go_wp2
       go_still_tail 13,(by kernel_rfl)
       change wpList _ _ _ _ _ j.drew;go_wp2
       go_ret2;rw[R];refine⟨rfl,⟨.slice (some ⟨g,0,none⟩) (k+1) cap,?_,c5⟩,?_,?_⟩
       ·have:=o.1.lay V.symm (i:=k) (by rw[V];omega) ⟨a,n,64⟩ (i1:=k*3+1) (i2:=k*3+2) rfl rfl
        rw[vP _ _ _ F]at this;exact this.drew
       ·have f:=o.1.hq o.2.1
        exact o.2.1.ch (D:=aH g) ay (fun e=>f.2.1 (Or.inr (congrArg some (show g=m from Eq.symm e)))) (fun e=>f.2.2.1 (Or.inr (congrArg some (show g=c from Eq.symm e)))) (fun e=>f.2.2.2 (Or.inr (congrArg some (show g=d from Eq.symm e))))
       ·have a9:Ch (dF b (.slice (some ⟨g,0,none⟩) (k+1) cap)) j _:=Ch.mono (D:=aH g) ((((Ch.refl _ j).only (k*3) (.int .i64 a)).only (k*3+1) (.int .i64 n)).only (k*3+2) (.int .i64 64)).drew (fun i r=>Or.inr (congrArg some (show g=i from Eq.symm r)))
        exact B.2.2.1.join (o.2.2.trans a9) (fun i r W=>Or.inl (B.2.2.2 i r W))
      ·skip
       have ci:∀(d a:Option Addr) (dC sC:Nat),(Builtin.copy_ #[270,270] 3 #[.slice d 0 dC,.slice a 1 sC]).run prog j.drew=.ok (goInt 0) j.drew:=(fun d a dC sC=>nO j.drew _ _ _ _ d a 0 dC 1 sC underlying270 (by rw[av];rfl) rfl);go_wp2
       go_still_tail 13,(by kernel_rfl)
       change wpList _ _ _ _ _ j.drew;go_wp2
       go_ret2;rw[R];refine⟨rfl,⟨.slice (some ⟨g,0,none⟩) (k+1) cap,?_,c5⟩,?_,?_⟩
       ·have:=o.1.lay V.symm (i:=k) (by rw[V];omega) ⟨a,n,64⟩ (i1:=k*3+1) (i2:=k*3+2) rfl rfl
        rw[vP _ _ _ F]at this;exact this.drew
       ·have f:=o.1.hq o.2.1
        exact o.2.1.ch (D:=aH g) ay (fun e=>f.2.1 (Or.inr (congrArg some (show g=m from Eq.symm e)))) (fun e=>f.2.2.1 (Or.inr (congrArg some (show g=c from Eq.symm e)))) (fun e=>f.2.2.2 (Or.inr (congrArg some (show g=d from Eq.symm e))))
       ·have a9:Ch (dF b (.slice (some ⟨g,0,none⟩) (k+1) cap)) j _:=Ch.mono (D:=aH g) ((((Ch.refl _ j).only (k*3) (.int .i64 a)).only (k*3+1) (.int .i64 n)).only (k*3+2) (.int .i64 64)).drew (fun i r=>Or.inr (congrArg some (show g=i from Eq.symm r)))
        exact B.2.2.1.join (o.2.2.trans a9) (fun i r W=>Or.inl (B.2.2.2 i r W))
  ·have g9:¬((k:Int)<=N):=by omega
   have R:Hid (df S M n=(none,S,M)):=Z (by
    rw[E,<-a2.1,show N+1-k=0 from by omega];rfl)
   go_wp2_with (go_at_call 124;refine(fV _ _ _ _).mono ?_;rintro e w' ⟨rfl,rfl⟩)
   go_ret2;rw[R];exact⟨⟨_,rfl,ar.mk _ _⟩,⟨_,U.1.alloc _,aS.refl _ _⟩,U.2.1.alloc _,U.2.2.alloc _⟩
end
attribute [local go_sem↓] Go.wp_at_zero Go.wp_at_succ
variable{g:Nat}
def zv:List Value->Nat->List Value->List Value
 |L,_,[]=>L
 |L,o,v::r=>zv (L.set o v) (o+1) r
theorem vQ:∀(a:List Value) (L:List Value) (o:Nat),o+a.length<=L.length->zv L o a=L.take o++a++L.drop (o+a.length)
 |[],L,o,_=>by simp[zv]
 |v::r,L,o,h=>by
  rw[List.length_cons]at h;rw[zv,vQ r (L.set o v) (o+1) (by rw[List.length_set];omega),list_seg_step L o v r h];rfl
theorem Row.xc{t:TypeId}:∀(a:List Value) (o:Nat) (w:World) (L:List Value),Row w g t L->Row (w.setCells g o a) g t (zv L o a)
 |[],_,_,_,h=>h
 |v::r,o,w,L,h=>Row.xc r (o+1) _ _ (h.set o v)
theorem vR:∀(a:List Value) (o:Nat) (w:World),Ch (aH g) w (w.setCells g o a)
 |[],_,w=>Ch.refl _ w
 |v::r,o,w=>((Ch.refl _ w).only o v).trans (vR r (o+1) _)
theorem rO{P:Program}{α:Type}{enc:α->List Value}{ops:Array Oper}{o:Oper}{a:Act}{w:World}{K:Act->World->Prop}{Q:Exit->Act->World->Prop}{E:Prop}
 (S:o.guard=none) (s x:Operand) (T:TypeId) (Z:o.op=Op.call {callee:=Callee.builtin Builtin.append,args:=#[s,x],argTypes:=#[T,T]})
 (e:TypeId) (A:TypeInfo) (size:Nat) (a2:P.underlying T=some (.slice e)) (U:P.info? e=some A) (a9:A.size=size)
 {l:List α} (f:∀x,(enc x).length=size) (H:∀x,∀v∈enc x,v.oneCell'=true) (B g i n cap:Nat) (am:i<n) (p:n=l.length)
 (a0:a.eval s=.slice (some (g,0)) i cap) (r:Addr) (c G:Nat) (a1:G=n-(i+1)) (a4:a.eval x=.slice (some r) G c) (M:i+1<n->r=⟨g,(i+1)*size,none⟩)
 (Y:w.ownsRow B e size (.slice (some (g,0)) n cap) n (l.flatMap enc))
 (J:∀w',w'.ownsRow B e size (.slice (some (g,0)) (n-1) cap) (n-1) ((l.eraseIdx i).flatMap enc)->Ch (aH g) w w'->K (a.put o.dst (.slice (some (g,0)) (n-1) cap)) w'):
 if Region.wanted o (yielded ops a.tmps)=true then Oper.wp P o a w K Q else E:=by
 subst a1;obtain⟨g',ad,C,O,I,N,X,q,t⟩:=aE Y (by omega);injection O with k bi ab
 injection k with k
 injection k with k
 subst k ab;have D:=aU f l;have b:=aU f (l.drop (i+1));rw[List.length_drop,<-p]at b;have al:n*size<=cap*size:=Nat.mul_le_mul_right _ N;have av:i*size+(n-(i+1))*size+size=n*size:=by
  rw[<-Nat.add_mul,<-Nat.succ_mul];congr 1;omega
 refine step_append_room S s x T Z e A size a2 U a9 g 0 i cap a0 r (n-(i+1)) c ((l.drop (i+1)).flatMap enc) a4 b (fun j u d=> ?_) (fun u a3=> ?_) (by omega) (fun j d=> ?_) ?_
 ·have F:=(List.getElem?_eq_some_iff.1 d).1
  rw[b]at F;have V:i+1<n:=by
   rcases Nat.lt_or_ge (i+1) n with h|h
   ·exact h
   ·rw[show n-(i+1)=0 from by omega]at F;omega
  rw[M V,show(⟨g,(i+1)*size,none⟩:Addr).add j=⟨g,(i+1)*size+j,none⟩from by unfold Addr.add;split<;>simp_all];have ap:(i+1)*size=i*size+size:=Nat.succ_mul _ _;refine q.cell ?_;rw[List.getElem?_append_left (by rw[D,<-p];omega)];rw[<-lJ f,List.getElem?_drop]at d;exact d
 ·obtain⟨y,_,a5⟩:=List.mem_flatMap.1 a3
  exact H y u a5
 ·rw[b]at d
  rw[Nat.zero_add];have W:i*size+j<(l.flatMap enc++C).length:=by rw[t];omega
  exact⟨by rw[q.cell (List.getElem?_eq_getElem W)];rfl,q.free _⟩
 ·have hlen:i+(n-(i+1))=n-1:=by omega
  rw[hlen,Nat.zero_add];refine J _ ?_ (vR _ _ _);have z:=q.xc ((l.drop (i+1)).flatMap enc) (i*size) w;have R:i*size+((l.drop (i+1)).flatMap enc).length<=(l.flatMap enc++C).length:=by rw[b,t];omega
  rw[vQ _ _ _ R,b]at z;have L:(l.flatMap enc++C).take (i*size)=(l.take i).flatMap enc:=by
   rw[List.take_append,jP f,D,<-p,show i*size-n*size=0 from by omega,List.take_zero,List.append_nil]
  rw[L,<-List.flatMap_append,<-List.eraseIdx_eq_take_drop_succ]at z;have m:=aU f (l.eraseIdx i);rw[List.length_eraseIdx_of_lt (by omega),<-p]at m;refine⟨m,Or.inr ⟨g,cap,_,rfl,I,z,by omega,X,?_,?_⟩⟩
  ·rw[List.size_toArray,List.length_append,m,List.length_drop,t]
   have:(n-1)*size=i*size+(n-(i+1))*size:=(by rw[<-Nat.add_mul];congr 1;omega);omega
  ·rw[List.toList_toArray]
   exact List.take_left' m
def mB:List iK->Int->Nat->Option Nat
 |[],_,_=>none
 |x::l,a,i=>if(x.at_:Int)==a then some i else mB l a (i+1)
def m1(S:a8)(M:aI)(a:Int):Bool×a8×aI:=
 match mB S.l a 0 with
 |none=>(false,S,M)
 |some i=>match S.l[i]? with
  |none=>(false,S,M)
  |some x=>((M.gj x.at_ x.n).1,{S with l:=S.l.eraseIdx i},(M.gj x.at_ x.n).2)
def D7(x:Bool×a8×aI)(b m c d:Nat)(v:Value)(w:World)(e:Ending)(w':World):Prop:=
 qh x.1 e/\(∃v',aT w' b m v' x.2.1/\aS w v v')/\aO w' m c d x.2.2/\Ch (lK b v m c d) w w'
theorem kK(b m c d:Nat)(v:Value)(S:a8)(M:aI)(al:S.Ok)(a:Int)(w:World)(h:aT w b m v S)(c9:aO w m c d M):
 Calls prog 87 #[(b,0),a] w (D7 (m1 S M a) b m c d v w):=by
 obtain⟨ci,c7,fd,ch,fn⟩:=info_parts vO;have c2:=Z c7;have cm:=Z h;have cs:=Z c9;have cA:=Z al;obtain⟨cL,n,X⟩:=au h.own;obtain⟨N,ab⟩:=mn S.l.length;have hlen:=al.len;rw[<-ab]at X hlen;have r:=Z ab;have L:=h.head.k 3 rfl;subst X;clear h c9 al ab c7;go_wp2
 go_loopw [13] (fun s wr=>∃k:Nat,s=.int .i64 k/\k<=N/\Hid (mB (S.l.drop k) a k=mB S.l a 0/\Ch ag w wr)) (fun s _=>N-(intOf s).toNat)
 case atStart=>exact⟨0,rfl,Nat.zero_le _,rfl,Ch.refl _ _⟩
 case round=>
  obtain⟨k,rfl,eV,C⟩:=hrel;have K:Hid (aT wr b m (.slice cL N n) S/\aO wr m c d M):=Z ⟨cm.ch C.2 id (fun _ _ h=>h),cs.ch C.2 id id id⟩;by_cases T:k<N
  ·obtain⟨x,Y⟩:∃x,S.l[k]?=some x:=⟨_,List.getElem?_eq_getElem (by rw[<-r];exact T)⟩
   have c6:S.l.drop k=x::S.l.drop (k+1):=by
    obtain⟨cQ,cS⟩:=List.getElem?_eq_some_iff.1 Y;rw[List.drop_eq_getElem_cons cQ,cS]
   have a3:=K.1.own;rw[<-r]at a3;obtain⟨g,cap,g2,G,eL,eS,eW,-,-⟩:=aE a3 (by omega);injection G with bv cl ex
   subst bv ex;obtain⟨a2,c8,dr⟩:=kI a3 iK.len r Y;have et:wr.cell? (g,k*3)=some (.int .i64 x.at_):=a2 0 _ (by omega) rfl;have bv:wr.cell? (g,k*3+1)=some (.int .i64 x.n):=a2 1 _ (by omega) rfl;have cl:wr.cell? (g,k*3+2)=some (.int .i64 x.w):=a2 2 _ (by omega) rfl;have dC:(k:Int)<N:=(by omega);have cC:=Z Y;have c1:=Z c6;have fb:=cA.l x (List.mem_of_getElem? Y);clear a2 Y c6 a3 L;cases G:(x.at_:Int)==a
   ·have cq:Hid (mB (S.l.drop (k+1)) a (k+1)=mB S.l a 0):=Z (by
     rw[<-C.1,c1];show _=if((x.at_:Int)==a)=true then _ else _;rw[G];rfl)
    have dN:((x.at_:Int) !=a)=true:=(by rw[bne,G];rfl);clear G;go_wp2
    go_roundw
    case rel=>exact⟨k+1,by go_num,by omega,cq,C.2.alloc _⟩
    case measure=>simp[intOf];omega
   ·have dN:((x.at_:Int) !=a)=false:=by rw[bne,G];rfl
    have E:Hid (m1 S M a=((M.gj x.at_ x.n).1,{S with l:=S.l.eraseIdx k},(M.gj x.at_ x.n).2)):=Z (by
     have:mB S.l a 0=some k:=by
      rw[<-C.1,c1];show(if((x.at_:Int)==a)=true then _ else _)=_;rw[G];rfl
     unfold m1;rw[this];simp only[cC.out])
    clear G;obtain⟨w1,bi⟩:=nm (wr.alloc (.cells #[.int .i64 x.at_,.int .i64 x.n,.int .i64 x.w] 275));have f:Hid (aT w1 b m (.slice (some (g,0)) N n) S/\aO w1 m c d M/\Ch (lK b (.slice (some (g,0)) N n) m c d) w w1/\Row w1 wr.heap.size 275 x.cells):=Z (by
     rw[<-bi];exact⟨K.1.alloc _,K.2.alloc _,C.2.af.alloc _,Row.new wr _ _⟩)
    have av:Hid (g<wr.heap.size/\b<wr.heap.size):=Z ⟨c8,K.1.head.lt⟩;have c3:=f.1.head.c1;have L:=f.1.head.k 3 rfl;have f3:=f.1.head.free 3;obtain⟨t0,t1⟩:=f.2.2.2.c2;go_wp2
    try rw[bi]
    clear bi et bv cl dr c8;obtain⟨tb,cb⟩:=mn wr.heap.size;rw[<-cb]at f av t0 t1⊢;have ce:g≠tb:=(by have:=av.out;omega);have cd:b≠tb:=(by have:=av.out;omega);clear cb;have am:=f.1.own;rw[<-r]at am;have c5:=Z am;have F:Hid (¬aH g b):=Z (fun e=>aZ f.1.own f.1.head (by decide) (congrArg some (show g=b from Eq.symm e)));have c4:Hid (∀x:iK,∀v∈x.cells,v.oneCell'=true):=Z (fun x v X=>by simp[iK.cells]at X;rcases X with rfl|rfl|rfl<;>rfl);clear am;have i1:(0:Int)<=k:=(by omega);have i2:(k:Int)<=n:=(by omega);have fr:IntKind.i64.wrap ((k:Int)+1)=(k:Int)+1:=IntWalk.i64_in _ (by omega);have fz:(0:Int)<=(k:Int)+1:=(by omega);have ej:(k:Int)+1<=N:=(by omega);have g0:((k:Int)+1).toNat=k+1:=(by omega);have en:k<=n:=(by omega);have es:k+1<=N:=(by omega);by_cases cW:n=k+1
    ·obtain rfl:N=k+1:=by omega
     subst cW;have g1:(k:Int)<=(k:Int)+1:=(by omega);have i10:k<=k+1:=(by omega);clear i2 ej en es;go_region_law (first|(refine rO (by rfl) (.tmp 28) (.tmp 35) 270 (by rfl) 275 ci 3 underlying270 c2 ch iK.len c4 0 g k (k+1) (k+1) T r (by rfl) ⟨g,0,none⟩ 0 0 (by omega) (by rfl) (fun h=>by omega) c5.drew ?_;intro w2 V B;have a4:=Z V;have O:=Z B;have a5:w2.cell? (b,3)=some (.slice (some (g,0)) (k+1) (k+1)):=(B.cell (p:=⟨b,3,none⟩) f.1.head.lt F.out).trans L;have k3:w2.frozen? (b,3)=false:=(B.frozen (p:=⟨b,3,none⟩) f.1.head.lt F.out).trans f3;clear V B))
     all_goals
      obtain⟨j,z⟩:=nm (w2.setCell (b,3) (.slice (some (g,0)) k (k+1)));have o:Hid (aT j b m (.slice (some (g,0)) k (k+1)) {S with l:=S.l.eraseIdx k}/\aO j m c d M/\Ch (lK b (.slice (some (g,0)) (k+1) (k+1)) m c d) w j/\Row j tb 275 x.cells):=Z (by
       have J:=f.1.hq f.2.1;have ad:b≠g:=(fun e=>F.out e);have I:Ch (dF b (.slice (some (g,0)) (k+1) (k+1))) w1 j:=by
        rw[<-z];have a9:Ch (dF b (.slice (some (g,0)) (k+1) (k+1))) w1 w2:=(Ch.refl _ _).drew.trans (O.mono fun i t=>Or.inr (congrArg some (show g=i from Eq.symm t)));exact a9.hj (p:=⟨b,3,none⟩) (Or.inl rfl) _
       refine⟨⟨?_,?_⟩,f.2.1.ch I J.2.1 J.2.2.1 J.2.2.2,f.2.2.1.trans (I.mono fun i t=>Or.inl t),f.2.2.2.ch I ?_⟩
       ·rw[<-z];exact(f.1.head.drew.ch O F.out).bc _ _ rfl
       ·show j.ownsRow 0 275 3 _ (S.l.eraseIdx k).length _
        rw[List.length_eraseIdx_of_lt (by rw[<-r];exact T),<-r,<-z];exact ak (D:=aH b) a4 ay (fun q ap e=>ad (by
         have:g=q:=(by simpa[Value.ownBlock]using ap);rw[this];exact(show q=b from e).symm))
       ·rintro(e|e)
        ·exact cd e.symm
        ·exact ce (by simpa[Value.ownBlock]using e))
      have k0:j.cell? (b,0)=some (.pointer (some (m,0))):=o.1.head.cell (i:=0) rfl;obtain⟨bw,bx⟩:=o.2.2.2.c2;go_wp2
      try rw[z]
      clear z a5 k3 c3 L f3 t0 t1;have Q:=Z (fun w h=>kC m c d M x.at_ x.n (by omega) (by omega) w h);have U:=Z (o.1.hq o.2.1);obtain⟨y,a0⟩:=nm (M.gj x.at_ x.n);rw[a0]at Q E;clear a0;obtain⟨c0,eC⟩:=y;go_still_tail 8,(by kernel_rfl)
      change wpList _ _ _ _ _ j.drew;go_wp2_with fail
      refine(Q _ o.2.1.drew).mono ?_;rintro e a1 ⟨⟨u,rfl,W⟩,R,H⟩;have P:=Z R;have A:Hid (aT a1 b m (.slice (some (g,0)) k (k+1)) {S with l:=S.l.eraseIdx k}/\Ch (lK b (.slice (some (g,0)) (k+1) (k+1)) m c d) w a1):=Z ⟨o.1.drew.ch H U.out.1.1 U.out.1.2,o.2.2.1.drew.trans (H.mono fun i t=>Or.inr t)⟩;clear R H k0 bw bx;cases c0
      ·obtain⟨tt,eA,rfl⟩:ar u:=W
       go_wp2_with (go_at_call 124;refine(fV _ _ _ _).mono ?_;rintro e w' ⟨rfl,rfl⟩)
       go_ret;rw[E];exact⟨⟨_,rfl,ar.mk _ _⟩,⟨_,A.1.alloc _,aS.of_eq rfl⟩,P.alloc _,A.2.alloc _⟩
      ·obtain rfl:u=.nilIface:=W
       go_wp2
       go_ret;rw[E];exact⟨⟨_,rfl,rfl⟩,⟨_,A.1,aS.of_eq rfl⟩,P,A.2⟩
    ·go_region_law (first|(refine rO (by rfl) (.tmp 28) (.tmp 35) 270 (by rfl) 275 ci 3 underlying270 c2 ch iK.len c4 0 g k N n T r (by rfl) ⟨g,(k+1)*3,none⟩ (n-(k+1)) (N-(k+1)) rfl (by rfl) (fun h=>rfl) c5.drew ?_;intro w2 V B;have a4:=Z V;have O:=Z B;have a5:w2.cell? (b,3)=some (.slice (some (g,0)) N n):=(B.cell (p:=⟨b,3,none⟩) f.1.head.lt F.out).trans L;have k3:w2.frozen? (b,3)=false:=(B.frozen (p:=⟨b,3,none⟩) f.1.head.lt F.out).trans f3;clear V B))
     all_goals
      obtain⟨j,z⟩:=nm (w2.setCell (b,3) (.slice (some (g,0)) (N-1) n));have o:Hid (aT j b m (.slice (some (g,0)) (N-1) n) {S with l:=S.l.eraseIdx k}/\aO j m c d M/\Ch (lK b (.slice (some (g,0)) N n) m c d) w j/\Row j tb 275 x.cells):=Z (by
       have J:=f.1.hq f.2.1;have ad:b≠g:=(fun e=>F.out e);have I:Ch (dF b (.slice (some (g,0)) N n)) w1 j:=by
        rw[<-z];have a9:Ch (dF b (.slice (some (g,0)) N n)) w1 w2:=(Ch.refl _ _).drew.trans (O.mono fun i t=>Or.inr (congrArg some (show g=i from Eq.symm t)));exact a9.hj (p:=⟨b,3,none⟩) (Or.inl rfl) _
       refine⟨⟨?_,?_⟩,f.2.1.ch I J.2.1 J.2.2.1 J.2.2.2,f.2.2.1.trans (I.mono fun i t=>Or.inl t),f.2.2.2.ch I ?_⟩
       ·rw[<-z];exact(f.1.head.drew.ch O F.out).bc _ _ rfl
       ·show j.ownsRow 0 275 3 _ (S.l.eraseIdx k).length _
        rw[List.length_eraseIdx_of_lt (by rw[<-r];exact T),<-r,<-z];exact ak (D:=aH b) a4 ay (fun q ap e=>ad (by
         have:g=q:=(by simpa[Value.ownBlock]using ap);rw[this];exact(show q=b from e).symm))
       ·rintro(e|e)
        ·exact cd e.symm
        ·exact ce (by simpa[Value.ownBlock]using e))
      have k0:j.cell? (b,0)=some (.pointer (some (m,0))):=o.1.head.cell (i:=0) rfl;obtain⟨bw,bx⟩:=o.2.2.2.c2;go_wp2
      try rw[z]
      clear z a5 k3 c3 L f3 t0 t1;have Q:=Z (fun w h=>kC m c d M x.at_ x.n (by omega) (by omega) w h);have U:=Z (o.1.hq o.2.1);obtain⟨y,a0⟩:=nm (M.gj x.at_ x.n);rw[a0]at Q E;clear a0;obtain⟨c0,eC⟩:=y;go_still_tail 8,(by kernel_rfl)
      change wpList _ _ _ _ _ j.drew;go_wp2_with fail
      refine(Q _ o.2.1.drew).mono ?_;rintro e a1 ⟨⟨u,rfl,W⟩,R,H⟩;have P:=Z R;have A:Hid (aT a1 b m (.slice (some (g,0)) (N-1) n) {S with l:=S.l.eraseIdx k}/\Ch (lK b (.slice (some (g,0)) N n) m c d) w a1):=Z ⟨o.1.drew.ch H U.out.1.1 U.out.1.2,o.2.2.1.drew.trans (H.mono fun i t=>Or.inr t)⟩;clear R H k0 bw bx;cases c0
      ·obtain⟨tt,eA,rfl⟩:ar u:=W
       go_wp2_with (go_at_call 124;refine(fV _ _ _ _).mono ?_;rintro e w' ⟨rfl,rfl⟩)
       go_ret;rw[E];exact⟨⟨_,rfl,ar.mk _ _⟩,⟨_,A.1.alloc _,aS.of_eq rfl⟩,P.alloc _,A.2.alloc _⟩
      ·obtain rfl:u=.nilIface:=W
       go_wp2
       go_ret;rw[E];exact⟨⟨_,rfl,rfl⟩,⟨_,A.1,aS.of_eq rfl⟩,P,A.2⟩
  ·have dC:¬(k:Int)<N:=by omega
   have E:Hid (m1 S M a=(false,S,M)):=Z (by
    have:mB S.l a 0=none:=(by rw[<-C.1,List.drop_eq_nil_of_le (by rw[<-r];omega)];rfl);unfold m1;rw[this])
   go_wp2_with (go_at_call 124;refine(fV _ _ _ _).mono ?_;rintro e w' ⟨rfl,rfl⟩)
   go_ret;rw[E];exact⟨⟨_,rfl,ar.mk _ _⟩,⟨_,K.1.alloc _,aS.refl _ _⟩,K.2.alloc _,C.2.af.alloc _⟩
