import Derived.Laws.CopyRow
import Derived.Test.YtlihkblppjgebaaGreatDoorZAf
import Derived.Test.YtlihkblppjgebaaGreatDoorZAg
set_option linter.all false
set_option maxRecDepth 100000
set_option maxHeartbeats 8000000
namespace Go.Proofs.YtlihkblppjgebaaGreatDoor
open Go.RowKit Go.Proofs.Tryz
structure ic where
 at_:Nat
 n:Nat
 w:Int
 deriving DecidableEq,Repr,Inhabited
def ic.cells(b:ic):List Value:=[.int .i64 b.at_,.int .i64 b.n,.int .i64 b.w]
theorem ic.len(b:ic):b.cells.length=3:=rfl
structure aZ where
 from_:Nat
 xK:Nat
 l:List ic
structure aR(w:World)(b m:Nat)(v:Value)(S:aZ):Prop where
 head:Row w b 314 [.pointer (some ⟨m,0,none⟩),.int .i64 S.from_,.int .i64 S.xK,v]
 own:w.ownsRow 0 317 3 v S.l.length (S.l.flatMap ic.cells)
def dv(b:Nat)(v:Value):Nat->Prop:=fun i=>i=b∨v.ownBlock=some i
theorem aR.alloc{w:World}{b m:Nat}{v:Value}{S:aZ}(h:aR w b m v S)(a:Obj):aR (w.alloc a) b m v S:=⟨h.head.alloc a,h.own.alloc a⟩
theorem aR.drew{w:World}{b m:Nat}{v:Value}{S:aZ}(h:aR w b m v S):aR w.drew b m v S:=⟨h.head,h.own.drew⟩
theorem aR.drewN{w:World}{b m:Nat}{v:Value}{S:aZ}(h:aR w b m v S)(n:Nat):aR (w.drewN n) b m v S:=⟨h.head,⟨h.own.1,h.own.2⟩⟩
theorem aR.ch{w w':World}{D:Nat->Prop}{b m:Nat}{v:Value}{S:aZ}(h:aR w b m v S)(c:Ch D w w')(hb:¬D b)(a:∀g,v.ownBlock=some g->¬D g):aR w' b m v S:=⟨h.head.ch c hb,ar h.own c a⟩
theorem aS{w:World}{B:Nat}{e:TypeId}{s:Nat}{v:Value}{n:Nat}{a:List Value}(h:w.ownsRow B e s v n a)(m:0<n):∃g cap c,v=.slice (some ⟨g,0,none⟩) n cap/\B<=g/\n<=cap/\cap<=maxLen/\Row w g e (a++c)/\(a++c).length=cap*s:=by
 rcases h.2 with⟨_,l⟩|⟨g,cap,cur,rfl,d,i,f,j,k,b⟩
 ·omega
 ·refine⟨g,cap,cur.toList.drop (n*s),rfl,d,f,j,?_,?_⟩
  ·unfold Row;rw[<-b,List.take_append_drop];simpa using i
  ·rw[<-b,List.take_append_drop];simpa using k
theorem kj{α:Type}{enc:α->List Value}{w:World}{B:Nat}{e:TypeId}{s g n cap:Nat}{l:List α}(h:w.ownsRow B e s (.slice (some ⟨g,0,none⟩) n cap) n (l.flatMap enc))(c:∀x,(enc x).length=s)(C:n=l.length){i:Nat}{x:α}(d:l[i]?=some x):
 (∀j v,j<s->(enc x)[j]?=some v->w.cell? ⟨g,i*s+j,none⟩=some v)/\g<w.heap.size/\(∀j,w.frozen? ⟨g,j,none⟩=false):=by
 have y:=(List.getElem?_eq_some_iff.1 d).1;obtain⟨g',p,D,k,t,u,A,b,z⟩:=aS h (by omega);injection k with a q r
 injection a with a
 injection a with a
 subst a;have f:=a7 c l;refine⟨fun j v hj o=>b.cell ?_,b.lt,fun j=>b.free j⟩;have m:i*s+j<l.length*s:=by
  calc i*s+j<i*s+s:=by omega
   _=(i+1)*s:=by rw[Nat.succ_mul]
   _<=l.length*s:=Nat.mul_le_mul_right _ (by omega)
 rw[List.getElem?_append_left (by rw[f];exact m)];exact(bP c d hj).trans o
def aZ.ee(S:aZ)(i:Nat):Nat:=if i=0 then S.from_ else match S.l[i-1]? with|some x=>x.at_+x.n|none=>0
def aZ.fV(S:aZ)(i:Nat):Nat:=if i=S.l.length then S.xK else match S.l[i]? with|some x=>x.at_|none=>0
structure aZ.Ok(S:aZ):Prop where
 from_:S.from_<=70000
 xK:S.xK<=70000
 l:∀x∈S.l,x.at_<=70000/\x.n<=70000
 len:S.l.length<=900000
theorem pP(b m:Nat)(v:Value)(S:aZ)(a:S.Ok)(i:Nat)(q:i<=S.l.length)(w:World)(h:aR w b m v S):
 Calls prog 150 #[.pointer (some ⟨b,0,none⟩),.int .i64 i] w (fun e w'=>e=.returned (.int .i64 (S.ee i))/\∃k,w'=w.drewN k):=by
 by_cases n:i=0
 ·subst n
  have E:Hid (S.ee 0=S.from_):=Z (by unfold aZ.ee;rw[if_pos rfl]);have r:=h.head.k 1 rfl;clear h;go_enter func150,ntmps150
  go_wp2
  go_ret;rw[E.out];exact⟨rfl,0,rfl⟩
 ·obtain⟨p,rfl⟩:∃p,i=p+1:=⟨i-1,by omega⟩
  obtain⟨x,c⟩:∃x,S.l[p]?=some x:=⟨_,List.getElem?_eq_getElem (by omega)⟩;have E:Hid (S.ee (p+1)=x.at_+x.n):=Z (by unfold aZ.ee;rw[if_neg (by omega),Nat.add_sub_cancel,c]);have G:=a.l x (List.mem_of_getElem? c);obtain⟨g,cap,H,rfl,y,o,C,-,-⟩:=aS h.own (by omega);obtain⟨d,B,A⟩:=kj h.own ic.len rfl c;have I:w.cell? ⟨g,p*3,none⟩=some (.int .i64 x.at_):=d 0 _ (by omega) rfl;have J:w.cell? ⟨g,p*3+1,none⟩=some (.int .i64 x.n):=d 1 _ (by omega) rfl;have l:=h.head.k 3 rfl;obtain⟨N,f⟩:=mn S.l.length;rw[<-f]at l q o;have j:((p+1:Nat):Int)=(p:Int)+1:=by omega
  have z:((p:Int)+1==0)=false:=by rw[beq_eq_false_iff_ne];omega
  have s:IntKind.i64.wrap ((p:Int)+1-1)=(p:Int):=by rw[show(p:Int)+1-1=p from by omega];exact IntWalk.i64_in _ (by have:=a.len;omega)
  have u:IntKind.i64.wrap (p:Int)=(p:Int):=IntWalk.i64_in _ (by have:=a.len;omega);have t:IntKind.i64.wrap ((x.at_:Int)+x.n)=((x.at_:Int)+x.n):=IntWalk.i64_in _ (by omega);have F:(p:Int)<N:=by omega
  have D:(0:Int)<=p:=by omega
  rw[j];clear h c d f j a;go_enter func150,ntmps150
  go_wp2
  go_quiet (fail)
  go_wp2
  go_ret;rw[E.out];exact⟨rfl,_,rfl⟩
theorem m'(b m:Nat)(v:Value)(S:aZ)(j:S.Ok)(i:Nat)(n:i<=S.l.length)(w:World)(h:aR w b m v S):
 Calls prog 151 #[.pointer (some ⟨b,0,none⟩),.int .i64 i] w (d' (.int .i64 (S.fV i)) w):=by
 obtain⟨o,q,d⟩:=aA h.own;have p:=h.head.k 2 rfl;have k:=h.head.k 3 rfl;obtain⟨N,a⟩:=mn S.l.length;by_cases c:i=S.l.length
 ·have E:Hid (S.fV i=S.xK):=Z (by unfold aZ.fV;rw[if_pos c])
  rw[<-a]at c d;subst c;subst d;clear h a;go_enter func151,ntmps151
  go_wp2
  go_ret;exact d'.mk (by rw[E.out];rfl)
 ·obtain⟨x,e⟩:∃x,S.l[i]?=some x:=⟨_,List.getElem?_eq_getElem (by omega)⟩
  have E:Hid (S.fV i=x.at_):=Z (by unfold aZ.fV;rw[if_neg c,e]);obtain⟨g,cap,A,rfl,r,l,z,-,-⟩:=aS h.own (by omega);obtain⟨f,y,t⟩:=kj h.own ic.len rfl e;have B:w.cell? ⟨g,i*3,none⟩=some (.int .i64 x.at_):=f 0 _ (by omega) rfl;rw[<-a]at k n c l;have hlen:=j.len;rw[<-a]at hlen;have s:((i:Int)==(N:Int))=false:=by rw[beq_eq_false_iff_ne];omega
  have u:(i:Int)<N:=by omega
  clear h e f a d j;go_enter func151,ntmps151
  go_wp2
  go_ret;exact d'.mk (by rw[E.out];rfl)
section
attribute [local go_sem↓] Go.wp_at_zero Go.wp_at_succ
theorem na{P:Program}(w:World)(f y ty elem:TypeId)(size g b c k:Nat)(a:Addr)(e x:Nat)(cur:Array Value)(t:TypeId)(cs:List Value)
 (u:P.underlying f=some (.slice elem)) (h:(P.info? elem).map (·.size)=some size)
 (n:w.heap[g]?=some (.cells cur t (0,0))) (q:cs.length=Nat.min e c*size)
 (r:∀j v,cs[j]?=some v->w.cell? (a.add j)=some v) (m:b+cs.length<=cur.size) (l:∀v∈cs,v.oneCell'=true):
 (Builtin.copy_ #[f,y] ty #[.slice (some ⟨g,b,none⟩) c k,.slice (some a) e x]).run P w=
  .ok (goInt (Nat.min e c)) (w.setRow g (cur.toList.take b++cs++cur.toList.drop (b+cs.length)).toArray):=by
 have p:=run_loadCells_list (P:=P) w a cs r;have s:=run_storeCells_at P g b t cs 0 cur w n (by simpa using m) l;cases d:P.info? elem with
 |none=>simp[d]at h
 |some i=>
  have o:i.size=size:=by simpa[d]using h
  simp[Builtin.copy_,run_underlying u,Builtin.lenOf,Builtin.firstCells,sizeOf,typeInfo,d,o,<-q,p,s]
theorem oV(w:World)(g:Nat)(cs:Array Value):Ch (aK g) w (w.setRow g cs):=
 ⟨rfl,rfl,rfl,by simp[World.setRow],fun k b a=>setRow_other w g k cs (fun e=>a e)⟩
theorem ld{α:Type}{enc:α->List Value}{k:Nat}(a:∀x,(enc x).length=k):∀(l:List α) (n:Nat),(l.flatMap enc).drop (n*k)=(l.drop n).flatMap enc
 |[],n=>by simp
 |x::l,0=>by simp
 |x::l,n+1=>by
  rw[List.flatMap_cons,List.drop_succ_cons,Nat.succ_mul,List.drop_append,a,show n*k+k-k=n*k from by omega,ld a l n,List.drop_of_length_le (by rw[a];omega),List.nil_append]
theorem vF{α:Type}{enc:α->List Value}{P:Program}{w:World}{B g cap s:Nat}{e T ty:TypeId}{l:List α}{z:α}{i dC sC:Nat}(F:P.underlying T=some (.slice e))(E:(P.info? e).map (·.size)=some s)
 (a:∀x,(enc x).length=s) (p:∀x,∀v∈enc x,v.oneCell'=true) (K:i<l.length) (h:w.ownsRow B e s (.slice (some ⟨g,0,none⟩) (l.length+1) cap) (l.length+1) ((l++[z]).flatMap enc)):
 ∃w',(Builtin.copy_ #[T,T] ty #[.slice (some ⟨g,(i+1)*s,none⟩) (l.length-i) dC,.slice (some ⟨g,i*s,none⟩) (l.length+1-i) sC]).run P w=.ok (goInt ((l.length-i:Nat):Int)) w'/\
  w'.ownsRow B e s (.slice (some ⟨g,0,none⟩) (l.length+1) cap) (l.length+1) ((l.take (i+1)++l.drop i).flatMap enc)/\Ch (aK g) w w':=by
 obtain⟨g',J,b,y,q,u,D,m,A⟩:=aS h (by omega);injection y with f M I
 injection f with f
 injection f with f
 subst f I;have d:((l++[z]).flatMap enc).length=(l.length+1)*s:=by rw[a7 a];simp
 have c:=a7 a (l.drop i);rw[List.length_drop]at c;have n:Nat.min (l.length+1-i) (l.length-i)=l.length-i:=Nat.min_eq_right (by omega);have o:=na (P:=P) w T T ty e s g ((i+1)*s) (l.length-i) dC ⟨g,i*s,none⟩ (l.length+1-i) sC ((l++[z]).flatMap enc++b).toArray e ((l.drop i).flatMap enc) F E m (by rw[n];exact c) (fun j v hj=>by
  have L:j<(l.length-i)*s:=by rw[<-c];exact(List.getElem?_eq_some_iff.1 hj).1
  rw[show(⟨g,i*s,none⟩:Addr).add j=⟨g,i*s+j,none⟩from by unfold Addr.add;split<;>simp_all];refine m.cell ?_;have hb:i*s+j<l.length*s:=by
   have:i*s+(l.length-i)*s=l.length*s:=(by rw[<-Nat.add_mul];congr 1;omega);omega
  rw[List.getElem?_append_left (by rw[d,Nat.succ_mul];omega),List.flatMap_append,List.getElem?_append_left (by rw[a7 a];exact hb)];rw[<-ld a,List.getElem?_drop]at hj;exact hj) (by
  rw[List.size_toArray,List.length_append,d,c];have:(i+1)*s+(l.length-i)*s=(l.length+1)*s:=by rw[<-Nat.add_mul];congr 1;omega
  omega) (fun v G=>by
  obtain⟨x,_,H⟩:=List.mem_flatMap.1 G;exact p x v H)
 rw[n]at o;refine⟨_,o,?_,oV _ _ _⟩;have k:=setRow_heap w g _ (List.take ((i+1)*s) ((l++[z]).flatMap enc++b).toArray.toList++(l.drop i).flatMap enc++List.drop ((i+1)*s+((l.drop i).flatMap enc).length) ((l++[z]).flatMap enc++b).toArray.toList).toArray e (0,0) m;have t:List.take ((i+1)*s) ((l++[z]).flatMap enc++b)=(l.take (i+1)).flatMap enc:=by
  rw[List.take_append,js a,d,show(i+1)*s-(l.length+1)*s=0 from by have:(i+1)*s<=(l.length+1)*s:=Nat.mul_le_mul_right _ (by omega);omega,List.take_zero,List.append_nil,List.take_append_of_le_length (by omega)]
 have r:List.drop ((i+1)*s+((l.drop i).flatMap enc).length) ((l++[z]).flatMap enc++b)=b:=by
  rw[c,show(i+1)*s+(l.length-i)*s=(l.length+1)*s from by rw[<-Nat.add_mul];congr 1;omega,<-d,List.drop_left'];rfl
 rw[List.toList_toArray]at k;rw[t,r]at k⊢;have C:(l.take (i+1)++l.drop i).length=l.length+1:=by rw[List.length_append,List.length_take,List.length_drop];omega
 have f2:=a7 a (l.take (i+1)++l.drop i);rw[C]at f2;refine⟨f2,Or.inr ⟨g,cap,_,rfl,q,k,u,D,?_,?_⟩⟩
 ·rw[List.size_toArray,<-List.flatMap_append,List.length_append,f2,<-d,<-List.length_append];exact A
 ·rw[List.toList_toArray,<-List.flatMap_append]
  exact List.take_left' f2
theorem nb{P:Program}(w:World)(c n ty elem:TypeId)(d a:Option Addr)(b g f m:Nat)(l:P.underlying c=some (.slice elem))(k:((P.info? elem).map (·.size)).isSome=true)(j:Nat.min f b=0):
 (Builtin.copy_ #[c,n] ty #[.slice d b g,.slice a f m]).run P w=.ok (goInt 0) w:=by
 cases e:P.info? elem with
 |none=>simp[e]at k
 |some i=>
  have h:∀(x:Addr),(loadCells x 0).run P w=.ok #[] w:=fun x=>by simpa using run_loadCells_list (P:=P) w x [] (by simp)
  cases d<;>cases a<;>simp[Builtin.copy_,run_underlying l,Builtin.lenOf,Builtin.firstCells,sizeOf,typeInfo,e,j,storeCells,h]
theorem hI{α:Type}{enc:α->List Value}{w:World}{B g n cap s:Nat}{e:TypeId}{l:List α}(h:w.ownsRow B e s (.slice (some ⟨g,0,none⟩) n cap) n (l.flatMap enc))(c:∀x,(enc x).length=s){i:Nat}{x y:α}(k:l[i]?=some x)(j:Nat)(hj:j<s){a:Nat}(o:a=i*s+j){v:Value}(C:(enc x).set j v=enc y)(f:n=l.length):
 (w.setCell ⟨g,a,none⟩ v).ownsRow B e s (.slice (some ⟨g,0,none⟩) n cap) n ((l.set i y).flatMap enc):=by
 subst o;have H:=(List.getElem?_eq_some_iff.1 k).1;obtain⟨g',F,D,q,m,p,u,z,r⟩:=aS h (by omega);injection q with b I E
 injection b with b
 injection b with b
 subst b E;have d:=a7 c l;have f2:=a7 c (l.set i y);rw[List.length_set]at f2;have t:i*s+j<l.length*s:=by
  have G:i*s+s<=l.length*s:=by rw[<-Nat.succ_mul];exact Nat.mul_le_mul_right _ (by omega)
  omega
 have A:=z.a' (i*s+j) v (l':=(l.set i y).flatMap enc++D) (by
  rw[List.set_append_left _ _ (by rw[d];exact t),fg c k hj C])
 refine⟨by rw[f2,f],Or.inr ⟨g,cap,_,rfl,m,A,p,u,?_,?_⟩⟩
 ·rw[List.size_toArray,List.length_append,f2,<-d,<-List.length_append];exact r
 ·rw[List.toList_toArray,f]
  exact List.take_left' f2
end
section
attribute [local go_sem↓] Go.wp_at_zero Go.wp_at_succ
def aZ.jR(S:aZ)(n:Nat):Nat->Nat->Option Nat
 |0,_=>none
 |f+1,i=>if(S.fV i:Int)-S.ee i<n then aZ.jR S n f (i+1)else some i
def aZ.find(S:aZ)(n:Nat):Option Nat:=S.jR n (S.l.length+1) 0
def c'(S:aZ)(M:aF)(n:Nat):Option Nat×aZ×aF:=
 if n=0∨4096<n then(none,S,M)else
 match S.find n with
 |none=>(none,S,M)
 |some i=>if(M.map (S.ee i) n 64).1=true then(some (S.ee i),{S with l:=S.l.take i++[⟨S.ee i,n,64⟩]++S.l.drop i},(M.map (S.ee i) n 64).2)else(none,S,M)
def lf(b:Nat)(v:Value)(m c d:Nat):Nat->Prop:=fun i=>dv b v i∨dE m c d i
def Cu(x:Option Nat×aZ×aF)(b m c d:Nat)(v:Value)(w:World)(e:Ending)(w':World):Prop:=
 (match x.1 with
  |some a=>e=.returned (.tuple #[.int .i64 a,.nilIface])
  |none=>∃u,e=.returned (.tuple #[.int .i64 0,u])/\aq u)/\(∃f,aR w' b m f x.2.1/\aQ w v f)/\aO w' m c d x.2.2/\Ch (lf b v m c d) w w'
theorem fN(n:Int)(t:TypeId)(x:Value)(w:World):Calls prog 149 #[.int .i64 n,.iface t x] w (fun e w'=>e=.returned (.iface 247 (.pointer (some ⟨w.heap.size,0,none⟩)))/\w.alloc (.cells #[.string ⟨#[97,108,108,111,99]⟩,.int .i64 n,.iface t x] 249)=w'):=by
 go_enter func149,ntmps149
 go_wp2
 go_ret;exact⟨rfl,rfl⟩
theorem vG(w:World)(a b:Nat):(w.drewN a).drewN b=w.drewN (a+b):=by unfold World.drewN;simp[Nat.add_assoc]
theorem uE:(prog.info? 317).map (fun i=>(i.zero,i.size,i.bytes))=some (some (.agg #[.int .i64 0,.int .i64 0,.int .i64 0]),3,24):=by kernel_rfl
theorem aR.gW{w:World}{b m c d:Nat}{v:Value}{S:aZ}{M:aF}(h:aR w b m v S)(a:aO w m c d M):(¬dE m c d b/\∀g,v.ownBlock=some g->¬dE m c d g)/\(¬dv b v m/\¬dv b v c/\¬dv b v d):=by
 refine⟨⟨?_,?_⟩,?_,?_,?_⟩
 ·rintro(e|e|e)
  ·exact h.head.ne a.head (by decide) e
  ·exact h.head.ne a.cells (by decide) e
  ·exact h.head.ne a.width (by decide) e
 ·rintro g f (e|e|e)
  ·exact aY h.own a.head (by decide) (by rw[f,e])
  ·exact aY h.own a.cells (by decide) (by rw[f,e])
  ·exact aY h.own a.width (by decide) (by rw[f,e])
 ·rintro(e|e)
  ·exact h.head.ne a.head (by decide) e.symm
  ·exact aY h.own a.head (by decide) e
 ·rintro(e|e)
  ·exact h.head.ne a.cells (by decide) e.symm
  ·exact aY h.own a.cells (by decide) e
 ·rintro(e|e)
  ·exact h.head.ne a.width (by decide) e.symm
  ·exact aY h.own a.width (by decide) e
theorem aR.app{w w4:World}{b m g cap:Nat}{v:Value}{S:aZ}{z:ic}(h:aR w b m v S)
 (d:w4.ownsRow 0 317 3 (.slice (some ⟨g,0,none⟩) (S.l.length+1) cap) (S.l.length+1) (S.l.flatMap ic.cells++z.cells)) (j:w.grownBy w4 v.ownBlock):
 aR (w4.setCell ⟨b,3,none⟩ (.slice (some ⟨g,0,none⟩) (S.l.length+1) cap)) b m (.slice (some ⟨g,0,none⟩) (S.l.length+1) cap) {S with l:=S.l++[z]}/\
 Ch (dv b v) w (w4.setCell ⟨b,3,none⟩ (.slice (some ⟨g,0,none⟩) (S.l.length+1) cap)):=by
 have c:=Ch.bQ j;have a:=h.head.ch c (aY h.own h.head (by decide));have f:b≠g:=by
  intro e;subst e;exact aY d a (by decide) rfl
 refine⟨⟨a.a' _ _ rfl,?_⟩,(Ch.mono (E:=dv b v) c fun i n=>Or.inr n).gS (p:=⟨b,3,none⟩) (Or.inl rfl) _⟩;have:(S.l++[z]).flatMap ic.cells=S.l.flatMap ic.cells++z.cells:=by simp
 rw[this];show(w4.setCell ⟨b,3,none⟩ _).ownsRow 0 317 3 _ (S.l++[z]).length _
 rw[List.length_append,List.length_cons,List.length_nil];exact ar (D:=aK b) d ((Ch.refl _ _).only 3 (.slice (some ⟨g,0,none⟩) (S.l.length+1) cap)) (fun k o e=>by
  have:g=k:=by simpa[Value.ownBlock]using o
  subst this;exact f (show _=_ from e.symm))
def ic.zero:ic:=⟨0,0,0⟩
theorem aR.lay{w:World}{b m g n cap:Nat}{S:aZ}{l:List ic}(h:aR w b m (.slice (some ⟨g,0,none⟩) n cap) {S with l:=l})(c:n=l.length){i:Nat}(f:i<l.length)(x:ic){i1 i2:Nat}(o:i1=i*3+1)(p:i2=i*3+2):
 aR (((w.setCell ⟨g,i*3,none⟩ (.int .i64 x.at_)).setCell ⟨g,i1,none⟩ (.int .i64 x.n)).setCell ⟨g,i2,none⟩ (.int .i64 x.w)) b m (.slice (some ⟨g,0,none⟩) n cap) {S with l:=l.set i x}:=by
 obtain⟨y,q⟩:∃y,l[i]?=some y:=⟨_,List.getElem?_eq_getElem f⟩;have d:b≠g:=fun e=>aY h.own h.head (by decide) (by rw[e];rfl)
 have j:=h.own;rw[show({S with l:=l}:aZ).l=l from rfl,<-c]at j;have r:=hI j ic.len q 0 (by omega) (a:=i*3) (by omega) (v:=.int .i64 x.at_) (y:=⟨x.at_,y.n,y.w⟩) rfl c;have s:=hI r ic.len (x:=⟨x.at_,y.n,y.w⟩) (by simp[f]) 1 (by omega) o (v:=.int .i64 x.n) (y:=⟨x.at_,x.n,y.w⟩) rfl (by simpa using c);have k:=hI s ic.len (x:=⟨x.at_,x.n,y.w⟩) (by simp[f]) 2 (by omega) p (v:=.int .i64 x.w) (y:=x) rfl (by simpa using c);rw[List.set_set,List.set_set]at k;refine⟨((h.head.other d _).other d _).other d _,?_⟩;show World.ownsRow _ 0 317 3 _ (l.set i x).length _
 rw[List.length_set,<-c];exact k
theorem ye{α:Type}(l:List α)(k:Nat)(x:α)(a:k<l.length):(l.take (k+1)++l.drop k).set k x=l.take k++[x]++l.drop k:=by
 rw[List.take_succ_eq_append_getElem a,List.append_assoc,List.append_assoc,List.set_append_right _ _ (by rw[List.length_take];omega)]
 congr 1
 rw[List.length_take,Nat.min_eq_left (by omega),Nat.sub_self];rfl
theorem uF{α:Type}(l:List α)(z x:α){k:Nat}(a:k=l.length):(l++[z]).set k x=l.take k++[x]++l.drop k:=by subst a;simp
theorem kk(b m c d:Nat)(v:Value)(S:aZ)(M:aF)(ap:S.Ok)(n:Nat)(ho:n<=1000000)(w:World)(h:aR w b m v S)(c6:aO w m c d M):
 Calls prog 113 #[.pointer (some ⟨b,0,none⟩),.int .i64 n,.int .i64 64] w (Cu (c' S M n) b m c d v w):=by
 obtain⟨gC,en,gt,eL,gA⟩:=info_parts uE;have c0:=Z en;have H:=Z h;have cb:=Z c6;have cd:=Z ap;clear en;by_cases c1:n=0
 ·have E:Hid (c' S M n=(none,S,M)):=Z (by unfold c';rw[if_pos (Or.inl c1)])
  subst c1;clear h c6 ap;go_enter func113,ntmps113
  go_wp2_with (go_at_call 149;refine(fN _ _ _ _).mono ?_;rintro e w' ⟨rfl,rfl⟩)
  go_ret2;rw[E.out];exact⟨⟨_,rfl,aq.mk _ _⟩,⟨v,H.out.alloc _,aQ.refl _ _⟩,cb.out.alloc _,(Ch.refl _ _).alloc _⟩
 by_cases ad:4096<n
 ·have E:Hid (c' S M n=(none,S,M)):=Z (by unfold c';rw[if_pos (Or.inr ad)])
  have gL:(4096:Int)<n:=by omega
  have fd:¬((n:Int)<1):=by omega
  clear h c6 ap c1;go_enter func113,ntmps113
  go_wp2_with (go_at_call 149;refine(fN _ _ _ _).mono ?_;rintro e w' ⟨rfl,rfl⟩)
  go_ret2;rw[E.out];exact⟨⟨_,rfl,aq.mk _ _⟩,⟨v,H.out.alloc _,aQ.refl _ _⟩,cb.out.alloc _,(Ch.refl _ _).alloc _⟩
 have E:Hid (c' S M n=match S.find n with
  |none=>(none,S,M)
  |some i=>if(M.map (S.ee i) n 64).1=true then(some (S.ee i),{S with l:=S.l.take i++[⟨S.ee i,n,64⟩]++S.l.drop i},(M.map (S.ee i) n 64).2)else(none,S,M)):=Z (by unfold c';rw[if_neg (by omega)])
 have fd:¬((n:Int)<1):=by omega
 have gR:¬((4096:Int)<n):=by omega
 obtain⟨G,I,av⟩:=aA h.own;obtain⟨N,c2⟩:=mn S.l.length;rw[<-c2]at av;have F:=Z c2;have he:N<=900000:=by rw[c2];exact ap.len
 subst av;clear h c6 ap c2 c1;go_enter func113,ntmps113
 go_wp2
 go_loopw [8] (fun s wr=>∃k:Nat,s=.int .i64 k/\k<=N+1/\Hid (S.jR n (N+1-k) k=S.find n/\∃q,wr=w.drewN q)) (fun s _=>N+1-(intOf s).toNat)
 case atStart=>exact⟨0,rfl,Nat.zero_le _,by rw[F.out];rfl,0,rfl⟩
 case round=>
  obtain⟨k,rfl,hm,a3⟩:=hrel;have V:Hid (aR wr b m (.slice G N I) S/\aO wr m c d M/\Ch (lf b (.slice G N I) m c d) w wr):=Z (by
   obtain⟨q,rfl⟩:=a3.out.2;exact⟨H.out.drewN q,cb.out.drewN q,(Ch.refl _ _).drewN q⟩)
  have dr:=V.out.1.head.k 3 rfl;by_cases es:k<=N
  ·have gk:(k:Int)<=N:=by omega
   have c8:Hid (S.jR n (N+1-k) k=if(S.fV k:Int)-S.ee k<n then S.jR n (N+1-(k+1)) (k+1)else some k):=Z (by
    rw[show N+1-k=(N+1-(k+1))+1 from by omega,aZ.jR])
   have gs:S.ee k<=140000/\S.fV k<=140000:=by
    have c3:=cd.out;have hj:=c3.from_;have hq:=c3.xK;refine⟨?_,?_⟩
    ·unfold aZ.ee
     split
     ·omega
     ·split
      ·rename_i x bi;have:=c3.l x (List.mem_of_getElem? bi);omega
      ·omega
    ·unfold aZ.fV
     split
     ·omega
     ·split
      ·rename_i x bi;have:=c3.l x (List.mem_of_getElem? bi);omega
      ·omega
   obtain⟨a,c4⟩:=mn (S.ee k);obtain⟨st,cA⟩:=mn (S.fV k);have eS:Hid (∀w,aR w b m (.slice G N I) S->Calls prog 150 #[.pointer (some ⟨b,0,none⟩),.int .i64 k] w (fun e w'=>e=.returned (.int .i64 a)/\∃q,w'=w.drewN q)):=Z (fun w h=>by rw[c4];exact pP b m _ S cd.out k (by rw[<-F.out];exact es) w h);have ce:Hid (∀w,aR w b m (.slice G N I) S->Calls prog 151 #[.pointer (some ⟨b,0,none⟩),.int .i64 k] w (d' (.int .i64 st) w)):=Z (fun w h=>by rw[cA];exact m' b m _ S cd.out k (by rw[<-F.out];exact es) w h);rw[<-c4,<-cA]at c8 gs;have cS:=Z c4;clear c4 cA;go_wp2_with fail
   refine(eS.out _ V.out.1).mono ?_;rintro e w1 ⟨rfl,eC⟩;have C:Hid (aR w1 b m (.slice G N I) S/\aO w1 m c d M/\Ch (lf b (.slice G N I) m c d) w w1/\∃q,w1=w.drewN q):=Z (by
    obtain⟨q,rfl⟩:=eC;obtain⟨c7,rfl⟩:=a3.out.2;exact⟨V.out.1.drewN q,V.out.2.1.drewN q,V.out.2.2.drewN q,c7+q,vG _ _ _⟩)
   have d0:=C.out.1.head.c1;clear eC dr;by_cases ex:(st:Int)-a<n
   ·have bw:Hid (S.jR n (N+1-(k+1)) (k+1)=S.find n):=Z (by rw[<-a3.out.1,c8.out,if_pos ex])
    go_wp2_with (go_at_call 151;refine(ce.out _ C.out.1).mono ?_;rintro e w' ⟨rfl,rfl⟩)
    go_roundw
    case rel=>exact⟨k+1,by go_num,by omega,bw.out,C.out.2.2.2⟩
    case measure=>simp[intOf];omega
   ·have bw:Hid (S.find n=some k):=Z (by rw[<-a3.out.1,c8.out,if_neg ex])
    cases R:(M.map a n 64).1
    ·have U:Hid (c' S M n=(none,S,M)):=Z (by rw[E.out,bw.out];simp only[<-cS.out,R];rfl)
     have a2:=Z (fun w h=>fh m c d M a n (by omega) (by omega) w h);have eA:(M.map a n 64).2=M:=(by unfold aF.map at R⊢;split at R;cases R;rename_i fn;rw[if_neg fn]);rw[show M.map a n 64=(false,M)from Prod.ext R eA]at a2;clear R eA;go_wp2_with (first|(go_at_call 151;refine(ce.out _ C.out.1).mono ?_;rintro e w' ⟨rfl,rfl⟩)|(go_at_call 109;refine(a2.out _ C.out.2.1).mono ?_;rintro e w2 ⟨⟨u,rfl,cC⟩,O,a1⟩;obtain⟨tt,hu,rfl⟩:=cC;have eU:=Z O;have cW:=Z a1;clear O a1)|(go_at_call 149;refine(fN _ _ _ _).mono ?_;rintro e w' ⟨rfl,rfl⟩))
     go_ret2;rw[U.out];have f:=C.out.1.gW C.out.2.1;exact⟨⟨_,rfl,aq.mk _ _⟩,⟨_,(C.out.1.ch cW.out f.1.1 f.1.2).alloc _,aQ.refl _ _⟩,eU.out.alloc _,(C.out.2.2.1.trans (cW.out.mono fun i r=>Or.inr r)).alloc _⟩
    ·have U:Hid (c' S M n=(some a,{S with l:=S.l.take k++[⟨a,n,64⟩]++S.l.drop k},(M.map a n 64).2)):=Z (by rw[E.out,bw.out];simp only[<-cS.out,R];rfl)
     have a2:=Z (fun w h=>fh m c d M a n (by omega) (by omega) w h);obtain⟨ab,O⟩:=nm ((M.map a n 64).2);rw[show M.map a n 64=(true,ab)from Prod.ext R O]at a2;rw[O]at U;clear R O;go_wp2_with (first|(go_at_call 151;refine(ce.out _ C.out.1).mono ?_;rintro e w' ⟨rfl,rfl⟩)|fail)
     refine(a2.out _ C.out.2.1).mono ?_;rintro e w2 ⟨⟨u,rfl,cC⟩,O,a1⟩;obtain rfl:u=.nilIface:=cC;have f:=C.out.1.gW C.out.2.1;have A:Hid (aR w2 b m (.slice G N I) S/\aO w2 m c d ab/\Ch (lf b (.slice G N I) m c d) w w2):=Z ⟨C.out.1.ch a1 f.1.1 f.1.2,O,C.out.2.2.1.trans (a1.mono fun i r=>Or.inr r)⟩;clear O a1 f d0;have d3:=A.out.1.head.k 3 rfl;have dN:=A.out.1.head.free 3;have cm:=A.out.1.own;rw[<-F.out]at cm;have eW:=Z cm;clear cm;go_wp2_with (at_builtin;refine wpList_append_lies _ rfl _ _ _ rfl 0 317 gC _ 3 24 underlying312 c0.out gt eL gA rfl (by omega) _ N (S.l.flatMap ic.cells) rfl (eW.out.alloc _) ⟨w2.heap.size,0,none⟩ 1 1 [.int .i64 0,.int .i64 0,.int .i64 0] rfl rfl (World.news_of_block (cs:=#[.int .i64 0,.int .i64 0,.int .i64 0]) (t:=317) (fr:=(0,0)) (heap_alloc_new w2 _)) (by simp[Value.oneCell']) (by omega) (by unfold maxLen;omega) (by omega) (by simp) (w2.heap.size+1) (by simp) ?_)
     intro g cap w4 cq c5 ci gp;have a0:=A.out.1.app (z:=ic.zero) (by rw[<-F.out];exact cq) (ax c5);rw[<-F.out]at a0;have f:=A.out.1.gW A.out.2.1;obtain⟨j,cL⟩:=nm (w4.setCell ⟨b,3,none⟩ (.slice (some ⟨g,0,none⟩) (N+1) cap));have fb:w4.cell? ⟨b,3,none⟩=some (.slice G N I):=((Ch.bQ (ax c5)).cell (p:=⟨b,3,none⟩) A.out.1.head.lt (aY A.out.1.own A.out.1.head (by decide))).trans d3;have k3:w4.frozen? ⟨b,3,none⟩=false:=((Ch.bQ (ax c5)).frozen (p:=⟨b,3,none⟩) A.out.1.head.lt (aY A.out.1.own A.out.1.head (by decide))).trans dN;rw[cL]at a0;have e1:∀i,i<w.heap.size->dv b (.slice (some ⟨g,0,none⟩) (N+1) cap) i->dv b (.slice G N I) i:=fun i r bi=>by
      rcases bi with ad|ad
      ·exact Or.inl ad
      ·have fz:g=i:=by simpa[Value.ownBlock]using ad
       rcases ci with al|al
       ·exact Or.inr (by rw[al,fz])
       ·have:=A.out.2.2.size;omega
     have c9:Hid (aQ w (.slice G N I) (.slice (some ⟨g,0,none⟩) (N+1) cap)):=Z (aQ.at (by
      rcases ci with al|al
      ·exact Or.inl (by rw[al])
      ·have:=A.out.2.2.size;exact Or.inr (by omega)))
     have B:Hid (aR j b m (.slice (some ⟨g,0,none⟩) (N+1) cap) {S with l:=S.l++[ic.zero]}/\aO j m c d ab/\Ch (lf b (.slice G N I) m c d) w j/\(∀i,i<w.heap.size->dv b (.slice (some ⟨g,0,none⟩) (N+1) cap) i->dv b (.slice G N I) i)):=Lib.hid
      ⟨a0.1,A.out.2.1.ch a0.2 f.2.1 f.2.2.1 f.2.2.2,A.out.2.2.trans (a0.2.mono fun i r=>Or.inl r),e1⟩
     have hi:N+1<=cap:=by
      obtain⟨_,_,_,X,_,hf,_⟩:=aS cq (by omega);injection X with c7 eO hr
      omega
     clear a0 f e1 c5 ci gp d3 dN cq;go_wp2_with fail
     try rw[cL]
     clear cL fb k3;have dr:=B.out.1.head.k 3 rfl;by_cases et:k<N
     ·have hn:k+1<cap:=by omega
      have cl:=B.out.1.own.drew;rw[show({S with l:=S.l++[ic.zero]}:aZ).l=S.l++[ic.zero]from rfl,List.length_append,List.length_cons,List.length_nil,Nat.zero_add,F.out]at cl;obtain⟨L,ct,K,ch⟩:=vF (P:=prog) (T:=312) (ty:=3) (dC:=cap-(k+1)) (sC:=cap-k) underlying312 (by rw[c0.out];simp[eL]) ic.len (fun x v av=>by simp[ic.cells]at av;rcases av with rfl|rfl|rfl<;>rfl) (by rw[<-F.out];exact et) cl;rw[<-F.out]at ct K;clear cl;have o:Hid (aR L b m (.slice (some ⟨g,0,none⟩) (N+1) cap) {S with l:=S.l.take (k+1)++S.l.drop k}/\aO L m c d ab/\Ch (dv b (.slice (some ⟨g,0,none⟩) (N+1) cap)) j L):=Z (by
       have f:=B.out.1.gW B.out.2.1;have ec:Ch (dv b (.slice (some ⟨g,0,none⟩) (N+1) cap)) j L:=(Ch.refl _ _).drew.trans (ch.mono fun i r=>Or.inr (congrArg some (show g=i from Eq.symm r)));refine⟨⟨B.out.1.head.drew.ch ch (fun e=>aY B.out.1.own B.out.1.head (by decide) (congrArg some (show g=b from Eq.symm e))),?_⟩,B.out.2.1.ch ec f.2.1 f.2.2.1 f.2.2.2,ec⟩;show L.ownsRow 0 317 3 _ (S.l.take (k+1)++S.l.drop k).length _
       rw[List.length_append,List.length_take,List.length_drop,<-F.out,show min (k+1) N+(N-k)=N+1 from by omega];exact K)
      clear K ch;have J:(S.l.take (k+1)++S.l.drop k).length=N+1:=(by rw[List.length_append,List.length_take,List.length_drop,<-F.out];omega);obtain⟨Y,bv⟩:∃y,(S.l.take (k+1)++S.l.drop k)[k]?=some y:=⟨_,List.getElem?_eq_getElem (by rw[J];omega)⟩;have K:=o.out.1.own;rw[show({S with l:=S.l.take (k+1)++S.l.drop k}:aZ).l=S.l.take (k+1)++S.l.drop k from rfl,J]at K;obtain⟨Q,go,fo⟩:=kj K ic.len J.symm bv;have gJ:L.cell? ⟨g,k*3,none⟩=some (.int .i64 Y.at_):=Q 0 _ (by omega) rfl;have c7:L.cell? ⟨g,k*3+1,none⟩=some (.int .i64 Y.n):=Q 1 _ (by omega) rfl;have eO:L.cell? ⟨g,k*3+2,none⟩=some (.int .i64 Y.w):=Q 2 _ (by omega) rfl;have eY:L.cell? ⟨b,3,none⟩=some (.slice (some ⟨g,0,none⟩) (N+1) cap):=o.out.1.head.cell (i:=3) rfl;have W:=Z J;have gr:(k:Int)<(N:Int)+1:=(by omega);clear Q bv K J;have fK:(k:Int)+1<=(N:Int)+1:=(by omega);have fT:(0:Int)<=(k:Int)+1:=(by omega);have g2:IntKind.i64.wrap ((k:Int)+1)=(k:Int)+1:=IntWalk.i64_in _ (by omega);have g4:((k:Int)+1).toNat=k+1:=(by omega);have gb:(k:Int)<=(N:Int)+1:=(by omega);have gc:k<cap:=(by omega);have ge:¬cap=k:=(by omega);have gf:¬cap=k+1:=(by omega);have fE:k<=N+1:=(by omega);go_wp2
      go_still_tail 13,(by kernel_rfl)
      change wpList _ _ _ _ _ j.drew;go_wp2
      go_ret2;rw[U.out];refine⟨rfl,⟨.slice (some ⟨g,0,none⟩) (N+1) cap,?_,c9.out⟩,?_,?_⟩
      ·have:=o.out.1.lay W.out.symm (i:=k) (by rw[W.out];omega) ⟨a,n,64⟩ (i1:=k*3+1) (i2:=k*3+2) rfl rfl
       rw[ye _ _ _ (by rw[<-F.out];exact et)]at this;exact this
      ·have f:=o.out.1.gW o.out.2.1
       exact o.out.2.1.ch (D:=aK g) ((((Ch.refl _ _).only _ _).only _ _).only _ _) (fun e=>f.2.1 (Or.inr (congrArg some (show g=m from Eq.symm e)))) (fun e=>f.2.2.1 (Or.inr (congrArg some (show g=c from Eq.symm e)))) (fun e=>f.2.2.2 (Or.inr (congrArg some (show g=d from Eq.symm e))))
      ·have am:Ch (dv b (.slice (some ⟨g,0,none⟩) (N+1) cap)) L _:=Ch.mono (D:=aK g) ((((Ch.refl _ L).only (k*3) (.int .i64 a)).only (k*3+1) (.int .i64 n)).only (k*3+2) (.int .i64 64)) (fun i r=>Or.inr (congrArg some (show g=i from Eq.symm r)))
       exact B.out.2.2.1.join (o.out.2.2.trans am) (fun i r X=>Or.inl (B.out.2.2.2 i r X))
     ·obtain rfl:k=N:=by omega
      have o:Hid (aR j b m (.slice (some ⟨g,0,none⟩) (k+1) cap) {S with l:=S.l++[ic.zero]}/\aO j m c d ab/\Ch (dv b (.slice (some ⟨g,0,none⟩) (k+1) cap)) j j):=Z ⟨B.out.1,B.out.2.1,Ch.refl _ _⟩;have J:(S.l++[ic.zero]).length=k+1:=(by rw[List.length_append,List.length_cons,List.length_nil,<-F.out]);obtain⟨Y,bv⟩:∃y,(S.l++[ic.zero])[k]?=some y:=⟨_,List.getElem?_eq_getElem (by rw[J];omega)⟩;have K:=o.out.1.own;rw[show({S with l:=S.l++[ic.zero]}:aZ).l=S.l++[ic.zero]from rfl,J]at K;obtain⟨Q,go,fo⟩:=kj K ic.len J.symm bv;have gJ:j.cell? ⟨g,k*3,none⟩=some (.int .i64 Y.at_):=Q 0 _ (by omega) rfl;have c7:j.cell? ⟨g,k*3+1,none⟩=some (.int .i64 Y.n):=Q 1 _ (by omega) rfl;have eO:j.cell? ⟨g,k*3+2,none⟩=some (.int .i64 Y.w):=Q 2 _ (by omega) rfl;have eY:j.cell? ⟨b,3,none⟩=some (.slice (some ⟨g,0,none⟩) (k+1) cap):=o.out.1.head.cell (i:=3) rfl;have W:=Z J;have gr:(k:Int)<(k:Int)+1:=(by omega);clear Q bv K J;have fK:(k:Int)+1<=(k:Int)+1:=(by omega);have fT:(0:Int)<=(k:Int)+1:=(by omega);have g2:IntKind.i64.wrap ((k:Int)+1)=(k:Int)+1:=IntWalk.i64_in _ (by omega);have g4:((k:Int)+1).toNat=k+1:=(by omega);have gb:(k:Int)<=(k:Int)+1:=(by omega);have gc:k<cap:=(by omega);have ge:¬cap=k:=(by omega);have fE:k<=k+1:=(by omega);by_cases gf:cap=k+1
      ·skip
       have ct:∀(d a:Option Addr) (dC sC:Nat),(Builtin.copy_ #[312,312] 3 #[.slice d 0 dC,.slice a 1 sC]).run prog j.drew=.ok (goInt 0) j.drew:=(fun d a dC sC=>nb j.drew _ _ _ _ d a 0 dC 1 sC underlying312 (by rw[c0.out];rfl) rfl);go_wp2
       go_still_tail 13,(by kernel_rfl)
       change wpList _ _ _ _ _ j.drew;go_wp2
       go_ret2;rw[U.out];refine⟨rfl,⟨.slice (some ⟨g,0,none⟩) (k+1) cap,?_,c9.out⟩,?_,?_⟩
       ·have:=o.out.1.lay W.out.symm (i:=k) (by rw[W.out];omega) ⟨a,n,64⟩ (i1:=k*3+1) (i2:=k*3+2) rfl rfl
        rw[uF _ _ _ F.out]at this;exact this.drew
       ·have f:=o.out.1.gW o.out.2.1
        exact o.out.2.1.ch (D:=aK g) ((((Ch.refl _ _).only _ _).only _ _).only _ _).drew (fun e=>f.2.1 (Or.inr (congrArg some (show g=m from Eq.symm e)))) (fun e=>f.2.2.1 (Or.inr (congrArg some (show g=c from Eq.symm e)))) (fun e=>f.2.2.2 (Or.inr (congrArg some (show g=d from Eq.symm e))))
       ·have am:Ch (dv b (.slice (some ⟨g,0,none⟩) (k+1) cap)) j _:=Ch.mono (D:=aK g) ((((Ch.refl _ j).only (k*3) (.int .i64 a)).only (k*3+1) (.int .i64 n)).only (k*3+2) (.int .i64 64)).drew (fun i r=>Or.inr (congrArg some (show g=i from Eq.symm r)))
        exact B.out.2.2.1.join (o.out.2.2.trans am) (fun i r X=>Or.inl (B.out.2.2.2 i r X))
      ·skip
       have ct:∀(d a:Option Addr) (dC sC:Nat),(Builtin.copy_ #[312,312] 3 #[.slice d 0 dC,.slice a 1 sC]).run prog j.drew=.ok (goInt 0) j.drew:=(fun d a dC sC=>nb j.drew _ _ _ _ d a 0 dC 1 sC underlying312 (by rw[c0.out];rfl) rfl);go_wp2
       go_still_tail 13,(by kernel_rfl)
       change wpList _ _ _ _ _ j.drew;go_wp2
       go_ret2;rw[U.out];refine⟨rfl,⟨.slice (some ⟨g,0,none⟩) (k+1) cap,?_,c9.out⟩,?_,?_⟩
       ·have:=o.out.1.lay W.out.symm (i:=k) (by rw[W.out];omega) ⟨a,n,64⟩ (i1:=k*3+1) (i2:=k*3+2) rfl rfl
        rw[uF _ _ _ F.out]at this;exact this.drew
       ·have f:=o.out.1.gW o.out.2.1
        exact o.out.2.1.ch (D:=aK g) ((((Ch.refl _ _).only _ _).only _ _).only _ _).drew (fun e=>f.2.1 (Or.inr (congrArg some (show g=m from Eq.symm e)))) (fun e=>f.2.2.1 (Or.inr (congrArg some (show g=c from Eq.symm e)))) (fun e=>f.2.2.2 (Or.inr (congrArg some (show g=d from Eq.symm e))))
       ·have am:Ch (dv b (.slice (some ⟨g,0,none⟩) (k+1) cap)) j _:=Ch.mono (D:=aK g) ((((Ch.refl _ j).only (k*3) (.int .i64 a)).only (k*3+1) (.int .i64 n)).only (k*3+2) (.int .i64 64)).drew (fun i r=>Or.inr (congrArg some (show g=i from Eq.symm r)))
        exact B.out.2.2.1.join (o.out.2.2.trans am) (fun i r X=>Or.inl (B.out.2.2.2 i r X))
  ·have gk:¬((k:Int)<=N):=by omega
   have U:Hid (c' S M n=(none,S,M)):=Z (by
    rw[E.out,<-a3.out.1,show N+1-k=0 from by omega];rfl)
   go_wp2_with (go_at_call 149;refine(fN _ _ _ _).mono ?_;rintro e w' ⟨rfl,rfl⟩)
   go_ret2;rw[U.out];exact⟨⟨_,rfl,aq.mk _ _⟩,⟨_,V.out.1.alloc _,aQ.refl _ _⟩,V.out.2.1.alloc _,V.out.2.2.alloc _⟩
end
section
attribute [local go_sem↓] Go.wp_at_zero Go.wp_at_succ
def yf:List Value->Nat->List Value->List Value
 |L,_,[]=>L
 |L,a,v::r=>yf (L.set a v) (a+1) r
theorem uG:∀(b:List Value) (L:List Value) (a:Nat),a+b.length<=L.length->yf L a b=L.take a++b++L.drop (a+b.length)
 |[],L,a,_=>by simp[yf]
 |v::r,L,a,h=>by
  rw[List.length_cons]at h;rw[yf,uG r (L.set a v) (a+1) (by rw[List.length_set];omega),list_seg_step L a v r h];rfl
theorem Row.vH{g:Nat}{t:TypeId}:∀(b:List Value) (a:Nat) (w:World) (L:List Value),Row w g t L->Row (w.setCells g a b) g t (yf L a b)
 |[],_,_,_,h=>h
 |v::r,a,w,L,h=>Row.vH r (a+1) _ _ (h.set a v)
theorem uH{g:Nat}:∀(b:List Value) (a:Nat) (w:World),Ch (aK g) w (w.setCells g a b)
 |[],_,w=>Ch.refl _ w
 |v::r,a,w=>((Ch.refl _ w).only a v).trans (uH r (a+1) _)
theorem q1{P:Program}{α:Type}{enc:α->List Value}{ops:Array Oper}{f:Oper}{a:Act}{w:World}{K:Act->World->Prop}{Q:Exit->Act->World->Prop}{E:Prop}
 (R:f.guard=none) (s x:Operand) (T:TypeId) (Gf:f.op=Op.call {callee:=Callee.builtin Builtin.append,args:=#[s,x],argTypes:=#[T,T]})
 (e:TypeId) (z:TypeInfo) (size:Nat) (a0:P.underlying T=some (.slice e)) (S:P.info? e=some z) (ab:z.size=size)
 {l:List α} (d:∀x,(enc x).length=size) (G:∀x,∀v∈enc x,v.oneCell'=true) (B g i n cap:Nat) (ap:i<n) (o:n=l.length)
 (Y:a.eval s=.slice (some ⟨g,0,none⟩) i cap) (q:Addr) (c F:Nat) (Z:F=n-(i+1)) (a2:a.eval x=.slice (some q) F c) (L:i+1<n->q=⟨g,(i+1)*size,none⟩)
 (X:w.ownsRow B e size (.slice (some ⟨g,0,none⟩) n cap) n (l.flatMap enc))
 (I:∀w',w'.ownsRow B e size (.slice (some ⟨g,0,none⟩) (n-1) cap) (n-1) ((l.eraseIdx i).flatMap enc)->Ch (aK g) w w'->K (a.put f.dst (.slice (some ⟨g,0,none⟩) (n-1) cap)) w'):
 if Region.wanted f (yielded ops a.tmps)=true then Oper.wp P f a w K Q else E:=by
 subst Z;obtain⟨g',al,A,N,H,M,W,p,r⟩:=aS X (by omega);injection N with k bv ad
 injection k with k
 injection k with k
 subst k ad;have C:=a7 d l;have b:=a7 d (l.drop (i+1));rw[List.length_drop,<-o]at b;have am:n*size<=cap*size:=Nat.mul_le_mul_right _ M;have bi:i*size+(n-(i+1))*size+size=n*size:=by
  rw[<-Nat.add_mul,<-Nat.succ_mul];congr 1;omega
 refine step_append_room R s x T Gf e z size a0 S ab g 0 i cap Y q (n-(i+1)) c ((l.drop (i+1)).flatMap enc) a2 b (fun j u hj=> ?_) (fun u a1=> ?_) (by omega) (fun j hj=> ?_) ?_
 ·have D:=(List.getElem?_eq_some_iff.1 hj).1
  rw[b]at D;have U:i+1<n:=by
   rcases Nat.lt_or_ge (i+1) n with h|h
   ·exact h
   ·rw[show n-(i+1)=0 from by omega]at D;omega
  rw[L U,show(⟨g,(i+1)*size,none⟩:Addr).add j=⟨g,(i+1)*size+j,none⟩from by unfold Addr.add;split<;>simp_all];have av:(i+1)*size=i*size+size:=Nat.succ_mul _ _;refine p.cell ?_;rw[List.getElem?_append_left (by rw[C,<-o];omega)];rw[<-ld d,List.getElem?_drop]at hj;exact hj
 ·obtain⟨y,_,a3⟩:=List.mem_flatMap.1 a1
  exact G y u a3
 ·rw[b]at hj
  rw[Nat.zero_add];have V:i*size+j<(l.flatMap enc++A).length:=by rw[r];omega
  exact⟨by rw[p.cell (List.getElem?_eq_getElem V)];rfl,p.free _⟩
 ·have hlen:i+(n-(i+1))=n-1:=by omega
  rw[hlen,Nat.zero_add];refine I _ ?_ (uH _ _ _);have t:=p.vH ((l.drop (i+1)).flatMap enc) (i*size) w;have O:i*size+((l.drop (i+1)).flatMap enc).length<=(l.flatMap enc++A).length:=by rw[b,r];omega
  rw[uG _ _ _ O,b]at t;have J:(l.flatMap enc++A).take (i*size)=(l.take i).flatMap enc:=by
   rw[List.take_append,js d,C,<-o,show i*size-n*size=0 from by omega,List.take_zero,List.append_nil]
  rw[J,<-List.flatMap_append,<-List.eraseIdx_eq_take_drop_succ]at t;have m:=a7 d (l.eraseIdx i);rw[List.length_eraseIdx_of_lt (by omega),<-o]at m;refine⟨m,Or.inr ⟨g,cap,_,rfl,H,t,by omega,W,?_,?_⟩⟩
  ·rw[List.size_toArray,List.length_append,m,List.length_drop,r]
   have:(n-1)*size=i*size+(n-(i+1))*size:=(by rw[<-Nat.add_mul];congr 1;omega);omega
  ·rw[List.toList_toArray]
   exact List.take_left' m
def l3:List ic->Int->Nat->Option Nat
 |[],_,_=>none
 |x::l,a,i=>if(x.at_:Int)==a then some i else l3 l a (i+1)
def mr(S:aZ)(M:aF)(a:Int):Bool×aZ×aF:=
 match l3 S.l a 0 with
 |none=>(false,S,M)
 |some i=>match S.l[i]? with
  |none=>(false,S,M)
  |some x=>((M.fX x.at_ x.n).1,{S with l:=S.l.eraseIdx i},(M.fX x.at_ x.n).2)
def Cv(x:Bool×aZ×aF)(b m c d:Nat)(v:Value)(w:World)(e:Ending)(w':World):Prop:=
 pI x.1 e/\(∃a,aR w' b m a x.2.1/\aQ w v a)/\aO w' m c d x.2.2/\Ch (lf b v m c d) w w'
theorem kl(b m c d:Nat)(v:Value)(S:aZ)(M:aF)(bi:S.Ok)(a:Int)(w:World)(h:aR w b m v S)(ch:aO w m c d M):
 Calls prog 115 #[.pointer (some ⟨b,0,none⟩),.int .i64 a] w (Cv (mr S M a) b m c d v w):=by
 obtain⟨cs,cd,fd,cq,fn⟩:=info_parts uE;have c6:=Z cd;have H:=Z h;have cC:=Z ch;have cL:=Z bi;obtain⟨cW,n,Y⟩:=aA h.own;obtain⟨N,ap⟩:=mn S.l.length;have hlen:=bi.len;rw[<-ap]at Y hlen;have r:=Z ap;have O:=h.head.k 3 rfl;subst Y;clear h ch bi ap cd;go_enter func115,ntmps115
 go_wp2
 go_loopw [13] (fun s wr=>∃k:Nat,s=.int .i64 k/\k<=N/\Hid (l3 (S.l.drop k) a k=l3 S.l a 0/\Ch ag w wr)) (fun s _=>N-(intOf s).toNat)
 case atStart=>exact⟨0,rfl,Nat.zero_le _,rfl,Ch.refl _ _⟩
 case round=>
  obtain⟨k,rfl,eW,C⟩:=hrel;have L:Hid (aR wr b m (.slice cW N n) S/\aO wr m c d M):=Z ⟨H.out.ch C.out.2 (fun h=>h) (fun _ _ h=>h),cC.out.ch C.out.2 (fun h=>h) (fun h=>h) (fun h=>h)⟩;by_cases U:k<N
  ·obtain⟨x,a0⟩:∃x,S.l[k]?=some x:=⟨_,List.getElem?_eq_getElem (by rw[<-r.out];exact U)⟩
   have cb:S.l.drop k=x::S.l.drop (k+1):=by
    obtain⟨dr,dC⟩:=List.getElem?_eq_some_iff.1 a0;rw[List.drop_eq_getElem_cons dr,dC]
   have ab:=L.out.1.own;rw[<-r.out]at ab;obtain⟨g,cap,fK,G,eS,eU,eY,-,-⟩:=aS ab (by omega);injection G with c2 ct eC
   subst c2 eC;obtain⟨a3,ce,e1⟩:=kj ab ic.len r.out a0;have eA:wr.cell? ⟨g,k*3,none⟩=some (.int .i64 x.at_):=a3 0 _ (by omega) rfl;have c2:wr.cell? ⟨g,k*3+1,none⟩=some (.int .i64 x.n):=a3 1 _ (by omega) rfl;have ct:wr.cell? ⟨g,k*3+2,none⟩=some (.int .i64 x.w):=a3 2 _ (by omega) rfl;have ec:(k:Int)<N:=(by omega);have cS:=Z a0;have c5:=Z cb;have fb:=cL.out.l x (List.mem_of_getElem? a0);clear a3 a0 cb ab O;cases G:(x.at_:Int)==a
   ·have cA:Hid (l3 (S.l.drop (k+1)) a (k+1)=l3 S.l a 0):=Z (by
     rw[<-C.out.1,c5.out];show _=if((x.at_:Int)==a)=true then _ else _;rw[G];rfl)
    have en:((x.at_:Int) !=a)=true:=(by rw[bne,G];rfl);clear G;go_wp2
    go_roundw
    case rel=>exact⟨k+1,by go_num,by omega,cA.out,C.out.2.alloc _⟩
    case measure=>simp[intOf];omega
   ·have en:((x.at_:Int) !=a)=false:=by rw[bne,G];rfl
    have E:Hid (mr S M a=((M.fX x.at_ x.n).1,{S with l:=S.l.eraseIdx k},(M.fX x.at_ x.n).2)):=Z (by
     have:l3 S.l a 0=some k:=by
      rw[<-C.out.1,c5.out];show(if((x.at_:Int)==a)=true then _ else _)=_;rw[G];rfl
     unfold mr;rw[this];simp only[cS.out])
    clear G;obtain⟨w1,c1⟩:=nm (wr.alloc (.cells #[.int .i64 x.at_,.int .i64 x.n,.int .i64 x.w] 317));have f:Hid (aR w1 b m (.slice (some ⟨g,0,none⟩) N n) S/\aO w1 m c d M/\Ch (lf b (.slice (some ⟨g,0,none⟩) N n) m c d) w w1/\Row w1 wr.heap.size 317 x.cells):=Z (by
     rw[<-c1];exact⟨L.out.1.alloc _,L.out.2.alloc _,C.out.2.af.alloc _,Row.new wr _ _⟩)
    have c0:Hid (g<wr.heap.size/\b<wr.heap.size):=Z ⟨ce,L.out.1.head.lt⟩;have c7:=f.out.1.head.c1;have O:=f.out.1.head.k 3 rfl;have f3:=f.out.1.head.free 3;obtain⟨t0,t1⟩:=f.out.2.2.2.c2;go_wp2
    try rw[c1]
    clear c1 eA c2 ct e1 ce;obtain⟨tb,ci⟩:=mn wr.heap.size;rw[<-ci]at f c0 t0 t1⊢;have cm:g≠tb:=(by have:=c0.out;omega);have cl:b≠tb:=(by have:=c0.out;omega);clear ci;have bv:=f.out.1.own;rw[<-r.out]at bv;have c9:=Z bv;have F:Hid (¬aK g b):=Z (fun e=>aY f.out.1.own f.out.1.head (by decide) (congrArg some (show g=b from Eq.symm e)));have c8:Hid (∀x:ic,∀v∈x.cells,v.oneCell'=true):=Z (fun x v Y=>by simp[ic.cells]at Y;rcases Y with rfl|rfl|rfl<;>rfl);clear bv;have i1:(0:Int)<=k:=(by omega);have i2:(k:Int)<=n:=(by omega);have fo:IntKind.i64.wrap ((k:Int)+1)=(k:Int)+1:=IntWalk.i64_in _ (by omega);have fr:(0:Int)<=(k:Int)+1:=(by omega);have es:(k:Int)+1<=N:=(by omega);have fz:((k:Int)+1).toNat=k+1:=(by omega);have et:k<=n:=(by omega);have ex:k+1<=N:=(by omega);by_cases dN:n=k+1
    ·obtain rfl:N=k+1:=by omega
     subst dN;have fE:(k:Int)<=(k:Int)+1:=(by omega);have i10:k<=k+1:=(by omega);clear i2 es et ex;go_region_law (first|(refine q1 (by rfl) (.tmp 28) (.tmp 35) 312 (by rfl) 317 cs 3 underlying312 c6.out cq ic.len c8.out 0 g k (k+1) (k+1) U r.out (by rfl) ⟨g,0,none⟩ 0 0 (by omega) (by rfl) (fun h=>by omega) c9.out.drew ?_;intro w2 W B;have ad:=Z W;have P:=Z B;have al:w2.cell? ⟨b,3,none⟩=some (.slice (some ⟨g,0,none⟩) (k+1) (k+1)):=(B.cell (p:=⟨b,3,none⟩) f.out.1.head.lt F.out).trans O;have k3:w2.frozen? ⟨b,3,none⟩=false:=(B.frozen (p:=⟨b,3,none⟩) f.out.1.head.lt F.out).trans f3;clear W B))
     all_goals
      obtain⟨j,z⟩:=nm (w2.setCell ⟨b,3,none⟩ (.slice (some ⟨g,0,none⟩) k (k+1)));have o:Hid (aR j b m (.slice (some ⟨g,0,none⟩) k (k+1)) {S with l:=S.l.eraseIdx k}/\aO j m c d M/\Ch (lf b (.slice (some ⟨g,0,none⟩) (k+1) (k+1)) m c d) w j/\Row j tb 317 x.cells):=Z (by
       have K:=f.out.1.gW f.out.2.1;have av:b≠g:=(fun e=>F.out e);have J:Ch (dv b (.slice (some ⟨g,0,none⟩) (k+1) (k+1))) w1 j:=by
        rw[<-z];have am:Ch (dv b (.slice (some ⟨g,0,none⟩) (k+1) (k+1))) w1 w2:=(Ch.refl _ _).drew.trans (P.out.mono fun i t=>Or.inr (congrArg some (show g=i from Eq.symm t)));exact am.gS (p:=⟨b,3,none⟩) (Or.inl rfl) _
       refine⟨⟨?_,?_⟩,f.out.2.1.ch J K.2.1 K.2.2.1 K.2.2.2,f.out.2.2.1.trans (J.mono fun i t=>Or.inl t),f.out.2.2.2.ch J ?_⟩
       ·rw[<-z];exact(f.out.1.head.drew.ch P.out F.out).a' _ _ rfl
       ·show j.ownsRow 0 317 3 _ (S.l.eraseIdx k).length _
        rw[List.length_eraseIdx_of_lt (by rw[<-r.out];exact U),<-r.out,<-z];exact ar (D:=aK b) ad.out ((Ch.refl _ _).only 3 _) (fun q bw e=>av (by
         have:g=q:=(by simpa[Value.ownBlock]using bw);rw[this];exact(show q=b from e).symm))
       ·rintro(e|e)
        ·exact cl e.symm
        ·exact cm (by simpa[Value.ownBlock]using e))
      have k0:j.cell? ⟨b,0,none⟩=some (.pointer (some ⟨m,0,none⟩)):=o.out.1.head.cell (i:=0) rfl;obtain⟨c3,s1⟩:=o.out.2.2.2.c2;go_wp2
      try rw[z]
      clear z al k3 c7 O f3 t0 t1;have R:=Z (fun w h=>kc m c d M x.at_ x.n (by omega) (by omega) w h);have V:=Z (o.out.1.gW o.out.2.1);obtain⟨y,a1⟩:=nm (M.fX x.at_ x.n);rw[a1]at R E;clear a1;obtain⟨c4,eO⟩:=y;go_still_tail 8,(by kernel_rfl)
      change wpList _ _ _ _ _ j.drew;go_wp2_with fail
      refine(R.out _ o.out.2.1.drew).mono ?_;rintro e a2 ⟨⟨u,rfl,X⟩,T,I⟩;have Q:=Z T;have A:Hid (aR a2 b m (.slice (some ⟨g,0,none⟩) k (k+1)) {S with l:=S.l.eraseIdx k}/\Ch (lf b (.slice (some ⟨g,0,none⟩) (k+1) (k+1)) m c d) w a2):=Z ⟨o.out.1.drew.ch I V.out.1.1 V.out.1.2,o.out.2.2.1.drew.trans (I.mono fun i t=>Or.inr t)⟩;clear T I k0 c3 s1;cases c4
      ·obtain⟨tt,eL,rfl⟩:aq u:=X
       go_wp2_with (go_at_call 149;refine(fN _ _ _ _).mono ?_;rintro e w' ⟨rfl,rfl⟩)
       go_ret;rw[E.out];exact⟨⟨_,rfl,aq.mk _ _⟩,⟨_,A.out.1.alloc _,aQ.of_eq rfl⟩,Q.out.alloc _,A.out.2.alloc _⟩
      ·obtain rfl:u=.nilIface:=X
       go_wp2
       go_ret;rw[E.out];exact⟨⟨_,rfl,rfl⟩,⟨_,A.out.1,aQ.of_eq rfl⟩,Q.out,A.out.2⟩
    ·go_region_law (first|(refine q1 (by rfl) (.tmp 28) (.tmp 35) 312 (by rfl) 317 cs 3 underlying312 c6.out cq ic.len c8.out 0 g k N n U r.out (by rfl) ⟨g,(k+1)*3,none⟩ (n-(k+1)) (N-(k+1)) rfl (by rfl) (fun h=>rfl) c9.out.drew ?_;intro w2 W B;have ad:=Z W;have P:=Z B;have al:w2.cell? ⟨b,3,none⟩=some (.slice (some ⟨g,0,none⟩) N n):=(B.cell (p:=⟨b,3,none⟩) f.out.1.head.lt F.out).trans O;have k3:w2.frozen? ⟨b,3,none⟩=false:=(B.frozen (p:=⟨b,3,none⟩) f.out.1.head.lt F.out).trans f3;clear W B))
     all_goals
      obtain⟨j,z⟩:=nm (w2.setCell ⟨b,3,none⟩ (.slice (some ⟨g,0,none⟩) (N-1) n));have o:Hid (aR j b m (.slice (some ⟨g,0,none⟩) (N-1) n) {S with l:=S.l.eraseIdx k}/\aO j m c d M/\Ch (lf b (.slice (some ⟨g,0,none⟩) N n) m c d) w j/\Row j tb 317 x.cells):=Z (by
       have K:=f.out.1.gW f.out.2.1;have av:b≠g:=(fun e=>F.out e);have J:Ch (dv b (.slice (some ⟨g,0,none⟩) N n)) w1 j:=by
        rw[<-z];have am:Ch (dv b (.slice (some ⟨g,0,none⟩) N n)) w1 w2:=(Ch.refl _ _).drew.trans (P.out.mono fun i t=>Or.inr (congrArg some (show g=i from Eq.symm t)));exact am.gS (p:=⟨b,3,none⟩) (Or.inl rfl) _
       refine⟨⟨?_,?_⟩,f.out.2.1.ch J K.2.1 K.2.2.1 K.2.2.2,f.out.2.2.1.trans (J.mono fun i t=>Or.inl t),f.out.2.2.2.ch J ?_⟩
       ·rw[<-z];exact(f.out.1.head.drew.ch P.out F.out).a' _ _ rfl
       ·show j.ownsRow 0 317 3 _ (S.l.eraseIdx k).length _
        rw[List.length_eraseIdx_of_lt (by rw[<-r.out];exact U),<-r.out,<-z];exact ar (D:=aK b) ad.out ((Ch.refl _ _).only 3 _) (fun q bw e=>av (by
         have:g=q:=(by simpa[Value.ownBlock]using bw);rw[this];exact(show q=b from e).symm))
       ·rintro(e|e)
        ·exact cl e.symm
        ·exact cm (by simpa[Value.ownBlock]using e))
      have k0:j.cell? ⟨b,0,none⟩=some (.pointer (some ⟨m,0,none⟩)):=o.out.1.head.cell (i:=0) rfl;obtain⟨c3,s1⟩:=o.out.2.2.2.c2;go_wp2
      try rw[z]
      clear z al k3 c7 O f3 t0 t1;have R:=Z (fun w h=>kc m c d M x.at_ x.n (by omega) (by omega) w h);have V:=Z (o.out.1.gW o.out.2.1);obtain⟨y,a1⟩:=nm (M.fX x.at_ x.n);rw[a1]at R E;clear a1;obtain⟨c4,eO⟩:=y;go_still_tail 8,(by kernel_rfl)
      change wpList _ _ _ _ _ j.drew;go_wp2_with fail
      refine(R.out _ o.out.2.1.drew).mono ?_;rintro e a2 ⟨⟨u,rfl,X⟩,T,I⟩;have Q:=Z T;have A:Hid (aR a2 b m (.slice (some ⟨g,0,none⟩) (N-1) n) {S with l:=S.l.eraseIdx k}/\Ch (lf b (.slice (some ⟨g,0,none⟩) N n) m c d) w a2):=Z ⟨o.out.1.drew.ch I V.out.1.1 V.out.1.2,o.out.2.2.1.drew.trans (I.mono fun i t=>Or.inr t)⟩;clear T I k0 c3 s1;cases c4
      ·obtain⟨tt,eL,rfl⟩:aq u:=X
       go_wp2_with (go_at_call 149;refine(fN _ _ _ _).mono ?_;rintro e w' ⟨rfl,rfl⟩)
       go_ret;rw[E.out];exact⟨⟨_,rfl,aq.mk _ _⟩,⟨_,A.out.1.alloc _,aQ.of_eq rfl⟩,Q.out.alloc _,A.out.2.alloc _⟩
      ·obtain rfl:u=.nilIface:=X
       go_wp2
       go_ret;rw[E.out];exact⟨⟨_,rfl,rfl⟩,⟨_,A.out.1,aQ.of_eq rfl⟩,Q.out,A.out.2⟩
  ·have ec:¬(k:Int)<N:=by omega
   have E:Hid (mr S M a=(false,S,M)):=Z (by
    have:l3 S.l a 0=none:=(by rw[<-C.out.1,List.drop_eq_nil_of_le (by rw[<-r.out];omega)];rfl);unfold mr;rw[this])
   go_wp2_with (go_at_call 149;refine(fN _ _ _ _).mono ?_;rintro e w' ⟨rfl,rfl⟩)
   go_ret;rw[E.out];exact⟨⟨_,rfl,aq.mk _ _⟩,⟨_,L.out.1.alloc _,aQ.refl _ _⟩,L.out.2.alloc _,C.out.2.af.alloc _⟩
end
end Go.Proofs.YtlihkblppjgebaaGreatDoor
