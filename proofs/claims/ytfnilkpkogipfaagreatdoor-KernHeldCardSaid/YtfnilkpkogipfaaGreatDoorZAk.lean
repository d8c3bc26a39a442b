import Derived.Test.YtfnilkpkogipfaaGreatDoorZAj
set_option linter.unusedVariables false
set_option linter.unusedSimpArgs false
set_option maxRecDepth 100000
set_option maxHeartbeats 8000000
namespace Go.Proofs.YtfnilkpkogipfaaGreatDoor
open Go.RowKit Go.Proofs.Tryz
structure dm(w:World)(b g:Nat)(cs:List Int)(fr n:Nat):Prop where
 head:Row w b 209 [.slice (some (g,0)) 64 64,.int .i64 fr,.int .i64 n]
 rows:Row w g 56 (cs.map (Value.int .u64))
 len:cs.length=64
 hf:fr<64
 hn:n<=64
def eH(w:World)(b g:Nat)(q:List Int):Prop:=
 ∃cs fr,dm w b g cs fr q.length/\∀i,i<q.length->cs[(fr+i)%64]?=q[i]?
theorem dm.alloc{w:World}{b g:Nat}{cs:List Int}{fr n:Nat}(h:dm w b g cs fr n)(a:Obj):dm (w.alloc a) b g cs fr n:=⟨h.head.alloc a,h.rows.alloc a,h.len,h.hf,h.hn⟩
theorem dm.drew{w:World}{b g:Nat}{cs:List Int}{fr n:Nat}(h:dm w b g cs fr n):dm w.drew b g cs fr n:=⟨h.head,h.rows,h.len,h.hf,h.hn⟩
theorem dm.drewN{w:World}{b g:Nat}{cs:List Int}{fr n:Nat}(h:dm w b g cs fr n)(k:Nat):dm (w.drewN k) b g cs fr n:=⟨h.head,h.rows,h.len,h.hf,h.hn⟩
theorem dm.ne{w:World}{b g:Nat}{cs:List Int}{fr n:Nat}(h:dm w b g cs fr n):b≠g:=h.head.ne h.rows (by decide)
theorem dm.ch{w w':World}{D:Nat->Prop}{b g:Nat}{cs:List Int}{fr n:Nat}(h:dm w b g cs fr n)(c:Ch D w w')(hb:¬D b)(a:¬D g):dm w' b g cs fr n:=⟨h.head.ch c hb,h.rows.ch c a,h.len,h.hf,h.hn⟩
theorem eH.ch{w w':World}{D:Nat->Prop}{b g:Nat}{q:List Int}(h:eH w b g q)(c:Ch D w w')(hb:¬D b)(e:¬D g):eH w' b g q:=by
 obtain⟨cs,fr,a,d⟩:=h;exact⟨cs,fr,a.ch c hb e,d⟩
theorem jS(b g:Nat)(cs:List Int)(fr n i:Nat)(s:i<=64)(w:World)(h:dm w b g cs fr n):
 Calls prog 101 #[(b,0),.int .i64 i] w (fun e w'=>e=.returned (.pointer (some (g,(fr+i)%64)))/\∃k,w'=w.drewN k):=by
 obtain⟨l,o⟩:=h.head.c2;have r:=h.hf;have t:=h.rows.lt;have q:=h.head.lt;have p:IntKind.i64.wrap ((fr:Int)+i)=(fr:Int)+i:=IntWalk.i64_in _ (by omega);have c:((fr:Int)+i).tmod 64=(((fr+i)%64:Nat):Int):=by rw[Int.tmod_eq_emod_of_nonneg (by omega)];omega
 have d:(0:Int)<=(((fr+i)%64:Nat):Int):=by omega
 have f:(((fr+i)%64:Nat):Int)<64:=by omega
 have j:IntKind.i64.wrap (((fr+i)%64:Nat):Int)=(((fr+i)%64:Nat):Int):=IntWalk.i64_in _ (by omega);obtain⟨m,a⟩:=mn ((fr+i)%64);rw[<-a]at c d f j⊢;clear a h;go_enter func101,ntmps101
 go_wp2
 go_quiet (fail)
 go_wp2
 go_ret;exact⟨rfl,_,rfl⟩
theorem ym{cs:List Int}{fr:Nat}{q:List Int}{v:Int}(c:cs.length=64)(d:q.length<64)(h:∀i,i<q.length->cs[(fr+i)%64]?=q[i]?):
 ∀i,i<(q++[v]).length->(cs.set ((fr+q.length)%64) v)[(fr+i)%64]?=(q++[v])[i]?:=by
 intro i b;rw[List.length_append,List.length_cons,List.length_nil]at b;by_cases a:i=q.length
 ·subst a
  rw[List.getElem?_set_self (by omega),List.getElem?_append_right (Nat.le_refl _)];simp
 ·rw[List.getElem?_set_ne (by omega),List.getElem?_append_left (by omega)]
  exact h i (by omega)
theorem dm.set{w:World}{b g:Nat}{cs:List Int}{fr n:Nat}(h:dm w b g cs fr n)(m:Nat)(v:Int):dm (w.setCell (g,m) (.int .u64 v)) b g (cs.set m v) fr n:=
 ⟨h.head.other h.ne _,h.rows.a' _ _ (by rw[List.map_set]),by simpa using h.len,h.hf,h.hn⟩
theorem dm.DF{w:World}{b g:Nat}{cs:List Int}{fr n:Nat}(h:dm w b g cs fr n)(m:Nat)(a:m<=64){v:Int}(c:v=(m:Int)):dm (w.setCell (b,2) (.int .i64 v)) b g cs fr m:=by
 subst c;exact⟨h.head.a' _ _ rfl,h.rows.other (fun e=>h.ne e.symm) _,h.len,h.hf,a⟩
theorem dm.cH{w:World}{b g:Nat}{cs:List Int}{fr n:Nat}(h:dm w b g cs fr n)(m:Nat)(a:m<64){v:Int}(c:v=(m:Int)):dm (w.setCell (b,1) (.int .i64 v)) b g cs m n:=by
 subst c;exact⟨h.head.a' _ _ rfl,h.rows.other (fun e=>h.ne e.symm) _,h.len,a,h.hn⟩
def AR(ok:Bool)(b g:Nat)(a:List Int)(w:World)(e:Ending)(w':World):Prop:=
 (∃v,e=.returned v/\(if ok then v=.nilIface else aq v))/\eH w' b g a/\Ch (di b g) w w'
def g6(q:List Int)(v:Int):Bool×List Int:=if q.length=64 then(false,q)else(true,q++[v])
theorem l6(b g:Nat)(q:List Int)(v:Int)(w:World)(h:eH w b g q):
 Calls prog 59 #[(b,0),.int .u64 v] w (AR (g6 q v).1 b g (g6 q v).2 w):=by
 obtain⟨cs,fr,d,o⟩:=h;have a:=Z d;have n:=Z o;have B:=d.head.c1;have r:=d.head.k 2 rfl;have f2:=d.head.free 2;have x:=d.hn;obtain⟨N,i⟩:=mn q.length;rw[<-i]at r x;have c:=Z i;clear d o i;by_cases f:N=64
 ·subst f
  have E:Hid (g6 q v=(false,q)):=Z (by unfold g6;rw[if_pos c.out.symm]);go_enter func59,ntmps59
  go_wp2
  go_quiet (fail)
  go_wp2
  go_ret;rw[E];exact⟨⟨_,rfl,aq.mk _ _⟩,⟨cs,fr,(a.drewN _).alloc _,n⟩,((Ch.refl _ _).drewN _).alloc _⟩
 ·have E:Hid (g6 q v=(true,q++[v])):=Z (by unfold g6;rw[if_neg (by rw[<-c.out];exact f)])
  have hb:((N:Int)==64)=false:=by rw[beq_eq_false_iff_ne];omega
  have y:N<64:=by omega
  have l:Hid (dm w b g cs fr N):=Z (by rw[c];exact a);clear f;go_enter func59,ntmps59
  go_wp2
  go_quiet (fail)
  go_wp2_with fail
  refine(jS b g cs fr N N (by omega) _ (l.drewN _)).mono ?_;rintro e w1 ⟨rfl,k,rfl⟩;have s:∃u,w.cell? (g,(fr+N)%64)=some u:=by
   have C:=a.len;have:(cs.map (Value.int .u64))[(fr+N)%64]?=some (.int .u64 (cs[(fr+N)%64]'(by omega))):=by rw[List.getElem?_map,List.getElem?_eq_getElem (by omega)];rfl
   exact⟨_,a.rows.cell this⟩
  obtain⟨u,A⟩:=s;have t:=a.rows.free ((fr+N)%64);have z:=a.ne;obtain⟨m,j⟩:=mn ((fr+N)%64);rw[<-j]at A t⊢;have p:=Z j;have D:g≠b:=fun e=>z e.symm
  clear j;go_wp2
  go_ret;rw[E];refine⟨⟨_,rfl,rfl⟩,⟨cs.set m v,fr,?_,?_⟩,?_⟩
  ·rw[List.length_append,<-c]
   exact((l.drewN _).set m v).DF (N+1) (by omega) rfl
  ·rw[p,c]
   exact ym a.len (by rw[<-c];exact y) n
  ·exact(((Ch.refl _ _).drewN _).jD _ _).g8 _ _
def gG:List Int->Int×Bool×List Int
 |[]=>(0,false,[])
 |x::q=>(x,true,q)
def AS(x:Int×Bool×List Int)(b g:Nat)(w:World)(e:Ending)(w':World):Prop:=
 e=.returned (.tuple #[.int .u64 x.1,.bool x.2.1])/\eH w' b g x.2.2/\Ch (di b g) w w'
theorem vP{cs:List Int}{fr:Nat}{x:Int}{q:List Int}(h:∀i,i<(x::q).length->cs[(fr+i)%64]?=(x::q)[i]?):
 ∀i,i<q.length->cs[((fr+1)%64+i)%64]?=q[i]?:=by
 intro i a;have:=h (i+1) (by simp;omega);rw[List.getElem?_cons_succ]at this;rw[<-this]
 congr 1
 omega
theorem pX(b g:Nat)(q:List Int)(w:World)(h:eH w b g q):
 Calls prog 191 #[(b,0)] w (AS (gG q) b g w):=by
 obtain⟨cs,fr,a,f⟩:=h;have z:=Z a;have s:=Z f;obtain⟨B,C,j⟩:=a.head.c3;have f1:=a.head.free 1;have f2:=a.head.free 2;cases q with
 |nil=>
  clear a f;go_enter func191,ntmps191
  go_wp2
  go_ret2;exact⟨rfl,⟨cs,fr,z,s⟩,Ch.refl _ _⟩
 |cons x q=>
  obtain⟨N,l⟩:=mn q.length;have G:=a.hn;rw[List.length_cons,<-l]at j G;have r:=Z l;have p:Hid (dm w b g cs fr (N+1)):=Z (by rw[r];exact a);have hb:(((N+1:Nat):Int)==0)=false:=by rw[beq_eq_false_iff_ne];omega
  have v:=a.hf;have o:=f 0 (by simp);rw[Nat.add_zero,Nat.mod_eq_of_lt v]at o;have t:w.cell? (g,fr)=some (.int .u64 x):=a.rows.cell (by rw[List.getElem?_map,o];rfl);have K:IntKind.i64.wrap ((fr:Int)+1)=(fr:Int)+1:=IntWalk.i64_in _ (by omega);have D:((fr:Int)+1).tmod 64=(((fr+1)%64:Nat):Int):=by rw[Int.tmod_eq_emod_of_nonneg (by omega)];omega
  have E:IntKind.i64.wrap (((fr+1)%64:Nat):Int)=(((fr+1)%64:Nat):Int):=IntWalk.i64_in _ (by omega);obtain⟨m,n⟩:=mn ((fr+1)%64);rw[<-n]at D E;have A:=Z n;have F:m<64:=by omega
  have u:((N+1:Nat):Int)=(N:Int)+1:=by omega
  rw[u]at j hb;have L:(N:Int)+1-1=(N:Int):=by omega
  clear a f l n o u;go_enter func191,ntmps191
  go_wp2_with fail
  refine(jS b g cs fr (N+1) 0 (by omega) _ p).mono ?_;rw[Nat.add_zero,Nat.mod_eq_of_lt v];rintro e w1 ⟨rfl,d⟩;have c:Hid (dm w1 b g cs fr (N+1)):=Z (by obtain⟨k,rfl⟩:=d;exact p.drewN _);have y:Hid (Ch (di b g) w w1):=Z (by obtain⟨k,rfl⟩:=d;exact(Ch.refl _ _).drewN _);obtain⟨d0,d1⟩:=c.head.c2;have d2:w1.cell? (b,2)=some (.int .i64 ((N:Int)+1)):=c.head.cell (i:=2) rfl;have J:w1.cell? (g,fr)=some (.int .u64 x):=by obtain⟨k,rfl⟩:=d;exact t
  have H:=c.head.free 1;have I:=c.head.free 2;clear B C j t f1 f2 d;go_wp2
  go_still_tail 12,(by kernel_rfl)
  change wpList _ _ _ _ _ w1.drew;go_wp2
  go_ret2;refine⟨rfl,⟨cs,m,?_,?_⟩,?_⟩
  ·show dm _ b g cs m q.length
   rw[<-r];exact(c.drew.cH m F rfl).DF N (by omega) (by omega)
  ·rw[A]
   exact vP s
  ·exact(y.drew.g8 _ _).g8 _ _
structure bC where
 times:Int
 handle:Int
 kind:Int
 addr:Int
 deriving DecidableEq,Repr,Inhabited
def bC.cells(r:bC):List Value:=[.int .u64 r.times,.int .u64 r.handle,.int .i64 r.kind,.int .u64 r.addr]
theorem bC.len(r:bC):r.cells.length=4:=rfl
structure bL(w:World)(b g:Nat)(l:List bC):Prop where
 head:Row w b 220 [.slice (some (g,0)) 64 64]
 rows:Row w g 262 (l.flatMap bC.cells)
 len:l.length=64
theorem bL.ne{w:World}{b g:Nat}{l:List bC}(h:bL w b g l):b≠g:=h.head.ne h.rows (by decide)
theorem bL.alloc{w:World}{b g:Nat}{l:List bC}(h:bL w b g l)(a:Obj):bL (w.alloc a) b g l:=⟨h.head.alloc a,h.rows.alloc a,h.len⟩
theorem bL.drew{w:World}{b g:Nat}{l:List bC}(h:bL w b g l):bL w.drew b g l:=⟨h.head,h.rows,h.len⟩
theorem bL.ch{w w':World}{D:Nat->Prop}{b g:Nat}{l:List bC}(h:bL w b g l)(c:Ch D w w')(hb:¬D b)(a:¬D g):bL w' b g l:=⟨h.head.ch c hb,h.rows.ch c a,h.len⟩
theorem bL.put{w:World}{b g:Nat}{l:List bC}(h:bL w b g l){p:Nat}{r y:bC}(e:l[p]?=some r)(j:Nat)(d:j<4){a:Nat}(c:a=p*4+j){v:Value}(f:r.cells.set j v=y.cells):bL (w.setCell (g,a) v) b g (l.set p y):=by
 subst c;exact⟨h.head.other h.ne v,h.rows.put bC.len e d f,by simpa using h.len⟩
theorem bL.jK{w:World}{b g:Nat}{l:List bC}{p:Nat}{r y:bC}(h:bL w b g (l.set p r))(e:p<l.length)(j:Nat)(d:j<4){a:Nat}(c:a=p*4+j){v:Value}(f:r.cells.set j v=y.cells):bL (w.setCell (g,a) v) b g (l.set p y):=by
 have:=h.put (p:=p) (r:=r) (y:=y) (by simp[e]) j d c f
 rwa [List.set_set]at this
theorem bL.start{w:World}{b g:Nat}{l:List bC}(h:bL w b g l){p:Nat}{r:bC}(a:l[p]?=some r):bL w b g (l.set p r)/\p<l.length:=⟨(jL a).symm▸h,(List.getElem?_eq_some_iff.1 a).1⟩
theorem bL.s0{w:World}{b g:Nat}{l:List bC}{p:Nat}{r:bC}(h:bL w b g (l.set p r))(d:p<l.length){a:Nat}{v:Int}(c:a=p*4+0):bL (w.setCell (g,a) (.int .u64 v)) b g (l.set p {r with times:=v}):=h.jK d 0 (by omega) c rfl
theorem bL.s1{w:World}{b g:Nat}{l:List bC}{p:Nat}{r:bC}(h:bL w b g (l.set p r))(d:p<l.length){a:Nat}{v:Int}(c:a=p*4+1):bL (w.setCell (g,a) (.int .u64 v)) b g (l.set p {r with handle:=v}):=h.jK d 1 (by omega) c rfl
theorem bL.s2{w:World}{b g:Nat}{l:List bC}{p:Nat}{r:bC}(h:bL w b g (l.set p r))(d:p<l.length){a:Nat}{v:Int}(c:a=p*4+2):bL (w.setCell (g,a) (.int .i64 v)) b g (l.set p {r with kind:=v}):=h.jK d 2 (by omega) c rfl
theorem bL.s3{w:World}{b g:Nat}{l:List bC}{p:Nat}{r:bC}(h:bL w b g (l.set p r))(d:p<l.length){a:Nat}{v:Int}(c:a=p*4+3):bL (w.setCell (g,a) (.int .u64 v)) b g (l.set p {r with addr:=v}):=h.jK d 3 (by omega) c rfl
structure Cx(w:World)(g p:Nat)(r:bC):Prop where
 c0:w.cell? (g,p*4)=some (.int .u64 r.times)
 c1:w.cell? (g,p*4+1)=some (.int .u64 r.handle)
 c2:w.cell? (g,p*4+2)=some (.int .i64 r.kind)
 c3:w.cell? (g,p*4+3)=some (.int .u64 r.addr)
 fr:∀j,w.frozen? ⟨g,j,none⟩=false
 lt:g<w.heap.size
theorem bL.cells{w:World}{b g:Nat}{l:List bC}(h:bL w b g l){p:Nat}{r:bC}(a:l[p]?=some r):Cx w g p r:=
 ⟨h.rows.at bC.len a (j:=0) (by omega) rfl,h.rows.at bC.len a (by omega) rfl,h.rows.at bC.len a (by omega) rfl,h.rows.at bC.len a (by omega) rfl,fun j=>h.rows.free j,h.rows.lt⟩
theorem e6(t:TypeId)(x:Value)(w:World):Calls prog 94 #[.iface t x] w (fun e w'=>e=.returned (.iface 197 (.pointer (some (w.heap.size,0))))/\w.alloc (.cells #[.string ⟨#[111,98,106,101,99,116,115]⟩,.int .i64 0,.iface t x] 199)=w'):=by
 go_enter func94,ntmps94
 go_wp2
 go_ret;exact⟨rfl,rfl⟩
def q6(h:Int):Nat:=(IntKind.u64.wrap (h-1)%64).toNat
def iR(l:List bC)(h:Int):Option Nat:=
 if h==0 then none else
 match l[q6 h]? with
 |none=>none
 |some r=>if r.handle==h then some (q6 h)else none
theorem nc{l:List bC}{h:Int}{p:Nat}(a:iR l h=some p):∃r,l[p]?=some r/\r.handle=h/\h≠0:=by
 unfold iR at a;split at a
 ·cases a
 ·rename_i b
  split at a
  ·cases a
  ·rename_i r d
   split at a
   ·rename_i c
    have:q6 h=p:=by simpa using a
    subst this;exact⟨r,d,by simpa using c,by simpa using b⟩
   ·cases a
def vQ(g:Nat):Option Nat->Value
 |none=> .pointer none
 |some p=> .pointer (some (g,p*4))
theorem oW(b g:Nat)(l:List bC)(h:Int)(w:World)(H:bL w b g l):Calls prog 203 #[(b,0),.int .u64 h] w (d' (vQ g (iR l h)) w):=by
 cases f:h==0
 ·have hb:=cj (h-1)
  have i:=hb.lo;have u:=H.head.c1;obtain⟨p,j⟩:∃p:Nat,(p:Int)=IntKind.u64.wrap (h-1)%64:=⟨(IntKind.u64.wrap (h-1)%64).toNat,by omega⟩;have k:p<64:=by omega
  obtain⟨r,d⟩:∃r,l[p]?=some r:=⟨_,List.getElem?_eq_getElem (by rw[H.len];exact k)⟩;have m:q6 h=p:=by unfold q6;omega
  obtain⟨o,q,s,t,fr,v⟩:=H.cells d;have c:Hid (iR l h=if r.handle==h then some p else none):=Z (by unfold iR;rw[f,m,d];rfl);have x:(p:Int)<64:=by omega
  have y:(IntKind.u64.wrap (h-1)).tmod 64=(p:Int):=by rw[Int.tmod_eq_emod_of_nonneg i];exact j.symm
  clear j m d H k o s t fr hb i;obtain⟨e,n⟩:=nm r.handle;rw[n]at c q;clear n;cases a:e==h
  ·rw[a]at c
   have hb:(e !=h)=true:=by simpa using a
   clear a;go_enter func203,ntmps203
   go_wp2
   go_ret;exact d'.mk (by rw[c];rfl)
  ·rw[a]at c
   have hb:(e !=h)=false:=by simpa using a
   clear a;go_enter func203,ntmps203
   go_wp2
   go_ret;exact d'.mk (by rw[c];rfl)
 ·have E:Hid (iR l h=none):=Z (by unfold iR;rw[f];rfl)
  clear H;go_enter func203,ntmps203
  go_wp2
  go_ret;exact d'.mk (by rw[E];rfl)
def ga(l:List bC)(h kind:Int):Option Int:=
 match iR l h with
 |none=>none
 |some p=>match l[p]? with
  |none=>none
  |some r=>if r.kind !=kind then none else some r.addr
def yn(x:Option Int)(w:World)(e:Ending)(w':World):Prop:=
 (match x with
  |some a=>e=.returned (.tuple #[.int .u64 a,.nilIface])
  |none=>∃v,e=.returned (.tuple #[.int .u64 0,v])/\aq v)/\Ch ag w w'
theorem q7(b g:Nat)(l:List bC)(h kind:Int)(w:World)(H:bL w b g l):
 Calls prog 172 #[(b,0),.int .u64 h,kind] w (yn (ga l h kind) w):=by
 have c:=Z (oW b g l h w H);cases a:iR l h with
 |none=>
  have E:Hid (ga l h kind=none):=Z (by unfold ga;rw[a]);rw[a]at c;clear H a;go_enter func172,ntmps172
  go_wp2_with (first|(go_at_call 203;refine c.mono ?_;rintro e w' ⟨rfl,rfl⟩;simp only[vQ])|(go_at_call 94;refine(e6 _ _ _).mono ?_;rintro e w' ⟨rfl,rfl⟩))
  go_ret2;rw[E];exact⟨⟨_,rfl,aq.mk _ _⟩,(Ch.refl _ _).alloc _⟩
 |some p=>
  obtain⟨r,d,-,-⟩:=nc a;obtain⟨j,k,m,n,fr,o⟩:=H.cells d;have E:Hid (ga l h kind=if r.kind !=kind then none else some r.addr):=Z (by unfold ga;rw[a];simp only[d]);rw[a]at c;clear H a d;obtain⟨times,handle,i,addr⟩:=r;dsimp only at*;cases f:i !=kind
  ·rw[f]at E
   go_enter func172,ntmps172
   go_wp2_with (first|(go_at_call 203;refine c.mono ?_;rintro e w' ⟨rfl,rfl⟩;simp only[vQ])|(go_at_call 94;refine(e6 _ _ _).mono ?_;rintro e w' ⟨rfl,rfl⟩))
   go_ret2;rw[E];exact⟨rfl,Ch.refl _ _⟩
  ·rw[f]at E
   go_enter func172,ntmps172
   go_wp2_with (first|(go_at_call 203;refine c.mono ?_;rintro e w' ⟨rfl,rfl⟩;simp only[vQ])|(go_at_call 94;refine(e6 _ _ _).mono ?_;rintro e w' ⟨rfl,rfl⟩))
   go_ret2;rw[E];exact⟨⟨_,rfl,aq.mk _ _⟩,(Ch.refl _ _).alloc _⟩
def bC.gone(r:bC):bC:=⟨r.times,0,0,0⟩
def iC(l:List bC)(h:Int):Bool×List bC:=
 match iR l h with
 |none=>(false,l)
 |some p=>match l[p]? with
  |none=>(false,l)
  |some r=>(true,l.set p r.gone)
def Cy(ok:Bool)(b g:Nat)(l':List bC)(w:World)(e:Ending)(w':World):Prop:=
 (∃v,e=.returned v/\(if ok then v=.nilIface else aq v))/\bL w' b g l'/\Ch (aK g) w w'
theorem q8(b g:Nat)(l:List bC)(h:Int)(w:World)(H:bL w b g l):
 Calls prog 193 #[(b,0),.int .u64 h] w (Cy (iC l h).1 b g (iC l h).2 w):=by
 have j:=Z H;have c:=Z (oW b g l h w H);cases a:iR l h with
 |none=>
  have E:Hid (iC l h=(false,l)):=Z (by unfold iC;rw[a]);rw[a]at c;clear H a;go_enter func193,ntmps193
  go_wp2_with (first|(go_at_call 203;refine c.mono ?_;rintro e w' ⟨rfl,rfl⟩;simp only[vQ])|(go_at_call 94;refine(e6 _ _ _).mono ?_;rintro e w' ⟨rfl,rfl⟩))
  go_ret;rw[E];exact⟨⟨_,rfl,aq.mk _ _⟩,j.alloc _,(Ch.refl _ _).alloc _⟩
 |some p=>
  obtain⟨r,d,-,-⟩:=nc a;obtain⟨m,n,o,q,fr,s⟩:=H.cells d;have E:Hid (iC l h=(true,l.set p r.gone)):=Z (by unfold iC;rw[a];simp only[d]);obtain⟨i,f⟩:=H.start d;have k:=Z i;rw[a]at c;clear H a d i;obtain⟨times,handle,t,addr⟩:=r;dsimp only at*;go_enter func193,ntmps193
  go_wp2_with (first|(go_at_call 203;refine c.mono ?_;rintro e w' ⟨rfl,rfl⟩;simp only[vQ])|(go_at_call 94;refine(e6 _ _ _).mono ?_;rintro e w' ⟨rfl,rfl⟩))
  go_ret;rw[E];exact⟨⟨_,rfl,rfl⟩,((k.s1 f rfl).s2 f rfl).s3 f rfl,(((Ch.refl _ _).only _ _).only _ _).only _ _⟩
def km:List bC->Nat->Option Nat
 |[],_=>none
 |r::l,k=>if r.handle !=0 then km l (k+1)else some k
def fH(l:List bC)(kind addr:Int):Option Int×List bC:=
 if kind<1∨6<kind then(none,l)else
 match km l 0 with
 |none=>(none,l)
 |some p=>match l[p]? with
  |none=>(none,l)
  |some r=>
   let h:=IntKind.u64.wrap (p+1+IntKind.u64.wrap (64*r.times))
   (some h,l.set p ⟨IntKind.u64.wrap (r.times+1),h,kind,addr⟩)
def AT(x:Option Int×List bC)(b g:Nat)(w:World)(e:Ending)(w':World):Prop:=
 (match x.1 with
  |some id=>e=.returned (.tuple #[.int .u64 id,.nilIface])
  |none=>∃v,e=.returned (.tuple #[.int .u64 0,v])/\aq v)/\bL w' b g x.2/\Ch (aK g) w w'
theorem q9(b g:Nat)(l:List bC)(kind addr:Int)(w:World)(H:bL w b g l):
 Calls prog 192 #[(b,0),kind,.int .u64 addr] w (AT (fH l kind addr) b g w):=by
 have a:=Z H;have A:=H.head.c1;have hlen:=Z H.len;have F:=H.head.lt;clear H;have y:(kind<1)∨(¬kind<1/\6<kind)∨(¬kind<1/\¬6<kind):=by omega
 rcases y with k1|⟨k1,k2⟩|⟨k1,k2⟩
 ·have E:Hid (fH l kind addr=(none,l)):=Z (by unfold fH;rw[if_pos (Or.inl k1)])
  go_enter func192,ntmps192
  go_wp2_with (go_at_call 94;refine(e6 _ _ _).mono ?_;rintro e w' ⟨rfl,rfl⟩)
  go_ret2;rw[E];exact⟨⟨_,rfl,aq.mk _ _⟩,a.alloc _,(Ch.refl _ _).alloc _⟩
 ·have E:Hid (fH l kind addr=(none,l)):=Z (by unfold fH;rw[if_pos (Or.inr k2)])
  go_enter func192,ntmps192
  go_wp2_with (go_at_call 94;refine(e6 _ _ _).mono ?_;rintro e w' ⟨rfl,rfl⟩)
  go_ret2;rw[E];exact⟨⟨_,rfl,aq.mk _ _⟩,a.alloc _,(Ch.refl _ _).alloc _⟩
 have m:Hid (¬(kind<1∨6<kind)):=Z (by omega);have d1:decide (kind<1)=false:=by simpa using k1
 have d2:decide (6<kind)=false:=by simpa using k2
 clear k1 k2;go_enter func192,ntmps192
 go_wp2
 go_loop [23] (fun s=>∃k:Nat,s=.int .i64 k/\k<=64/\Hid (km (l.drop k) k=km l 0)) (fun s=>64-(intOf s).toNat)
 case atStart=>exact⟨0,rfl,Nat.zero_le _,rfl⟩
 case round=>
  obtain⟨k,rfl,G,f⟩:=hrel;by_cases x:k<64
  ·obtain⟨r,c⟩:∃r,l[k]?=some r:=⟨_,List.getElem?_eq_getElem (by rw[hlen.out];exact x)⟩
   obtain⟨z,B,C,D,fr,K⟩:=a.cells c;have j:l.drop k=r::l.drop (k+1):=by
    obtain⟨u,v⟩:=List.getElem?_eq_some_iff.1 c;rw[List.drop_eq_getElem_cons u,v]
   have i:=Z j;obtain⟨n,d⟩:=a.start c;have t:=Z n;have q:=Z c;have J:(k:Int)<64:=by omega
   clear j n c;obtain⟨times,handle,M,L⟩:=r;dsimp only at*;cases o:handle !=0
   ·have E:Hid (fH l kind addr=(some (IntKind.u64.wrap (k+1+IntKind.u64.wrap (64*times))),l.set k ⟨IntKind.u64.wrap (times+1),IntKind.u64.wrap (k+1+IntKind.u64.wrap (64*times)),kind,addr⟩)):=Z (by
     have h:km l 0=some k:=by rw[<-f,i,km];simp only[o];rfl
     unfold fH;rw[if_neg m.out,h];simp only[q.out])
    go_wp2
    go_ret2;rw[E];refine⟨rfl,?_,?_⟩
    ·exact(((t.s1 d rfl).s2 d rfl).s3 d rfl).s0 d rfl
    ·exact((((Ch.refl _ _).only _ _).only _ _).only _ _).only _ _
   ·have p:Hid (km (l.drop (k+1)) (k+1)=km l 0):=Z (by rw[<-f,i];show _=if(handle !=0)=true then _ else _;rw[if_pos o])
    go_wp2
    go_round
    case rel=>exact⟨k+1,by go_num,by omega,p⟩
    case measure=>simp[intOf];omega
  ·have I:¬(k:Int)<64:=by omega
   have E:Hid (fH l kind addr=(none,l)):=Z (by
    have h:km l 0=none:=by rw[<-f,List.drop_eq_nil_of_le (by rw[hlen.out];omega)];rfl
    unfold fH;rw[if_neg m.out,h])
   go_wp2_with (go_at_call 94;refine(e6 _ _ _).mono ?_;rintro e w' ⟨rfl,rfl⟩)
   go_ret2;rw[E];exact⟨⟨_,rfl,aq.mk _ _⟩,a.alloc _,(Ch.refl _ _).alloc _⟩
deriving instance Inhabited for cE
structure Ev where
 kind:Int
 at_:Int
 w:Int
 t:Int
 num:Int
 a0:Int
 a1:Int
 a2:Int
 a3:Int
 v:Int
 code:Int
 deriving DecidableEq,Inhabited
def Ev.cells(e:Ev):List Value:=[.int .i64 e.kind,.int .i64 e.at_,.int .i64 e.w,.int .u64 e.t,.int .i64 e.num,.int .u64 e.a0,.int .u64 e.a1,.int .u64 e.a2,.int .u64 e.a3,.int .u64 e.v,.int .u64 e.code]
theorem Ev.len(e:Ev):e.cells.length=11:=rfl
structure br where
 num:Int
 at_:Int
 k0:Int
 k1:Int
 k2:Int
 k3:Int
 deriving DecidableEq,Inhabited
def br.cells(r:br):List Value:=[.int .i64 r.num,.int .i64 r.at_,.int .i64 r.k0,.int .i64 r.k1,.int .i64 r.k2,.int .i64 r.k3]
theorem br.len(r:br):r.cells.length=6:=rfl
structure Frame where
 f:cE
 ca:Bool
 num:Int
 deriving Inhabited
structure Thread where
 id:Int
 l:List Frame
 eM:Int
 deriving Inhabited
structure ak where
 slot:Int
 hand:Int
 parked:Bool
 left:Int
 f:cE
 deriving Inhabited
structure KC where
 dx:List aV
 loop:Int
 calls:List br
 bn:List aV
 entry:Int
 wide:Int
 narrow:Int
 rows:List Int
structure hx where
 id:Int
 ad:Int
 mask:Int
 deriving DecidableEq,Inhabited
structure KS where
 mem:aF
 blocks:aZ
 clock:aN
 ring:List Int
 q:List (List hx)
 table:List aD
 cV:List bC
 ai:List (Int×Thread)
 wk:List ak
 entries:Int
 at_:Int
 w:Int
 draw:Int
 out:List Ev
def hJ(q:List (List hx))(id:Int):Option hx:=q.flatten.find? (fun s=>s.id==id)
def dy(q:List (List hx))(id:Int):Bool×List (List hx):=
 match hJ q id with
 |none=>(false,q)
 |some _=>(true,q.map fun l=>l.filter fun s=>s.id !=id)
def oX(q:List (List hx))(s:hx):List (List hx):=q.modify (bc s.ad 8).toNat (·++[s])
def kn(q:List (List hx))(id a mask:Int):Bool×List (List hx):=
 if id==0 then(false,q)else
 match hJ q id with
 |some _=>(false,q)
 |none=>(true,oX q ⟨id,a,mask⟩)
def lh(q:List (List hx))(a mask:Int)(each:Bool):Option hx:=(q.getD (bc a 8).toNat []).find? fun s=>s.ad==a&&(each||qR s.mask mask)
def ez(q:List (List hx))(a mask:Int):Int×Bool×List (List hx):=
 match lh q a mask false with
 |none=>(0,false,q)
 |some s=>(s.id,true,(dy q s.id).2)
def hK(q:List (List hx))(fr tt:Int):Int×Bool×List (List hx):=
 match lh q fr 0 true with
 |none=>(0,false,q)
 |some s=>(s.id,true,oX (dy q s.id).2 {s with ad:=tt})
def vR(q:List (List hx))(a mask:Int):Bool:=(lh q a mask false).isSome
def gH(K:KS):Int:=17+8*K.wk.length
def KC.cells(C:KC):Int:=C.wide+C.narrow
def tell(K:KS)(e:Ev):KS:={K with out:=K.out++[{e with at_:=K.at_,w:=K.w}]}
def cx(K:KS)(id:Int):Int:=(fq K.table id).1.state
def cc(K:KS)(id:Int):KS:={K with table:=(jJ K.table id 1).2,ring:=(g6 K.ring id).2,mem:=(K.mem.acc 3 0 0 1).2}
def KS.W(K:KS)(i:Nat):ak:=K.wk.getD i default
def KS.be(K:KS)(i:Nat)(x:ak):KS:={K with wk:=K.wk.set i x}
def KS.T(K:KS)(id:Int):Thread:=(aw K.ai id).getD default
def KS.b9(K:KS)(id:Int)(t:Thread):KS:={K with ai:=b8 K.ai id t}
def gv(C:KC)(K:KS)(i:Nat):KS:=K.be i {K.W i with f:={(K.W i).f with pc:=C.loop,back:=[]}}
def ds(C:KC)(K:KS)(i:Nat):KS:=gv C (K.be i {K.W i with slot:=0}) i
inductive bK where
 |own (i:Nat)
 |ai (id:Int) (k:Nat)
def KS.F(K:KS):bK->cE
 |.own i=>(K.W i).f
 |.ai id k=>((K.T id).l.getD k default).f
def KS.cH(K:KS)(c:bK)(f:cE):KS:=
 match c with
 |.own i=>K.be i {K.W i with f:=f}
 |.ai id k=>K.b9 id {K.T id with l:=(K.T id).l.set k {(K.T id).l.getD k default with f:=f}}
def KS.au(K:KS)(c:bK)(k:Nat)(x:Int):KS:=K.cH c {K.F c with r:=fO (K.F c).r k x}
def KS.ft(K:KS)(c:bK):KS:=K.cH c {K.F c with pc:=wrap64 ((K.F c).pc+1)}
def KS.top(K:KS)(id:Int):Nat:=(K.T id).l.length-1
def hd(K:KS)(a:Int):Int×KS:=(((K.mem.acc 0 a 0 0).1).getD 0,{K with mem:=(K.mem.acc 0 a 0 0).2})
def iD(op:Int):Bool:=(eV op).1
def iS(K:KS)(a:Int):KS:={K with blocks:=(mr K.blocks K.mem a).2.1,mem:=(mr K.blocks K.mem a).2.2}
def ef(K:KS)(id a:Int):KS:=if cx K id=0 then iS K (wrap64 a)else K
def mw(C:KC)(K:KS)(i:Nat)(id:Int):KS:=
 let K:={K with table:=(fW K.table id 0).2}
 let x:=(fq K.table id).1
 let K:={K with table:=(eF K.table id).2}
 let K:={K with q:=(dy K.q id).2}
 let K:={K with clock:=(K.clock.bl id).2}
 let K:=tell K ⟨7,0,0,id,0,0,0,0,0,x.value,0⟩
 let K:=ds C K i
 let K:={K with ai:=fk K.ai id}
 ef K id x.home
def dh(K:KS)(id:Int)(num code v:Int):KS:=
 let K:=K.au (.ai id (K.top id)) 0 code
 let K:=K.au (.ai id (K.top id)) 1 v
 tell K ⟨2,0,0,id,num,0,0,0,0,v,code⟩
def er(K:KS)(id:Int)(code v:Int):KS:=
 let n:=K.top id
 let num:=((K.T id).l.getD n default).num
 dh (K.b9 id {K.T id with l:=(K.T id).l.take n}) id num code v
def cY(K:KS)(id:Int)(c:bK)(x:aV):KS:=
 if x.m=0 then K else
 let code:=if iD x.op then(K.F c).r x.a.toNat else 0
 if x.wh=0∨((x.wh==1)=(code==0))then tell K ⟨5,0,0,id,x.m,0,0,0,0,(K.F c).r 0,code⟩else K
def cr(C:KC)(K:KS):List (Int×Int)->Int
 |[]=>0
 |(k,a)::l=>
  if k=0 then cr C K l
  else if k=7 then(if IntKind.u64.wrap C.cells<=a then 22 else cr C K l)
  else if(ga K.cV a k).isNone then 22 else cr C K l
def cI(C:KC)(K:KS)(id num:Int)(a0 a1 a2 a3:Int):Int:=
 if 1000<=num∨C.rows.getD num.toNat 0=0 then 38
 else if 7<=(K.T id).l.length/\num≠2 then 11
 else
  let r:=C.calls.getD (C.rows.getD num.toNat 0-1).toNat default
  cr C K [(r.k0,a0),(r.k1,a1),(r.k2,a2),(r.k3,a3)]
def da(K:KS)(k a:Int):Int:=
 if k=0 then a else if k=7 then IntKind.u64.wrap (IntKind.u64.wrap (gH K)+a)else(ga K.cV a k).getD 0
def gX(C:KC)(K:KS)(id:Int)(k:Nat)(num:Int):KS:=
 let f:=K.F (.ai id k)
 let a0:=f.r 0
 let a1:=f.r 1
 let a2:=f.r 2
 let a3:=f.r 3
 let K:=tell K ⟨1,0,0,id,num,a0,a1,a2,a3,0,0⟩
 let c:=cI C K id num a0 a1 a2 a3
 if c≠0 then dh K id num c 0
 else
  let r:=C.calls.getD (C.rows.getD num.toNat 0-1).toNat default
  let a:Nat->Int:=fun j=>if j=0 then da K r.k0 a0 else if j=1 then da K r.k1 a1 else if j=2 then da K r.k2 a2 else if j=3 then da K r.k3 a3 else if j=30 then a0 else if j=31 then IntKind.u64.wrap num else 0
  K.b9 id {K.T id with l:=(K.T id).l++[⟨⟨r.at_,a,[]⟩,true,num⟩]}
def eN(C:KC)(K:KS)(i:Nat)(id:Int)(k:Nat)(v:Int):KS:=
 let K:=K.au (.ai id k) 0 v
 let K:=K.ft (.ai id k)
 if 0<C.rows.getD 2 0 then gX C K id k 2
 else mw C {K with table:=(fW K.table id v).2} i id
def eB(K:KS)(i:Nat)(id:Int):KS:=
 if(K.W i).hand≠0∨cx K id≠1 then K
 else if K.wk.any (fun x=>x.hand==id)then K
 else if K.ring.any (fun r=>r==id)then K
 else K.be i {K.W i with hand:=id}
def eg(K:KS)(i:Nat)(id:Int):KS:=
 if(K.W i).hand≠0 then cc K id
 else
  let K:={K with table:=(jJ K.table id 1).2}
  K.be i {K.W i with hand:=id}
def bF(K:KS)(place a:Int):Int×KS:=
 match c' K.blocks K.mem 1 with
 |(none,b,m)=>(0,{K with blocks:=b,mem:=m})
 |(some h,b,m)=>
  let K:={K with blocks:=b,mem:=m}
  match db K.table h with
  |(none,t)=>(0,iS {K with table:=t} h)
  |(some id,t)=>(id,{K with table:=t,ai:=b8 K.ai id ⟨id,[⟨⟨place,fun j=>if j=0 then a else 0,[]⟩,false,0⟩],0⟩})
def aB(C:KC)(K:KS)(i:Nat)(id:Int)(c:bK)(x:aV):Int×KS:=
 let f:=K.F c
 let a:=f.r x.a.toNat
 if x.op=24 then
  let p:=kn K.q id (f.r x.b.toNat) (f.r x.c.toNat)
  if p.1 then(0,{K with q:=p.2,clock:=(K.clock.arm id a).2})else(0,{K with q:=p.2})
 else if x.op=28 then
  match hJ K.q id with
  |some _=>(1,ds C {K with table:=(jJ K.table id 3).2} i)
  |none=>(0,K.au c x.a.toNat (K.T id).eM)
 else if x.op=51 then(0,{K with table:=(g9 K.table a id).2})
 else if x.op=53 then(0,{K with table:=(fW K.table id a).2})
 else if x.op=55 then(1,mw C K i id)
 else if x.op=56 then(0,ds C (cc K id) i)
 else if x.op=57 then
  if a<C.bn.length/\(K.T id).l.length<8 then(0,K.b9 id {K.T id with l:=(K.T id).l++[⟨⟨wrap64 a,fun _=>0,[]⟩,false,0⟩]})else(0,K)
 else if x.op=58 then(1,er K id (f.r 0) (f.r 1))
 else(0,K)
def bb(K:KS)(i:Nat)(c:bK)(x:aV):Int×KS:=
 let f:=K.F c
 let at_:=du f.r x
 let a:=f.r x.a.toNat
 if x.op=31 then
  let p:=K.mem.acc 1 at_ 0 a
  let K:={K with mem:=p.2}
  if p.1.isNone then(2,K)else(0,K.be i {K.W i with hand:=0})
 else
  let p:=K.mem.acc 4 at_ a (f.r x.c.toNat)
  let K:={K with mem:=p.2}
  match p.1 with
  |none=>(2,K)
  |some held=>
   let K:=K.au c x.a.toNat held
   if held=gT (K.mem.wid at_) a then(0,eB K i ((K.F c).r 16))else(0,K)
def bU(K:KS)(i:Nat)(c:bK)(x:aV):KS:=
 let a:=(K.F c).r x.a.toNat
 if x.op=30 then eB K i a
 else if x.op=33 then
  if(K.W i).hand≠0 then
   let K:=cc K (K.W i).hand
   K.be i {K.W i with hand:=0}
  else K
 else if x.op=34 then
  let K:=K.au c x.a.toNat 0
  if(K.W i).hand=0 then
   let p:=gG K.ring
   let K:={K with ring:=p.2.2}
   let K:=K.be i {K.W i with hand:=p.1}
   K.au c x.a.toNat (K.W i).hand
  else K
 else if x.op=35 then
  if(K.W i).hand≠0/\a=(K.W i).hand/\(K.W i).slot=0 then
   let K:=K.be i {K.W i with slot:=(K.W i).hand,hand:=0,left:=24}
   {K with table:=(jJ K.table (K.W i).slot 2).2}
  else K
 else K
def bd(K:KS)(c:bK)(x:aV):KS:=
 let f:=K.F c
 let a:=f.r x.a.toNat
 if x.op=43 then
  let n:=if 0<=x.b then f.r x.b.toNat else x.v
  let K:=K.au c x.a.toNat 0
  if n<=4096 then
   let g:=c' K.blocks K.mem n.toNat
   let K:={K with blocks:=g.2.1,mem:=g.2.2}
   K.au c x.a.toNat (match g.1 with|some h=>(h:Int)|none=>0)
  else K
 else if x.op=44 then(if a<65536 then iS K a else K)
 else if x.op=45 then
  if x.v<=6 then
   let m:=fH K.cV x.v (f.r x.b.toNat)
   {K with cV:=m.2}.au c x.a.toNat (m.1.getD 0)
  else K.au c x.a.toNat 0
 else if x.op=46 then {K with cV:=(iC K.cV a).2}
 else K
def bu(C:KC)(K:KS)(i:Nat)(c:bK)(x:aV):KS:=
 let f:=K.F c
 let a:=f.r x.a.toNat
 let b:=f.r x.b.toNat
 if x.op=48 then
  if b<C.bn.length then
   let p:=bF K (wrap64 b) (f.r x.c.toNat)
   let K:=if p.1≠0 then eg p.2 i p.1 else p.2
   K.au c x.a.toNat p.1
  else K.au c x.a.toNat 0
 else if x.op=52 then
  let t:=(fq K.table a).1
  let l:=eZ K.table a
  let K:={K with table:=l.2}
  (if l.1 then ef K a t.home else K).au c x.a.toNat a
 else if x.op=54 then
  let r:=fs K.table b
  let K:={K with table:=r.2.2.2.2}
  (if r.2.2.2.1 then ef K b r.2.2.1 else K).au c x.a.toNat r.2.1
 else if x.op=49 then K.au c x.a.toNat (IntKind.u64.wrap (dV K.table b))
 else if x.op=50 then K.au c x.a.toNat (fq K.table b).1.home
 else K.au c x.a.toNat a
def bg(K:KS)(i:Nat)(c:bK)(x:aV):KS:=
 let f:=K.F c
 let b:=f.r x.b.toNat
 let a:=f.r x.c.toNat
 if x.op=25 then
  let p:=ez K.q b a
  let K:={K with q:=p.2.2}
  if p.2.1 then
   let K:={K with clock:=(K.clock.bl p.1).2}
   let K:=if(aw K.ai p.1).isSome then K.b9 p.1 {K.T p.1 with eM:=0}else K
   let K:=if cx K p.1=3 then eg K i p.1 else K
   K.au c x.a.toNat p.1
  else K.au c x.a.toNat 0
 else if x.op=26 then
  let p:=hK K.q b a
  {K with q:=p.2.2}.au c x.a.toNat p.1
 else if x.op=27 then K.au c x.a.toNat (if vR K.q b a then 1 else 0)
 else K.au c x.a.toNat 0
def gY(i:Int):Int:=IntKind.u64.wrap (17+3*i)
def hL(C:KC)(K:KS)(i:Nat)(id:Int)(c:bK)(x:aV):Int:=
 let b:=(K.F c).r x.b.toNat
 if x.op=23 then IntKind.u64.wrap (1+2*bc b 8)
 else if x.op=41 then K.clock.now
 else if x.op=37 then id
 else if x.op=40 then IntKind.u64.wrap K.wk.length
 else if x.op=42 then K.draw
 else if x.op=29 then(K.W i).hand
 else if x.op=38 then gY (wrap64 (IntKind.u64.wrap K.w%IntKind.u64.wrap K.wk.length))
 else if x.op=39 then gY (wrap64 (b%IntKind.u64.wrap K.wk.length))
 else if x.op=47 then(if b<C.bn.length then 1 else 0)
 else 0
def ay(C:KC)(K:KS)(i:Nat)(id:Option Int)(c:bK)(x:aV):Int×KS:=
 if x.op=24∨x.op=28∨x.op=51∨x.op=53∨x.op=55∨x.op=56∨x.op=57∨x.op=58 then
  match id with
  |none=>(0,K)
  |some id=>aB C K i id c x
 else if x.op=31∨x.op=32 then bb K i c x
 else if x.op=36 then
  let p:=hd K 0
  let a:=p.1==(p.2.F c).r x.a.toNat
  let K:=p.2.be i {p.2.W i with parked:=a}
  if a then(1,K)else(0,K)
 else if x.op=30∨x.op=33∨x.op=34∨x.op=35 then(0,bU K i c x)
 else if x.op=43∨x.op=44∨x.op=45∨x.op=46 then(0,bd K c x)
 else if x.op=48∨x.op=52∨x.op=54∨x.op=49∨x.op=50 then(0,bu C K i c x)
 else if x.op=25∨x.op=26∨x.op=27 then(0,bg K i c x)
 else if x.op=22 then(2,K)
 else(0,K.au c x.a.toNat (hL C K i (id.getD 0) c x))
def fu(l:List aV)(pc:Int):aV:=if 0<=pc/\pc<l.length then l.getD pc.toNat ⟨0,0,0,0,0,0,0⟩else⟨0,0,0,0,0,0,0⟩
def cy(C:KC)(K:KS)(c:bK):aV×Int×KS:=
 let s:=bD aF.acc C.dx (K.F c) K.mem
 (fu C.dx (K.F c).pc,s.1,({K with mem:=s.2.2}).cH c s.2.1)
def eu(C:KC)(K:KS)(i:Nat)(id:Option Int)(c:bK):aV×Int×KS:=
 let s:=cy C K c
 if s.2.1=1 then
  let p:=ay C s.2.2 i id c s.1
  if p.1=0 then(s.1,0,p.2.ft c)
  else if p.1=2 then(s.1,3,p.2)
  else(s.1,1,p.2)
 else s
def jT(C:KC)(K:KS)(i:Nat):KS:=
 let K:=K.be i {K.W i with parked:=false}
 let s:=eu C K i none (.own i)
 if s.2.1=0 then cY s.2.2 0 (.own i) s.1
 else if s.2.1=3∨s.2.1=2 then gv C s.2.2 i
 else s.2.2
def cz(C:KC)(K:KS)(i:Nat)(id:Int)(k:Nat):KS:=
 let s:=eu C K i (some id) (.ai id k)
 if s.2.1=0 then cY s.2.2 id (.ai id k) s.1
 else if s.2.1=3∨s.2.1=2 then er s.2.2 id 22 0
 else s.2.2
def bG(C:KC)(b:KS)(id op:Int)(S:aF×List Ev)(kind a e v:Int):Option Int×aF×List Ev:=
 if IntKind.u64.wrap C.cells<=a then(none,S)
 else
  let c:=IntKind.u64.wrap (IntKind.u64.wrap (gH b)+a)
  let p:=S.1.acc kind c e v
  match p.1 with
  |none=>(none,p.2,S.2)
  |some held=>
   let d:=p.2.acc 0 c 0 0
   (some held,d.2,S.2++[⟨3,b.at_,b.w,id,op,held,d.1.getD 0,0,0,a,0⟩])
def cu(C:KC)(K:KS)(i:Nat)(id:Int)(k:Nat):KS:=
 let c:=bK.ai id k
 let x:=fu C.bn (K.F c).pc
 let s:=bD (bG C K id x.op) C.bn (K.F c) (K.mem,K.out)
 let K:=({K with mem:=s.2.2.1,out:=s.2.2.2}).cH c s.2.1
 if s.1=1 then gX C (K.ft c) id k (wrap64 x.v)
 else if s.1=2 then
  if 0<K.top id then K.b9 id {K.T id with l:=(K.T id).l.take (K.top id)}
  else eN C K i id k ((K.F c).r 0)
 else if s.1=3 then
  let v:=if x.op≠15/\x.op≠0 then du (K.F c).r x else 0
  eN C (tell K ⟨4,0,0,id,x.op,0,0,0,0,v,0⟩) i id k 18446744073709551615
 else K
def fI(C:KC)(K:KS)(i:Nat):KS:=
 if(K.W i).slot=0 then jT C K i else
 let id:=(K.W i).slot
 let k:=K.top id
 let f:=(K.T id).l.getD k default
 if f.ca=false/\(K.W i).left=0 then ds C (cc K id) i
 else
  let K:=K.be i {K.W i with left:=max ((K.W i).left-1) 0}
  if f.ca then cz C K i id k else cu C K i id k
def cv(K:KS)(id:Int):KS:=
 let K:={K with q:=(dy K.q id).2}
 let K:=if(aw K.ai id).isSome then K.b9 id {K.T id with eM:=110}else K
 if cx K id=3 then cc K id else K
def gZ(K:KS):KS:=
 let t:=K.clock.tick
 let K:={K with clock:=t.1}
 let K:=tell K ⟨6,0,0,0,0,0,0,0,0,K.clock.now,0⟩
 t.2.foldl cv K
def gM(C:KC)(K:KS)(kind wk draw:Int):List Ev×KS:=
 let K:={K with at_:=K.entries,w:=-1,draw:=draw,entries:=wrap64 (K.entries+1)}
 let K:=if kind=2 then gZ K
  else if kind=1 then(if 0<=wk/\wk<K.wk.length then fI C {K with w:=wk} wk.toNat else K)
  else K
 (K.out,{K with out:=[]})
structure Fr(K K':KS):Prop where
 yo:K'.entries=K.entries
 at_:K'.at_=K.at_
 now:K'.clock.now=K.clock.now
 w:K'.w=K.w
 wl:K'.wk.length=K.wk.length
 out:∀e∈K'.out,e∈K.out∨e.at_=K.at_
theorem Fr.refl(K:KS):Fr K K:=⟨rfl,rfl,rfl,rfl,rfl,fun e h=>Or.inl h⟩
theorem Fr.trans{a b c:KS}(h:Fr a b)(g:Fr b c):Fr a c:=⟨g.yo.trans h.yo,g.at_.trans h.at_,g.now.trans h.now,g.w.trans h.w,g.wl.trans h.wl,fun e f=>by
 rcases g.out e f with d|d
 ·exact h.out e d
 ·exact Or.inr (d.trans h.at_)⟩
theorem Fr.th{a b c:KS}(g:Fr b c)(h:Fr a b):Fr a c:=h.trans g
theorem Fr.of{K K':KS}(a:K'.entries=K.entries)(b:K'.at_=K.at_)(c:K'.w=K.w)(d:K'.out=K.out)(f:K'.clock.now=K.clock.now)(g:K'.wk.length=K.wk.length):Fr K K':=⟨a,b,f,c,g,fun e h=>Or.inl (d▸h)⟩
theorem ko(K:KS)(e:Ev):Fr K (tell K e):=⟨rfl,rfl,rfl,rfl,rfl,fun x a=>by
 rcases List.mem_append.1 a with h|h
 ·exact Or.inl h
 ·exact Or.inr (by rw[List.mem_singleton.1 h])⟩
theorem ev(K:KS)(i:Nat)(x:ak):Fr K (K.be i x):=Fr.of rfl rfl rfl rfl rfl (by simp[KS.be])
theorem jv(K:KS)(id:Int)(t:Thread):Fr K (K.b9 id t):=Fr.of rfl rfl rfl rfl rfl rfl
theorem mF(K:KS)(c:bK)(f:cE):Fr K (K.cH c f):=by
 cases c
 ·exact ev _ _ _
 ·exact jv _ _ _
theorem bT(K:KS)(c:bK)(k:Nat)(x:Int):Fr K (K.au c k x):=mF _ _ _
theorem pY(K:KS)(c:bK):Fr K (K.ft c):=mF _ _ _
theorem jw(K:KS)(id:Int):Fr K (cc K id):=Fr.of rfl rfl rfl rfl rfl rfl
theorem q'(C:KC)(K:KS)(i:Nat):Fr K (gv C K i):=ev _ _ _
theorem kp(C:KC)(K:KS)(i:Nat):Fr K (ds C K i):=(ev _ _ _).trans (q' _ _ _)
theorem uJ(K:KS)(a:Int):Fr K (hd K a).2:=Fr.of rfl rfl rfl rfl rfl rfl
theorem sZ(K:KS)(a:Int):Fr K (iS K a):=Fr.of rfl rfl rfl rfl rfl rfl
theorem ba{K a B:KS}{p:Prop} [Decidable p](b:Fr K a)(c:Fr K B):Fr K (if p then a else B):=by
 split
 ·exact b
 ·exact c
theorem pZ(K:KS)(id a:Int):Fr K (ef K id a):=ba (sZ _ _) (Fr.refl _)
theorem jU(S:aN)(id:Int):(S.bl id).2.now=S.now:=by
 unfold aN.bl
 split<;>rfl
theorem AU(S:aN)(id dl:Int):(S.arm id dl).2.now=S.now:=by
 unfold aN.arm;split
 ·rfl
 ·split
  ·rfl
  ·split<;>rfl
theorem yp(C:KC)(K:KS)(i:Nat)(id:Int):Fr K (mw C K i id):=by
 unfold mw;refine Fr.trans ?_ (pZ _ _ _);have b:∀a:KS,Fr K a->Fr K ({ds C a i with ai:=fk (ds C a i).ai id}:KS):=fun a h=>(h.trans (kp C a i)).trans (Fr.of rfl rfl rfl rfl rfl rfl)
 refine b _ ?_;refine Fr.trans ?_ (ko _ _);exact Fr.of rfl rfl rfl rfl (jU _ _) rfl
theorem l7(K:KS)(id num code v:Int):Fr K (dh K id num code v):=by
 unfold dh;refine Fr.trans ?_ (ko _ _);exact(bT _ _ _ _).trans (bT _ _ _ _)
theorem oY(K:KS)(id code v:Int):Fr K (er K id code v):=(jv _ _ _).trans (l7 _ _ _ _ _)
theorem uK(K:KS)(id:Int)(c:bK)(x:aV):Fr K (cY K id c x):=by
 unfold cY;exact ba (Fr.refl _) (ba (ko _ _) (Fr.refl _))
theorem uL(C:KC)(K:KS)(id:Int)(k:Nat)(num:Int):Fr K (gX C K id k num):=by
 unfold gX;dsimp only;exact(ko _ _).trans (ba (l7 _ _ _ _ _) (jv _ _ _))
theorem uM(C:KC)(K:KS)(i:Nat)(id:Int)(k:Nat)(v:Int):Fr K (eN C K i id k v):=by
 unfold eN;dsimp only;refine((bT _ _ _ _).trans (pY _ _)).trans (ba (uL _ _ _ _ _) ?_);refine Fr.trans ?_ (yp _ _ _ _);exact Fr.of rfl rfl rfl rfl rfl rfl
theorem uN(K:KS)(i:Nat)(id:Int):Fr K (eB K i id):=by
 unfold eB;exact ba (Fr.refl _) (ba (Fr.refl _) (ba (Fr.refl _) (ev _ _ _)))
theorem uO(K:KS)(i:Nat)(id:Int):Fr K (eg K i id):=by
 unfold eg;refine ba (jw _ _) ?_;exact Fr.th (ev _ _ _) (Fr.of rfl rfl rfl rfl rfl rfl)
theorem p0(K:KS)(p r:Int):Fr K (bF K p r).2:=by
 unfold bF;split
 ·exact Fr.of rfl rfl rfl rfl rfl rfl
 ·dsimp only
  split
  ·exact Fr.th (sZ _ _) (Fr.of rfl rfl rfl rfl rfl rfl)
  ·exact Fr.of rfl rfl rfl rfl rfl rfl
theorem cg{K:KS}{a B:Int×KS}{p:Prop} [Decidable p](b:Fr K a.2)(c:Fr K B.2):Fr K (if p then a else B).2:=by
 split
 ·exact b
 ·exact c
theorem ra(C:KC)(K:KS)(i:Nat)(id:Int)(c:bK)(x:aV):Fr K (aB C K i id c x).2:=by
 unfold aB;dsimp only;refine cg (cg (Fr.of rfl rfl rfl rfl (AU _ _ _) rfl) (Fr.of rfl rfl rfl rfl rfl rfl)) (cg ?_ (cg (Fr.of rfl rfl rfl rfl rfl rfl) (cg (Fr.of rfl rfl rfl rfl rfl rfl) (cg (yp _ _ _ _) (cg ?_ (cg (cg (jv _ _ _) (Fr.refl _)) (cg (oY _ _ _ _) (Fr.refl _))))))))
 ·split
  ·exact Fr.th (kp _ _ _) (Fr.of rfl rfl rfl rfl rfl rfl)
  ·exact bT _ _ _ _
 ·exact(jw _ _).trans (kp _ _ _)
theorem rf(K:KS)(i:Nat)(c:bK)(x:aV):Fr K (bb K i c x).2:=by
 unfold bb;dsimp only;refine cg ?_ ?_
 ·refine cg (Fr.of rfl rfl rfl rfl rfl rfl) ?_
  exact Fr.th (ev _ _ _) (Fr.of rfl rfl rfl rfl rfl rfl)
 ·split
  ·exact Fr.of rfl rfl rfl rfl rfl rfl
  ·refine cg ?_ ?_
   ·exact Fr.th (uN _ _ _) (Fr.th (bT _ _ _ _) (Fr.of rfl rfl rfl rfl rfl rfl))
   ·exact Fr.th (bT _ _ _ _) (Fr.of rfl rfl rfl rfl rfl rfl)
theorem yq(K:KS)(i:Nat)(c:bK)(x:aV):Fr K (bU K i c x):=by
 unfold bU;dsimp only;refine ba (uN _ _ _) (ba (ba ((jw _ _).trans (ev _ _ _)) (Fr.refl _)) (ba ?_ (ba (ba ?_ (Fr.refl _)) (Fr.refl _))))
 ·refine(bT _ _ _ _).trans (ba ?_ (Fr.refl _))
  exact Fr.th (bT _ _ _ _) (Fr.th (ev _ _ _) (Fr.of rfl rfl rfl rfl rfl rfl))
 ·exact(ev _ _ _).trans (Fr.of rfl rfl rfl rfl rfl rfl)
theorem vS(K:KS)(c:bK)(x:aV):Fr K (bd K c x):=by
 unfold bd;dsimp only;refine ba ?_ (ba (ba (sZ _ _) (Fr.refl _)) (ba (ba ?_ (bT _ _ _ _)) (ba (Fr.of rfl rfl rfl rfl rfl rfl) (Fr.refl _))))
 ·refine(bT _ _ _ _).trans (ba ?_ (Fr.refl _))
  exact Fr.th (bT _ _ _ _) (Fr.of rfl rfl rfl rfl rfl rfl)
 ·exact Fr.th (bT _ _ _ _) (Fr.of rfl rfl rfl rfl rfl rfl)
theorem vT(C:KC)(K:KS)(i:Nat)(c:bK)(x:aV):Fr K (bu C K i c x):=by
 unfold bu;dsimp only;refine ba (ba ?_ (bT _ _ _ _)) (ba ?_ (ba ?_ (ba (bT _ _ _ _) (ba (bT _ _ _ _) (bT _ _ _ _)))))
 ·refine Fr.trans ?_ (bT _ _ _ _)
  exact ba ((p0 _ _ _).trans (uO _ _ _)) (p0 _ _ _)
 ·refine Fr.trans ?_ (bT _ _ _ _)
  exact ba (Fr.th (pZ _ _ _) (Fr.of rfl rfl rfl rfl rfl rfl)) (Fr.of rfl rfl rfl rfl rfl rfl)
 ·refine Fr.trans ?_ (bT _ _ _ _)
  exact ba (Fr.th (pZ _ _ _) (Fr.of rfl rfl rfl rfl rfl rfl)) (Fr.of rfl rfl rfl rfl rfl rfl)
theorem rh(K:KS)(i:Nat)(c:bK)(x:aV):Fr K (bg K i c x):=by
 unfold bg;dsimp only;refine ba (ba ?_ ?_) (ba ?_ (ba (bT _ _ _ _) (bT _ _ _ _)))
 ·refine Fr.trans ?_ (bT _ _ _ _)
  have h:∀a:KS,Fr K a->Fr K (if cx a (ez K.q ((K.F c).r x.b.toNat) ((K.F c).r x.c.toNat)).1=3 then eg a i (ez K.q ((K.F c).r x.b.toNat) ((K.F c).r x.c.toNat)).1 else a):=fun a b=>ba (b.trans (uO _ _ _)) b
  refine h _ (ba ?_ ?_)
  ·exact Fr.th (jv _ _ _) (Fr.of rfl rfl rfl rfl (jU _ _) rfl)
  ·exact Fr.of rfl rfl rfl rfl (jU _ _) rfl
 ·exact Fr.th (bT _ _ _ _) (Fr.of rfl rfl rfl rfl rfl rfl)
 ·exact Fr.th (bT _ _ _ _) (Fr.of rfl rfl rfl rfl rfl rfl)
theorem s'(C:KC)(K:KS)(i:Nat)(id:Option Int)(c:bK)(x:aV):Fr K (ay C K i id c x).2:=by
 unfold ay;refine cg ?_ (cg (rf _ _ _ _) (cg ?_ (cg (yq _ _ _ _) (cg (vS _ _ _) (cg (vT _ _ _ _ _) (cg (rh _ _ _ _) (cg (Fr.refl _) (bT _ _ _ _))))))))
 ·split
  ·exact Fr.refl _
  ·exact ra _ _ _ _ _ _
 ·dsimp only
  exact cg ((uJ _ _).trans (ev _ _ _)) ((uJ _ _).trans (ev _ _ _))
theorem yr(C:KC)(K:KS)(c:bK):Fr K (cy C K c).2.2:=by
 unfold cy;exact Fr.th (mF _ _ _) (Fr.of rfl rfl rfl rfl rfl rfl)
theorem ys(C:KC)(K:KS)(i:Nat)(id:Option Int)(c:bK):Fr K (eu C K i id c).2.2:=by
 unfold eu;dsimp only;have h:=yr C K c;have g:=fun x=>s' C (cy C K c).2.2 i id c x
 split
 ·split
  ·exact(h.trans (g _)).trans (pY _ _)
  ·split
   ·exact h.trans (g _)
   ·exact h.trans (g _)
 ·exact h
theorem Cz(C:KC)(K:KS)(i:Nat):Fr K (jT C K i):=by
 unfold jT;dsimp only;refine(ev K i {K.W i with parked:=false}).trans ?_;have h:=ys C (K.be i {K.W i with parked:=false}) i none (.own i);exact ba (h.trans (uK _ _ _ _)) (ba (h.trans (q' _ _ _)) h)
theorem ta(C:KC)(K:KS)(i:Nat)(id:Int)(k:Nat):Fr K (cz C K i id k):=by
 unfold cz;dsimp only;have h:=ys C K i (some id) (.ai id k);exact ba (h.trans (uK _ _ _ _)) (ba (h.trans (oY _ _ _ _)) h)
theorem vU{c:Type}(P:c->Prop)(acc:c->Int->Int->Int->Int->Option Int×c)(d:∀S k a g v,P S->P (acc S k a g v).2)(l:List aV)(f:cE)(S:c)(b:P S):P (bD acc l f S).2.2:=by
 have e:∀x r,P (cK acc S x r).2:=fun x r=>by
  unfold cK;dsimp only
  repeat' split
  all_goals first|exact b|exact d _ _ _ _ _ b
 unfold bD;split
 ·exact b
 ·split
  ·exact b
  ·split
   ·exact b
   ·split
    ·exact b
    ·split
     ·rename_i x _ _ _ _
      have h:=e x f.r;split
      ·rename_i q;rw[q]at h;exact h
      ·rename_i q;rw[q]at h;exact h
     ·split
      ·exact b
      ·exact b
theorem vV(C:KC)(K:KS)(i:Nat)(id:Int)(k:Nat):Fr K (cu C K i id k):=by
 unfold cu;dsimp only;obtain⟨s,d⟩:=nm (bD (bG C K id (fu C.bn (K.F (.ai id k)).pc).op) C.bn (K.F (.ai id k)) (K.mem,K.out));have j:∀e∈s.2.2.2,e∈K.out∨e.at_=K.at_:=by
  rw[<-d];refine vU (fun S:aF×List Ev=>∀e∈S.2,e∈K.out∨e.at_=K.at_) _ (fun S q a l v c=> ?_) _ _ _ (fun e h=>Or.inl h);unfold bG;split
  ·exact c
  ·dsimp only
   split
   ·exact c
   ·intro e g
    rcases List.mem_append.1 g with h|h
    ·exact c e h
    ·exact Or.inr (by rw[List.mem_singleton.1 h])
 rw[d];have f:Fr K ({K with mem:=s.2.2.1,out:=s.2.2.2}:KS):=⟨rfl,rfl,rfl,rfl,rfl,j⟩;have b:=f.trans (mF _ (.ai id k) s.2.1);refine ba (b.trans ((pY _ _).trans (uL _ _ _ _ _))) (ba (ba (b.trans (jv _ _ _)) (b.trans (uM _ _ _ _ _ _))) (ba (b.trans ((ko _ _).trans (uM _ _ _ _ _ _))) b))
theorem AV(C:KC)(K:KS)(i:Nat):Fr K (fI C K i):=by
 unfold fI;dsimp only;refine ba (Cz _ _ _) (ba ((jw _ _).trans (kp _ _ _)) ?_);exact(ev _ _ _).trans (ba (ta _ _ _ _ _) (vV _ _ _ _ _))
theorem p4(K:KS)(id:Int):(cv K id).entries=K.entries/\(cv K id).at_=K.at_/\(cv K id).clock=K.clock/\(cv K id).w=K.w/\(cv K id).out=K.out/\(cv K id).wk=K.wk:=by
 unfold cv;dsimp only
 repeat' split
 all_goals exact⟨rfl,rfl,rfl,rfl,rfl,rfl⟩
theorem ng:∀(l:List Int) (K:KS),(l.foldl cv K).entries=K.entries/\(l.foldl cv K).at_=K.at_/\(l.foldl cv K).clock=K.clock/\(l.foldl cv K).w=K.w/\(l.foldl cv K).out=K.out/\(l.foldl cv K).wk=K.wk
 |[],K=>⟨rfl,rfl,rfl,rfl,rfl,rfl⟩
 |id::l,K=>by
  obtain⟨a1,a2,a3,a,b,c⟩:=ng l (cv K id);obtain⟨d,e,f,g,h,i⟩:=p4 K id;exact⟨a1.trans d,a2.trans e,a3.trans f,a.trans g,b.trans h,c.trans i⟩
theorem nh:∀(n:Nat) (S:aN) (l:List Int),(ed n S l).1.now=S.now
 |0,S,l=>by unfold ed;rfl
 |n+1,S,l=>by
  unfold ed
  repeat' split
  all_goals first|rfl|exact nh n _ _
theorem uP(C:KC)(K:KS)(wk draw:Int)(h:K.out=[]):
 (gM C K 2 wk draw).1=[⟨6,K.entries,-1,0,0,0,0,0,0,IntKind.u64.wrap (K.clock.now+1),0⟩]/\(gM C K 2 wk draw).2.entries=wrap64 (K.entries+1)/\(gM C K 2 wk draw).2.clock.now=IntKind.u64.wrap (K.clock.now+1)/\(gM C K 2 wk draw).2.out=[]/\(gM C K 2 wk draw).2.wk.length=K.wk.length:=by
 have a:(K.clock.tick).1.now=IntKind.u64.wrap (K.clock.now+1):=nh _ _ _;unfold gM;dsimp only;rw[if_pos rfl];unfold gZ;dsimp only;obtain⟨a1,a2,a3,d,b,c⟩:=ng (K.clock.tick).2 (tell ({K with at_:=K.entries,w:=-1,draw:=draw,entries:=wrap64 (K.entries+1),clock:=(K.clock.tick).1}:KS) ⟨6,0,0,0,0,0,0,0,0,(K.clock.tick).1.now,0⟩);refine⟨?_,?_,?_,rfl,?_⟩
 ·rw[b]
  show K.out++[_]=_
  rw[h,a];rfl
 ·rw[a1];rfl
 ·rw[a3];exact a
 ·rw[c];rfl
theorem BS(C:KC)(K:KS)(kind wk draw:Int)(h:K.out=[])(d:kind≠2):
 (∀e∈(gM C K kind wk draw).1,e.at_=K.entries)/\(gM C K kind wk draw).2.entries=wrap64 (K.entries+1)/\(gM C K kind wk draw).2.clock.now=K.clock.now/\(gM C K kind wk draw).2.out=[]/\(gM C K kind wk draw).2.wk.length=K.wk.length:=by
 unfold gM;dsimp only;rw[if_neg d];split
 ·split
  ·have f:=AV C ({K with at_:=K.entries,w:=wk,draw:=draw,entries:=wrap64 (K.entries+1)}:KS) wk.toNat
   refine⟨fun e b=> ?_,f.yo,f.now,rfl,f.wl⟩;rcases f.out e b with c|c
   ·have a:e∈K.out:=c
    rw[h]at a;cases a
   ·exact c
  ·refine⟨fun e b=> ?_,rfl,rfl,rfl,rfl⟩
   have a:e∈K.out:=b;rw[h]at a;cases a
 ·refine⟨fun e b=> ?_,rfl,rfl,rfl,rfl⟩
  have a:e∈K.out:=b;rw[h]at a;cases a
theorem AW(C:KC)(K:KS)(kind wk draw:Int)(h:K.out=[])(a:kind≠2)(b:kind≠1∨wk<0∨(K.wk.length:Int)<=wk):(gM C K kind wk draw).1=[]:=by
 unfold gM;dsimp only;rw[if_neg a];split
 ·rw[if_neg (by omega)];exact h
 ·exact h
structure Sl where
 id:Int
 ad:Int
 mask:Int
 b:Nat
def ptrTo:Option Nat->Value
 |none=> .pointer none
 |some b=> .pointer (some (b,0))
def kq(w:World):Option Nat->List Sl->Prop
 |_,[]=>True
 |p,s::r=>Row w s.b 256 [.int .u64 s.id,.int .u64 s.ad,.int .u64 s.mask,ptrTo p,ptrTo (r.head?.map Sl.b)]/\kq w (some s.b) r
theorem kq.ch{w w':World}{D:Nat->Prop}(c:Ch D w w'):∀{p:Option Nat} {l:List Sl},kq w p l->(∀s∈l,¬D s.b)->kq w' p l
 |_,[],_,_=>trivial
 |_,s::r,h,a=>⟨h.1.ch c (a s (by simp)),kq.ch c h.2 (fun x b=>a x (by simp[b]))⟩
def bO(l:List Sl):List Value:=[ptrTo (l.head?.map Sl.b),ptrTo (l.getLast?.map Sl.b)]
theorem dF(qb lb:Nat)(g:Value)(a:Int)(n c:Nat)(d:1<=n)(f:n<=64)(w:World)(h:Row w qb 214 [.slice (some (lb,0)) n c,g]):
 Calls prog 123 #[(qb,0),.int .u64 a] w (d' (.int .i64 (bc a n)) w):=by
 have i:=h.c1;have b:=Z (fun w=>mV a n d f w);clear h;go_enter func123,ntmps123
 go_wp2_with (go_at_call 149;refine(b _).mono ?_;rintro e w' ⟨rfl,rfl⟩)
 go_ret;exact d'.mk rfl
end Go.Proofs.YtfnilkpkogipfaaGreatDoor
