import Derived.Deep.RegionHeld3
import Derived.StillTail
import Derived.Test.YtfnilkpkogipfaaGreatDoorZBs
set_option linter.all false
set_option maxRecDepth 100000
set_option maxHeartbeats 8000000
namespace Go.Proofs.YtfnilkpkogipfaaGreatDoor
open Go.RowKit Go.Proofs.Tryz
structure fe where
 Al:Int
 a:Int
 b:Int
 c:Int
 d:Int
def Ds(x:fe):List Value:=[.int .i64 x.Al,.int .u64 x.a,.int .u64 x.b,.int .u64 x.c,.int .u64 x.d]
def gJ(b:Int):Int:=if b%5=0 then 18446744073709551615 else b%60
theorem sE(b:Int)(hb:aH b)(w:World):Calls prog 86 #[.int .u64 b] w (d' (.int .u64 (gJ b)) w):=by
 have d:=hb.1;have e:=hb.2;by_cases h:b%5=0
 ·have a:Hid (gJ b=18446744073709551615):=Z (by unfold gJ;rw[if_pos h])
  have c:(b%5==0)=true:=by rw[beq_iff_eq];exact h
  clear h;go_enter func86,ntmps86
  go_wp2
  go_ret;exact d'.mk (congrArg (Value.int .u64) a)
 ·have a:Hid (gJ b=b%60):=Z (by unfold gJ;rw[if_neg h])
  have c:(b%5==0)=false:=by rw[beq_eq_false_iff_ne];exact h
  clear h;go_enter func86,ntmps86
  go_wp2
  go_ret;exact d'.mk (congrArg (Value.int .u64) a)
def mQ:List Int:=[900,901,902,903,904,70,71,72,73]
def z1(w:World)(e:Ending)(w':World):Prop:=∃g cap,e=.returned (.slice (some ⟨g,0,none⟩) 9 cap)/\9<=cap/\(∀k v,mQ[k]?=some v->w'.cell? ⟨g,k,none⟩=some (.int .i64 v))/\Ch ag w w'
theorem xA(w:World):Calls prog 85 #[.int .i64 16] w (z1 w):=by
 obtain⟨G,j,C,E,F⟩:=info_parts kN;go_enter func85,ntmps85
 go_upto_region 3 with fail
 obtain⟨w1,c⟩:=nm (w.alloc (.cells #[.int .i64 900,.int .i64 901,.int .i64 902,.int .i64 903,.int .i64 904] 3));have g:=Z (Ch.al (D:=ag) c);have d:w1.ownsRow w.heap.size 3 1 (.slice (some (w.heap.size,0)) 5 5) 5 [.int .i64 900,.int .i64 901,.int .i64 902,.int .i64 903,.int .i64 904]:=mm (by rw[<-c];exact Row.new _ _ _) rfl (by decide) (Nat.le_refl _);have o:=Z j;have B:w.heap.size<=w1.heap.size:=g.size;obtain⟨f,b⟩:=nm w.heap.size;have q:=Z b;rw[c,b];rw[b]at d B;clear c b j;go_wp2_with (at_builtin;refine wpList_append_lies _ rfl _ _ _ rfl f 3 G _ 1 8 underlying79 o C E F rfl (by omega) (.slice (some (f,0)) 5 5) 5 [.int .i64 900,.int .i64 901,.int .i64 902,.int .i64 903,.int .i64 904] rfl (d.alloc _) ⟨w1.heap.size,0,none⟩ 4 4 [.int .i64 70,.int .i64 71,.int .i64 72,.int .i64 73] rfl rfl (World.news_of_block (cs:=#[.int .i64 70,.int .i64 71,.int .i64 72,.int .i64 73]) (t:=3) (fr:=(0,0)) (heap_alloc_new w1 _)) (by simp[Value.oneCell']) (by omega) (by unfold maxLen;omega) (by omega) (by simp;omega) (w1.heap.size+1) (by simp) ?_)
 intro u r w2 l h x M;have p:=Z l;have n:=Z h;clear l h x d;go_wp2_with fail
 go_ret;obtain⟨J,H,N,z,_,y,_,A,_⟩:=aS p (by decide);injection z with a _ s
 injection a with a
 injection a with a
 subst a;subst s;refine⟨u,r,rfl,y,fun k v m=>A.cell ?_,g.fresh (Ch.bQ (ax n)) (fun i K e=>by
  have I:f=i:=by simpa[Value.ownBlock]using e
  have:=q.out;omega)⟩
 have L:k<9:=(List.getElem?_eq_some_iff.1 m).1;rw[List.getElem?_append_left (by simp;omega)];have:(mQ.map (Value.int .i64))[k]?=some (.int .i64 v):=by rw[List.getElem?_map,m];rfl
 exact this
def cN(v n:Int):Int:=if n<1 then 0 else if Int.tmod v n<0 then Int.tmod v n+n else Int.tmod v n
theorem ot(v n:Int)(d:n<=1000000)(w:World):Calls prog 27 #[v,n] w (fun e w'=>e=.returned (.int .i64 (cN v n))/\w=w'):=by
 go_enter func27,ntmps27
 by_cases b:n<1
 ·have a:Hid (cN v n=0):=by show _=_;unfold cN;rw[if_pos b]
  go_wp2
  go_ret;rw[a];exact⟨rfl,rfl⟩
 ·have f:¬n=0:=by omega
  have g:=Int.tmod_lt_of_pos v (show 0<n by omega);have h:-n<Int.tmod v n:=by
   have:=Int.tmod_lt_of_pos (-v) (show 0<n by omega);rw[Int.neg_tmod]at this;omega
  by_cases c:Int.tmod v n<0
  ·have a:Hid (cN v n=Int.tmod v n+n):=by show _=_;unfold cN;rw[if_neg b,if_pos c]
   go_wp2
   go_ret;rw[a];exact⟨rfl,rfl⟩
  ·have a:Hid (cN v n=Int.tmod v n):=by show _=_;unfold cN;rw[if_neg b,if_neg c]
   go_wp2
   go_ret;rw[a];exact⟨rfl,rfl⟩
theorem dJ(v n:Int)(h:1<=n):0<=cN v n/\cN v n<n:=by
 unfold cN;have a:=Int.tmod_lt_of_pos v (show 0<n by omega);have b:-n<Int.tmod v n:=by
  have:=Int.tmod_lt_of_pos (-v) (show 0<n by omega);rw[Int.neg_tmod]at this;omega
 split
 ·omega
 ·split<;>omega
def ct(wk a:Int):Int×Int:=(1+cN wk 5,if Int.tmod a 5=0 then 60+cN a 90 else 200+cN a 400)
theorem kU(wk a:Int):1<=(ct wk a).1/\(ct wk a).1<=64/\1<=(ct wk a).2/\(ct wk a).2<=65536:=by
 have b:=dJ wk 5 (by decide);have c:=dJ a 90 (by decide);have d:=dJ a 400 (by decide);unfold ct;dsimp only
 split<;>omega
theorem ou(wk d:Int)(w:World):Calls prog 12 #[.agg #[wk,d]] w (dt (.agg #[.int .i64 (ct wk d).1,.int .i64 (ct wk d).2]) w):=by
 have y:=dJ wk 5 (by decide);have z:=dJ d 90 (by decide);have A:=dJ d 400 (by decide);have h:=Z (fun v n B w=>ot v n B w);have l:Hid ((ct wk d).1=1+cN wk 5):=Z rfl;obtain⟨a,s⟩:=nm (cN wk 5);obtain⟨b,hb⟩:=nm (cN d 90);obtain⟨c,o⟩:=nm (cN d 400);have i:=Z (h wk 5 (by decide));have r:=Z (h d 90 (by decide));have j:=Z (h d 400 (by decide));rw[s]at i y l;rw[hb]at r z;rw[o]at j A;have u:=Z hb;have x:=Z o;clear s hb o h;have w1:IntKind.i64.wrap (200+c)=200+c:=IntWalk.i64_in _ (by omega);have w2:IntKind.i64.wrap (60+b)=60+b:=IntWalk.i64_in _ (by omega);have E:IntKind.i64.wrap (1+a)=1+a:=IntWalk.i64_in _ (by omega);by_cases p:Int.tmod d 5=0
 ·have m:Hid ((ct wk d).2=60+b):=Z (by unfold ct;rw[if_pos p,u])
  go_enter func12,ntmps12
  go_wp2_with (first|(go_at_call 27;(with_reducible refine(j.out _).mono ?_);rintro e w' ⟨rfl,rfl⟩)|(go_at_call 27;(with_reducible refine(r.out _).mono ?_);rintro e w' ⟨rfl,rfl⟩)|(go_at_call 27;(with_reducible refine(i.out _).mono ?_);rintro e w' ⟨rfl,rfl⟩))
  obtain⟨C,g⟩:=nm ((w.alloc (.cells #[wk,d] 23)).alloc (.cells #[.int .i64 (1+a),.int .i64 (60+b)] 43));have f:=fB (w.alloc (.cells #[wk,d] 23)) (k:=w.heap.size+1) (by simp) (cs:=#[.int .i64 (1+a),.int .i64 (60+b)]) (t:=43) rfl;rw[g]at f⊢;obtain⟨y0,q⟩:=f.c2;refine bodyPost_ret (v:=.agg #[.int .i64 (1+a),.int .i64 (60+b)]) ?_ rfl ?_
  ·simp[results,Tryz.f12,go_sem,y0,q]
  ·rw[l,m,<-g]
   exact⟨rfl,((Ch.refl _ _).alloc _).alloc _⟩
 ·have m:Hid ((ct wk d).2=200+c):=Z (by unfold ct;rw[if_neg p,x])
  have D:(Int.tmod d 5==0)=false:=by simpa using p
  go_enter func12,ntmps12
  go_wp2_with (first|(go_at_call 27;(with_reducible refine(j.out _).mono ?_);rintro e w' ⟨rfl,rfl⟩)|(go_at_call 27;(with_reducible refine(i.out _).mono ?_);rintro e w' ⟨rfl,rfl⟩))
  obtain⟨C,g⟩:=nm ((w.alloc (.cells #[wk,d] 23)).alloc (.cells #[.int .i64 (1+a),.int .i64 (200+c)] 43));have f:=fB (w.alloc (.cells #[wk,d] 23)) (k:=w.heap.size+1) (by simp) (cs:=#[.int .i64 (1+a),.int .i64 (200+c)]) (t:=43) rfl;rw[g]at f⊢;obtain⟨y0,q⟩:=f.c2;refine bodyPost_ret (v:=.agg #[.int .i64 (1+a),.int .i64 (200+c)]) ?_ rfl ?_
  ·simp[results,Tryz.f12,go_sem,y0,q]
  ·rw[l,m,<-g]
   exact⟨rfl,((Ch.refl _ _).alloc _).alloc _⟩
section
class Chi(a b:World):Prop where
 zh:Ch ag a b
instance(a:World):Chi a a:=⟨Ch.refl _ _⟩
instance(a b:World) [c:Chi a b]:Chi a b.drew:=⟨c.zh.drew⟩
instance(a b:World)(o:Obj) [c:Chi a b]:Chi a (b.alloc o):=⟨c.zh.alloc o⟩
theorem chi{a b:World} [c:Chi a b]:Ch ag a b:=c.zh
section
variable{P:Program}{zmd:Region.Mode}{ops:Array Oper}{Q:Exit->Act->World->Prop}{S:World->Prop}{h:Nat->Bool}
def aaA(P:Program)(zmd:Region.Mode)(ops:Array Oper)(Q:Exit->Act->World->Prop)(S:World->Prop)(h:Nat->Bool):Nat->Array Bool->Act->World->Prop
 |0,listed,a,w=>Region.ready zmd ops listed=[]/\Q .normal a w
 |fuel+1,listed,a,w=>(Region.ready zmd ops listed=[]->Q .normal a w)/\
  ∀i∈Region.ready zmd ops listed,wpOp P ops Q i (fun b w'=>(h i=true->S w')/\aaA P zmd ops Q S h fuel (listed.setIfInBounds i true) b w') a w
theorem aaD:∀(fuel:Nat) (listed:Array Bool) (a:Act) (w:World),aaA P zmd ops Q S h fuel listed a w->wpAny P zmd ops Q fuel listed a w
 |0,_,_,_,h=>h
 |fuel+1,_,_,_,h=>⟨h.1,fun i d=>wpOp_mono (fun b w' c=>aaD fuel _ b w' c.2) (h.2 i d)⟩
def aaE(zmd:Region.Mode)(ops:Array Oper)(h:Nat->Bool)(listed:Array Bool)(i:Nat):Prop:=
 ∀j a,ops[j]?=some a->listed.getD j true=false->h j=true∨∃e∈a.after,Region.binds zmd e=true/\e.on=i
def aaL(zmd:Region.Mode)(ops:Array Oper)(h:Nat->Bool)(listed:Array Bool)(i:Nat):Bool:=
 (List.range ops.size).all fun j=>listed.getD j true||h j||(match ops[j]? with|some a=>a.after.any (fun e=>Region.binds zmd e&&e.on==i)|none=>true)
theorem aaI{i:Nat}{listed:Array Bool}(f:aaL zmd ops h listed i=true):aaE zmd ops h listed i:=fun j g c e=>by
 have a:=List.all_eq_true.1 f j (List.mem_range.2 (Array.getElem?_eq_some_iff.1 c).1);rw[c,e]at a;simp only[Bool.false_or,Bool.or_eq_true]at a;rcases a with a|a
 ·exact Or.inl a
 ·obtain⟨k,d,b⟩:=Array.any_eq_true.1 a
  simp only[Bool.and_eq_true,beq_iff_eq]at b;exact Or.inr ⟨_,Array.getElem_mem d,b⟩
theorem aaE.set{i j:Nat}{listed:Array Bool}(d:aaE zmd ops h listed i):aaE zmd ops h (listed.setIfInBounds j true) i:=fun k ok c a=>by
 by_cases e:j=k
 ·subst e
  rcases Nat.lt_or_ge j listed.size with b|b
  ·simp[b]at a
  ·simp[Array.getElem?_eq_none,b]at a
 ·rw[getD_set_ne true e]at a
  exact d k ok c a
theorem aaJ{i j:Nat}{c:Oper}{listed:Array Bool}(n:i∈Region.ready zmd ops listed)(k:j∈Region.ready zmd ops listed)(l:ops[j]?=some c):∀e∈c.after,Region.binds zmd e=true->e.on≠i:=fun e g hb heq=>by
 obtain⟨_,o,m,f⟩:=mem_ready.1 k;obtain rfl:o=c:=Option.some.inj (m.symm.trans l);have a:=f e g hb;have d:=(mem_ready.1 n).1;rw[heq]at a;rcases Nat.lt_or_ge i listed.size with b|b
 ·simp[b]at d a;rw[d]at a;cases a
 ·simp[Array.getElem?_eq_none b]at a
theorem aaC{p:World->Prop}{i:Nat}{l:Oper}{v:Value}(s:ops[i]?=some l)(D:∀(j:Nat) (G:Oper) cs b,ops[j]?=some G->G.op≠ .select cs b)
 (L:∀c a w,Q (.panic c) (a.put l.dst v) w->Q (.panic c) a w) (z:∀w,p w->h i=true->S w):
 ∀(fuel:Nat) (listed:Array Bool) (a:Act) (w:World),
  (∀j d,ops[j]?=some d->listed.getD j true=false->(∀e∈d.after,Region.binds zmd e=true->e.on≠i)->∀w',(h j=true->S w')->p w')->
  (∀j d,ops[j]?=some d->j≠i->listed.getD j true=false->(∀e∈d.after,Region.binds zmd e=true->e.on≠i)->l.apart ops d=true)->
  i∈Region.ready zmd ops listed->YieldsIf P ops p l v a->p w->
  aaA P zmd ops Q S h fuel (listed.setIfInBounds i true) (a.put l.dst v) w->aaA P zmd ops Q S h (fuel+1) listed a w:=by
 intro fuel
 induction fuel with
 |zero=>
  intro listed a w _ _ g r m H;refine⟨fun h=>(by rw[h]at g;cases g),fun j n=> ?_⟩;by_cases f:j=i
  ·subst f;exact r.wpOp s m ⟨z w m,H⟩
  ·have:=ready_mono n f
   rw[H.1]at this;cases this
 |succ fuel ih=>
  intro listed a w y A g r m H;refine⟨fun h=>(by rw[h]at g;cases g),fun j n=> ?_⟩;by_cases f:j=i
  ·subst f;exact r.wpOp s m ⟨z w m,H⟩
  ·have J:=H.2 j (ready_mono n f)
   obtain⟨t,d,o,N⟩:=mem_ready.1 n;have C:=aaJ g n o;have K:=wpOp_putIf o (A j d o f t C) (fun cs b=>D i l cs b s) (fun cs b=>D j d cs b o) L r J;have F:∀k,(listed.setIfInBounds j true).getD k true=false->listed.getD k true=false:=fun k E=>by
    by_cases B:j=k
    ·subst B;exact t
    ·rw[getD_set_ne true B]at E;exact E
   refine wpOp_mono (fun I w' q=>⟨q.2.1,ih (listed.setIfInBounds j true) I w' (fun k ok u x=>y k ok u (F k x)) (fun k ok u M x=>A k ok u M (F k x)) (ready_mono g (Ne.symm f)) q.1 (y j d o t C w' q.2.1) ?_⟩) K;rw[Array.setIfInBounds_comm _ _ f];exact q.2.2
theorem aaF{i:Nat}{a:Oper}{rest:List Oper}(h:ops.toList.drop i=a::rest):ops[i]?=some a:=by
 rw[<-Array.getElem?_toList,<-Nat.add_zero i,<-List.getElem?_drop,h];rfl
def aaR(P:Program)(ops:Array Oper)(S:World->Prop)(h:Nat->Bool):List Nat->(Act->Prop)->Act->Prop
 |[],K,a=>K a
 |i::L,K,a=>∃b r v,ops.toList.drop i=b::r/\YieldsIf P ops (if h i=true then S else fun _=>True) b v a/\aaR P ops S h L K (a.put b.dst v)
def aaU(zmd:Region.Mode)(ops:Array Oper)(h:Nat->Bool):List Nat->Array Bool->Bool
 |[],_=>true
 |i::L,l=>Region.free zmd ops l i&&(Region.ready zmd ops l).contains i&&(!h i||aaL zmd ops h l i)&&aaU zmd ops h L (l.setIfInBounds i true)
theorem aaS{i:Nat}{L:List Nat}{K:Act->Prop}{a:Act}{b:Oper}{r:List Oper}{v:Value}(c:ops.toList.drop i=b::r)(d:YieldsIf P ops (if h i=true then S else fun _=>True) b v a)(H:aaR P ops S h L K (a.put b.dst v)):aaR P ops S h (i::L) K a:=⟨_,_,_,c,d,H⟩
theorem takeN{K:Act->Prop}{a:Act}(H:K a):aaR P ops S h [] K a:=H
theorem aaQ(n:Region.noSelect ops=true)(g:∀c a p v w,Q (.panic c) (Act.put a p v) w->Q (.panic c) a w){w:World}(k:S w)(f:Nat):∀(L:List Nat) (listed:Array Bool) (a:Act),aaU zmd ops h L listed=true->
 aaR P ops S h L (fun o=>aaA P zmd ops Q S h f (L.foldl (fun l i=>l.setIfInBounds i true) listed) o w) a->aaA P zmd ops Q S h (f+L.length) listed a w
 |[],_,_,_,H=>H
 |i::L,listed,a,b,H=>by
  obtain⟨C,r,v,t,B,H⟩:=H;simp only[aaU,Bool.and_eq_true,Bool.or_eq_true]at b;have m:=aaF t;refine @aaC P zmd ops Q S h (if h i=true then S else fun _=>True) i C v m (Region.noSelect_spec n) (fun c a w=>g c a _ _ w) (fun w z e=>by rwa [if_pos e]at z) (f+L.length) listed a w ?_ (Region.free_spec m b.1.1.1) (by simpa using b.1.1.2) B (by split;exact k;trivial) (aaQ n g k f L _ _ b.2 H);intro j D s y u w' A;split
  ·rename_i e
   rcases b.1.2 with d|d
   ·rw[e]at d;cases d
   ·exact(aaI d j D s y).elim A (fun⟨e,q,hb,x⟩=>absurd x (u e q hb))
  ·trivial
theorem aaN{b:List Nat}{fuel:Nat}{listed:Array Bool}{a:Act}{w:World}(c:Region.ready zmd ops listed=b)(f:b≠[])
 (H:∀i∈b,wpOp P ops Q i (fun d w'=>(h i=true->S w')/\aaA P zmd ops Q S h fuel (listed.setIfInBounds i true) d w') a w):aaA P zmd ops Q S h (fuel+1) listed a w:=
 ⟨fun e=>absurd (c▸e) f,c▸H⟩
def GoT(P:Program)(zmd:Region.Mode)(ops:Array Oper)(Q:Exit->Act->World->Prop)(S:World->Prop)(h:Nat->Bool)(fuel:Nat)(listed:Array Bool)(a:Act)(w:World)(i:Nat)(b:Oper):Prop:=
 ∀K:Act->World->Prop,Shut (∀a w,S w->aaA P zmd ops Q S h fuel (listed.setIfInBounds i true) a w->K a w)->if Region.wanted b (yielded ops a.tmps)=true then Oper.wp P b a w K Q else K (a.put b.dst undef) w
theorem stepT{i:Nat}{b:Oper}{rest:List Oper}{fuel:Nat}{listed:Array Bool}{a:Act}{w:World}(g:ops.toList.drop i=b::rest)
 (H:GoT P zmd ops Q S h fuel listed a w i b):
 wpOp P ops Q i (fun c w'=>(h i=true->S w')/\aaA P zmd ops Q S h fuel (listed.setIfInBounds i true) c w') a w:=
 wpOp_step (aaF g) (fun K d=>H K (fun a w e f=>d a w ⟨fun _=>e,f⟩))
theorem aaH{i:Nat}{b:Oper}{rest:List Oper}{fuel:Nat}{listed:Array Bool}{a:Act}{w:World}(e:Region.ready zmd ops listed=[i])(d:ops.toList.drop i=b::rest)
 (H:GoT P zmd ops Q S h fuel listed a w i b):
 aaA P zmd ops Q S h (fuel+1) listed a w:=aaN e (by simp) (fun j c=>by
 obtain rfl:j=i:=by simpa using c
 exact stepT d H)
theorem aaO{i k:Nat}{c ok:Oper}{rest l:List Oper}{fuel:Nat}{listed:Array Bool}{a:Act}{w:World}(g:Region.ready zmd ops listed=[i,k])(e:ops.toList.drop i=c::rest)(f:ops.toList.drop k=ok::l)
 (H:GoT P zmd ops Q S h fuel listed a w i c)
 (d:GoT P zmd ops Q S h fuel listed a w k ok):
 aaA P zmd ops Q S h (fuel+1) listed a w:=aaN g (by simp) (fun j b=>by
 rcases List.mem_cons.1 b with rfl|b
 ·exact stepT e H
 ·obtain rfl:j=k:=by simpa using b
  exact stepT f d)
theorem aaP:∀(l:List Oper) (k:Nat) (listed:Array Bool) (a:Act) (w:World),(∀j,k<=j->h j=false)->(∀j,l[j]?=ops[k+j]?)->
 Region.seqB zmd ops l.length k listed=true->wpList P ops Q l a w->aaA P zmd ops Q S h l.length listed a w
 |[],k,listed,a,w,_,_,b,h=>⟨by simpa[Region.seqB]using b,h⟩
 |r::l,k,listed,a,w,e,f,b,H=>by
  have o:ops[k]?=some r:=by simpa using (f 0).symm
  simp only[List.length_cons,Region.seqB,Bool.and_eq_true,decide_eq_true_eq]at b;refine⟨fun c=>(by rw[b.1]at c;cases c),fun i d=> ?_⟩;rw[b.1]at d;have p:i=k:=by simpa using d
  subst p;have q:wpOp P ops Q i (wpList P ops Q l) a w:=by unfold wpOp;simp only[o];exact H
  exact wpOp_mono (fun m w' n=>⟨fun g=>(by rw[e i (Nat.le_refl i)]at g;cases g),aaP l (i+1) _ m w' (fun j s=>e j (by omega)) (fun j=>by have:=f (j+1);simpa[Nat.add_assoc,Nat.add_comm 1 j]using this) b.2 n⟩) q
theorem aaM(k:Nat){l:List Oper}{f:Nat}{listed:Array Bool}{a:Act}{w:World}(e:ops.toList.drop k=l)(c:l.length=f)(d:∀j,k<=j->h j=false)(b:Region.seqB zmd ops f k listed=true)(H:wpList P ops Q l a w):aaA P zmd ops Q S h f listed a w:=by
 subst c;exact aaP l k listed a w d (fun j=>by rw[<-e,List.getElem?_drop,Array.getElem?_toList]) b H
theorem aaK{id:Nat}{a:Act}{w:World}(h:Nat->Bool)(S:World->Prop)(b:P.follows .mixedOrders=true)
 (H:aaA P .any ops Q S h ops.size (Array.replicate ops.size false) a w.drew):(Code.region id ops true).wp P Q a w:=
 wp_region_any b (aaD _ _ _ _ H)
end
end
end Go.Proofs.YtfnilkpkogipfaaGreatDoor
