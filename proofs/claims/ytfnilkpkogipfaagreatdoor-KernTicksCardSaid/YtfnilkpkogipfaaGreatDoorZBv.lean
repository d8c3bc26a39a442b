import Derived.Deep.RegionHeld3
import Derived.StillTail
import Derived.Test.YtfnilkpkogipfaaGreatDoorZAa
set_option linter.all false
set_option maxRecDepth 100000
set_option maxHeartbeats 8000000
namespace Go.Proofs.YtfnilkpkogipfaaGreatDoor
open Go.RowKit Go.Proofs.Tryz
section
section
variable{P:Program}{zmd:Region.Mode}{ops:Array Oper}{Q:Exit->Act->World->Prop}{S:World->Prop}{h:Nat->Bool}
def aaA(P:Program)(zmd:Region.Mode)(ops:Array Oper)(Q:Exit->Act->World->Prop)(S:World->Prop)(h:Nat->Bool):Nat->Array Bool->Act->World->Prop
 |0,listed,a,w=>Region.ready zmd ops listed=[]/\Q .normal a w
 |fuel+1,listed,a,w=>(Region.ready zmd ops listed=[]->Q .normal a w)/\
  ∀i∈Region.ready zmd ops listed,wpOp P ops Q i (fun b w'=>(h i=true->S w')/\aaA P zmd ops Q S h fuel (listed.setIfInBounds i true) b w') a w
theorem aaD:∀(fuel:Nat) (listed:Array Bool) (a:Act) (w:World),aaA P zmd ops Q S h fuel listed a w->wpAny P zmd ops Q fuel listed a w
 |0,_,_,_,h=>h
 |fuel+1,_,_,_,h=>⟨h.1,fun i d=>wpOp_mono (fun b w' c=>aaD fuel _ b w' c.2) (h.2 i d)⟩
def aaE(zmd:Region.Mode)(ops:Array Oper)(h:Nat->Bool)(listed:Array Bool)(i:Nat):Prop:=
 ∀j a,ops[j]?=some a->listed.getD j true=false->h j=true∨∃e∈a.after,Region.binds zmd e=true/\e.on=i
def aaL(zmd:Region.Mode)(ops:Array Oper)(h:Nat->Bool)(listed:Array Bool)(i:Nat):Bool:=
 (List.range ops.size).all fun j=>listed.getD j true||h j||(match ops[j]? with|some a=>a.after.any (fun e=>Region.binds zmd e&&e.on==i)|none=>true)
theorem aaI{i:Nat}{listed:Array Bool}(f:aaL zmd ops h listed i=true):aaE zmd ops h listed i:=fun j g c e=>by
 have a:=List.all_eq_true.1 f j (List.mem_range.2 (Array.getElem?_eq_some_iff.1 c).1);rw[c,e]at a;simp only[Bool.false_or,Bool.or_eq_true]at a;rcases a with a|a
 ·exact Or.inl a
 ·obtain⟨k,d,b⟩:=Array.any_eq_true.1 a
  simp only[Bool.and_eq_true,beq_iff_eq]at b;exact Or.inr ⟨_,Array.getElem_mem d,b⟩
theorem aaE.set{i j:Nat}{listed:Array Bool}(d:aaE zmd ops h listed i):aaE zmd ops h (listed.setIfInBounds j true) i:=fun k ok c a=>by
 by_cases e:j=k
 ·subst e
  rcases Nat.lt_or_ge j listed.size with b|b
  ·simp[b]at a
  ·simp[Array.getElem?_eq_none,b]at a
 ·rw[getD_set_ne true e]at a
  exact d k ok c a
theorem aaJ{i j:Nat}{c:Oper}{listed:Array Bool}(n:i∈Region.ready zmd ops listed)(k:j∈Region.ready zmd ops listed)(l:ops[j]?=some c):∀e∈c.after,Region.binds zmd e=true->e.on≠i:=fun e g hb heq=>by
 obtain⟨_,o,m,f⟩:=mem_ready.1 k;obtain rfl:o=c:=Option.some.inj (m.symm.trans l);have a:=f e g hb;have d:=(mem_ready.1 n).1;rw[heq]at a;rcases Nat.lt_or_ge i listed.size with b|b
 ·simp[b]at d a;rw[d]at a;cases a
 ·simp[Array.getElem?_eq_none b]at a
theorem aaC{p:World->Prop}{i:Nat}{l:Oper}{v:Value}(s:ops[i]?=some l)(D:∀(j:Nat) (G:Oper) cs b,ops[j]?=some G->G.op≠ .select cs b)
 (L:∀c a w,Q (.panic c) (a.put l.dst v) w->Q (.panic c) a w) (z:∀w,p w->h i=true->S w):
 ∀(fuel:Nat) (listed:Array Bool) (a:Act) (w:World),
  (∀j d,ops[j]?=some d->listed.getD j true=false->(∀e∈d.after,Region.binds zmd e=true->e.on≠i)->∀w',(h j=true->S w')->p w')->
  (∀j d,ops[j]?=some d->j≠i->listed.getD j true=false->(∀e∈d.after,Region.binds zmd e=true->e.on≠i)->l.apart ops d=true)->
  i∈Region.ready zmd ops listed->YieldsIf P ops p l v a->p w->
  aaA P zmd ops Q S h fuel (listed.setIfInBounds i true) (a.put l.dst v) w->aaA P zmd ops Q S h (fuel+1) listed a w:=by
 intro fuel
 induction fuel with
 |zero=>
  intro listed a w _ _ g r m H;refine⟨fun h=>(by rw[h]at g;cases g),fun j n=> ?_⟩;by_cases f:j=i
  ·subst f;exact r.wpOp s m ⟨z w m,H⟩
  ·have:=ready_mono n f
   rw[H.1]at this;cases this
 |succ fuel ih=>
  intro listed a w y A g r m H;refine⟨fun h=>(by rw[h]at g;cases g),fun j n=> ?_⟩;by_cases f:j=i
  ·subst f;exact r.wpOp s m ⟨z w m,H⟩
  ·have J:=H.2 j (ready_mono n f)
   obtain⟨t,d,o,N⟩:=mem_ready.1 n;have C:=aaJ g n o;have K:=wpOp_putIf o (A j d o f t C) (fun cs b=>D i l cs b s) (fun cs b=>D j d cs b o) L r J;have F:∀k,(listed.setIfInBounds j true).getD k true=false->listed.getD k true=false:=fun k E=>by
    by_cases B:j=k
    ·subst B;exact t
    ·rw[getD_set_ne true B]at E;exact E
   refine wpOp_mono (fun I w' q=>⟨q.2.1,ih (listed.setIfInBounds j true) I w' (fun k ok u x=>y k ok u (F k x)) (fun k ok u M x=>A k ok u M (F k x)) (ready_mono g (Ne.symm f)) q.1 (y j d o t C w' q.2.1) ?_⟩) K;rw[Array.setIfInBounds_comm _ _ f];exact q.2.2
theorem aaF{i:Nat}{a:Oper}{rest:List Oper}(h:ops.toList.drop i=a::rest):ops[i]?=some a:=by
 rw[<-Array.getElem?_toList,<-Nat.add_zero i,<-List.getElem?_drop,h];rfl
theorem aaB{i:Nat}{d:Oper}{rest:List Oper}{v:Value}{fuel:Nat}{listed:Array Bool}{a:Act}{w:World}(n:ops.toList.drop i=d::rest)
 (b:(Region.noSelect ops&&Region.free zmd ops listed i&&(Region.ready zmd ops listed).contains i&&aaL zmd ops h listed i)=true)
 (g:∀c a w,Q (.panic c) (a.put d.dst v) w->Q (.panic c) a w) (u:YieldsIf P ops S d v a) (k:S w)
 (H:aaA P zmd ops Q S h fuel (listed.setIfInBounds i true) (a.put d.dst v) w):aaA P zmd ops Q S h (fuel+1) listed a w:=by
 have f:=aaF n;simp only[Bool.and_eq_true]at b;have q:=aaI b.2;exact aaC f (Region.noSelect_spec b.1.1.1) g (fun w s _=>s) fuel listed a w (fun j x m r o w' t=>(q j x m r).elim t (fun⟨e,l,hb,p⟩=>absurd p (o e l hb))) (Region.free_spec f b.1.1.2) (by simpa using b.1.2) u k H
theorem aaG{i:Nat}{d:Oper}{rest:List Oper}{v:Value}{fuel:Nat}{listed:Array Bool}{a:Act}{w:World}(j:ops.toList.drop i=d::rest)
 (b:(Region.noSelect ops&&Region.free zmd ops listed i&&(Region.ready zmd ops listed).contains i&& !h i)=true)
 (g:∀c a w,Q (.panic c) (a.put d.dst v) w->Q (.panic c) a w) (k:YieldsIf P ops (fun _=>True) d v a)
 (H:aaA P zmd ops Q S h fuel (listed.setIfInBounds i true) (a.put d.dst v) w):aaA P zmd ops Q S h (fuel+1) listed a w:=by
 have f:=aaF j;simp only[Bool.and_eq_true,Bool.not_eq_true']at b;exact aaC f (Region.noSelect_spec b.1.1.1) g (fun w _ e=>by rw[b.2]at e;cases e) fuel listed a w (fun _ _ _ _ _ _ _=>trivial) (Region.free_spec f b.1.1.2) (by simpa using b.1.2) k trivial H
theorem aaN{b:List Nat}{fuel:Nat}{listed:Array Bool}{a:Act}{w:World}(c:Region.ready zmd ops listed=b)(f:b≠[])
 (H:∀i∈b,wpOp P ops Q i (fun d w'=>(h i=true->S w')/\aaA P zmd ops Q S h fuel (listed.setIfInBounds i true) d w') a w):aaA P zmd ops Q S h (fuel+1) listed a w:=
 ⟨fun e=>absurd (c▸e) f,c▸H⟩
theorem stepT{i:Nat}{b:Oper}{rest:List Oper}{fuel:Nat}{listed:Array Bool}{a:Act}{w:World}(g:ops.toList.drop i=b::rest)
 (H:∀K:Act->World->Prop,Shut (∀a w,S w->aaA P zmd ops Q S h fuel (listed.setIfInBounds i true) a w->K a w)->if Region.wanted b (yielded ops a.tmps)=true then Oper.wp P b a w K Q else K (a.put b.dst undef) w):
 wpOp P ops Q i (fun c w'=>(h i=true->S w')/\aaA P zmd ops Q S h fuel (listed.setIfInBounds i true) c w') a w:=
 wpOp_step (aaF g) (fun K d=>H K (fun a w e f=>d a w ⟨fun _=>e,f⟩))
theorem aaH{i:Nat}{b:Oper}{rest:List Oper}{fuel:Nat}{listed:Array Bool}{a:Act}{w:World}(e:Region.ready zmd ops listed=[i])(d:ops.toList.drop i=b::rest)
 (H:∀K:Act->World->Prop,Shut (∀a w,S w->aaA P zmd ops Q S h fuel (listed.setIfInBounds i true) a w->K a w)->if Region.wanted b (yielded ops a.tmps)=true then Oper.wp P b a w K Q else K (a.put b.dst undef) w):
 aaA P zmd ops Q S h (fuel+1) listed a w:=aaN e (by simp) (fun j c=>by
 obtain rfl:j=i:=by simpa using c
 exact stepT d H)
theorem aaO{i k:Nat}{b ok:Oper}{rest l:List Oper}{fuel:Nat}{listed:Array Bool}{a:Act}{w:World}(g:Region.ready zmd ops listed=[i,k])(e:ops.toList.drop i=b::rest)(f:ops.toList.drop k=ok::l)
 (H:∀K:Act->World->Prop,Shut (∀a w,S w->aaA P zmd ops Q S h fuel (listed.setIfInBounds i true) a w->K a w)->if Region.wanted b (yielded ops a.tmps)=true then Oper.wp P b a w K Q else K (a.put b.dst undef) w)
 (d:∀K:Act->World->Prop,Shut (∀a w,S w->aaA P zmd ops Q S h fuel (listed.setIfInBounds k true) a w->K a w)->if Region.wanted ok (yielded ops a.tmps)=true then Oper.wp P ok a w K Q else K (a.put ok.dst undef) w):
 aaA P zmd ops Q S h (fuel+1) listed a w:=aaN g (by simp) (fun j c=>by
 rcases List.mem_cons.1 c with rfl|c
 ·exact stepT e H
 ·obtain rfl:j=k:=by simpa using c
  exact stepT f d)
theorem aaP:∀(l:List Oper) (k:Nat) (listed:Array Bool) (a:Act) (w:World),(∀j,k<=j->h j=false)->(∀j,l[j]?=ops[k+j]?)->
 Region.seqB zmd ops l.length k listed=true->wpList P ops Q l a w->aaA P zmd ops Q S h l.length listed a w
 |[],k,listed,a,w,_,_,b,h=>⟨by simpa[Region.seqB]using b,h⟩
 |r::l,k,listed,a,w,e,f,b,H=>by
  have o:ops[k]?=some r:=by simpa using (f 0).symm
  simp only[List.length_cons,Region.seqB,Bool.and_eq_true,decide_eq_true_eq]at b;refine⟨fun c=>(by rw[b.1]at c;cases c),fun i d=> ?_⟩;rw[b.1]at d;have p:i=k:=by simpa using d
  subst p;have q:wpOp P ops Q i (wpList P ops Q l) a w:=by unfold wpOp;simp only[o];exact H
  exact wpOp_mono (fun m w' n=>⟨fun g=>(by rw[e i (Nat.le_refl i)]at g;cases g),aaP l (i+1) _ m w' (fun j s=>e j (by omega)) (fun j=>by have:=f (j+1);simpa[Nat.add_assoc,Nat.add_comm 1 j]using this) b.2 n⟩) q
theorem aaM(k:Nat){l:List Oper}{f:Nat}{listed:Array Bool}{a:Act}{w:World}(e:ops.toList.drop k=l)(c:l.length=f)(d:∀j,k<=j->h j=false)(b:Region.seqB zmd ops f k listed=true)(H:wpList P ops Q l a w):aaA P zmd ops Q S h f listed a w:=by
 subst c;exact aaP l k listed a w d (fun j=>by rw[<-e,List.getElem?_drop,Array.getElem?_toList]) b H
theorem aaK{id:Nat}{a:Act}{w:World}(h:Nat->Bool)(S:World->Prop)(b:P.follows .mixedOrders=true)
 (H:aaA P .any ops Q S h ops.size (Array.replicate ops.size false) a w.drew):(Code.region id ops true).wp P Q a w:=
 wp_region_any b (aaD _ _ _ _ H)
end
end
end Go.Proofs.YtfnilkpkogipfaaGreatDoor
