import Derived.RangeFuncNested
import Derived.RangeFuncBound
import Derived.RangeFuncCalls
import Derived.RangeFuncLeaves
import Derived.Shelf.Abstract
import Derived.Shelf.RegionOpen
import Derived.OwnWalkIn
import Derived.TacticsInMore
import Derived.LoopNIn
import Derived.LoopIn
import Derived.Test.YtfnilkpkogipfaaGreatDoorZAq
set_option linter.all false
set_option maxRecDepth 100000
set_option maxHeartbeats 8000000
namespace Go.Proofs.YtfnilkpkogipfaaGreatDoor
open Go.RowKit Go.Proofs.Tryz
section
section
variable{K:KS}
theorem yV(c:bK)(f:cE):(K.cH c f).mem=K.mem:=by cases c<;>rfl
theorem rM(c:bK)(f:cE):(K.cH c f).blocks=K.blocks:=by cases c<;>rfl
theorem wm(c:bK)(f:cE):(K.cH c f).ring=K.ring:=by cases c<;>rfl
theorem rN(c:bK)(f:cE):(K.cH c f).out=K.out:=by cases c<;>rfl
theorem gd(c:bK)(k:Nat)(x:Int):(K.au c k x).mem=K.mem:=yV _ _
theorem b7(c:bK)(k:Nat)(x:Int):(K.au c k x).blocks=K.blocks:=rM _ _
theorem nA(l:List aD)(id:Int):0<=dV l id/\dV l id<=4:=by
 unfold dV
 repeat' split
 all_goals omega
theorem gO(K:KS)(id a:Int):(ef K id a).ai=K.ai:=by unfold ef iS;split<;>rfl
theorem kB(K:KS)(id a:Int):(ef K id a).wk=K.wk:=by unfold ef iS;split<;>rfl
theorem rO(K:KS)(id:Int):(cc K id).ai=K.ai:=rfl
theorem kC(place f:Int)(b:∀c id,(db K.table c).1=some id->aw K.ai id=none):Gr K (bF K place f).2:=by
 unfold bF;split
 ·exact Gr.of_eq rfl
 ·dsimp only
  split
  ·exact Gr.of_eq rfl
  ·rename_i id t hb
   intro j u a;have d:=b _ id (by rw[hb]);refine⟨u,?_,Nat.le_refl _⟩;show aw (b8 K.ai id _) j=some u
   rw[aT,if_neg (fun e=>by rw[e,d]at a;cases a)];exact a
theorem nB(place a:Int):(bF K place a).2.wk=K.wk:=by
 unfold bF;split
 ·rfl
 ·dsimp only
  split<;>rfl
theorem dO(K:KS)(i:Nat)(id:Int):Gr K (eg K i id):=by
 unfold eg;split
 ·exact Gr.of_eq rfl
 ·exact Gr.of_eq rfl
theorem fw(K:KS)(i:Nat)(id:Int):(eg K i id).wk.length=K.wk.length:=by
 unfold eg;split
 ·rfl
 ·simp[KS.be]
end
end
section
attribute [local go_sem] Oper.semAt_some
def gg(q:List Int)(k:Nat):List (Nat×Int):=(List.range k).map fun j=>(j,q[j]?.getD 0)
theorem nD(q:List Int)(k:Nat):gg q (k+1)=gg q k++[(k,q[k]?.getD 0)]:=by simp[gg,List.range_succ]
theorem o6(q:List Int)(k:Nat):(gg q k).length=k:=by simp[gg]
theorem lx(q:List Int){k:Nat}(b:k<=q.length):(gg q k).map Prod.snd=q.take k:=by
 apply List.ext_getElem
 ·simp[gg,b]
 ·intro i a c
  have:i<q.length:=by simp[gg]at a;omega
  simp[gg,this]
def gI(b B:World):Prop:=∀(k:Nat) (a:Obj),b.heap[k]?=some a->a.isCells=true->B.heap[k]?=some a
def EW(b:World)(k:Nat):Prop:=∃a,b.heap[k]?=some a/\a.isCells=true
theorem gI.refl(a:World):gI a a:=fun _ _ h _=>h
theorem gI.drew(a:World):gI a a.drew:=fun _ _ h _=>h
theorem gI.drewN(a:World)(n:Nat):gI a (a.drewN n):=fun _ _ h _=>h
theorem gI.trans{a B C:World}(h:gI a B)(k:gI B C):gI a C:=fun i c d b=>k i c (h i c d b) b
theorem gI.put(a:World)(l:Nat)(d g:Obj)(h:a.heap[l]?=some d)(f:d.isCells=false):gI a (a.putObj l g):=fun k i b c=>by
 by_cases e:k=l
 ·subst e;rw[h]at b;cases b;rw[f]at c;cases c
 ·exact(World.putObj_heap_other e).trans b
theorem nE(a:World){D:Nat}{p:Addr}(c:Obj)(v:Value)(h:D≠p.block):(a.setCell p v).putObj D c=(a.putObj D c).setCell p v:=by
 unfold World.setCell World.putObj
 congr 1
 apply Array.ext_getElem?;intro i;simp only[Array.getElem?_modify,Array.getElem?_setIfInBounds,Array.size_modify];by_cases b:D=i
 ·subst b
  have d:¬p.block=D:=fun e=>h e.symm
  simp[d]
 ·simp[b]
structure A9(Kp:World->World->Prop)(Sep:World->Nat->Prop):Prop where
 keep:∀{A B:World} {k:Nat},Kp A B->Sep A k->k<A.heap.size->B.heap[k]?=A.heap[k]?/\Sep B k
theorem DX:A9 gI EW:=⟨fun {d B k} h ⟨c,a,b⟩ _=>⟨(h k c a b).trans a.symm,c,h k c a b,b⟩⟩
theorem me(a:Nat)(w:World):
 Calls prog 64 #[(a,0)] w (fun e w'=>e=.returned (.func (.func 114) #[] #[(w.heap.size,0)])/\w.alloc (.cells #[(a,0)] 132)=w'):=by
 go_enter func64,ntmps64
 go_wp2
 go_ret;exact⟨rfl,rfl⟩
theorem ts(n:Nat)(hm:1<=n)(l L b g:Nat)(q:List Int){V:World->World->Prop}{Sep:World->Nat->Prop}(a3:A9 V Sep)(o U:List (Nat×Int)->World->Prop)(a:World)
 (ad:∀w k r,Ch ag a w->a.heap.size<=k->w.heap[k]?=some r->r.isCells=true->Sep w k) (Y:∀w,Ch ag a w->o [] a->o [] w)
 (al:∀pre x a,o pre a->pre.length<q.length->YieldAt Fence.wide (n-1) prog l #[.int .i64 (x.1:Nat),.int .u64 x.2] a fun e s=>
  (e=.returned (.bool true)/\o (pre++[x]) s/\V a s)∨(e=.returned (.bool false)/\U (pre++[x]) s))
 (eC:a.cell? (L,0)=some (.pointer (some (b,0)))) (A:eH a b g q) (X:o [] a):
 Calls prog 114 #[.func (.yield l) #[] #[],(L,0)] a fun e s=>(∃v,e=.returned v)/\
  ((∃c9,c9=gg q q.length/\o c9 s)∨(∃pre,(∃k,k<=q.length/\pre=gg q k)/\U pre s)):=by
 obtain⟨cs,fr,B,c1⟩:=A;have O:=Z B;have cq:=Z c1;have cL:=Z ad;have ci:=Z Y;have cW:=Z al;have cb:=Z X;have M:=Z eC;have cl:=Z a3;have dr:=B.head.k 2 rfl;obtain⟨N,G⟩:=mn q.length;have D:=Z G;have gc:=B.hn;rw[<-G]at dr gc⊢;have ch:=Z (info_parts jt);obtain⟨gr,bi,ge,gf,go⟩:=ch.out;have cf:=Z bi;clear B c1 ad Y al X a3 G bi;go_enter func114,ntmps114
 go_wp2_with fail
 go_loopg [3,11] (N+1) (fun gk u i wr=>∃k:Nat,k<=N/\gk=N-k+1/\i=.int .i64 k/\Hid (Ch ag a wr/\wr.ownsRow a.heap.size 56 1 u k ((q.take k).map (Value.int .u64))))
 case atStart=>exact⟨0,by omega,by omega,rfl,Ch.refl _ _,⟨by simp,Or.inl ⟨rfl,rfl⟩⟩⟩
 case round=>
  obtain⟨k,hi,rfl,rfl,d⟩:=hrel;have cd:=Z ((d.1.cell (aE M) (fun h=>h)).trans M);obtain⟨E,F,rfl⟩:=aA d.2;by_cases H:k<N
  ·have j:q[k]?=some (q[k]?.getD 0):=by rw[List.getElem?_eq_getElem (by rw[<-D];exact H)];rfl
   have cS:=Z j;obtain⟨x,c5⟩:=nm (q[k]?.getD 0);rw[c5]at j;have T:=Z j;have W:wr.cell? ⟨g,(fr+k)%64,none⟩=some (.int .u64 x):=(O.rows.ch d.1 (fun h=>h)).cell (by rw[List.getElem?_map,cq k (by rw[<-D];exact H),T];rfl);have eS:=cd.out;have eW:=Z (O.ch d.1 (fun h=>h) (fun h=>h));clear j c5;go_wp2_with fail
   refine(jS b g cs fr q.length k (by omega) wr eW.out).mono ?_;rintro e w2 ⟨rfl,c7,rfl⟩;obtain⟨w2,J⟩:=nm (wr.drewN c7);have z:Hid (Ch ag wr w2):=Z (by rw[<-J];exact(Ch.refl _ _).drewN c7);have dN:=z.k W;have R:=Z (ar d.2 z (fun _ _ h=>h));rw[J];clear J W eS;go_wp2_with (at_builtin;refine wpList_append_lies _ rfl _ _ _ rfl a.heap.size 56 gr _ 1 8 underlying29 cf ge gf go rfl (by omega) _ k ((q.take k).map (Value.int .u64)) rfl (R.alloc _) ⟨w2.heap.size,0,none⟩ 1 1 [.int .u64 x] rfl rfl (World.news_of_block (cs:=#[.int .u64 x]) (t:=56) (fr:=(0,0)) (heap_alloc_new w2 _)) (by simp[Value.oneCell']) (by omega) (by unfold maxLen;omega) (by omega) (by simp;have:=d.1.size;have:=z.size;omega) (w2.heap.size+1) (by simp) ?_)
   intro he cap w4 c0 av eL fz;have ap:=ax av;have cm:=Z c0;have ce:=Z (iP (d.1.trans z) R (Nat.le_refl _) ap);clear av ap c0 eL fz dN;go_wp2_with fail
   go_roundg (N-(k+1)+1)
   case measure=>omega
   case rel=>
    refine⟨k+1,H,rfl,?_,ce,?_⟩
    ·congr 1
    ·rw[List.take_add_one,T,List.map_append,List.map_take]
     exact cm
  ·obtain rfl:k=N:=by omega
   have Q:=Z d.2;have S:=Z d.1;have a0:=ci wr S cb;have ck:=Z a0;clear a0;have ab:=Q.out;have c4:∀c,(Value.slice E k F).ownBlock=some c->a.heap.size<=c/\∃r,wr.heap[c]?=some r/\r.isCells=true:=fun c f=>by
    rcases ab.2 with⟨e,_⟩|⟨ec,cap,cur,e,ex,fb,_⟩
    ·rw[e]at f;cases f
    ·rw[e]at f
     have:ec=c:=by simpa[Value.ownBlock]using f
     subst this;exact⟨ex,_,fb,rfl⟩
   have cQ:=Z c4;clear ab c4;obtain⟨c8,rfl⟩:=mn wr;go_upto_block 2 with fail
   refine(wpIn_wide (n:=n)).1 ?_
   gi_wp2_with fail
   gi_loopw [25] (fun i K=>∃m:Nat,m<=k/\i=.int .i64 m/\Hid (o (gg q m) K/\∀c,(Value.slice E k F).ownBlock=some c->K.heap[c]?=c8.heap[c]?/\Sep K c)) (fun i _=>k-(intOf i).toNat)
   case atStart=>exact⟨0,by omega,rfl,ck,fun c f=>by obtain⟨en,r,es,et⟩:=cQ c f;exact⟨rfl,cL c8 c r S en es et⟩⟩
   case round=>
    obtain⟨m,hl,rfl,y⟩:=hrel;by_cases fn:m<k
    ·obtain⟨p,dC,gs,c3,eA,hn,hf,c2,_⟩:=aS Q (by omega)
     obtain⟨rfl,rfl⟩:E=some ⟨p,0,none⟩/\F=dC:=by simpa using c3
     have bv:=y.2 p rfl;have I:Row wr p 56 ((q.take k).map (Value.int .u64)++gs):=bv.1.trans c2;have fd:k<=q.length:=by rw[<-D];exact Nat.le_refl _
     have am:wr.cell? (p,m)=some (Value.int .u64 (q[m]?.getD 0)):=I.cell (i:=m) (by
      rw[List.getElem?_append_left (by simp;omega),List.getElem?_map,List.getElem?_take,if_pos fn,List.getElem?_eq_getElem (by omega)];rfl)
     obtain⟨hb,tmps,assign,body,c6,A⟩:=cW _ (m,q[m]?.getD 0) wr y.1 (by rw[o6];omega);have cA:=Z A;have cC:=Z I;dsimp only at c6 am;clear A c2 I c3 eA bv fd;obtain⟨x,j⟩:=nm (q[m]?.getD 0);rw[j]at c6 am;have cS:=Z j;clear j
     gi_wp2_with fail
     refine cA.mono ?_;rintro e gt (⟨rfl,a1,bw⟩|⟨rfl,a2⟩)
     ·have C:=Z a1
      have P:=Z (cl.keep bw (y.2 p rfl).2 cC.lt);clear a1 bw
      gi_wp2_with fail
      go_roundw
      case rel=>
       refine⟨m+1,by omega,by simp,?_,fun c f=> ?_⟩
       ·rw[nD];exact C
       ·obtain rfl:p=c:=by simpa[Value.ownBlock]using f
        exact⟨P.1.trans (y.2 p rfl).1,P.2⟩
      case measure=>simp[intOf];omega
     ·have C:=Z a2
      clear a2
      gi_wp2_with fail
      refine bodyPost_ret (results_none rfl _ _ _) rfl ?_;exact⟨⟨_,rfl⟩,.inr ⟨_,⟨m+1,by omega,(nD _ _).symm⟩,C⟩⟩
    ·obtain rfl:m=k:=by omega
     gi_wp2_with fail
     go_end0
     exact⟨⟨_,rfl⟩,.inl ⟨_,rfl,y.1⟩⟩
theorem Ch.grown{w w':World}(h:Ch ag w w'):w.grownBy w' none:=⟨h.os,h.tape,h.output,h.size,fun k a _=>h.same k a (fun h=>h)⟩
theorem kD(n:Nat)(E:1<=n)(f b g:Nat)(q:List Int){m:World->World->Prop}{Sep:World->Nat->Prop}(A:A9 m Sep)(w:World)
 (o:w.cell? (f,0)=some (.pointer (some (b,0)))) (B:eH w b g q) (C:∀a c k d,Below w.heap.size w a->Ch ag a c->a.heap.size<=k->c.heap[k]?=some d->d.isCells=true->Sep c k):
 SeqStopsK Fence.wide n prog 114 #[(f,0)] (fun x:Nat×Int=>#[Value.int .i64 (x.1:Int),Value.int .u64 x.2]) m (fun F=>F=gg q q.length) (fun pre=>∃k,k<=q.length/\pre=gg q k) q.length w:=fun l s t a p z G D u=>by
 have r:=Ch.bY p;exact callsIn_wide.2 (ts n E l f b g q A s t a (fun c k d i j v y=>C a c k d p i j v y) (fun c i j=>z [] a c none j i.grown (fun _ e=>by cases e)) D ((r.cell (aE o) (fun h=>h)).trans o) (B.ch r (fun h=>h) (fun h=>h)) u)
end
section
attribute [local go_sem] Oper.semAt_some
theorem dW{P:Program}{f:FuncId}{a:Func}{c:Code}{args:Array Value}{w:World}{b:Ending->World->Prop}
 (d:P.funcs[f]?=some a) (hb:a.body=some c)
 (h:c.wp P (bodyPostM Fence.wide 5 P a b) {tmps:=args++Array.replicate (a.ntmps-args.size) undef,defers:=[]} w):Calls P f args w b:=
 callsIn_wide.1 (callsIn_of_wp_marks (F:=Fence.wide) (n:=5) d hb trivial (wpIn_wide.2 h))
section
variable{w:World}{χ:Nat->a4}{L:cw}{Y:Var}{C:KC}{K:KS}
theorem o7(i:Nat)(X:i<K.wk.length)(id:Int)(hid:aH id)(h:ae w χ L Y C K):Calls prog 190 #[(L.mb,0),(L.wb,i*38),.int .u64 id] w (de (.tuple #[]) χ L Y C K (eB K i id) w):=by
 have H:=Z h;have c5:=Z X;have c6:=Z hid;obtain⟨eA,o⟩:=nm (w.alloc (.cells #[.int .u64 id] 56));have cl:=Z (Ch.al (D:=ag) o);have m:=Z (h.hg cl);have c0:=Z (Row.al o);obtain⟨c9,V⟩:=nm ((K.W i).hand);have c3:=Z V;obtain⟨st,cf⟩:=nm (cx K id);have J:=Z cf;have P:=m.at_.e7 X;rw[V]at P;have R:=c0.c1;clear h X hid V cf;by_cases al:c9=0
 ·subst al
  by_cases b:st=1
  ·subst b
   obtain⟨N,U⟩:=nm K.wk.length;have v:=Z U;have cL:=(m.at_.wk (by simp)).n;rw[U]at cL;have bv:Hid (eB K i id=if K.wk.any (fun x=>x.hand==id)then K else if K.ring.any (fun r=>r==id)then K else K.be i {K.W i with hand:=id}):=Z (by unfold eB;rw[if_neg (by rw[c3.out,J];simp)]);clear U;refine dW func190 rfl ?_;simp only[ntmps190,List.size_toArray,List.length_cons,List.length_nil,Nat.reduceAdd,Nat.reduceSub,Array.replicate_succ,Array.replicate_zero,List.push_toArray,List.append_toArray,List.nil_append,List.cons_append];go_wp2_with fail
   try rw[o]
   refine(cZ id c6 m.at_).mono ?_;rintro e w1 ⟨rfl,s⟩;rw[J];have M:=Z (m.af s);have ck:=Z (c0.ch s (fun h=>h));clear s P R o;have am:=M.at_.p7;rw[v]at am;go_wp2_with fail
   go_loopg [25] (N+1) (fun gk u wr=>∃k:Nat,k<=N/\gk=N-k+1/\u=.int .i64 k/\Hid (Ch ag w1 wr/\∀j,j<k->(K.W j).hand≠id))
   case atStart=>exact⟨0,by omega,by omega,rfl,Ch.refl _ _,fun j h=>absurd h (by omega)⟩
   case round=>
    obtain⟨k,et,rfl,rfl,y⟩:=hrel;have z:=Z (M.af y.1);have c1:=Z (ck.ch y.1 (fun h=>h));have ci:=z.at_.p7;rw[v]at ci;have cq:=c1.c1;by_cases a1:k<N
    ·obtain⟨cd,W⟩:=nm ((K.W k).hand)
     have c4:=Z W;have dN:=z.at_.e7 (i:=k) (by rw[v];exact a1);rw[W]at dN;clear W am;by_cases g:cd=id
     ·have E:Hid (eB K i id=K):=Z (by
       rw[bv,if_pos];rw[List.any_eq_true];refine⟨K.W k,List.mem_of_getElem? (KS.gy (by rw[v];exact a1)),?_⟩;rw[c4,g];simp)
      subst g;go_wp2_with fail
      go_quiet (fail)
      obtain⟨av,q⟩:=nm (wr.drewN nq);have Q:Hid (Ch ag wr av):=Z (by rw[<-q];exact(Ch.refl _ _).drewN nq);rw[q];clear q;go_wp2_with fail
      refine⟨_,results_none rfl _ _ _,?_⟩;rw[E];exact⟨rfl,_,_,z.af Q⟩
     ·have hb:(cd==id)=false:=by rw[beq_eq_false_iff_ne];exact g
      go_wp2_with fail
      go_quiet (fail)
      obtain⟨av,q⟩:=nm (wr.drewN nq);have Q:Hid (Ch ag wr av):=Z (by rw[<-q];exact(Ch.refl _ _).drewN nq);rw[q];clear q;go_wp2_with fail
      go_roundg (N-(k+1)+1)
      case measure=>omega
      case rel=>
       refine⟨k+1,a1,rfl,by congr 1,y.1.trans Q,fun j a0=> ?_⟩;by_cases e:j=k
       ·subst e;rw[c4];exact g
       ·exact y.2 j (by omega)
    ·obtain rfl:k=N:=by omega
     have bw:Hid (eB K i id=if K.ring.any (fun r=>r==id)then K else K.be i {K.W i with hand:=id}):=Z (by
      rw[bv,if_neg];rw[List.any_eq_true];rintro⟨x,ab,ad⟩;obtain⟨j,a0⟩:=List.getElem?_of_mem ab;have cb:=(List.getElem?_eq_some_iff.1 a0).1;rw[v]at cb;refine y.2 j cb ?_;rw[KS.A4 a0];simpa using ad)
     have dr:=z.at_.nr;clear am;go_wp2_with fail
     refine(me L.rb wr).mono ?_;rintro e w4 ⟨rfl,a3⟩;have c2:=Z (Ch.al (D:=ag) a3);have cm:=Z (Row.al a3);have A:=Z (z.af c2);have G:=Z (c1.ch c2 (fun h=>h));clear a3 dr ci cq;go_wp2_with fail
     have a2:=kD (5-1) (by omega) wr.heap.size L.rb L.rg K.ring DX w4 (cm.cell (i:=0) rfl) (A.at_.ring (by simp)).is (fun a en k ap _ _ _ b S=>⟨ap,b,S⟩);refine(wpIn_wide (n:=5)).1 ?_;apply wpIn_rangeFunc_ownG (F:=Fence.wide) (n:=5) rfl (by omega) (gf:=114) (lb:=#[.pointer (some ⟨wr.heap.size,0,none⟩)]) rfl trivial (enters_of func114 (by kernel_rfl) rfl) a2 (fun h k=>gI.trans h k) (fun a l ap dC _ b S _=>gI.put a l ap dC b S) (Below.refl _ _) (fun _=>rfl)
      (fun pre a=>(∀p∈pre,p.2≠id)/\Below w4.heap.size w4 a) (fun c pre a=>(c=.ret/\∃p∈pre,p.2=id)/\Below w4.heap.size w4 a)
      (OwnFrom.and (ownFrom_pure _ (fun pre:List (Nat×Int)=>∀p∈pre,p.2≠id)) (ownFrom_below (Nat.le_refl _) (Nat.le_refl _)))
      (fun c=>OwnFrom.and (ownFrom_pure _ (fun pre:List (Nat×Int)=>c=.ret/\∃p∈pre,p.2=id)) (ownFrom_below (Nat.le_refl _) (Nat.le_refl _)))
      ⟨by simp,Below.refl _ _⟩
     ·intro l x a K f
      gi_wp2
      exact f
     ·rintro l pre ⟨ec,bi⟩ a ⟨t,d⟩ _
      have cs:=(d.cell (p:=⟨w.heap.size,0,none⟩) G.lt).trans (G.cell (i:=0) rfl);by_cases g:bi=id
      ·subst g
       gi_wp2_with fail
       exact⟨KeepsFrom.refl _ _,⟨rfl,(ec,bi),List.mem_append_right _ (List.mem_singleton.2 rfl),rfl⟩,d⟩
      ·have hb:(bi==id)=false:=by rw[beq_eq_false_iff_ne];exact g
       gi_wp2_with fail
       exact⟨KeepsFrom.refl _ _,gI.refl _,⟨fun p cQ=>(List.mem_append.1 cQ).elim (t p) (fun e=>by rw[List.mem_singleton.1 e];exact g),d⟩⟩
     ·rintro D eC a T rfl ⟨ce,d⟩ f
      have E:Hid (eB K i id=K.be i {K.W i with hand:=id}):=Z (by
       rw[bw,if_neg];rw[List.any_eq_true];rintro⟨x,ab,ad⟩;have b:x∈(gg K.ring K.ring.length).map Prod.snd:=by rw[lx _ (Nat.le_refl _),List.take_length];exact ab
       obtain⟨p,t,rfl⟩:=List.mem_map.1 b;exact ce p t (by simpa using ad))
      have cs:=(d.cell (p:=⟨w.heap.size,0,none⟩) G.lt).trans (G.cell (i:=0) rfl);have c7:=Z (A.af (Ch.bY d));have B:=d.trans (belowK_b (w:=w4) (Nat.le_refl _) a D (.deferred (some [])) (.deferred none) T f rfl rfl);have O:=Z (A.af (Ch.bY B));have ex:=c7.at_.e7 (i:=i) c5;have es:=c7.at_.tn (i*38+1);have ch:D≠L.wb:=fun e=>by have:=(A.at_.wk (by simp)).is.lt;omega
      have c8:=(KeepsOthers.setCell a ⟨L.wb,i*38+1,none⟩ (.int .u64 id)).same D _ f rfl;have I:=Z (And.intro c8 ch);clear a2 ce d f B c8 ch;go_wp2_with fail
      refine⟨by simp,.inl ⟨_,_,rfl,run_takeDeferred I.1,?_⟩⟩;refine⟨_,results_none rfl _ _ _,?_⟩;rw[E,nE _ _ _ I.2];obtain⟨aW,Y',cC⟩:=O.at_.jx c5 id;exact⟨rfl,aW,Y',O.trans (Gr.refl _) cC⟩
     ·rintro D c pre a T ⟨cW,cA,rfl⟩ ⟨⟨rfl,p,t,cS⟩,d⟩ f
      have E:Hid (eB K i id=K):=Z (by
       rw[bw,if_pos];rw[List.any_eq_true];have b:p.2∈(gg K.ring cW).map Prod.snd:=List.mem_map.2 ⟨p,t,rfl⟩;rw[lx _ cA]at b;exact⟨p.2,List.mem_of_mem_take b,by simp[cS]⟩)
      have B:=d.trans (belowK_b (w:=w4) (Nat.le_refl _) a D (.deferred (some [])) (.deferred none) T f rfl rfl);have O:=Z (A.af (Ch.bY B));have I:=Z f;clear a2 t d f B
      gi_wp2_with fail
      refine⟨by simp,.inl ⟨_,_,rfl,run_takeDeferred I,?_⟩⟩;refine⟨_,results_none rfl _ _ _,?_⟩;rw[E];exact⟨rfl,_,_,O⟩
  ·have E:Hid (eB K i id=K):=Z (by unfold eB;rw[if_pos (Or.inr (by rw[J.out];exact b))])
   have hb:(st==1)=false:=by rw[beq_eq_false_iff_ne];exact b
   refine dW func190 rfl ?_;simp only[ntmps190,List.size_toArray,List.length_cons,List.length_nil,Nat.reduceAdd,Nat.reduceSub,Array.replicate_succ,Array.replicate_zero,List.push_toArray,List.append_toArray,List.nil_append,List.cons_append];go_wp2_with fail
   try rw[o]
   refine(cZ id c6 m.at_).mono ?_;rintro e w1 ⟨rfl,s⟩;rw[J];have M:=Z (m.af s);clear s P R o;go_wp2_with fail
   refine⟨_,results_none rfl _ _ _,?_⟩;rw[E];exact⟨rfl,_,_,M⟩
 ·have E:Hid (eB K i id=K):=Z (by unfold eB;rw[if_pos (Or.inl (by rw[c3.out];exact al))])
  have hb:(c9==0)=false:=by rw[beq_eq_false_iff_ne];exact al
  refine dW func190 rfl ?_;simp only[ntmps190,List.size_toArray,List.length_cons,List.length_nil,Nat.reduceAdd,Nat.reduceSub,Array.replicate_succ,Array.replicate_zero,List.push_toArray,List.append_toArray,List.nil_append,List.cons_append];go_wp2_with fail
  try rw[o]
  clear P R;refine⟨_,results_none rfl _ _ _,?_⟩;rw[E];exact⟨rfl,_,_,m⟩
end
end
end Go.Proofs.YtfnilkpkogipfaaGreatDoor
