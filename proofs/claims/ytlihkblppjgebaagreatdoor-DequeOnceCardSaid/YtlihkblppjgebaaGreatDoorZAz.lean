import Derived.RangeFuncNested
import Derived.RangeFuncBound
import Derived.RangeFuncCalls
import Derived.RangeFuncLeaves
import Derived.Shelf.Abstract
import Derived.Shelf.RegionOpen
import Derived.OwnWalkIn
import Derived.TacticsInMore
import Derived.LoopNIn
import Derived.LoopIn
import Derived.Test.YtlihkblppjgebaaGreatDoorZAt
import Derived.Test.YtlihkblppjgebaaGreatDoorZAu
set_option linter.all false
set_option maxRecDepth 100000
set_option maxHeartbeats 8000000
namespace Go.Proofs.YtlihkblppjgebaaGreatDoor
open Go.RowKit Go.Proofs.Tryz
section
attribute [local go_sem] Oper.semAt_some
def gg(q:List Int)(k:Nat):List (Nat×Int):=(List.range k).map fun j=>(j,q[j]?.getD 0)
theorem nD(q:List Int)(k:Nat):gg q (k+1)=gg q k++[(k,q[k]?.getD 0)]:=by simp[gg,List.range_succ]
theorem o6(q:List Int)(k:Nat):(gg q k).length=k:=by simp[gg]
theorem lx(q:List Int){k:Nat}(b:k<=q.length):(gg q k).map Prod.snd=q.take k:=by
 apply List.ext_getElem
 ·simp[gg,b]
 ·intro i a c
  have:i<q.length:=by simp[gg]at a;omega
  simp[gg,this]
def gI(b B:World):Prop:=∀(k:Nat) (a:Obj),b.heap[k]?=some a->a.isCells=true->B.heap[k]?=some a
def EW(b:World)(k:Nat):Prop:=∃a,b.heap[k]?=some a/\a.isCells=true
theorem gI.refl(a:World):gI a a:=fun _ _ h _=>h
theorem gI.drew(a:World):gI a a.drew:=fun _ _ h _=>h
theorem gI.drewN(a:World)(n:Nat):gI a (a.drewN n):=fun _ _ h _=>h
theorem gI.trans{a B C:World}(h:gI a B)(k:gI B C):gI a C:=fun i c d b=>k i c (h i c d b) b
theorem gI.put(W:World)(l:Nat)(c f:Obj)(h:W.heap[l]?=some c)(d:c.isCells=false):gI W (W.putObj l f):=fun k g a b=>by
 by_cases e:k=l
 ·subst e;rw[h]at a;cases a;rw[d]at b;cases b
 ·exact(World.putObj_heap_other e).trans a
theorem nE(W:World){D:Nat}{p:Addr}(b:Obj)(v:Value)(h:D≠p.block):(W.setCell p v).putObj D b=(W.putObj D b).setCell p v:=by
 unfold World.setCell World.putObj
 congr 1
 apply Array.ext_getElem?;intro i;simp only[Array.getElem?_modify,Array.getElem?_setIfInBounds,Array.size_modify];by_cases a:D=i
 ·subst a
  have c:¬p.block=D:=fun e=>h e.symm
  simp[c]
 ·simp[a]
structure A9(Kp:World->World->Prop)(Sep:World->Nat->Prop):Prop where
 keep:∀{A B:World} {k:Nat},Kp A B->Sep A k->k<A.heap.size->B.heap[k]?=A.heap[k]?/\Sep B k
theorem DX:A9 gI EW:=⟨fun {d B k} h ⟨c,a,b⟩ _=>⟨(h k c a b).trans a.symm,c,h k c a b,b⟩⟩
theorem me(a:Nat)(w:World):
 Calls prog 48 #[.pointer (some ⟨a,0,none⟩)] w (fun e w'=>e=.returned (.func (.func 93) #[] #[.pointer (some ⟨w.heap.size,0,none⟩)])/\w.alloc (.cells #[.pointer (some ⟨a,0,none⟩)] 106)=w'):=by
 go_enter func48,ntmps48
 go_wp2
 go_ret;exact⟨rfl,rfl⟩
theorem ts(n:Nat)(gf:1<=n)(l K b g:Nat)(q:List Int){U:World->World->Prop}{Sep:World->Nat->Prop}(a3:A9 U Sep)(j T:List (Nat×Int)->World->Prop)(W:World)
 (ad:∀s k p,Ch ag W s->W.heap.size<=k->s.heap[k]?=some p->p.isCells=true->Sep s k) (Y:∀s,Ch ag W s->j [] W->j [] s)
 (al:∀pre x W,j pre W->pre.length<q.length->YieldAt Fence.wide (n-1) prog l #[.int .i64 (x.1:Nat),.int .u64 x.2] W fun e r=>
  (e=.returned (.bool true)/\j (pre++[x]) r/\U W r)∨(e=.returned (.bool false)/\T (pre++[x]) r))
 (eC:W.cell? ⟨K,0,none⟩=some (.pointer (some ⟨b,0,none⟩))) (z:eH W b g q) (X:j [] W):
 Calls prog 93 #[.func (.yield l) #[] #[],.pointer (some ⟨K,0,none⟩)] W fun e r=>(∃v,e=.returned v)/\
  ((∃c9,c9=gg q q.length/\j c9 r)∨(∃pre,(∃k,k<=q.length/\pre=gg q k)/\T pre r)):=by
 obtain⟨cs,fr,A,c1⟩:=z;have M:=Z A;have cA:=Z c1;have cS:=Z ad;have cl:=Z Y;have dC:=Z al;have cb:=Z X;have L:=Z eC;have cq:=Z a3;have dN:=A.head.k 2 rfl;obtain⟨N,F⟩:=mn q.length;have C:=Z F;have fd:=A.hn;rw[<-F]at dN fd⊢;have ci:=Z (info_parts jt);obtain⟨fE,bi,fn,fo,fz⟩:=ci.out;have ch:=Z bi;clear A c1 ad Y al X a3 F bi;go_enter func93,ntmps93
 go_wp2_with fail
 go_loopg [3,11] (N+1) (fun gk u i wr=>∃k:Nat,k<=N/\gk=N-k+1/\i=.int .i64 k/\Hid (Ch ag W wr/\wr.ownsRow W.heap.size 39 1 u k ((q.take k).map (Value.int .u64))))
 case atStart=>exact⟨0,by omega,by omega,rfl,Ch.refl _ _,⟨by simp,Or.inl ⟨rfl,rfl⟩⟩⟩
 case round=>
  obtain⟨k,gc,rfl,rfl,c⟩:=hrel;have cd:=Z ((c.out.1.cell (aE L.out) (fun h=>h)).trans L.out);obtain⟨D,E,rfl⟩:=aA c.out.2;by_cases G:k<N
  ·have f:q[k]?=some (q[k]?.getD 0):=by rw[List.getElem?_eq_getElem (by rw[<-C.out];exact G)];rfl
   have dr:=Z f;obtain⟨x,c5⟩:=nm (q[k]?.getD 0);rw[c5]at f;have S:=Z f;have V:wr.cell? ⟨g,(fr+k)%64,none⟩=some (.int .u64 x):=(M.out.rows.ch c.out.1 (fun h=>h)).cell (by rw[List.getElem?_map,cA.out k (by rw[<-C.out];exact G),S.out];rfl);have eO:=cd.out;have eS:=Z (M.out.ch c.out.1 (fun h=>h) (fun h=>h));clear f c5;go_wp2_with fail
   refine(jS b g cs fr q.length k (by omega) wr eS.out).mono ?_;rintro e w2 ⟨rfl,c7,rfl⟩;obtain⟨w2,I⟩:=nm (wr.drewN c7);have y:Hid (Ch ag wr w2):=Z (by rw[<-I];exact(Ch.refl _ _).drewN c7);have ec:=y.out.k V;have Q:=Z (ar c.out.2 y.out (fun _ _ h=>h));rw[I];clear I V eO;go_wp2_with (at_builtin;refine wpList_append_lies _ rfl _ _ _ rfl W.heap.size 39 fE _ 1 8 underlying29 ch.out fn fo fz rfl (by omega) _ k ((q.take k).map (Value.int .u64)) rfl (Q.out.alloc _) ⟨w2.heap.size,0,none⟩ 1 1 [.int .u64 x] rfl rfl (World.news_of_block (cs:=#[.int .u64 x]) (t:=39) (fr:=(0,0)) (heap_alloc_new w2 _)) (by simp[Value.oneCell']) (by omega) (by unfold maxLen;omega) (by omega) (by simp;have:=c.out.1.size;have:=y.out.size;omega) (w2.heap.size+1) (by simp) ?_)
   intro g4 cap w4 c0 av eL fb;have ap:=ax av;have ct:=Z c0;have ce:=Z (iP (c.out.1.trans y.out) Q.out (Nat.le_refl _) ap);clear av ap c0 eL fb ec;go_wp2_with fail
   go_roundg (N-(k+1)+1)
   case measure=>omega
   case rel=>
    refine⟨k+1,G,rfl,?_,ce.out,?_⟩
    ·congr 1
    ·rw[List.take_add_one,S.out,List.map_append,List.map_take]
     exact ct.out
  ·obtain rfl:k=N:=by omega
   have P:=Z c.out.2;have R:=Z c.out.1;have a0:=cl.out wr R.out cb.out;have cm:=Z a0;clear a0;have ab:=P.out;have c4:∀a,(Value.slice D k E).ownBlock=some a->W.heap.size<=a/\∃p,wr.heap[a]?=some p/\p.isCells=true:=fun a d=>by
    rcases ab.2 with⟨e,_⟩|⟨g',cap,cur,e,ex,eU,_⟩
    ·rw[e]at d;cases d
    ·rw[e]at d
     have:g'=a:=(by simpa[Value.ownBlock]using d);subst this;exact⟨ex,_,eU,rfl⟩
   have cW:=Z c4;clear ab c4;obtain⟨c8,rfl⟩:=mn wr;go_upto_block 2 with fail
   refine(wpIn_wide (n:=n)).1 ?_
   gi_wp2_with fail
   gi_loopw [25] (fun i J=>∃m:Nat,m<=k/\i=.int .i64 m/\Hid (j (gg q m) J/\∀a,(Value.slice D k E).ownBlock=some a->J.heap[a]?=c8.heap[a]?/\Sep J a)) (fun i _=>k-(intOf i).toNat)
   case atStart=>exact⟨0,by omega,rfl,cm.out,fun a d=>by obtain⟨en,p,es,et⟩:=cW.out a d;exact⟨rfl,cS.out c8 a p R.out en es et⟩⟩
   case round=>
    obtain⟨m,ge,rfl,w⟩:=hrel;by_cases eY:m<k
    ·obtain⟨o,e1,fK,c3,eA,go,gb,c2,_⟩:=aS P.out (by omega)
     obtain⟨rfl,rfl⟩:D=some ⟨o,0,none⟩/\E=e1:=by simpa using c3
     have bv:=w.out.2 o rfl;have H:Row wr o 39 ((q.take k).map (Value.int .u64)++fK):=bv.1.trans c2;have eW:k<=q.length:=(by rw[<-C.out];exact Nat.le_refl _);have am:wr.cell? ⟨o,m,none⟩=some (Value.int .u64 (q[m]?.getD 0)):=H.cell (i:=m) (by
      rw[List.getElem?_append_left (by simp;omega),List.getElem?_map,List.getElem?_take,if_pos eY,List.getElem?_eq_getElem (by omega)];rfl)
     obtain⟨g2,tmps,assign,body,c6,z⟩:=dC.out _ (m,q[m]?.getD 0) wr w.out.1 (by rw[o6];omega);have cC:=Z z;have cL:=Z H;dsimp only at c6 am;clear z c2 H c3 eA bv eW;obtain⟨x,f⟩:=nm (q[m]?.getD 0);rw[f]at c6 am;have dr:=Z f;clear f
     gi_wp2_with fail
     refine cC.out.mono ?_;rintro e fT (⟨rfl,a1,bw⟩|⟨rfl,a2⟩)
     ·have B:=Z a1
      have O:=Z (cq.out.keep bw (w.out.2 o rfl).2 cL.out.lt);clear a1 bw
      gi_wp2_with fail
      go_roundw
      case rel=>
       refine⟨m+1,by omega,by simp,?_,fun a d=> ?_⟩
       ·rw[nD];exact B.out
       ·obtain rfl:o=a:=by simpa[Value.ownBlock]using d
        exact⟨O.out.1.trans (w.out.2 o rfl).1,O.out.2⟩
      case measure=>simp[intOf];omega
     ·have B:=Z a2
      clear a2
      gi_wp2_with fail
      refine bodyPost_ret (results_none rfl _ _ _) rfl ?_;exact⟨⟨_,rfl⟩,.inr ⟨_,⟨m+1,by omega,(nD _ _).symm⟩,B.out⟩⟩
    ·obtain rfl:m=k:=by omega
     gi_wp2_with fail
     go_end0
     exact⟨⟨_,rfl⟩,.inl ⟨_,rfl,w.out.1⟩⟩
theorem Ch.grown{w w':World}(h:Ch ag w w'):w.grownBy w' none:=⟨h.os,h.tape,h.output,h.size,fun k a _=>h.same k a (fun h=>h)⟩
theorem kD(n:Nat)(D:1<=n)(d b g:Nat)(q:List Int){j:World->World->Prop}{Sep:World->Nat->Prop}(z:A9 j Sep)(w:World)
 (m:w.cell? ⟨d,0,none⟩=some (.pointer (some ⟨b,0,none⟩))) (A:eH w b g q) (B:∀W a k c,Below w.heap.size w W->Ch ag W a->W.heap.size<=k->a.heap[k]?=some c->c.isCells=true->Sep a k):
 SeqStopsK Fence.wide n prog 93 #[.pointer (some ⟨d,0,none⟩)] (fun x:Nat×Int=>#[Value.int .i64 (x.1:Int),Value.int .u64 x.2]) j (fun E=>E=gg q q.length) (fun pre=>∃k,k<=q.length/\pre=gg q k) q.length w:=fun l r s W o y F C t=>by
 have p:=Ch.bY o;exact callsIn_wide.2 (ts n D l d b g q z r s W (fun a k c f i u v=>B W a k c o f i u v) (fun a f i=>y [] W a none i f.grown (fun _ e=>by cases e)) C ((p.cell (aE m) (fun h=>h)).trans m) (A.ch p (fun h=>h) (fun h=>h)) t)
end
section
def GC:Nat->AS->Nat->Nat->AS
 |0,s,_,_=>s
 |f+1,s,j,d=>if Ia (aaq s j d) j=90 then aaq s j d else GC f (aaq s j d) j d
section
variable{ok:Hy}{n j d e K M q v t b a z id i f:Nat}{s s1 s2 s':AS}{g g':Gh}{m:Nat->Nat}{w w':AW}{r:Nat->Nat}
theorem IK(S:GH j d K s1 s'):∀(f:Nat) (s:AS),aaq s j d=s1->Ia s' j=90->K<f->GC f s j d=s':=by
 induction S with
 |nil=>
  intro f s k h o;obtain⟨f,rfl⟩:∃c,f=c+1:=⟨f-1,by omega⟩;unfold GC;rw[k,if_pos h]
 |cons l p ih=>
  intro f s k h o;obtain⟨f,rfl⟩:∃c,f=c+1:=⟨f-1,by omega⟩;unfold GC;rw[k,if_neg l];exact ih f _ rfl h (by omega)
structure NT(s s':AS)(j:Nat):Prop where
 pc:Ia s' j=90
 ot:∀k,k≠j->s'.wk[k]?=s.wk[k]?
 Gx:s'.Gx=s.Gx
theorem NT.of{S:AS}(hw:S.wk=s.wk)(h:S.Gx=s.Gx)(hj:j<s.wk.length):NT s (S.put j ⟨90,r,[],0⟩) j:=
 ⟨HO (by rw[hw];exact hj),fun k c=>(HM c).trans (by rw[hw]),h⟩
theorem IL(hw:s.wk[j]?=some w)(k:w.pc=90)(hb:w.back=[])(c:w.hand=0):aaq s j d=s.put j ⟨91,cf w.r 0 d,[],0⟩:=by
 obtain⟨pc,r,bk,h⟩:=w;obtain rfl:pc=90:=k;obtain rfl:bk=[]:=hb;obtain rfl:h=0:=c;exact(HV hw rfl).trans QR
theorem FB.fd(I:FB ok n s g m)(hj:j<n)(c:Qt s.sh g j):Fd n s j (tp s.sh j) (dK s.sh j) (ra s.sh j) (s.sh.c (ra s.sh j)):=by
 have D:=I.si.d j hj;have B:=I.bd hj;have e:=B.e;have h:=D.ar.lo;exact⟨rfl,rfl,rfl,rfl,by omega,B.a,B.x,by rw[c.1];exact D.le,by rw[c.1];exact e,D.t1,D.ar.sz,by rw[c.1];exact D.rm⟩
theorem NU(I:FB ok n s g m)(u:e<n)(o:Qt s.sh g e)(l:tp s.sh e<=i)(h:i<dK s.sh e):s.c (ra s.sh e+1+i%s.sh.c (ra s.sh e))≠0/\s.may (s.c (ra s.sh e+1+i%s.sh.c (ra s.sh e)))=true:=by
 have D:=I.si.d e u;rw[o.1]at h;have c:=D.dq i l h;have p:s.c (ra s.sh e+1+i%s.sh.c (ra s.sh e))=g.it e i:=D.ce i l h;rw[p];exact⟨c.1.Qm,Jz I.li c.1 (by rw[c.2];intro q;cases q) (fun k=>by rw[c.2];intro q;cases q)⟩
def Ir(s:AS)(j:Nat):Prop:=s.hl+(if s.c (s.c (17+3*j+2))=4 then 26 else if s.c (s.c (17+3*j+2))=8 then 17 else 0)+64<=s.Gx+s.nb
theorem JZ(s:Sh)(d:Nat):(cont s d).length=dK s d-tp s d:=by unfold cont;rw[List.length_map,List.length_range]
theorem MH{S S':Sh}(k:tp S' j=tp S j)(hb:dK S' j=dK S j)(h:∀i,tp S j<=i->i<dK S j->S'.c (ra S' j+1+i%S'.c (ra S' j))=S.c (ra S j+1+i%S.c (ra S j))):cont S' j=cont S j:=by
 unfold cont;rw[k,hb];exact List.map_congr_left fun i c=>h _ (by omega) (by have:=List.mem_range.1 c;omega)
theorem Lx{S S':Sh}(o:tp S j<=dK S j)(l:tp S' j=tp S j)(hb:dK S' j=dK S j+1)(h:∀i,tp S j<=i->i<dK S j->S'.c (ra S' j+1+i%S'.c (ra S' j))=S.c (ra S j+1+i%S.c (ra S j)))(k:S'.c (ra S' j+1+dK S j%S'.c (ra S' j))=id):cont S' j=cont S j++[id]:=by
 unfold cont;rw[l,hb,show dK S j+1-tp S j=(dK S j-tp S j)+1 by omega,List.range_succ,List.map_append]
 congr 1
 ·exact List.map_congr_left fun i c=>h _ (by omega) (by have:=List.mem_range.1 c;omega)
 ·rw[List.map_cons,List.map_nil,show tp S j+(dK S j-tp S j)=dK S j by omega,k]
theorem NV(I:FB ok n s g m)(hw:s.wk[j]?=some w)(R:w.pc=90)(am:d&&&3=0)(u:Ir s j)(hb:s.nb<64):
 NT s (GC 500 s j d) j/\(GC 500 s j d).nb=s.nb+1/\Ir (GC 500 s j d) j/\
  ((cont s.sh j).length<16/\(GC 500 s j d).ring=s.ring/\cont (GC 500 s j d).sh j=cont s.sh j++[64+s.nb]∨
   (cont s.sh j).length=16/\(GC 500 s j d).ring=s.ring++[64+s.nb]/\cont (GC 500 s j d).sh j=cont s.sh j):=by
 have x:=If hw;have hj:j<n:=by rw[<-I.nw];exact x
 obtain⟨bi,bv,bw⟩:=quiet I hw R;have F:=I.fd hj bw;have D:=I.si.d j hj;have P:=D.ar.lo;have a0:=F.l;have a1:=F.x;have c2:=F.m;have T:s.Gx<=65536:=I.si.l1;have fst:=IL (d:=d) hw R bi bv;let c0:=cf (cf (cf (cf w.r 0 d) 1 0) 2 (d>>>2)) 4 0
 have X:=G3 (s:=s) (j:=j) (d:=d) x I.nw (M:=4) (JU (h:=0) (bk:=[]) (r:=cf w.r 0 d) (by decide) (show d&&&3=0 from am) (JV (by decide) (V:=d>>>2) rfl (Mv (by decide) rfl (Mz (by decide) (.here rfl)))));have Q:s.hl+1<=s.Gx:=by unfold Ir at u;omega
 obtain⟨z,L⟩:=nm (s.sh.c (ra s.sh j));obtain⟨a,G⟩:=nm (ra s.sh j);obtain⟨t,B⟩:=nm (tp s.sh j);obtain⟨b,p⟩:=nm (dK s.sh j);rw[L,G,B,p]at F;have tb:=F.tb;rw[G]at L P;let C:AS:={s with hl:=s.hl+1,nb:=s.nb+1,c:=cf s.c s.hl 0}
 have k:∀q,q<s.hl->C.c q=s.c q:=fun q c3=>cQ _ _ (by omega)
 rw[G,L]at a0;rw[G]at a1;have F0:Fd n C j t b a z:=⟨by rw[k _ (by omega)];exact F.ct,by rw[k _ (by omega)];exact F.cb,by rw[k _ (by omega)];exact F.ca,by rw[k _ (by omega)];exact F.cz,F.x,Nat.lt_succ_of_lt F.l,Nat.le_trans Q T,F.tb,F.b1,F.t1,F.zs,F.bz⟩;have ap:z<16->C.hl+(2*z+1)<=C.Gx:=fun a2=>by
  unfold Ir at u;rw[F.ca,F.cz]at u;show s.hl+1+_<=s.Gx
  rcases F.zs with e|e|e<;>subst e<;>simp at u a2⊢<;>omega
 obtain⟨c4,H,J,a3,ab,ad,al,Y⟩:=Ls (d:=d) (r:=c0) F x I.nw rfl ⟨Q,hb⟩;obtain⟨s',r',Z,w1,w2,U,w4⟩:=Lw (s:=C) (d:=d) (id:=64+s.nb) (h:=64+s.nb) F0 P hj x I.nw H J a3 ab ad al rfl (by omega) ap T;have E:GC 500 s j d=s'.put j ⟨90,r',[],0⟩:=IK ((X.trans (Y.trans Z))) 500 s fst (HO (by rw[w1];exact x)) (by omega);have ec:(GC 500 s j d).c=s'.c:=by rw[E];rfl
 have c1:∀S:AS,tp S.sh j=S.c (17+3*j)/\dK S.sh j=S.c (17+3*j+1)/\ra S.sh j=S.c (17+3*j+2):=fun S=>⟨rfl,rfl,rfl⟩
 rw[E];refine⟨NT.of w1 w2 x,U,?_,?_⟩
 ·unfold Ir at u⊢
  show s'.hl+(if s'.c (s'.c (17+3*j+2))=4 then 26 else if s'.c (s'.c (17+3*j+2))=8 then 17 else 0)+64<=s'.Gx+s'.nb
  rw[F.ca,F.cz]at u;rw[w2,U];show _<=s.Gx+(s.nb+1)
  rcases w4 with⟨y,A,l,o⟩|⟨y,A,l,o⟩
  ·rcases o with⟨av,N⟩|⟨av,N,p3,p4⟩
   ·obtain⟨a',W,x1,x2,x3,_⟩:=l.ca
    obtain rfl:W=z:=by omega
    rw[x1,x2,N];show s.hl+1+_+64<=_
    omega
   ·rw[p4,p3]
    show s.hl+1+(2*z+1)+_+64<=_
    rcases F.zs with e|e|e<;>subst e<;>simp at u N⊢<;>omega
  ·rw[o (17+3*j+2) (by omega),k (17+3*j+2) (by omega),F.ca,o a (by omega),k a (by omega),F.cz,l]
   show s.hl+1+_+64<=_
   omega
 ·rcases w4 with⟨y,A,l,o⟩|⟨y,A,l,o⟩
  ·refine Or.inl ⟨by rw[JZ,p,B];exact y,A,?_⟩
   obtain⟨a',W,x1,x2,x3,x4,x5⟩:=l.ca;refine Lx (S:=s.sh) (S':=(s'.put j ⟨90,r',[],0⟩).sh) (by rw[B,p];exact tb) ?_ ?_ (fun i i1 i2=> ?_) ?_
   ·show s'.c (17+3*j)=s.c (17+3*j)
    rw[l.o _ (by omega) (by omega) (by omega) (by omega),k _ (by omega)]
   ·rw[p];exact l.cb
   ·rw[B]at i1
    rw[p]at i2;show s'.c (s'.c (17+3*j+2)+1+i%s'.c (s'.c (17+3*j+2)))=s.c (s.c (17+3*j+2)+1+i%s.c (s.c (17+3*j+2)))
    have O:0<z:=(by rcases F.zs with e|e|e<;>omega);have:=Nat.mod_lt i O;rw[x1,x2,F.ca,F.cz,x4 i i1 i2,k (a+1+i%z) (by omega)]
   ·rw[p]
    show s'.c (s'.c (17+3*j+2)+1+b%s'.c (s'.c (17+3*j+2)))=_
    rw[x1,x2,x5]
  ·refine Or.inr ⟨by rw[JZ,p,B];exact y,A,?_⟩
   have e:∀q,q<s.hl->q≠0->s'.c q=s.c q:=(fun q H J=>by rw[o q J,k q H]);refine MH (S:=s.sh) (S':=(s'.put j ⟨90,r',[],0⟩).sh) (e _ (by omega) (by omega)) (e _ (by omega) (by omega)) (fun i i1 i2=> ?_);show s'.c (s'.c (17+3*j+2)+1+i%s'.c (s'.c (17+3*j+2)))=s.c (s.c (17+3*j+2)+1+i%s.c (s.c (17+3*j+2)))
   have O:0<z:=(by rcases F.zs with e|e|e<;>omega);have:=Nat.mod_lt i O;rw[e (17+3*j+2) (by omega) (by omega),F.ca,e a (by omega) (by omega),F.cz,e (a+1+i%z) (by omega) (by omega)]
theorem kA{S S':Sh}{b:Nat}(o:tp S j<b)(hb:dK S j=b)(l:tp S' j=tp S j)(c:dK S' j=b-1)(h:∀i,tp S j<=i->i<b-1->S'.c (ra S' j+1+i%S'.c (ra S' j))=S.c (ra S j+1+i%S.c (ra S j))):cont S j=cont S' j++[S.c (ra S j+1+(b-1)%S.c (ra S j))]:=by
 unfold cont;rw[l,c,hb,show b-tp S j=(b-1-tp S j)+1 by omega,List.range_succ,List.map_append]
 congr 1
 ·exact List.map_congr_left fun i k=>(h _ (by omega) (by have:=List.mem_range.1 k;omega)).symm
 ·rw[List.map_cons,List.map_nil,show tp S j+(b-1-tp S j)=b-1 by omega]
theorem Kw{S S':Sh}(o:tp S j<dK S j)(l:tp S' j=tp S j+1)(c:dK S' j=dK S j)(h:∀i,tp S j<=i->i<dK S j->S'.c (ra S' j+1+i%S'.c (ra S' j))=S.c (ra S j+1+i%S.c (ra S j))):cont S j=S.c (ra S j+1+tp S j%S.c (ra S j))::cont S' j:=by
 unfold cont;rw[l,c,show dK S j-tp S j=(dK S j-(tp S j+1))+1 by omega,List.range_succ_eq_map,List.map_cons,List.map_map]
 congr 1
 exact List.map_congr_left fun i k=>by
  have:=List.mem_range.1 k;show S.c (ra S j+1+(tp S j+(i+1))%S.c (ra S j))=_
  rw[show tp S j+(i+1)=tp S j+1+i by omega];exact(h _ (by omega) (by omega)).symm
theorem HW{S:Sh}(h:dK S j<=tp S j):cont S j=[]:=by
 unfold cont;rw[show dK S j-tp S j=0 by omega];rfl
theorem p0(I:FB ok n s g m)(hw:s.wk[j]?=some w)(W:w.pc=90)(al:d&&&3=1):
 NT s (GC 500 s j d) j/\(GC 500 s j d).nb=s.nb/\(Ir s j->Ir (GC 500 s j d) j)/\
  (cont s.sh j=[]/\(GC 500 s j d).ring=s.ring/\cont (GC 500 s j d).sh j=[]∨
   ∃l x,cont s.sh j=l++[x]/\(GC 500 s j d).ring=s.ring++[x]/\cont (GC 500 s j d).sh j=l):=by
 have p:=If hw;have hj:j<n:=by rw[<-I.nw];exact p
 obtain⟨bv,bw,a1⟩:=quiet I hw W;have F:=I.fd hj a1;have P:=fun i B C=>NU (i:=i) I hj a1 B C
 have a3:=F.l;have ab:=F.x;have c4:=F.m;have fst:=IL (d:=d) hw W bv bw;obtain⟨z,L⟩:=nm (s.sh.c (ra s.sh j));obtain⟨a,D⟩:=nm (ra s.sh j);obtain⟨t,X⟩:=nm (tp s.sh j);obtain⟨b,J⟩:=nm (dK s.sh j);rw[L,D,X,J]at F;rw[L,D]at a3 P;rw[D]at ab;rw[X,J]at P;have tb:=F.tb;have t1:=F.t1;have c2:=F.b1;have c1:0<z:=by rcases F.zs with e|e|e<;>omega
 let c0:=cf (cf (cf (cf (cf w.r 0 d) 1 1) 2 (d>>>2)) 3 1) 17 (17+3*j)
 have O:=G3 (s:=s) (j:=j) (d:=d) p I.nw (M:=7) (JU (h:=0) (bk:=[]) (r:=cf w.r 0 d) (by decide) (show d&&&3=1 from al) (JV (by decide) (V:=d>>>2) rfl (Kt (by decide) Nat.one_ne_zero (Mw (by decide) (if_pos (show(1:Nat)=1 from rfl)) (Pe (by decide) Nat.one_ne_zero (QS (by decide) rfl (Qz (by decide) (.here rfl))))))));obtain⟨a2,Y,ap,Z,Q⟩:=oF (d:=d) (r:=c0) F p I.nw rfl;let o:=cf s.c (17+3*j+1) (b-1)
 have y:∀q,q≠17+3*j+1->o q=s.c q:=fun q am=>cQ _ _ am
 have c6:=Nat.mod_lt (b-1) c1;rcases Nat.lt_or_ge t b with c|c
 ·obtain⟨id,hid⟩:=nm (s.c (a+1+(b-1)%z))
  have G:=P (b-1) (by omega) (by omega);rw[hid]at G;obtain⟨N,av,c5,bi,a0,H⟩:=ny (s:={s with c:=o}) (d:=d) (r:=a2) (id:=id) (a:=a) (z:=z) p I.nw Y (by omega) ap Z (by omega) (by rw[<-F.ca];exact y _ (by omega)) (by rw[<-F.cz];exact y _ (by omega)) F.zs (by omega) (by rw[<-hid];exact y _ (by omega));by_cases c3:t=b-1
  ·obtain⟨T,R⟩:=nR (s:={s with c:=o}) (d:=d) (r:=N) (t:=t) p I.nw av (by omega) (by omega) bi (by omega) (by rw[<-F.ct];exact y _ (by omega)) a0 G.1 G.2
   let k:=cf (cf (cf o (17+3*j) (t+1)) (17+3*j+1) (t+1)) 0 ((cf (cf o (17+3*j) (t+1)) (17+3*j+1) (t+1) 0+1)%qO)
   have u:∀q,q≠0->q≠17+3*j->q≠17+3*j+1->k q=s.c q:=fun q B C U=>by
    show cf (cf (cf _ _ _) _ _) _ _ q=_
    rw[cQ _ _ B,cQ _ _ U,cQ _ _ C,y q U]
   have E:GC 500 s j d=({s with ring:=s.ring++[id],c:=k}:AS).put j ⟨90,T,[],0⟩:=IK (O.trans (Q.trans (H.trans R))) 500 s fst (HO p) (by omega);rw[E];refine⟨NT.of rfl rfl p,rfl,fun A=> ?_,Or.inr ⟨[],id,?_,rfl,HW ?_⟩⟩
   ·unfold Ir at A⊢
    show s.hl+(if k (k (17+3*j+2))=4 then 26 else if k (k (17+3*j+2))=8 then 17 else 0)+64<=s.Gx+s.nb
    rw[u (17+3*j+2) (by omega) (by omega) (by omega),F.ca,u a (by omega) (by omega) (by omega)];rw[F.ca]at A;exact A
   ·rw[<-hid,<-D,<-L]
    have:=kA (S:=s.sh) (S':={s.sh with c:=o}) (j:=j) (b:=b) (by omega) J (y _ (by omega)) (Fy _ _ _) (fun i i1 i2=>by omega);rw[this,HW (by rw[show dK ({s.sh with c:=o}:Sh) j=b-1 from Fy _ _ _,show tp ({s.sh with c:=o}:Sh) j=tp s.sh j from y _ (by omega)];omega)];rfl
   ·show k (17+3*j+1)<=k (17+3*j)
    show cf (cf (cf _ _ _) _ _) _ _ _<=cf (cf (cf _ _ _) _ _) _ _ _
    rw[cQ _ _ (by omega),Fy,cQ _ _ (by omega),cQ _ _ (by omega),Fy];exact Nat.le_refl _
  ·obtain⟨T,R⟩:=nA (s:={s with c:=o}) (d:=d) (r:=N) p I.nw (by omega) a0 G.1 G.2
   let k:=cf o 0 ((o 0+1)%qO)
   have u:∀q,q≠0->q≠17+3*j+1->k q=s.c q:=fun q B C=>by
    show cf _ _ _ q=_
    rw[cQ _ _ B,y q C]
   have E:GC 500 s j d=({s with ring:=s.ring++[id],c:=k}:AS).put j ⟨90,T,[],0⟩:=IK (O.trans (Q.trans (H.trans R))) 500 s fst (HO p) (by omega);rw[E];refine⟨NT.of rfl rfl p,rfl,fun A=> ?_,Or.inr ⟨_,id,?_,rfl,rfl⟩⟩
   ·unfold Ir at A⊢
    show s.hl+(if k (k (17+3*j+2))=4 then 26 else if k (k (17+3*j+2))=8 then 17 else 0)+64<=s.Gx+s.nb
    rw[u (17+3*j+2) (by omega) (by omega),F.ca,u a (by omega) (by omega)];rw[F.ca]at A;exact A
   ·rw[<-hid,<-D,<-L]
    refine kA (S:=s.sh) (j:=j) (b:=b) (by omega) J (u (17+3*j) (by omega) (by omega)) ?_ (fun i i1 i2=> ?_)
    ·exact(show cf o 0 ((o 0+1)%qO) (17+3*j+1)=o (17+3*j+1)from cQ _ _ (by omega)).trans (Fy _ _ _)
    ·show k (k (17+3*j+2)+1+i%k (k (17+3*j+2)))=s.c (s.c (17+3*j+2)+1+i%s.c (s.c (17+3*j+2)))
     rw[u (17+3*j+2) (by omega) (by omega),F.ca,u a (by omega) (by omega),F.cz,u (a+1+i%z) (by omega) (by omega)]
 ·obtain rfl:b=t:=by omega
  obtain⟨N,H⟩:=nv (s:={s with c:=o}) (d:=d) (r:=a2) (t:=b) p I.nw Y (by omega) (by omega) Z;let k:=cf o (17+3*j+1) b
  have u:∀q,k q=s.c q:=fun q=>by
   show cf _ _ _ q=_
   by_cases h:q=17+3*j+1
   ·rw[h,Fy,F.cb]
   ·rw[cQ _ _ h,y q h]
  have E:GC 500 s j d=({s with c:=k}:AS).put j ⟨90,N,[],0⟩:=IK (O.trans (Q.trans H)) 500 s fst (HO p) (by omega);have ad:k=s.c:=funext u;rw[E,ad];exact⟨NT.of rfl rfl p,rfl,fun A=>A,Or.inl ⟨HW (by omega),rfl,HW (show dK s.sh j<=tp s.sh j by omega)⟩⟩
theorem MI(I:FB ok n s g m)(hw:s.wk[j]?=some w)(P:w.pc=90)(O:e<n)(Q:Qt s.sh g e)(N:d&&&3≠0/\d&&&3≠1)(u:(d>>>2)%n=e):
 NT s (GC 500 s j d) j/\(GC 500 s j d).nb=s.nb/\(Ir s e->Ir (GC 500 s j d) e)/\
  (cont s.sh e=[]/\(GC 500 s j d).ring=s.ring/\cont (GC 500 s j d).sh e=[]∨
   ∃l x,cont s.sh e=x::l/\(GC 500 s j d).ring=s.ring++[x]/\cont (GC 500 s j d).sh e=l):=by
 have o:=If hw;obtain⟨Z,a0,al⟩:=quiet I hw P;have F:=I.fd O Q;have C:=fun i D u=>NU (i:=i) I O Q D u
 have X:=F.l;have Y:=F.x;have ab:=F.m;have fst:=IL (d:=d) hw P Z a0;obtain⟨z,H⟩:=nm (s.sh.c (ra s.sh e));obtain⟨a,A⟩:=nm (ra s.sh e);obtain⟨t,B⟩:=nm (tp s.sh e);obtain⟨b,L⟩:=nm (dK s.sh e);rw[H,A,B,L]at F;rw[H,A]at X C;rw[A]at Y;rw[B,L]at C;have tb:=F.tb;have t1:=F.t1;have a3:=F.b1;have T:0<z:=by rcases F.zs with e|e|e<;>omega
 let R:=cf (cf (cf (cf (cf w.r 0 d) 1 (d&&&3)) 2 (d>>>2)) 3 0) 17 (17+3*e)
 have J:=G3 (s:=s) (j:=j) (d:=d) o I.nw (M:=7) (JU (h:=0) (bk:=[]) (r:=cf w.r 0 d) (by decide) (V:=d&&&3) rfl (JV (by decide) (V:=d>>>2) rfl (Kt (by decide) N.1 (Mw (by decide) (if_neg (show¬d&&&3=1 from N.2)) (Mx (by decide) rfl (ON (by decide) (V:=17+3*e) (by show 17+3*((d>>>2)%n)=_;rw[u]) (OO (by decide) rfl (.here rfl))))))));have ad:=Nat.mod_lt t T;rcases Nat.lt_or_ge t b with c|c
 ·obtain⟨id,hid⟩:=nm (s.c (a+1+t%z))
  have G:=C t (by omega) (by omega);rw[hid]at G;obtain⟨a2,W⟩:=MG (s:=s) (j:=j) (d:=d) (r:=R) (id:=id) F o I.nw rfl c hid G.1 G.2;let k:=cf (cf s.c (17+3*e) (t+1)) 0 ((cf s.c (17+3*e) (t+1) 0+1)%qO)
  have p:∀q,q≠0->q≠17+3*e->k q=s.c q:=fun q D u=>by
   show cf (cf _ _ _) _ _ q=_
   rw[cQ _ _ D,cQ _ _ u]
  have E:GC 500 s j d=({s with ring:=s.ring++[id],c:=k}:AS).put j ⟨90,a2,[],0⟩:=IK (J.trans W) 500 s fst (HO o) (by omega);rw[E];refine⟨NT.of rfl rfl o,rfl,fun y=> ?_,Or.inr ⟨_,id,?_,rfl,rfl⟩⟩
  ·unfold Ir at y⊢
   show s.hl+(if k (k (17+3*e+2))=4 then 26 else if k (k (17+3*e+2))=8 then 17 else 0)+64<=s.Gx+s.nb
   rw[p (17+3*e+2) (by omega) (by omega),F.ca,p a (by omega) (by omega)];rw[F.ca]at y;exact y
  ·rw[<-hid,<-A,<-H,<-B]
   refine Kw (S:=s.sh) (j:=e) (by omega) ?_ (p (17+3*e+1) (by omega) (by omega)) (fun i i1 i2=> ?_)
   ·show cf (cf _ _ _) _ _ _=_
    rw[cQ _ _ (by omega),Fy,B]
   ·have:=Nat.mod_lt i T
    show k (k (17+3*e+2)+1+i%k (k (17+3*e+2)))=s.c (s.c (17+3*e+2)+1+i%s.c (s.c (17+3*e+2)))
    rw[p (17+3*e+2) (by omega) (by omega),F.ca,p a (by omega) (by omega),F.cz,p (a+1+i%z) (by omega) (by omega)]
 ·obtain⟨a1,U⟩:=MF (s:=s) (j:=j) (d:=d) (r:=R) o I.nw rfl (by omega) F.ct F.cb (by omega)
  have E:GC 500 s j d=s.put j ⟨90,a1,[],0⟩:=IK (J.trans U) 500 s fst (HO o) (by omega);rw[E];exact⟨NT.of rfl rfl o,rfl,fun y=>y,Or.inl ⟨HW (by omega),rfl,HW (show dK s.sh e<=tp s.sh e by omega)⟩⟩
end
end
section
section
variable{ok PU:Hy}{n j d e DR K M q v t b a z id i f:Nat}{s s1 s2 s':AS}{g g':Gh}{m:Nat->Nat}{w w':AW}{r:Nat->Nat}
def Rest(n:Nat)(s:AS):Prop:=∀k,k<n->Ia s k=90
theorem HX(hw:s.wk[j]?=some w):Ia s j=w.pc:=by unfold Ia;rw[hw]
theorem FB.at_(I:FB ok n s g m)(hj:j<n):∃w,s.wk[j]?=some w:=⟨_,List.getElem?_eq_getElem (by rw[I.nw];exact hj)⟩
theorem FB.lt(I:FB ok n s g m)(hw:s.wk[j]?=some w):j<n:=by rw[<-I.nw];exact If hw
def FK(ok:Hy)(n:Nat)(s:AS):Prop:=∃g m,FB ok n s g m/\∀j,m j<=399
theorem FK.step(I:FK ok n s)(hj:j<n)(o:ok.ok j d):FK ok n (aaq s j d):=by
 obtain⟨g,m,I,h⟩:=I;obtain⟨g',mj,l,p⟩:=JA I hj o;refine⟨g',_,l,fun k=> ?_⟩;by_cases c:k=j
 ·subst c;rw[B2];have:=h k;omega
 ·rw[FF _ _ c];exact h k
theorem FK.op(hj:j<n)(c:ok.ok j d):∀(f:Nat) (s:AS),FK ok n s->FK ok n (GC f s j d)
 |0,s,I=>I
 |f+1,s,I=>by
  unfold GC;split
  ·exact I.step hj c
  ·exact FK.op hj c f _ (I.step hj c)
def Ph:Nat->AS->Nat->Nat->AS
 |0,s,_,_=>s
 |f+1,s,j,d=>if Ia s j=90 then s else Ph f (aaq s j d) j d
theorem FK.set(hj:j<n)(c:ok.ok j d):∀(f:Nat) (s:AS),FK ok n s->FK ok n (Ph f s j d)
 |0,s,I=>I
 |f+1,s,I=>by
  unfold Ph;split
  ·exact I
  ·exact FK.set hj c f _ (I.step hj c)
theorem e3(hj:j<n)(k:ok.ok j d):∀(f:Nat) (s:AS) (g:Gh) (m:Nat->Nat),FB ok n s g m->(Ia s j≠90->m j<=f)->Ia (Ph f s j d) j=90
 |0,s,g,m,I,h=>by
  by_cases c:Ia s j=90
  ·exact c
  ·obtain⟨g',mj,l,o⟩:=JA I hj k
   have:=h c;omega
 |f+1,s,g,m,I,h=>by
  unfold Ph;split
  ·assumption
  ·rename_i c
   obtain⟨g',mj,l,o⟩:=JA I hj k;have:=h c;exact e3 hj k f _ _ _ l (fun _=>by rw[B2];omega)
theorem fF(I:FK ok n s)(hj:j<n)(h:ok.ok j d):Ia (Ph 400 s j d) j=90:=by
 obtain⟨g,m,I,c⟩:=I;have k:=c j;exact e3 hj h 400 s g m I (fun _=>by omega)
theorem OQ{α:Type}{P:α->Prop}{c:Prop} [Decidable c]{a b:α}(h:P a)(hb:P b):P (if c then a else b):=by
 split
 ·exact h
 ·exact hb
theorem QZ{x:aV}{k:Nat}(l:k≠j):(ck x s j d w).wk[k]?=s.wk[k]?:=by
 have h:∀(S:AS) (y:AW),S.wk=s.wk->(S.put j y).wk[k]?=s.wk[k]?:=fun S y e=>(HM l).trans (by rw[e])
 show(fun c:AS=>c.wk[k]?=s.wk[k]?) (ck x s j d w)
 unfold ck;dsimp only
 repeat' first|exact h _ _ rfl|refine OQ (P:=fun c:AS=>c.wk[k]?=s.wk[k]?) ?_ ?_
theorem K7{k:Nat}(c:k≠j):(aaq s j d).wk[k]?=s.wk[k]?:=by
 unfold aaq;split
 ·rfl
 ·split
  ·rfl
  ·exact QZ c
theorem K8{S:AS}{k:Nat}(h:S.wk[k]?=s.wk[k]?):Ia S k=Ia s k:=by unfold Ia;rw[h]
theorem oI{k:Nat}(c:k≠j):∀(f:Nat) (s:AS),(Ph f s j d).wk[k]?=s.wk[k]?
 |0,s=>rfl
 |f+1,s=>by
  unfold Ph;split
  ·rfl
  ·rw[oI c f];exact K7 c
theorem MJ(I:FB ok n s g m)(H:Rest n s):(s.ring++(List.range n).flatMap (cont s.sh)).Nodup/\∀id,id∈s.ring++(List.range n).flatMap (cont s.sh)↔val s.sh id:=by
 have Q:∀k,k<n->Qt s.sh g k/\∃w,s.wk[k]?=some w/\w.hand=0:=fun k o=>by
  obtain⟨w,hw⟩:=I.at_ o;obtain⟨_,J,L⟩:=quiet I hw (by rw[<-HX hw];exact H k o);exact⟨L,w,hw,J⟩
 have C:=fun k o=>JX I o (Q k o).1
 refine⟨List.nodup_append.2 ⟨I.li.rn,?_,fun x A y p e=> ?_⟩,fun id=> ?_⟩
 ·have gen:∀k,k<=n->((List.range k).flatMap (cont s.sh)).Nodup:=fun k=>by
   induction k with
   |zero=>intro _;simp
   |succ k ih=>
    intro o;rw[List.range_succ,List.flatMap_append,List.nodup_append];refine⟨ih (by omega),by simpa using IH I (by omega) (Q k (by omega)).1,fun x A y p e=> ?_⟩;subst e;obtain⟨d,c,A⟩:=List.mem_flatMap.1 A;rw[List.mem_range]at c;simp only[List.flatMap_cons,List.flatMap_nil,List.append_nil]at p;obtain⟨i,_,B⟩:=(C d (by omega) x).1 A;obtain⟨N,_,D⟩:=(C k (by omega) x).1 p;rw[B]at D;injection D with D _
    omega
  exact gen n (Nat.le_refl n)
 ·subst e
  obtain⟨d,c,p⟩:=List.mem_flatMap.1 p;rw[List.mem_range]at c;obtain⟨i,_,B⟩:=(C d c x).1 p;have:=((I.li.rg x).1 A).2;rw[B]at this;cases this
 ·rw[List.mem_append,I.li.rg,List.mem_flatMap]
  constructor
  ·rintro(h|⟨d,c,h⟩)
   ·exact h.1
   ·rw[List.mem_range]at c
    exact((C d c id).1 h).choose_spec.1
  ·intro l
   cases u:g.lc id with
   |ring=>exact Or.inl ⟨l,rfl⟩
   |hand k=>
    obtain⟨w,hw,G⟩:=I.li.ND id k l u;obtain⟨_,w2,E,F⟩:=Q k (I.lt hw);rw[hw]at E;obtain rfl:=Option.some.inj E;exact absurd (G.symm.trans F) l.Qm
   |deq d i=>
    have c:=(I.li.dq id d i l u).1;exact Or.inr ⟨d,List.mem_range.2 c,(C d c id).2 ⟨i,l,u⟩⟩
   |rch k=>exact absurd u ((Q k (I.li.rc id k l u)).1.2 id l)
inductive RZ(s s':AS)(j e:Nat):Prop where
 |same:cont s'.sh e=cont s.sh e->s'.ring=s.ring->(∀w w',s.wk[j]?=some w->s'.wk[j]?=some w'->w'.hand=w.hand)->RZ s s' j e
 |took:(∃x,x≠0/\cont s.sh e=x::cont s'.sh e/\∀w w',s.wk[j]?=some w->s'.wk[j]?=some w'->w.hand=0/\w'.hand=x)->s'.ring=s.ring->RZ s s' j e
 |gave:cont s'.sh e=cont s.sh e->(∀w w',s.wk[j]?=some w->s'.wk[j]?=some w'->w.hand≠0/\s'.ring=s.ring++[w.hand]/\w'.hand=0)->RZ s s' j e
end
end
section
section
variable{ok PU:Hy}{n j d e DR K M q v t b a z id i f:Nat}{s s1 s2 s':AS}{g g':Gh}{m:Nat->Nat}{w w':AW}{r:Nat->Nat}
def ks:Hy:=⟨fun _ _=>True,fun _=>False,1,fun _ _ _ _ h=>h⟩
theorem MK(ok:Hy){n tt:Nat}(c:0<n)(h:n<=64)(l:17+8*n+1<=tt)(k:tt<=65536)(hb:ok.nb=1):FK ok n (F9 n tt):=⟨_,_,Lr ok c h l k hb,fun _=>Nat.zero_le _⟩
theorem IM{tt:Nat}:Rest n (F9 n tt):=fun k c=>by
 unfold Ia;rw[show(F9 n tt).wk[k]?=some ⟨90,fun _=>0,[],0⟩by
  show(List.replicate n (⟨90,fun _=>0,[],0⟩:AW))[k]?=_
  rw[List.getElem?_replicate,if_pos c]]
theorem Kx{tt:Nat}(hj:j<n):cont (F9 n tt).sh j=[]/\tp (F9 n tt).sh j=dK (F9 n tt).sh j:=by
 obtain⟨a,b,_,_⟩:=Iw n n j (Nat.le_refl n) hj;have c:tp (F9 n tt).sh j=1:=a;have h:dK (F9 n tt).sh j=1:=b;exact⟨HW (by omega),by omega⟩
theorem oM(I:FK ok n s)(l:Rest n s):(∀id,val s.sh id->(s.ring++(List.range n).flatMap (cont s.sh)).count id=1)/\(s.ring++(List.range n).flatMap (cont s.sh)).length=s.nb:=by
 obtain⟨g,m,I,_⟩:=I;obtain⟨c,h⟩:=MJ I l;refine⟨fun id o=>by rw[c.count,if_pos ((h id).2 o)],?_⟩;have k:List.Perm (s.ring++(List.range n).flatMap (cont s.sh)) (List.range' 64 s.nb):=(List.perm_ext_iff_of_nodup c List.nodup_range').2 (fun x=>by
  rw[h x,List.mem_range'_1]
  rfl)
 rw[k.length_eq,List.length_range']
end
end
section
section
variable{ok PU:Hy}{n j d e DR K M q v t b a z id i f:Nat}{s s1 s2 s':AS}{g g':Gh}{m:Nat->Nat}{w w':AW}{r:Nat->Nat}
theorem NT.rest(h:NT s s' j)(o:Rest n s):Rest n s':=fun k l=>by
 by_cases c:k=j
 ·subst c;exact h.pc
 ·exact(K8 (h.ot k c)).trans (o k l)
def Q0:Hy:=⟨fun j d=>j=0/\d<=1∨j=1/\d=2,fun _=>False,1,fun _ _ _ _ h=>h⟩
structure Sj(s:AS):Prop where
 i:FK Q0 2 s
 q:Rest 2 s
 r:Ir s 0
theorem gj{n tt:Nat}(h:0<n)(k:17+8*n+91<=tt):Ir (F9 n tt) 0:=by
 obtain⟨_,_,c,e⟩:=Iw n n 0 (Nat.le_refl n) h;unfold Ir;have c:(F9 n tt).c (17+3*0+2)=17+3*n+5*0:=c;have e:(F9 n tt).c (17+3*n+5*0)=4:=e;rw[c,e];show 17+8*n+0+1+26+64<=tt+1
 omega
theorem lP{tt:Nat}(h:17+8*2+91<=tt)(c:tt<=65536):Sj (F9 2 tt):=⟨MK Q0 (by omega) (by omega) (by omega) c rfl,IM,gj (by omega) h⟩
theorem nS(E:Sj s)(hb:s.nb<64):Sj (GC 500 s 0 0)/\(GC 500 s 0 0).nb=s.nb+1/\
 ((cont s.sh 0).length<16/\(GC 500 s 0 0).ring=s.ring/\cont (GC 500 s 0 0).sh 0=cont s.sh 0++[64+s.nb]∨
  (cont s.sh 0).length=16/\(GC 500 s 0 0).ring=s.ring++[64+s.nb]/\cont (GC 500 s 0 0).sh 0=cont s.sh 0):=by
 have h:=E.i.op (j:=0) (d:=0) (by omega) (show Q0.ok 0 0 from Or.inl ⟨rfl,by omega⟩) 500;obtain⟨g,m,c,u⟩:=E.i;obtain⟨w,hw⟩:=c.at_ (show 0<2 by omega);obtain⟨k,l,o,p⟩:=NV (d:=0) c hw (by rw[<-HX hw];exact E.q 0 (by omega)) rfl E.r hb;exact⟨⟨h,k.rest E.q,o⟩,l,p⟩
theorem oN(E:Sj s):Sj (GC 500 s 0 1)/\(GC 500 s 0 1).nb=s.nb/\
 (cont s.sh 0=[]/\(GC 500 s 0 1).ring=s.ring/\cont (GC 500 s 0 1).sh 0=[]∨
  ∃l x,cont s.sh 0=l++[x]/\(GC 500 s 0 1).ring=s.ring++[x]/\cont (GC 500 s 0 1).sh 0=l):=by
 have h:=E.i.op (j:=0) (d:=1) (by omega) (show Q0.ok 0 1 from Or.inl ⟨rfl,by omega⟩) 500;obtain⟨g,m,c,y⟩:=E.i;obtain⟨w,hw⟩:=c.at_ (show 0<2 by omega);obtain⟨k,o,p,u⟩:=p0 (d:=1) c hw (by rw[<-HX hw];exact E.q 0 (by omega)) rfl;exact⟨⟨h,k.rest E.q,p E.r⟩,o,u⟩
theorem lQ(E:Sj s):Sj (GC 500 s 1 2)/\(GC 500 s 1 2).nb=s.nb/\
 (cont s.sh 0=[]/\(GC 500 s 1 2).ring=s.ring/\cont (GC 500 s 1 2).sh 0=[]∨
  ∃l x,cont s.sh 0=x::l/\(GC 500 s 1 2).ring=s.ring++[x]/\cont (GC 500 s 1 2).sh 0=l):=by
 have k:=E.i.op (j:=1) (d:=2) (by omega) (show Q0.ok 1 2 from Or.inr ⟨rfl,rfl⟩) 500;obtain⟨g,m,c,A⟩:=E.i;obtain⟨w,hw⟩:=c.at_ (show 1<2 by omega);obtain⟨B,h⟩:=c.at_ (show 0<2 by omega);obtain⟨o,p,u,y⟩:=MI (d:=2) (e:=0) c hw (by rw[<-HX hw];exact E.q 1 (by omega)) (by omega) (quiet c h (by rw[<-HX h];exact E.q 0 (by omega))).2.2 (by decide) (by decide);exact⟨⟨k,o.rest E.q,u E.r⟩,p,y⟩
def Q1:Hy:=⟨fun j d=>j=0/\d=0∨j=1/\d=2,fun _=>False,1,fun _ _ _ _ h=>h⟩
def Q2(h:Nat):List Nat:=if h=0 then []else [h]
structure R5(s:AS):Prop where
 i:FK Q1 2 s
 q:Ia s 0=90
 r:Ir s 0
 f:∃w,s.wk[1]?=some w/\s.ring++Q2 w.hand++cont s.sh 0=List.range' 64 s.nb
end
end
end Go.Proofs.YtlihkblppjgebaaGreatDoor
