import Derived.Deep.RegionLawGrows
import Derived.Deep.LoopGhost
import Derived.RegionTactic
import Derived.ChangeAlike
import Derived.Deep.CutBlock
import Derived.RangeFuncNested
import Derived.RangeFuncBound
import Derived.RangeFuncCalls
import Derived.RangeFuncLeaves
import Derived.Shelf.Abstract
import Derived.Shelf.RegionOpen
import Derived.OwnWalkIn
import Derived.TacticsInMore
import Derived.LoopNIn
import Derived.LoopIn
import Derived.Test.YtmfnplmcfkkdpaaGreatDoorZAj
import Derived.Test.YtmfnplmcfkkdpaaGreatDoorZAk
set_option linter.all false
set_option maxRecDepth 100000
set_option maxHeartbeats 0
namespace Go.Proofs.YtmfnplmcfkkdpaaGreatDoor
open Go.RowKit Go.Proofs.Tryz
section
variable{w w':World}{D:Nat->Prop}{u v:Value}{l:List Int}{b c g m o:Nat}{t:TypeId}{pre:List Value}
structure cP where
 pc:Int
 r:Nat->Int
 back:List Int
def fW(r:Nat->Int)(k:Nat)(x:Int):Nat->Int:=fun i=>if i=k then x else r i
def fw(r:Nat->Int):List Value:=(List.range 32).map fun k=> .int .u64 (r k)
theorem bz(r:Nat->Int):(fw r).length=32:=by simp[fw]
theorem iL(r:Nat->Int)(k:Nat)(a:k<32):(fw r)[k]?=some (.int .u64 (r k)):=by
 simp[fw,List.getElem?_map,List.getElem?_range a]
theorem qt(r:Nat->Int)(k:Nat)(f:k<32)(x:Int):(fw r).set k (.int .u64 x)=fw (fW r k x):=by
 apply List.ext_getElem?;intro i;rw[List.getElem?_set];by_cases a:i<32
 ·rw[iL _ i a,iL _ i a,bz]
  unfold fW;by_cases h:k=i
  ·simp[h,a]
  ·simp[h,Ne.symm h]
 ·have d:(fw r)[i]?=none:=List.getElem?_eq_none (by rw[bz];omega)
  have e:(fw (fW r k x))[i]?=none:=List.getElem?_eq_none (by rw[bz];omega);rw[d,e,if_neg (by omega)]
def cP.cells(f:cP)(v:Value):List Value:=.int .i64 f.pc::(fw f.r++[v])
theorem cP.db(f:cP)(v:Value):(f.cells v).length=34:=by simp[cP.cells,bz]
theorem B0(pre mid post:List Value)(j:Nat)(a:j<mid.length)(v:Value):(pre++(mid++post)).set (pre.length+j) v=pre++(mid.set j v++post):=by
 rw[List.set_append_right _ _ (by omega),show pre.length+j-pre.length=j from by omega,List.set_append_left _ _ a]
theorem B4(pre mid post:List Value)(j:Nat)(a:j<mid.length):(pre++(mid++post))[pre.length+j]?=mid[j]?:=by
 rw[List.getElem?_append_right (by omega),show pre.length+j-pre.length=j from by omega,List.getElem?_append_left a]
def cv(w:World)(v:Value)(l:List Int):Prop:=w.ownsRow 0 3 1 v l.length (l.map (Value.int .i64))
theorem cv.ch(h:cv w v l)(c:Ch D w w')(a:∀g,v.ownBlock=some g->¬D g):cv w' v l:=ak h c a
theorem cv.nil(w:World):cv w (.slice none 0 0) []:=⟨rfl,Or.inl ⟨rfl,rfl⟩⟩
structure aJ(w:World)(b o:Nat)(t:TypeId)(pre post:List Value)(v:Value)(f:cP):Prop where
 row:Row w b t (pre++(f.cells v++post))
 len:pre.length=o
 back:cv w v f.back
theorem aJ.get{post:List Value}{f:cP}(h:aJ w b o t pre post v f)(j:Nat)(a:j<34)(d:(f.cells v)[j]?=some u):w.cell? (b,o+j)=some u:=by
 refine h.row.cell ?_;rw[<-h.len,B4 _ _ _ _ (by rw[cP.db];exact a)];exact d
theorem aJ.lL{post:List Value}{f:cP}(h:aJ w b o t pre post v f):w.cell? (b,o)=some (.int .i64 f.pc):=h.get 0 (by omega) rfl
theorem aJ.mD{post:List Value}{f:cP}(h:aJ w b o t pre post v f)(k:Nat)(a:k<32):w.cell? (b,o+1+k)=some (.int .u64 (f.r k)):=by
 have:=h.get (k+1) (by omega) (u:=.int .u64 (f.r k)) (by
  unfold cP.cells;rw[List.getElem?_cons_succ,List.getElem?_append_left (by rw[bz];exact a),iL _ _ a])
 rw[show o+1+k=o+(k+1)from by omega];exact this
theorem aJ.zw{post:List Value}{f:cP}(h:aJ w b o t pre post v f):w.cell? (b,o+33)=some v:=h.get 33 (by omega) (by
 unfold cP.cells;rw[List.getElem?_cons_succ,List.getElem?_append_right (by rw[bz];omega),bz];rfl)
theorem aJ.fr{post:List Value}{f:cP}(h:aJ w b o t pre post v f):fq w b o f.pc f.r:=⟨h.lL,h.mD⟩
theorem aJ.free{post:List Value}{f:cP}(h:aJ w b o t pre post v f)(i:Nat):w.frozen? (b,i)=false:=h.row.free i
theorem aJ.ch{post:List Value}{f:cP}(h:aJ w b o t pre post v f)(c:Ch D w w')(hb:¬D b)(a:∀g,v.ownBlock=some g->¬D g):aJ w' b o t pre post v f:=
 ⟨h.row.ch c hb,h.len,h.back.ch c a⟩
theorem aJ.drew{post:List Value}{f:cP}(h:aJ w b o t pre post v f):aJ w.drew b o t pre post v f:=⟨h.row,h.len,h.back⟩
theorem aJ.drewN{post:List Value}{f:cP}(h:aJ w b o t pre post v f)(n:Nat):aJ (w.drewN n) b o t pre post v f:=⟨h.row,h.len,h.back⟩
theorem aJ.apart{post:List Value}{f:cP}(h:aJ w b o t pre post v f)(a:t≠3):v.ownBlock≠some b:=aZ h.back h.row a
theorem aJ.xc{post:List Value}{f:cP}(h:aJ w b o t pre post v f)(n:t≠3)(j:Nat)(d:j<34){v':Value}{f':cP}(a:(f.cells v).set j u=f'.cells v')(hb:cv w v' f'.back):
 aJ (w.setCell (b,o+j) u) b o t pre post v' f':=by
 refine⟨h.row.bc _ _ ?_,h.len,hb.ch (D:=aH b) ay (fun k i e=>aZ hb h.row n (by rw[i];exact congrArg some e))⟩;rw[<-h.len,B0 _ _ _ _ (by rw[cP.db];exact d),a]
theorem aJ.j0{post:List Value}{f:cP}(h:aJ w b o t pre post v f)(a:t≠3)(p:Int):
 aJ (w.setCell (b,o) (.int .i64 p)) b o t pre post v {f with pc:=p}:=h.xc a 0 (by omega) rfl h.back
theorem aJ.qu{post:List Value}{f:cP}(h:aJ w b o t pre post v f)(d:t≠3)(k:Nat)(a:k<32)(x:Int):
 aJ (w.setCell (b,o+1+k) (.int .u64 x)) b o t pre post v {f with r:=fW f.r k x}:=by
 rw[show o+1+k=o+(k+1)from by omega];refine h.xc d (k+1) (by omega) ?_ h.back;unfold cP.cells;rw[List.set_cons_succ,List.set_append_left _ _ (by rw[bz];exact a),qt _ _ a]
theorem aJ.qv{post:List Value}{f:cP}(h:aJ w b o t pre post v f)(a:t≠3)(v':Value)(l:List Int)(hb:cv w v' l):
 aJ (w.setCell (b,o+33) v') b o t pre post v' {f with back:=l}:=by
 refine h.xc a 33 (by omega) ?_ hb;unfold cP.cells;rw[List.set_cons_succ,List.set_append_right _ _ (by rw[bz];omega),bz];rfl
theorem cv.pop(h:cv w (.slice (some (g,0)) (m+1) c) l)(s:l.length=m+1):cv w (.slice (some (g,0)) m c) (l.take m):=by
 rcases h.2 with⟨a,_⟩|⟨g',p,cur,f,e,i,r,j,k,n⟩
 ·cases a
 ·injection f with a q d
  injection a with a
  injection a with a
  subst a d;unfold cv;rw[List.length_take,show min m l.length=m from by omega];refine⟨by rw[List.length_map,List.length_take];omega,Or.inr ⟨g,c,cur,rfl,e,i,by omega,j,k,?_⟩⟩;rw[List.map_take,<-n,List.take_take]
  congr 1;omega
theorem cv.get(h:cv w (.slice (some (g,0)) m c) l){i:Nat}{x:Int}(e:l[i]?=some x):w.cell? (g,i)=some (.int .i64 x):=by
 rcases h.2 with⟨a,_⟩|⟨g',n,cur,f,r,j,s,z,A,k⟩
 ·cases a
 ·injection f with a p q
  injection a with a
  injection a with a
  subst a;have y:=(List.getElem?_eq_some_iff.1 e).1;have:(cur.toList)[i]?=some (.int .i64 x):=by
   have d:(l.map (Value.int .i64))[i]?=some (.int .i64 x):=(by simp[e]);rw[<-k,List.getElem?_take,if_pos (by omega)]at d;exact d
  refine(show Row w g 3 cur.toList from by unfold Row;simpa using j).cell this
theorem B5:(prog.info? 3).map (fun i=>(i.zero,i.size,i.bytes))=some (some (.int .i64 0),1,8):=by kernel_rfl
end
theorem Ms(w:World)(o:Obj)(i:Nat)(h:i<w.heap.size):(w.alloc o).heap[i]?=w.heap[i]?:=by
 show(w.heap.push o)[i]?=_
 rw[Array.getElem?_push_lt h,Array.getElem?_eq_getElem h]
def dG(x:be)(f:cP):Int×cP:=
 if x.op=16 then
  if f.back.length=0 then(2,f)
  else(0,{f with pc:=(f.back[f.back.length-1]?).getD 0,back:=f.back.take (f.back.length-1)})
 else if x.op=15 then
  if 8<=f.back.length then(3,f)
  else(0,{f with pc:=wrap64 x.v,back:=f.back++[wrap64 (f.pc+1)]})
 else if x.op=12 then(0,{f with pc:=wrap64 x.v})
 else if(f.r x.a.toNat==0)==(x.op==13)then(0,{f with pc:=wrap64 x.v})
 else(0,{f with pc:=wrap64 (f.pc+1)})
def B6(r:Int)(f':cP)(b o:Nat)(t:TypeId)(pre post:List Value)(v:Value)(w:World)(e:Ending)(w':World):Prop:=
 e=.returned (.int .i64 r)/\(∃v',aJ w' b o t pre post v' f'/\aS w v v')/\Ch (aH b) w w'
theorem cv.cap{w:World}{a:Option Addr}{m c:Nat}{l:List Int}(h:cv w (.slice a m c) l):m<=c:=by
 rcases h.2 with⟨b,_⟩|⟨g',g,cur,f,i,k,j,n,o,p⟩
 ·injection b with b d e;omega
 ·injection f with b d e;omega
theorem zx(b o:Nat)(t:TypeId)(I:t≠3)(pre post:List Value)(v:Value)(f:cP)(x:be)(J:x.op=16∨x.op=15∨x.op=12∨(x.op=13∨x.op=14)/\0<=x.a/\x.a<32)(ch:f.back.length<=8)(w:World)(h:aJ w b o t pre post v f):
 Calls prog 147 #[(b,o),aL x] w (B6 (dG x f).1 (dG x f).2 b o t pre post v w):=by
 obtain⟨Q,a2,s⟩:=au h.back;obtain⟨N,a3⟩:=mn f.back.length;rw[<-a3]at s ch;have m:=Z a3;obtain⟨w0,ap⟩:=nm (w.alloc (.cells #[x.op,x.a,x.b,x.c,.int .u64 x.v,x.m,x.wh] 152));have z:=Z (Ch.al (D:=ag) ap);have L:aJ w0 b o t pre post v f:=h.ch z (fun h=>h) (fun g W h=>h);have a9:Row w0 w.heap.size 152 (aD x).toList:=by rw[<-ap];exact Row.new w _ _
 have d:=Z L;have c4:=L.lL;have ad:=L.zw;have f0:=L.free o;have f33:=L.free (o+33);obtain⟨t0,t1⟩:=a9.c2;have t4:=a9.k 4 rfl;obtain⟨tb,eS⟩:=mn w.heap.size;have ex:b<w.heap.size:=h.row.lt;clear a9 L h a3;by_cases l:x.op=16
 ·have c2:(x.op==16)=true:=by simp[l]
  by_cases X:N=0
  ·subst X
   have E:Hid (dG x f=(2,f)):=Z (by unfold dG;rw[if_pos l,if_pos m.out.symm]);subst s;clear l J;unfold aL aD;go_wp2
   go_ret;rw[E];exact⟨rfl,⟨_,d,aS.refl _ _⟩,z.af⟩
  ·obtain⟨M,rfl⟩:∃M,N=M+1:=⟨N-1,by omega⟩
   obtain⟨g,cap,W,_,_⟩:=d.back.form (by rw[<-m];omega);rw[<-m]at W;subst W;injection s with cL fb cQ
   subst cL cQ;have c8:M<f.back.length:=(by rw[<-m];omega);obtain⟨p,a5⟩:∃p,f.back[M]?=some p:=⟨_,List.getElem?_eq_getElem c8⟩;have dN:=d.back.get a5;have E:Hid (dG x f=(0,{f with pc:=p,back:=f.back.take M})):=Z (by unfold dG;rw[if_pos l,<-m,if_neg (by omega),show M+1-1=M from by omega,a5];rfl);have a0:=Z (d.back.pop m.symm);have cl:g≠b:=(fun e=>d.apart I (by rw[<-e];rfl));have cb:M+1<=cap:=d.back.cap;have eA:M<=cap:=(by omega);clear l J a5;unfold aL aD;go_wp2
   go_ret;rw[E];exact⟨rfl,⟨_,(d.j0 I p).qv I _ _ (a0.ch (D:=aH b) ay (fun k a4 e=>by injection a4 with a4;exact cl (a4.trans e))),aS.of_eq rfl⟩,(z.af.only _ _).only _ _⟩
 ·have c2:(x.op==16)=false:=by simpa using l
  have r:∀A B:Int×cP,(if x.op=16 then A else B)=B:=fun A B=>if_neg l
  by_cases n:x.op=15
  ·have c1:(x.op==15)=true:=by simp[n]
   by_cases X:8<=N
   ·have E:Hid (dG x f=(3,f)):=Z (by unfold dG;rw[r,if_pos n,<-m,if_pos X])
    subst s;have c3:((8:Int)<=(N:Int)):=(by omega);clear l n J r;unfold aL aD;go_wp2
    go_ret;rw[E];exact⟨rfl,⟨_,d,aS.refl _ _⟩,z.af⟩
   ·obtain⟨cC,am,cm,cq,cA⟩:=info_parts B5
    have bw:=Z am;have E:Hid (dG x f=(0,{f with pc:=wrap64 x.v,back:=f.back++[wrap64 (f.pc+1)]})):=Z (by unfold dG;rw[r,if_pos n,<-m,if_neg X]);have al:b<w0.heap.size:=d.row.lt;have eV:w.heap.size<w0.heap.size:=aQ t0;have cb:N<=a2:=(by subst s;exact d.back.cap);have ci:Q=none->N=0/\N=0:=fun e=>by
     rcases d.back.2 with⟨a,O⟩|⟨g',c6,cur,V,_⟩
     ·exact⟨by rw[m];exact O,by rw[m];exact O⟩
     ·rw[s,e]at V;injection V with a;cases a
    have cd:∀q,Q=some q->∀j u,(f.back.map (Value.int .i64))[j]?=some u->w0.cell? (q.add j)=some u:=fun q H j u C=>by
     subst s;rcases d.back.2 with⟨a,O⟩|⟨g',c6,cur,V,_⟩
     ·injection a with a;rw[a]at H;cases H
     ·injection V with a
      rw[a]at H;injection H with H
      subst H a;rw[show(⟨g',0,none⟩:Addr).add j=⟨g',j,none⟩from by unfold Addr.add;split<;>simp_all];rw[List.getElem?_map]at C;cases hb:f.back[j]? with
      |none=>rw[hb]at C;cases C
      |some y=>
       rw[hb]at C;injection C with C
       rw[<-C];exact d.back.get hb
    have hlen:(f.back.map (Value.int .i64)).length=N*1:=(by rw[List.length_map,m];omega);have c3:((8:Int)<=(N:Int))=False:=(by simp;omega);have eW:¬((8:Int)<=(N:Int)):=(by omega);have dr:decide ((8:Int)<=(N:Int))=false:=(by simp;omega);subst s;clear l n J r am;unfold aL aD;go_wp2
    go_region_law (first|(refine step_append_grows (by rfl) _ _ _ (by rfl) 3 cC _ 1 8 underlying87 bw cm cq cA rfl (by decide) Q N N (f.back.map (Value.int .i64)) (by rfl) ci hlen (fun q H j u C=>ia (cd q H j u C) _) ⟨w0.heap.size,0,none⟩ 1 1 [.int .i64 (IntKind.i64.wrap (f.pc+1))] (by rfl) (by rfl) (World.news_of_block (cs:=#[.int .i64 (IntKind.i64.wrap (f.pc+1))]) (t:=3) (fr:=(0,0)) (heap_alloc_new w0 _)) (by simp[Value.oneCell']) (by omega) (by unfold maxLen;omega) (by omega) ?_;intro fz w4 P G;obtain⟨U,cap,rfl,eC,_⟩:=P.form (by omega);have cS:w4.cell? (b,o+33)=_:=(G.cell_far ⟨b,o+33,none⟩ (by simp;omega) (by simp)).trans (by simp[go_sem,World.cell?_alloc_past,al,ad];rfl);have cW:w4.frozen? (b,o+33)=false:=(G.frozen_far ⟨b,o+33,none⟩ (by simp;omega) (by simp)).trans (by simp[go_sem,World.frozen?_alloc_past,al,f33])))
    all_goals
     rw[show IntKind.i64.wrap (f.pc+1)=wrap64 (f.pc+1)from IntWalk.i64_left _]at P;have bx:Hid (aS w (.slice Q N a2) (.slice (some (U,0)) (N+1) cap)):=Z (aS.at (Or.inr (by
      have eL:=z.size;rcases P.2 with⟨a,_⟩|⟨g',dC,ej,a,O,_⟩
      ·cases a
      ·injection a with a _ _
       injection a with a
       injection a with a
       simp at O;omega)))
     have a1:Hid (Ch ag w0 w4):=Z ⟨G.os,G.tape,G.output,Nat.le_trans (by simp) G.size,fun i ce _=>(G.block i (by simp;omega) (by simp)).trans (Ms w0 _ _ ce)⟩;have a0:Hid (cv w4 (.slice (some (U,0)) (N+1) cap) (f.back++[wrap64 (f.pc+1)])):=Z (by
      unfold cv;rw[List.length_append,<-m,List.map_append];exact⟨P.1,P.2.imp id (fun⟨g,c,cur,a,O,c7⟩=>⟨g,c,cur,a,Nat.zero_le _,c7⟩)⟩)
     have bv:Hid (aJ w4 b o t pre post (.slice Q N a2) f):=Z (d.ch a1 (fun h=>h) (fun g W h=>h));obtain⟨ab,R⟩:=nm (w4.setCell (b,o+33) (.slice (some (U,0)) (N+1) cap));have Y:Hid (aJ ab b o t pre post (.slice (some (U,0)) (N+1) cap) {f with back:=f.back++[wrap64 (f.pc+1)]}):=Z (by rw[<-R];exact bv.qv I _ _ a0);have bi:Hid (Ch (aH b) w ab):=Z (by rw[<-R];exact(z.trans a1).af.only _ _);have fn:ab.cell? (w.heap.size,4)=some (.int .u64 x.v):=by
      have av:w4.cell? (w.heap.size,4)=some (.int .u64 x.v):=(a1.cell (p:=⟨w.heap.size,4,none⟩) (by show w.heap.size<_;omega) (fun h=>h)).trans t4;rw[<-R];exact(((Ch.refl (aH b) w4).only (o+33) _).cell (p:=⟨w.heap.size,4,none⟩) (aQ av) (fun e=>by have:w.heap.size=b:=e;omega)).trans av
     have fd:=Y.lL;have en:=Y.free o;try rw[R]
     clear R P G cS cW c4 ad f0 f33 t0 t1 t4;go_wp2
     go_ret;rw[E];exact⟨rfl,⟨_,Y.j0 I _,bx⟩,bi.only _ _⟩
  ·have c1:(x.op==15)=false:=by simpa using n
   have K:∀A B:Int×cP,(if x.op=15 then A else B)=B:=(fun A B=>if_neg n);by_cases F:x.op=12
   ·have c0:(x.op==12)=true:=by simp[F]
    have E:Hid (dG x f=(0,{f with pc:=wrap64 x.v})):=Z (by unfold dG;rw[r,K,if_pos F]);subst s;clear l n F J r K;unfold aL aD;go_wp2
    go_ret;rw[E];exact⟨rfl,⟨_,d.j0 I _,aS.refl _ _⟩,z.af.only _ _⟩
   ·have c0:(x.op==12)=false:=by simpa using F
    have T:∀A B:Int×cP,(if x.op=12 then A else B)=B:=(fun A B=>if_neg F);have c9:0<=x.a/\x.a<32:=by
     rcases J with q|q|q|q
     ·exact absurd q l
     ·exact absurd q n
     ·exact absurd q F
     ·exact q.2
    obtain⟨es,et⟩:=c9;have c5:=d.mD x.a.toNat (by omega);obtain⟨y,S⟩:=nm (f.r x.a.toNat);rw[S]at c5;subst s;cases hb:((y==0)==(x.op==13))
    ·have E:Hid (dG x f=(0,{f with pc:=wrap64 (f.pc+1)})):=Z (by unfold dG;rw[r,K,T,S,hb];rfl)
     clear l n F J r K T S;unfold aL aD;go_wp2
     go_quiet (fail)
     go_wp2
     go_ret;rw[E];exact⟨rfl,⟨_,(d.drewN _).j0 I _,aS.refl _ _⟩,(z.af.drewN _).only _ _⟩
    ·have E:Hid (dG x f=(0,{f with pc:=wrap64 x.v})):=Z (by unfold dG;rw[r,K,T,S,hb];rfl)
     clear l n F J r K T S;unfold aL aD;go_wp2
     go_quiet (fail)
     go_wp2
     go_ret;rw[E];exact⟨rfl,⟨_,(d.drewN _).j0 I _,aS.refl _ _⟩,(z.af.drewN _).only _ _⟩
def m2(x:Option Int)(post:World->Prop)(e:Ending)(w':World):Prop:=
 (match x with
  |some v=>e=.returned (.tuple #[.int .u64 v,.nilIface])
  |none=>∃n v,e=.returned (.tuple #[.int .u64 n,v])/\ar v)/\post w'
def GN(ok:Bool)(post:World->Prop)(e:Ending)(w':World):Prop:=(∃v,e=.returned v/\(if ok then v=.nilIface else ar v))/\post w'
structure qw(T:TypeId)(X:Value)(σ:Type) where
 At:σ->World->Prop
 vS:σ->World->Prop
 Ok:σ->Prop
 D:Nat->Prop
 acc:σ->Int->Int->Int->Int->Option Int×σ
 FL:FuncId
 FS:FuncId
 FW:FuncId
 FA:FuncId
 FC:FuncId
 mL:∀w,(Go.method 503 T X "Load").run prog w=.ok (FL,X) w
 mS:∀w,(Go.method 503 T X "Store").run prog w=.ok (FS,X) w
 mW:∀w,(Go.method 503 T X "Swap").run prog w=.ok (FW,X) w
 mA:∀w,(Go.method 503 T X "Add").run prog w=.ok (FA,X) w
 mC:∀w,(Go.method 503 T X "Cas").run prog w=.ok (FC,X) w
 nC:∀w,(nilAhead 503 T X "Cas").run prog w=.ok (some false) w
 eL:∀args w,(callFunc FL args).run prog w=.ok (.enter FL args) w
 eS:∀args w,(callFunc FS args).run prog w=.ok (.enter FS args) w
 eW:∀args w,(callFunc FW args).run prog w=.ok (.enter FW args) w
 eA:∀args w,(callFunc FA args).run prog w=.ok (.enter FA args) w
 eC:∀args w,(callFunc FC args).run prog w=.ok (.enter FC args) w
 keep:∀S w w',At S w->Ch ag w w'->At S w'
 Ds:∀S w,At S w->vS S w
 zy:∀S w w',vS S w->Ch ag w w'->vS S w'
 cL:∀S a w,Ok S->aK a->At S w->Calls prog FL #[X,.int .u64 a] w (m2 (acc S 0 a 0 0).1 (fun w'=>vS (acc S 0 a 0 0).2 w'/\Ch D w w'))
 cS:∀S a v w,Ok S->aK a->aK v->At S w->Calls prog FS #[X,.int .u64 a,.int .u64 v] w (GN (acc S 1 a 0 v).1.isSome (fun w'=>vS (acc S 1 a 0 v).2 w'/\Ch D w w'))
 cW:∀S a v w,Ok S->aK a->aK v->At S w->Calls prog FW #[X,.int .u64 a,.int .u64 v] w (m2 (acc S 2 a 0 v).1 (fun w'=>vS (acc S 2 a 0 v).2 w'/\Ch D w w'))
 cA:∀S a v w,Ok S->aK a->aK v->At S w->Calls prog FA #[X,.int .u64 a,.int .u64 v] w (m2 (acc S 3 a 0 v).1 (fun w'=>vS (acc S 3 a 0 v).2 w'/\Ch D w w'))
 cC:∀S a o v w,Ok S->aK a->aK o->aK v->At S w->Calls prog FC #[X,.int .u64 a,.int .u64 o,.int .u64 v] w (m2 (acc S 4 a o v).1 (fun w'=>vS (acc S 4 a o v).2 w'/\Ch D w w'))
def cR{a:Type}(acc:a->Int->Int->Int->Int->Option Int×a)(S:a)(x:be)(r:Nat->Int):Option Int×a:=
 let at_:=dE r x
 let v:=r x.a.toNat
 if x.op=17 then acc S 0 at_ 0 0
 else if x.op=18 then((acc S 1 at_ 0 v).1.map fun _=>v,(acc S 1 at_ 0 v).2)
 else if x.op=19 then acc S 2 at_ 0 v
 else if x.op=20 then acc S 3 at_ 0 v
 else acc S 4 at_ v (r x.c.toNat)
theorem xd{r:Nat->Int}(a:∀k,k<32->aK (r k))(n:Int):aK (gR r n):=by
 unfold gR;split
 ·exact a _ (by omega)
 ·exact⟨by decide,by decide⟩
theorem lM{r:Nat->Int}(b:∀k,k<32->aK (r k))(x:be)(a:aK x.v):aK (dE r x):=by
 unfold dE;split
 ·exact a
 ·exact m9 64 _ _
theorem qx{T:TypeId}{X:Value}{Y:Type}(a:qw T X Y)(S:Y)(a4:Hid (a.Ok S))(b o:Nat)(pc:Int)(r:Nat->Int)(x:be)(cl:0<=x.a/\x.a<32)(W:x.op=17∨x.op=18∨x.op=19∨x.op=20∨(x.op=21/\0<=x.c/\x.c<32))(bv:∀k,k<32->aK (r k))(c7:aK x.v)
 (w:World) (h:fq w b o pc r) (c5:a.At S w):
 Calls prog 148 #[(b,o),aL x,.iface T X] w (m2 (cR a.acc S x r).1 (fun w'=>a.vS (cR a.acc S x r).2 w'/\Ch a.D w w')):=by
 obtain⟨w0,c6⟩:=nm (w.alloc (.cells #[x.op,x.a,x.b,x.c,.int .u64 x.v,x.m,x.wh] 152));have p:=Z (Ch.al (D:=ag) c6);have c1:fq w0 b o pc r:=h.ch p id;have c2:Row w0 w.heap.size 152 (aD x).toList:=by rw[<-c6];exact Row.new w _ _
 have t:=Z c1;have a0:=Z c5;have c8:=Z bv;obtain⟨t0,t1,t2,t3,t4,t5,t6⟩:=c2.c7;have a1:=Z c2;have Q:=Z (fun w h=>kD b o pc r x w h);have U:=Z (lM bv x c7);obtain⟨s,v⟩:=nm (dE r x);rw[v]at Q U;obtain⟨cq,cs⟩:=cl;have ci:=c1.o9 x.a.toNat (by omega);have a2:=Z (bv x.a.toNat (by omega));obtain⟨y,F⟩:=nm (r x.a.toNat);have a3:=Z F;rw[F]at ci a2;clear bv c7 c2 c1 h c5;unfold aL aD at Q⊢;by_cases H:x.op=17
 ·have cb:(x.op==17)=true:=by simp[H]
  have E:Hid (cR a.acc S x r=a.acc S 0 s 0 0):=Z (by unfold cR;dsimp only;rw[if_pos H,v]);obtain⟨q,m⟩:=nm (a.acc S 0 s 0 0);obtain⟨M,bx⟩:=q;rw[m]at E;have J:=Z m;clear m H W v F;cases M
  all_goals
   go_wp2
   go_region_held3 (fun w'=>w'.cell? ⟨w.heap.size,0,none⟩=some (.int .i64 x.op)/\w'.cell? ⟨w.heap.size,1,none⟩=some (.int .i64 x.a)/\w'.cell? ⟨w.heap.size,2,none⟩=some (.int .i64 x.b)/\w'.cell? ⟨w.heap.size,3,none⟩=some (.int .i64 x.c)/\w'.cell? ⟨w.heap.size,4,none⟩=some (.int .u64 x.v)/\w'.cell? ⟨w.heap.size,5,none⟩=some (.int .i64 x.m)/\w'.cell? ⟨w.heap.size,6,none⟩=some (.int .i64 x.wh)/\w'.cell? (b,o+1+x.a.toNat)=some (.int .u64 y)) (go_keep) ((go_at_call 108;refine(Q w0.drew ⟨t.pc,t.o9⟩).mono ?_;rintro e w2 ⟨rfl,f⟩;have g:=Z f;have K:=Z (Row.ch (w:=w0.drew) a1.drew f id);have G:Hid (fq w2 b o pc r):=Z (fq.ch (w:=w0.drew) t.drew f id);obtain⟨a5,d1,ab,ad,al,am,ap⟩:=K.c7;have d2:=G.o9 x.a.toNat (by omega);rw[a3]at d2;clear f))
   all_goals
    have I:Hid (a.At S w2):=Z (a.keep S w0.drew w2 (a.keep S w w0.drew a0 p.drew) g);have bi:=a.mL;have av:=a.eL;have i:=Z (a.cL S s w2 a4 U I);rw[J]at i;go_wp2_with (first|(refine i.mono ?_;rintro e N ⟨⟨n,u,rfl,C⟩,c,d⟩;obtain⟨tt,c0,rfl⟩:=C;have l:=Z c;have j:=Z d;clear c d)|(refine i.mono ?_;rintro e N ⟨rfl,c,d⟩;have l:=Z c;have j:=Z d;clear c d))
    go_ret2;rw[E]
    first|exact⟨⟨_,_,rfl,ar.mk _ _⟩,l,((p.drew.trans g).af).trans j⟩|exact⟨rfl,l,((p.drew.trans g).af).trans j⟩
 have cb:(x.op==17)=false:=by simpa using H
 have O:∀A B:Option Int×Y,(if x.op=17 then A else B)=B:=fun A B=>if_neg H
 by_cases L:x.op=18
 ·have cd:(x.op==18)=true:=by simp[L]
  have E:Hid (cR a.acc S x r=((a.acc S 1 s 0 y).1.map fun _=>y,(a.acc S 1 s 0 y).2)):=Z (by unfold cR;dsimp only;rw[O,if_pos L,v,F]);obtain⟨q,m⟩:=nm (a.acc S 1 s 0 y);obtain⟨M,bx⟩:=q;rw[m]at E;have J:=Z m;clear m L W v F H O;cases M
  all_goals
   go_wp2
   go_region_held3 (fun w'=>w'.cell? ⟨w.heap.size,0,none⟩=some (.int .i64 x.op)/\w'.cell? ⟨w.heap.size,1,none⟩=some (.int .i64 x.a)/\w'.cell? ⟨w.heap.size,2,none⟩=some (.int .i64 x.b)/\w'.cell? ⟨w.heap.size,3,none⟩=some (.int .i64 x.c)/\w'.cell? ⟨w.heap.size,4,none⟩=some (.int .u64 x.v)/\w'.cell? ⟨w.heap.size,5,none⟩=some (.int .i64 x.m)/\w'.cell? ⟨w.heap.size,6,none⟩=some (.int .i64 x.wh)/\w'.cell? (b,o+1+x.a.toNat)=some (.int .u64 y)) (go_keep) ((go_at_call 108;refine(Q w0.drew ⟨t.pc,t.o9⟩).mono ?_;rintro e w2 ⟨rfl,f⟩;have g:=Z f;have K:=Z (Row.ch (w:=w0.drew) a1.drew f id);have G:Hid (fq w2 b o pc r):=Z (fq.ch (w:=w0.drew) t.drew f id);obtain⟨a5,d1,ab,ad,al,am,ap⟩:=K.c7;have d2:=G.o9 x.a.toNat (by omega);rw[a3]at d2;clear f))
   all_goals
    have I:Hid (a.At S w2):=Z (a.keep S w0.drew w2 (a.keep S w w0.drew a0 p.drew) g);have bi:=a.mS;have av:=a.eS;have i:=Z (a.cS S s y w2 a4 U a2 I);rw[J]at i;go_wp2_with (first|(refine i.mono ?_;rintro e N ⟨⟨u,rfl,C⟩,c,d⟩;obtain⟨tt,c0,rfl⟩:ar u:=C;have l:=Z c;have j:=Z d;clear c d)|(refine i.mono ?_;rintro e N ⟨⟨u,rfl,C⟩,c,d⟩;obtain rfl:u=.nilIface:=C;have l:=Z c;have j:=Z d;clear c d))
    go_ret2;rw[E]
    first|exact⟨⟨_,_,rfl,ar.mk _ _⟩,l,((p.drew.trans g).af).trans j⟩|exact⟨rfl,l,((p.drew.trans g).af).trans j⟩
 have cd:(x.op==18)=false:=by simpa using L
 have V:∀A B:Option Int×Y,(if x.op=18 then A else B)=B:=fun A B=>if_neg L
 by_cases P:x.op=19
 ·have ce:(x.op==19)=true:=by simp[P]
  have E:Hid (cR a.acc S x r=a.acc S 2 s 0 y):=Z (by unfold cR;dsimp only;rw[O,V,if_pos P,v,F]);obtain⟨q,m⟩:=nm (a.acc S 2 s 0 y);obtain⟨M,bx⟩:=q;rw[m]at E;have J:=Z m;clear m P W v F H O L V;cases M
  all_goals
   go_wp2
   go_region_held3 (fun w'=>w'.cell? ⟨w.heap.size,0,none⟩=some (.int .i64 x.op)/\w'.cell? ⟨w.heap.size,1,none⟩=some (.int .i64 x.a)/\w'.cell? ⟨w.heap.size,2,none⟩=some (.int .i64 x.b)/\w'.cell? ⟨w.heap.size,3,none⟩=some (.int .i64 x.c)/\w'.cell? ⟨w.heap.size,4,none⟩=some (.int .u64 x.v)/\w'.cell? ⟨w.heap.size,5,none⟩=some (.int .i64 x.m)/\w'.cell? ⟨w.heap.size,6,none⟩=some (.int .i64 x.wh)/\w'.cell? (b,o+1+x.a.toNat)=some (.int .u64 y)) (go_keep) ((go_at_call 108;refine(Q w0.drew ⟨t.pc,t.o9⟩).mono ?_;rintro e w2 ⟨rfl,f⟩;have g:=Z f;have K:=Z (Row.ch (w:=w0.drew) a1.drew f id);have G:Hid (fq w2 b o pc r):=Z (fq.ch (w:=w0.drew) t.drew f id);obtain⟨a5,d1,ab,ad,al,am,ap⟩:=K.c7;have d2:=G.o9 x.a.toNat (by omega);rw[a3]at d2;clear f))
   all_goals
    have I:Hid (a.At S w2):=Z (a.keep S w0.drew w2 (a.keep S w w0.drew a0 p.drew) g);have bi:=a.mW;have av:=a.eW;have i:=Z (a.cW S s y w2 a4 U a2 I);rw[J]at i;go_wp2_with (first|(refine i.mono ?_;rintro e N ⟨⟨n,u,rfl,C⟩,c,d⟩;obtain⟨tt,c0,rfl⟩:=C;have l:=Z c;have j:=Z d;clear c d)|(refine i.mono ?_;rintro e N ⟨rfl,c,d⟩;have l:=Z c;have j:=Z d;clear c d))
    go_ret2;rw[E]
    first|exact⟨⟨_,_,rfl,ar.mk _ _⟩,l,((p.drew.trans g).af).trans j⟩|exact⟨rfl,l,((p.drew.trans g).af).trans j⟩
 have ce:(x.op==19)=false:=by simpa using P
 have a9:∀A B:Option Int×Y,(if x.op=19 then A else B)=B:=fun A B=>if_neg P
 by_cases R:x.op=20
 ·have ch:(x.op==20)=true:=by simp[R]
  have E:Hid (cR a.acc S x r=a.acc S 3 s 0 y):=Z (by unfold cR;dsimp only;rw[O,V,a9,if_pos R,v,F]);obtain⟨q,m⟩:=nm (a.acc S 3 s 0 y);obtain⟨M,bx⟩:=q;rw[m]at E;have J:=Z m;clear m R W v F H O L V P a9;cases M
  all_goals
   go_wp2
   go_region_held3 (fun w'=>w'.cell? ⟨w.heap.size,0,none⟩=some (.int .i64 x.op)/\w'.cell? ⟨w.heap.size,1,none⟩=some (.int .i64 x.a)/\w'.cell? ⟨w.heap.size,2,none⟩=some (.int .i64 x.b)/\w'.cell? ⟨w.heap.size,3,none⟩=some (.int .i64 x.c)/\w'.cell? ⟨w.heap.size,4,none⟩=some (.int .u64 x.v)/\w'.cell? ⟨w.heap.size,5,none⟩=some (.int .i64 x.m)/\w'.cell? ⟨w.heap.size,6,none⟩=some (.int .i64 x.wh)/\w'.cell? (b,o+1+x.a.toNat)=some (.int .u64 y)) (go_keep) ((go_at_call 108;refine(Q w0.drew ⟨t.pc,t.o9⟩).mono ?_;rintro e w2 ⟨rfl,f⟩;have g:=Z f;have K:=Z (Row.ch (w:=w0.drew) a1.drew f id);have G:Hid (fq w2 b o pc r):=Z (fq.ch (w:=w0.drew) t.drew f id);obtain⟨a5,d1,ab,ad,al,am,ap⟩:=K.c7;have d2:=G.o9 x.a.toNat (by omega);rw[a3]at d2;clear f))
   all_goals
    have I:Hid (a.At S w2):=Z (a.keep S w0.drew w2 (a.keep S w w0.drew a0 p.drew) g);have bi:=a.mA;have av:=a.eA;have i:=Z (a.cA S s y w2 a4 U a2 I);rw[J]at i;go_wp2_with (first|(refine i.mono ?_;rintro e N ⟨⟨n,u,rfl,C⟩,c,d⟩;obtain⟨tt,c0,rfl⟩:=C;have l:=Z c;have j:=Z d;clear c d)|(refine i.mono ?_;rintro e N ⟨rfl,c,d⟩;have l:=Z c;have j:=Z d;clear c d))
    go_ret2;rw[E]
    first|exact⟨⟨_,_,rfl,ar.mk _ _⟩,l,((p.drew.trans g).af).trans j⟩|exact⟨rfl,l,((p.drew.trans g).af).trans j⟩
 have ch:(x.op==20)=false:=by simpa using R
 have c4:∀A B:Option Int×Y,(if x.op=20 then A else B)=B:=fun A B=>if_neg R
 have cm:0<=x.c/\x.c<32:=by
  rcases W with q|q|q|q|q
  ·exact absurd q H
  ·exact absurd q L
  ·exact absurd q P
  ·exact absurd q R
  ·exact q.2
 obtain⟨cA,cC⟩:=cm;have c3:=Z (c8 x.c.toNat (by omega));obtain⟨z,bw⟩:=nm (r x.c.toNat);have c9:=Z bw;rw[bw]at c3;have E:Hid (cR a.acc S x r=a.acc S 4 s y z):=Z (by unfold cR;dsimp only;rw[O,V,a9,c4,v,F,bw]);obtain⟨q,m⟩:=nm (a.acc S 4 s y z);obtain⟨M,bx⟩:=q;rw[m]at E;have J:=Z m;clear m W v F bw H L P R O V a9 c4;cases M
 all_goals
  go_wp2
  go_region_held3 (fun w'=>w'.cell? ⟨w.heap.size,0,none⟩=some (.int .i64 x.op)/\w'.cell? ⟨w.heap.size,1,none⟩=some (.int .i64 x.a)/\w'.cell? ⟨w.heap.size,2,none⟩=some (.int .i64 x.b)/\w'.cell? ⟨w.heap.size,3,none⟩=some (.int .i64 x.c)/\w'.cell? ⟨w.heap.size,4,none⟩=some (.int .u64 x.v)/\w'.cell? ⟨w.heap.size,5,none⟩=some (.int .i64 x.m)/\w'.cell? ⟨w.heap.size,6,none⟩=some (.int .i64 x.wh)/\w'.cell? (b,o+1+x.a.toNat)=some (.int .u64 y)) (go_keep) ((go_at_call 108;refine(Q w0.drew ⟨t.pc,t.o9⟩).mono ?_;rintro e w2 ⟨rfl,f⟩;have g:=Z f;have K:=Z (Row.ch (w:=w0.drew) a1.drew f id);have G:Hid (fq w2 b o pc r):=Z (fq.ch (w:=w0.drew) t.drew f id);obtain⟨a5,d1,ab,ad,al,am,ap⟩:=K.c7;have d2:=G.o9 x.a.toNat (by omega);rw[a3]at d2;clear f))
  all_goals
   have I:Hid (a.At S w2):=Z (a.keep S w0.drew w2 (a.keep S w w0.drew a0 p.drew) g);have bi:=a.mC;have cL:=a.nC;have av:=a.eC;have i:=Z (a.cC S s y z w2.drew a4 U a2 c3 (a.keep S w2 w2.drew I (Ch.refl _ w2).drew));rw[J]at i;have d3:=G.o9 x.c.toNat (by omega);rw[c9]at d3;go_wp2
   go_region_with (first|(refine i.mono ?_;rintro e N ⟨⟨n,u,rfl,C⟩,c,d⟩;obtain⟨tt,c0,rfl⟩:=C;have l:=Z c;have j:=Z d;clear c d)|(refine i.mono ?_;rintro e N ⟨rfl,c,d⟩;have l:=Z c;have j:=Z d;clear c d))
   all_goals
    go_wp2
    go_ret2;rw[E]
    first|exact⟨⟨_,_,rfl,ar.mk _ _⟩,l,((p.drew.trans g.drew).af).trans j⟩|exact⟨rfl,l,((p.drew.trans g.drew).af).trans j⟩
theorem rP(T:TypeId)(X:Value)(b o:Nat)(t:TypeId)(a0:t≠3)(pre post:List Value)(v:Value)(p:Nat)(fr:Nat->Int)(fb:List Int)(g l N L:Nat)(ex:N<=L)(c6:N<=100000)(c9:p<N)
 (op a c f j i k:Int) (c7:1<=op/\op<=11) (c4:0<=a/\a<32) (U:bC ⟨op,a,c,f,j,i,k⟩ N=true) (w:World) (h:aJ w b o t pre post v ⟨(p:Int),fr,fb⟩)
 (a3:w.cell? ⟨g,l+p*7,none⟩=some (.int .i64 op)) (a4:w.cell? ⟨g,l+p*7+1,none⟩=some (.int .i64 a)) (a5:w.cell? ⟨g,l+p*7+2,none⟩=some (.int .i64 c)) (a9:w.cell? ⟨g,l+p*7+3,none⟩=some (.int .i64 f)) (ab:w.cell? ⟨g,l+p*7+4,none⟩=some (.int .u64 j)) (ad:w.cell? ⟨g,l+p*7+5,none⟩=some (.int .i64 i)) (al:w.cell? ⟨g,l+p*7+6,none⟩=some (.int .i64 k)):
 Calls prog 105 #[(b,o),.slice (some ⟨g,l,none⟩) N L,.iface T X] w
  (fun e w'=>e=.returned (.tuple #[.int .i64 0,.nilIface])/\aJ w' b o t pre post v ⟨(p:Int)+1,fW fr a.toNat (hL ⟨op,a,c,f,j,i,k⟩ (gR fr c) (iI fr ⟨op,a,c,f,j,i,k⟩)),fb⟩/\Ch (aH b) w w'):=by
 have I:=Z h;have O:=h.lL;have eV:¬(p:Int)<0:=by omega
 have eW:¬(N:Int)<=(p:Int):=by omega
 have fd:(p:Int)<(N:Int):=by omega
 have s:=Z (fun w=>rI ⟨op,a,c,f,j,i,k⟩ N c6 w);rw[U]at s;have K:=Z (fun w h=>nF b o (p:Int) fr c w h);have y:=Z (fun w h=>wZ b o (p:Int) fr ⟨op,a,c,f,j,i,k⟩ w h);obtain⟨am,W⟩:=nm (gR fr c);obtain⟨ap,a2⟩:=nm (iI fr ⟨op,a,c,f,j,i,k⟩);rw[W]at K⊢;rw[a2]at y⊢;have u:=Z (fun w=>ua ⟨op,a,c,f,j,i,k⟩ am ap w);obtain⟨F,Y⟩:=nm (hL ⟨op,a,c,f,j,i,k⟩ am ap);rw[Y]at u⊢;unfold aL aD at s y u;dsimp only at s y u;obtain⟨eA,eC⟩:=c4;clear h U W a2 Y c9;have c8:op=1∨op=2∨op=3∨op=4∨op=5∨op=6∨op=7∨op=8∨op=9∨op=10∨op=11:=by omega
 clear c7;obtain⟨n,V⟩:=mn op;have c0:=Z V;clear V;rcases c8 with rfl|rfl|rfl|rfl|rfl|rfl|rfl|rfl|rfl|rfl|rfl
 all_goals
  go_in
  go_wp2_with fail
  with_reducible refine(s.out _).mono ?_
  rintro e w2 ⟨rfl,R⟩;have d:=Z R;have cb:=d.k a3;have cd:=d.k a4;have ce:=d.k a5;have ch:=d.k a9;have ci:=d.k ab;have cl:=d.k ad;have cm:=d.k al;have c3:=d.k O;clear R a3 a4 a5 a9 ab ad al O;obtain⟨q,r⟩:=nm (w2.alloc (.cells #[n,a,c,f,.int .u64 j,i,k] 152));rw[c0]at r;have x:=Z (Row.al r);have G:Hid (Ch ag w q):=Z (by rw[<-r];exact d.alloc _);have m:Hid (aJ q b o t pre post v ⟨(p:Int),fr,fb⟩):=Z (I.ch G id (fun g S h=>h));obtain⟨d0,d1,d2,d3,d4,d5,d6⟩:=x.c7;have c2:=m.mD a.toNat (by omega);go_wp2
  try rw[r]
  have c5:b<w2.heap.size:=Nat.lt_of_lt_of_le I.row.lt d.size;obtain⟨tb,a1⟩:=mn w2.heap.size;have eL:¬b=tb:=by omega
  have eS:¬tb=b:=by omega
  clear c5;rw[<-a1]at x d0 d1 d2 d3 d4 d5 d6⊢;clear r a1 cb cd ce ch ci cl cm c3;obtain⟨fn,E⟩:=nm (fr a.toNat);have J:=Z E;rw[E]at c2;clear E;go_region_held3 (x.c7) (go_keep) ((first|(go_at_call 151;refine(K q.drew ⟨m.fr.pc,m.fr.o9⟩).mono ?_;rintro e w' ⟨rfl,rfl⟩)|(go_at_call 152;refine(y q.drew ⟨m.fr.pc,m.fr.o9⟩).mono ?_;rintro e w4 ⟨rfl,z⟩;have bv:=Z z;have M:=Z (Row.ch (w:=q.drew) x.drew z id);have H:Hid (aJ w4 b o t pre post v ⟨(p:Int),fr,fb⟩):=Z (aJ.ch (w:=q.drew) m.drew z id (fun g S h=>h));obtain⟨cs,cA,cC,cL,cQ,cS,cW⟩:=M.c7;have P:=H.mD a.toNat (by omega);dsimp only at P;rw[J]at P;clear z)|(go_at_call 150;refine(u w4).mono ?_;rintro e av ⟨rfl,A⟩;have bw:=Z A;have c1:=Z (Row.ch (w:=w4) M A id);have C:Hid (aJ av b o t pre post v ⟨(p:Int),fr,fb⟩):=Z (aJ.ch (w:=w4) H A id (fun g S h=>h));obtain⟨dr,dC,dN,ej,en,es,et⟩:=c1.c7;have Q:=C.mD a.toNat (by omega);dsimp only at Q;rw[J]at Q;have gf:=C.free (o+1+a.toNat);clear A)))
  all_goals
   obtain⟨bi,B⟩:=nm (av.setCell (b,o+1+a.toNat) (.int .u64 F));have D:Hid (aJ bi b o t pre post v ⟨(p:Int),fW fr a.toNat F,fb⟩):=Z (by rw[<-B];exact C.qu a0 a.toNat (by omega) F);have bx:Hid (Ch (aH b) w bi):=Z (by rw[<-B];exact(((G.drew.trans bv).trans bw).af).only _ _);have cq:=D.lL;have fz:=D.free o;dsimp only at cq;try rw[B]
   clear B;go_wp2
   go_ret2;exact⟨rfl,D.j0 a0 _,bx.only _ _⟩
variable{x:be}{n:Nat}
theorem jk(h:bC x n=true):∃y:be,y.op=x.op/\y.a=x.a/\y.b=x.b/\y.c=x.c/\eD y 1 (x.op !=22)=true:=by
 unfold bC at h;split at h
 ·rw[Bool.and_eq_true]at h
  exact⟨{x with v:=0,m:=0,wh:=0},rfl,rfl,rfl,rfl,h.2⟩
 ·exact⟨{x with m:=0,wh:=0},rfl,rfl,rfl,rfl,h⟩
theorem jQ(h:bC x n=true)(d:(e5 x.op).1=true):0<=x.a/\x.a<32:=by
 obtain⟨y,b,c,_,_,a⟩:=jk h;unfold eD j8 at a;simp only[Bool.and_eq_true]at a;have:=a.1.2.1.1.1;rw[b,d]at this;unfold fp at this;rw[<-c];simpa using this
theorem xe(h:bC x n=true)(d:x.op=21):0<=x.c/\x.c<32:=by
 obtain⟨y,b,_,_,c,a⟩:=jk h;unfold eD j8 at a;simp only[Bool.and_eq_true]at a;have:=a.1.2.1.2;rw[b,d]at this;unfold fp at this;rw[<-c];simpa[e5,mx]using this
def bM{a:Type}(acc:a->Int->Int->Int->Int->Option Int×a)(l:List be)(f:cP)(S:a):Int×cP×a:=
 if f.pc<0 then(3,f,S)else
 match l[f.pc.toNat]? with
 |none=>(3,f,S)
 |some x=>
  if bC x l.length=false then(3,f,S)
  else if x.op=12∨x.op=13∨x.op=14∨x.op=15∨x.op=16 then((dG x f).1,(dG x f).2,S)
  else if x.op=17∨x.op=18∨x.op=19∨x.op=20∨x.op=21 then
   match cR acc S x f.r with
   |(none,S')=>(3,f,S')
   |(some v,S')=>(0,{f with r:=fW f.r x.a.toNat v,pc:=wrap64 (f.pc+1)},S')
  else if 1<=x.op/\x.op<=11 then(0,{f with r:=fW f.r x.a.toNat (hL x (gR f.r x.b) (iI f.r x)),pc:=wrap64 (f.pc+1)},S)
  else(1,f,S)
def zz(n:Int)(post:World->Prop)(e:Ending)(w':World):Prop:=(∃u,e=.returned (.tuple #[n,u])/\(u=.nilIface∨n=3/\ar u))/\post w'
def D8(P Q:Nat->Prop):Nat->Prop:=fun i=>P i∨Q i
theorem uc(n:Int)(t:TypeId)(x:Value)(w:World):Calls prog 149 #[n,.iface t x] w (fun e w'=>e=.returned (.iface 185 (.pointer (some (w.heap.size,0))))/\w.alloc (.cells #[.string ⟨#[118,109]⟩,n,.iface t x] 187)=w'):=by
 go_wp2
 go_ret;exact⟨rfl,rfl⟩
theorem rQ{T:TypeId}{X:Value}{fd:Type}(c:qw T X fd)(S:fd)(hm:Hid (c.Ok S))(b o:Nat)(t:TypeId)(cd:t≠3)(pre post:List Value)(v:Value)(f:cP)(l:List be)(g6:Option Addr)(N eA:Nat)
 (Y:N=l.length) (hi:N<=eA) (ge:N<=100000) (hb:f.back.length<=8) (ad:∀k,k<32->aK (f.r k)) (c1:∀x∈l,aK x.v)
 (w:World) (h:aJ w b o t pre post v f) (y:0<N->∃g dN,g6=some ⟨g,dN,none⟩/\∀j u,(b4 l)[j]?=some u->w.cell? ⟨g,dN+j,none⟩=some u) (a9:c.At S w)
 (a3:∀S w w' c6 f1 gs f2,c.vS S w->aJ w b o t pre post c6 f1->aJ w' b o t pre post gs f2->aS w c6 gs->Ch (aH b) w w'->c.vS S w') (bi:¬c.D b) (bv:∀i,w.heap.size<=i->¬c.D i) (bw:∀g,v.ownBlock=some g->¬c.D g):
 Calls prog 105 #[(b,o),.slice g6 N eA,.iface T X] w
  (zz (bM c.acc l f S).1 (fun w'=>(∃v',aJ w' b o t pre post v' (bM c.acc l f S).2.1/\aS w v v')/\c.vS (bM c.acc l f S).2.2 w'/\Ch (D8 (aH b) c.D) w w')):=by
 obtain⟨c5,fr,fb⟩:=f;dsimp only at hb ad;have a1:=Z h;have av:=Z a9;have a5:w.cell? (b,o)=some (.int .i64 c5):=h.lL;have f0:=h.free o;have he:=Z ad;by_cases gk:c5<0
 ·have E:Hid (bM c.acc l ⟨c5,fr,fb⟩ S=(3,⟨c5,fr,fb⟩,S)):=Z (by unfold bM;rw[if_pos gk])
  clear h a9 ad c1 y a3 bi bv bw hb;go_wp2
  go_ret2;rw[E];exact⟨⟨_,rfl,Or.inl rfl⟩,⟨_,a1,aS.refl _ _⟩,c.Ds _ _ av,Ch.refl _ _⟩
 ·have F:∀A B:Int×cP×fd,(if c5<0 then A else B)=B:=fun A B=>if_neg gk
  obtain⟨p,rfl⟩:=Int.eq_ofNat_of_zero_le (show 0<=c5 by omega);have c0:((p:Int)).toNat=p:=by omega
  by_cases c8:N<=p
  ·have E:Hid (bM c.acc l ⟨(p:Int),fr,fb⟩ S=(3,⟨(p:Int),fr,fb⟩,S)):=Z (by unfold bM;rw[F,c0,List.getElem?_eq_none (by omega)])
   have hn:(N:Int)<=(p:Int):=(by omega);clear h a9 ad c1 y a3 bi bv bw hb F c0 c8;go_wp2
   go_ret2;rw[E];exact⟨⟨_,rfl,Or.inl rfl⟩,⟨_,a1,aS.refl _ _⟩,c.Ds _ _ av,Ch.refl _ _⟩
  ·have c9:p<l.length:=by omega
   obtain⟨x,C⟩:∃x,l[p]?=some x:=⟨_,List.getElem?_eq_getElem c9⟩;obtain⟨g,dN,rfl,H⟩:=y (by omega);obtain⟨k0,k1,k2,k3,ch,ci,cl⟩:=eU l p x C;have a0:=H _ _ k0;have J:=H _ _ k1;rw[<-Nat.add_assoc]at J;have K:=H _ _ k2;rw[<-Nat.add_assoc]at K;have L:=H _ _ k3;rw[<-Nat.add_assoc]at L;have M:=H _ _ ch;rw[<-Nat.add_assoc]at M;have O:=H _ _ ci;rw[<-Nat.add_assoc]at O;have P:=H _ _ cl;rw[<-Nat.add_assoc]at P;have c2:aK x.v:=c1 x (List.mem_of_getElem? C);have hn:¬(N:Int)<=(p:Int):=(by omega);have kw:(p:Int)<(N:Int):=(by omega);have kk:0<=(p:Int):=(by omega);have a2:=Z (fun w=>rI x N ge w);have et:=Z Y;obtain⟨mb,m⟩:=nm (bC x N);rw[m]at a2;cases mb
   ·have E:Hid (bM c.acc l ⟨(p:Int),fr,fb⟩ S=(3,⟨(p:Int),fr,fb⟩,S)):=Z (by unfold bM;rw[F,c0,C];dsimp only;rw[<-Y,if_pos m])
    clear h a9 ad c1 y a3 bi bv bw hb F c8 C H c2 m Y c9 k0 k1 k2 k3 ch ci cl;unfold aL aD at a2;go_in
    go_wp2_with fail
    with_reducible refine(a2.out _).mono ?_
    rintro e w2 ⟨rfl,s⟩;have a:=Z s;clear s;go_wp2
    go_ret2;rw[E];exact⟨⟨_,rfl,Or.inl rfl⟩,⟨_,a1.ch a id (fun g y h=>h),aS.refl _ _⟩,c.Ds _ _ (c.keep _ _ _ av a),a.af⟩
   ·obtain⟨op,d,D,z,R,Q,U⟩:=x
    dsimp only at c2 a0 J K L M O P;unfold aL aD at a2;dsimp only at a2;have es:=Z a3;have hv:=Z m;have hw:=Z C;have hB:=Z c2;by_cases ab:op=12∨op=13∨op=14∨op=15∨op=16
    ·have gc:op=16∨op=15∨op=12∨(op=13∨op=14)/\0<=d/\d<32:=by
      rcases ab with rfl|rfl|rfl|rfl|rfl
      ·omega
      ·exact Or.inr (Or.inr (Or.inr ⟨Or.inl rfl,jQ m rfl⟩))
      ·exact Or.inr (Or.inr (Or.inr ⟨Or.inr rfl,jQ m rfl⟩))
      ·omega
      ·omega
     have V:=Z (fun w h=>zx b o t cd pre post v ⟨(p:Int),fr,fb⟩ ⟨op,d,D,z,R,Q,U⟩ gc hb w h);unfold aL aD at V;dsimp only at V;have E:Hid (bM c.acc l ⟨(p:Int),fr,fb⟩ S=((dG ⟨op,d,D,z,R,Q,U⟩ ⟨(p:Int),fr,fb⟩).1,(dG ⟨op,d,D,z,R,Q,U⟩ ⟨(p:Int),fr,fb⟩).2,S)):=Z (by unfold bM;rw[F,c0,C];dsimp only;rw[<-Y,m,if_neg (by decide),if_pos ab]);obtain⟨kE,g9⟩:=nm ((dG ⟨op,d,D,z,R,Q,U⟩ ⟨(p:Int),fr,fb⟩));rw[g9]at E V;clear h a9 ad c1 y a3 bi bv bw hb F c8 C H c2 m Y c9 k0 k1 k2 k3 ch ci cl gc g9;rcases ab with rfl|rfl|rfl|rfl|rfl
     all_goals
      go_in
      go_wp2_with fail
      with_reducible refine(a2.out _).mono ?_
      rintro e w2 ⟨rfl,s⟩;have a:=Z s;have cm:=a.k a0;have cq:=a.k J;have cs:=a.k K;have cA:=a.k L;have cC:=a.k M;have cL:=a.k O;have cQ:=a.k P;have W:=a.k a5;clear s a0 J K L M O P a5;go_wp2_with fail
      have g3:Hid (∀eV,aJ (w2.alloc eV) b o t pre post v ⟨(p:Int),fr,fb⟩):=Z (fun eV=>a1.ch (a.alloc eV) id (fun g y h=>h));with_reducible refine(V.out _ (g3.out _)).mono ?_
      rintro e w4 ⟨rfl,⟨v',hF,eC⟩,G⟩;have g4:=Z hF;have gt:Hid (aS w v v'):=Z ((aS.refl w v).trans (a.alloc _).size eC);have hd:=Z eC;clear eC;have fz:=Z G;clear hF G;go_wp2
      go_ret2;rw[E];exact⟨⟨_,rfl,Or.inl rfl⟩,⟨_,g4,gt⟩,es _ _ _ _ _ _ _ (c.Ds _ _ (c.keep _ _ _ av (a.alloc _))) (g3 _) g4 hd fz,((a.alloc _).af.trans fz).mono (fun i a4=>Or.inl a4)⟩
    ·by_cases bx:op=17∨op=18∨op=19∨op=20∨op=21
     ·have dr:0<=d/\d<32:=by
       refine jQ m ?_;rcases bx with rfl|rfl|rfl|rfl|rfl<;>rfl
      have g8:op=17∨op=18∨op=19∨op=20∨(op=21/\0<=z/\z<32):=by
       rcases bx with rfl|rfl|rfl|rfl|rfl
       ·omega
       ·omega
       ·omega
       ·omega
       ·exact Or.inr (Or.inr (Or.inr (Or.inr ⟨rfl,xe m rfl⟩)))
      have V:=Z (fun w h hu=>qx c S hm b o (p:Int) fr ⟨op,d,D,z,R,Q,U⟩ dr g8 he c2 w h hu);unfold aL aD at V;dsimp only at V;obtain⟨q,eL⟩:=nm (cR c.acc S ⟨op,d,D,z,R,Q,U⟩ fr);obtain⟨gr,hf⟩:=q;have E:Hid (bM c.acc l ⟨(p:Int),fr,fb⟩ S=match(gr,hf)with
       |(none,S')=>(3,⟨(p:Int),fr,fb⟩,S')
       |(some v,S')=>(0,{(⟨(p:Int),fr,fb⟩:cP)with r:=fW fr d.toNat v,pc:=(p:Int)+1},S')):=Z (by
       have eS:wrap64 ((p:Int)+1)=(p:Int)+1:=(by unfold wrap64;omega);unfold bM;rw[F,c0,C];dsimp only;rw[<-Y,m,if_neg (by decide),if_neg ab,if_pos bx,eL,eS])
      rw[eL]at V;obtain⟨kd,kf⟩:=dr;have g1:=Z bv;have g0:=Z bi;have g2:=Z bw;have es:=Z a3;clear h a9 ad c1 y a3 bi bv bw hb F c8 C H c2 m Y c9 k0 k1 k2 k3 ch ci cl g8 eL ab;obtain⟨n,gf⟩:=mn op;have et:=Z gf;clear gf;rcases bx with rfl|rfl|rfl|rfl|rfl
      all_goals
       cases gr with
       |none=>
        go_in
        go_wp2_with fail
        with_reducible refine(a2.out _).mono ?_
        rintro e w2 ⟨rfl,s⟩;have a:=Z s;have cm:=a.k a0;have cq:=a.k J;have cs:=a.k K;have cA:=a.k L;have cC:=a.k M;have cL:=a.k O;have cQ:=a.k P;have W:=a.k a5;have cb:=s.size;clear s a0 J K L M O P a5;go_wp2_with fail
        obtain⟨c3,I⟩:=mn (w2.alloc (.cells #[n,d,D,z,.int .u64 R,Q,U] 152));rw[et]at I;have c4:=Z (Row.al I.symm);have al:Hid (Ch ag w c3):=Z (by rw[I];exact a.alloc _);have am:Hid (aJ c3 b o t pre post v ⟨(p:Int),fr,fb⟩):=Z (a1.ch al id (fun g y h=>h));have ex:Hid (c.At S c3):=Z (c.keep _ _ _ av al);have cW:Hid (¬c.D w2.heap.size):=Z (g1 _ cb);try rw[<-I]
        obtain⟨tb,ce⟩:=mn w2.heap.size;rw[<-ce]at c4 cW⊢;clear I ce cm cq cs cA cC cL cQ W cb;obtain⟨d0,d1,d2⟩:=c4.c3;have W:=am.lL;with_reducible refine(V.out _ am.out.fr ex.out).mono ?_
        rintro e w4 ⟨⟨n,u,rfl,tt,l1,rfl⟩,c7,G⟩;have en:=Z c7;have ej:=Z G;have ap:Hid (aJ w4 b o t pre post v ⟨(p:Int),fr,fb⟩):=Z (am.ch G g0 g2);clear c7 G d0 d1 d2 W;have W:=ap.lL;go_wp2_with (first|(go_at_call 149;refine(uc _ _ _ _).mono ?_;rintro e eW ⟨rfl,rfl⟩))
        go_ret2;rw[E];exact⟨⟨_,rfl,Or.inr ⟨rfl,ar.mk _ _⟩⟩,⟨_,ap.ch ((Ch.refl ag _).alloc _) id (fun g y h=>h),aS.refl _ _⟩,c.zy _ _ _ en ((Ch.refl ag _).alloc _),(al.af.trans (ej.mono fun i a4=>Or.inr a4)).alloc _⟩
       |some c6=>
        go_in
        go_wp2_with fail
        with_reducible refine(a2.out _).mono ?_
        rintro e w2 ⟨rfl,s⟩;have a:=Z s;have cm:=a.k a0;have cq:=a.k J;have cs:=a.k K;have cA:=a.k L;have cC:=a.k M;have cL:=a.k O;have cQ:=a.k P;have W:=a.k a5;have cb:=s.size;clear s a0 J K L M O P a5;go_wp2_with fail
        obtain⟨c3,I⟩:=mn (w2.alloc (.cells #[n,d,D,z,.int .u64 R,Q,U] 152));rw[et]at I;have c4:=Z (Row.al I.symm);have al:Hid (Ch ag w c3):=Z (by rw[I];exact a.alloc _);have am:Hid (aJ c3 b o t pre post v ⟨(p:Int),fr,fb⟩):=Z (a1.ch al id (fun g y h=>h));have ex:Hid (c.At S c3):=Z (c.keep _ _ _ av al);have cW:Hid (¬c.D w2.heap.size):=Z (g1 _ cb);try rw[<-I]
        obtain⟨tb,ce⟩:=mn w2.heap.size;rw[<-ce]at c4 cW⊢;clear I ce cm cq cs cA cC cL cQ W cb;obtain⟨d0,d1,d2⟩:=c4.c3;have W:=am.lL;with_reducible refine(V.out _ am.out.fr ex.out).mono ?_
        rintro e w4 ⟨rfl,c7,G⟩;have en:=Z c7;have ej:=Z G;have ap:Hid (aJ w4 b o t pre post v ⟨(p:Int),fr,fb⟩):=Z (am.ch G g0 g2);have g5:=c4.ch G cW;clear c7 G d0 d1 d2 W;have d1:=g5.k 1 rfl;have k5:=ap.mD d.toNat (by omega);have kb:=ap.free (o+1+d.toNat);clear g5;go_wp2
        obtain⟨eW,go⟩:=nm ((w4.drew).setCell (b,o+1+d.toNat) (.int .u64 c6));have cS:Hid (aJ eW b o t pre post v ⟨(p:Int),fW fr d.toNat c6,fb⟩):=Z (by rw[<-go];exact ap.drew.qu cd d.toNat (by omega) c6);have fn:Hid (Ch (aH b) w4 eW):=Z (by rw[<-go];exact ay);have kT:=cS.lL;have l0:=cS.free o;go_still_tail 7,(by kernel_rfl)
        go_wp2
        go_ret2;rw[E];exact⟨⟨_,rfl,Or.inl rfl⟩,⟨_,cS.j0 cd _,aS.refl _ _⟩,es _ _ _ _ _ _ _ en ap (cS.j0 cd _) (aS.refl _ _) (fn.only _ _),(al.af.trans (ej.mono fun i a4=>Or.inr a4)).trans ((fn.only _ _).mono fun i a4=>Or.inl a4)⟩
     ·by_cases dC:1<=op/\op<=11
      ·have dr:0<=d/\d<32:=by
        refine jQ m ?_;have:op=1∨op=2∨op=3∨op=4∨op=5∨op=6∨op=7∨op=8∨op=9∨op=10∨op=11:=(by omega);rcases this with rfl|rfl|rfl|rfl|rfl|rfl|rfl|rfl|rfl|rfl|rfl<;>rfl
       have E:bM c.acc l ⟨(p:Int),fr,fb⟩ S=(0,⟨(p:Int)+1,fW fr d.toNat (hL ⟨op,d,D,z,R,Q,U⟩ (gR fr D) (iI fr ⟨op,d,D,z,R,Q,U⟩)),fb⟩,S):=by
        have eS:wrap64 ((p:Int)+1)=(p:Int)+1:=(by unfold wrap64;omega);unfold bM;rw[F,c0,C];dsimp only;rw[<-Y,m,if_neg (by decide),if_neg ab,if_neg bx,if_pos dC,eS]
       refine(rP T X b o t cd pre post v p fr fb g dN N eA hi ge (by omega) op d D z R Q U dC dr m w a1 a0 J K L M O P).mono ?_;rintro e w' ⟨rfl,hF,g7⟩;rw[E];exact⟨⟨_,rfl,Or.inl rfl⟩,⟨_,hF,aS.refl _ _⟩,a3 _ _ _ _ _ _ _ (c.Ds _ _ a9) a1 hF (aS.refl _ _) g7,g7.mono (fun i a4=>Or.inl a4)⟩
      ·have E:Hid (bM c.acc l ⟨(p:Int),fr,fb⟩ S=(1,⟨(p:Int),fr,fb⟩,S)):=Z (by
        unfold bM;rw[F,c0,C];dsimp only;rw[<-Y,m,if_neg (by decide),if_neg ab,if_neg bx,if_neg dC])
       obtain⟨⟨hK,ih,ip,it,j9,jp,jr⟩,⟨j',k4,i0,i1,i2,i3,i4⟩,i5,i6,i7,i8,i9,ii,io⟩:(((op==1)=false/\(op==2)=false/\(op==3)=false/\(op==4)=false/\(op==5)=false/\(op==6)=false/\(op==7)=false)/\((op==8)=false/\(op==9)=false/\(op==10)=false/\(op==11)=false/\(op==12)=false/\(op==13)=false/\(op==14)=false)/\(op==15)=false/\(op==16)=false/\(op==17)=false/\(op==18)=false/\(op==19)=false/\(op==20)=false/\(op==21)=false):=by simp only[beq_eq_false_iff_ne];omega
       clear h a9 ad c1 y a3 bi bv bw hb F c8 C H c2 m Y c9 k0 k1 k2 k3 ch ci cl ab bx dC;go_in
       go_wp2_with fail
       with_reducible refine(a2.out _).mono ?_
       rintro e w2 ⟨rfl,s⟩;have a:=Z s;have cm:=a.k a0;have cq:=a.k J;have cs:=a.k K;have cA:=a.k L;have cC:=a.k M;have cL:=a.k O;have cQ:=a.k P;have W:=a.k a5;clear s a0 J K L M O P a5;go_wp2
       go_ret2;rw[E];exact⟨⟨_,rfl,Or.inl rfl⟩,⟨_,a1.ch (a.alloc _) id (fun g y h=>h),aS.refl _ _⟩,c.Ds _ _ (c.keep _ _ _ av (a.alloc _)),(a.alloc _).af⟩
theorem xf(args:Array Value)(w:World):(callFunc 34 args).run prog w=.ok (.enter 34 args) w:=by kernel_rfl
theorem B7(m:Nat)(w:World):(Go.method 503 64 (.pointer (some (m,0))) "Load").run prog w=.ok (34,.pointer (some (m,0))) w:=by kernel_rfl
theorem xg(args:Array Value)(w:World):(callFunc 81 args).run prog w=.ok (.enter 81 args) w:=by kernel_rfl
theorem B8(m:Nat)(w:World):(Go.method 503 64 (.pointer (some (m,0))) "Store").run prog w=.ok (81,.pointer (some (m,0))) w:=by kernel_rfl
theorem xh(args:Array Value)(w:World):(callFunc 246 args).run prog w=.ok (.enter 246 args) w:=by kernel_rfl
theorem B9(m:Nat)(w:World):(Go.method 503 64 (.pointer (some (m,0))) "Swap").run prog w=.ok (246,.pointer (some (m,0))) w:=by kernel_rfl
theorem xi(args:Array Value)(w:World):(callFunc 99 args).run prog w=.ok (.enter 99 args) w:=by kernel_rfl
theorem B'(m:Nat)(w:World):(Go.method 503 64 (.pointer (some (m,0))) "Add").run prog w=.ok (99,.pointer (some (m,0))) w:=by kernel_rfl
theorem xj(args:Array Value)(w:World):(callFunc 180 args).run prog w=.ok (.enter 180 args) w:=by kernel_rfl
theorem Ca(m:Nat)(w:World):(Go.method 503 64 (.pointer (some (m,0))) "Cas").run prog w=.ok (180,.pointer (some (m,0))) w:=by kernel_rfl
theorem Cb(m:Nat)(w:World):(nilAhead 503 64 (.pointer (some (m,0))) "Cas").run prog w=.ok (some false) w:=by kernel_rfl
theorem m2.of{x:Option Int×aI}{m c d:Nat}{w:World}{e:Ending}{w':World}(h:lE x m c d w e w'):m2 x.1 (fun w'=>aO w' m c d x.2/\Ch (cK m c) w w') e w':=by
 obtain⟨a,f⟩:=h;refine⟨?_,f⟩;cases b:x.1 with
 |none=>rw[b]at a;obtain⟨v,g,i⟩:=a;exact⟨_,_,g,i⟩
 |some v=>rw[b]at a;exact a
def zA(m c d:Nat):qw 64 (.pointer (some (m,0))) aI where
 At:=fun S w=>aO w m c d S
 vS:=fun S w=>aO w m c d S
 Ok:=fun _=>True
 D:=cK m c
 acc:=aI.acc
 FL:=34
 FS:=81
 FW:=246
 FA:=99
 FC:=180
 mL:=B7 m
 mS:=B8 m
 mW:=B9 m
 mA:=B' m
 mC:=Ca m
 nC:=Cb m
 eL:=xf
 eS:=xg
 eW:=xh
 eA:=xi
 eC:=xj
 keep:=fun _ _ _ h k=>h.ch k id id id
 Ds:=fun _ _ h=>h
 zy:=fun _ _ _ h k=>h.ch k id id id
 cL:=fun S a w _ b h=>(ji m c d S a b w h).mono fun _ _ h=>m2.of h
 cS:=fun S a v w _ b e h=>(eB m c d S a v b e w h).mono fun _ _ h=>⟨h.1,h.2⟩
 cW:=fun S a v w _ b e h=>(mw m c d S a v b e w h).mono fun _ _ h=>m2.of h
 cA:=fun S a v w _ b e h=>(nz m c d S a v b e w h).mono fun _ _ h=>m2.of h
 cC:=fun S a o v w _ b _ e h=>(nA m c d S a o v b e w h).mono fun _ _ h=>m2.of h
deriving instance Inhabited for cP
structure Ev where
 kind:Int
 at_:Int
 w:Int
 t:Int
 num:Int
 a0:Int
 a1:Int
 a2:Int
 a3:Int
 v:Int
 code:Int
 deriving DecidableEq,Inhabited
def Ev.cells(e:Ev):List Value:=[.int .i64 e.kind,.int .i64 e.at_,.int .i64 e.w,.int .u64 e.t,.int .i64 e.num,.int .u64 e.a0,.int .u64 e.a1,.int .u64 e.a2,.int .u64 e.a3,.int .u64 e.v,.int .u64 e.code]
theorem Ev.len(e:Ev):e.cells.length=11:=rfl
structure bB where
 num:Int
 at_:Int
 k0:Int
 k1:Int
 k2:Int
 k3:Int
 deriving DecidableEq,Inhabited
def bB.cells(r:bB):List Value:=[.int .i64 r.num,.int .i64 r.at_,.int .i64 r.k0,.int .i64 r.k1,.int .i64 r.k2,.int .i64 r.k3]
theorem bB.len(r:bB):r.cells.length=6:=rfl
structure Frame where
 f:cP
 cg:Bool
 num:Int
 deriving Inhabited
structure Thread where
 id:Int
 l:List Frame
 eY:Int
 deriving Inhabited
structure aC where
 slot:Int
 hand:Int
 parked:Bool
 left:Int
 f:cP
 deriving Inhabited
structure KC where
 dH:List be
 loop:Int
 calls:List bB
 bs:List be
 entry:Int
 wide:Int
 narrow:Int
 rows:List Int
structure fQ where
 id:Int
 ad:Int
 mask:Int
 deriving DecidableEq,Inhabited
structure KS where
 mem:aI
 blocks:a8
 clock:aN
 ring:List Int
 q:List (List fQ)
 table:List aF
 cT:List bq
 ai:List (Int×Thread)
 wk:List aC
 entries:Int
 at_:Int
 w:Int
 draw:Int
 out:List Ev
def gq(q:List (List fQ))(id:Int):Option fQ:=q.flatten.find? (fun s=>s.id==id)
def dw(q:List (List fQ))(id:Int):Bool×List (List fQ):=
 match gq q id with
 |none=>(false,q)
 |some _=>(true,q.map fun l=>l.filter fun s=>s.id !=id)
def pB(q:List (List fQ))(s:fQ):List (List fQ):=q.modify (bg s.ad 8).toNat (·++[s])
def kM(q:List (List fQ))(id a mask:Int):Bool×List (List fQ):=
 if id==0 then(false,q)else
 match gq q id with
 |some _=>(false,q)
 |none=>(true,pB q ⟨id,a,mask⟩)
def lN(q:List (List fQ))(a mask:Int)(each:Bool):Option fQ:=(q.getD (bg a 8).toNat []).find? fun s=>s.ad==a&&(each||rD s.mask mask)
def eJ(q:List (List fQ))(a mask:Int):Int×Bool×List (List fQ):=
 match lN q a mask false with
 |none=>(0,false,q)
 |some s=>(s.id,true,(dw q s.id).2)
def ij(q:List (List fQ))(fr tt:Int):Int×Bool×List (List fQ):=
 match lN q fr 0 true with
 |none=>(0,false,q)
 |some s=>(s.id,true,pB (dw q s.id).2 {s with ad:=tt})
def xm(q:List (List fQ))(a mask:Int):Bool:=(lN q a mask false).isSome
def gT(K:KS):Int:=17+8*K.wk.length
def KC.cells(C:KC):Int:=C.wide+C.narrow
def tell(K:KS)(e:Ev):KS:={K with out:=K.out++[{e with at_:=K.at_,w:=K.w}]}
def cz(K:KS)(id:Int):Int:=(fx K.table id).1.state
def cr(K:KS)(id:Int):KS:={K with table:=(j4 K.table id 1).2,ring:=(hG K.ring id).2,mem:=(K.mem.acc 3 0 0 1).2}
def KS.W(K:KS)(i:Nat):aC:=K.wk.getD i default
def KS.bj(K:KS)(i:Nat)(x:aC):KS:={K with wk:=K.wk.set i x}
def KS.T(K:KS)(id:Int):Thread:=(aw K.ai id).getD default
def KS.cp(K:KS)(id:Int)(t:Thread):KS:={K with ai:=cn K.ai id t}
def gJ(C:KC)(K:KS)(i:Nat):KS:=K.bj i {K.W i with f:={(K.W i).f with pc:=C.loop,back:=[]}}
def dB(C:KC)(K:KS)(i:Nat):KS:=gJ C (K.bj i {K.W i with slot:=0}) i
inductive cJ where
 |own (i:Nat)
 |ai (id:Int) (k:Nat)
def KS.F(K:KS):cJ->cP
 |.own i=>(K.W i).f
 |.ai id k=>((K.T id).l.getD k default).f
def KS.cI(K:KS)(c:cJ)(f:cP):KS:=
 match c with
 |.own i=>K.bj i {K.W i with f:=f}
 |.ai id k=>K.cp id {K.T id with l:=(K.T id).l.set k {(K.T id).l.getD k default with f:=f}}
def KS.ax(K:KS)(c:cJ)(k:Nat)(x:Int):KS:=K.cI c {K.F c with r:=fW (K.F c).r k x}
def KS.fA(K:KS)(c:cJ):KS:=K.cI c {K.F c with pc:=wrap64 ((K.F c).pc+1)}
def KS.top(K:KS)(id:Int):Nat:=(K.T id).l.length-1
def gu(K:KS)(a:Int):Int×KS:=(((K.mem.acc 0 a 0 0).1).getD 0,{K with mem:=(K.mem.acc 0 a 0 0).2})
def i'(op:Int):Bool:=(e5 op).1
def jm(K:KS)(a:Int):KS:={K with blocks:=(m1 K.blocks K.mem a).2.1,mem:=(m1 K.blocks K.mem a).2.2}
def eo(K:KS)(id a:Int):KS:=if cz K id=0 then jm K (wrap64 a)else K
def m3(C:KC)(K:KS)(i:Nat)(id:Int):KS:=
 let K:={K with table:=(gi K.table id 0).2}
 let x:=(fx K.table id).1
 let K:={K with table:=(eN K.table id).2}
 let K:={K with q:=(dw K.q id).2}
 let K:={K with clock:=(K.clock.bp id).2}
 let K:=tell K ⟨7,0,0,id,0,0,0,0,0,x.value,0⟩
 let K:=dB C K i
 let K:={K with ai:=fs K.ai id}
 eo K id x.home
def dq(K:KS)(id:Int)(num code v:Int):KS:=
 let K:=K.ax (.ai id (K.top id)) 0 code
 let K:=K.ax (.ai id (K.top id)) 1 v
 tell K ⟨2,0,0,id,num,0,0,0,0,v,code⟩
def eE(K:KS)(id:Int)(code v:Int):KS:=
 let n:=K.top id
 let num:=((K.T id).l.getD n default).num
 dq (K.cp id {K.T id with l:=(K.T id).l.take n}) id num code v
def dc(K:KS)(id:Int)(c:cJ)(x:be):KS:=
 if x.m=0 then K else
 let code:=if i' x.op then(K.F c).r x.a.toNat else 0
 if x.wh=0∨((x.wh==1)=(code==0))then tell K ⟨5,0,0,id,x.m,0,0,0,0,(K.F c).r 0,code⟩else K
def cw(C:KC)(K:KS):List (Int×Int)->Int
 |[]=>0
 |(k,a)::l=>
  if k=0 then cw C K l
  else if k=7 then(if IntKind.u64.wrap C.cells<=a then 22 else cw C K l)
  else if(gp K.cT a k).isNone then 22 else cw C K l
def cM(C:KC)(K:KS)(id num:Int)(a0 a1 a2 a3:Int):Int:=
 if 1000<=num∨C.rows.getD num.toNat 0=0 then 38
 else if 7<=(K.T id).l.length/\num≠2 then 11
 else
  let r:=C.calls.getD (C.rows.getD num.toNat 0-1).toNat default
  cw C K [(r.k0,a0),(r.k1,a1),(r.k2,a2),(r.k3,a3)]
def dg(K:KS)(k a:Int):Int:=
 if k=0 then a else if k=7 then IntKind.u64.wrap (IntKind.u64.wrap (gT K)+a)else(gp K.cT a k).getD 0
def hr(C:KC)(K:KS)(id:Int)(k:Nat)(num:Int):KS:=
 let f:=K.F (.ai id k)
 let a0:=f.r 0
 let a1:=f.r 1
 let a2:=f.r 2
 let a3:=f.r 3
 let K:=tell K ⟨1,0,0,id,num,a0,a1,a2,a3,0,0⟩
 let c:=cM C K id num a0 a1 a2 a3
 if c≠0 then dq K id num c 0
 else
  let r:=C.calls.getD (C.rows.getD num.toNat 0-1).toNat default
  let R:Nat->Int:=fun j=>if j=0 then dg K r.k0 a0 else if j=1 then dg K r.k1 a1 else if j=2 then dg K r.k2 a2 else if j=3 then dg K r.k3 a3 else if j=30 then a0 else if j=31 then IntKind.u64.wrap num else 0
  K.cp id {K.T id with l:=(K.T id).l++[⟨⟨r.at_,R,[]⟩,true,num⟩]}
def eZ(C:KC)(K:KS)(i:Nat)(id:Int)(k:Nat)(v:Int):KS:=
 let K:=K.ax (.ai id k) 0 v
 let K:=K.fA (.ai id k)
 if 0<C.rows.getD 2 0 then hr C K id k 2
 else m3 C {K with table:=(gi K.table id v).2} i id
def eK(K:KS)(i:Nat)(id:Int):KS:=
 if(K.W i).hand≠0∨cz K id≠1 then K
 else if K.wk.any (fun x=>x.hand==id)then K
 else if K.ring.any (fun r=>r==id)then K
 else K.bj i {K.W i with hand:=id}
def ep(K:KS)(i:Nat)(id:Int):KS:=
 if(K.W i).hand≠0 then cr K id
 else
  let K:={K with table:=(j4 K.table id 1).2}
  K.bj i {K.W i with hand:=id}
def bQ(K:KS)(place a:Int):Int×KS:=
 match df K.blocks K.mem 1 with
 |(none,b,m)=>(0,{K with blocks:=b,mem:=m})
 |(some h,b,m)=>
  let K:={K with blocks:=b,mem:=m}
  match dh K.table h with
  |(none,t)=>(0,jm {K with table:=t} h)
  |(some id,t)=>(id,{K with table:=t,ai:=cn K.ai id ⟨id,[⟨⟨place,fun j=>if j=0 then a else 0,[]⟩,false,0⟩],0⟩})
def aB(C:KC)(K:KS)(i:Nat)(id:Int)(c:cJ)(x:be):Int×KS:=
 let f:=K.F c
 let a:=f.r x.a.toNat
 if x.op=24 then
  let p:=kM K.q id (f.r x.b.toNat) (f.r x.c.toNat)
  if p.1 then(0,{K with q:=p.2,clock:=(K.clock.arm id a).2})else(0,{K with q:=p.2})
 else if x.op=28 then
  match gq K.q id with
  |some _=>(1,dB C {K with table:=(j4 K.table id 3).2} i)
  |none=>(0,K.ax c x.a.toNat (K.T id).eY)
 else if x.op=51 then(0,{K with table:=(hJ K.table a id).2})
 else if x.op=53 then(0,{K with table:=(gi K.table id a).2})
 else if x.op=55 then(1,m3 C K i id)
 else if x.op=56 then(0,dB C (cr K id) i)
 else if x.op=57 then
  if a<C.bs.length/\(K.T id).l.length<8 then(0,K.cp id {K.T id with l:=(K.T id).l++[⟨⟨wrap64 a,fun _=>0,[]⟩,false,0⟩]})else(0,K)
 else if x.op=58 then(1,eE K id (f.r 0) (f.r 1))
 else(0,K)
def bf(K:KS)(i:Nat)(c:cJ)(x:be):Int×KS:=
 let f:=K.F c
 let at_:=dE f.r x
 let a:=f.r x.a.toNat
 if x.op=31 then
  let p:=K.mem.acc 1 at_ 0 a
  let K:={K with mem:=p.2}
  if p.1.isNone then(2,K)else(0,K.bj i {K.W i with hand:=0})
 else
  let p:=K.mem.acc 4 at_ a (f.r x.c.toNat)
  let K:={K with mem:=p.2}
  match p.1 with
  |none=>(2,K)
  |some held=>
   let K:=K.ax c x.a.toNat held
   if held=hk (K.mem.wid at_) a then(0,eK K i ((K.F c).r 16))else(0,K)
def b0(K:KS)(i:Nat)(c:cJ)(x:be):KS:=
 let a:=(K.F c).r x.a.toNat
 if x.op=30 then eK K i a
 else if x.op=33 then
  if(K.W i).hand≠0 then
   let K:=cr K (K.W i).hand
   K.bj i {K.W i with hand:=0}
  else K
 else if x.op=34 then
  let K:=K.ax c x.a.toNat 0
  if(K.W i).hand=0 then
   let p:=gS K.ring
   let K:={K with ring:=p.2.2}
   let K:=K.bj i {K.W i with hand:=p.1}
   K.ax c x.a.toNat (K.W i).hand
  else K
 else if x.op=35 then
  if(K.W i).hand≠0/\a=(K.W i).hand/\(K.W i).slot=0 then
   let K:=K.bj i {K.W i with slot:=(K.W i).hand,hand:=0,left:=24}
   {K with table:=(j4 K.table (K.W i).slot 2).2}
  else K
 else K
def bh(K:KS)(c:cJ)(x:be):KS:=
 let f:=K.F c
 let a:=f.r x.a.toNat
 if x.op=43 then
  let n:=if 0<=x.b then f.r x.b.toNat else x.v
  let K:=K.ax c x.a.toNat 0
  if n<=4096 then
   let g:=df K.blocks K.mem n.toNat
   let K:={K with blocks:=g.2.1,mem:=g.2.2}
   K.ax c x.a.toNat (match g.1 with|some h=>(h:Int)|none=>0)
  else K
 else if x.op=44 then(if a<65536 then jm K a else K)
 else if x.op=45 then
  if x.v<=6 then
   let m:=fP K.cT x.v (f.r x.b.toNat)
   {K with cT:=m.2}.ax c x.a.toNat (m.1.getD 0)
  else K.ax c x.a.toNat 0
 else if x.op=46 then {K with cT:=(iZ K.cT a).2}
 else K
def bD(C:KC)(K:KS)(i:Nat)(c:cJ)(x:be):KS:=
 let f:=K.F c
 let a:=f.r x.a.toNat
 let b:=f.r x.b.toNat
 if x.op=48 then
  if b<C.bs.length then
   let p:=bQ K (wrap64 b) (f.r x.c.toNat)
   let K:=if p.1≠0 then ep p.2 i p.1 else p.2
   K.ax c x.a.toNat p.1
  else K.ax c x.a.toNat 0
 else if x.op=52 then
  let t:=(fx K.table a).1
  let l:=e8 K.table a
  let K:={K with table:=l.2}
  (if l.1 then eo K a t.home else K).ax c x.a.toNat a
 else if x.op=54 then
  let r:=fy K.table b
  let K:={K with table:=r.2.2.2.2}
  (if r.2.2.2.1 then eo K b r.2.2.1 else K).ax c x.a.toNat r.2.1
 else if x.op=49 then K.ax c x.a.toNat (IntKind.u64.wrap (ed K.table b))
 else if x.op=50 then K.ax c x.a.toNat (fx K.table b).1.home
 else K.ax c x.a.toNat a
def bl(K:KS)(i:Nat)(c:cJ)(x:be):KS:=
 let f:=K.F c
 let b:=f.r x.b.toNat
 let d:=f.r x.c.toNat
 if x.op=25 then
  let p:=eJ K.q b d
  let K:={K with q:=p.2.2}
  if p.2.1 then
   let K:={K with clock:=(K.clock.bp p.1).2}
   let K:=if(aw K.ai p.1).isSome then K.cp p.1 {K.T p.1 with eY:=0}else K
   let K:=if cz K p.1=3 then ep K i p.1 else K
   K.ax c x.a.toNat p.1
  else K.ax c x.a.toNat 0
 else if x.op=26 then
  let p:=ij K.q b d
  {K with q:=p.2.2}.ax c x.a.toNat p.1
 else if x.op=27 then K.ax c x.a.toNat (if xm K.q b d then 1 else 0)
 else K.ax c x.a.toNat 0
def gv(i:Int):Int:=IntKind.u64.wrap (17+3*i)
def ik(C:KC)(K:KS)(i:Nat)(id:Int)(c:cJ)(x:be):Int:=
 let b:=(K.F c).r x.b.toNat
 if x.op=23 then IntKind.u64.wrap (1+2*bg b 8)
 else if x.op=41 then K.clock.now
 else if x.op=37 then id
 else if x.op=40 then IntKind.u64.wrap K.wk.length
 else if x.op=42 then K.draw
 else if x.op=29 then(K.W i).hand
 else if x.op=38 then gv (wrap64 (IntKind.u64.wrap K.w%IntKind.u64.wrap K.wk.length))
 else if x.op=39 then gv (wrap64 (b%IntKind.u64.wrap K.wk.length))
 else if x.op=47 then(if b<C.bs.length then 1 else 0)
 else 0
def az(C:KC)(K:KS)(i:Nat)(id:Option Int)(c:cJ)(x:be):Int×KS:=
 if x.op=24∨x.op=28∨x.op=51∨x.op=53∨x.op=55∨x.op=56∨x.op=57∨x.op=58 then
  match id with
  |none=>(0,K)
  |some id=>aB C K i id c x
 else if x.op=31∨x.op=32 then bf K i c x
 else if x.op=36 then
  let p:=gu K 0
  let a:=p.1==(p.2.F c).r x.a.toNat
  let K:=p.2.bj i {p.2.W i with parked:=a}
  if a then(1,K)else(0,K)
 else if x.op=30∨x.op=33∨x.op=34∨x.op=35 then(0,b0 K i c x)
 else if x.op=43∨x.op=44∨x.op=45∨x.op=46 then(0,bh K c x)
 else if x.op=48∨x.op=52∨x.op=54∨x.op=49∨x.op=50 then(0,bD C K i c x)
 else if x.op=25∨x.op=26∨x.op=27 then(0,bl K i c x)
 else if x.op=22 then(2,K)
 else(0,K.ax c x.a.toNat (ik C K i (id.getD 0) c x))
def fB(l:List be)(pc:Int):be:=if 0<=pc/\pc<l.length then l.getD pc.toNat ⟨0,0,0,0,0,0,0⟩else⟨0,0,0,0,0,0,0⟩
def cB(C:KC)(K:KS)(c:cJ):be×Int×KS:=
 let s:=bM aI.acc C.dH (K.F c) K.mem
 (fB C.dH (K.F c).pc,s.1,({K with mem:=s.2.2}).cI c s.2.1)
def eF(C:KC)(K:KS)(i:Nat)(id:Option Int)(c:cJ):be×Int×KS:=
 let s:=cB C K c
 if s.2.1=1 then
  let p:=az C s.2.2 i id c s.1
  if p.1=0 then(s.1,0,p.2.fA c)
  else if p.1=2 then(s.1,3,p.2)
  else(s.1,1,p.2)
 else s
def kg(C:KC)(K:KS)(i:Nat):KS:=
 let K:=K.bj i {K.W i with parked:=false}
 let s:=eF C K i none (.own i)
 if s.2.1=0 then dc s.2.2 0 (.own i) s.1
 else if s.2.1=3∨s.2.1=2 then gJ C s.2.2 i
 else s.2.2
def cD(C:KC)(K:KS)(i:Nat)(id:Int)(k:Nat):KS:=
 let s:=eF C K i (some id) (.ai id k)
 if s.2.1=0 then dc s.2.2 id (.ai id k) s.1
 else if s.2.1=3∨s.2.1=2 then eE s.2.2 id 22 0
 else s.2.2
def bR(C:KC)(b:KS)(id op:Int)(S:aI×List Ev)(kind a e v:Int):Option Int×aI×List Ev:=
 if IntKind.u64.wrap C.cells<=a then(none,S)
 else
  let c:=IntKind.u64.wrap (IntKind.u64.wrap (gT b)+a)
  let p:=S.1.acc kind c e v
  match p.1 with
  |none=>(none,p.2,S.2)
  |some held=>
   let d:=p.2.acc 0 c 0 0
   (some held,d.2,S.2++[⟨3,b.at_,b.w,id,op,held,d.1.getD 0,0,0,a,0⟩])
def cx(C:KC)(K:KS)(i:Nat)(id:Int)(k:Nat):KS:=
 let c:=cJ.ai id k
 let x:=fB C.bs (K.F c).pc
 let s:=bM (bR C K id x.op) C.bs (K.F c) (K.mem,K.out)
 let K:=({K with mem:=s.2.2.1,out:=s.2.2.2}).cI c s.2.1
 if s.1=1 then hr C (K.fA c) id k (wrap64 x.v)
 else if s.1=2 then
  if 0<K.top id then K.cp id {K.T id with l:=(K.T id).l.take (K.top id)}
  else eZ C K i id k ((K.F c).r 0)
 else if s.1=3 then
  let v:=if x.op≠15/\x.op≠0 then dE (K.F c).r x else 0
  eZ C (tell K ⟨4,0,0,id,x.op,0,0,0,0,v,0⟩) i id k 18446744073709551615
 else K
def fR(C:KC)(K:KS)(i:Nat):KS:=
 if(K.W i).slot=0 then kg C K i else
 let id:=(K.W i).slot
 let k:=K.top id
 let f:=(K.T id).l.getD k default
 if f.cg=false/\(K.W i).left=0 then dB C (cr K id) i
 else
  let K:=K.bj i {K.W i with left:=max ((K.W i).left-1) 0}
  if f.cg then cD C K i id k else cx C K i id k
def cy(K:KS)(id:Int):KS:=
 let K:={K with q:=(dw K.q id).2}
 let K:=if(aw K.ai id).isSome then K.cp id {K.T id with eY:=110}else K
 if cz K id=3 then cr K id else K
def hs(K:KS):KS:=
 let t:=K.clock.tick
 let K:={K with clock:=t.1}
 let K:=tell K ⟨6,0,0,0,0,0,0,0,0,K.clock.now,0⟩
 t.2.foldl cy K
def ht(C:KC)(K:KS)(kind wk draw:Int):List Ev×KS:=
 let K:={K with at_:=K.entries,w:=-1,draw:=draw,entries:=wrap64 (K.entries+1)}
 let K:=if kind=2 then hs K
  else if kind=1 then(if 0<=wk/\wk<K.wk.length then fR C {K with w:=wk} wk.toNat else K)
  else K
 (K.out,{K with out:=[]})
structure Sl where
 id:Int
 ad:Int
 mask:Int
 b:Nat
def ptrTo:Option Nat->Value
 |none=> .pointer none
 |some b=> .pointer (some (b,0))
def kP(w:World):Option Nat->List Sl->Prop
 |_,[]=>True
 |p,s::r=>Row w s.b 249 [.int .u64 s.id,.int .u64 s.ad,.int .u64 s.mask,ptrTo p,ptrTo (r.head?.map Sl.b)]/\kP w (some s.b) r
theorem kP.ch{w w':World}{D:Nat->Prop}(c:Ch D w w'):∀{p:Option Nat} {l:List Sl},kP w p l->(∀s∈l,¬D s.b)->kP w' p l
 |_,[],_,_=>trivial
 |_,s::r,h,a=>⟨h.1.ch c (a s (by simp)),kP.ch c h.2 (fun x b=>a x (by simp[b]))⟩
def bV(l:List Sl):List Value:=[ptrTo (l.head?.map Sl.b),ptrTo (l.getLast?.map Sl.b)]
theorem dM(qb lb:Nat)(mv:Value)(a:Int)(n c:Nat)(d:1<=n)(f:n<=64)(w:World)(h:Row w qb 202 [.slice (some (lb,0)) n c,mv]):
 Calls prog 109 #[(qb,0),.int .u64 a] w (ez (.int .i64 (bg a n)) w):=by
 have g:=h.c1;have b:=Z (fun w=>nv a n d f w);go_in
 go_wp2_with (go_at_call 157;refine(b _).mono ?_;rintro e w' ⟨rfl,rfl⟩)
 go_ret;exact ez.mk rfl
def bk(b:Nat):Value:=.pointer (some (b,0))
def kQ(s:Sl)(p n:Option Nat):List Value:=[.int .u64 s.id,.int .u64 s.ad,.int .u64 s.mask,ptrTo p,ptrTo n]
def bN(w:World):Option Nat->Option Nat->List Sl->Prop
 |_,_,[]=>True
 |p,e,s::r=>Row w s.b 249 (kQ s p ((r.head?.map Sl.b).or e))/\bN w (some s.b) e r
theorem bN.ch{w w':World}{D:Nat->Prop}(c:Ch D w w'):∀{p e:Option Nat} {l:List Sl},bN w p e l->(∀s∈l,¬D s.b)->bN w' p e l
 |_,_,[],_,_=>trivial
 |_,_,s::r,h,a=>⟨h.1.ch c (a s (by simp)),bN.ch c h.2 (fun x b=>a x (by simp[b]))⟩
theorem bN.mem{w:World}:∀{p e:Option Nat} {l:List Sl},bN w p e l->∀s∈l,∃a b,Row w s.b 249 (kQ s a b)
 |_,_,x::r,h,s,c=>by
  rcases List.mem_cons.1 c with rfl|c
  ·exact⟨_,_,h.1⟩
  ·exact bN.mem h.2 s c
theorem fX{w:World}{p e:Option Nat}{s:Sl}{r:List Sl}:bN w p e (s::r)↔Row w s.b 249 (kQ s p ((r.head?.map Sl.b).or e))/\bN w (some s.b) e r:=Iff.rfl
theorem lO{w:World}{p e:Option Nat}:bN w p e []↔True:=Iff.rfl
theorem bN.app{w:World}:∀{p e:Option Nat} {l r:List Sl},bN w p e (l++r)↔bN w p ((r.head?.map Sl.b).or e) l/\bN w ((l.getLast?.map Sl.b).or p) e r
 |p,e,[],r=>by simp[lO]
 |p,e,s::l,r=>by
  rw[List.cons_append,fX,fX,bN.app (l:=l)];cases l with
  |nil=>simp[lO]
  |cons y l=>
   rw[List.getLast?_cons_cons];obtain⟨z,a⟩:∃z,(y::l).getLast?=some z:=⟨_,List.getLast?_eq_some_getLast (by simp)⟩;rw[a];simp[and_assoc]
theorem bN.snoc{w:World}{p e:Option Nat}{l:List Sl}{x:Sl}:bN w p e (l++[x])↔bN w p (some x.b) l/\Row w x.b 249 (kQ x ((l.getLast?.map Sl.b).or p) e):=by
 rw[bN.app,fX];simp[lO]
theorem bN.mid{w:World}{p e:Option Nat}{l r:List Sl}{x:Sl}:bN w p e (l++x::r)↔bN w p (some x.b) l/\Row w x.b 249 (kQ x ((l.getLast?.map Sl.b).or p) ((r.head?.map Sl.b).or e))/\bN w (some x.b) e r:=by
 rw[bN.app,fX];simp
theorem er(l:List Sl):(bV l).length=2:=rfl
theorem lP:∀{ls:List (List Sl)} {k:Nat} {x y:List Sl} {a b:Value},ls[k]?=some x->bV y=[a,b]->((ls.flatMap bV).set (k*2) a).set (k*2+1) b=(ls.set k y).flatMap bV
 |[],k,x,y,a,b,h,_=>by simp at h
 |z::ls,0,x,y,a,b,h,c=>by
  rw[List.flatMap_cons];show((bV z++_).set 0 a).set 1 b=_
  simp[bV]at c⊢;exact⟨c.1.symm,c.2.symm⟩
 |z::ls,k+1,x,y,a,b,h,c=>by
  have e:(k+1)*2=k*2+2:=Nat.succ_mul k 2;rw[List.flatMap_cons,List.set_append_right _ _ (by rw[er,e];omega),er,show(k+1)*2-2=k*2 from by omega,
   List.set_append_right _ _ (by rw[er,e];omega),er,show(k+1)*2+1-2=k*2+1 from by omega,lP (by simpa using h) c]
  simp
structure iE(w:World)(qb lb mb:Nat)(ls:List (List Sl)):Prop where
 head:Row w qb 202 [.slice (some (lb,0)) (8:Nat) (8:Nat),.map (some mb)]
 ends:Row w lb 247 (ls.flatMap bV)
 len:ls.length=8
 chain:∀(k:Nat) (l:List Sl),ls[k]?=some l->bN w none none l
 map:∃m,bS w mb .u64 bk m/\gn m/\∀id,aw m id=(ls.flatten.find? (fun s=>s.id==id)).map Sl.b
 nd:(ls.flatten.map Sl.b).Nodup
 y':(ls.flatten.map Sl.id).Nodup
 at_:∀(k:Nat) (l:List Sl),ls[k]?=some l->∀s∈l,bg s.ad (8:Nat)=k
def QD(qb lb mb:Nat)(ls:List (List Sl)):Nat->Prop:=fun i=>i=qb∨i=lb∨i=mb∨∃s∈ls.flatten,s.b=i
def Sl.s(x:Sl):fQ:=⟨x.id,x.ad,x.mask⟩
def b1(ls:List (List Sl)):List (List fQ):=ls.map (·.map Sl.s)
theorem bt{ls:List (List Sl)}{k:Nat}{l:List Sl}(h:ls[k]?=some l){s:Sl}(a:s∈l):s∈ls.flatten:=List.mem_flatten.2 ⟨l,List.mem_of_getElem? h,a⟩
theorem iE.ch{w w':World}{D:Nat->Prop}{qb lb mb:Nat}{ls:List (List Sl)}(h:iE w qb lb mb ls)(c:Ch D w w')(a:∀i,QD qb lb mb ls i->¬D i):iE w' qb lb mb ls where
 head:=h.head.ch c (a _ (Or.inl rfl))
 ends:=h.ends.ch c (a _ (Or.inr (Or.inl rfl)))
 len:=h.len
 chain:=fun k l b=>(h.chain k l b).ch c (fun s f=>a _ (Or.inr (Or.inr (Or.inr ⟨s,bt b f,rfl⟩))))
 map:=by
  obtain⟨m,d,e⟩:=h.map;exact⟨m,d.ch c (a _ (Or.inr (Or.inr (Or.inl rfl)))),e⟩
 nd:=h.nd
 y':=h.y'
 at_:=h.at_
theorem iE.af{w w':World}{qb lb mb:Nat}{ls:List (List Sl)}(h:iE w qb lb mb ls)(c:Ch ag w w'):iE w' qb lb mb ls:=h.ch c (fun _ _ h=>h)
theorem eu{α:Type}{ls:List (List α)}{k:Nat}{l:List α}(h:ls[k]?=some l):ls.flatten=(ls.take k).flatten++l++(ls.drop (k+1)).flatten/\∀y,(ls.set k y).flatten=(ls.take k).flatten++y++(ls.drop (k+1)).flatten:=by
 obtain⟨a,rfl⟩:=List.getElem?_eq_some_iff.1 h
 constructor
 ·calc ls.flatten=(ls.take k++ls.drop k).flatten:=by rw[List.take_append_drop]
   _=_:=by rw[List.drop_eq_getElem_cons a,List.flatten_append,List.flatten_cons,List.append_assoc]
 ·intro y
  rw[List.set_eq_take_append_cons_drop,if_pos a];simp
theorem il{α:Type}{ls:List (List α)}{s:α}(h:s∈ls.flatten):∃(k:Nat) (pre post:List α),ls[k]?=some (pre++s::post):=by
 obtain⟨l,b,c⟩:=List.mem_flatten.1 h;obtain⟨k,a⟩:=List.getElem?_of_mem b;obtain⟨pre,post,rfl⟩:=List.append_of_mem c;exact⟨k,pre,post,a⟩
theorem iE.apart{w:World}{qb lb mb:Nat}{ls:List (List Sl)}(h:iE w qb lb mb ls){s:Sl}(g:s∈ls.flatten):s.b≠qb/\s.b≠lb/\s.b≠mb/\s.b<w.heap.size:=by
 obtain⟨k,pre,post,d⟩:=il g;obtain⟨a,b,c⟩:=(h.chain k _ d).mem s (by simp);obtain⟨m,f,_⟩:=h.map;exact⟨c.ne h.head (by decide),c.ne h.ends (by decide),fun e=>f.ne c e.symm,c.lt⟩
theorem ug(qb lb c n k s:Nat)(mv:Value)(Q:List Value)(id d mask:Int)(pv x:Value)(q:1<=n)(r:n<=64)(t:bg d n=k)(C:k<n)(w:World)
 (j:Row w qb 202 [.slice (some (lb,0)) n c,mv]) (b:Row w lb 247 Q) (hlen:Q.length=n*2) (u:Q[k*2+1]?=some (.pointer none))
 (a:Row w s 249 [.int .u64 id,.int .u64 d,.int .u64 mask,pv,x]):
 Calls prog 213 #[(qb,0),(s,0)] w (fun e w'=>e=.returned (.tuple #[])/\
  Row w' lb 247 ((Q.set (k*2) (.pointer (some (s,0)))).set (k*2+1) (.pointer (some (s,0))))/\Row w' s 249 [.int .u64 id,.int .u64 d,.int .u64 mask,.pointer none,.pointer none]/\Ch (cK lb s) w w'):=by
 have g:=Z (fun w h=>dM qb lb mv d n c q r w h);rw[t]at g;have o:=Z j;have m:=Z b;have p:=Z a;have f:lb≠s:=b.ne a (by decide);have i:s≠lb:=fun e=>f e.symm
 have y:=j.c1;have F:=a.k 1 rfl;have G:=a.k 3 rfl;have H:=a.k 4 rfl;have z:=a.free 3;have A:=a.free 4;have E:=b.cell u;obtain⟨l,v⟩:∃l,Q[k*2]?=some l:=⟨_,List.getElem?_eq_getElem (by omega)⟩;have D:=b.cell v;have k0:=b.free (k*2);have k1:=b.free (k*2+1);have B:(k:Int)<(n:Int):=by omega
 go_wp2
 go_quiet ((go_at_call 109;exact Calls.quiet_of_same (b5 (g _ o))))
 go_wp2
 go_end0
 refine⟨rfl,?_,?_,?_⟩
 ·exact(((((m.drewN _).other f _).other f _).set (k*2) _).set (k*2+1) _)
 ·exact((((p.drewN _).set 3 _).set 4 _).other i _).other i _
 ·exact ay
theorem xr(qb lb c n k s t:Nat)(mv:Value)(Q:List Value)(id d mask:Int)(pv I v J:Value)(u r tm:Int)(B:1<=n)(C:n<=64)(D:bg d n=k)(O:k<n)(w:World)
 (l:Row w qb 202 [.slice (some (lb,0)) n c,mv]) (a:Row w lb 247 Q) (hlen:Q.length=n*2) (E:Q[k*2+1]?=some (.pointer (some (t,0))))
 (b:Row w s 249 [.int .u64 id,.int .u64 d,.int .u64 mask,pv,I]) (f:Row w t 249 [.int .u64 u,.int .u64 r,.int .u64 tm,v,J]) (m:s≠t):
 Calls prog 213 #[(qb,0),(s,0)] w (fun e w'=>e=.returned (.tuple #[])/\
  Row w' lb 247 (Q.set (k*2+1) (.pointer (some (s,0))))/\Row w' s 249 [.int .u64 id,.int .u64 d,.int .u64 mask,(t,0),.pointer none]/\
  Row w' t 249 [.int .u64 u,.int .u64 r,.int .u64 tm,v,(s,0)]/\Ch (dL lb s t) w w'):=by
 have i:=Z (fun w h=>dM qb lb mv d n c B C w h);rw[D]at i;have y:=Z l;have x:=Z a;have z:=Z b;have g:lb≠s:=a.ne b (by decide);have F:s≠lb:=fun e=>g e.symm
 have j:lb≠t:=a.ne f (by decide);have G:t≠lb:=fun e=>j e.symm
 have o:t≠s:=fun e=>m e.symm
 have A:=Z f;have t4:=f.k 4 rfl;have u4:=f.free 4;have K:=l.c1;have S:=b.k 1 rfl;have T:=b.k 3 rfl;have U:=b.k 4 rfl;have L:=b.free 3;have M:=b.free 4;have R:=a.cell E;obtain⟨q,H⟩:∃q,Q[k*2]?=some q:=⟨_,List.getElem?_eq_getElem (by omega)⟩;have P:=a.cell H;have k0:=a.free (k*2);have k1:=a.free (k*2+1);have N:(k:Int)<(n:Int):=by omega
 go_wp2
 go_quiet ((go_at_call 109;exact Calls.quiet_of_same (b5 (i _ y))))
 go_wp2
 go_end0
 refine⟨rfl,?_,?_,?_,?_⟩
 ·exact((((x.drewN _).other g _).other g _).other j _).set (k*2+1) _
 ·exact((((z.drewN _).set 3 _).set 4 _).other m _).other F _
 ·exact((((A.drewN _).other o _).other o _).set 4 _).other G _
 ·exact(((((Ch.refl _ _).drewN _).hj (p:=⟨s,3,none⟩) (Or.inr (Or.inl rfl)) _).hj (p:=⟨s,4,none⟩) (Or.inr (Or.inl rfl)) _).hj (p:=⟨t,4,none⟩) (Or.inr (Or.inr rfl)) _).hj (p:=⟨lb,k*2+1,none⟩) (Or.inl rfl) _
theorem r1(qb lb c n k s:Nat)(mv:Value)(Q:List Value)(id d mask:Int)(o:1<=n)(p:n<=64)(q:bg d n=k)(y:k<n)(w:World)
 (g:Row w qb 202 [.slice (some (lb,0)) n c,mv]) (a:Row w lb 247 Q) (hlen:Q.length=n*2)
 (b:Row w s 249 [.int .u64 id,.int .u64 d,.int .u64 mask,.pointer none,.pointer none]):
 Calls prog 96 #[(qb,0),(s,0)] w (fun e w'=>e=.returned (.tuple #[])/\
  Row w' lb 247 ((Q.set (k*2) (.pointer none)).set (k*2+1) (.pointer none))/\Ch (aH lb) w w'):=by
 have f:=Z (fun w h=>dM qb lb mv d n c o p w h);rw[q]at f;have m:=Z g;have l:=Z a;have r:lb≠s:=a.ne b (by decide);have z:s≠lb:=fun e=>r e.symm
 have v:=g.c1;have C:=b.k 1 rfl;have D:=b.k 3 rfl;have E:=b.k 4 rfl;obtain⟨j,u⟩:∃j,Q[k*2+1]?=some j:=⟨_,List.getElem?_eq_getElem (by omega)⟩;have B:=a.cell u;obtain⟨i,t⟩:∃i,Q[k*2]?=some i:=⟨_,List.getElem?_eq_getElem (by omega)⟩;have A:=a.cell t;have k0:=a.free (k*2);have k1:=a.free (k*2+1);have x:(k:Int)<(n:Int):=by omega
 go_wp2
 go_quiet ((go_at_call 109;exact Calls.quiet_of_same (b5 (f _ m))))
 go_wp2
 go_end0
 refine⟨rfl,?_,?_⟩
 ·exact((l.drewN _).set (k*2) _).set (k*2+1) _
 ·exact ay
theorem qF(qb lb c n k s x:Nat)(mv:Value)(Q:List Value)(id i mask u t v:Int)(N y:Value)(F:1<=n)(G:n<=64)(H:bg i n=k)(T:k<n)(w:World)
 (o:Row w qb 202 [.slice (some ⟨lb,0,none⟩) n c,mv]) (a:Row w lb 247 Q) (hlen:Q.length=n*2)
 (b:Row w s 249 [.int .u64 id,.int .u64 i,.int .u64 mask,.pointer none,.pointer (some ⟨x,0,none⟩)]) (f:Row w x 249 [.int .u64 u,.int .u64 t,.int .u64 v,N,y]) (U:s≠x):
 Calls prog 96 #[.pointer (some ⟨qb,0,none⟩),.pointer (some ⟨s,0,none⟩)] w (fun e w'=>e=.returned (.tuple #[])/\
  Row w' lb 247 (Q.set (k*2) (.pointer (some ⟨x,0,none⟩)))/\Row w' x 249 [.int .u64 u,.int .u64 t,.int .u64 v,.pointer none,y]/\Ch (cK lb x) w w'):=by
 have j:=Z (fun w h=>dM qb lb mv i n c F G w h);rw[H]at j;have C:=Z o;have A:=Z a;have I:lb≠s:=a.ne b (by decide);have J:s≠lb:=fun e=>I e.symm
 have m:lb≠x:=a.ne f (by decide);have K:x≠lb:=fun e=>m e.symm
 have D:=Z b;have E:=Z f;have x3:=f.k 3 rfl;have a1:=f.free 3;have O:=o.c1;have X:=b.k 1 rfl;have Y:=b.k 3 rfl;have a0:=b.k 4 rfl;obtain⟨r,M⟩:∃r,Q[k*2+1]?=some r:=⟨_,List.getElem?_eq_getElem (by omega)⟩;have W:=a.cell M;obtain⟨q,L⟩:∃q,Q[k*2]?=some q:=⟨_,List.getElem?_eq_getElem (by omega)⟩;have V:=a.cell L;have k0:=a.free (k*2);have k1:=a.free (k*2+1);have S:(k:Int)<(n:Int):=by omega
 go_wp2
 go_quiet ((go_at_call 109;exact Calls.quiet_of_same (b5 (j _ C))))
 obtain⟨w1,d⟩:=nm ((w.drewN nq).setCell ⟨lb,k*2,none⟩ (.pointer (some ⟨x,0,none⟩)));have B:=Z (d▸(A.drewN nq).set (k*2) (.pointer (some ⟨x,0,none⟩)));have l:Hid (Row w1 s 249 _):=Z (d▸(D.drewN nq).other (p:=⟨lb,k*2,none⟩) J (.pointer (some ⟨x,0,none⟩)));have g:Hid (Row w1 x 249 _):=Z (d▸(E.drewN nq).other (p:=⟨lb,k*2,none⟩) K (.pointer (some ⟨x,0,none⟩)));have z:Hid (Ch (cK lb x) w w1):=Z (d▸ay);have d3:=l.k 3 rfl;have d4:=l.k 4 rfl;have P:=g.k 3 rfl;have R:=g.free 3;go_wp2
 go_still_tail 10,(by kernel_rfl)
 go_wp2
 go_end0
 refine⟨rfl,?_,?_,?_⟩
 ·exact B.drew.other m _
 ·exact g.drew.set 3 _
 ·exact z.drew.mr _ _
theorem r2(qb lb c n k s x:Nat)(mv:Value)(Q:List Value)(id j mask y v z:Int)(A O:Value)(I:1<=n)(J:n<=64)(K:bg j n=k)(W:k<n)(w:World)
 (p:Row w qb 202 [.slice (some (lb,0)) n c,mv]) (a:Row w lb 247 Q) (hlen:Q.length=n*2)
 (b:Row w s 249 [.int .u64 id,.int .u64 j,.int .u64 mask,(x,0),.pointer none]) (g:Row w x 249 [.int .u64 y,.int .u64 v,.int .u64 z,A,O]) (N:s≠x):
 Calls prog 96 #[(qb,0),(s,0)] w (fun e w'=>e=.returned (.tuple #[])/\
  Row w' lb 247 (Q.set (k*2+1) (.pointer (some (x,0))))/\Row w' x 249 [.int .u64 y,.int .u64 v,.int .u64 z,A,.pointer none]/\Ch (cK lb x) w w'):=by
 have l:=Z (fun w h=>dM qb lb mv j n c I J w h);rw[K]at l;have D:=Z p;have C:=Z a;have L:lb≠s:=a.ne b (by decide);have X:s≠lb:=fun e=>L e.symm
 have o:lb≠x:=a.ne g (by decide);have M:x≠lb:=fun e=>o e.symm
 have G:=Z b;have H:=Z g;have x4:=g.k 4 rfl;have ab:=g.free 4;have Y:x≠s:=fun e=>N e.symm
 have R:=p.c1;have a2:=b.k 1 rfl;have a5:=b.k 3 rfl;have a9:=b.k 4 rfl;obtain⟨u,r⟩:∃u,Q[k*2+1]?=some u:=⟨_,List.getElem?_eq_getElem (by omega)⟩;have a1:=a.cell r;have F:=Z r;obtain⟨t,q⟩:∃t,Q[k*2]?=some t:=⟨_,List.getElem?_eq_getElem (by omega)⟩;have a0:=a.cell q;have E:=Z q;have k0:=a.free (k*2);have k1:=a.free (k*2+1);have V:(k:Int)<(n:Int):=by omega
 go_wp2
 go_quiet ((go_at_call 109;exact Calls.quiet_of_same (b5 (l _ D))))
 obtain⟨w0,d⟩:=nm (w.drewN nq);have f:=Z (d▸C.drewN nq);have m:Hid (Row w0 s 249 _):=Z (d▸G.drewN nq);have i:Hid (Row w0 x 249 _):=Z (d▸H.drewN nq);have B:Hid (Ch (cK lb x) w w0):=Z (d▸ay);have a3:=m.k 3 rfl;have a4:=m.k 4 rfl;have P:=i.k 4 rfl;have f4:=i.free 4;rw[d];go_wp2
 go_still_tail 10,(by kernel_rfl)
 change wpList _ _ _ _ _ w0.drew;have S:=f.cell E;have T:=f.cell F;have U:=f.free (k*2+1);go_wp2
 go_end0
 refine⟨rfl,?_,?_,?_⟩
 ·exact(f.drew.other o _).set (k*2+1) _
 ·exact(i.drew.set 4 _).other M _
 ·exact(B.drew.mr _ _).rF _ _
theorem uh(qb lb c n k s x y:Nat)(mv:Value)(Q:List Value)(id o mask D C E:Int)(F a2 a5 J:Value)(H G I:Int)(T:1<=n)(U:n<=64)(V:bg o n=k)(bv:k<n)(w:World)
 (r:Row w qb 202 [.slice (some ⟨lb,0,none⟩) n c,mv]) (a:Row w lb 247 Q) (hlen:Q.length=n*2)
 (d:Row w s 249 [.int .u64 id,.int .u64 o,.int .u64 mask,.pointer (some ⟨x,0,none⟩),.pointer (some ⟨y,0,none⟩)]) (g:Row w x 249 [.int .u64 D,.int .u64 C,.int .u64 E,F,a2]) (a0:Row w y 249 [.int .u64 H,.int .u64 G,.int .u64 I,a5,J]) (v:s≠x) (Y:s≠y) (z:x≠y):
 Calls prog 96 #[.pointer (some ⟨qb,0,none⟩),.pointer (some ⟨s,0,none⟩)] w (fun e w'=>e=.returned (.tuple #[])/\
  Row w' x 249 [.int .u64 D,.int .u64 C,.int .u64 E,F,.pointer (some ⟨y,0,none⟩)]/\Row w' y 249 [.int .u64 H,.int .u64 G,.int .u64 I,.pointer (some ⟨x,0,none⟩),J]/\Ch (cK x y) w w'):=by
 have p:=Z (fun w h=>dM qb lb mv o n c T U w h);rw[V]at p;have N:=Z r;have M:=Z a;have W:lb≠s:=a.ne d (by decide);have bw:s≠lb:=fun e=>W e.symm
 have X:lb≠x:=a.ne g (by decide);have bx:x≠lb:=fun e=>X e.symm
 have O:=Z d;have P:=Z g;have S:=Z a0;have a1:y≠x:=fun e=>z e.symm
 have c1:y≠s:=fun e=>Y e.symm
 have x4:=g.k 4 rfl;have c8:=g.free 4;have c0:x≠s:=fun e=>v e.symm
 have am:=r.c1;have c4:=d.k 1 rfl;have c5:=d.k 3 rfl;have c6:=d.k 4 rfl;obtain⟨B,u⟩:∃B,Q[k*2+1]?=some B:=⟨_,List.getElem?_eq_getElem (by omega)⟩;have c3:=a.cell u;have ad:=Z u;obtain⟨A,t⟩:∃A,Q[k*2]?=some A:=⟨_,List.getElem?_eq_getElem (by omega)⟩;have c2:=a.cell t;have ab:=Z t;have k0:=a.free (k*2);have k1:=a.free (k*2+1);have bi:(k:Int)<(n:Int):=by omega
 go_wp2
 go_quiet ((go_at_call 109;exact Calls.quiet_of_same (b5 (p _ N))))
 obtain⟨w0,b⟩:=nm (w.drewN nq);have a9:=Z (b▸M.drewN nq);have i:Hid (Row w0 s 249 _):=Z (b▸O.drewN nq);have j:Hid (Row w0 x 249 _):=Z (b▸P.drewN nq);have K:Hid (Ch (cK x y) w w0):=Z (b▸ay);have l:Hid (Row w0 y 249 _):=Z (b▸S.drewN nq);have a3:=i.k 3 rfl;have a4:=i.k 4 rfl;have al:=j.k 4 rfl;have f4:=j.free 4;have c7:=l.k 3 rfl;have ap:=l.free 3;rw[b];go_wp2
 go_still_tail 10,(by kernel_rfl)
 change wpList _ _ _ _ _ w0.drew;obtain⟨w1,f⟩:=nm (w0.drew.setCell ⟨x,4,none⟩ (.pointer (some ⟨y,0,none⟩)));have q:Hid (Row w1 s 249 _):=Z (f▸i.drew.other v (.pointer (some ⟨y,0,none⟩)));have R:=Z (f▸j.drew.set 4 (.pointer (some ⟨y,0,none⟩)));have m:Hid (Row w1 y 249 _):=Z (f▸l.drew.other a1 (.pointer (some ⟨y,0,none⟩)));have L:Hid (Ch (cK x y) w w1):=Z (f▸K.drew.rF _ _);have d3:=q.k 3 rfl;have d4:=q.k 4 rfl;have c9:=m.k 3 rfl;have av:=m.free 3;go_wp2_with fail
 try rw[f]
 go_wp2
 go_still_tail 10,(by kernel_rfl)
 change wpList _ _ _ _ _ w1.drew;go_wp2
 go_end0
 refine⟨rfl,?_,?_,?_⟩
 ·exact R.drew.other z _
 ·exact m.drew.set 3 _
 ·exact L.drew.mr _ _
theorem gK{a c:List Sl}{x:Sl}(h:((a++x::c).map Sl.b).Nodup):∀y,y∈a∨y∈c->y.b≠x.b:=by
 rw[List.map_append,List.map_cons,List.nodup_append,List.nodup_cons]at h;obtain⟨_,⟨d,_⟩,f⟩:=h;rintro y (b|b) e
 ·exact f _ (List.mem_map_of_mem b) _ List.mem_cons_self e
 ·exact d (e▸List.mem_map_of_mem b)
theorem xt{ls:List (List Sl)}{k:Nat}{x y:List Sl}(h:ls[k]?=some x)(a:bV x=bV y):(ls.set k y).flatMap bV=ls.flatMap bV:=by
 rw[List.flatMap_def,List.flatMap_def,List.map_set,<-a,j6 (by rw[List.getElem?_map,h];rfl)]
theorem j1(ls:List (List Sl)):(ls.flatMap bV).length=ls.length*2:=aU er ls
def xu(lb k:Nat)(ls:List (List Sl))(l':List Sl)(w:World)(e:Ending)(w':World):Prop:=
 e=.returned (.tuple #[])/\Row w' lb 247 ((ls.set k l').flatMap bV)/\bN w' none none l'/\Ch (fun i=>i=lb∨∃x∈l',x.b=i) w w'
theorem nS(qb lb k:Nat)(mv:Value)(ls:List (List Sl))(pre post:List Sl)(s:Sl)(w:World)(u:Row w qb 202 [.slice (some (lb,0)) (8:Nat) (8:Nat),mv])
 (l:Row w lb 247 (ls.flatMap bV)) (hlen:ls.length=8) (n:ls[k]?=some (pre++s::post)) (F:bN w none none (pre++s::post)) (hb:bg s.ad (8:Nat)=k)
 (gH:((pre++s::post).map Sl.b).Nodup):Calls prog 96 #[bk qb,bk s.b] w (xu lb k ls (pre++post) w):=by
 have t:k<8:=by rw[<-hlen];exact(List.getElem?_eq_some_iff.1 n).1
 have q:(ls.flatMap bV).length=8*2:=by rw[j1,hlen]
 obtain⟨K,m,E⟩:=bN.mid.1 F;have H:=gK gH;have B:∀y:Sl,y∈pre++s::post->y.b≠lb:=fun y R=>by
  obtain⟨a,b,N⟩:=F.mem y R;exact N.ne l (by decide)
 rcases List.eq_nil_or_concat pre with rfl|⟨g,x,rfl⟩
 ·cases post with
  |nil=>
   refine(r1 qb lb 8 8 k s.b mv _ s.id s.ad s.mask (by omega) (by omega) hb t w u l q m).mono ?_;rintro e w' ⟨rfl,h,c⟩;refine⟨rfl,?_,trivial,c.mono fun i f=>Or.inl f⟩;have:=lP (y:=[]) (a:=.pointer none) (b:=.pointer none) n rfl;rw[this]at h;exact h
  |cons y r=>
   obtain⟨o,p⟩:=fX.1 E;refine(qF qb lb 8 8 k s.b y.b mv _ s.id s.ad s.mask y.id y.ad y.mask _ _ (by omega) (by omega) hb t w u l q m o (H y (by simp)).symm).mono ?_;rintro e w' ⟨rfl,h,D,c⟩;have A:∀z∈r,z.b≠y.b:=(fun z d=>gK (a:=[s]) (x:=y) (c:=r) (by simpa using gH) z (Or.inr d));refine⟨rfl,?_,⟨D,p.ch c ?_⟩,c.mono fun i f=>f.imp id fun f=>⟨y,by simp,f.symm⟩⟩
   ·have:=fm (enc:=bV) (k:=2) er n (y:=y::r) (j:=0) (v:=bk y.b) (by omega) (by simp[bV,List.getLast?_cons_cons,ptrTo,bk])
    rw[Nat.add_zero]at this;rw[show(.pointer (some ⟨y.b,0,none⟩):Value)=bk y.b from rfl,this]at h;exact h
   ·rintro z d (e|e)
    ·exact B z (by simp[d]) e
    ·exact A z d e
 ·rw[List.concat_eq_append]at*
  obtain⟨o,p⟩:=bN.snoc.1 K;have I:∀z∈g,z.b≠x.b:=fun z d=>gK (a:=g) (x:=x) (c:=s::post) (by simpa using gH) z (Or.inl d)
  have J:s.b≠x.b:=gK (a:=g) (x:=x) (c:=s::post) (by simpa using gH) s (Or.inr (by simp));have G:((g++[x]).getLast?.map Sl.b).or none=some x.b:=by simp
  rw[G]at m;cases post with
  |nil=>
   refine(r2 qb lb 8 8 k s.b x.b mv _ s.id s.ad s.mask x.id x.ad x.mask _ _ (by omega) (by omega) hb t w u l q m p J).mono ?_;rintro e w' ⟨rfl,h,C,c⟩;rw[List.append_nil];refine⟨rfl,?_,bN.snoc.2 ⟨o.ch c ?_,C⟩,c.mono fun i f=>f.imp id fun f=>⟨x,by simp,f.symm⟩⟩
   ·have:=fm (enc:=bV) (k:=2) er n (y:=g++[x]) (j:=1) (v:=bk x.b) (by omega) (by simp[bV,ptrTo,bk,List.head?_append,List.getLast?_append])
    rw[show(.pointer (some (x.b,0)):Value)=bk x.b from rfl,this]at h;exact h
   ·rintro z d (e|e)
    ·exact B z (by simp[d]) e
    ·exact I z d e
  |cons y r=>
   obtain⟨L,M⟩:=fX.1 E;have O:s.b≠y.b:=(H y (by simp)).symm;have Q:x.b≠y.b:=(gK (a:=g) (x:=x) (c:=s::y::r) (by simpa using gH) y (Or.inr (by simp))).symm;have A:∀z,z∈g++[x,s]∨z∈r->z.b≠y.b:=gK (a:=g++[x,s]) (x:=y) (c:=r) (by simpa using gH);have P:∀z∈r,z.b≠x.b:=(fun z d=>gK (a:=g) (x:=x) (c:=s::y::r) (by simpa using gH) z (Or.inr (by simp[d])));refine(uh qb lb 8 8 k s.b x.b y.b mv _ s.id s.ad s.mask x.id x.ad x.mask _ _ _ _ y.id y.ad y.mask (by omega) (by omega) hb t w u l q m p L J O Q).mono ?_;rintro e w' ⟨rfl,C,D,c⟩;refine⟨rfl,?_,bN.app.2 ⟨bN.snoc.2 ⟨o.ch c ?_,C⟩,?_⟩,c.mono fun i f=>Or.inr (f.elim (fun f=>⟨x,by simp,f.symm⟩) (fun f=>⟨y,by simp,f.symm⟩))⟩
   ·rw[xt n (by simp[bV,List.head?_append,List.getLast?_append,List.getLast?_cons_cons])]
    exact l.ch c (by rintro(e|e);exact B x (by simp) e.symm;exact B y (by simp) e.symm)
   ·rintro z d (e|e)
    ·exact I z d e
    ·exact A z (Or.inl (by simp[d])) e
   ·rw[G]
    exact⟨D,M.ch c (by rintro z d (e|e);exact P z d e;exact A z (Or.inr d) e)⟩
def Cl(lb k:Nat)(ls:List (List Sl))(l:List Sl)(s:Sl)(w:World)(e:Ending)(w':World):Prop:=
 e=.returned (.tuple #[])/\Row w' lb 247 ((ls.set k (l++[s])).flatMap bV)/\bN w' none none (l++[s])/\Ch (fun i=>i=lb∨i=s.b∨∃x∈l,x.b=i) w w'
theorem r3(qb lb k:Nat)(mv pv q:Value)(ls:List (List Sl))(l:List Sl)(s:Sl)(w:World)(D:Row w qb 202 [.slice (some (lb,0)) (8:Nat) (8:Nat),mv])
 (m:Row w lb 247 (ls.flatMap bV)) (hlen:ls.length=8) (h:ls[k]?=some l) (F:bN w none none l) (hb:bg s.ad (8:Nat)=k)
 (E:Row w s.b 249 [.int .u64 s.id,.int .u64 s.ad,.int .u64 s.mask,pv,q]) (gH:((l++[s]).map Sl.b).Nodup):
 Calls prog 213 #[bk qb,bk s.b] w (Cl lb k ls l s w):=by
 have A:k<8:=by rw[<-hlen];exact(List.getElem?_eq_some_iff.1 h).1
 have u:(ls.flatMap bV).length=8*2:=by rw[j1,hlen]
 have C:∀z∈l,z.b≠s.b:=fun z f=>gK (a:=l) (x:=s) (c:=[]) gH z (Or.inl f)
 have o:(ls.flatMap bV)[k*2+1]?=some (ptrTo (l.getLast?.map Sl.b)):=by rw[bJ (enc:=bV) (k:=2) er h (by omega)];rfl
 rcases List.eq_nil_or_concat l with rfl|⟨n,x,rfl⟩
 ·refine(ug qb lb 8 8 k s.b mv _ s.id s.ad s.mask pv q (by omega) (by omega) hb A w D m u o E).mono ?_
  rintro e w' ⟨rfl,g,p,c⟩;refine⟨rfl,?_,⟨p,trivial⟩,c.mono fun i d=>d.imp id fun d=>Or.inl d⟩;have:=lP (y:=[s]) (a:=bk s.b) (b:=bk s.b) h rfl;rw[show(.pointer (some (s.b,0)):Value)=bk s.b from rfl,this]at g;exact g
 ·rw[List.concat_eq_append]at*
  obtain⟨r,t⟩:=bN.snoc.1 F;have I:∀z∈n,z.b≠x.b:=fun z f=>gK (a:=n) (x:=x) (c:=[s]) (by simpa using gH) z (Or.inl f)
  have J:x.b≠lb:=t.ne m (by decide);have B:((n++[x]).getLast?.map Sl.b)=some x.b:=by simp
  rw[B]at o;refine(xr qb lb 8 8 k s.b x.b mv _ s.id s.ad s.mask pv q _ _ x.id x.ad x.mask (by omega) (by omega) hb A w D m u o E t (C x (by simp)).symm).mono ?_;rintro e w' ⟨rfl,g,p,H,c⟩;refine⟨rfl,?_,bN.app.2 ⟨bN.snoc.2 ⟨r.ch c ?_,H⟩,?_⟩,c.mono ?_⟩
  ·have:=fm (enc:=bV) (k:=2) er h (y:=n++[x]++[s]) (j:=1) (v:=bk s.b) (by omega) (by simp[bV,ptrTo,bk,List.head?_append,List.getLast?_append])
   rw[show(.pointer (some (s.b,0)):Value)=bk s.b from rfl,this]at g;exact g
  ·rintro z f (e|e|e)
   ·obtain⟨a,b,G⟩:=r.mem z f
    exact G.ne m (by decide) e
   ·exact C z (by simp[f]) e
   ·exact I z f e
  ·rw[B];exact⟨p,trivial⟩
  ·rintro i (d|d|d)
   ·exact Or.inl d
   ·exact Or.inr (Or.inl d)
   ·exact Or.inr (Or.inr ⟨x,by simp,d.symm⟩)
section
variable{ls:List (List Sl)}{k lb mb qb:Nat}{X Y l pre:List Sl}{s x:Sl}{w:World}
theorem kR{j:Nat}{m:List Sl}(h:(ls.flatten.map Sl.b).Nodup)(f:ls[k]?=some l)(a:ls[j]?=some m)(n:j≠k)(c:x∈l)(b:s∈m):x.b≠s.b:=by
 rw[(eu f).1,List.map_append,List.map_append,List.nodup_append,List.nodup_append]at h;obtain⟨⟨_,_,d⟩,_,e⟩:=h;by_cases g:j<k
 ·have:s∈(ls.take k).flatten:=List.mem_flatten.2 ⟨m,List.mem_of_getElem? (by rw[List.getElem?_take,if_pos g];exact a),b⟩
  exact(d _ (List.mem_map_of_mem this) _ (List.mem_map_of_mem c)).symm
 ·have:s∈(ls.drop (k+1)).flatten:=List.mem_flatten.2 ⟨m,List.mem_of_getElem? (i:=j-(k+1)) (by rw[List.getElem?_drop,show k+1+(j-(k+1))=j from by omega];exact a),b⟩
  exact e _ (List.mem_append_right _ (List.mem_map_of_mem c)) _ (List.mem_map_of_mem this)
theorem iE.re{w':World}(h:iE w qb lb mb ls){l':List Sl}(d:ls[k]?=some l){D:Nat->Prop}(c:Ch D w w')(p:∀i,i<w.heap.size->D i->i=lb∨i=mb∨∃x∈l,x.b=i)
 (u:Row w' lb 247 ((ls.set k l').flatMap bV)) (t:bN w' none none l')
 (n:∃m,bS w' mb .u64 bk m/\gn m/\∀id,aw m id=((ls.set k l').flatten.find? (fun s=>s.id==id)).map Sl.b)
 (gH:((ls.set k l').flatten.map Sl.b).Nodup) (v:((ls.set k l').flatten.map Sl.id).Nodup) (r:∀s∈l',bg s.ad (8:Nat)=k):iE w' qb lb mb (ls.set k l') where
 head:=h.head.ch c (fun g=>by
  obtain⟨m,n,_⟩:=h.map;rcases p _ h.head.lt g with e|e|⟨x,o,e⟩
  ·exact h.head.ne h.ends (by decide) e
  ·exact n.ne h.head e.symm
  ·exact(h.apart (bt d o)).1 e)
 ends:=u
 len:=by rw[List.length_set];exact h.len
 chain:=fun j m a=>by
  by_cases b:k=j
  ·subst b
   have:m=l':=by
    rw[List.getElem?_set_self (List.getElem?_eq_some_iff.1 d).1]at a;exact(Option.some.inj a).symm
   subst this;exact t
  ·rw[List.getElem?_set_ne b]at a
   refine(h.chain j m a).ch c (fun s q g=> ?_);have f:=h.apart (bt a q);rcases p _ f.2.2.2 g with e|e|⟨x,o,e⟩
   ·exact f.2.1 e
   ·exact f.2.2.1 e
   ·exact kR h.nd d a (fun e=>b e.symm) o q e
 map:=n
 nd:=gH
 y':=v
 at_:=fun j m a=>by
  by_cases b:k=j
  ·subst b
   have:m=l':=by
    rw[List.getElem?_set_self (List.getElem?_eq_some_iff.1 d).1]at a;exact(Option.some.inj a).symm
   subst this;exact r
  ·rw[List.getElem?_set_ne b]at a
   exact h.at_ j m a
theorem xv(ls:List (List Sl)):(b1 ls).flatten=ls.flatten.map Sl.s:=by unfold b1;rw[List.map_flatten]
theorem jn(ls:List (List Sl))(id:Int):gq (b1 ls) id=(ls.flatten.find? (fun s=>s.id==id)).map Sl.s:=by
 unfold gq;rw[xv,List.find?_map];rfl
def zH(v:Value)(qb lb mb:Nat)(ls:List (List Sl))(b:List (List fQ))(w:World)(e:Ending)(w':World):Prop:=
 e=.returned v/\∃a,iE w' qb lb mb a/\b1 a=b/\Ch (QD qb lb mb ls) w w'/\(∀s∈a.flatten,(∃x∈ls.flatten,x.b=s.b)∨w.heap.size<=s.b)/\∀x∈ls.flatten,w'.cell? ⟨x.b,0,none⟩=some (.int .u64 x.id)
theorem iE.BF(h:iE w qb lb mb ls)(e:x∈ls.flatten):w.cell? (x.b,0)=some (.int .u64 x.id):=by
 obtain⟨k,pre,post,c⟩:=il e;obtain⟨a,b,d⟩:=(h.chain k _ c).mem x (by simp);exact d.cell (i:=0) rfl
theorem kS(h:((X++s::Y).map Sl.id).Nodup)(j:Int):(X++Y).find? (fun x=>x.id==j)=if j=s.id then none else(X++s::Y).find? (fun x=>x.id==j):=by
 rw[List.map_append,List.map_cons,List.nodup_append,List.nodup_cons]at h;obtain⟨_,⟨b,_⟩,c⟩:=h;split
 ·rename_i e
  subst e;rw[List.find?_eq_none];intro x a;rcases List.mem_append.1 a with a|a
  ·simpa using c _ (List.mem_map_of_mem a) _ List.mem_cons_self
  ·have:s.id≠x.id:=fun e=>b (e▸List.mem_map_of_mem a)
   simpa using this.symm
 ·rename_i e
  have:(s.id==j)=false:=by simpa using fun h=>e h.symm
  rw[List.find?_append,List.find?_append,List.find?_cons,this]
theorem qG{α:Type}{f:Sl->α}(h:((X++s::Y).map f).Nodup):((X++Y).map f).Nodup:=by
 refine List.Nodup.sublist ?_ h;exact List.Sublist.map _ (List.Sublist.append (List.Sublist.refl _) (List.sublist_cons_self _ _))
theorem nT{post:List Sl}(c:ls[k]?=some (pre++s::post)):∃X Y,ls.flatten=X++s::Y/\(ls.set k (pre++post)).flatten=X++Y:=by
 obtain⟨a,b⟩:=eu c;exact⟨(ls.take k).flatten++pre,post++(ls.drop (k+1)).flatten,by rw[a];simp,by rw[b];simp⟩
theorem r4{post:List Sl}(c:ls[k]?=some (pre++s::post))(q:(ls.flatten.map Sl.id).Nodup):b1 (ls.set k (pre++post))=(b1 ls).map fun l=>l.filter fun x=>x.id !=s.id:=by
 obtain⟨X,Y,i,n⟩:=nT c;have f:∀x∈(ls.set k (pre++post)).flatten,x.id≠s.id:=by
  intro x h e;rw[n]at h;have:=kS (i▸q) s.id;rw[if_pos rfl,List.find?_eq_none]at this;exact this x h (by simpa using e)
 apply List.ext_getElem?;intro j;unfold b1;rw[List.getElem?_map,List.getElem?_map,List.getElem?_map];by_cases d:k=j
 ·subst d
  rw[List.getElem?_set_self (List.getElem?_eq_some_iff.1 c).1,c];simp only[Option.map_some,List.map_append,List.map_cons,List.filter_append];have g:∀z∈pre++post,z.id≠s.id:=fun z a=>f z (bt (k:=k) (List.getElem?_set_self (List.getElem?_eq_some_iff.1 c).1) a)
  rw[List.filter_cons_of_neg (by simp[Sl.s]),List.filter_eq_self.2,List.filter_eq_self.2]
  ·intro z a
   obtain⟨y,b,rfl⟩:=List.mem_map.1 a;simpa[Sl.s]using g y (by simp[b])
  ·intro z a
   obtain⟨y,b,rfl⟩:=List.mem_map.1 a;simpa[Sl.s]using g y (by simp[b])
 ·rw[List.getElem?_set_ne d]
  cases o:ls[j]? with
  |none=>rfl
  |some m=>
   simp only[Option.map_some];rw[List.filter_eq_self.2];intro z a;obtain⟨y,b,rfl⟩:=List.mem_map.1 a;have p:(ls.set k (pre++post))[j]?=some m:=(by rw[List.getElem?_set_ne d];exact o);simpa[Sl.s]using f y (bt p b)
theorem pD(qb lb mb:Nat)(ls:List (List Sl))(id:Int)(w:World)(h:iE w qb lb mb ls):
 Calls prog 57 #[(qb,0),.int .u64 id] w (zH (.bool (dw (b1 ls) id).1) qb lb mb ls (dw (b1 ls) id).2 w):=by
 have b:=Z h;obtain⟨m,I,a5,J⟩:=h.map;have u:=Z I;have F:=Z a5;have al:=h.head.k 1 rfl;have o:=ft (P:=prog) (w:=w) (T:=200) (K:=22) (E:=226) (z:=.pointer none) underlying200 underlying22 (by kernel_rfl) I id;have O:=Z J;rw[J]at o;obtain⟨r,q⟩:=nm (ls.flatten.find? (fun s=>s.id==id));rw[q]at o;have t:=Z (jn ls id);rw[q]at t;cases r with
 |none=>
  have E:Hid (dw (b1 ls) id=(false,b1 ls)):=Z (by unfold dw;rw[t];rfl);simp only[Option.map_none,Option.getD_none]at o;go_wp2
  go_ret;rw[E];exact⟨rfl,ls,b,rfl,Ch.refl _ _,fun s C=>Or.inl ⟨s,C,rfl⟩,fun x a=>b.BF a⟩
 |some s=>
  have C:=List.mem_of_find?_eq_some q;have L:s.id=id:=by have:=List.find?_some q;simpa using this
  obtain⟨k,pre,post,f⟩:=il C;have hb:=b.at_ k _ f s (by simp);obtain⟨X,Y,W,a0⟩:=nT f;have gH:((pre++s::post).map Sl.b).Nodup:=by
   refine List.Nodup.sublist ?_ b.nd;rw[(eu f).1];exact List.Sublist.map _ ((List.sublist_append_right _ _).trans (List.sublist_append_left _ _))
  have S:=Z (fun w a9 a2 A=>nS qb lb k (.map (some mb)) ls pre post s w a9 a2 b.len f A hb gH);have E:Hid (dw (b1 ls) id=(true,b1 (ls.set k (pre++post)))):=Z (by
   unfold dw;rw[t,r4 f b.y',L];rfl)
  have c:=Z (And.intro f (And.intro W a0));have G:=Z L;have ad:=Z hb;have Q:=Z (gK gH);simp only[Option.map_some,Option.getD_some,bk]at o;go_in
  go_wp2_with fail
  refine(S _ b.head b.ends (b.chain k _ c.1)).mono ?_;rintro e w1 ⟨rfl,a1,A,n⟩;have U:∀i,(i=lb∨∃x∈pre++post,x.b=i)->QD qb lb mb ls i:=fun i d=>by
   rcases d with rfl|⟨x,a,rfl⟩
   ·exact Or.inr (Or.inl rfl)
   ·exact Or.inr (Or.inr (Or.inr ⟨x,bt c.1 (by simp at a⊢;rcases a with a|a<;>simp[a]),rfl⟩))
  have a4:¬(mb=lb∨∃x∈pre++post,x.b=mb):=by
   rintro(e|⟨x,a,e⟩)
   ·exact u.ne b.ends e
   ·exact(b.apart (bt c.1 (by simp at a⊢;rcases a with a|a<;>simp[a]))).2.2.1 e
  have ab:¬(qb=lb∨∃x∈pre++post,x.b=qb):=by
   rintro(e|⟨x,a,e⟩)
   ·exact b.head.ne b.ends (by decide) e
   ·exact(b.apart (bt c.1 (by simp at a⊢;rcases a with a|a<;>simp[a]))).1 e
  have a3:=u.ch n a4;have d1:=(b.head.ch n ab).cell (i:=1) rfl;obtain⟨w2,am,V,g⟩:=fv (P:=prog) (T:=200) (K:=22) (E:=226) (ty:=0) (kT:=22) underlying200 underlying22 a3 id;have v:Hid (iE w2 qb lb mb (ls.set k (pre++post))/\Ch (QD qb lb mb ls) w w2):=Z (by
   refine⟨b.re c.1 (D:=fun i=>(i=lb∨∃x∈pre++post,x.b=i)∨i=mb) ((n.mono fun i d=>Or.inl d).trans (g.mono fun i d=>Or.inr d)) ?_ (a1.ch g (fun e=>u.ne b.ends (show mb=lb from Eq.symm e))) (A.ch g ?_) ⟨_,V,(F.del id).1,?_⟩ ?_ ?_ ?_,(n.mono U).trans (g.mono fun i d=>Or.inr (Or.inr (Or.inl d)))⟩
   ·rintro i _ ((d|⟨x,a,d⟩)|d)
    ·exact Or.inl d
    ·exact Or.inr (Or.inr ⟨x,by simp at a⊢;rcases a with a|a<;>simp[a],d⟩)
    ·exact Or.inr (Or.inl d)
   ·intro x a e
    exact(b.apart (bt c.1 (by simp at a⊢;rcases a with a|a<;>simp[a]))).2.2.1 e
   ·intro j
    rw[c.2.2,kS (c.2.1▸b.y') j,<-c.2.1];by_cases B:j=id
    ·subst B
     rw[(F.del j).2,if_pos G.out.symm];rfl
    ·rw[gm _ _ _ B,O,if_neg (by rw[G.out];exact B)]
   ·rw[c.2.2];exact qG (c.2.1▸b.nd)
   ·rw[c.2.2];exact qG (c.2.1▸b.y')
   ·intro x a
    exact b.at_ k _ c.1 x (by simp at a⊢;rcases a with a|a<;>simp[a]))
  have R:Hid (w2.cell? ⟨s.b,0,none⟩=some (.int .u64 s.id)):=Z (by
   have M:s∈ls.flatten:=bt c.1 (by simp);have y:=b.apart M;have H:=(n.cell (p:=⟨s.b,0,none⟩) y.2.2.2 (by
    rintro(e|⟨x,a,e⟩)
    ·exact y.2.1 e
    ·exact Q x (by simpa using a) e)).trans (b.BF M)
   exact(g.cell (p:=⟨s.b,0,none⟩) (aQ H) (fun e=>y.2.2.1 e)).trans H)
  go_wp2
  go_ret;rw[E];refine⟨rfl,_,v.1,rfl,v.2,fun x a=>Or.inl ⟨x,?_,rfl⟩,fun x a=> ?_⟩
  ·rw[c.2.2]at a
   rw[c.2.1];simp at a⊢;rcases a with a|a<;>simp[a]
  ·rw[c.2.1]at a
   by_cases N:x=s
   ·rw[N];exact R
   ·refine v.1.BF ?_
    rw[c.2.2];simp at a⊢;rcases a with a|a|a
    ·exact Or.inl a
    ·exact absurd a N
    ·exact Or.inr a
end
def kU(s:Option fQ)(w:World)(e:Ending)(w':World):Prop:=
 (match s with
  |some s=>e=.returned (.tuple #[.int .u64 s.ad,.int .u64 s.mask,.int .i64 (bg s.ad (8:Nat)),.bool true])
  |none=>e=.returned (.tuple #[.int .u64 0,.int .u64 0,.int .i64 0,.bool false]))/\∃n,w'=w.drewN n
theorem ui(qb lb mb:Nat)(ls:List (List Sl))(id:Int)(w:World)(h:iE w qb lb mb ls):
 Calls prog 66 #[(qb,0),.int .u64 id] w (kU (gq (b1 ls) id) w):=by
 have f:=Z h;obtain⟨m,j,t,l⟩:=h.map;have q:=h.head.k 1 rfl;have p:=h.head.c1;have c:=ft (P:=prog) (w:=w) (T:=200) (K:=22) (E:=226) (z:=.pointer none) underlying200 underlying22 (by kernel_rfl) j id;rw[l]at c;obtain⟨r,e⟩:=nm (ls.flatten.find? (fun s=>s.id==id));rw[e]at c;have d:=Z (jn ls id);rw[e]at d;cases r with
 |none=>
  simp only[Option.map_none,Option.getD_none]at c;go_wp2
  refine bodyPost_ret (du rfl _ _ _) rfl ?_;rw[d];exact⟨rfl,0,rfl⟩
 |some s=>
  have o:=List.mem_of_find?_eq_some e;obtain⟨k,pre,post,i⟩:=il o;obtain⟨a,b,n⟩:=(f.chain k _ i).mem s (by simp);obtain⟨u,v,x⟩:=n.c3;have g:=Z (fun w h=>dM qb lb (.map (some mb)) s.ad 8 8 (by omega) (by omega) w h);simp only[Option.map_some,Option.getD_some,bk]at c;go_wp2
  go_quiet ((go_at_call 109;exact Calls.quiet_of_same (b5 (g _ f.head))))
  go_wp2
  refine bodyPost_ret (du rfl _ _ _) rfl ?_;rw[d];exact⟨rfl,nq,rfl⟩
def dS(a mask:Int)(each:Bool)(s:Sl):Bool:=s.ad==a&&(each||rD s.mask mask)
def r7(r:Option Sl):Value:=.pointer (r.map fun s=>⟨s.b,0,none⟩)
def zI(r:Option Sl)(w:World)(e:Ending)(w':World):Prop:=e=.returned (r7 r)/\∃n,w'=w.drewN n
theorem lQ(qb lb mb:Nat)(ls:List (List Sl))(l:List Sl)(k:Nat)(b mask:Int)(each:Bool)(x:ls[k]?=some l)(hb:bg b (8:Nat)=k)(w:World)(h:iE w qb lb mb ls):
 Calls prog 217 #[(qb,0),.int .u64 b,.int .u64 mask,.bool each] w (zI (l.find? (dS b mask each)) w):=by
 have C:=Z h;have J:=h.head.c1;have z:=Z (fun w h=>dM qb lb (.map (some mb)) b 8 8 (by omega) (by omega) w h);rw[hb]at z;have B:w.cell? (lb,k*2)=some (ptrTo (l.head?.map Sl.b)):=h.ends.at (enc:=bV) er x (j:=0) (by omega) rfl;have K:k<8:=by rw[<-h.len];exact(List.getElem?_eq_some_iff.1 x).1
 have L:(k:Int)<8:=by omega
 have F:ptrTo (l.head?.map Sl.b)=r7 l.head?:=by cases l<;>rfl
 rw[F]at B;have D:=Z (h.chain k l x);unfold r7 at B;have I:Hid (∀mask w,Calls prog 226 #[.int .u64 mask,.int .u64 0] w (ez (.bool (rD mask 0)) w)):=Z fun m w=>rE m 0 w
 cases each
 all_goals
  go_wp2
  go_quiet ((go_at_call 109;exact Calls.quiet_of_same (b5 (z _ C.head))))
  obtain⟨w0,y⟩:=nm (w.drewN nq);have o:=Z y;have A:Hid (bN w0 none none l):=Z (by rw[<-y];exact D.ch ((Ch.refl ag w).drewN nq) (fun _ _ h=>h));rw[y];go_wp2_with fail
 ·go_loopg [9] (l.length+1) (fun gk u wr=>∃(p:Option Addr) (pre r:List Sl),u=.pointer p/\w0=wr/\r.length<gk/\Hid (p=(r.head?.map fun s=>⟨s.b,0,none⟩)/\l=pre++r/\pre.find? (dS b mask false)=none))
  case atStart=>exact⟨_,[],l,rfl,rfl,Nat.lt_succ_self _,rfl,rfl,rfl⟩
  case round=>
   obtain⟨p,pre,r,rfl,rfl,t,a⟩:=hrel;cases r with
   |nil=>
    obtain rfl:p=none:=a.1;have E:Hid (l.find? (dS b mask false)=none):=Z (by rw[a.2.1,List.append_nil];exact a.2.2);go_wp2
    go_ret;rw[E];exact⟨rfl,nq,o.symm⟩
   |cons s r=>
    obtain rfl:p=some ⟨s.b,0,none⟩:=a.1;obtain⟨q,rfl⟩:∃g',gk=g'+1:=⟨gk-1,by omega⟩;have g:=A.out;rw[a.2.1]at g;have f:=(bN.mid.1 g).2.1;have G:=f.k 1 rfl;have M:=f.k 2 rfl;have H:w0.cell? ⟨s.b,4,none⟩=some (.pointer (r.head?.map fun s=>⟨s.b,0,none⟩)):=by
     rw[f.cell (i:=4) rfl];cases r<;>rfl
    have n:=Z (rE s.mask mask);cases d:s.ad==b
    ·have c:Hid (l=(pre++[s])++r/\(pre++[s]).find? (dS b mask false)=none):=Z ⟨by rw[a.2.1];simp,by rw[List.find?_append,a.2.2];simp[dS,d]⟩
     go_wp2_with fail
     go_wp2
     go_roundg q
     case measure=>omega
     case rel=>exact⟨_,pre++[s],r,rfl,rfl,by simp at t;omega,rfl,c.1,c.2⟩
    ·cases v:rD s.mask mask
     ·have c:Hid (l=(pre++[s])++r/\(pre++[s]).find? (dS b mask false)=none):=Z ⟨by rw[a.2.1];simp,by rw[List.find?_append,a.2.2];simp[dS,d,v]⟩
      rw[v]at n;go_wp2_with (go_at_call 226;refine(n _).mono ?_;rintro e w' ⟨rfl,rfl⟩)
      go_roundg q
      case measure=>omega
      case rel=>exact⟨_,pre++[s],r,rfl,rfl,by simp at t;omega,rfl,c.1,c.2⟩
     ·have E:Hid (l.find? (dS b mask false)=some s):=Z (by rw[a.2.1,List.find?_append,a.2.2];simp[dS,d,v])
      rw[v]at n;go_wp2_with (go_at_call 226;refine(n _).mono ?_;rintro e w' ⟨rfl,rfl⟩)
      go_ret;rw[E];exact⟨rfl,nq,o.symm⟩
 ·go_loopg [9] (l.length+1) (fun gk u wr=>∃(p:Option Addr) (pre r:List Sl),u=.pointer p/\w0=wr/\r.length<gk/\Hid (p=(r.head?.map fun s=>⟨s.b,0,none⟩)/\l=pre++r/\pre.find? (dS b mask true)=none))
  case atStart=>exact⟨_,[],l,rfl,rfl,Nat.lt_succ_self _,rfl,rfl,rfl⟩
  case round=>
   obtain⟨p,pre,r,rfl,rfl,t,a⟩:=hrel;cases r with
   |nil=>
    obtain rfl:p=none:=a.1;have E:Hid (l.find? (dS b mask true)=none):=Z (by rw[a.2.1,List.append_nil];exact a.2.2);go_wp2
    go_ret;rw[E];exact⟨rfl,nq,o.symm⟩
   |cons s r=>
    obtain rfl:p=some ⟨s.b,0,none⟩:=a.1;obtain⟨q,rfl⟩:∃g',gk=g'+1:=⟨gk-1,by omega⟩;have g:=A.out;rw[a.2.1]at g;have f:=(bN.mid.1 g).2.1;have G:=f.k 1 rfl;have H:w0.cell? ⟨s.b,4,none⟩=some (.pointer (r.head?.map fun s=>⟨s.b,0,none⟩)):=by
     rw[f.cell (i:=4) rfl];cases r<;>rfl
    cases d:s.ad==b
    ·have c:Hid (l=(pre++[s])++r/\(pre++[s]).find? (dS b mask true)=none):=Z ⟨by rw[a.2.1];simp,by rw[List.find?_append,a.2.2];simp[dS,d]⟩
     go_wp2
     go_roundg q
     case measure=>omega
     case rel=>exact⟨_,pre++[s],r,rfl,rfl,by simp at t;omega,rfl,c.1,c.2⟩
    ·have E:Hid (l.find? (dS b mask true)=some s):=Z (by rw[a.2.1,List.find?_append,a.2.2];simp[dS,d])
     go_wp2
     go_ret;rw[E];exact⟨rfl,nq,o.symm⟩
variable{w:World}{lb mb qb:Nat}{ls:List (List Sl)}
theorem ki(a:Int):∃k:Nat,bg a (8:Nat)=k/\k<8/\(bg a 8).toNat=k:=by
 have h:=lD a 8 (by omega);have e:bg a ((8:Nat):Int)=bg a 8:=rfl;rw[e]at h⊢;exact⟨(bg a 8).toNat,by omega,by omega,rfl⟩
theorem lR(ls:List (List Sl))(l:List Sl)(k:Nat)(a mask:Int)(each:Bool)(b:ls[k]?=some l)(hb:(bg a 8).toNat=k):lN (b1 ls) a mask each=(l.find? (dS a mask each)).map Sl.s:=by
 unfold lN b1;rw[hb,List.getD_eq_getElem?_getD,List.getElem?_map,b];simp only[Option.map_some,Option.getD_some,List.find?_map];rfl
theorem iE.bucket(h:iE w qb lb mb ls)(a:Int):∃(k:Nat) (l:List Sl),ls[k]?=some l/\bg a (8:Nat)=k/\(bg a 8).toNat=k:=by
 obtain⟨k,b,c,d⟩:=ki a;exact⟨k,_,List.getElem?_eq_getElem (by rw[h.len];exact c),b,d⟩
theorem iE.drewN(h:iE w qb lb mb ls)(n:Nat):iE (w.drewN n) qb lb mb ls:=h.af ay
def zJ(b:Bool)(w:World)(e:Ending)(w':World):Prop:=e=.returned (.bool b)/\∃n,w'=w.drewN n
theorem zK(qb lb mb:Nat)(ls:List (List Sl))(a mask:Int)(w:World)(h:iE w qb lb mb ls):
 Calls prog 193 #[(qb,0),.int .u64 a,.int .u64 mask] w (zJ (xm (b1 ls) a mask) w):=by
 obtain⟨k,l,c,hb,f⟩:=h.bucket a;have b:=Z (lQ qb lb mb ls l k a mask false c hb w h);have E:=Z (lR ls l k a mask false c f);obtain⟨r,g⟩:=nm (l.find? (dS a mask false));rw[g]at b E;have d:Hid (xm (b1 ls) a mask=r.isSome):=Z (by unfold xm;rw[E];cases r<;>rfl);cases r
 all_goals
  go_in
  go_wp2_with (go_at_call 217;refine b.mono ?_;rintro e w' ⟨rfl,n,rfl⟩;simp only[r7,Option.map_none,Option.map_some])
  go_ret;rw[d];exact⟨rfl,n,rfl⟩
def r8(x:Int×Bool×List (List fQ))(qb lb mb:Nat)(ls:List (List Sl))(w:World)(e:Ending)(w':World):Prop:=zH (.tuple #[.int .u64 x.1,.bool x.2.1]) qb lb mb ls x.2.2 w e w'
theorem xw(qb lb mb:Nat)(ls:List (List Sl))(c mask:Int)(w:World)(h:iE w qb lb mb ls):
 Calls prog 190 #[(qb,0),.int .u64 c,.int .u64 mask] w (r8 (eJ (b1 ls) c mask) qb lb mb ls w):=by
 obtain⟨k,l,g,hb,D⟩:=h.bucket c;have o:=Z h;have p:=Z (lQ qb lb mb ls l k c mask false g hb w h);have E:=Z (lR ls l k c mask false g D);obtain⟨r,u⟩:=nm (l.find? (dS c mask false));rw[u]at p E;cases r with
 |none=>
  have m:Hid (eJ (b1 ls) c mask=(0,false,b1 ls)):=Z (by unfold eJ;rw[E];rfl);go_in
  go_wp2_with (go_at_call 217;refine p.mono ?_;rintro e w' ⟨rfl,n,rfl⟩;simp only[r7,Option.map_none,Option.map_some])
  go_ret2;rw[m];exact⟨rfl,ls,o.drewN n,rfl,ay,fun s j=>Or.inl ⟨s,j,rfl⟩,fun x q=>(o.drewN n).BF q⟩
 |some s=>
  have j:=List.mem_of_find?_eq_some u;have v:=bt g j;have J:gq (b1 ls) s.id=some s.s∨∃y,gq (b1 ls) s.id=some y:=by
   right;rw[jn];cases H:ls.flatten.find? (fun x=>x.id==s.id)with
   |none=>
    have:=List.find?_eq_none.1 H s v;simp at this
   |some y=>exact⟨_,rfl⟩
  have G:(dw (b1 ls) s.id).1=true:=by
   unfold dw;rcases J with h|⟨y,h⟩<;>rw[h]
  have m:Hid (eJ (b1 ls) c mask=(s.id,true,(dw (b1 ls) s.id).2)):=Z (by unfold eJ;rw[E];rfl);have A:Hid (∀w,iE w qb lb mb ls->Calls prog 57 #[(qb,0),.int .u64 s.id] w (zH (.bool true) qb lb mb ls (dw (b1 ls) s.id).2 w)):=Z (fun w h=>G▸pD qb lb mb ls s.id w h);obtain⟨a,b,L⟩:=(h.chain k l g).mem s j;have B:=Z L;have C:=Z v;go_in
  go_wp2_with (go_at_call 217;refine p.mono ?_;rintro e w' ⟨rfl,n,rfl⟩;simp only[r7,Option.map_none,Option.map_some])
  obtain⟨w0,z⟩:=nm (w.drewN n);have f:Hid (Ch ag w w0):=Z (by rw[<-z];exact ay);rw[z];have O:=(B.ch f (fun h=>h)).cell (i:=0) rfl;go_region_held3 (fun w'=>w'.cell? ⟨s.b,0,none⟩=some (.int .u64 s.id)) (go_keep) ((go_at_call 57;refine(A w0.drew (o.af f.drew)).mono ?_;rintro e w2 ⟨rfl,N,K,M,F,I,t⟩;have d:=Z (And.intro K (And.intro M (And.intro F (And.intro I t))));have d0:=t s C))
  all_goals
   go_wp2
   go_ret2;rw[m];exact⟨rfl,N,d.1,d.2.1,(f.drew.af).trans d.2.2.1,fun x q=>(d.2.2.2.1 x q).imp id fun h=>Nat.le_trans f.size h,d.2.2.2.2⟩
theorem pE(t:TypeId)(x:Value)(w:World):Calls prog 76 #[.iface t x] w (fun e w'=>e=.returned (.iface 185 (.pointer (some (w.heap.size,0))))/\w.alloc (.cells #[.string ⟨#[119,97,105,116,113]⟩,.int .i64 0,.iface t x] 187)=w'):=by
 go_wp2
 go_ret;exact⟨rfl,rfl⟩
variable{w':World}{k:Nat}{mv:Value}{s:Sl}{D:Nat->Prop}{l:List Sl}
structure ja(w:World)(qb lb:Nat)(mv:Value)(ls:List (List Sl)):Prop where
 head:Row w qb 202 [.slice (some (lb,0)) (8:Nat) (8:Nat),mv]
 ends:Row w lb 247 (ls.flatMap bV)
 len:ls.length=8
 chain:∀(k:Nat) (l:List Sl),ls[k]?=some l->bN w none none l
 nd:(ls.flatten.map Sl.b).Nodup
theorem iE.core{mb:Nat}(h:iE w qb lb mb ls):ja w qb lb (.map (some mb)) ls:=⟨h.head,h.ends,h.len,h.chain,h.nd⟩
theorem ja.apart(h:ja w qb lb mv ls)(e:s∈ls.flatten):s.b≠qb/\s.b≠lb/\s.b<w.heap.size:=by
 obtain⟨k,pre,post,d⟩:=il e;obtain⟨a,b,c⟩:=(h.chain k _ d).mem s (by simp);exact⟨c.ne h.head (by decide),c.ne h.ends (by decide),c.lt⟩
theorem ja.ch(h:ja w qb lb mv ls)(c:Ch D w w')(b:¬D qb)(d:¬D lb)(e:∀s∈ls.flatten,¬D s.b):ja w' qb lb mv ls:=
 ⟨h.head.ch c b,h.ends.ch c d,h.len,fun k l a=>(h.chain k l a).ch c (fun s f=>e s (bt a f)),h.nd⟩
theorem ja.re(h:ja w qb lb mv ls){l':List Sl}(i:ls[k]?=some l)(c:Ch D w w')(n:¬D qb)(d:∀j m s,ls[j]?=some m->j≠k->s∈m->¬D s.b)
 (g:Row w' lb 247 ((ls.set k l').flatMap bV)) (f:bN w' none none l') (gH:((ls.set k l').flatten.map Sl.b).Nodup):ja w' qb lb mv (ls.set k l') where
 head:=h.head.ch c n
 ends:=g
 len:=by rw[List.length_set];exact h.len
 chain:=fun j m a=>by
  by_cases b:k=j
  ·subst b
   have:m=l':=by
    rw[List.getElem?_set_self (List.getElem?_eq_some_iff.1 i).1]at a;exact(Option.some.inj a).symm
   subst this;exact f
  ·rw[List.getElem?_set_ne b]at a
   exact(h.chain j m a).ch c (fun s o=>d j m s a (fun e=>b e.symm) o)
 nd:=gH
theorem pF(ls:List (List Sl))(k:Nat)(l:List Sl)(s:Sl)(b:ls[k]?=some l)(hb:(bg s.ad 8).toNat=k):b1 (ls.set k (l++[s]))=pB (b1 ls) s.s:=by
 unfold b1 pB;apply List.ext_getElem?;intro j;rw[show s.s.ad=s.ad from rfl,hb,List.getElem?_modify,List.getElem?_map,List.getElem?_map];by_cases a:k=j
 ·subst a
  rw[List.getElem?_set_self (List.getElem?_eq_some_iff.1 b).1,b];simp
 ·rw[List.getElem?_set_ne a]
  simp[a]
theorem zL{pre post:List Sl}(a:ls[k]?=some (pre++s::post))(c:(ls.flatten.map Sl.id).Nodup):dw (b1 ls) s.id=(true,b1 (ls.set k (pre++post))):=by
 have d:s∈ls.flatten:=bt a (by simp);unfold dw;rw[jn];cases b:ls.flatten.find? (fun x=>x.id==s.id)with
 |none=>have:=List.find?_eq_none.1 b s d;simp at this
 |some y=>simp only[Option.map_some];rw[r4 a c]
theorem r9{L:List Sl}(h:(L.map Sl.id).Nodup){i:Int}(c:s∈L)(b:s.id=i):L.find? (fun x=>x.id==i)=some s:=by
 obtain⟨X,Y,rfl⟩:=List.append_of_mem c;have a:=kS h s.id;rw[if_pos rfl,List.find?_eq_none]at a;rw[List.find?_append];have:X.find? (fun x=>x.id==i)=none:=List.find?_eq_none.2 fun x d=>by
  have:=a x (by simp[d]);rwa [b]at this
 rw[this];simp[b]
theorem vZ(c:ls[k]?=some l):∃X Y,ls.flatten=X++Y/\(ls.set k (l++[s])).flatten=X++s::Y:=by
 obtain⟨a,b⟩:=eu c;exact⟨(ls.take k).flatten++l,(ls.drop (k+1)).flatten,by rw[a],by rw[b];simp⟩
theorem pG{X Y:List Sl}{α:Type}{f:Sl->α}(h:((X++Y).map f).Nodup)(g:∀x∈X++Y,f x≠f s):((X++s::Y).map f).Nodup:=by
 rw[List.map_append,List.nodup_append]at h;rw[List.map_append,List.map_cons,List.nodup_append,List.nodup_cons];refine⟨h.1,⟨fun i=> ?_,h.2.1⟩,?_⟩
 ·obtain⟨y,c,e⟩:=List.mem_map.1 i
  exact g y (by simp[c]) e
 ·intro a d b hb
  rcases List.mem_cons.1 hb with rfl|hb
  ·obtain⟨y,c,rfl⟩:=List.mem_map.1 d
   exact g y (by simp[c])
  ·exact h.2.2 a d b hb
theorem xx(qb lb mb:Nat)(ls:List (List Sl))(B tt:Int)(w:World)(h:iE w qb lb mb ls):
 Calls prog 192 #[(qb,0),.int .u64 B,.int .u64 tt] w (r8 (ij (b1 ls) B tt) qb lb mb ls w):=by
 obtain⟨k,l,u,hb,cS⟩:=h.bucket B;have d:=Z h;have a2:=Z (lQ qb lb mb ls l k B 0 true u hb w h);have E:=Z (lR ls l k B 0 true u cS);obtain⟨r,a0⟩:=nm (l.find? (dS B 0 true));rw[a0]at a2 E;cases r with
 |none=>
  have a1:Hid (ij (b1 ls) B tt=(0,false,b1 ls)):=Z (by unfold ij;rw[E];rfl);go_in
  go_wp2_with (go_at_call 217;refine a2.mono ?_;rintro e w' ⟨rfl,n,rfl⟩;simp only[r7,Option.map_none,Option.map_some])
  go_ret2;rw[a1];exact⟨rfl,ls,d.drewN n,rfl,ay,fun s H=>Or.inl ⟨s,H,rfl⟩,fun x a=>(d.drewN n).BF a⟩
 |some s=>
  have H:=List.mem_of_find?_eq_some a0;obtain⟨pre,post,rfl⟩:=List.append_of_mem H;have g0:=bt u H;have c5:=h.at_ k _ u s H;obtain⟨X,Y,K,N⟩:=nT u;have gH:((pre++s::post).map Sl.b).Nodup:=by
   refine List.Nodup.sublist ?_ h.nd;rw[(eu u).1];exact List.Sublist.map _ ((List.sublist_append_right _ _).trans (List.sublist_append_left _ _))
  have fb:=gK gH;have c4:∀x∈X++Y,x.b≠s.b/\x.id≠s.id:=fun x a=>by
   have a4:=K▸h.nd;have c3:=kS (K▸h.y') s.id;rw[if_pos rfl,List.find?_eq_none]at c3;exact⟨gK a4 x (by simpa using a),by simpa using c3 x a⟩
  obtain⟨q,C⟩:=nm (ls.set k (pre++post));have c9:q.length=8:=by rw[<-C,List.length_set];exact h.len
  obtain⟨k2,c7,es,et⟩:=ki tt;obtain⟨t,R⟩:∃t,q[k2]?=some t:=⟨_,List.getElem?_eq_getElem (by rw[c9];exact es)⟩;obtain⟨o,p⟩:∃o:Sl,o={s with ad:=tt}:=⟨_,rfl⟩;have c8:∀x∈t,x∈X++Y:=fun x a=>by rw[<-N,C];exact bt R a
  have cd:(q.flatten.map Sl.b).Nodup:=by rw[<-C,N];exact qG (K▸h.nd)
  have eW:(q.flatten.map Sl.id).Nodup:=by rw[<-C,N];exact qG (K▸h.y')
  have eS:((t++[o]).map Sl.b).Nodup:=by
   have a4:(t.map Sl.b).Nodup:=by
    refine List.Nodup.sublist ?_ cd;rw[(eu R).1];exact List.Sublist.map _ ((List.sublist_append_right _ _).trans (List.sublist_append_left _ _))
   have:=pG (X:=t) (Y:=[]) (s:=o) (f:=Sl.b) (by simpa using a4) (fun x a=>by rw[p];exact(c4 x (c8 x (by simpa using a))).1);simpa using this
  have cC:=Z (fun w bv am O=>nS qb lb k (.map (some mb)) ls pre post s w bv am h.len u O c5 gH);have cq:=Z (fun w pv g1 bv am O a0=>r3 qb lb k2 (.map (some mb)) pv g1 q t o w bv am c9 R O (by rw[p];exact c7) a0 eS);have a1:Hid (ij (b1 ls) B tt=(s.id,true,b1 (q.set k2 (t++[o])))):=Z (by
   unfold ij;rw[E];simp only[Option.map_some];rw[show s.s.id=s.id from rfl,zL u h.y',C,pF q k2 t o R (by rw[p];exact et),p]
   rfl)
  obtain⟨pa,g2,fn⟩:=(h.chain k _ u).mem s H;have cQ:=h.apart g0;have g3:∀j,j≠k->q[j]?=ls[j]?:=fun j g=>by rw[<-C,List.getElem?_set_ne (fun e=>g e.symm)]
  have ex:∀x∈q.flatten,x∈X++Y:=fun x a=>by rw[<-N,C];exact a
  have b:=Z (And.intro u (And.intro K (And.intro N (And.intro c4 (And.intro cQ (And.intro C (And.intro R (And.intro p (And.intro c5 c7)))))))));have v:=Z (And.intro fb (And.intro cd (And.intro eW (And.intro c8 ex))));have cs:=Z fn;go_in
  go_wp2_with (go_at_call 217;refine a2.mono ?_;rintro e w' ⟨rfl,n,rfl⟩;simp only[r7,Option.map_none,Option.map_some])
  obtain⟨w0,ce⟩:=nm (w.drewN n);have V:Hid (Ch ag w w0):=Z (by rw[<-ce];exact ay);rw[ce];have T:=Z (d.af V);refine(cC _ T.head T.ends (T.chain k _ b.1)).mono ?_;rintro e w1 ⟨rfl,dC,O,ab⟩;have fd:∀x∈X++Y,x.b≠qb/\x.b≠lb/\x.b≠mb:=fun x a=>by
   have:=d.apart (s:=x) (by rw[b.2.1];simp at a⊢;rcases a with a|a<;>simp[a]);exact⟨this.1,this.2.1,this.2.2.1⟩
  have en:∀x,x∈pre++post->x∈X++Y:=fun x a=>by
   rw[<-b.2.2.1];exact bt (List.getElem?_set_self (List.getElem?_eq_some_iff.1 b.1).1) a
  have dr:ja w1 qb lb (.map (some mb)) q:=by
   rw[<-b.2.2.2.2.2.1];refine T.core.re b.1 ab ?_ ?_ dC O (by rw[b.2.2.2.2.2.1];exact v.2.1)
   ·rintro(e|⟨x,a,e⟩)
    ·exact d.head.ne d.ends (by decide) e
    ·exact(fd x (en x a)).1 e
   ·rintro j m x g z a (e|⟨y,c,e⟩)
    ·exact(d.apart (bt g a)).2.1 e
    ·exact kR d.nd b.1 g z (x:=y) (by simp at c⊢;rcases c with c|c<;>simp[c]) a e
  have fz:¬(s.b=lb∨∃x∈pre++post,x.b=s.b):=by
   rintro(e|⟨x,a,e⟩)
   ·exact b.2.2.2.2.1.2.1 e
   ·exact v.1 x (by simpa using a) e
  have bw:=(cs.ch V id).ch ab fz;have g4:=bw.k 1 rfl;have f1:=bw.free 1;have U:=Z (And.intro dr (And.intro bw ab));go_wp2_with fail
  have a9:Ch (aH s.b) w1 (w1.setCell ⟨s.b,1,none⟩ (.int .u64 tt)):=ay;have P:ja (w1.setCell ⟨s.b,1,none⟩ (.int .u64 tt)) qb lb (.map (some mb)) q:=U.1.ch a9 (fun e=>b.2.2.2.2.1.1 (show qb=s.b from e).symm) (fun e=>b.2.2.2.2.1.2.1 (show lb=s.b from e).symm) (fun x a e=>(b.2.2.2.1 x (v.2.2.2.2 x a)).1 e);have fr:=U.2.1.set 1 (.int .u64 tt);have p:=b.2.2.2.2.2.2.2.1;have cb:=cq (w1.setCell ⟨s.b,1,none⟩ (.int .u64 tt)) (ptrTo pa) (ptrTo g2) P.head P.ends (P.chain k2 _ b.2.2.2.2.2.2.1) (by rw[p];exact fr);rw[show o.b=s.b from by rw[p]]at cb;refine cb.mono ?_;rintro e S ⟨rfl,dN,cW,W⟩;rw[show o.b=s.b from by rw[p]]at W;have ap:∀x∈t,x∈X++Y:=v.2.2.2.1;obtain⟨c1,c2,L,F⟩:=vZ (s:=o) b.2.2.2.2.2.2.1;have M:∀x∈c1++c2,x∈X++Y:=fun x a=>v.2.2.2.2 x (by rw[L];exact a)
  have eV:((q.set k2 (t++[o])).flatten.map Sl.b).Nodup:=by
   rw[F];exact pG (L▸v.2.1) (fun x a=>by rw[p];exact(b.2.2.2.1 x (M x a)).1)
  have bi:((q.set k2 (t++[o])).flatten.map Sl.id).Nodup:=by
   rw[F];exact pG (L▸v.2.2.1) (fun x a=>by rw[p];exact(b.2.2.2.1 x (M x a)).2)
  have a5:∀x∈X++Y,x.b≠qb/\x.b≠lb/\x.b≠mb:=fun x a=>by
   have:=d.apart (s:=x) (by rw[b.2.1];simp at a⊢;rcases a with a|a<;>simp[a]);exact⟨this.1,this.2.1,this.2.2.1⟩
  have Q:ja S qb lb (.map (some mb)) (q.set k2 (t++[o])):=by
   refine P.re b.2.2.2.2.2.2.1 W ?_ ?_ dN cW eV
   ·rintro(e|e|⟨x,a,e⟩)
    ·exact d.head.ne d.ends (by decide) e
    ·exact b.2.2.2.2.1.1 e.symm
    ·exact(a5 x (ap x a)).1 e
   ·rintro j m x g z a (e|e|⟨y,c,e⟩)
    ·exact(P.apart (bt g a)).2.1 e
    ·exact(b.2.2.2.1 x (v.2.2.2.2 x (bt g a))).1 e
    ·exact kR v.2.1 b.2.2.2.2.2.2.1 g z (x:=y) c a e
  have cL:Ch (QD qb lb mb ls) w S:=by
   have ci:∀x∈X++Y,QD qb lb mb ls x.b:=(fun x a=>Or.inr (Or.inr (Or.inr ⟨x,by rw[b.2.1];simp at a⊢;rcases a with a|a<;>simp[a],rfl⟩)));have cl:QD qb lb mb ls s.b:=Or.inr (Or.inr (Or.inr ⟨s,by rw[b.2.1];simp,rfl⟩));refine((V.af.trans (U.2.2.mono ?_)).trans (a9.mono ?_)).trans (W.mono ?_)
   ·rintro i (rfl|⟨x,a,rfl⟩)
    ·exact Or.inr (Or.inl rfl)
    ·exact ci x (by rw[<-b.2.2.1];exact bt (List.getElem?_set_self (List.getElem?_eq_some_iff.1 b.1).1) a)
   ·rintro i rfl;exact cl
   ·rintro i (rfl|rfl|⟨x,a,rfl⟩)
    ·exact Or.inr (Or.inl rfl)
    ·exact cl
    ·exact ci x (ap x a)
  have eL:Ch (fun i=>i≠mb) w S:=by
   refine((V.af.trans (U.2.2.mono ?_)).trans (a9.mono ?_)).trans (W.mono ?_)
   ·rintro i (rfl|⟨x,a,rfl⟩)
    ·intro e;subst e;obtain⟨m,A,_⟩:=d.out.map;exact A.ne d.ends rfl
    ·exact(a5 x (by rw[<-b.2.2.1];exact bt (List.getElem?_set_self (List.getElem?_eq_some_iff.1 b.1).1) a)).2.2
   ·rintro i rfl;exact b.2.2.2.2.1.2.2.1
   ·rintro i (rfl|rfl|⟨x,a,rfl⟩)
    ·intro e;subst e;obtain⟨m,A,_⟩:=d.out.map;exact A.ne d.ends rfl
    ·exact b.2.2.2.2.1.2.2.1
    ·exact(a5 x (ap x a)).2.2
  have a3:Hid (iE S qb lb mb (q.set k2 (t++[o]))):=Z {
   head:=Q.head
   ends:=Q.ends
   len:=Q.len
   chain:=Q.chain
   nd:=Q.nd
   y':=bi
   map:=by
    obtain⟨m,A,eA,eC⟩:=d.out.map;refine⟨m,A.ch eL (fun h=>h rfl),eA,fun i=> ?_⟩;rw[eC];cases al:ls.flatten.find? (fun x=>x.id==i)with
    |none=>
     cases c6:(q.set k2 (t++[o])).flatten.find? (fun x=>x.id==i)with
     |none=>rfl
     |some y=>
      exfalso;have c:=List.mem_of_find?_eq_some c6;have G:y.id=i:=(by simpa using List.find?_some c6);rw[F]at c;have av:=List.find?_eq_none.1 al;rcases List.mem_append.1 c with c|c
      ·have:=M y (by simp[c])
       exact av y (by rw[b.2.1];simp at this⊢;rcases this with a|a<;>simp[a]) (by simpa using G)
      ·rcases List.mem_cons.1 c with rfl|c
       ·exact av s (by rw[b.2.1];simp) (by rw[p]at G;simpa using G)
       ·have:=M y (by simp[c])
        exact av y (by rw[b.2.1];simp at this⊢;rcases this with a|a<;>simp[a]) (by simpa using G)
    |some y=>
     have c:=List.mem_of_find?_eq_some al;have G:y.id=i:=(by simpa using List.find?_some al);by_cases c0:y=s
     ·rw[r9 bi (s:=o) (by rw[F];simp) (by rw[p,<-G,c0]),c0,p];rfl
     ·have bx:y∈X++Y:=by
       rw[b.2.1]at c;simp at c⊢;rcases c with c|c|c
       ·exact Or.inl c
       ·exact absurd c c0
       ·exact Or.inr c
      have I:y∈c1++c2:=(by rw[<-L,<-b.2.2.2.2.2.1,b.2.2.1];exact bx);rw[r9 bi (s:=y) (by rw[F];simp at I⊢;rcases I with a|a<;>simp[a]) G]
   at_:=fun j m g x a=>by
    have hold:∀(j:Nat) (m:List Sl),q[j]?=some m->∀x∈m,bg x.ad (8:Nat)=j:=fun j m g x a=>by
     by_cases z:k=j
     ·subst z
      rw[<-b.2.2.2.2.2.1,List.getElem?_set_self (List.getElem?_eq_some_iff.1 b.1).1]at g;have A:=Option.some.inj g;rw[<-A]at a;exact d.at_ k _ b.1 x (by simp at a⊢;rcases a with a|a<;>simp[a])
     ·rw[<-b.2.2.2.2.2.1,List.getElem?_set_ne z]at g
      exact d.at_ j m g x a
    by_cases z:k2=j
    ·subst z
     rw[List.getElem?_set_self (List.getElem?_eq_some_iff.1 b.2.2.2.2.2.2.1).1]at g;have A:=Option.some.inj g;rw[<-A]at a;rcases List.mem_append.1 a with a|a
     ·exact hold k2 _ b.2.2.2.2.2.2.1 x a
     ·have:x=o:=by simpa using a
      rw[this,p];exact b.2.2.2.2.2.2.2.2.2
    ·rw[List.getElem?_set_ne z]at g
     exact hold j m g x a}
  have cm:=Z cL;have J:=Z (And.intro F (And.intro M L));have ej:S.cell? ⟨s.b,0,none⟩=some (.int .u64 s.id):=by
   have:=a3.BF (x:=o) (by rw[F];simp);rw[p]at this;exact this
  have cA:=Z p;go_wp2
  go_ret2;rw[a1];refine⟨rfl,_,a3,rfl,cm,fun x a=>Or.inl ?_,fun x a=> ?_⟩
  ·rw[J.1]at a
   rcases List.mem_append.1 a with a|a
   ·have:=J.2.1 x (by simp[a])
    exact⟨x,by rw[b.2.1];simp at this⊢;rcases this with a|a<;>simp[a],rfl⟩
   ·rcases List.mem_cons.1 a with rfl|a
    ·exact⟨s,by rw[b.2.1];simp,by rw[cA]⟩
    ·have:=J.2.1 x (by simp[a])
     exact⟨x,by rw[b.2.1];simp at this⊢;rcases this with a|a<;>simp[a],rfl⟩
  ·by_cases ch:x=s
   ·rw[ch];exact ej
   ·refine a3.BF (x:=x) ?_
    have bx:x∈X++Y:=by
     rw[b.2.1]at a;simp at a⊢;rcases a with c|c|c
     ·exact Or.inl c
     ·exact absurd c ch
     ·exact Or.inr c
    have I:=bx;rw[<-b.2.2.1,b.2.2.2.2.2.1,J.2.2]at I;rw[J.1];simp at I⊢;rcases I with a|a<;>simp[a]
section
variable{b g i n:Nat}{v:Value}{q:List Int}{ls:List (List Sl)}{id:Int}{K:KS}
inductive a' where
 |no|gL|mem|al|b2|ring|q|cZ|obj|tm|wk|out|code|back
 |th (id:Int)|tl (id:Int)|fr (id:Int) (k:Nat)
 deriving DecidableEq
structure cU where
 mb:Nat
 m:Nat
 c:Nat
 d:Nat
 ab:Nat
 cb:Nat
 ch:Nat
 cm:Nat
 cq:Nat
 rb:Nat
 rg:Nat
 qb:Nat
 ql:Nat
 qm:Nat
 tb:Nat
 tg:Nat
 ob:Nat
 og:Nat
 tm:Nat
 wb:Nat
 lc:Option Addr
 Dt:Nat
 ll:Option Addr
 GB:Nat
 pc:Option Addr
 Cm:Nat
structure Var where
 av:Value
 hv:Value
 ov:Value
 ls:List (List Sl)
 bI:Int->Nat
 lv:Int->Value
 fb:Int->Nat->Nat
 bv:Int->Nat->Value
 wv:Nat->Value
def kV(C:KC)(L:cU):List Value:=[.slice L.lc C.dH.length L.Dt,.int .i64 C.loop,.slice L.ll C.calls.length L.GB,.slice L.pc C.bs.length L.Cm,.int .i64 C.entry,.int .i64 C.wide,.int .i64 C.narrow]
def hx(L:cU)(ov:Value)(nw:Nat)(en at_ w draw:Int):List Value:=
 [bk L.m,bk L.ab,bk L.cb,bk L.rb,bk L.qb,bk L.tb,bk L.ob,.map (some L.tm),.slice (some (L.wb,0)) nw nw,en,at_,w,.int .u64 draw,ov]
def cG(L:cU)(ov:Value)(C:KC)(nw:Nat)(en at_ w draw:Int):List Value:=kV C L++(C.rows.map (Value.int .i64)++hx L ov nw en at_ w draw)
def aC.cells(x:aC)(v:Value):List Value:=[.int .u64 x.slot,.int .u64 x.hand,.bool x.parked,.int .i64 x.left]++x.f.cells v
theorem aC.len(x:aC×Value):(x.1.cells x.2).length=38:=by simp[aC.cells,cP.db]
def Frame.post(f:Frame):List Value:=[.bool f.cg,.int .i64 f.num]
structure nU(w:World)(χ:Nat->a')(L:cU)(ov:Value)(C:KC)(nw:Nat)(en at_ wn draw:Int):Prop where
 row:Row w L.mb 74 (cG L ov C nw en at_ wn draw)
 rows:C.rows.length=1000
 k:χ L.mb=.gL
structure xy(w:World)(χ:Nat->a')(L:cU)(S:aI):Prop where
 is:aO w L.m L.c L.d S
 k1:χ L.m=.mem
 k2:χ L.c=.mem
 k3:χ L.d=.mem
structure FB(w:World)(χ:Nat->a')(L:cU)(v:Value)(S:a8):Prop where
 is:aT w L.ab L.m v S
 k1:χ L.ab=.al
 k2:∀g,v.ownBlock=some g->χ g=.al
structure zM(w:World)(χ:Nat->a')(L:cU)(v:Value)(S:aN):Prop where
 is:aX w L.cb L.ch L.cm L.cq v S
 k1:χ L.cb=.b2
 k2:χ L.ch=.b2
 k3:χ L.cm=.b2
 k4:χ L.cq=.b2
 k5:∀g,v.ownBlock=some g->χ g=.b2
structure nV(w:World)(χ:Nat->a')(L:cU)(q:List Int):Prop where
 is:eP w L.rb L.rg q
 k1:χ L.rb=.ring
 k2:χ L.rg=.ring
structure QC(w:World)(χ:Nat->a')(L:cU)(ls:List (List Sl))(q:List (List fQ)):Prop where
 is:iE w L.qb L.ql L.qm ls
 b1:b1 ls=q
 k:∀i,QD L.qb L.ql L.qm ls i->χ i=.q
structure zN(w:World)(χ:Nat->a')(L:cU)(l:List aF):Prop where
 is:aW w L.tb L.tg l
 k1:χ L.tb=.cZ
 k2:χ L.tg=.cZ
structure zO(w:World)(χ:Nat->a')(L:cU)(l:List bq):Prop where
 is:bP w L.ob L.og l
 k1:χ L.ob=.obj
 k2:χ L.og=.obj
structure Cn(w:World)(χ:Nat->a')(L:cU)(bI:Int->Nat)(ai:List (Int×Thread)):Prop where
 is:bS w L.tm .u64 bk (ai.map fun x=>(x.1,bI x.1))
 k:χ L.tm=.tm
 nd:gn ai
structure zP(w:World)(χ:Nat->a')(b:Nat)(v:Value)(id:Int)(t:Thread):Prop where
 is:Row w b 164 [.int .u64 t.id,v,.int .u64 t.eY]
 k:χ b=.th id
structure BG(w:World)(χ:Nat->a')(v:Value)(fb:Nat->Nat)(id:Int)(n:Nat):Prop where
 is:w.ownsRow 0 167 1 v n ((List.range n).map fun k=>bk (fb k))
 k:∀g,v.ownBlock=some g->χ g=.tl id
structure BH(w:World)(χ:Nat->a')(b:Nat)(v:Value)(id:Int)(k:Nat)(f:Frame):Prop where
 is:aJ w b 0 169 [] f.post v f.f
 kf:χ b=.fr id k
 kb:∀g,v.ownBlock=some g->χ g=.back
def dj(l:List aC)(wv:Nat->Value):List (aC×Value):=l.zipIdx.map fun x=>(x.1,wv x.2)
structure FD(w:World)(χ:Nat->a')(L:cU)(wv:Nat->Value)(l:List aC):Prop where
 is:Row w L.wb 95 ((dj l wv).flatMap fun x=>x.1.cells x.2)
 k:χ L.wb=.wk
 back:∀i x,l[i]?=some x->cv w (wv i) x.f.back
 kb:∀(i:Nat) (x:aC),l[i]?=some x->∀g,(wv i).ownBlock=some g->χ g=.back
 n:l.length<=64
structure zQ(w:World)(χ:Nat->a')(v:Value)(l:List Ev):Prop where
 is:w.ownsRow 0 159 11 v l.length (l.flatMap Ev.cells)
 k:∀g,v.ownBlock=some g->χ g=.out
structure v7(w:World)(χ:Nat->a')(L:cU)(C:KC):Prop where
 m4:C.dH.length<=L.Dt
 jo:C.calls.length<=L.GB
 m5:C.bs.length<=L.Cm
 cg:C.dH≠[]->∃g,L.lc=some ⟨g,0,none⟩/\fN w g C.dH/\χ g=.code
 prog:C.bs≠[]->∃g,L.pc=some ⟨g,0,none⟩/\fN w g C.bs/\χ g=.code
 calls:C.calls≠[]->∃g junk,L.ll=some ⟨g,0,none⟩/\Row w g 121 (C.calls.flatMap bB.cells++junk)/\χ g=.code
structure MB(X:List a')(w:World)(χ:Nat->a')(L:cU)(Y:Var)(C:KC)(K:KS):Prop where
 head:.gL∉X->nU w χ L Y.ov C K.wk.length K.entries K.at_ K.w K.draw
 mem:.mem∉X->xy w χ L K.mem
 al:.al∉X->FB w χ L Y.av K.blocks
 b2:.b2∉X->zM w χ L Y.hv K.clock
 ring:.ring∉X->nV w χ L K.ring
 q:.q∉X->QC w χ L Y.ls K.q
 cZ:.cZ∉X->zN w χ L K.table
 obj:.obj∉X->zO w χ L K.cT
 tm:.tm∉X->Cn w χ L Y.bI K.ai
 th:∀id t,aw K.ai id=some t-> .th id∉X->zP w χ (Y.bI id) (Y.lv id) id t
 tl:∀id t,aw K.ai id=some t-> .tl id∉X->BG w χ (Y.lv id) (Y.fb id) id t.l.length
 fr:∀id t k f,aw K.ai id=some t->t.l[k]?=some f-> .fr id k∉X->BH w χ (Y.fb id k) (Y.bv id k) id k f
 wk:.wk∉X->FD w χ L Y.wv K.wk
 out:.out∉X->zQ w χ Y.ov K.out
 code:.code∉X->v7 w χ L C
 small:∀i,χ i≠ .no->i<w.heap.size
def ae(w:World)(χ:Nat->a')(L:cU)(Y:Var)(C:KC)(K:KS):Prop:=MB [] w χ L Y C K
structure eT(X:List a')(χ aY:Nat->a')(D:Nat->Prop)(w w':World):Prop where
 c:Ch D w w'
 Ht:∀i,i<w.heap.size->D i->χ i∈X
 same:∀i,i<w.heap.size->aY i=χ i
 small:∀i,aY i≠ .no->i<w'.heap.size
section
variable{X:List a'}{w w':World}{χ aY:Nat->a'}{D:Nat->Prop}{L:cU}{Y:Var}{C:KC}
theorem eT.nd(s:eT X χ aY D w w'){c:a'}(f:i<w.heap.size)(d:χ i=c)(a:c∉X):¬D i:=fun e=>a (d▸s.Ht i f e)
theorem nU.tr{ov:Value}{nw:Nat}{en at_ wn draw:Int}(h:nU w χ L ov C nw en at_ wn draw)(s:eT X χ aY D w w')(a:.gL∉X):nU w' aY L ov C nw en at_ wn draw:=
 ⟨h.row.ch s.c (s.nd h.row.lt h.k a),h.rows,(s.same _ h.row.lt).trans h.k⟩
theorem xy.tr{S:aI}(h:xy w χ L S)(s:eT X χ aY D w w')(a:.mem∉X):xy w' aY L S:=
 ⟨h.is.ch s.c (s.nd h.is.head.lt h.k1 a) (s.nd h.is.cells.lt h.k2 a) (s.nd h.is.width.lt h.k3 a),(s.same _ h.is.head.lt).trans h.k1,(s.same _ h.is.cells.lt).trans h.k2,(s.same _ h.is.width.lt).trans h.k3⟩
theorem cE{B:Nat}{e:TypeId}{z:Nat}{xs:List Value}(h:w.ownsRow B e z v n xs)(a:v.ownBlock=some g):g<w.heap.size:=by
 rcases h.2 with⟨rfl,_⟩|⟨g',cap,cur,rfl,_,c,_⟩
 ·cases a
 ·have:g'=g:=by simpa[Value.ownBlock]using a
  subst this;exact(Array.getElem?_eq_some_iff.1 c).1
theorem FB.tr{S:a8}(h:FB w χ L v S)(s:eT X χ aY D w w')(c:.al∉X):FB w' aY L v S:=
 ⟨h.is.ch s.c (s.nd h.is.head.lt h.k1 c) (fun g a=>s.nd (cE h.is.own a) (h.k2 g a) c),(s.same _ h.is.head.lt).trans h.k1,fun g a=>(s.same _ (cE h.is.own a)).trans (h.k2 g a)⟩
theorem zM.tr{S:aN}(h:zM w χ L v S)(s:eT X χ aY D w w')(a:.b2∉X):zM w' aY L v S:=
 ⟨h.is.ch s.c (s.nd h.is.head.lt h.k1 a) (s.nd h.is.heap.head.lt h.k2 a) (s.nd h.is.heap.map.lt h.k3 a) (s.nd h.is.fl.lt h.k4 a) (fun g c=>s.nd (cE h.is.heap.own c) (h.k5 g c) a),
  (s.same _ h.is.head.lt).trans h.k1,(s.same _ h.is.heap.head.lt).trans h.k2,(s.same _ h.is.heap.map.lt).trans h.k3,(s.same _ h.is.fl.lt).trans h.k4,fun g c=>(s.same _ (cE h.is.heap.own c)).trans (h.k5 g c)⟩
theorem eP.Co(h:eP w b g q):b<w.heap.size/\g<w.heap.size:=by
 obtain⟨cs,fr,a,_⟩:=h;exact⟨a.head.lt,a.rows.lt⟩
theorem nV.tr(h:nV w χ L q)(s:eT X χ aY D w w')(a:.ring∉X):nV w' aY L q:=
 ⟨h.is.ch s.c (s.nd h.is.Co.1 h.k1 a) (s.nd h.is.Co.2 h.k2 a),(s.same _ h.is.Co.1).trans h.k1,(s.same _ h.is.Co.2).trans h.k2⟩
theorem iE.Co{qb lb mb:Nat}(h:iE w qb lb mb ls)(a:QD qb lb mb ls i):i<w.heap.size:=by
 rcases a with rfl|rfl|rfl|⟨x,d,rfl⟩
 ·exact h.head.lt
 ·exact h.ends.lt
 ·obtain⟨m,c,_⟩:=h.map;exact c.lt
 ·exact(h.apart d).2.2.2
theorem QC.tr{q:List (List fQ)}(h:QC w χ L ls q)(s:eT X χ aY D w w')(c:.q∉X):QC w' aY L ls q:=
 ⟨h.is.ch s.c (fun i a=>s.nd (h.is.Co a) (h.k i a) c),h.b1,fun i a=>(s.same _ (h.is.Co a)).trans (h.k i a)⟩
theorem zN.tr{l:List aF}(h:zN w χ L l)(s:eT X χ aY D w w')(a:.cZ∉X):zN w' aY L l:=
 ⟨h.is.ch s.c (s.nd h.is.head.lt h.k1 a) (s.nd h.is.rows.lt h.k2 a),(s.same _ h.is.head.lt).trans h.k1,(s.same _ h.is.rows.lt).trans h.k2⟩
theorem zO.tr{l:List bq}(h:zO w χ L l)(s:eT X χ aY D w w')(a:.obj∉X):zO w' aY L l:=
 ⟨h.is.ch s.c (s.nd h.is.head.lt h.k1 a) (s.nd h.is.rows.lt h.k2 a),(s.same _ h.is.head.lt).trans h.k1,(s.same _ h.is.rows.lt).trans h.k2⟩
theorem Cn.tr{a:Int->Nat}{ai:List (Int×Thread)}(h:Cn w χ L a ai)(s:eT X χ aY D w w')(c:.tm∉X):Cn w' aY L a ai:=
 ⟨h.is.ch s.c (s.nd h.is.lt h.k c),(s.same _ h.is.lt).trans h.k,h.nd⟩
theorem zP.tr{t:Thread}(h:zP w χ b v id t)(s:eT X χ aY D w w')(a:.th id∉X):zP w' aY b v id t:=
 ⟨h.is.ch s.c (s.nd h.is.lt h.k a),(s.same _ h.is.lt).trans h.k⟩
theorem BG.tr{fb:Nat->Nat}(h:BG w χ v fb id n)(s:eT X χ aY D w w')(c:.tl id∉X):BG w' aY v fb id n:=
 ⟨ak h.is s.c (fun g a=>s.nd (cE h.is a) (h.k g a) c),fun g a=>(s.same _ (cE h.is a)).trans (h.k g a)⟩
theorem BH.tr{k:Nat}{f:Frame}(h:BH w χ b v id k f)(s:eT X χ aY D w w')(c:.fr id k∉X)(hb:.back∉X):BH w' aY b v id k f:=
 ⟨h.is.ch s.c (s.nd h.is.row.lt h.kf c) (fun g a=>s.nd (cE h.is.back a) (h.kb g a) hb),(s.same _ h.is.row.lt).trans h.kf,fun g a=>(s.same _ (cE h.is.back a)).trans (h.kb g a)⟩
theorem FD.tr{wv:Nat->Value}{l:List aC}(h:FD w χ L wv l)(s:eT X χ aY D w w')(d:.wk∉X)(hb:.back∉X):FD w' aY L wv l:=
 ⟨h.is.ch s.c (s.nd h.is.lt h.k d),(s.same _ h.is.lt).trans h.k,fun i x a=>(h.back i x a).ch s.c (fun g c=>s.nd (cE (h.back i x a) c) (h.kb i x a g c) hb),fun i x a g c=>(s.same _ (cE (h.back i x a) c)).trans (h.kb i x a g c),h.n⟩
theorem zQ.tr{l:List Ev}(h:zQ w χ v l)(s:eT X χ aY D w w')(c:.out∉X):zQ w' aY v l:=
 ⟨ak h.is s.c (fun g a=>s.nd (cE h.is a) (h.k g a) c),fun g a=>(s.same _ (cE h.is a)).trans (h.k g a)⟩
theorem v7.tr(h:v7 w χ L C)(s:eT X χ aY D w w')(f:.code∉X):v7 w' aY L C where
 m4:=h.m4
 jo:=h.jo
 m5:=h.m5
 cg:=fun e=>by
  obtain⟨g,d,a,c⟩:=h.cg e;exact⟨g,d,a.ch s.c (s.nd a.lt c f),(s.same _ a.lt).trans c⟩
 prog:=fun e=>by
  obtain⟨g,d,a,c⟩:=h.prog e;exact⟨g,d,a.ch s.c (s.nd a.lt c f),(s.same _ a.lt).trans c⟩
 calls:=fun e=>by
  obtain⟨g,j,d,a,c⟩:=h.calls e;exact⟨g,j,d,a.ch s.c (s.nd a.lt c f),(s.same _ a.lt).trans c⟩
theorem ni{a:a'}{X Z:List a'}(h:a∉X++Z):a∉X/\a∉Z:=by simpa using h
theorem MB.step{Z:List a'}(h:MB Z w χ L Y C K)(s:eT X χ aY D w w')(hb:.back∉X):MB (X++Z) w' aY L Y C K where
 head:=fun a=>(h.head (ni a).2).tr s (ni a).1
 mem:=fun a=>(h.mem (ni a).2).tr s (ni a).1
 al:=fun a=>(h.al (ni a).2).tr s (ni a).1
 b2:=fun a=>(h.b2 (ni a).2).tr s (ni a).1
 ring:=fun a=>(h.ring (ni a).2).tr s (ni a).1
 q:=fun a=>(h.q (ni a).2).tr s (ni a).1
 cZ:=fun a=>(h.cZ (ni a).2).tr s (ni a).1
 obj:=fun a=>(h.obj (ni a).2).tr s (ni a).1
 tm:=fun a=>(h.tm (ni a).2).tr s (ni a).1
 th:=fun id t c a=>(h.th id t c (ni a).2).tr s (ni a).1
 tl:=fun id t c a=>(h.tl id t c (ni a).2).tr s (ni a).1
 fr:=fun id t k f c d a=>(h.fr id t k f c d (ni a).2).tr s (ni a).1 hb
 wk:=fun a=>(h.wk (ni a).2).tr s (ni a).1 hb
 out:=fun a=>(h.out (ni a).2).tr s (ni a).1
 code:=fun a=>(h.code (ni a).2).tr s (ni a).1
 small:=s.small
theorem ae.step(h:ae w χ L Y C K)(s:eT X χ aY D w w')(hb:.back∉X):MB X w' aY L Y C K:=by
 have:=MB.step h s hb
 rwa [List.append_nil]at this
end
theorem eT.af{w w':World}{χ:Nat->a'}(c:Ch ag w w')(d:∀i,χ i≠ .no->i<w.heap.size):eT [] χ χ ag w w':=
 ⟨c,fun _ _ h=>h.elim,fun _ _=>rfl,fun i a=>Nat.lt_of_lt_of_le (d i a) c.size⟩
theorem ae.af{w w':World}{χ:Nat->a'}{L:cU}{Y:Var}{C:KC}(h:ae w χ L Y C K)(c:Ch ag w w'):ae w' χ L Y C K:=h.step (eT.af c h.small) (by simp)
theorem ae.drew{w:World}{χ:Nat->a'}{L:cU}{Y:Var}{C:KC}(h:ae w χ L Y C K):ae w.drew χ L Y C K:=h.af ay
theorem ae.drewN{w:World}{χ:Nat->a'}{L:cU}{Y:Var}{C:KC}(h:ae w χ L Y C K)(n:Nat):ae (w.drewN n) χ L Y C K:=h.af ay
theorem ae.alloc{w:World}{χ:Nat->a'}{L:cU}{Y:Var}{C:KC}(h:ae w χ L Y C K)(o:Obj):ae (w.alloc o) χ L Y C K:=h.af ay
theorem eT.one{w w':World}{χ:Nat->a'}{D:Nat->Prop}{X:List a'}(c:Ch D w w')(a:∀i,D i->χ i∈X)(e:∀i,χ i≠ .no->i<w.heap.size):eT X χ χ D w w':=
 ⟨c,fun i _ h=>a i h,fun _ _=>rfl,fun i d=>Nat.lt_of_lt_of_le (e i d) c.size⟩
def cN(χ:Nat->a')(o:Option Nat)(c:a'):Nat->a':=fun i=>if o=some i then c else χ i
theorem eT.cN{w w':World}{χ:Nat->a'}{D:Nat->Prop}{X:List a'}{v':Value}{k:a'}(c:Ch D w w')(e:∀i,i<w.heap.size->D i->χ i∈X)(l:∀i,χ i≠ .no->i<w.heap.size)(f:aS w v v')(m:∀g,v.ownBlock=some g->χ g=k)(j:∀g,v'.ownBlock=some g->g<w'.heap.size):
 eT X χ (cN χ v'.ownBlock k) D w w':=by
 refine⟨c,e,fun i a=> ?_,fun i a=> ?_⟩
 ·unfold Go.Proofs.YtmfnplmcfkkdpaaGreatDoor.cN
  split
  ·rename_i h
   rcases f i h with d|d
   ·exact(m i d).symm
   ·omega
  ·rfl
 ·unfold Go.Proofs.YtmfnplmcfkkdpaaGreatDoor.cN at a
  split at a
  ·rename_i h;exact j i h
  ·exact Nat.lt_of_lt_of_le (l i a) c.size
theorem im{χ:Nat->a'}{k:a'}:∀g,v.ownBlock=some g->cN χ v.ownBlock k g=k:=fun g a=>by unfold cN;rw[if_pos a]
end
section
variable{w:World}{χ:Nat->a'}{L:cU}{Y:Var}{C:KC}{K:KS}{S:aI}{bv' v:Value}{id k:Int}{t:Thread}{f:Frame}{b:Nat}
theorem MB.GO(h:MB [.mem] w χ L Y C K)(d:xy w χ L S):ae w χ L Y C {K with mem:=S} where
 head:=fun _=>h.head (by simp)
 mem:=fun _=>d
 al:=fun _=>h.al (by simp)
 b2:=fun _=>h.b2 (by simp)
 ring:=fun _=>h.ring (by simp)
 q:=fun _=>h.q (by simp)
 cZ:=fun _=>h.cZ (by simp)
 obj:=fun _=>h.obj (by simp)
 tm:=fun _=>h.tm (by simp)
 th:=fun id t a _=>h.th id t a (by simp)
 tl:=fun id t a _=>h.tl id t a (by simp)
 fr:=fun id t k f a c _=>h.fr id t k f a c (by simp)
 wk:=fun _=>h.wk (by simp)
 out:=fun _=>h.out (by simp)
 code:=fun _=>h.code (by simp)
 small:=h.small
theorem MB.HD{A:a8}(h:MB [.al,.mem] w χ L Y C K)(c:FB w χ L v A)(e:xy w χ L S):ae w χ L {Y with av:=v} C {K with blocks:=A,mem:=S} where
 head:=fun _=>h.head (by simp)
 mem:=fun _=>e
 al:=fun _=>c
 b2:=fun _=>h.b2 (by simp)
 ring:=fun _=>h.ring (by simp)
 q:=fun _=>h.q (by simp)
 cZ:=fun _=>h.cZ (by simp)
 obj:=fun _=>h.obj (by simp)
 tm:=fun _=>h.tm (by simp)
 th:=fun id t a _=>h.th id t a (by simp)
 tl:=fun id t a _=>h.tl id t a (by simp)
 fr:=fun id t k f a d _=>h.fr id t k f a d (by simp)
 wk:=fun _=>h.wk (by simp)
 out:=fun _=>h.out (by simp)
 code:=fun _=>h.code (by simp)
 small:=h.small
theorem MB.GQ{S:aN}(h:MB [.b2] w χ L Y C K)(c:zM w χ L v S):ae w χ L {Y with hv:=v} C {K with clock:=S} where
 head:=fun _=>h.head (by simp)
 mem:=fun _=>h.mem (by simp)
 al:=fun _=>h.al (by simp)
 b2:=fun _=>c
 ring:=fun _=>h.ring (by simp)
 q:=fun _=>h.q (by simp)
 cZ:=fun _=>h.cZ (by simp)
 obj:=fun _=>h.obj (by simp)
 tm:=fun _=>h.tm (by simp)
 th:=fun id t a _=>h.th id t a (by simp)
 tl:=fun id t a _=>h.tl id t a (by simp)
 fr:=fun id t k f a d _=>h.fr id t k f a d (by simp)
 wk:=fun _=>h.wk (by simp)
 out:=fun _=>h.out (by simp)
 code:=fun _=>h.code (by simp)
 small:=h.small
theorem MB.FE{S:List Int}(h:MB [.ring] w χ L Y C K)(c:nV w χ L S):ae w χ L Y C {K with ring:=S} where
 head:=fun _=>h.head (by simp)
 mem:=fun _=>h.mem (by simp)
 al:=fun _=>h.al (by simp)
 b2:=fun _=>h.b2 (by simp)
 ring:=fun _=>c
 q:=fun _=>h.q (by simp)
 cZ:=fun _=>h.cZ (by simp)
 obj:=fun _=>h.obj (by simp)
 tm:=fun _=>h.tm (by simp)
 th:=fun id t a _=>h.th id t a (by simp)
 tl:=fun id t a _=>h.tl id t a (by simp)
 fr:=fun id t k f a d _=>h.fr id t k f a d (by simp)
 wk:=fun _=>h.wk (by simp)
 out:=fun _=>h.out (by simp)
 code:=fun _=>h.code (by simp)
 small:=h.small
theorem MB.cQ{ls:List (List Sl)}{S:List (List fQ)}(h:MB [.q] w χ L Y C K)(c:QC w χ L ls S):ae w χ L {Y with ls:=ls} C {K with q:=S} where
 head:=fun _=>h.head (by simp)
 mem:=fun _=>h.mem (by simp)
 al:=fun _=>h.al (by simp)
 b2:=fun _=>h.b2 (by simp)
 ring:=fun _=>h.ring (by simp)
 q:=fun _=>c
 cZ:=fun _=>h.cZ (by simp)
 obj:=fun _=>h.obj (by simp)
 tm:=fun _=>h.tm (by simp)
 th:=fun id t a _=>h.th id t a (by simp)
 tl:=fun id t a _=>h.tl id t a (by simp)
 fr:=fun id t k f a d _=>h.fr id t k f a d (by simp)
 wk:=fun _=>h.wk (by simp)
 out:=fun _=>h.out (by simp)
 code:=fun _=>h.code (by simp)
 small:=h.small
theorem MB.GR{S:List aF}(h:MB [.cZ] w χ L Y C K)(c:zN w χ L S):ae w χ L Y C {K with table:=S} where
 head:=fun _=>h.head (by simp)
 mem:=fun _=>h.mem (by simp)
 al:=fun _=>h.al (by simp)
 b2:=fun _=>h.b2 (by simp)
 ring:=fun _=>h.ring (by simp)
 q:=fun _=>h.q (by simp)
 cZ:=fun _=>c
 obj:=fun _=>h.obj (by simp)
 tm:=fun _=>h.tm (by simp)
 th:=fun id t a _=>h.th id t a (by simp)
 tl:=fun id t a _=>h.tl id t a (by simp)
 fr:=fun id t k f a d _=>h.fr id t k f a d (by simp)
 wk:=fun _=>h.wk (by simp)
 out:=fun _=>h.out (by simp)
 code:=fun _=>h.code (by simp)
 small:=h.small
theorem MB.GU{S:List bq}(h:MB [.obj] w χ L Y C K)(c:zO w χ L S):ae w χ L Y C {K with cT:=S} where
 head:=fun _=>h.head (by simp)
 mem:=fun _=>h.mem (by simp)
 al:=fun _=>h.al (by simp)
 b2:=fun _=>h.b2 (by simp)
 ring:=fun _=>h.ring (by simp)
 q:=fun _=>h.q (by simp)
 cZ:=fun _=>h.cZ (by simp)
 obj:=fun _=>c
 tm:=fun _=>h.tm (by simp)
 th:=fun id t a _=>h.th id t a (by simp)
 tl:=fun id t a _=>h.tl id t a (by simp)
 fr:=fun id t k f a d _=>h.fr id t k f a d (by simp)
 wk:=fun _=>h.wk (by simp)
 out:=fun _=>h.out (by simp)
 code:=fun _=>h.code (by simp)
 small:=h.small
theorem MB.FF{en at_ wn dr:Int}(h:MB [.gL] w χ L Y C K)(c:nU w χ L Y.ov C K.wk.length en at_ wn dr):ae w χ L Y C {K with entries:=en,at_:=at_,w:=wn,draw:=dr} where
 head:=fun _=>c
 mem:=fun _=>h.mem (by simp)
 al:=fun _=>h.al (by simp)
 b2:=fun _=>h.b2 (by simp)
 ring:=fun _=>h.ring (by simp)
 q:=fun _=>h.q (by simp)
 cZ:=fun _=>h.cZ (by simp)
 obj:=fun _=>h.obj (by simp)
 tm:=fun _=>h.tm (by simp)
 th:=fun id t a _=>h.th id t a (by simp)
 tl:=fun id t a _=>h.tl id t a (by simp)
 fr:=fun id t k f a d _=>h.fr id t k f a d (by simp)
 wk:=fun _=>h.wk (by simp)
 out:=fun _=>h.out (by simp)
 code:=fun _=>h.code (by simp)
 small:=h.small
theorem MB.sa{l:List Ev}(h:MB [.gL,.out] w χ L Y C K)(c:nU w χ L v C K.wk.length K.entries K.at_ K.w K.draw)(e:zQ w χ v l):ae w χ L {Y with ov:=v} C {K with out:=l} where
 head:=fun _=>c
 mem:=fun _=>h.mem (by simp)
 al:=fun _=>h.al (by simp)
 b2:=fun _=>h.b2 (by simp)
 ring:=fun _=>h.ring (by simp)
 q:=fun _=>h.q (by simp)
 cZ:=fun _=>h.cZ (by simp)
 obj:=fun _=>h.obj (by simp)
 tm:=fun _=>h.tm (by simp)
 th:=fun id t a _=>h.th id t a (by simp)
 tl:=fun id t a _=>h.tl id t a (by simp)
 fr:=fun id t k f a d _=>h.fr id t k f a d (by simp)
 wk:=fun _=>h.wk (by simp)
 out:=fun _=>e
 code:=fun _=>h.code (by simp)
 small:=h.small
theorem MB.HE{wv:Nat->Value}{l:List aC}(h:MB [.wk] w χ L Y C K)(e:l.length=K.wk.length)(c:FD w χ L wv l):ae w χ L {Y with wv:=wv} C {K with wk:=l} where
 head:=fun _=>by show nU w χ L Y.ov C l.length _ _ _ _;rw[e];exact h.head (by simp)
 mem:=fun _=>h.mem (by simp)
 al:=fun _=>h.al (by simp)
 b2:=fun _=>h.b2 (by simp)
 ring:=fun _=>h.ring (by simp)
 q:=fun _=>h.q (by simp)
 cZ:=fun _=>h.cZ (by simp)
 obj:=fun _=>h.obj (by simp)
 tm:=fun _=>h.tm (by simp)
 th:=fun id t a _=>h.th id t a (by simp)
 tl:=fun id t a _=>h.tl id t a (by simp)
 fr:=fun id t k f a d _=>h.fr id t k f a d (by simp)
 wk:=fun _=>c
 out:=fun _=>h.out (by simp)
 code:=fun _=>h.code (by simp)
 small:=h.small
theorem zR{l:List (Int×Thread)}{v:Thread}{g:Int->Nat}(h:(aw l k).isSome):(cn l k v).map (fun x=>(x.1,g x.1))=l.map (fun x=>(x.1,g x.1)):=by
 induction l with
 |nil=>rw[zq]at h;cases h
 |cons x l ih=>
  rw[dY];by_cases a:k=x.1
  ·rw[if_pos a];simp[a]
  ·rw[if_neg a]
   rw[da,if_neg a]at h;simp only[List.map_cons,ih h]
theorem Cn.put{l:List (Int×Thread)}{v:Thread}(h:Cn w χ L Y.bI l)(a:(aw l k).isSome):Cn w χ L Y.bI (cn l k v):=
 ⟨by rw[zR (g:=Y.bI) a];exact h.is,h.k,h.nd.put k v⟩
theorem MB.HF{c:Thread}(h:MB [.th id] w χ L Y C K)(g:aw K.ai id=some t)(i:c.l=t.l)(l:zP w χ (Y.bI id) (Y.lv id) id c):ae w χ L Y C (K.cp id c) where
 head:=fun _=>h.head (by simp)
 mem:=fun _=>h.mem (by simp)
 al:=fun _=>h.al (by simp)
 b2:=fun _=>h.b2 (by simp)
 ring:=fun _=>h.ring (by simp)
 q:=fun _=>h.q (by simp)
 cZ:=fun _=>h.cZ (by simp)
 obj:=fun _=>h.obj (by simp)
 tm:=fun _=>(h.tm (by simp)).put (by rw[g];rfl)
 th:=fun j u a _=>by
  rw[show(KS.cp K id c).ai=cn K.ai id c from rfl,aV]at a;split at a
  ·rename_i e;injection a with a;subst e a;exact l
  ·rename_i e;exact h.th j u a (by simp[e])
 tl:=fun j u a _=>by
  rw[show(KS.cp K id c).ai=cn K.ai id c from rfl,aV]at a;split at a
  ·rename_i e;injection a with a;subst e a;rw[i];exact h.tl j t g (by simp)
  ·exact h.tl j u a (by simp)
 fr:=fun j u k f a d _=>by
  rw[show(KS.cp K id c).ai=cn K.ai id c from rfl,aV]at a;split at a
  ·rename_i e;injection a with a;subst e a;rw[i]at d;exact h.fr j t k f g d (by simp)
  ·exact h.fr j u k f a d (by simp)
 wk:=fun _=>h.wk (by simp)
 out:=fun _=>h.out (by simp)
 code:=fun _=>h.code (by simp)
 small:=h.small
theorem MB.HG{k:Nat}(h:MB [.fr id k] w χ L Y C K)(m:aw K.ai id=some t)(o:k<t.l.length)(n:BH w χ (Y.fb id k) v id k f):ae w χ L {Y with bv:=fun i j=>if i=id/\j=k then v else Y.bv i j} C (K.cp id {t with l:=t.l.set k f}) where
 head:=fun _=>h.head (by simp)
 mem:=fun _=>h.mem (by simp)
 al:=fun _=>h.al (by simp)
 b2:=fun _=>h.b2 (by simp)
 ring:=fun _=>h.ring (by simp)
 q:=fun _=>h.q (by simp)
 cZ:=fun _=>h.cZ (by simp)
 obj:=fun _=>h.obj (by simp)
 tm:=fun _=>(h.tm (by simp)).put (by rw[m];rfl)
 th:=fun j u a _=>by
  rw[show(KS.cp K id {t with l:=t.l.set k f}).ai=cn K.ai id {t with l:=t.l.set k f}from rfl,aV]at a;split at a
  ·rename_i e;injection a with a;subst e a;have:=h.th j t m (by simp);exact⟨this.is,this.k⟩
  ·exact h.th j u a (by simp)
 tl:=fun j u a _=>by
  rw[show(KS.cp K id {t with l:=t.l.set k f}).ai=cn K.ai id {t with l:=t.l.set k f}from rfl,aV]at a;split at a
  ·rename_i e;injection a with a;subst e a;have:=h.tl j t m (by simp);rw[List.length_set];exact this
  ·exact h.tl j u a (by simp)
 fr:=fun j u d f' a c _=>by
  rw[show(KS.cp K id {t with l:=t.l.set k f}).ai=cn K.ai id {t with l:=t.l.set k f}from rfl,aV]at a;show BH w χ (Y.fb j d) (if j=id/\d=k then v else Y.bv j d) j d f'
  split at a
  ·rename_i e;injection a with a;subst e a
   by_cases g:d=k
   ·subst g
    rw[List.getElem?_set_self o]at c;injection c with c
    subst c;rw[if_pos ⟨rfl,rfl⟩];exact n
   ·rw[List.getElem?_set_ne (fun e=>g e.symm)]at c
    rw[if_neg (fun h=>g h.2)];exact h.fr j t d f' m c (by simp[g])
  ·rename_i e
   rw[if_neg (fun h=>e h.1)];exact h.fr j u d f' a c (by simp[e])
 wk:=fun _=>h.wk (by simp)
 out:=fun _=>h.out (by simp)
 code:=fun _=>h.code (by simp)
 small:=h.small
theorem MB.GV{n:Nat}(h:MB [.th id] w χ L Y C K)(d:aw K.ai id=some t)(p:n<=t.l.length)(m:zP w χ (Y.bI id) v id {t with l:=t.l.take n})(o:BG w χ v (Y.fb id) id n):ae w χ L {Y with lv:=fun i=>if i=id then v else Y.lv i} C (K.cp id {t with l:=t.l.take n}) where
 head:=fun _=>h.head (by simp)
 mem:=fun _=>h.mem (by simp)
 al:=fun _=>h.al (by simp)
 b2:=fun _=>h.b2 (by simp)
 ring:=fun _=>h.ring (by simp)
 q:=fun _=>h.q (by simp)
 cZ:=fun _=>h.cZ (by simp)
 obj:=fun _=>h.obj (by simp)
 tm:=fun _=>(h.tm (by simp)).put (by rw[d];rfl)
 th:=fun j u a _=>by
  rw[show(KS.cp K id {t with l:=t.l.take n}).ai=cn K.ai id {t with l:=t.l.take n}from rfl,aV]at a;show zP w χ (Y.bI j) (if j=id then v else Y.lv j) j u
  split at a
  ·rename_i e;injection a with a;subst e a;rw[if_pos rfl];exact m
  ·rename_i e;rw[if_neg e];exact h.th j u a (by simp[e])
 tl:=fun j u a _=>by
  rw[show(KS.cp K id {t with l:=t.l.take n}).ai=cn K.ai id {t with l:=t.l.take n}from rfl,aV]at a;show BG w χ (if j=id then v else Y.lv j) (Y.fb j) j u.l.length
  split at a
  ·rename_i e;injection a with a;subst e a
   rw[if_pos rfl,show({t with l:=t.l.take n}:Thread).l.length=n from by simp;omega];exact o
  ·rename_i e;rw[if_neg e];exact h.tl j u a (by simp)
 fr:=fun j u k f a c _=>by
  rw[show(KS.cp K id {t with l:=t.l.take n}).ai=cn K.ai id {t with l:=t.l.take n}from rfl,aV]at a;split at a
  ·rename_i e;injection a with a;subst e a
   have g:t.l[k]?=some f:=by
    have:(t.l.take n)[k]?=some f:=c;rw[List.getElem?_take]at this;split at this
    ·exact this
    ·cases this
   exact h.fr j t k f d g (by simp)
  ·exact h.fr j u k f a c (by simp)
 wk:=fun _=>h.wk (by simp)
 out:=fun _=>h.out (by simp)
 code:=fun _=>h.code (by simp)
 small:=h.small
theorem MB.FG(h:MB [.th id,.tl id] w χ L Y C K)(m:aw K.ai id=some t)(r:zP w χ (Y.bI id) v id {t with l:=t.l++[f]})(s:BG w χ v (fun j=>if j=t.l.length then b else Y.fb id j) id (t.l.length+1))(o:BH w χ b bv' id t.l.length f):ae w χ L {Y with lv:=fun i=>if i=id then v else Y.lv i,fb:=fun i j=>if i=id/\j=t.l.length then b else Y.fb i j,bv:=fun i j=>if i=id/\j=t.l.length then bv' else Y.bv i j} C (K.cp id {t with l:=t.l++[f]}) where
 head:=fun _=>h.head (by simp)
 mem:=fun _=>h.mem (by simp)
 al:=fun _=>h.al (by simp)
 b2:=fun _=>h.b2 (by simp)
 ring:=fun _=>h.ring (by simp)
 q:=fun _=>h.q (by simp)
 cZ:=fun _=>h.cZ (by simp)
 obj:=fun _=>h.obj (by simp)
 tm:=fun _=>(h.tm (by simp)).put (by rw[m];rfl)
 th:=fun j u a _=>by
  rw[show(KS.cp K id {t with l:=t.l++[f]}).ai=cn K.ai id {t with l:=t.l++[f]}from rfl,aV]at a;show zP w χ (Y.bI j) (if j=id then v else Y.lv j) j u
  split at a
  ·rename_i e;injection a with a;subst e a;rw[if_pos rfl];exact r
  ·rename_i e;rw[if_neg e];exact h.th j u a (by simp[e])
 tl:=fun j u a _=>by
  rw[show(KS.cp K id {t with l:=t.l++[f]}).ai=cn K.ai id {t with l:=t.l++[f]}from rfl,aV]at a;show BG w χ (if j=id then v else Y.lv j) (fun k=>if j=id/\k=t.l.length then b else Y.fb j k) j u.l.length
  split at a
  ·rename_i e;injection a with a;subst e a
   rw[if_pos rfl,show({t with l:=t.l++[f]}:Thread).l.length=t.l.length+1 from by simp];simpa using s
  ·rename_i e;rw[if_neg e];simpa[e]using h.tl j u a (by simp[e])
 fr:=fun j u k f' a d _=>by
  rw[show(KS.cp K id {t with l:=t.l++[f]}).ai=cn K.ai id {t with l:=t.l++[f]}from rfl,aV]at a;show BH w χ (if j=id/\k=t.l.length then b else Y.fb j k) (if j=id/\k=t.l.length then bv' else Y.bv j k) j k f'
  split at a
  ·rename_i e;injection a with a;subst e a
   by_cases g:k=t.l.length
   ·subst g
    have c:(t.l++[f])[t.l.length]?=some f':=d;rw[List.getElem?_append_right (Nat.le_refl _)]at c;have n:f=f':=(by simpa using c);subst n;rw[if_pos ⟨rfl,rfl⟩,if_pos ⟨rfl,rfl⟩];exact o
   ·have c:(t.l++[f])[k]?=some f':=d
    have p:k<t.l.length:=by
     have:=(List.getElem?_eq_some_iff.1 c).1;simp at this;omega
    rw[List.getElem?_append_left p]at c;rw[if_neg (fun h=>g h.2),if_neg (fun h=>g h.2)];exact h.fr j t k f' m c (by simp)
  ·rename_i e
   rw[if_neg (fun h=>e h.1),if_neg (fun h=>e h.1)];exact h.fr j u k f' a d (by simp)
 wk:=fun _=>h.wk (by simp)
 out:=fun _=>h.out (by simp)
 code:=fun _=>h.code (by simp)
 small:=h.small
theorem jq{l:List (Int×Thread)}{j:Int}{u:Thread}(c:gn l)(a:aw (fs l id) j=some u):aw l j=some u:=by
 by_cases e:j=id
 ·subst e
  rw[(c.del j).2]at a;cases a
 ·rwa [gm _ _ _ e]at a
theorem MB.GX(h:MB [.tm] w χ L Y C K)(c:gn K.ai)(d:Cn w χ L Y.bI (fs K.ai id)):ae w χ L Y C {K with ai:=fs K.ai id} where
 head:=fun _=>h.head (by simp)
 mem:=fun _=>h.mem (by simp)
 al:=fun _=>h.al (by simp)
 b2:=fun _=>h.b2 (by simp)
 ring:=fun _=>h.ring (by simp)
 q:=fun _=>h.q (by simp)
 cZ:=fun _=>h.cZ (by simp)
 obj:=fun _=>h.obj (by simp)
 tm:=fun _=>d
 th:=fun j u a _=>h.th j u (jq c a) (by simp)
 tl:=fun j u a _=>h.tl j u (jq c a) (by simp)
 fr:=fun j u k f a e _=>h.fr j u k f (jq c a) e (by simp)
 wk:=fun _=>h.wk (by simp)
 out:=fun _=>h.out (by simp)
 code:=fun _=>h.code (by simp)
 small:=h.small
theorem MB.FH{fbk:Nat}(h:MB [.tm] w χ L Y C K)(o:aw K.ai id=none)(d:t.l=[f])(g:Cn w χ L (fun i=>if i=id then b else Y.bI i) (cn K.ai id t))(m:zP w χ b v id t)(n:BG w χ v (fun _=>fbk) id 1)(l:BH w χ fbk bv' id 0 f):ae w χ L {Y with bI:=fun i=>if i=id then b else Y.bI i,lv:=fun i=>if i=id then v else Y.lv i,fb:=fun i j=>if i=id then fbk else Y.fb i j,bv:=fun i j=>if i=id then bv' else Y.bv i j} C {K with ai:=cn K.ai id t} where
 head:=fun _=>h.head (by simp)
 mem:=fun _=>h.mem (by simp)
 al:=fun _=>h.al (by simp)
 b2:=fun _=>h.b2 (by simp)
 ring:=fun _=>h.ring (by simp)
 q:=fun _=>h.q (by simp)
 cZ:=fun _=>h.cZ (by simp)
 obj:=fun _=>h.obj (by simp)
 tm:=fun _=>g
 th:=fun j u a _=>by
  rw[aV]at a;show zP w χ (if j=id then b else Y.bI j) (if j=id then v else Y.lv j) j u
  split at a
  ·rename_i e;injection a with a;subst e a;rw[if_pos rfl,if_pos rfl];exact m
  ·rename_i e;rw[if_neg e,if_neg e];exact h.th j u a (by simp)
 tl:=fun j u a _=>by
  rw[aV]at a;show BG w χ (if j=id then v else Y.lv j) (fun k=>if j=id then fbk else Y.fb j k) j u.l.length
  split at a
  ·rename_i e;injection a with a;subst e a;rw[d];simpa using n
  ·rename_i e;simpa[e]using h.tl j u a (by simp)
 fr:=fun j u k f' a c _=>by
  rw[aV]at a;show BH w χ (if j=id then fbk else Y.fb j k) (if j=id then bv' else Y.bv j k) j k f'
  split at a
  ·rename_i e;injection a with a;subst e a
   rw[d]at c;cases k with
   |zero=>
    have:f=f':=(by simpa using c);subst this;simpa using l
   |succ k=>simp at c
  ·rename_i e;simpa[e]using h.fr j u k f' a c (by simp)
 wk:=fun _=>h.wk (by simp)
 out:=fun _=>h.out (by simp)
 code:=fun _=>h.code (by simp)
 small:=h.small
end
variable{K1:KS}{S:aI}{v:Value}
structure Nx(χ aY:Nat->a')(w w':World):Prop where
 ch:Ch (fun i=>χ i≠ .no) w w'
 same:∀i,i<w.heap.size->aY i=χ i
theorem Nx.refl(χ:Nat->a')(w:World):Nx χ χ w w:=⟨Ch.refl _ _,fun _ _=>rfl⟩
theorem Nx.trans{χ dZ b:Nat->a'}{w w1 w2:World}(h:Nx χ dZ w w1)(k:Nx dZ b w1 w2):Nx χ b w w2:=
 ⟨h.ch.join k.ch (fun i a c=>by rw[<-h.same i a];exact c),fun i a=>(k.same i (Nat.lt_of_lt_of_le a h.ch.size)).trans (h.same i a)⟩
theorem Nx.af{χ:Nat->a'}{w w':World}(c:Ch ag w w'):Nx χ χ w w':=⟨c.af,fun _ _=>rfl⟩
theorem Nx.of{X:List a'}{χ aY:Nat->a'}{w w':World}(s:eT X χ aY D w w')(a:.no∉X):Nx χ aY w w':=
 ⟨⟨s.c.os,s.c.tape,s.c.output,s.c.size,fun b hb d=>s.c.same b hb (fun c=>a (by
  have:=s.Ht b hb c;have e:χ b=.no:=Classical.not_not.1 d
  rwa [e]at this))⟩,s.same⟩
def Yk(K:KS)(Y Y':Var):Prop:=∀id t,aw K.ai id=some t->Y'.bI id=Y.bI id/\∀k,k<t.l.length->Y'.fb id k=Y.fb id k
theorem Yk.refl(K:KS)(Y:Var):Yk K Y Y:=fun _ _ _=>⟨rfl,fun _ _=>rfl⟩
def Gr(K K':KS):Prop:=∀id t,aw K.ai id=some t->∃a,aw K'.ai id=some a/\t.l.length<=a.l.length
theorem Gr.refl(K:KS):Gr K K:=fun _ t h=>⟨t,h,Nat.le_refl _⟩
theorem Gr.of_eq{K K':KS}(h:K'.ai=K.ai):Gr K K':=fun _ t a=>⟨t,by rw[h];exact a,Nat.le_refl _⟩
theorem Gr.trans{K K2:KS}(h:Gr K K1)(k:Gr K1 K2):Gr K K2:=fun id t e=>by
 obtain⟨t1,a,b⟩:=h id t e;obtain⟨t2,c,d⟩:=k id t1 a;exact⟨t2,c,Nat.le_trans b d⟩
theorem Yk.trans{K:KS}{Y Y1 b:Var}(h:Yk K Y Y1)(g:Gr K K1)(k:Yk K1 Y1 b):Yk K Y b:=fun id t a=>by
 obtain⟨t1,c,e⟩:=g id t a;exact⟨(k id t1 c).1.trans (h id t a).1,fun j d=>((k id t1 c).2 j (by omega)).trans ((h id t a).2 j d)⟩
structure dD(χ:Nat->a')(L:cU)(Y:Var)(C:KC)(K K':KS)(w:World)(aY:Nat->a')(Y':Var)(w':World):Prop where
 at_:ae w' aY L Y' C K'
 nx:Nx χ aY w w'
 yk:Yk K Y Y'
def dk(v:Value)(χ:Nat->a')(L:cU)(Y:Var)(C:KC)(K K':KS)(w:World)(e:Ending)(w':World):Prop:=e=.returned v/\∃aY Y',dD χ L Y C K K' w aY Y' w'
def nW(ok:Bool)(χ:Nat->a')(L:cU)(Y:Var)(C:KC)(K K':KS)(w:World)(e:Ending)(w':World):Prop:=(∃v,e=.returned v/\(if ok then v=.nilIface else ar v))/\∃aY Y',dD χ L Y C K K' w aY Y' w'
def xz(x:Option Int)(χ:Nat->a')(L:cU)(Y:Var)(C:KC)(K K':KS)(w:World)(e:Ending)(w':World):Prop:=
 (match x with
  |some a=>e=.returned (.tuple #[.int .u64 a,.nilIface])
  |none=>∃v,e=.returned (.tuple #[.int .u64 0,v])/\ar v)/\∃aY Y',dD χ L Y C K K' w aY Y' w'
variable{χ:Nat->a'}{L:cU}{Y:Var}{C:KC}{K:KS}
theorem ae.gU(h:ae w χ L Y C K)(c:Ch ag w w'):dD χ L Y C K K w χ Y w':=⟨h.af c,Nx.af c,Yk.refl _ _⟩
theorem ae.mH(h:ae w χ L Y C K)(e:aO w' L.m L.c L.d S)(c:Ch D w w')(b:∀i,D i->i=L.m∨i=L.c∨i=L.d):dD χ L Y C K {K with mem:=S} w χ Y w':=by
 have a:=h.mem (by simp);have s:eT [.mem] χ χ D w w':=eT.one c (fun i d=>by rcases b i d with rfl|rfl|rfl<;>simp[a.k1,a.k2,a.k3]) h.small;exact⟨(h.step s (by simp)).GO ⟨e,a.k1,a.k2,a.k3⟩,Nx.of s (by simp),Yk.refl _ _⟩
theorem ae.uj(h:ae w χ L Y C K){q:List Int}(d:eP w' L.rb L.rg q)(c:Ch (cK L.rb L.rg) w w'):dD χ L Y C K {K with ring:=q} w χ Y w':=by
 have a:=h.ring (by simp);have s:eT [.ring] χ χ (cK L.rb L.rg) w w':=eT.one c (fun i b=>by rcases b with rfl|rfl<;>simp[a.k1,a.k2]) h.small;exact⟨(h.step s (by simp)).FE ⟨d,a.k1,a.k2⟩,Nx.of s (by simp),Yk.refl _ _⟩
theorem ae.mI(h:ae w χ L Y C K){l:List aF}(d:aW w' L.tb L.tg l)(c:Ch (aH L.tg) w w'):dD χ L Y C K {K with table:=l} w χ Y w':=by
 have a:=h.cZ (by simp);have s:eT [.cZ] χ χ (aH L.tg) w w':=eT.one c (fun i b=>by rcases b with rfl;simp[a.k2]) h.small;exact⟨(h.step s (by simp)).GR ⟨d,a.k1,a.k2⟩,Nx.of s (by simp),Yk.refl _ _⟩
theorem ae.Du(h:ae w χ L Y C K){l:List bq}(d:bP w' L.ob L.og l)(c:Ch (aH L.og) w w'):dD χ L Y C K {K with cT:=l} w χ Y w':=by
 have a:=h.obj (by simp);have s:eT [.obj] χ χ (aH L.og) w w':=eT.one c (fun i b=>by rcases b with rfl;simp[a.k2]) h.small;exact⟨(h.step s (by simp)).GU ⟨d,a.k1,a.k2⟩,Nx.of s (by simp),Yk.refl _ _⟩
theorem ae.zS(h:ae w χ L Y C K){S:aN}(d:aX w' L.cb L.ch L.cm L.cq v S)(f:aS w Y.hv v)(c:Ch (e9 L.cb L.ch L.cm L.cq Y.hv) w w'):
 dD χ L Y C K {K with clock:=S} w (cN χ v.ownBlock .b2) {Y with hv:=v} w':=by
 have a:=h.b2 (by simp);have s:eT [.b2] χ (cN χ v.ownBlock .b2) (e9 L.cb L.ch L.cm L.cq Y.hv) w w':=eT.cN c (fun i _ b=>by
  rcases b with rfl|rfl|rfl|rfl|b
  ·simp[a.k1]
  ·simp[a.k4]
  ·simp[a.k2]
  ·simp[a.k3]
  ·simp[a.k5 i b]) h.small f a.k5 (fun g e=>cE d.heap.own e)
 refine⟨(h.step s (by simp)).GQ ⟨d,?_,?_,?_,?_,im⟩,Nx.of s (by simp),Yk.refl _ _⟩
 ·exact(s.same _ a.is.head.lt).trans a.k1
 ·exact(s.same _ a.is.heap.head.lt).trans a.k2
 ·exact(s.same _ a.is.heap.map.lt).trans a.k3
 ·exact(s.same _ a.is.fl.lt).trans a.k4
theorem ae.Cp(h:ae w χ L Y C K){A:a8}(e:aT w' L.ab L.m v A)(j:aS w Y.av v)(k:aO w' L.m L.c L.d S)(c:Ch (lK L.ab Y.av L.m L.c L.d) w w'):
 dD χ L Y C K {K with blocks:=A,mem:=S} w (cN χ v.ownBlock .al) {Y with av:=v} w':=by
 have b:=h.al (by simp);have a:=h.mem (by simp);have s:eT [.al,.mem] χ (cN χ v.ownBlock .al) (lK L.ab Y.av L.m L.c L.d) w w':=eT.cN c (fun i _ d=>by
  rcases d with(rfl|d)|rfl|rfl|rfl
  ·simp[b.k1]
  ·simp[b.k2 i d]
  ·simp[a.k1]
  ·simp[a.k2]
  ·simp[a.k3]) h.small j b.k2 (fun g f=>cE e.own f)
 refine⟨(h.step s (by simp)).HD ⟨e,?_,im⟩ ⟨k,?_,?_,?_⟩,Nx.of s (by simp),Yk.refl _ _⟩
 ·exact(s.same _ b.is.head.lt).trans b.k1
 ·exact(s.same _ a.is.head.lt).trans a.k1
 ·exact(s.same _ a.is.cells.lt).trans a.k2
 ·exact(s.same _ a.is.width.lt).trans a.k3
theorem ae.HH(h:ae w χ L Y C K){ls:List (List Sl)}(g:iE w' L.qb L.ql L.qm ls)(c:Ch (QD L.qb L.ql L.qm Y.ls) w w')(j:∀s∈ls.flatten,(∃x∈Y.ls.flatten,x.b=s.b)∨w.heap.size<=s.b):
 ∃aY,dD χ L Y C K {K with q:=b1 ls} w aY {Y with ls:=ls} w':=by
 have f:=h.q (by simp)
 classical
 refine⟨fun i=>if QD L.qb L.ql L.qm ls i then .q else χ i,?_⟩;have l:∀i,i<w.heap.size->(if QD L.qb L.ql L.qm ls i then a'.q else χ i)=χ i:=fun i b=>by
  split
  ·rename_i a
   refine(f.k i ?_).symm;rcases a with e|e|e|⟨s,k,e⟩
   ·exact Or.inl e
   ·exact Or.inr (Or.inl e)
   ·exact Or.inr (Or.inr (Or.inl e))
   ·rcases j s k with⟨x,m,d⟩|d
    ·exact Or.inr (Or.inr (Or.inr ⟨x,m,d.trans e⟩))
    ·omega
  ·rfl
 have s:eT [.q] χ (fun i=>if QD L.qb L.ql L.qm ls i then .q else χ i) (QD L.qb L.ql L.qm Y.ls) w w':=⟨c,fun i _ a=>by simp[f.k i a],l,fun i b=>by
  split at b
  ·rename_i a;exact g.Co a
  ·exact Nat.lt_of_lt_of_le (h.small i b) c.size⟩
 exact⟨(h.step s (by simp)).cQ ⟨g,rfl,fun i b=>if_pos b⟩,Nx.of s (by simp),Yk.refl _ _⟩
section
variable{i:Nat}{K1:KS}{dZ:Nat->a'}{Y1:Var}{w1 w2:World}{v:Value}
section
variable{w w':World}{χ:Nat->a'}{L:cU}{Y:Var}{C:KC}{K:KS}
theorem cH{ov:Value}{nw:Nat}{en at_ wn dr:Int}(a:C.rows.length=1000)(j:Nat)(b:j<14):(cG L ov C nw en at_ wn dr)[1007+j]?=(hx L ov nw en at_ wn dr)[j]?:=by
 unfold cG;rw[List.getElem?_append_right (by show 7<=_;omega),List.getElem?_append_right (by rw[List.length_map,a];show 1000<=1007+j-7;omega)]
 congr 1
 rw[List.length_map,a];show 1007+j-7-1000=j;omega
theorem ae.fz(h:ae w χ L Y C K)(i:Nat):w.frozen? (L.mb,i)=false:=(h.head (by simp)).row.free i
theorem ae.GY(h:ae w χ L Y C K):L.mb<w.heap.size:=(h.head (by simp)).row.lt
theorem ae.Ec(h:ae w χ L Y C K){r:Int}(a:C.rows[i]?=some r):w.cell? (L.mb,7+i)=some (.int .i64 r):=by
 have b:=h.head (by simp);refine b.row.cell ?_;have c:=(List.getElem?_eq_some_iff.1 a).1;unfold cG;rw[List.getElem?_append_right (by show 7<=_;omega),List.getElem?_append_left (by rw[List.length_map];show 7+i-7<_;omega),List.getElem?_map];rw[show 7+i-(kV C L).length=i from by show 7+i-7=i;omega,a];rfl
theorem ae.c0(h:ae w χ L Y C K):w.cell? (L.mb,0)=some (.slice L.lc C.dH.length L.Dt):=(h.head (by simp)).row.cell (by unfold cG;rfl)
theorem ae.c1(h:ae w χ L Y C K):w.cell? (L.mb,1)=some (.int .i64 C.loop):=(h.head (by simp)).row.cell (by unfold cG;rfl)
theorem ae.c2(h:ae w χ L Y C K):w.cell? (L.mb,2)=some (.slice L.ll C.calls.length L.GB):=(h.head (by simp)).row.cell (by unfold cG;rfl)
theorem ae.c3(h:ae w χ L Y C K):w.cell? (L.mb,3)=some (.slice L.pc C.bs.length L.Cm):=(h.head (by simp)).row.cell (by unfold cG;rfl)
theorem ae.c4(h:ae w χ L Y C K):w.cell? (L.mb,4)=some (.int .i64 C.entry):=(h.head (by simp)).row.cell (by unfold cG;rfl)
theorem ae.c5(h:ae w χ L Y C K):w.cell? (L.mb,5)=some (.int .i64 C.wide):=(h.head (by simp)).row.cell (by unfold cG;rfl)
theorem ae.c6(h:ae w χ L Y C K):w.cell? (L.mb,6)=some (.int .i64 C.narrow):=(h.head (by simp)).row.cell (by unfold cG;rfl)
theorem ae.cO(h:ae w χ L Y C K):w.cell? (L.mb,1007)=some (.pointer (some (L.m,0))):=(h.head (by simp)).row.cell ((cH (h.head (by simp)).rows 0 (by omega)).trans rfl)
theorem ae.pd(h:ae w χ L Y C K):w.cell? (L.mb,1008)=some (.pointer (some (L.ab,0))):=(h.head (by simp)).row.cell ((cH (h.head (by simp)).rows 1 (by omega)).trans rfl)
theorem ae.j2(h:ae w χ L Y C K):w.cell? (L.mb,1009)=some (.pointer (some (L.cb,0))):=(h.head (by simp)).row.cell ((cH (h.head (by simp)).rows 2 (by omega)).trans rfl)
theorem ae.nX(h:ae w χ L Y C K):w.cell? (L.mb,1010)=some (.pointer (some (L.rb,0))):=(h.head (by simp)).row.cell ((cH (h.head (by simp)).rows 3 (by omega)).trans rfl)
theorem ae.v8(h:ae w χ L Y C K):w.cell? (L.mb,1011)=some (.pointer (some (L.qb,0))):=(h.head (by simp)).row.cell ((cH (h.head (by simp)).rows 4 (by omega)).trans rfl)
theorem ae.ee(h:ae w χ L Y C K):w.cell? (L.mb,1012)=some (.pointer (some (L.tb,0))):=(h.head (by simp)).row.cell ((cH (h.head (by simp)).rows 5 (by omega)).trans rfl)
theorem ae.iq(h:ae w χ L Y C K):w.cell? (L.mb,1013)=some (.pointer (some (L.ob,0))):=(h.head (by simp)).row.cell ((cH (h.head (by simp)).rows 6 (by omega)).trans rfl)
theorem ae.hN(h:ae w χ L Y C K):w.cell? (L.mb,1014)=some (.map (some L.tm)):=(h.head (by simp)).row.cell ((cH (h.head (by simp)).rows 7 (by omega)).trans rfl)
theorem ae.qH(h:ae w χ L Y C K):w.cell? (L.mb,1015)=some (.slice (some (L.wb,0)) K.wk.length K.wk.length):=(h.head (by simp)).row.cell ((cH (h.head (by simp)).rows 8 (by omega)).trans rfl)
theorem ae.FI(h:ae w χ L Y C K):w.cell? (L.mb,1016)=some (.int .i64 K.entries):=(h.head (by simp)).row.cell ((cH (h.head (by simp)).rows 9 (by omega)).trans rfl)
theorem ae.Hu(h:ae w χ L Y C K):w.cell? (L.mb,1017)=some (.int .i64 K.at_):=(h.head (by simp)).row.cell ((cH (h.head (by simp)).rows 10 (by omega)).trans rfl)
theorem ae.GC(h:ae w χ L Y C K):w.cell? (L.mb,1018)=some (.int .i64 K.w):=(h.head (by simp)).row.cell ((cH (h.head (by simp)).rows 11 (by omega)).trans rfl)
theorem ae.Dv(h:ae w χ L Y C K):w.cell? (L.mb,1019)=some (.int .u64 K.draw):=(h.head (by simp)).row.cell ((cH (h.head (by simp)).rows 12 (by omega)).trans rfl)
theorem ae.sa(h:ae w χ L Y C K):w.cell? (L.mb,1020)=some (Y.ov):=(h.head (by simp)).row.cell ((cH (h.head (by simp)).rows 13 (by omega)).trans rfl)
theorem dD.trans{K2:KS}{b:Nat->a'}{a:Var}(h:dD χ L Y C K K1 w dZ Y1 w1)(g:Gr K K1)(k:dD dZ L Y1 C K1 K2 w1 b a w2):dD χ L Y C K K2 w b a w2:=⟨k.at_,h.nx.trans k.nx,h.yk.trans g k.yk⟩
theorem dD.refl(h:ae w χ L Y C K):dD χ L Y C K K w χ Y w:=⟨h,Nx.refl _ _,Yk.refl _ _⟩
theorem dD.af(h:dD χ L Y C K K1 w dZ Y1 w1)(c:Ch ag w1 w2):dD χ L Y C K K1 w dZ Y1 w2:=⟨h.at_.af c,h.nx.trans (Nx.af c),h.yk⟩
theorem qI(id s:Int)(hid:aK id)(h:ae w χ L Y C K):Calls prog 98 #[(L.tb,0),.int .u64 id,s] w (nW (j4 K.table id s).1 χ L Y C K {K with table:=(j4 K.table id s).2} w):=
 (wW L.tb L.tg K.table id s hid w (h.cZ (by simp)).is).mono fun _ _ ⟨a,b,c⟩=>⟨a,_,_,h.mI b c⟩
theorem qJ(id v:Int)(hid:aK id)(h:ae w χ L Y C K):Calls prog 155 #[(L.tb,0),.int .u64 id,.int .u64 v] w (nW (gi K.table id v).1 χ L Y C K {K with table:=(gi K.table id v).2} w):=
 (tW L.tb L.tg K.table id v hid w (h.cZ (by simp)).is).mono fun _ _ ⟨a,b,c⟩=>⟨a,_,_,h.mI b c⟩
theorem zT(id a:Int)(hid:aK id)(h:ae w χ L Y C K):Calls prog 179 #[(L.tb,0),.int .u64 id,.int .u64 a] w (nW (hJ K.table id a).1 χ L Y C K {K with table:=(hJ K.table id a).2} w):=
 (rG L.tb L.tg K.table id a hid w (h.cZ (by simp)).is).mono fun _ _ ⟨b,c,d⟩=>⟨b,_,_,h.mI c d⟩
theorem xA(id:Int)(hid:aK id)(h:ae w χ L Y C K):Calls prog 186 #[(L.tb,0),.int .u64 id] w (nW (e8 K.table id).1 χ L Y C K {K with table:=(e8 K.table id).2} w):=
 (qy L.tb L.tg K.table id hid w (h.cZ (by simp)).is).mono fun _ _ ⟨a,b,c⟩=>⟨a,_,_,h.mI b c⟩
theorem xB(id:Int)(hid:aK id)(h:ae w χ L Y C K):Calls prog 198 #[(L.tb,0),.int .u64 id] w (nW (eN K.table id).1 χ L Y C K {K with table:=(eN K.table id).2} w):=
 (qz L.tb L.tg K.table id hid w (h.cZ (by simp)).is).mono fun _ _ ⟨a,b,c⟩=>⟨a,_,_,h.mI b c⟩
theorem uk(id:Int)(hid:aK id)(h:ae w χ L Y C K):Calls prog 189 #[(L.tb,0),.int .u64 id] w (ez (.int .i64 (ed K.table id)) w):=
 pb L.tb L.tg K.table id hid w (h.cZ (by simp)).is
theorem kW(id:Int)(hid:aK id)(h:ae w χ L Y C K):Calls prog 97 #[(L.tb,0),.int .u64 id] w (ds (.tuple #[(fx K.table id).1.val,.bool (fx K.table id).2]) w):=
 rR L.tb L.tg K.table id hid w (h.cZ (by simp)).is
def FJ(x:Bool×Int×Int×Bool×List aF)(χ:Nat->a')(L:cU)(Y:Var)(C:KC)(K:KS)(w:World)(e:Ending)(w':World):Prop:=
 (∃v,e=.returned (.tuple #[.int .u64 x.2.1,.int .u64 x.2.2.1,.bool x.2.2.2.1,v])/\(if x.1 then v=.nilIface else ar v))/\∃aY Y',dD χ L Y C K {K with table:=x.2.2.2.2} w aY Y' w'
theorem zU(id:Int)(hid:aK id)(h:ae w χ L Y C K):Calls prog 188 #[(L.tb,0),.int .u64 id] w (FJ (fy K.table id) χ L Y C K w):=
 (rS L.tb L.tg K.table id hid w (h.cZ (by simp)).is).mono fun _ _ ⟨a,b,c⟩=>⟨a,_,_,h.mI b c⟩
theorem sc(home:Int)(h:ae w χ L Y C K):Calls prog 86 #[(L.tb,0),.int .u64 home] w (xz (dh K.table home).1 χ L Y C K {K with table:=(dh K.table home).2} w):=
 (mE L.tb L.tg K.table home w (h.cZ (by simp)).is).mono fun _ _ ⟨a,b,c⟩=>⟨a,_,_,h.mI b c⟩
theorem zV(v:Int)(h:ae w χ L Y C K):Calls prog 49 #[(L.rb,0),.int .u64 v] w (nW (hG K.ring v).1 χ L Y C K {K with ring:=(hG K.ring v).2} w):=
 (mF L.rb L.rg K.ring v w (h.ring (by simp)).is).mono fun _ _ ⟨a,b,c⟩=>⟨a,_,_,h.uj b c⟩
theorem xC(h:ae w χ L Y C K):Calls prog 182 #[(L.rb,0)] w (dk (.tuple #[.int .u64 (gS K.ring).1,.bool (gS K.ring).2.1]) χ L Y C K {K with ring:=(gS K.ring).2.2} w):=
 (qA L.rb L.rg K.ring w (h.ring (by simp)).is).mono fun _ _ ⟨a,b,c⟩=>⟨a,_,_,h.uj b c⟩
theorem ff(h:cK L.m L.c i):i=L.m∨i=L.c∨i=L.d:=h.imp id Or.inl
def mJ(x:Option Int)(χ:Nat->a')(L:cU)(Y:Var)(C:KC)(K K':KS)(w:World)(e:Ending)(w':World):Prop:=xz x χ L Y C K K' w e w'/\Ch (fun i=>χ i=.mem) w w'
theorem ae.Cq(h:ae w χ L Y C K)(c:Ch (cK L.m L.c) w w'):Ch (fun i=>χ i=.mem) w w':=c.mono fun i b=>by
 have a:=h.mem (by simp);rcases b with rfl|rfl
 ·exact a.k1
 ·exact a.k2
theorem um(a:Int)(e:aK a)(h:ae w χ L Y C K):Calls prog 34 #[(L.m,0),.int .u64 a] w (mJ (K.mem.acc 0 a 0 0).1 χ L Y C K {K with mem:=(K.mem.acc 0 a 0 0).2} w):=
 (ji L.m L.c L.d K.mem a e w (h.mem (by simp)).is).mono fun _ _ ⟨c,d,b⟩=>⟨⟨c,_,_,h.mH d b fun _ f=>ff f⟩,h.Cq b⟩
theorem Ed(a v:Int)(e:aK a)(g:aK v)(h:ae w χ L Y C K):Calls prog 246 #[(L.m,0),.int .u64 a,.int .u64 v] w (mJ (K.mem.acc 2 a 0 v).1 χ L Y C K {K with mem:=(K.mem.acc 2 a 0 v).2} w):=
 (mw L.m L.c L.d K.mem a v e g w (h.mem (by simp)).is).mono fun _ _ ⟨c,d,b⟩=>⟨⟨c,_,_,h.mH d b fun _ f=>ff f⟩,h.Cq b⟩
theorem Dw(a v:Int)(e:aK a)(g:aK v)(h:ae w χ L Y C K):Calls prog 99 #[(L.m,0),.int .u64 a,.int .u64 v] w (mJ (K.mem.acc 3 a 0 v).1 χ L Y C K {K with mem:=(K.mem.acc 3 a 0 v).2} w):=
 (nz L.m L.c L.d K.mem a v e g w (h.mem (by simp)).is).mono fun _ _ ⟨c,d,b⟩=>⟨⟨c,_,_,h.mH d b fun _ f=>ff f⟩,h.Cq b⟩
theorem GZ(a v:Int)(b:aK a)(c:aK v)(h:ae w χ L Y C K):Calls prog 99 #[(L.m,0),.int .u64 a,.int .u64 v] w (xz (K.mem.acc 3 a 0 v).1 χ L Y C K {K with mem:=(K.mem.acc 3 a 0 v).2} w):=
 (Dw a v b c h).mono fun _ _ h=>h.1
theorem Dx(a o v:Int)(e:aK a)(g:aK v)(h:ae w χ L Y C K):Calls prog 180 #[(L.m,0),.int .u64 a,.int .u64 o,.int .u64 v] w (mJ (K.mem.acc 4 a o v).1 χ L Y C K {K with mem:=(K.mem.acc 4 a o v).2} w):=
 (nA L.m L.c L.d K.mem a o v e g w (h.mem (by simp)).is).mono fun _ _ ⟨c,d,b⟩=>⟨⟨c,_,_,h.mH d b fun _ f=>ff f⟩,h.Cq b⟩
theorem G0(a o v:Int)(b:aK a)(c:aK v)(h:ae w χ L Y C K):Calls prog 180 #[(L.m,0),.int .u64 a,.int .u64 o,.int .u64 v] w (xz (K.mem.acc 4 a o v).1 χ L Y C K {K with mem:=(K.mem.acc 4 a o v).2} w):=
 (Dx a o v b c h).mono fun _ _ h=>h.1
theorem Ee(a v:Int)(e:aK a)(g:aK v)(h:ae w χ L Y C K):Calls prog 81 #[(L.m,0),.int .u64 a,.int .u64 v] w (nW (K.mem.acc 1 a 0 v).1.isSome χ L Y C K {K with mem:=(K.mem.acc 1 a 0 v).2} w):=
 (eB L.m L.c L.d K.mem a v e g w (h.mem (by simp)).is).mono fun _ _ ⟨b,c,d⟩=>⟨b,_,_,h.mH c d fun _ f=>ff f⟩
theorem zW(a:Int)(b:aK a)(h:ae w χ L Y C K):Calls prog 110 #[(L.m,0),.int .u64 a] w (ez (.int .i64 (K.mem.wid a)) w):=
 ps L.m L.c L.d K.mem a b w (h.mem (by simp)).is
theorem zX(a k:Int)(h:ae w χ L Y C K):Calls prog 154 #[(L.ob,0),.int .u64 a,k] w (zC (gp K.cT a k) w):=
 rU L.ob L.og K.cT a k w (h.obj (by simp)).is
theorem FM(k a:Int)(h:ae w χ L Y C K):Calls prog 183 #[(L.ob,0),k,.int .u64 a] w (xz (fP K.cT k a).1 χ L Y C K {K with cT:=(fP K.cT k a).2} w):=
 (rW L.ob L.og K.cT k a w (h.obj (by simp)).is).mono fun _ _ ⟨b,c,d⟩=>⟨b,_,_,h.Du c d⟩
theorem FN(a:Int)(h:ae w χ L Y C K):Calls prog 184 #[(L.ob,0),.int .u64 a] w (nW (iZ K.cT a).1 χ L Y C K {K with cT:=(iZ K.cT a).2} w):=
 (rV L.ob L.og K.cT a w (h.obj (by simp)).is).mono fun _ _ ⟨b,c,d⟩=>⟨b,_,_,h.Du c d⟩
structure aN.Ok(S:aN):Prop where
 l:S.heap.l=[]
 fl:S.fl=[]
theorem FO(h:ae w χ L Y C K):Calls prog 56 #[(L.cb,0)] w (ez (.int .u64 K.clock.now) w):=
 qn L.cb L.ch L.cm L.cq Y.hv K.clock w (h.b2 (by simp)).is
theorem kX(id:Int)(e:K.clock.Ok)(h:ae w χ L Y C K):Calls prog 191 #[(L.cb,0),.int .u64 id] w (dk (.bool (K.clock.bp id).1) χ L Y C K {K with clock:=(K.clock.bp id).2} w):=
 (m0 L.cb L.ch L.cm L.cq Y.hv K.clock id e.fl w (h.b2 (by simp)).is).mono fun _ _ ⟨a,⟨v,b,c⟩,d⟩=>⟨a,_,_,h.zS b c d⟩
theorem G1(id dl:Int)(f:K.clock.Ok)(e:(K.clock.arm id dl).2.fl=[])(h:ae w χ L Y C K):Calls prog 178 #[(L.cb,0),.int .u64 id,.int .u64 dl] w (nW (K.clock.arm id dl).1 χ L Y C K {K with clock:=(K.clock.arm id dl).2} w):=
 (qp L.cb L.ch L.cm L.cq Y.hv K.clock id dl f.fl e w (h.b2 (by simp)).is).mono fun _ _ ⟨a,⟨v,b,c⟩,d⟩=>⟨a,_,_,h.zS b c d⟩
theorem zY{w:World}{B:Nat}{e:TypeId}{z:Nat}{n:Nat}{xs:List Value}(h:w.ownsRow B e z v n xs):∀g,v.ownBlock=some g->B<=g:=fun g a=>by
 rcases h.2 with⟨rfl,_⟩|⟨g',cap,cur,rfl,b,_⟩
 ·cases a
 ·have:g'=g:=by simpa[Value.ownBlock]using a
  omega
def G2(x:Option Nat)(χ:Nat->a')(L:cU)(Y:Var)(C:KC)(K K':KS)(w:World)(e:Ending)(w':World):Prop:=
 (match x with
  |some a=>e=.returned (.tuple #[.int .i64 a,.nilIface])
  |none=>∃u,e=.returned (.tuple #[.int .i64 0,u])/\ar u)/\∃aY Y',dD χ L Y C K K' w aY Y' w'
theorem sd(n:Nat)(f:n<=1000000)(g:K.blocks.Ok)(h:ae w χ L Y C K):Calls prog 85 #[(L.ab,0),.int .i64 n,.int .i64 64] w (G2 (df K.blocks K.mem n).1 χ L Y C K {K with blocks:=(df K.blocks K.mem n).2.1,mem:=(df K.blocks K.mem n).2.2} w):=
 (kJ L.ab L.m L.c L.d Y.av K.blocks K.mem g n f w (h.al (by simp)).is (h.mem (by simp)).is).mono fun _ _ ⟨a,⟨v,b,c⟩,d,e⟩=>⟨a,_,_,h.Cp b c d e⟩
theorem zZ(a:Int)(g:K.blocks.Ok)(h:ae w χ L Y C K):Calls prog 87 #[(L.ab,0),a] w (nW (m1 K.blocks K.mem a).1 χ L Y C K (jm K a) w):=
 (kK L.ab L.m L.c L.d Y.av K.blocks K.mem g a w (h.al (by simp)).is (h.mem (by simp)).is).mono fun _ _ ⟨b,⟨v,c,d⟩,e,f⟩=>⟨b,_,_,h.Cp c d e f⟩
theorem ae.Cr{a:List (List fQ)}{e:Ending}(h:ae w χ L Y C K)(j:zH v L.qb L.ql L.qm Y.ls a w e w'):dk v χ L Y C K {K with q:=a} w e w':=by
 obtain⟨b,k,c,rfl,d,f,_⟩:=j;obtain⟨aY,g⟩:=h.HH c d f;exact⟨b,aY,_,g⟩
theorem nY(id:Int)(h:ae w χ L Y C K):Calls prog 57 #[(L.qb,0),.int .u64 id] w (dk (.bool (dw K.q id).1) χ L Y C K {K with q:=(dw K.q id).2} w):=by
 have a:=h.q (by simp);have:=pD L.qb L.ql L.qm Y.ls id w a.is;rw[a.b1]at this;exact this.mono fun _ _ b=>h.Cr b
theorem Ef(a m:Int)(h:ae w χ L Y C K):Calls prog 190 #[(L.qb,0),.int .u64 a,.int .u64 m] w (dk (.tuple #[.int .u64 (eJ K.q a m).1,.bool (eJ K.q a m).2.1]) χ L Y C K {K with q:=(eJ K.q a m).2.2} w):=by
 have b:=h.q (by simp);have:=xw L.qb L.ql L.qm Y.ls a m w b.is;rw[b.b1]at this;exact this.mono fun _ _ c=>h.Cr c
theorem Eg(a m:Int)(h:ae w χ L Y C K):Calls prog 192 #[(L.qb,0),.int .u64 a,.int .u64 m] w (dk (.tuple #[.int .u64 (ij K.q a m).1,.bool (ij K.q a m).2.1]) χ L Y C K {K with q:=(ij K.q a m).2.2} w):=by
 have b:=h.q (by simp);have:=xx L.qb L.ql L.qm Y.ls a m w b.is;rw[b.b1]at this;exact this.mono fun _ _ c=>h.Cr c
theorem FP(a m:Int)(h:ae w χ L Y C K):Calls prog 193 #[(L.qb,0),.int .u64 a,.int .u64 m] w (zJ (xm K.q a m) w):=by
 have b:=h.q (by simp);have:=zK L.qb L.ql L.qm Y.ls a m w b.is
 rwa [b.b1]at this
theorem qK(id:Int)(h:ae w χ L Y C K):Calls prog 66 #[(L.qb,0),.int .u64 id] w (kU (gq K.q id) w):=by
 have a:=h.q (by simp);have:=ui L.qb L.ql L.qm Y.ls id w a.is
 rwa [a.b1]at this
end
end
variable{b i o:Nat}{x:aC}{c:cJ}
theorem kj{l:List aC}{wv:Nat->Value}(h:l[i]?=some x):(dj l wv)[i]?=some (x,wv i):=by
 unfold dj;rw[List.getElem?_map,List.getElem?_zipIdx,h];simp
theorem nZ(l:List aC)(wv:Nat->Value):(dj l wv).length=l.length:=by simp[dj]
theorem uo{l:List aC}{wv:Nat->Value}{e:aC}(d:i<l.length):(dj l wv).set i (e,v)=dj (l.set i e) (fun j=>if j=i then v else wv j):=by
 apply List.ext_getElem?;intro j;unfold dj;rw[List.getElem?_map,List.getElem?_zipIdx];by_cases a:i=j
 ·subst a
  rw[List.getElem?_set_self (by simpa using d),List.getElem?_set_self d];simp
 ·rw[List.getElem?_set_ne a,List.getElem?_set_ne a,List.getElem?_map,List.getElem?_zipIdx]
  cases l[j]? with
  |none=>rfl
  |some y=>simp[Ne.symm a]
def fC(x:aC×Value):List Value:=x.1.cells x.2
theorem se{α:Type}{enc:α->List Value}{l:List α}{x:α}(h:l[i]?=some x):l.flatMap enc=(l.take i).flatMap enc++(enc x++(l.drop (i+1)).flatMap enc):=by
 obtain⟨a,rfl⟩:=List.getElem?_eq_some_iff.1 h
 calc l.flatMap enc=(l.take i++l.drop i).flatMap enc:=by rw[List.take_append_drop]
  _=_:=by rw[List.drop_eq_getElem_cons a,List.flatMap_append,List.flatMap_cons]
theorem KS.Cs(h:K.wk[i]?=some x):K.W i=x:=by
 unfold KS.W;rw[List.getD_eq_getElem?_getD,h];rfl
theorem KS.ha(h:i<K.wk.length):K.wk[i]?=some (K.W i):=by
 unfold KS.W;rw[List.getD_eq_getElem?_getD,List.getElem?_eq_getElem h];rfl
theorem KS.dm{id:Int}{t:Thread}(h:aw K.ai id=some t):K.T id=t:=by unfold KS.T;rw[h];rfl
theorem ae.wa(h:ae w χ L Y C K)(a:i<K.wk.length)(j:Nat)(d:j<38)(e:((K.W i).cells (Y.wv i))[j]?=some v):w.cell? (L.wb,i*38+j)=some v:=
 (h.wk (by simp)).is.at (enc:=fun x:aC×Value=>x.1.cells x.2) aC.len (kj (KS.ha a)) d e
theorem ae.mK(h:ae w χ L Y C K)(a:i<K.wk.length):w.cell? (L.wb,i*38)=some (.int .u64 (K.W i).slot):=h.wa a 0 (by omega) rfl
theorem ae.fD(h:ae w χ L Y C K)(a:i<K.wk.length):w.cell? (L.wb,i*38+1)=some (.int .u64 (K.W i).hand):=h.wa a 1 (by omega) rfl
theorem ae.we(h:ae w χ L Y C K)(a:i<K.wk.length):w.cell? (L.wb,i*38+2)=some (.bool (K.W i).parked):=h.wa a 2 (by omega) rfl
theorem ae.Dy(h:ae w χ L Y C K)(a:i<K.wk.length):w.cell? (L.wb,i*38+3)=some (.int .i64 (K.W i).left):=h.wa a 3 (by omega) rfl
theorem ae.uq(h:ae w χ L Y C K)(j:Nat):w.frozen? (L.wb,j)=false:=(h.wk (by simp)).is.free j
theorem ae.ur(h:ae w χ L Y C K)(a:i<K.wk.length):∃pre post,aJ w L.wb (i*38+4) 95 pre post (Y.wv i) (K.W i).f/\
 pre=((dj K.wk Y.wv).take i).flatMap fC++[.int .u64 (K.W i).slot,.int .u64 (K.W i).hand,.bool (K.W i).parked,.int .i64 (K.W i).left]/\post=((dj K.wk Y.wv).drop (i+1)).flatMap fC:=by
 have d:=h.wk (by simp);refine⟨_,_,⟨?_,?_,d.back i _ (KS.ha a)⟩,rfl,rfl⟩
 ·have:=d.is
  rw[show((dj K.wk Y.wv).flatMap fun x=>x.1.cells x.2)=(dj K.wk Y.wv).flatMap fC from rfl,se (enc:=fC) (kj (wv:=Y.wv) (KS.ha a))]at this;rw[List.append_assoc];unfold fC aC.cells at this⊢;simpa[List.append_assoc]using this
 ·rw[List.length_append,aU (enc:=fC) aC.len,List.length_take,nZ]
  show min i K.wk.length*38+4=_
  rw[Nat.min_eq_left (by omega)]
theorem ae.Dz(h:ae w χ L Y C K)(m:i<K.wk.length){D:Nat->Prop}(q:Row w' L.wb 95 (((dj K.wk Y.wv).set i (x,v)).flatMap fC))(hb:cv w' v x.f.back)(u:aS w (Y.wv i) v)
 (c:Ch D w w') (p:∀k,D k->k=L.wb):∃aY Y',dD χ L Y C K (K.bj i x) w aY Y' w'/\Y'.wv i=v:=by
 have f:=h.wk (by simp);have s:eT [.wk] χ (cN χ v.ownBlock .back) D w w':=eT.cN c (fun k _ t=>by rw[p k t];simp[f.k]) h.small u (fun g a=>f.kb i _ (KS.ha m) g a) (fun g a=>cE hb a);refine⟨_,{Y with wv:=fun j=>if j=i then v else Y.wv j},⟨(h.step s (by simp)).HE (l:=K.wk.set i x) (by simp) ⟨?_,(s.same _ f.is.lt).trans f.k,?_,?_,by rw[List.length_set];exact f.n⟩,Nx.of s (by simp),Yk.refl _ _⟩,by simp⟩
 ·rw[uo m]at q;exact q
 ·intro j y d
  show cv w' (if j=i then v else Y.wv j) y.f.back
  by_cases e:i=j
  ·subst e
   rw[List.getElem?_set_self m]at d;injection d with d
   subst d;rw[if_pos rfl];exact hb
  ·rw[List.getElem?_set_ne e]at d
   rw[if_neg (fun h=>e h.symm)];exact(f.back j y d).ch c (fun g a r=>by
    have n:=f.kb j y d g a;rw[p g r,f.k]at n;cases n)
 ·intro j y d g a
  change(if j=i then v else Y.wv j).ownBlock=some g at a;by_cases e:j=i
  ·rw[if_pos e]at a;exact im g a
  ·rw[if_neg e]at a
   rw[List.getElem?_set_ne (fun h=>e h.symm)]at d;exact(s.same _ (cE (f.back j y d) a)).trans (f.kb j y d g a)
theorem ae.wg(h:ae w χ L Y C K)(a:i<K.wk.length)(j:Nat)(p:j<38)(m:x.f=(K.W i).f)(t:((K.W i).cells (Y.wv i)).set j v=x.cells (Y.wv i)):
 ∃aY Y',dD χ L Y C K (K.bj i x) w aY Y' (w.setCell (L.wb,i*38+j) v):=by
 have d:=h.wk (by simp);have s:Row (w.setCell (L.wb,i*38+j) v) L.wb 95 (((dj K.wk Y.wv).set i (x,Y.wv i)).flatMap fC):=d.is.put (enc:=fun x:aC×Value=>x.1.cells x.2) aC.len (kj (KS.ha a)) p t;have l:Ch (aH L.wb) w (w.setCell (L.wb,i*38+j) v):=ay;obtain⟨aY,Y',r,_⟩:=h.Dz a s (by
  rw[m];exact(d.back i _ (KS.ha a)).ch l (fun g n e=>by
   have f:=d.kb i _ (KS.ha a) g n;rw[show g=L.wb from e,d.k]at f;cases f)) (aS.refl _ _) l (fun k q=>q)
 exact⟨aY,Y',r⟩
theorem ae.wj(h:ae w χ L Y C K)(a:i<K.wk.length)(v:Int):∃aY Y',dD χ L Y C K (K.bj i {K.W i with slot:=v}) w aY Y' (w.setCell (L.wb,i*38) (.int .u64 v)):=h.wg a 0 (by omega) rfl rfl
theorem ae.jT(h:ae w χ L Y C K)(a:i<K.wk.length)(v:Int):∃aY Y',dD χ L Y C K (K.bj i {K.W i with hand:=v}) w aY Y' (w.setCell (L.wb,i*38+1) (.int .u64 v)):=h.wg a 1 (by omega) rfl rfl
theorem ae.pH(h:ae w χ L Y C K)(a:i<K.wk.length)(v:Bool):∃aY Y',dD χ L Y C K (K.bj i {K.W i with parked:=v}) w aY Y' (w.setCell (L.wb,i*38+2) (.bool v)):=h.wg a 2 (by omega) rfl rfl
theorem ae.wm(h:ae w χ L Y C K)(a:i<K.wk.length)(v:Int):∃aY Y',dD χ L Y C K (K.bj i {K.W i with left:=v}) w aY Y' (w.setCell (L.wb,i*38+3) (.int .i64 v)):=h.wg a 3 (by omega) rfl rfl
def aj(K:KS):cJ->Prop
 |.own i=>i<K.wk.length
 |.ai id k=>∃t,aw K.ai id=some t/\k<t.l.length
def qL:cJ->TypeId
 |.own _=>95
 |.ai _ _=>169
theorem kY(c:cJ):qL c≠3:=by
 cases c with
 |own _=>exact(by decide:(95:TypeId)≠3)
 |ai _ _=>exact(by decide:(169:TypeId)≠3)
def aR(L:cU)(Y:Var):cJ->Nat->Nat->Prop
 |.own i,b,o=>b=L.wb/\o=i*38+4
 |.ai id k,b,o=>b=Y.fb id k/\o=0
theorem aR.yk{Y':Var}(h:aR L Y c b o)(a:aj K c)(f:Yk K Y Y'):aR L Y' c b o:=by
 cases c with
 |own i=>exact h
 |ai id k=>
  obtain⟨t,e,d⟩:=a;exact⟨h.1.trans ((f id t e).2 k d).symm,h.2⟩
theorem aj.gr{K':KS}(a:aj K c)(d:Gr K K')(g:K'.wk.length=K.wk.length):aj K' c:=by
 cases c with
 |own i=>show i<_;rw[g];exact a
 |ai id k=>
  obtain⟨t,e,j⟩:=a;obtain⟨h,f,l⟩:=d id t e;exact⟨h,f,by omega⟩
theorem ae.cur(h:ae w χ L Y C K)(a:aj K c)(e:aR L Y c b o):∃pre post v,aJ w b o (qL c) pre post v (K.F c):=by
 cases c with
 |own i=>
  obtain⟨rfl,rfl⟩:=e;obtain⟨pre,post,g,_⟩:=h.ur a;exact⟨_,_,_,g⟩
 |ai id k=>
  obtain⟨rfl,rfl⟩:=e;obtain⟨t,f,d⟩:=a;have:=h.fr id t k _ f (List.getElem?_eq_getElem d) (by simp);refine⟨[],(t.l[k]).post,Y.bv id k,?_⟩;rw[show K.F (.ai id k)=(t.l[k]).f from by
   show((K.T id).l.getD k default).f=_
   rw[KS.dm f,List.getD_eq_getElem?_getD,List.getElem?_eq_getElem d];rfl]
  exact this.is
theorem ae.z1(h:ae w χ L Y C K)(p:aj K c)(H:aR L Y c b o){pre post:List Value}{v':Value}{f:cP}(n:aJ w b o (qL c) pre post v (K.F c))(q:aJ w' b o (qL c) pre post v' f)(G:aS w v v')(E:Ch (aH b) w w'):
 ∃aY Y',dD χ L Y C K (K.cI c f) w aY Y' w':=by
 cases c with
 |own i=>
  obtain⟨rfl,rfl⟩:=H;obtain⟨I,R,F,B,P⟩:=h.ur p;have hlen:pre.length=I.length:=by rw[n.len,F.len]
  have y:pre++((K.W i).f.cells v++post)=I++((K.W i).f.cells (Y.wv i)++R):=by
   have d:=n.row;have a:=F.row;unfold Row at d a;rw[d]at a;injection a with a
   injection a with a _ _
   exact congrArg Array.toList a
  obtain⟨rfl,M⟩:=List.append_inj y hlen;obtain⟨z,rfl⟩:=List.append_inj M (by rw[cP.db,cP.db]);have D:v=Y.wv i:=by
   have d:=congrArg (fun l=>l[33]?) z;have m:∀u,((K.W i).f.cells u)[33]?=some u:=fun u=>by
    unfold cP.cells;rw[List.getElem?_cons_succ,List.getElem?_append_right (by rw[bz];omega),bz];rfl
   simp only[m]at d;exact Option.some.inj d
  subst D;have T:=h.wk (by simp);obtain⟨aY,Y',O,_⟩:=h.Dz (x:={K.W i with f:=f}) (v:=v') p (by
   have:=q.row;rw[B,P]at this;change Row w' L.wb 95 _ at this;have Q:((dj K.wk Y.wv).set i ({K.W i with f:=f},v')).flatMap fC=((dj K.wk Y.wv).take i).flatMap fC++(fC ({K.W i with f:=f},v')++((dj K.wk Y.wv).drop (i+1)).flatMap fC):=by
    have A:i<(dj K.wk Y.wv).length:=(by rw[nZ];exact p);rw[se (enc:=fC) (l:=(dj K.wk Y.wv).set i ({K.W i with f:=f},v')) (i:=i) (List.getElem?_set_self A)];rw[List.take_set_of_le (Nat.le_refl _),List.drop_set_of_lt (by omega)]
   rw[Q];unfold fC aC.cells at this⊢;simpa[List.append_assoc]using this) q.back G E (fun k e=>e)
  exact⟨aY,Y',O⟩
 |ai id k=>
  obtain⟨rfl,rfl⟩:=H;obtain⟨t,r,e⟩:=p;have hF:=h.fr id t k _ r (List.getElem?_eq_getElem e) (by simp);have J:K.F (.ai id k)=(t.l[k]).f:=by
   show((K.T id).l.getD k default).f=_
   rw[KS.dm r,List.getD_eq_getElem?_getD,List.getElem?_eq_getElem e];rfl
  rw[J]at n;have B:pre=[]:=List.eq_nil_of_length_eq_zero n.len;subst B;have y:(t.l[k]).f.cells v++post=(t.l[k]).f.cells (Y.bv id k)++(t.l[k]).post:=by
   have d:=n.row;have a:=hF.is.row;unfold Row at d a;rw[d]at a;injection a with a
   injection a with a _ _
   simpa using congrArg Array.toList a
  obtain⟨z,rfl⟩:=List.append_inj y (by rw[cP.db,cP.db]);have D:v=Y.bv id k:=by
   have d:=congrArg (fun l=>l[33]?) z;have m:∀u,((t.l[k]).f.cells u)[33]?=some u:=fun u=>by
    unfold cP.cells;rw[List.getElem?_cons_succ,List.getElem?_append_right (by rw[bz];omega),bz];rfl
   simp only[m]at d;exact Option.some.inj d
  subst D;have s:eT [.fr id k] χ (cN χ v'.ownBlock .back) (aH (Y.fb id k)) w w':=eT.cN E (fun i _ A=>by rw[show i=Y.fb id k from A];simp[hF.kf]) h.small G hF.kb (fun g N=>cE q.back N);refine⟨_,{Y with bv:=fun i j=>if i=id/\j=k then v' else Y.bv i j},⟨?_,Nx.of s (by simp),?_⟩⟩
  ·have:=(h.step s (by simp)).HG (f:={t.l[k]with f:=f}) r e ⟨q,(s.same _ hF.is.row.lt).trans hF.kf,im⟩
   have m:t.l.getD k default=t.l[k]:=(by rw[List.getD_eq_getElem?_getD,List.getElem?_eq_getElem e];rfl);rw[<-m,<-KS.dm r]at this;exact this
  ·intro j u S;exact⟨rfl,fun _ _=>rfl⟩
theorem br(c:cJ)(f:cP):(K.cI c f).wk.length=K.wk.length:=by cases c<;>simp[KS.cI,KS.bj,KS.cp]
theorem bA(g:aj K c)(f:cP):Gr K (K.cI c f):=by
 cases c with
 |own i=>exact Gr.of_eq rfl
 |ai id k=>
  obtain⟨t0,d,l⟩:=g;intro j u a;show∃h,aw (cn K.ai id _) j=some h/\_
  rw[aV];by_cases e:j=id
  ·subst e
   rw[d]at a;injection a with a;subst a
   rw[if_pos rfl];exact⟨_,rfl,by simp[KS.dm d]⟩
  ·rw[if_neg e];exact⟨u,a,Nat.le_refl _⟩
theorem Eh(a:aj K c)(f:cP):(K.cI c f).F c=f:=by
 cases c with
 |own i=>
  show((K.bj i _).W i).f=f
  rw[KS.Cs (x:={K.W i with f:=f}) (by show(K.wk.set i _)[i]?=_;rw[List.getElem?_set_self a])]
 |ai id k=>
  obtain⟨t0,e,d⟩:=a;show(((K.cp id _).T id).l.getD k default).f=f
  rw[KS.dm (K:=K.cp id _) (t:={K.T id with l:=(K.T id).l.set k {(K.T id).l.getD k default with f:=f}}) (by show aw (cn _ _ _) _=_;rw[aV,if_pos rfl])];rw[List.getD_eq_getElem?_getD,List.getElem?_set_self (by rw[KS.dm e];exact d)];rfl
theorem ae.a7(h:ae w χ L Y C K)(a:aj K c)(e:aR L Y c b o)(k:Nat)(f:k<32)(x:Int):∃aY Y',dD χ L Y C K (K.ax c k x) w aY Y' (w.setCell (b,o+1+k) (.int .u64 x)):=by
 obtain⟨pre,post,v,d⟩:=h.cur a e;exact h.z1 a e d (d.qu (kY c) k f x) (aS.refl _ _) ay
theorem ae.qM(h:ae w χ L Y C K)(a:aj K c)(e:aR L Y c b o)(p:Int):∃aY Y',dD χ L Y C K (K.cI c {K.F c with pc:=p}) w aY Y' (w.setCell (b,o) (.int .i64 p)):=by
 obtain⟨pre,post,v,d⟩:=h.cur a e;exact h.z1 a e d (d.j0 (kY c) p) (aS.refl _ _) ay
theorem ae.aA(h:ae w χ L Y C K)(a:aj K c)(f:aR L Y c b o)(k:Nat)(e:k<32):w.cell? (b,o+1+k)=some (.int .u64 ((K.F c).r k)):=by
 obtain⟨pre,post,v,d⟩:=h.cur a f;exact d.mD k e
theorem ae.uu(h:ae w χ L Y C K)(a:aj K c)(e:aR L Y c b o):w.cell? (b,o)=some (.int .i64 (K.F c).pc):=by
 obtain⟨pre,post,v,d⟩:=h.cur a e;exact d.lL
theorem ae.hy(h:ae w χ L Y C K)(a:aj K c)(e:aR L Y c b o)(i:Nat):w.frozen? (b,i)=false:=by
 obtain⟨pre,post,v,d⟩:=h.cur a e;exact d.free i
section
variable{at_ dr en id wn:Int}{w4:World}{cap g k m:Nat}{t:Thread}{f:Frame}
theorem n3{L:cU}{C:KC}{ov:Value}{nw:Nat}(a:C.rows.length=1000)(j:Nat)(v:Value):(cG L ov C nw en at_ wn dr).set (1007+j) v=kV C L++(C.rows.map (Value.int .i64)++(hx L ov nw en at_ wn dr).set j v):=by
 unfold cG;rw[List.set_append_right _ _ (by show 7<=_;omega),List.set_append_right _ _ (by rw[List.length_map,a];show 1000<=1007+j-7;omega)]
 congr 3
 rw[List.length_map,a];show 1007+j-7-1000=j;omega
section
variable{w w':World}{χ:Nat->a'}{L:cU}{Y:Var}{C:KC}{K:KS}
theorem ae.wo(h:ae w χ L Y C K)(j:Nat)(v:Value)(b:(hx L Y.ov K.wk.length K.entries K.at_ K.w K.draw).set j v=hx L Y.ov K.wk.length en at_ wn dr):
 dD χ L Y C K {K with entries:=en,at_:=at_,w:=wn,draw:=dr} w χ Y (w.setCell (L.mb,1007+j) v):=by
 have a:=h.head (by simp);have c:Ch (aH L.mb) w (w.setCell (L.mb,1007+j) v):=ay;have s:eT [.gL] χ χ (aH L.mb) w (w.setCell (L.mb,1007+j) v):=eT.one c (fun i d=>by rw[show i=L.mb from d];simp[a.k]) h.small;refine⟨(h.step s (by simp)).FF ⟨a.row.bc _ _ ?_,a.rows,a.k⟩,Nx.of s (by simp),Yk.refl _ _⟩;rw[n3 a.rows,b];rfl
theorem ae.Ei(h:ae w χ L Y C K)(v:Int):dD χ L Y C K {K with entries:=v} w χ Y (w.setCell (L.mb,1016) (.int .i64 v)):=h.wo 9 _ rfl
theorem ae.setAt(h:ae w χ L Y C K)(v:Int):dD χ L Y C K {K with at_:=v} w χ Y (w.setCell (L.mb,1017) (.int .i64 v)):=h.wo 10 _ rfl
theorem ae.DA(h:ae w χ L Y C K)(v:Int):dD χ L Y C K {K with w:=v} w χ Y (w.setCell (L.mb,1018) (.int .i64 v)):=h.wo 11 _ rfl
theorem ae.Ct(h:ae w χ L Y C K)(v:Int):dD χ L Y C K {K with draw:=v} w χ Y (w.setCell (L.mb,1019) (.int .u64 v)):=h.wo 12 _ rfl
theorem ae.FQ(h:ae w χ L Y C K){e:Ev}(l:w4.ownsRow 0 159 11 (.slice (some (g,0)) (K.out.length+1) cap) (K.out.length+1) (K.out.flatMap Ev.cells++e.cells))
 (B:w.grownBy w4 Y.ov.ownBlock) (z:Y.ov.ownBlock=some g∨w.heap.size<=g):
 ∃aY Y',dD χ L Y C K {K with out:=K.out++[e]} w aY Y' (w4.setCell (L.mb,1020) (.slice (some (g,0)) (K.out.length+1) cap)):=by
 have a:=h.head (by simp);have j:=h.out (by simp);obtain⟨v,n⟩:=mn (Value.slice (some (g,0)) (K.out.length+1) cap);rw[<-n]at l⊢;have o:=Ch.bK B;have u:=a.row.ch o (aZ j.is a.row (by decide));have x:v.ownBlock=some g:=by rw[n];rfl
 have A:L.mb≠g:=fun e=>aZ l u (by decide) (by rw[x,e])
 have c:Ch (fun i=>i=L.mb∨Y.ov.ownBlock=some i) w (w4.setCell (L.mb,1020) v):=(o.mono (E:=fun i=>i=L.mb∨Y.ov.ownBlock=some i) fun i b=>Or.inr b).hj (p:=⟨L.mb,1020,none⟩) (Or.inl rfl) _;have r:(w4.setCell (L.mb,1020) v).ownsRow 0 159 11 v (K.out++[e]).length ((K.out++[e]).flatMap Ev.cells):=by
  rw[List.length_append,List.length_cons,List.length_nil,List.flatMap_append,show [e].flatMap Ev.cells=e.cells from by simp];exact ak (D:=aH L.mb) l ay (fun k d y=>by
   rw[x]at d;injection d with d
   exact A ((show k=L.mb from y)▸d.symm▸rfl))
 have s:eT [.gL,.out] χ (cN χ v.ownBlock .out) (fun i=>i=L.mb∨Y.ov.ownBlock=some i) w (w4.setCell (L.mb,1020) v):=
  eT.cN c (fun i _ b=>by
   rcases b with rfl|b
   ·simp[a.k]
   ·simp[j.k i b]) h.small (by rw[n];exact aS.at z) j.k (fun q F=>cE r F)
 refine⟨_,{Y with ov:=v},(h.step s (by simp)).sa ⟨?_,a.rows,(s.same _ a.row.lt).trans a.k⟩ ⟨r,im⟩,Nx.of s (by simp),Yk.refl _ _⟩;refine u.bc _ _ ?_;have:=n3 (L:=L) (C:=C) (ov:=Y.ov) (nw:=K.wk.length) (en:=K.entries) (at_:=K.at_) (wn:=K.w) (dr:=K.draw) a.rows 13 v;rw[this];rfl
theorem ae.gw(h:ae w χ L Y C K)(a:aw K.ai id=some t):w.cell? (Y.bI id,0)=some (.int .u64 t.id):=(h.th id t a (by simp)).is.cell (i:=0) rfl
theorem ae.DB(h:ae w χ L Y C K)(a:aw K.ai id=some t):w.cell? (Y.bI id,1)=some (Y.lv id):=(h.th id t a (by simp)).is.cell (i:=1) rfl
theorem ae.FR(h:ae w χ L Y C K)(a:aw K.ai id=some t):w.cell? (Y.bI id,2)=some (.int .u64 t.eY):=(h.th id t a (by simp)).is.cell (i:=2) rfl
theorem ae.sf(h:ae w χ L Y C K)(a:aw K.ai id=some t)(j:Nat):w.frozen? (Y.bI id,j)=false:=(h.th id t a (by simp)).is.free j
theorem ae.hz(h:ae w χ L Y C K)(b:aw K.ai id=some t)(v:Int):dD χ L Y C K (K.cp id {t with eY:=v}) w χ Y (w.setCell (Y.bI id,2) (.int .u64 v)):=by
 have a:=h.th id t b (by simp);have c:Ch (aH (Y.bI id)) w (w.setCell (Y.bI id,2) (.int .u64 v)):=ay;have s:eT [.th id] χ χ (aH (Y.bI id)) w (w.setCell (Y.bI id,2) (.int .u64 v)):=eT.one c (fun i d=>by rw[show i=Y.bI id from d];simp[a.k]) h.small;exact⟨(h.step s (by simp)).HF b rfl ⟨a.is.bc _ _ rfl,a.k⟩,Nx.of s (by simp),Yk.refl _ _⟩
theorem z6(l:List (Int×Thread))(g:Int->Nat)(id:Int):aw (l.map fun x=>(x.1,g x.1)) id=(aw l id).map fun _=>g id:=by
 induction l with
 |nil=>rfl
 |cons x l ih=>
  rw[List.map_cons,da,da];by_cases e:id=x.1
  ·simp[e]
  ·simp only[if_neg e];exact ih
theorem ae.look(h:ae w χ L Y C K)(id:Int):(Instr.lookup 71 (.map (some L.tm)) (.int .u64 id) false).run prog w=.ok (((aw K.ai id).map fun _=>bk (Y.bI id)).getD (.pointer none)) w:=by
 have:=ft (P:=prog) (w:=w) (T:=71) (K:=22) (E:=161) (z:=.pointer none) underlying71 underlying22 (by kernel_rfl) (h.tm (by simp)).is id;rw[z6,Option.map_map]at this;exact this
theorem ae.hV(h:ae w χ L Y C K)(j:aw K.ai id=some t)(i:0<t.l.length):
 ∃g cap,Y.lv id=.slice (some ⟨g,0,none⟩) t.l.length cap/\t.l.length<=cap/\∀k,k<t.l.length->w.cell? ⟨g,k,none⟩=some (.pointer (some ⟨Y.fb id k,0,none⟩)):=by
 have e:=h.tl id t j (by simp);obtain⟨g,cap,l,b,_,c,_,d,_⟩:=aE e.is i;refine⟨g,cap,b,c,fun k a=>d.cell ?_⟩;rw[List.getElem?_append_left (by simpa using a)];simp[a,bk]
theorem ae.sg(h:ae w χ L Y C K)(c:aw K.ai id=some t)(b:t.l[k]?=some f):w.cell? (Y.fb id k,34)=some (.bool f.cg):=by
 have a:=h.fr id t k f c b (by simp);refine a.is.row.cell ?_;rw[List.nil_append,List.getElem?_append_right (by rw[cP.db];omega),cP.db];rfl
theorem ae.FT(h:ae w χ L Y C K)(c:aw K.ai id=some t)(b:t.l[k]?=some f):w.cell? (Y.fb id k,35)=some (.int .i64 f.num):=by
 have a:=h.fr id t k f c b (by simp);refine a.is.row.cell ?_;rw[List.nil_append,List.getElem?_append_right (by rw[cP.db];omega),cP.db];rfl
theorem xE{w:World}{B:Nat}{e:TypeId}{n:Nat}{xs:List Value}(h:w.ownsRow B e 1 (.slice (some (g,0)) n cap) n xs)(s:m<=n):w.ownsRow B e 1 (.slice (some (g,0)) m cap) m (xs.take m):=by
 have u:=h.1;rcases h.2 with⟨a,_⟩|⟨g',p,cur,d,c,i,r,j,l,o⟩
 ·cases a
 ·injection d with a q b
  injection a with a
  injection a with a
  subst a b;refine⟨by rw[List.length_take];omega,Or.inr ⟨g,cap,cur,rfl,c,i,by omega,j,l,?_⟩⟩;rw[<-o,List.take_take]
  congr 1;omega
theorem ae.FU(h:ae w χ L Y C K)(n:aw K.ai id=some t)(u:Y.lv id=.slice (some (g,0)) t.l.length cap)(d:m<=t.l.length):
 ∃Y',dD χ L Y C K (K.cp id {t with l:=t.l.take m}) w χ Y' (w.setCell (Y.bI id,1) (.slice (some (g,0)) m cap))/\Yk K Y Y':=by
 have a:=h.th id t n (by simp);have b:=h.tl id t n (by simp);obtain⟨v,o⟩:=mn (Value.slice (some (g,0)) m cap);have r:v.ownBlock=(Y.lv id).ownBlock:=by rw[o,u];rfl
 have z:w.ownsRow 0 167 1 v m ((List.range m).map fun k=>bk (Y.fb id k)):=by
  have:=b.is;rw[u]at this;have:=xE this d;rw[<-List.map_take,List.take_range,Nat.min_eq_left d,<-o]at this;exact this
 rw[<-o];have c:Ch (aH (Y.bI id)) w (w.setCell (Y.bI id,1) v):=ay;have s:eT [.th id] χ χ (aH (Y.bI id)) w (w.setCell (Y.bI id,1) v):=eT.one c (fun i y=>by rw[show i=Y.bI id from y];simp[a.k]) h.small;have x:Yk K Y {Y with lv:=fun i=>if i=id then v else Y.lv i}:=fun _ _ _=>⟨rfl,fun _ _=>rfl⟩
 refine⟨{Y with lv:=fun i=>if i=id then v else Y.lv i},⟨(h.step s (by simp)).GV n d ⟨a.is.bc _ _ rfl,a.k⟩ ⟨ak z c (fun q j e=> ?_),fun q j=>b.k q (r▸j)⟩,Nx.of s (by simp),x⟩,x⟩;have p:=b.k q (r▸j);rw[show q=Y.bI id from e,a.k]at p;cases p
theorem ae.DC(h:ae w χ L Y C K)(N:aw K.ai id=some t){bv:Value}{fb:Nat}
 (T:aJ w fb 0 169 [] f.post bv f.f) (F:χ fb=.no) (S:bv.ownBlock=none)
 (O:w4.ownsRow 0 167 1 (.slice (some (g,0)) (t.l.length+1) cap) (t.l.length+1) (((List.range t.l.length).map fun k=>bk (Y.fb id k))++[bk fb]))
 (a4:w.grownBy w4 (Y.lv id).ownBlock) (Z:(Y.lv id).ownBlock=some g∨w.heap.size<=g):
 ∃aY Y',ae (w4.setCell (Y.bI id,1) (.slice (some (g,0)) (t.l.length+1) cap)) aY L Y' C (K.cp id {t with l:=t.l++[f]})/\
  (∀i,i<w.heap.size->i≠fb->aY i=χ i)/\Yk K Y Y'/\Ch (fun i=>χ i≠ .no) w (w4.setCell (Y.bI id,1) (.slice (some (g,0)) (t.l.length+1) cap)):=by
 have A:=h.th id t N (by simp);have J:=h.tl id t N (by simp);obtain⟨v,Q⟩:=mn (Value.slice (some (g,0)) (t.l.length+1) cap);rw[<-Q]at O⊢;have H:v.ownBlock=some g:=by rw[Q];rfl
 have R:=Ch.bK a4;have W:=A.is.ch R (aZ J.is A.is (by decide));have a0:Y.bI id≠g:=fun e=>aZ O W (by decide) (by rw[H,e])
 have a3:fb<w.heap.size:=T.row.lt;have c:Ch (fun i=>i=Y.bI id∨(Y.lv id).ownBlock=some i) w (w4.setCell (Y.bI id,1) v):=(R.mono (E:=fun i=>i=Y.bI id∨(Y.lv id).ownBlock=some i) fun i o=>Or.inr o).hj (p:=⟨Y.bI id,1,none⟩) (Or.inl rfl) _;have P:(w4.setCell (Y.bI id,1) v).ownsRow 0 167 1 v (t.l.length+1) (((List.range t.l.length).map fun k=>bk (Y.fb id k))++[bk fb]):=
  ak (D:=aH (Y.bI id)) O ay (fun k y X=>by
   rw[H]at y;injection y with y
   exact a0 ((show k=Y.bI id from X)▸y.symm▸rfl))
 have s:eT [.th id,.tl id] χ (cN χ v.ownBlock (.tl id)) (fun i=>i=Y.bI id∨(Y.lv id).ownBlock=some i) w (w4.setCell (Y.bI id,1) v):=
  eT.cN c (fun i _ o=>by
   rcases o with rfl|o
   ·simp[A.k]
   ·simp[J.k i o]) h.small (by rw[Q];exact aS.at Z) J.k (fun q n=>cE P n)
 have U:aJ (w4.setCell (Y.bI id,1) v) fb 0 169 [] f.post bv f.f:=T.ch c (by
  rintro(e|e)
  ·rw[e,A.k]at F;cases F
  ·rw[J.k fb e]at F;cases F) (fun q n=>by rw[S]at n;cases n)
 have V:g≠fb:=fun e=>aZ P U.row (by decide) (by rw[H,e])
 have base:=h.step s (by simp);have a2:cN χ v.ownBlock (.tl id) fb=.no:=by unfold cN;rw[H,if_neg (by simpa using V)];exact F
 have ab:eT [.no] (cN χ v.ownBlock (.tl id)) (fun i=>if i=fb then .fr id t.l.length else cN χ v.ownBlock (.tl id) i) ag (w4.setCell (Y.bI id,1) v) (w4.setCell (Y.bI id,1) v)->True:=fun _=>trivial
 have a5:∀i,i≠fb->(if i=fb then a'.fr id t.l.length else cN χ v.ownBlock (.tl id) i)=cN χ v.ownBlock (.tl id) i:=fun i o=>if_neg o
 have a:∀{i:Nat} {k:a'},cN χ v.ownBlock (.tl id) i=k->k≠ .no->(if i=fb then a'.fr id t.l.length else cN χ v.ownBlock (.tl id) i)=k:=fun {i k} z B=>by
  rw[if_neg (fun e=>B (by rw[<-z,e,a2]))];exact z
 have M:MB [.th id,.tl id] (w4.setCell (Y.bI id,1) v) (fun i=>if i=fb then .fr id t.l.length else cN χ v.ownBlock (.tl id) i) L Y C K:={
  head:=fun d=>⟨(base.head (by simpa using d)).row,(base.head (by simpa using d)).rows,a (base.head (by simpa using d)).k (by simp)⟩
  mem:=fun d=>⟨(base.mem (by simp)).is,a (base.mem (by simp)).k1 (by simp),a (base.mem (by simp)).k2 (by simp),a (base.mem (by simp)).k3 (by simp)⟩
  al:=fun d=>⟨(base.al (by simp)).is,a (base.al (by simp)).k1 (by simp),fun q n=>a ((base.al (by simp)).k2 q n) (by simp)⟩
  b2:=fun d=>⟨(base.b2 (by simp)).is,a (base.b2 (by simp)).k1 (by simp),a (base.b2 (by simp)).k2 (by simp),a (base.b2 (by simp)).k3 (by simp),a (base.b2 (by simp)).k4 (by simp),fun q n=>a ((base.b2 (by simp)).k5 q n) (by simp)⟩
  ring:=fun d=>⟨(base.ring (by simp)).is,a (base.ring (by simp)).k1 (by simp),a (base.ring (by simp)).k2 (by simp)⟩
  q:=fun d=>⟨(base.q (by simp)).is,(base.q (by simp)).b1,fun i o=>a ((base.q (by simp)).k i o) (by simp)⟩
  cZ:=fun d=>⟨(base.cZ (by simp)).is,a (base.cZ (by simp)).k1 (by simp),a (base.cZ (by simp)).k2 (by simp)⟩
  obj:=fun d=>⟨(base.obj (by simp)).is,a (base.obj (by simp)).k1 (by simp),a (base.obj (by simp)).k2 (by simp)⟩
  tm:=fun d=>⟨(base.tm (by simp)).is,a (base.tm (by simp)).k (by simp),(base.tm (by simp)).nd⟩
  th:=fun j u r d=>⟨(base.th j u r d).is,a (base.th j u r d).k (by simp)⟩
  tl:=fun j u r d=>⟨(base.tl j u r d).is,fun q n=>a ((base.tl j u r d).k q n) (by simp)⟩
  fr:=fun j u k f' r y d=>⟨(base.fr j u k f' r y d).is,a (base.fr j u k f' r y d).kf (by simp),fun q n=>a ((base.fr j u k f' r y d).kb q n) (by simp)⟩
  wk:=fun d=>⟨(base.wk (by simp)).is,a (base.wk (by simp)).k (by simp),(base.wk (by simp)).back,fun i x G q n=>a ((base.wk (by simp)).kb i x G q n) (by simp),(base.wk (by simp)).n⟩
  out:=fun d=>⟨(base.out (by simp)).is,fun q n=>a ((base.out (by simp)).k q n) (by simp)⟩
  code:=fun d=>{
   m4:=(base.code (by simp)).m4
   jo:=(base.code (by simp)).jo
   m5:=(base.code (by simp)).m5
   cg:=fun G=>by obtain⟨q,z,B,I⟩:=(base.code (by simp)).cg G;exact⟨q,z,B,a I (by simp)⟩
   prog:=fun G=>by obtain⟨q,z,B,I⟩:=(base.code (by simp)).prog G;exact⟨q,z,B,a I (by simp)⟩
   calls:=fun G=>by obtain⟨q,j,z,B,I⟩:=(base.code (by simp)).calls G;exact⟨q,j,z,B,a I (by simp)⟩}
  small:=fun i o=>by
   by_cases e:i=fb
   ·subst e;exact Nat.lt_of_lt_of_le a3 c.size
   ·rw[a5 i e]at o;exact base.small i o}
 have a1:Y.bI id≠fb:=fun e=>by rw[<-e,A.k]at F;cases F
 have a9:Yk K Y {Y with lv:=fun i=>if i=id then v else Y.lv i,fb:=fun i j=>if i=id/\j=t.l.length then fb else Y.fb i j,bv:=fun i j=>if i=id/\j=t.l.length then bv else Y.bv i j}:=fun j u r=>⟨rfl,fun k y=>by
  show(if j=id/\k=t.l.length then fb else Y.fb j k)=Y.fb j k
  rw[if_neg];rintro⟨rfl,rfl⟩;rw[N]at r;injection r with r;subst r;omega⟩
 refine⟨_,_,M.FG (v:=v) (bv':=bv) (b:=fb) (f:=f) N ⟨?_,?_⟩ ⟨?_,?_⟩ ⟨U,by simp,fun q n=>by rw[S]at n;cases n⟩,?_,a9,?_⟩
 ·exact W.bc _ _ rfl
 ·rw[if_neg a1];exact(s.same _ A.is.lt).trans A.k
 ·have:((List.range (t.l.length+1)).map fun k=>bk (if k=t.l.length then fb else Y.fb id k))=((List.range t.l.length).map fun k=>bk (Y.fb id k))++[bk fb]:=by
   rw[List.range_succ,List.map_append]
   congr 1
   ·apply List.map_congr_left
    intro k y;rw[if_neg (by have:=List.mem_range.1 y;omega)]
   ·simp
  rw[this];exact P
 ·intro q n
  rw[H]at n;injection n with n
  subst n;rw[if_neg V];unfold cN;rw[if_pos H]
 ·intro i o d
  rw[if_neg d];exact s.same i o
 ·refine c.mono fun i o=> ?_
  rcases o with rfl|o
  ·rw[A.k];simp
  ·rw[J.k i o];simp
end
theorem ae.fresh{w:World}{χ:Nat->a'}{L:cU}{Y:Var}{C:KC}{K:KS}(h:ae w χ L Y C K){i:Nat}(b:w.heap.size<=i):χ i=.no:=by
 cases a:χ i with
 |no=>rfl
 |_=>exact absurd (h.small i (by rw[a];simp)) (by omega)
theorem ae.pre{w:World}{χ:Nat->a'}{L:cU}{Y:Var}{C:KC}{K:KS}(h:ae w χ L Y C K)(n a b c e d i:Int):∃w0,w.alloc (.cells #[n,a,b,c,.int .u64 e,d,i] 152)=w0/\Hid (Ch ag w w0)/\Hid (dD χ L Y C K K w χ Y w0)/\Hid (Row w0 w.heap.size 152 [n,a,b,c,.int .u64 e,d,i]/\χ w.heap.size=.no):=
 ⟨_,rfl,ay,h.gU ay,Row.new w _ _,h.fresh (Nat.le_refl _)⟩
theorem ae.sh{w:World}{χ:Nat->a'}{L:cU}{Y:Var}{C:KC}{K:KS}(h:ae w χ L Y C K)(n a b c e d i:Int):∃w0,w.alloc (.cells #[n,a,b,c,.int .u64 e,d,i] 152)=w0/\Hid (Ch ag w w0)/\Hid (dD χ L Y C K K w χ Y w0)/\Hid (Row w0 w.heap.size 152 [n,a,b,c,.int .u64 e,d,i]):=
 ⟨_,rfl,ay,h.gU ay,Row.new w _ _⟩
end
theorem fg(n:Int)(t:TypeId)(x:Value)(w:World):Calls prog 39 #[n,.iface t x] w (fun e w'=>e=.returned (.iface 185 (.pointer (some (w.heap.size,0))))/\w.alloc (.cells #[.string ⟨#[107,101,114,110]⟩,n,.iface t x] 187)=w'):=by
 go_wp2
 go_ret;exact⟨rfl,rfl⟩
theorem z7(op:Int)(w:World):Calls prog 144 #[op] w (ez (.bool (i' op)) w):=by
 have f:=Z (nB op);obtain⟨p,g⟩:=nm (e5 op);have E:Hid (i' op=p.1):=Z (by unfold i';rw[g]);rw[g]at f;obtain⟨a,b,c,d⟩:=p;go_in
 go_wp2_with (go_at_call 163;refine(f _).mono ?_;rintro e w' ⟨rfl,rfl⟩)
 go_ret;rw[E];exact ez.mk rfl
theorem lS(i:Int)(a:0<=i)(b:i<=100)(p:Value)(w:World):Calls prog 82 #[p,i] w (ez (.int .u64 (gv i)) w):=by
 have E:Hid (gv i=17+3*i):=Z (by unfold gv IntKind.wrap IntKind.bits IntKind.signed;simp;omega);go_wp2
 go_ret;rw[E];exact ez.mk rfl
theorem lT(h:ae w χ L Y C K):Calls prog 24 #[(L.mb,0)] w (ez (.int .i64 (gT K)) w):=by
 have c:=h.qH;have a:K.wk.length<=64:=(h.wk (by simp)).n;have b:(K.wk.length:Int)<=64:=by omega
 obtain⟨n,a⟩:=nm K.wk.length;have E:Hid (gT K=17+8*(n:Int)):=Z (by unfold gT;rw[a]);rw[a]at c b;go_wp2
 go_ret;rw[E];exact ez.mk rfl
theorem n4(h:ae w χ L Y C K)(hb:0<=C.wide/\C.wide<=256/\0<=C.narrow/\C.narrow<=256):Calls prog 84 #[(L.mb,0)] w (fun e w'=>e=.returned (.int .i64 C.cells)/\∃n,w'=w.drewN n):=by
 have a:=h.c5;have b:=h.c6;obtain⟨c,d,f,g⟩:=hb;have i:IntKind.i64.wrap (C.wide+C.narrow)=C.wide+C.narrow:=IntWalk.i64_in _ (by omega);go_wp2
 go_quiet (fail)
 go_wp2
 go_ret;exact⟨rfl,nq,rfl⟩
theorem dd(id:Int)(hid:aK id)(h:ae w χ L Y C K):Calls prog 58 #[(L.mb,0),.int .u64 id] w (ds (.int .i64 (cz K id)) w):=by
 have c:=h.ee;have a:=Z (kW id hid h);obtain⟨t,b⟩:=nm (fx K.table id);rw[b]at a;have E:Hid (cz K id=t.1.state):=Z (by unfold cz;rw[b]);obtain⟨⟨t0,t1,t2,t3,t4,t5,t6⟩,tb⟩:=t;unfold iD.val at a;dsimp only at a E;go_in
 go_wp2_with (refine a.mono ?_;rintro e w' ⟨rfl,f⟩;have d:=Z f)
 go_ret;rw[E];exact⟨rfl,d.alloc _⟩
theorem fh(id:Int)(hid:aK id)(h:ae w χ L Y C K):Calls prog 59 #[(L.mb,0),.int .u64 id] w (dk (.tuple #[]) χ L Y C K (cr K id) w):=by
 have c:=h.ee;have i:=Z h;have k:=Z hid;go_in
 go_wp2_with fail
 refine(qI id 1 k i).mono ?_;rintro e w1 ⟨⟨v,rfl,_⟩,dZ,Y1,f⟩;have c:=f.at_.nX;have b:=Z f;go_wp2_with fail
 refine(zV id b.at_).mono ?_;rintro e w2 ⟨⟨v,rfl,_⟩,r,p,g⟩;have c:=g.at_.cO;have d:=Z (b.trans (Gr.of_eq rfl) g);go_wp2_with fail
 refine(GZ 0 1 ⟨by decide,by decide⟩ ⟨by decide,by decide⟩ d.at_).mono ?_;rintro e q ⟨a,o,l,m⟩;have j:=Z (d.trans (Gr.of_eq rfl) m);have n:∃v,e=.returned v:=by
  split at a
  ·exact⟨_,a⟩
  ·obtain⟨v,h,_⟩:=a;exact⟨_,h⟩
 obtain⟨v,rfl⟩:=n;go_wp2
 go_end0
 exact⟨rfl,o,l,j⟩
def Cu(v:Value)(χ:Nat->a')(L:cU)(Y:Var)(C:KC)(K K':KS)(w:World)(e:Ending)(w':World):Prop:=dk v χ L Y C K K' w e w'/\Ch (fun i=>χ i=.mem) w w'
theorem n5(a:Int)(k:aK a)(h:ae w χ L Y C K):Calls prog 138 #[(L.mb,0),.int .u64 a] w (Cu (.int .u64 (gu K a).1) χ L Y C K (gu K a).2 w):=by
 have c:=h.cO;have d:=Z (um a k h);obtain⟨p,j⟩:=nm (K.mem.acc 0 a 0 0);obtain⟨r,S⟩:=p;rw[j]at d;have E:Hid (gu K a=(r.getD 0,{K with mem:=S})):=Z (by unfold gu;rw[j]);cases r with
 |none=>
  go_in
  go_wp2_with (refine d.mono ?_;rintro e w1 ⟨⟨⟨v,rfl,l⟩,dZ,Y1,g⟩,i⟩;have b:=Z g;have f:=Z i)
  go_ret;rw[E];exact⟨⟨rfl,dZ,Y1,b⟩,f⟩
 |some r=>
  go_in
  go_wp2_with (refine d.mono ?_;rintro e w1 ⟨⟨rfl,dZ,Y1,g⟩,i⟩;have b:=Z g;have f:=Z i)
  go_ret;rw[E];exact⟨⟨rfl,dZ,Y1,b⟩,f⟩
theorem xF(a:Int)(b:aK a)(h:ae w χ L Y C K):Calls prog 138 #[(L.mb,0),.int .u64 a] w (dk (.int .u64 (gu K a).1) χ L Y C K (gu K a).2 w):=
 (n5 a b h).mono fun _ _ h=>h.1
theorem Ej:(prog.info? 159).map (fun i=>(i.zero,i.size,i.bytes))=some (some (.agg #[.int .i64 0,.int .i64 0,.int .i64 0,.int .u64 0,.int .i64 0,.int .u64 0,.int .u64 0,.int .u64 0,.int .u64 0,.int .u64 0,.int .u64 0]),11,88):=by kernel_rfl
theorem ae.Ek(h:ae w χ L Y C K){w4:World}(a:w.grownBy w4 Y.ov.ownBlock)(v:Value):Ch (fun i=>χ i=.gL∨χ i=.out) w (w4.setCell (L.mb,1020) v):=
 ((Ch.bK a).mono (E:=fun i=>χ i=.gL∨χ i=.out) (fun i b=>Or.inr ((h.out (by simp)).k i b))).hj (p:=⟨L.mb,1020,none⟩) (Or.inl (h.head (by simp)).k) v
def Cv(χ:Nat->a')(L:cU)(Y:Var)(C:KC)(K K':KS)(w:World)(e:Ending)(w':World):Prop:=dk (.tuple #[]) χ L Y C K K' w e w'/\Ch (fun i=>χ i=.gL∨χ i=.out) w w'
theorem n6(kind at_ wn t num a0 a1 a2 a3 v code:Int)(hb:K.out.length<=900000)(h:ae w χ L Y C K):
 Calls prog 55 #[(L.mb,0),.agg #[kind,at_,wn,.int .u64 t,num,.int .u64 a0,.int .u64 a1,.int .u64 a2,.int .u64 a3,.int .u64 v,.int .u64 code]] w
  (Cv χ L Y C K (tell K ⟨kind,at_,wn,t,num,a0,a1,a2,a3,v,code⟩) w):=by
 obtain⟨al,O,a9,ab,ad⟩:=info_parts Ej;have T:=Z O;have R:=Z h;obtain⟨b,m⟩:=mn L.mb;have r:=Z m;have d13:=h.Hu;have d14:=h.GC;rw[<-m]at d13 d14⊢;obtain⟨c,A⟩:=nm K.at_;obtain⟨d,B⟩:=nm K.w;rw[A]at d13;rw[B]at d14;obtain⟨N,z⟩:=mn K.out.length;have E:Hid (tell K ⟨kind,at_,wn,t,num,a0,a1,a2,a3,v,code⟩={K with out:=K.out++[⟨kind,c,d,t,num,a0,a1,a2,a3,v,code⟩]}):=Z (by unfold tell;rw[A,B]);have u:=Z z;rw[<-z]at hb;have a4:b<w.heap.size:=by rw[m];exact h.GY
 clear h m A B z O;go_in
 go_wp2
 obtain⟨w0,n⟩:=nm (w.alloc (.cells #[kind,at_,wn,.int .u64 t,num,.int .u64 a0,.int .u64 a1,.int .u64 a2,.int .u64 a3,.int .u64 v,.int .u64 code] 159));have s:=Z (Ch.al (D:=ag) n);have f:=Z (Row.al n);rw[n];have W:=s.k d13;have X:=s.k d14;obtain⟨tb,G⟩:=mn w.heap.size;have I:=Z G;rw[<-G]at f⊢;have t1:=f.k 1 rfl;have t2:=f.k 2 rfl;have f1:=f.free 1;have f2:=f.free 2;have c8:b≠tb:=by omega
 have c9:tb≠b:=by omega
 clear n d13 d14 G;go_region
 go_wp2_with fail
 obtain⟨w1,o⟩:=nm (((w0.setCell (tb,1) (.int .i64 c)).setCell (tb,2) (.int .i64 d)).drew);have l:Hid (Ch ag w w1):=Z (by rw[<-o];exact((s.set (p:=⟨tb,1,none⟩) (Or.inr (by rw[I];exact Nat.le_refl _)) _).set (p:=⟨tb,2,none⟩) (Or.inr (by rw[I];exact Nat.le_refl _)) _).drew);have U:Hid (Row w1 tb 159 (Ev.cells ⟨kind,c,d,t,num,a0,a1,a2,a3,v,code⟩)):=Z (by rw[<-o];exact((f.set 1 _).set 2 _).drew);rw[o];clear o W X t1 t2 f1 f2;have a:=Z (R.af l);have d16:=a.sa;have g16:=a.fz 1020;rw[<-r]at d16 g16;have k:=(a.out.out (by simp)).is;rw[<-u]at k;obtain⟨c6,c7,H⟩:=au k;have q:Y.ov.ownBlock≠some b:=by rw[r];exact aZ (a.out.out (by simp)).is (a.head (by simp)).row (by decide)
 have Q:b<w1.heap.size:=Nat.lt_of_lt_of_le a4 l.size;have x:=Z H;rw[H]at d16 k q;clear H;obtain⟨am,ap,bi,bv,bw,bx,c0,c1,c2,c3,av⟩:=U.BJ;go_wp2
 go_region_law (first|(refine step_append_lies _ (by rfl) _ _ _ (by rfl) 0 159 al _ 11 88 underlying25 T a9 ab ad rfl (by omega) _ N (K.out.flatMap Ev.cells) (by rfl) ((k.alloc _).drew) ⟨w1.heap.size,0,none⟩ 1 1 [kind,c,d,.int .u64 t,num,.int .u64 a0,.int .u64 a1,.int .u64 a2,.int .u64 a3,.int .u64 v,.int .u64 code] (by rfl) (by rfl) (World.news_of_block (cs:=#[kind,c,d,.int .u64 t,num,.int .u64 a0,.int .u64 a1,.int .u64 a2,.int .u64 a3,.int .u64 v,.int .u64 code]) (t:=159) (fr:=(0,0)) (heap_alloc_new w1 _)) (by simp[Value.oneCell']) (by omega) (by unfold maxLen;omega) (by omega) (by simp) (w1.heap.size+1) (by simp) ?_;intro y cap w4 P j M a5;have c4:w4.cell? (b,1020)=_:=(j.cell_far ⟨b,1020,none⟩ (by simp;omega) (Ne.symm q)).trans (by simp[go_sem,World.cell?_alloc_past,Q,d16];rfl);have c5:w4.frozen? (b,1020)=false:=(j.frozen_far ⟨b,1020,none⟩ (by simp;omega) (Ne.symm q)).trans (by simp[go_sem,World.frozen?_alloc_past,Q,g16])))
 all_goals
  have S:Hid (∃aY Y',dD χ L Y C K {K with out:=K.out++[⟨kind,c,d,t,num,a0,a1,a2,a3,v,code⟩]} w1 aY Y' (w4.setCell (L.mb,1020) (.slice (some (y,0)) (N+1) cap))):=Z (by
   have:=a.FQ (e:=⟨kind,c,d,t,num,a0,a1,a2,a3,v,code⟩) (w4:=w4) (g:=y) (cap:=cap) (by rw[<-u];exact P) (by rw[x];exact ao (cY j)) (by
    rw[x];rcases M with J|J
    ·exact Or.inl (by rw[J])
    ·exact Or.inr (by omega))
   rw[<-u]at this;exact this)
  have V:Hid (Ch (fun i=>χ i=.gL∨χ i=.out) w1 (w4.setCell (L.mb,1020) (.slice (some (y,0)) (N+1) cap))):=Z (a.Ek (by rw[x];exact ao (cY j)) _);rw[r]at*;clear P j M a5 c4 c5 d16 g16 k q am ap bi bv bw bx c0 c1 c2 c3 av;go_wp2
  go_end0
  rw[E];obtain⟨aY,Y',F⟩:=S.out;exact⟨⟨rfl,aY,Y',F.at_,(Nx.af l).trans F.nx,F.yk⟩,l.af.trans V⟩
theorem dI(kind at_ wn t num a0 a1 a2 a3 v code:Int)(hb:K.out.length<=900000)(h:ae w χ L Y C K):
 Calls prog 55 #[(L.mb,0),.agg #[kind,at_,wn,.int .u64 t,num,.int .u64 a0,.int .u64 a1,.int .u64 a2,.int .u64 a3,.int .u64 v,.int .u64 code]] w
  (dk (.tuple #[]) χ L Y C K (tell K ⟨kind,at_,wn,t,num,a0,a1,a2,a3,v,code⟩) w):=
 (n6 kind at_ wn t num a0 a1 a2 a3 v code hb h).mono fun _ _ h=>h.1
theorem dD.cur{K1:KS}{dZ:Nat->a'}{Y1:Var}{w1:World}(m:dD χ L Y C K K1 w dZ Y1 w1)(a:aj K c)(d:aR L Y c b o)(g:Gr K K1)(e:K1.wk.length=K.wk.length):aj K1 c/\aR L Y1 c b o:=⟨a.gr g e,d.yk a m.yk⟩
def si(v:Value)(χ:Nat->a')(L:cU)(C:KC)(K':KS)(w:World)(e:Ending)(w':World):Prop:=e=.returned v/\∃aY Y',ae w' aY L Y' C K'/\Nx χ aY w w'
theorem ae.z8(h:ae w χ L Y C K)(a:aj K c)(e:aR L Y c b o)(k1 k2:Nat)(g:k1<32)(i:k2<32)(x1 x2:Int):∃aY Y',dD χ L Y C K ((K.ax c k1 x1).ax c k2 x2) w aY Y' ((w.setCell (b,o+1+k1) (.int .u64 x1)).setCell (b,o+1+k2) (.int .u64 x2)):=by
 obtain⟨dZ,Y1,d⟩:=h.a7 a e k1 g x1;obtain⟨j,k⟩:=d.cur a e (bA a _) (br _ _);obtain⟨m,f,l⟩:=d.at_.a7 j k k2 i x2;exact⟨m,f,d.trans (bA a _) l⟩
theorem j3(id:Int)(t:Thread)(d:aw K.ai id=some t)(hid:t.id=id)(X:0<t.l.length)(ab:t.l.length<=8)(num code v:Int)(hb:K.out.length<=900000)(h:ae w χ L Y C K):
 Calls prog 145 #[(L.mb,0),(Y.bI id,0),num,.int .u64 code,.int .u64 v] w (dk (.tuple #[]) χ L Y C K (dq K id num code v) w):=by
 obtain⟨g,cap,W,U,V⟩:=h.hV d X;have q:=h.DB d;rw[W]at q;have i:=h.gw d;rw[hid]at i;obtain⟨m,u⟩:∃m,t.l.length=m+1:=⟨t.l.length-1,by omega⟩;have M:=V m (by omega);rw[u]at q U;have a9:(m:Int)+1-1=(m:Int):=by omega
 have a5:m<8:=by omega
 have k:aj K (.ai id m):=⟨t,d,by omega⟩;obtain⟨fb,s⟩:=nm (Y.fb id m);obtain⟨tb,x⟩:=nm (Y.bI id);have a:Hid (aR L Y (.ai id m) fb 0):=Z ⟨s.symm,rfl⟩;rw[s]at M;rw[x]at q i⊢;have f:=Z k;have F:=Z h;have a1:=h.aA k a 0 (by omega);have a2:=h.aA k a 1 (by omega);have P:=h.hy k a 1;have Q:=h.hy k a 2;have G:=Z hb;have a4:=Z (And.intro d (And.intro hid x));have B:tb≠fb:=by
  rw[<-x,<-s];intro e;have k1:=(h.th id t d (by simp)).k;have k2:=(h.fr id t m _ d (List.getElem?_eq_getElem (by omega)) (by simp)).kf;rw[e,k2]at k1;cases k1
 have ad:fb≠tb:=fun e=>B e.symm
 have E:Hid (dq K id num code v=tell ((K.ax (.ai id m) 0 code).ax (.ai id m) 1 v) ⟨2,0,0,id,num,0,0,0,0,v,code⟩):=Z (by
  unfold dq;have N:K.top id=m:=by unfold KS.top;rw[KS.dm d,u];omega
  have O:(K.ax (.ai id m) 0 code).top id=m:=by
   unfold KS.top;show((K.cp id _).T id).l.length-1=m
   rw[KS.dm (K:=K.cp id _) (by show aw (cn _ _ _) _=_;rw[aV,if_pos rfl])];simp[KS.dm d,u]
  simp only[N,O])
 go_wp2
 go_quiet (fail)
 obtain⟨w0,D⟩:=nm (w.drewN nq);have n:Hid (Ch ag w w0):=Z (by rw[<-D];exact ay);rw[D];have j:=Z (F.af n);have a1:=j.aA f a 0 (by omega);have a2:=j.aA f a 1 (by omega);have P:=j.hy f a 1;have Q:=j.hy f a 2;have i:=n.k i;have R:=Z (j.drew.z8 f a 0 1 (by omega) (by omega) code v);go_wp2
 go_region
 obtain⟨w1,y⟩:=nm (((w0.setCell (fb,1) (.int .u64 code)).setCell (fb,2) (.int .u64 v)).drew);have I:Hid (∃aY Y',dD χ L Y C K ((K.ax (.ai id m) 0 code).ax (.ai id m) 1 v) w0.drew aY Y' w1):=Z (by rw[<-y];exact R.out);obtain⟨dZ,Y1,a0⟩:=I.out;have z:=Z a0;have A:=(bA f {K.F (.ai id m)with r:=fW (K.F (.ai id m)).r 0 code});have T:=(f.gr A (br _ _));have H:Hid (Gr K ((K.ax (.ai id m) 0 code).ax (.ai id m) 1 v)):=Z (A.trans (bA T _));have i:w1.cell? (tb,0)=some (.int .u64 id):=by
  rw[<-y];have c:Ch (aH fb) w0 ((w0.setCell (fb,1) (.int .u64 code)).setCell (fb,2) (.int .u64 v)).drew:=ay;exact(c.cell (p:=⟨tb,0,none⟩) (aQ i) B).trans i
 rw[y];go_wp2_with fail
 refine(dI 2 0 0 id num 0 0 0 0 v code (by exact G) z.at_).mono ?_;rintro e w2 ⟨rfl,a3,J,S⟩;have l:=Z (z.trans H S);go_wp2
 go_end0
 rw[E];exact⟨rfl,a3,J,l.at_,(Nx.af n.drew).trans l.nx,l.yk⟩
theorem hO(id:Int)(t:Thread)(a:aw K.ai id=some t)(hid:t.id=id)(O:1<t.l.length)(W:t.l.length<=8)(code v:Int)(hb:K.out.length<=900000)(h:ae w χ L Y C K):
 Calls prog 104 #[(L.mb,0),(Y.bI id,0),.int .u64 code,.int .u64 v] w (si (.tuple #[]) χ L C (eE K id code v) w):=by
 obtain⟨g,cap,x,J,N⟩:=h.hV a (by omega);have i:=h.DB a;rw[x]at i;obtain⟨m,j⟩:∃m,t.l.length=m+1:=⟨t.l.length-1,by omega⟩;have F:=N m (by omega);obtain⟨f,s⟩:∃f,t.l[m]?=some f:=⟨_,List.getElem?_eq_getElem (by omega)⟩;have q:=h.FT a s;rw[j]at i J;have U:(m:Int)+1-1=(m:Int):=by omega
 have T:m<8:=by omega
 have S:m<=m+1:=by omega
 have V:m<cap:=by omega
 have r:=Z (h.FU (m:=m) a x (by omega));obtain⟨fb,M⟩:=nm (Y.fb id m);obtain⟨tb,k⟩:=nm (Y.bI id);rw[M]at F q;rw[k]at i r⊢;have H:=h.sf a 1;rw[k]at H;have A:=Z hb;have d:=Z (And.intro a (And.intro hid (And.intro k (And.intro j O))));obtain⟨num,y⟩:=nm f.num;rw[y]at q;have E:Hid (eE K id code v=dq (K.cp id {t with l:=t.l.take m}) id num code v):=Z (by
  unfold eE;have G:K.top id=m:=by unfold KS.top;rw[KS.dm a,j];omega
  simp only[G,KS.dm a];rw[List.getD_eq_getElem?_getD,s];simp only[Option.getD_some,y])
 go_in
 go_wp2_with fail
 obtain⟨Y1,n,_⟩:=r.out;have B:=Z n;have P:aw (K.cp id {t with l:=t.l.take m}).ai id=some {t with l:=t.l.take m}:=by show aw (cn _ _ _) _=_;rw[aV,if_pos rfl]
 have Q:Y1.bI id=tb:=((n.yk id t d.1).1).trans d.2.2.1;have u:(t.l.take m).length=m:=by rw[List.length_take,d.2.2.2.1];omega
 have z:=j3 id {t with l:=t.l.take m} P d.2.1 (by show 0<(t.l.take m).length;rw[u];have:=d.2.2.2.1;have:=d.2.2.2.2;omega) (by show(t.l.take m).length<=8;rw[u];omega) num code v (by exact A) n.at_;rw[Q]at z;refine z.mono ?_;rintro e w2 ⟨rfl,R,D,I⟩;have p:=Z I;go_wp2
 go_end0
 rw[E];exact⟨rfl,R,D,p.at_,B.nx.trans p.nx⟩
theorem ae.El(h:ae w χ L Y C K){i:Nat}(b:i<K.wk.length):∃aY Y',dD χ L Y C K (gJ C K i) w aY Y' ((w.setCell (L.wb,i*38+4) (.int .i64 C.loop)).setCell (L.wb,i*38+4+33) (.slice none 0 0)):=by
 obtain⟨pre,post,v,a⟩:=h.cur (c:=.own i) b ⟨rfl,rfl⟩;have d:=a.j0 (kY (.own i)) C.loop;have e:=d.qv (kY (.own i)) (.slice none 0 0) [] (cv.nil _);exact h.z1 (c:=.own i) b ⟨rfl,rfl⟩ a (f:={(K.W i).f with pc:=C.loop,back:=[]}) e (aS.nil _ _) ay
theorem iM(i:Nat)(b:i<K.wk.length)(h:ae w χ L Y C K):Calls prog 103 #[(L.mb,0),(L.wb,i*38)] w (dk (.tuple #[]) χ L Y C K (gJ C K i) w):=by
 have f:=Z h;have g:=Z b;obtain⟨pre,post,v,a⟩:=h.cur (c:=.own i) b ⟨rfl,rfl⟩;have j:=h.c1;have p1:=a.lL;have p2:=a.zw;have k:=a.free (i*38+4);have l:=a.free (i*38+4+33);have d:=Z (h.El b);go_wp2
 go_end0
 obtain⟨aY,Y',e⟩:=d.out;exact⟨rfl,aY,Y',e⟩
theorem bG(i:Nat)(x:aC):(K.bj i x).wk.length=K.wk.length:=by simp[KS.bj]
theorem iN(i:Nat)(a:i<K.wk.length)(h:ae w χ L Y C K):Calls prog 61 #[(L.mb,0),(L.wb,i*38)] w (dk (.tuple #[]) χ L Y C K (dB C K i) w):=by
 have m:=Z h;have f:=Z a;have o:=h.mK a;have n:=h.uq (i*38);have k:=Z (h.wj a 0);go_in
 go_wp2_with fail
 obtain⟨dZ,Y1,b⟩:=k.out;have c:=Z b;refine(iM i (by rw[bG];exact f) b.at_).mono ?_;rintro e w2 ⟨rfl,l,g,j⟩;have d:=Z (c.trans (Gr.of_eq rfl) j);go_wp2
 go_end0
 exact⟨rfl,l,g,d⟩
theorem lU(i:Nat)(j:i<K.wk.length)(id:Int)(hid:aK id)(h:ae w χ L Y C K):Calls prog 185 #[(L.mb,0),(L.wb,i*38),.int .u64 id] w (dk (.tuple #[]) χ L Y C K (ep K i id) w):=by
 have k:=Z h;have f:=Z j;have m:=Z hid;have q:=h.fD j;obtain⟨g,d⟩:=nm ((K.W i).hand);rw[d]at q;have s:=h.ee;by_cases b:g=0
 ·have E:Hid (ep K i id=({K with table:=(j4 K.table id 1).2}).bj i {K.W i with hand:=id}):=Z (by unfold ep;rw[d,if_neg (by simp[b])];rfl)
  subst b;go_in
  go_wp2_with fail
  refine(qI id 1 m k).mono ?_;rintro e w1 ⟨⟨v,rfl,_⟩,dZ,Y1,a⟩;have c:=Z a;have u:=a.at_.fD f;have t:=a.at_.uq (i*38+1);have p:=Z (a.at_.jT f id);go_wp2
  go_end0
  rw[E];obtain⟨r,n,o⟩:=p.out;exact⟨rfl,r,n,c.trans (Gr.of_eq rfl) o⟩
 ·have E:Hid (ep K i id=cr K id):=Z (by unfold ep;rw[d,if_pos b])
  have hb:(g !=0)=true:=by simpa using b
  have l:=Z (fh id hid h);go_in
  go_wp2_with fail
  refine l.mono ?_;rintro e w1 ⟨rfl,dZ,Y1,a⟩;have c:=Z a;go_wp2
  go_end0
  rw[E];exact⟨rfl,dZ,Y1,c⟩
theorem lV(id a:Int)(hid:aK id)(o:K.blocks.Ok)(h:ae w χ L Y C K):Calls prog 187 #[(L.mb,0),.int .u64 id,.int .u64 a] w (dk (.tuple #[]) χ L Y C K (eo K id a) w):=by
 have j:=Z h;have l:=Z o;have g:=Z (dd id hid h);obtain⟨s,i⟩:=nm (cz K id);rw[i]at g;by_cases c:s=0
 ·have E:Hid (eo K id a=jm K (wrap64 a)):=Z (by unfold eo;rw[i,if_pos c])
  subst c;go_in
  go_wp2_with fail
  refine g.mono ?_;rintro e w1 ⟨rfl,b⟩;have f:=Z b;have k:=Z (j.af b);have q:=k.pd;go_wp2_with fail
  refine(zZ (wrap64 a) l k).mono ?_;rintro e w2 ⟨⟨v,rfl,_⟩,p,m,n⟩;have d:=Z n;go_wp2
  go_end0
  rw[E];exact⟨rfl,p,m,d.at_,(Nx.af f).trans d.nx,d.yk⟩
 ·have E:Hid (eo K id a=K):=Z (by unfold eo;rw[i,if_neg c])
  have hb:(s==0)=false:=by simpa using c
  go_in
  go_wp2_with fail
  refine g.mono ?_;rintro e w1 ⟨rfl,b⟩;have f:=Z b;go_wp2
  go_end0
  rw[E];exact⟨rfl,χ,Y,j.gU f⟩
theorem z'(l:List (Int×Thread))(k:Int)(g:Int->Nat):fs (l.map fun x=>(x.1,g x.1)) k=(fs l k).map fun x=>(x.1,g x.1):=by
 induction l with
 |nil=>rfl
 |cons x l ih=>
  rw[List.map_cons,ie,ie];split
  ·rfl
  ·simp[ih]
theorem ae.G3(h:ae w χ L Y C K)(id:Int):∃w',(Builtin.delete_ #[71,22] 0 #[.map (some L.tm),.int .u64 id]).run prog w=.ok (.tuple #[]) w'/\ae w' χ L Y C {K with ai:=fs K.ai id}/\Nx χ χ w w'/\Ch (aH L.tm) w w':=by
 have a:=h.tm (by simp);obtain⟨w',e,c,b⟩:=fv (P:=prog) (T:=71) (K:=22) (E:=161) (ty:=0) (kT:=22) underlying71 underlying22 a.is id;have s:eT [.tm] χ χ (aH L.tm) w w':=eT.one b (fun i d=>by rw[show i=L.tm from d];simp[a.k]) h.small;rw[z']at c;exact⟨w',e,(h.step s (by simp)).GX a.nd ⟨c,a.k,(a.nd.del id).1⟩,Nx.of s (by simp),b⟩
theorem Nx.row{χ aY:Nat->a'}(n:Nx χ aY w w'){b:Nat}{t:TypeId}{l:List Value}(h:Row w b t l)(a:χ b=.no):Row w' b t l/\aY b=.no:=⟨h.ch n.ch (by simp[a]),(n.same b h.lt).trans a⟩
def Cw(x:iD)(w:World)(p:Value)(wc:World):Prop:=∃a,p=.pointer (some ⟨a,0,none⟩)/\Row wc a 99 x.cells/\Ch ag w wc/\w.heap.size<=a
theorem sj(i:Nat)(cs:i<K.wk.length)(id:Int)(t:Thread)(a0:aw K.ai id=some t)(hid:t.id=id)(cC:aK id)(cm:K.clock.Ok)(cl:K.blocks.Ok)(hb:K.out.length<=800000)(h:ae w χ L Y C K):
 Calls prog 156 #[(L.mb,0),(L.wb,i*38),(Y.bI id,0)] w (si (.tuple #[]) χ L C (m3 C K i id) w):=by
 have m:=h.ee;have b:=h.gw a0;rw[hid]at b;obtain⟨tb,a2⟩:=nm (Y.bI id);rw[a2]at b⊢;have a:=Z (And.intro a0 (And.intro hid a2));have G:=Z h;have c0:=Z cs;have A:=Z cC;have bw:=Z cm;have bi:=Z cl;have ap:=Z hb;obtain⟨K1,ci⟩:=mn (({K with table:=(gi K.table id 0).2}:KS));have g:=Z ci;obtain⟨x,cQ⟩:=nm ((fx K1.table id).1);have J:=Z cQ;go_wp2
 go_still_tail 8,(by kernel_rfl)
 change wpList _ _ _ _ _ w.drew;go_wp2_with fail
 refine(qJ id 0 A G.drew).mono ?_;rintro e w1 ⟨⟨v,rfl,_⟩,dZ,Y1,R⟩;rw[<-g]at R;have d:Hid (dD χ L Y C K K1 w dZ Y1 w1):=Z (((dD.refl G).af ay).trans (Gr.of_eq rfl) R);have X:Y1.bI id=tb:=((d.yk id t a.1).1).trans a.2.2;have a1:aw K1.ai id=some t:=by rw[g];exact a.1
 have b:=d.at_.gw a1;rw[X,a.2.1]at b;have en:Hid (Row w1 tb 164 [.int .u64 id,Y1.lv id,.int .u64 t.eY]/\dZ tb=.th id):=Z (by
  have:=d.at_.th id t a1 (by simp);rw[X]at this;exact⟨a.2.1▸this.is,this.k⟩)
 have m:=d.at_.ee;have y:=Z (fun w h=>kW (K:=K1) (w:=w) (χ:=dZ) (L:=L) (Y:=Y1) (C:=C) id A h);obtain⟨ad,a4⟩:=nm (fx K1.table id);have cS:ad.1=x:=by rw[<-a4];exact J
 rw[a4]at y;obtain⟨j,lb⟩:=ad;obtain rfl:j=x:=cS;unfold iD.val at y;dsimp only at y;go_wp2
 go_cut [6] (fun p wc=>Cw j w1 p wc)
 case first=>
  have eS:L.mb≠w1.heap.size:=Nat.ne_of_lt (aQ m);have eV:tb≠w1.heap.size:=Nat.ne_of_lt (aQ b);have eW:=World.new_ne w1 ⟨L.mb,1012,none⟩ m;have fb:=World.new_ne w1 ⟨tb,0,none⟩ b;go_region_held3 (fun w'=>w'.cell? (L.mb,1012)=some (.pointer (some (L.tb,0)))/\w'.cell? (tb,0)=some (.int .u64 id)) (go_keep) (first|(go_at_call 97;refine(y _ (d.at_.alloc _).drew).mono ?_;rintro e w2 ⟨rfl,n⟩;have f:Hid (Ch ag w1 w2):=Z (Ch.trans ay n);have c:=Z (Row.ch (w:=(w1.alloc (.cells #[.int .u64 0,.int .i64 0,.int .u64 0,.int .u64 0,.int .u64 0,.bool false,.bool false] 99)).drew) (Row.drew (Row.new w1 #[.int .u64 0,.int .i64 0,.int .u64 0,.int .u64 0,.int .u64 0,.bool false,.bool false] 99)) n (fun h=>h));have d1:=f.k m;have d2:=f.k b;have g4:=c.c1;have y0:=c.free 0;have g5:=c.k 1 rfl;have fr:=c.free 1;have g6:=c.k 2 rfl;have fz:=c.free 2;have g7:=c.k 3 rfl;have g0:=c.free 3;have g8:=c.k 4 rfl;have g1:=c.free 4;have g9:=c.k 5 rfl;have g2:=c.free 5;have gc:=c.k 6 rfl;have g3:=c.free 6)|(go_at_call 97;refine(y _ d.at_.drew).mono ?_;rintro e w2 ⟨rfl,n⟩;have f:Hid (Ch ag w1 w2):=Z (Ch.trans ay n);have d1:=f.k m;have d2:=f.k b))
  all_goals(go_wp2_with fail;go_meet)
  ·exact⟨w2.heap.size,rfl,Row.new w2 _ _,f.alloc _,f.size⟩
  ·exact⟨w1.heap.size,rfl,((((((c.set 0 _).set 1 _).set 2 _).set 3 _).set 4 _).set 5 _).set 6 _,(((((((f.set (p:=⟨w1.heap.size,0,none⟩) (Or.inr (Nat.le_refl _)) _).set (p:=⟨w1.heap.size,1,none⟩) (Or.inr (Nat.le_refl _)) _).set (p:=⟨w1.heap.size,2,none⟩) (Or.inr (Nat.le_refl _)) _).set (p:=⟨w1.heap.size,3,none⟩) (Or.inr (Nat.le_refl _)) _).set (p:=⟨w1.heap.size,4,none⟩) (Or.inr (Nat.le_refl _)) _).set (p:=⟨w1.heap.size,5,none⟩) (Or.inr (Nat.le_refl _)) _).set (p:=⟨w1.heap.size,6,none⟩) (Or.inr (Nat.le_refl _)) _),Nat.le_refl _⟩
 case rest=>
  obtain⟨B,rfl,cA,n,hle⟩:=hcut;obtain⟨w2,cL⟩:=nm wc;subst cL;have o:Hid (dD χ L Y C K K1 w dZ Y1 wc):=Z (d.af n);have Q:Hid (Row wc B 99 j.cells/\dZ B=.no):=Z ⟨cA,by
   cases cq:dZ B with
   |no=>rfl
   |_=>exact absurd (d.at_.small B (by rw[cq];simp)) (by omega)⟩
  have a3:K1.ai=K.ai:=by rw[g]
  have l:Hid (aw K1.ai id=some t):=Z (by rw[a3];exact a.1);have bx:Hid (K1.clock.Ok):=Z (by rw[g];exact bw);have bv:Hid (K1.blocks.Ok):=Z (by rw[g];exact bi);have av:Hid (K1.out.length<=800000):=Z (by rw[g];exact ap);have c1:Hid (i<K1.wk.length):=Z (by rw[g];exact c0);have u:Hid (Gr K K1):=Z (Gr.of_eq a3);have cW:Y1.bI id=tb:=((o.yk id t a.1).1).trans a.2.2;have m:=o.at_.ee;have b:=o.at_.gw l;rw[cW,a.2.1]at b;go_wp2
  go_still_tail 8,(by kernel_rfl)
  change wpList _ _ _ _ _ wc.drew;go_wp2_with fail
  refine(xB id A o.at_.drew).mono ?_;rintro e al ⟨⟨v,rfl,_⟩,ge,c5,S⟩;have r:=Z ((o.af ay).trans u S);have M:=Z (((Nx.af (Ch.refl _ wc).drew).trans S.nx).row Q.1 Q.2);have dr:c5.bI id=tb:=((r.yk id t a.1).1).trans a.2.2;have et:=r.at_.v8;have b:=r.at_.gw l;rw[dr,a.2.1]at b;go_wp2
  go_still_tail 8,(by kernel_rfl)
  change wpList _ _ _ _ _ al.drew;go_wp2_with fail
  refine(nY id r.at_.drew).mono ?_;rintro e w4 ⟨rfl,gf,c6,T⟩;have s:=Z ((r.af ay).trans u T);have N:=Z (((Nx.af (Ch.refl _ al).drew).trans T.nx).row M.1 M.2);have dC:c6.bI id=tb:=((s.yk id t a.1).1).trans a.2.2;have eA:=s.at_.j2;have b:=s.at_.gw l;rw[dC,a.2.1]at b;go_wp2
  go_still_tail 8,(by kernel_rfl)
  change wpList _ _ _ _ _ w4.drew;go_wp2_with fail
  refine(kX id (by exact bx) s.at_.drew).mono ?_;rintro e am ⟨rfl,gk,c7,U⟩;have z:=Z ((s.af ay).trans u U);have D:=Z (((Nx.af (Ch.refl _ w4).drew).trans U.nx).row N.1 N.2);have dN:c7.bI id=tb:=((z.yk id t a.1).1).trans a.2.2;have b:=z.at_.gw l;rw[dN,a.2.1]at b;have x3:=D.1.k 3 rfl;go_wp2
  go_still_tail 8,(by kernel_rfl)
  change wpList _ _ _ _ _ am.drew;go_wp2_with fail
  refine(dI 7 0 0 id 0 0 0 0 0 j.value 0 (by exact Nat.le_trans av (by omega)) z.at_.drew).mono ?_;rintro e fd ⟨rfl,go,es,V⟩;have H:=Z ((z.af ay).trans u V);have O:=Z (((Nx.af (Ch.refl _ am).drew).trans V.nx).row D.1 D.2);go_wp2_with fail
  refine(iN i (by exact c1) H.at_).mono ?_;rintro e E ⟨rfl,gr,c8,W⟩;have k:=Z (H.trans u W);have P:=Z (W.nx.row O.1 O.2);have a9:c8.bI id=tb:=((k.yk id t a.1).1).trans a.2.2;have ex:=k.at_.hN;have b:=k.at_.gw l;rw[a9,a.2.1]at b;have a5:=(k.at_.th id t l (by simp)).k;rw[a9]at a5;obtain⟨F,eL,cd,ab,cb⟩:=k.at_.drew.G3 id;have c2:=Z cd;have c3:=Z (k.nx.trans ((Nx.af (Ch.refl _ E).drew).trans ab));have c4:=Z (((Nx.af (Ch.refl _ E).drew).trans ab).row P.1 P.2);have eC:F.cell? (tb,0)=some (.int .u64 id):=((cb.cell (p:=⟨tb,0,none⟩) (aQ b) (fun e=>by
   have:=(k.at_.tm (by simp)).k;rw[<-show tb=L.tm from e,a5]at this;cases this))).trans b
  have x2:=c4.1.k 2 rfl;go_wp2
  go_still_tail 8,(by kernel_rfl)
  change wpList _ _ _ _ _ E.drew;go_wp2
  go_still_tail 7,(by kernel_rfl)
  change wpList _ _ _ _ _ F.drew;go_wp2_with fail
  refine(lV id j.home A (by exact bv) c2.drew).mono ?_;rintro e fn ⟨rfl,ej,c9,ce⟩;have I:=Z ce;go_wp2
  go_end0
  refine⟨rfl,ej,c9,?_,c3.trans ((Nx.af (Ch.refl _ F).drew).trans I.nx)⟩;have ch:m3 C K i id=eo {dB C (tell {K1 with table:=(eN K1.table id).2,q:=(dw K1.q id).2,clock:=(K1.clock.bp id).2} ⟨7,0,0,id,0,0,0,0,0,j.value,0⟩) i with ai:=fs (dB C (tell {K1 with table:=(eN K1.table id).2,q:=(dw K1.q id).2,clock:=(K1.clock.bp id).2} ⟨7,0,0,id,0,0,0,0,0,j.value,0⟩) i).ai id} id j.home:=by
   rw[<-J];unfold m3;rw[g]
  rw[ch];exact I.at_
def G4(ok:Bool)(qb lb mb:Nat)(ls:List (List Sl))(a:List (List fQ))(w:World)(e:Ending)(w':World):Prop:=∃v,(if ok then v=.nilIface else ar v)/\zH v qb lb mb ls a w e w'
theorem Aa(qb lb mb:Nat)(ls:List (List Sl))(id n mask:Int)(w:World)(h:iE w qb lb mb ls):
 Calls prog 177 #[(qb,0),.int .u64 id,.int .u64 n,.int .u64 mask] w (G4 (kM (b1 ls) id n mask).1 qb lb mb ls (kM (b1 ls) id n mask).2 w):=by
 have c:=Z h;obtain⟨m,Q,c5,R⟩:=h.map;have ci:=h.head.k 1 rfl;have G:=ft (P:=prog) (w:=w) (T:=200) (K:=22) (E:=226) (z:=.pointer none) underlying200 underlying22 (by kernel_rfl) Q id;rw[R]at G;obtain⟨r,A⟩:=nm (ls.flatten.find? (fun s=>s.id==id));rw[A]at G;have I:=Z (jn ls id);rw[A]at I;have p:=Z (And.intro Q (And.intro c5 R));have ab:=Z A;cases C:id==0
 ·have cl:(id !=0)=true:=by simpa using C
  cases r with
  |some s=>
   have E:Hid (kM (b1 ls) id n mask=(false,b1 ls)):=Z (by unfold kM;rw[C,I];rfl);simp only[Option.map_some,Option.getD_some,bk]at G;go_in
   go_wp2_with (go_at_call 76;refine(pE _ _ _).mono ?_;rintro e w' ⟨rfl,rfl⟩)
   go_ret;rw[E];exact⟨_,ar.mk _ _,rfl,ls,c.af ay,rfl,ay,fun s d=>Or.inl ⟨s,d,rfl⟩,fun x a=>(c.af ay).BF a⟩
  |none=>
   simp only[Option.map_none,Option.getD_none]at G;obtain⟨k,hb,c3,bw⟩:=ki n;obtain⟨l,o⟩:∃l,ls[k]?=some l:=⟨_,List.getElem?_eq_getElem (by rw[c.len];exact c3)⟩;obtain⟨s,d⟩:∃s:Sl,s=⟨id,n,mask,w.heap.size⟩:=⟨_,rfl⟩;have E:Hid (kM (b1 ls) id n mask=(true,b1 (ls.set k (l++[s])))):=Z (by
    unfold kM;rw[C,I];simp only[Option.map_none];rw[pF ls k l s o (by rw[d];exact bw),d];rfl)
   obtain⟨X,Y,av,bi⟩:=vZ (s:=s) o;have V:∀x∈ls.flatten,x.b≠w.heap.size:=(fun x a=>Nat.ne_of_lt (c.apart a).2.2.2);have c8:∀x∈ls.flatten,x.id≠id:=fun x a e=>by
    have:=List.find?_eq_none.1 ab x a;simp[e]at this
   have c7:((l++[s]).map Sl.b).Nodup:=by
    have al:(l.map Sl.b).Nodup:=by
     refine List.Nodup.sublist ?_ c.nd;rw[(eu o).1];exact List.Sublist.map _ ((List.sublist_append_right _ _).trans (List.sublist_append_left _ _))
    have:=pG (X:=l) (Y:=[]) (s:=s) (f:=Sl.b) (by simpa using al) (fun x a=>by rw[d];exact V x (bt o (by simpa using a)));simpa using this
   have a4:=Z (fun w pv ch c9 c4 bx A=>r3 qb lb k (.map (some mb)) pv ch ls l s w c9 c4 c.len o bx (by rw[d];exact hb) A c7);have b:=Z (And.intro o (And.intro av (And.intro bi (And.intro V (And.intro c8 (And.intro d hb))))));obtain⟨w1,a1⟩:=nm (w.alloc (.cells #[.int .u64 id,.int .u64 n,.int .u64 mask,.pointer none,.pointer none] 249));have H:=Z (Ch.al (D:=ag) a1);have a9:=Z (Row.al a1);have B:=Z (c.af H);have d1:=B.head.k 1 rfl;obtain⟨w2,cd,ap,am⟩:=fu (P:=prog) (T:=200) (K:=22) (E:=226) (enc:=bk) underlying200 underlying22 (p.1.ch H (fun h=>h)) id w.heap.size;simp only[bk]at cd;have a5:=Z ap;have u:=Z am;go_in
   go_wp2_with fail
   have F:∀x∈ls.flatten,x.b≠qb/\x.b≠lb/\x.b≠mb:=(fun x a=>⟨(c.apart a).1,(c.apart a).2.1,(c.apart a).2.2.1⟩);have c6:mb≠qb:=p.1.ne c.head;have S:mb≠lb:=p.1.ne c.ends;have a0:=B.head.ch u (fun e=>c6 (show mb=qb from Eq.symm e));have c1:=B.ends.ch u (fun e=>S (show mb=lb from Eq.symm e));have M:∀k l,ls[k]?=some l->bN w2 none none l:=(fun k l o=>(B.chain k l o).ch u (fun x a e=>(F x (bt o a)).2.2 e));have U:mb<w.heap.size:=p.1.lt;have cb:=a9.ch u (fun e=>Nat.ne_of_lt U (show w.heap.size=mb from e).symm);have d:=b.2.2.2.2.2.1;have O:=a4 w2 (.pointer none) (.pointer none) a0 c1 (M k _ b.1) (by rw[d];exact cb);rw[show s.b=w.heap.size from by rw[d]]at O;refine O.mono ?_;rintro e a2 ⟨rfl,c2,c0,v⟩;rw[show s.b=w.heap.size from by rw[d]]at v;have bv:Ch (QD qb lb mb ls) w a2:=by
    refine((H.af.trans (u.mono ?_)).join v ?_)
    ·intro i q;exact Or.inr (Or.inr (Or.inl q))
    ·rintro i q (e|e|⟨x,a,e⟩)
     ·exact Or.inr (Or.inl e)
     ·omega
     ·exact Or.inr (Or.inr (Or.inr ⟨x,bt b.1 a,e⟩))
   have W:∀x∈ls.flatten,¬(x.b=w.heap.size):=b.2.2.2.1;have L:Hid (iE a2 qb lb mb (ls.set k (l++[s]))):=Z {
    head:=a0.ch v (by
     rintro(e|e|⟨x,a,e⟩)
     ·exact c.head.ne c.ends (by decide) e
     ·exact Nat.ne_of_lt c.head.lt e
     ·exact(F x (bt b.1 a)).1 e)
    ends:=c2
    len:=by rw[List.length_set];exact c.len
    chain:=fun j J g=>by
     by_cases t:k=j
     ·subst t
      rw[List.getElem?_set_self (List.getElem?_eq_some_iff.1 b.1).1]at g;rw[<-Option.some.inj g];exact c0
     ·rw[List.getElem?_set_ne t]at g
      refine(M j J g).ch v (fun x a=> ?_);rintro(e|e|⟨y,ce,e⟩)
      ·exact(F x (bt g a)).2.1 e
      ·exact W x (bt g a) e
      ·exact kR c.nd b.1 g (fun e=>t e.symm) ce a e
    map:=by
     refine⟨_,a5.ch v ?_,p.2.1.put _ _,fun i=> ?_⟩
     ·rintro(e|e|⟨x,a,e⟩)
      ·exact S e
      ·exact Nat.ne_of_lt U e
      ·exact(F x (bt b.1 a)).2.2 e
     ·rw[aV,b.2.2.1]
      have N:=p.2.2 i;rw[b.2.1]at N;by_cases q:i=id
      ·subst q
       rw[if_pos rfl,List.find?_append];have:X.find? (fun x=>x.id==i)=none:=List.find?_eq_none.2 fun x a=>by
        have:=b.2.2.2.2.1 x (by rw[b.2.1];simp[a]);simpa using this
       rw[this];simp[d]
      ·rw[if_neg q,N,List.find?_append,List.find?_append,List.find?_cons]
       have:(s.id==i)=false:=(by rw[d];simpa using fun e:id=i=>q e.symm);rw[this]
    nd:=by rw[b.2.2.1];exact pG (b.2.1▸c.nd) (fun x a=>by rw[d];exact W x (by rw[b.2.1];exact a))
    y':=by rw[b.2.2.1];exact pG (b.2.1▸c.y') (fun x a=>by rw[d];exact b.2.2.2.2.1 x (by rw[b.2.1];exact a))
    at_:=fun j J g x a=>by
     by_cases t:k=j
     ·subst t
      rw[List.getElem?_set_self (List.getElem?_eq_some_iff.1 b.1).1]at g;rw[<-Option.some.inj g]at a;rcases List.mem_append.1 a with a|a
      ·exact c.at_ k _ b.1 x a
      ·have:x=s:=by simpa using a
       rw[this,d];exact b.2.2.2.2.2.2
     ·rw[List.getElem?_set_ne t]at g
      exact c.at_ j J g x a}
   have a3:=Z bv;have ad:=Z d;go_wp2
   go_ret;rw[E];refine⟨_,rfl,rfl,_,L,rfl,a3,fun x a=> ?_,fun x a=>L.BF ?_⟩
   ·rw[b.2.2.1]at a
    rcases List.mem_append.1 a with a|a
    ·exact Or.inl ⟨x,by rw[b.2.1];simp[a],rfl⟩
    ·rcases List.mem_cons.1 a with rfl|a
     ·exact Or.inr (by rw[ad];exact Nat.le_refl _)
     ·exact Or.inl ⟨x,by rw[b.2.1];simp[a],rfl⟩
   ·rw[b.2.1]at a
    rw[b.2.2.1];simp at a⊢;rcases a with a|a<;>simp[a]
 ·have E:Hid (kM (b1 ls) id n mask=(false,b1 ls)):=Z (by unfold kM;rw[C];rfl)
  go_in
  go_wp2_with (go_at_call 76;refine(pE _ _ _).mono ?_;rintro e w' ⟨rfl,rfl⟩)
  go_ret;rw[E];exact⟨_,ar.mk _ _,rfl,ls,c.af ay,rfl,ay,fun s d=>Or.inl ⟨s,d,rfl⟩,fun x a=>(c.af ay).BF a⟩
def dO(r:Int×KS)(χ:Nat->a')(L:cU)(Y:Var)(C:KC)(K:KS)(w:World)(e:Ending)(w':World):Prop:=e=.returned (.int .i64 r.1)/\∃aY Y',ae w' aY L Y' C r.2/\Nx χ aY w w'/\(r.1≠1->Yk K Y Y')
theorem FV(id a m:Int)(h:ae w χ L Y C K):Calls prog 177 #[(L.qb,0),.int .u64 id,.int .u64 a,.int .u64 m] w (nW (kM K.q id a m).1 χ L Y C K {K with q:=(kM K.q id a m).2} w):=by
 have b:=h.q (by simp);have:=Aa L.qb L.ql L.qm Y.ls id a m w b.is;rw[b.b1]at this;refine this.mono fun _ _ ⟨v,f,e⟩=> ?_
 obtain⟨c,d⟩:=h.Cr e;exact⟨⟨v,c,f⟩,d⟩
theorem sk(i:Nat)(J:i<K.wk.length)(id:Int)(t:Thread)(O:aw K.ai id=some t)(hid:t.id=id)(U:aK id)(c:cJ)(b o:Nat)(I:aj K c)(M:aR L Y c b o)(N:∀k,k<32->aK ((K.F c).r k))(a f g l j m:Int)(H:0<=a/\a<32)(h:ae w χ L Y C K):
 Calls prog 136 #[(L.mb,0),(L.wb,i*38),(Y.bI id,0),(b,o),.agg #[.int .i64 51,a,f,g,.int .u64 l,j,m]] w (dO (aB C K i id c ⟨51,a,f,g,l,j,m⟩) χ L Y C K w):=by
 have R:=Z h;have A:=Z I;have B:=Z M;have T:=Z J;obtain⟨w0,P,S,d,z⟩:=h.pre 51 a f g l j m;have q:=Z (And.intro O hid);obtain⟨tb,s⟩:=nm (Y.bI id);have D:=Z s;obtain⟨X,a0⟩:=H;obtain⟨x,u⟩:∃y,(K.F c).r a.toNat=y:=⟨_,rfl⟩;have r:=Z u;have n:=Z (N a.toNat (by omega));rw[u]at n;obtain⟨V,W⟩:=n.out;have E:Hid (aB C K i id c ⟨51,a,f,g,l,j,m⟩=(0,{K with table:=(hJ K.table x id).2})):=Z (by unfold aB;dsimp only;rw[if_neg (by decide),if_neg (by decide),if_pos rfl,r]);obtain⟨t0,t1,t2,t3,t4,t5,t6⟩:=z.1.c7;have Q:=d.at_.aA A B a.toNat (by omega);rw[r]at Q;have F:=d.at_.gw q.1;rw[q.2,D]at F;have k1:=d.at_.ee;rw[s];go_in
 go_wp2_with fail
 try rw[P]
 go_wp2
 go_still_tail 15,(by kernel_rfl)
 change wpList _ _ _ _ _ w0.drew;go_wp2_with fail
 refine(zT x id n d.at_.drew).mono ?_;rintro e w1 ⟨⟨v,rfl,_⟩,dZ,Y1,G⟩;have p:=Z ((d.af ay).trans (Gr.of_eq rfl) G);go_wp2
 go_ret;rw[E];exact⟨rfl,dZ,Y1,p.at_,p.nx,fun _=>p.yk⟩
theorem sm(i:Nat)(J:i<K.wk.length)(id:Int)(t:Thread)(O:aw K.ai id=some t)(hid:t.id=id)(P:aK id)(c:cJ)(b o:Nat)(I:aj K c)(M:aR L Y c b o)(N:∀k,k<32->aK ((K.F c).r k))(a f g l j m:Int)(H:0<=a/\a<32)(h:ae w χ L Y C K):
 Calls prog 136 #[(L.mb,0),(L.wb,i*38),(Y.bI id,0),(b,o),.agg #[.int .i64 53,a,f,g,.int .u64 l,j,m]] w (dO (aB C K i id c ⟨53,a,f,g,l,j,m⟩) χ L Y C K w):=by
 have S:=Z h;have A:=Z I;have B:=Z M;have U:=Z J;obtain⟨w0,Q,T,d,z⟩:=h.pre 53 a f g l j m;have p:=Z (And.intro O hid);obtain⟨tb,s⟩:=nm (Y.bI id);have D:=Z s;obtain⟨X,a0⟩:=H;obtain⟨x,u⟩:∃y,(K.F c).r a.toNat=y:=⟨_,rfl⟩;have r:=Z u;have q:=Z (N a.toNat (by omega));rw[u]at q;obtain⟨V,W⟩:=q.out;have E:Hid (aB C K i id c ⟨53,a,f,g,l,j,m⟩=(0,{K with table:=(gi K.table id x).2})):=Z (by unfold aB;dsimp only;rw[if_neg (by decide),if_neg (by decide),if_neg (by decide),if_pos rfl,r]);obtain⟨t0,t1,t2,t3,t4,t5,t6⟩:=z.1.c7;have R:=d.at_.aA A B a.toNat (by omega);rw[r]at R;have F:=d.at_.gw p.1;rw[p.2,D]at F;have k1:=d.at_.ee;rw[s];go_in
 go_wp2_with fail
 try rw[Q]
 go_wp2
 go_still_tail 15,(by kernel_rfl)
 change wpList _ _ _ _ _ w0.drew;go_wp2_with fail
 refine(qJ id x P d.at_.drew).mono ?_;rintro e w1 ⟨⟨v,rfl,_⟩,dZ,Y1,G⟩;have n:=Z ((d.af ay).trans (Gr.of_eq rfl) G);go_wp2
 go_ret;rw[E];exact⟨rfl,dZ,Y1,n.at_,n.nx,fun _=>n.yk⟩
theorem sn(i:Nat)(q:i<K.wk.length)(id:Int)(t:Thread)(r:aw K.ai id=some t)(hid:t.id=id)(D:aK id)(c:cJ)(b o:Nat)(y:aj K c)(B:aR L Y c b o)(Q:∀k,k<32->aK ((K.F c).r k))(a d f j g l:Int)(z:K.clock.Ok)(x:K.blocks.Ok)(A:K.out.length<=800000)(h:ae w χ L Y C K):
 Calls prog 136 #[(L.mb,0),(L.wb,i*38),(Y.bI id,0),(b,o),.agg #[.int .i64 55,a,d,f,.int .u64 j,g,l]] w (dO (aB C K i id c ⟨55,a,d,f,j,g,l⟩) χ L Y C K w):=by
 have H:=Z h;have I:=Z y;have N:=Z B;have M:=Z q;obtain⟨w0,F,J,n,u⟩:=h.pre 55 a d f j g l;have O:=Z (And.intro r hid);obtain⟨tb,s⟩:=nm (Y.bI id);have P:=Z s;have E:Hid (aB C K i id c ⟨55,a,d,f,j,g,l⟩=(1,m3 C K i id)):=Z (by unfold aB;dsimp only;rw[if_neg (by decide),if_neg (by decide),if_neg (by decide),if_neg (by decide),if_pos rfl]);obtain⟨t0,t1,t2,t3,t4,t5,t6⟩:=u.1.c7;have p:=Z (sj i q id t r hid D z x A n.at_);rw[s]at p⊢;go_in
 go_wp2_with fail
 try rw[F]
 go_wp2_with fail
 refine p.mono ?_;rintro e w1 ⟨rfl,dZ,Y1,v,G⟩;have m:=Z (And.intro v G);go_wp2
 go_ret;rw[E];exact⟨rfl,dZ,Y1,m.1,n.nx.trans m.2,fun h=>absurd rfl h⟩
theorem so(i:Nat)(D:i<K.wk.length)(id:Int)(t:Thread)(G:aw K.ai id=some t)(hid:t.id=id)(H:aK id)(c:cJ)(b o:Nat)(B:aj K c)(F:aR L Y c b o)(Q:∀k,k<32->aK ((K.F c).r k))(a d f j g l:Int)(h:ae w χ L Y C K):
 Calls prog 136 #[(L.mb,0),(L.wb,i*38),(Y.bI id,0),(b,o),.agg #[.int .i64 56,a,d,f,.int .u64 j,g,l]] w (dO (aB C K i id c ⟨56,a,d,f,j,g,l⟩) χ L Y C K w):=by
 have M:=Z h;have N:=Z B;have P:=Z F;have u:=Z D;obtain⟨w0,I,O,m,s⟩:=h.pre 56 a d f j g l;have p:=Z (And.intro G hid);obtain⟨tb,r⟩:=nm (Y.bI id);have v:=Z r;have E:Hid (aB C K i id c ⟨56,a,d,f,j,g,l⟩=(0,dB C (cr K id) i)):=Z (by unfold aB;dsimp only;rw[if_neg (by decide),if_neg (by decide),if_neg (by decide),if_neg (by decide),if_neg (by decide),if_pos rfl]);obtain⟨t0,t1,t2,t3,t4,t5,t6⟩:=s.1.c7;have y:=m.at_.gw p.1;rw[p.2,v]at y;rw[r];go_in
 go_wp2_with fail
 try rw[I]
 go_wp2_with fail
 refine(fh id H m.at_).mono ?_;rintro e w1 ⟨rfl,dZ,Y1,z⟩;have q:=Z (m.trans (Gr.refl _) z);go_wp2_with fail
 refine(iN i (by exact u) q.at_).mono ?_;rintro e w2 ⟨rfl,J,x,A⟩;have n:=Z (q.trans (Gr.of_eq rfl) A);go_wp2
 go_ret;rw[E];exact⟨rfl,J,x,n.at_,n.nx,fun _=>n.yk⟩
theorem sp(i:Nat)(F:i<K.wk.length)(id:Int)(t:Thread)(s:aw K.ai id=some t)(hid:t.id=id)(W:aK id)(c:cJ)(b o:Nat)(D:aj K c)(I:aR L Y c b o)(V:∀k,k<32->aK ((K.F c).r k))(d f g l j m:Int)(G:1<t.l.length)(H:t.l.length<=8)(U:K.out.length<=800000)(h:ae w χ L Y C K):
 Calls prog 136 #[(L.mb,0),(L.wb,i*38),(Y.bI id,0),(b,o),.agg #[.int .i64 58,d,f,g,.int .u64 l,j,m]] w (dO (aB C K i id c ⟨58,d,f,g,l,j,m⟩) χ L Y C K w):=by
 have P:=Z h;have p:=Z D;have q:=Z I;have R:=Z F;obtain⟨w0,J,Q,a,A⟩:=h.pre 58 d f g l j m;have S:=Z (And.intro s hid);obtain⟨tb,u⟩:=nm (Y.bI id);have T:=Z u;obtain⟨y0,v⟩:∃y,(K.F c).r 0=y:=⟨_,rfl⟩;obtain⟨z,x⟩:∃y,(K.F c).r 1=y:=⟨_,rfl⟩;have N:=a.at_.aA p q 0 (by omega);have O:=a.at_.aA p q 1 (by omega);rw[v]at N;rw[x]at O;have E:Hid (aB C K i id c ⟨58,d,f,g,l,j,m⟩=(1,eE K id y0 z)):=Z (by unfold aB;dsimp only;rw[if_neg (by decide),if_neg (by decide),if_neg (by decide),if_neg (by decide),if_neg (by decide),if_neg (by decide),if_neg (by decide),if_pos rfl,v,x]);obtain⟨t0,t1,t2,t3,t4,t5,t6⟩:=A.1.c7;have r:=Z (hO (K:=K) id t s hid G H y0 z (by omega) a.at_.drew);rw[u]at r⊢;go_in
 go_wp2_with fail
 try rw[J]
 go_wp2
 go_still_tail 12,(by kernel_rfl)
 change wpList _ _ _ _ _ w0.drew;go_wp2_with fail
 refine r.mono ?_;rintro e w1 ⟨rfl,dZ,Y1,B,M⟩;have n:=Z (And.intro B M);go_wp2
 go_ret;rw[E];exact⟨rfl,dZ,Y1,n.1,a.nx.trans ((Nx.af (Ch.refl _ w0).drew).trans n.2),fun h=>absurd rfl h⟩
theorem sq(i:Nat)(bw:i<K.wk.length)(id:Int)(t:Thread)(c0:aw K.ai id=some t)(hid:t.id=id)(c7:aK id)(c:cJ)(b o:Nat)(av:aj K c)(bx:aR L Y c b o)(J:∀k,k<32->aK ((K.F c).r k))(a f g m l n:Int)(am:0<=a/\a<32)(hb:0<=f/\f<32)(bi:0<=g/\g<32)(bv:K.clock.Ok)(V:(aB C K i id c ⟨24,a,f,g,m,l,n⟩).2.clock.fl=[])(h:ae w χ L Y C K):
 Calls prog 136 #[(L.mb,0),(L.wb,i*38),(Y.bI id,0),(b,o),.agg #[.int .i64 24,a,f,g,.int .u64 m,l,n]] w (dO (aB C K i id c ⟨24,a,f,g,m,l,n⟩) χ L Y C K w):=by
 have c4:=Z h;have s:=Z av;have u:=Z bx;have c6:=Z bw;obtain⟨w0,a0,c5,j,A⟩:=h.pre 24 a f g m l n;have r:=Z (And.intro c0 hid);obtain⟨tb,X⟩:=nm (Y.bI id);have Q:=Z X;obtain⟨ci,cl⟩:=am;obtain⟨z,a1⟩:∃y,(K.F c).r a.toNat=y:=⟨_,rfl⟩;have B:=Z a1;have R:=Z (J a.toNat (by omega));rw[a1]at R;obtain⟨c8,c9⟩:=R.out;obtain⟨cm,cq⟩:=hb;obtain⟨a4,a2⟩:∃y,(K.F c).r f.toNat=y:=⟨_,rfl⟩;have D:=Z a2;have S:=Z (J f.toNat (by omega));rw[a2]at S;obtain⟨cb,cd⟩:=S.out;obtain⟨cs,cA⟩:=bi;obtain⟨a5,a3⟩:∃y,(K.F c).r g.toNat=y:=⟨_,rfl⟩;have F:=Z a3;have T:=Z (J g.toNat (by omega));rw[a3]at T;obtain⟨ce,ch⟩:=T.out;obtain⟨p,W⟩:=nm (kM K.q id a4 a5);obtain⟨ok,N⟩:=p;have P:=Z W;obtain⟨t0,t1,t2,t3,t4,t5,t6⟩:=A.1.c7;have O:=j.at_.aA s u a.toNat (by omega);rw[B]at O;have c1:=j.at_.aA s u f.toNat (by omega);rw[D]at c1;have c2:=j.at_.aA s u g.toNat (by omega);rw[F]at c2;have H:=j.at_.gw r.1;rw[r.2,Q]at H;have k1:=j.at_.v8;have I:=Z (FV (K:=K) id a4 a5 j.at_.drew);rw[W]at I;rw[X];cases ok
 ·have E:Hid (aB C K i id c ⟨24,a,f,g,m,l,n⟩=(0,{K with q:=N})):=Z (by unfold aB;dsimp only;rw[if_pos rfl,D,F,P];rfl)
  go_in
  go_wp2_with fail
  try rw[a0]
  go_wp2
  go_still_tail 22,(by kernel_rfl)
  change wpList _ _ _ _ _ w0.drew;go_wp2_with fail
  refine I.out.mono ?_;rintro e w1 ⟨⟨v,rfl,M⟩,dZ,Y1,x⟩;obtain⟨tt,cC,rfl⟩:=M;have d:=Z ((j.af ay).trans (Gr.of_eq rfl) x);go_wp2
  go_ret;rw[E];exact⟨rfl,dZ,Y1,d.at_,d.nx,fun _=>d.yk⟩
 ·have E:Hid (aB C K i id c ⟨24,a,f,g,m,l,n⟩=(0,{K with q:=N,clock:=(K.clock.arm id z).2})):=Z (by unfold aB;dsimp only;rw[if_pos rfl,D,F,P,B];rfl)
  have ab:Hid ((K.clock.arm id z).2.fl=[]):=Z (by rw[E]at V;exact V);go_in
  go_wp2_with fail
  try rw[a0]
  go_wp2
  go_still_tail 22,(by kernel_rfl)
  change wpList _ _ _ _ _ w0.drew;go_wp2_with fail
  refine I.out.mono ?_;rintro e w1 ⟨⟨v,rfl,M⟩,dZ,Y1,x⟩;obtain rfl:v=.nilIface:=M;have d:=Z ((j.af ay).trans (Gr.of_eq rfl) x);have a9:=Z (((Nx.af (Ch.refl _ w0).drew).trans x.nx).row A.1 A.2);have U:=d.cur s u (Gr.of_eq rfl) rfl;have ap:Y1.bI id=tb:=((d.yk id t r.1).1).trans Q;have O:=d.at_.aA U.1 U.2 a.toNat (by omega);rw[show(({K with q:=N}:KS).F c).r a.toNat=z from B.out]at O;have H:=d.at_.gw r.1;rw[r.2,ap]at H;have k2:=d.at_.j2;obtain⟨t0,t1,t2,t3,t4,t5,t6⟩:=a9.1.c7;go_wp2
  go_still_tail 15,(by kernel_rfl)
  change wpList _ _ _ _ _ w1.drew;go_wp2_with fail
  refine(G1 id z (by exact bv) (by exact ab) d.at_.drew).mono ?_;rintro e w2 ⟨⟨v,rfl,_⟩,c3,ad,al⟩;have G:=Z ((d.af ay).trans (Gr.of_eq rfl) al);go_wp2
  go_ret;rw[E];exact⟨rfl,c3,ad,G.at_,G.nx,fun _=>G.yk⟩
theorem Ab:(prog.info? 167).map (fun i=>(i.zero,i.size,i.bytes))=some (some (.pointer none),1,8):=by kernel_rfl
def GD(p:Int):Frame:=⟨⟨p,fun _=>0,[]⟩,false,0⟩
theorem qO{w:World}{χ:Nat->a'}{L:cU}{Y:Var}{C:KC}{K:KS}(id:Int){s:fQ}(a:gq K.q id=some s)(h:ae w χ L Y C K):Calls prog 66 #[(L.qb,0),.int .u64 id] w (fun e w'=>e=.returned (.tuple #[.int .u64 s.ad,.int .u64 s.mask,.int .i64 (bg s.ad (8:Nat)),.bool true])/\∃n,w'=w.drewN n):=by
 have:=qK id h;rw[a]at this;exact this
theorem qP{w:World}{χ:Nat->a'}{L:cU}{Y:Var}{C:KC}{K:KS}(id:Int)(a:gq K.q id=none)(h:ae w χ L Y C K):Calls prog 66 #[(L.qb,0),.int .u64 id] w (fun e w'=>e=.returned (.tuple #[.int .u64 0,.int .u64 0,.int .i64 0,.bool false])/\∃n,w'=w.drewN n):=by
 have:=qK id h;rw[a]at this;exact this
theorem sr(i:Nat)(a5:i<K.wk.length)(id:Int)(t:Thread)(al:aw K.ai id=some t)(hid:t.id=id)(am:aK id)(c:cJ)(b o:Nat)(a4:aj K c)(a9:aR L Y c b o)(ad:∀k,k<32->aK ((K.F c).r k))(a m p u r x:Int)(a3:0<=a/\a<32)(h:ae w χ L Y C K):
 Calls prog 136 #[(L.mb,0),(L.wb,i*38),(Y.bI id,0),(b,o),.agg #[.int .i64 28,a,m,p,.int .u64 u,r,x]] w (dO (aB C K i id c ⟨28,a,m,p,u,r,x⟩) χ L Y C K w):=by
 have av:=Z h;have D:=Z a4;have F:=Z a9;have W:=Z a5;obtain⟨w0,S,bi,d,B⟩:=h.pre 28 a m p u r x;have A:=Z (And.intro al hid);obtain⟨tb,R⟩:=nm (Y.bI id);have N:=Z R;obtain⟨c1,c2⟩:=a3;obtain⟨c3,T⟩:∃y,(K.F c).r a.toNat=y:=⟨_,rfl⟩;have X:=Z T;have O:=Z (ad a.toNat (by omega));rw[T]at O;obtain⟨bw,bx⟩:=O.out;obtain⟨q,ab⟩:=nm (gq K.q id);have z:=Z ab;obtain⟨t0,t1,t2,t3,t4,t5,t6⟩:=B.1.c7;have M:=d.at_.aA D F a.toNat (by omega);rw[X]at M;have H:=d.at_.gw A.1;rw[A.2,N]at H;have I:=d.at_.FR A.1;rw[N]at I;have k1:=d.at_.v8;rw[R];cases q with
 |some s=>
  have G:=Z (fun n=>qO (K:=K) id z (d.at_.drewN n));have E:Hid (aB C K i id c ⟨28,a,m,p,u,r,x⟩=(1,dB C {K with table:=(j4 K.table id 3).2} i)):=Z (by unfold aB;dsimp only;rw[if_neg (by decide),if_pos rfl,z]);go_in
  go_wp2_with fail
  try rw[S]
  go_wp2
  go_quiet ((go_at_call 66;exact Calls.quiet_of (G _)))
  obtain⟨w1,l⟩:=nm (w0.drewN nq);have f:Hid (Ch ag w0 w1):=Z (by rw[<-l];exact ay);rw[l];have g:=Z (d.af f);have H:=f.k H;have k2:=g.at_.ee;go_wp2
  go_still_tail 8,(by kernel_rfl)
  change wpList _ _ _ _ _ w1.drew;go_wp2_with fail
  refine(qI id 3 am g.at_.drew).mono ?_;rintro e w2 ⟨⟨v,rfl,_⟩,U,Q,J⟩;have j:=Z ((g.af ay).trans (Gr.of_eq rfl) J);go_wp2_with fail
  refine(iN i (by exact W) j.at_).mono ?_;rintro e c0 ⟨rfl,ap,a0,a1⟩;have P:=Z (j.trans (Gr.of_eq rfl) a1);go_wp2
  go_ret;rw[E];exact⟨rfl,ap,a0,P.at_,P.nx,fun h=>absurd rfl h⟩
 |none=>
  have G:=Z (fun n=>qP (K:=K) id z (d.at_.drewN n));have E:Hid (aB C K i id c ⟨28,a,m,p,u,r,x⟩=(0,K.ax c a.toNat t.eY)):=Z (by unfold aB;dsimp only;rw[if_neg (by decide),if_pos rfl,z];show(0,K.ax c a.toNat (K.T id).eY)=_;rw[KS.dm A.1]);go_in
  go_wp2_with fail
  try rw[S]
  go_wp2
  go_quiet ((go_at_call 66;exact Calls.quiet_of (G _)))
  obtain⟨w1,l⟩:=nm (w0.drewN nq);have f:Hid (Ch ag w0 w1):=Z (by rw[<-l];exact ay);rw[l];have g:=Z (d.af f);have V:=Z ((Nx.af f).row B.1 B.2);have I:=f.k I;have M:=f.k M;have bv:=g.at_.hy D F (o+1+a.toNat);have t1:=V.1.k 1 rfl;have a2:=Z (g.at_.drew.a7 D F a.toNat (by omega) t.eY);go_wp2
  go_still_tail 9,(by kernel_rfl)
  change wpList _ _ _ _ _ w1.drew;go_wp2
  go_ret;rw[E];obtain⟨U,Q,J⟩:=a2.out;have j:=(g.af ay).trans (Gr.refl _) J;exact⟨rfl,U,Q,j.at_,j.nx,fun _=>j.yk⟩
theorem ss(i:Nat)(R:i<K.wk.length)(id:Int)(t:Thread)(a0:aw K.ai id=some t)(hid:t.id=id)(eV:aK id)(c:cJ)(b o:Nat)(am:aj K c)(bx:aR L Y c b o)(H:∀k,k<32->aK ((K.F c).r k))(m z A F B G:Int)(ch:0<=m/\m<32)(bi:0<t.l.length)(cL:t.l.length<=8)(cm:C.bs.length<=2048)(h:ae w χ L Y C K):
 Calls prog 136 #[(L.mb,0),.pointer (some ⟨L.wb,i*38,none⟩),(Y.bI id,0),(b,o),.agg #[.int .i64 57,m,z,A,.int .u64 F,B,G]] w (dO (aB C K i id c ⟨57,m,z,A,F,B,G⟩) χ L Y C K w):=by
 have en:=Z h;have c4:=Z am;have c8:=Z bx;have et:=Z R;obtain⟨w0,x,es,r,c3⟩:=h.pre 57 m z A F B G;have q:=Z (And.intro a0 hid);obtain⟨tb,a1⟩:=nm (Y.bI id);have M:=Z a1;obtain⟨g0,g1⟩:=ch;obtain⟨n,a2⟩:∃y,(K.F c).r m.toNat=y:=⟨_,rfl⟩;have O:=Z a2;have a9:=Z (H m.toNat (by omega));rw[a2]at a9;obtain⟨fn,fz⟩:=a9.out;clear a2;obtain⟨dN,ap,cW,dr,dC⟩:=info_parts Ab;have c6:=Z ap;obtain⟨N,U⟩:=mn t.l.length;have v:=Z U;obtain⟨a3,X⟩:=nm C.bs.length;have T:=Z X;obtain⟨g,cap,S,ci,_⟩:=r.at_.hV a0 bi;rw[<-U]at S ci cL bi;have J:=Z S;obtain⟨t0,t1,t2,t3,t4,t5,t6⟩:=c3.1.c7;have ej:=r.at_.aA c4 c8 m.toNat (by omega);rw[O]at ej;have k3:=r.at_.c3;have e:=r.at_.DB q.1;rw[M,S]at e;rw[X]at k3 cm;have eA:(a3:Int)<=2048:=by omega
 have eL:(N:Int)<=8:=by omega
 clear U X S;rw[a1];clear h am bx H R a0 hid a1 ap;by_cases av:n<(a3:Int)
 ·by_cases ex:N<8
  ·have eC:(N:Int)<8:=by omega
   have c2:wrap64 n=n:=(by unfold wrap64;omega);have E:Hid (aB C K i id c ⟨57,m,z,A,F,B,G⟩=(0,K.cp id {t with l:=t.l++[GD n]})):=Z (by unfold aB;dsimp only;rw[if_neg (by decide),if_neg (by decide),if_neg (by decide),if_neg (by decide),if_neg (by decide),if_neg (by decide),if_pos rfl,O,T,KS.dm q.1,<-v,if_pos ⟨av,by omega⟩,c2];rfl);clear c2;go_in
   go_wp2_with fail
   try rw[x]
   clear x;go_wp2
   go_quiet (fail)
   obtain⟨w1,j⟩:=nm (w0.drewN nq);have a:Hid (Ch ag w0 w1):=Z (by rw[<-j];exact ay);rw[j];clear j;have d:=Z (r.af a);have k3:=a.k k3;have e:=a.k e;go_upto_region 27 with fail
   obtain⟨u,I⟩:=nm (w1.alloc (.cells #[n,.int .u64 0,.int .u64 0,.int .u64 0,.int .u64 0,.int .u64 0,.int .u64 0,.int .u64 0,.int .u64 0,.int .u64 0,.int .u64 0,.int .u64 0,.int .u64 0,.int .u64 0,.int .u64 0,.int .u64 0,.int .u64 0,.int .u64 0,.int .u64 0,.int .u64 0,.int .u64 0,.int .u64 0,.int .u64 0,.int .u64 0,.int .u64 0,.int .u64 0,.int .u64 0,.int .u64 0,.int .u64 0,.int .u64 0,.int .u64 0,.int .u64 0,.int .u64 0,.slice none 0 0,.bool false,.int .i64 0] 169));have a4:=Z (Ch.al (D:=ag) I);have a5:Hid (aJ u w1.heap.size 0 169 [] (GD n).post (.slice none 0 0) (GD n).f):=Z ⟨by
    have H:=Row.new w1 #[n,.int .u64 0,.int .u64 0,.int .u64 0,.int .u64 0,.int .u64 0,.int .u64 0,.int .u64 0,.int .u64 0,.int .u64 0,.int .u64 0,.int .u64 0,.int .u64 0,.int .u64 0,.int .u64 0,.int .u64 0,.int .u64 0,.int .u64 0,.int .u64 0,.int .u64 0,.int .u64 0,.int .u64 0,.int .u64 0,.int .u64 0,.int .u64 0,.int .u64 0,.int .u64 0,.int .u64 0,.int .u64 0,.int .u64 0,.int .u64 0,.int .u64 0,.int .u64 0,.slice none 0 0,.bool false,.int .i64 0] 169;rw[I]at H;exact H,rfl,cv.nil _⟩
   have cb:Hid (u.heap.size=w1.heap.size+1):=Z (by rw[<-I];simp);rw[I];clear I;have s:=Z (d.af a4);have e:=a4.k e;have ab:=s.at_.sf q.1 1;rw[M]at ab;obtain⟨fb,P⟩:=mn w1.heap.size;have c7:Hid (χ fb=.no):=Z (d.at_.fresh (by rw[P];exact Nat.le_refl _));rw[<-P]at a5 cb⊢;have c5:=Z P;have W:=(s.at_.tl id t q.1 (by simp)).is;rw[J,<-v]at W;have c0:tb<u.heap.size:=aQ e;have c1:(Value.slice (some (g,0)) N cap).ownBlock≠some tb:=by
    have:=aZ (s.at_.tl id t q.1 (by simp)).is (s.at_.th id t q.1 (by simp)).is (by decide);rw[J,M]at this;exact this
   clear P;go_wp2_with (at_builtin;refine wpList_append_lies _ rfl _ _ _ rfl 0 167 dN _ 1 8 underlying162 c6 cW dr dC rfl (by omega) _ N ((List.range N).map fun k=>bk (Y.fb id k)) rfl (W.alloc _) ⟨u.heap.size,0,none⟩ 1 1 [(fb,0)] rfl rfl (World.news_of_block (cs:=#[(fb,0)]) (t:=167) (fr:=(0,0)) (heap_alloc_new u _)) (by simp[Value.oneCell']) (by omega) (by unfold maxLen;omega) (by omega) (by simp) (u.heap.size+1) (by simp) ?_)
   intro ce cd w4 bw Q al cA;have V:=s.at_.DC q.1 (f:=GD n) a5 c7 rfl (g:=ce) (cap:=cd) (w4:=w4) (by rw[<-v];exact bw) (by rw[J];exact ao Q) (by
    rw[J];rcases al with ad|ad
    ·exact Or.inl (by rw[ad])
    ·exact Or.inr (by omega))
   rw[M,<-v]at V;have c9:=Z V;have eW:w4.cell? (tb,1)=some (.slice (some (g,0)) N cap):=((Ch.bK (ao Q)).cell (p:=⟨tb,1,none⟩) c0 c1).trans e;have fd:w4.frozen? (tb,1)=false:=((Ch.bK (ao Q)).frozen (p:=⟨tb,1,none⟩) c0 c1).trans ab;clear V bw Q al cA W;go_wp2
   go_ret;rw[E];obtain⟨aY,Y',cC,cQ,cS,cl⟩:=c9.out;have bv:Nx χ χ w u:=s.nx;have eS:w.heap.size<=w1.heap.size:=d.nx.ch.size;refine⟨rfl,aY,Y',cC,⟨bv.ch.join cl (fun i _ h=>h),fun i R=>cQ i (Nat.lt_of_lt_of_le R bv.ch.size) (by rw[c5];omega)⟩,fun _=>s.yk.trans (Gr.refl _) cS⟩
  ·have cq:decide ((N:Int)<8)=false:=by simp;omega
   have E:Hid (aB C K i id c ⟨57,m,z,A,F,B,G⟩=(0,K)):=Z (by unfold aB;dsimp only;rw[if_neg (by decide),if_neg (by decide),if_neg (by decide),if_neg (by decide),if_neg (by decide),if_neg (by decide),if_pos rfl,O,T,KS.dm q.1,<-v,if_neg (by omega)]);go_in
   go_wp2_with fail
   try rw[x]
   clear x;go_wp2
   go_quiet (fail)
   obtain⟨w1,j⟩:=nm (w0.drewN nq);have a:Hid (Ch ag w0 w1):=Z (by rw[<-j];exact ay);rw[j];clear j;have d:=Z (r.af a);have k3:=a.k k3;have e:=a.k e;go_wp2
   go_ret;rw[E];exact⟨rfl,χ,Y,d.at_,d.nx,fun _=>d.yk⟩
 ·have cq:decide (n<(a3:Int))=false:=by simpa using av
  have E:Hid (aB C K i id c ⟨57,m,z,A,F,B,G⟩=(0,K)):=Z (by unfold aB;dsimp only;rw[if_neg (by decide),if_neg (by decide),if_neg (by decide),if_neg (by decide),if_neg (by decide),if_neg (by decide),if_pos rfl,O,T,KS.dm q.1,<-v,if_neg (by omega)]);go_in
  go_wp2_with fail
  try rw[x]
  clear x;go_wp2
  go_quiet (fail)
  obtain⟨w1,j⟩:=nm (w0.drewN nq);have a:Hid (Ch ag w0 w1):=Z (by rw[<-j];exact ay);rw[j];clear j;have d:=Z (r.af a);have k3:=a.k k3;have e:=a.k e;go_wp2
  go_ret;rw[E];exact⟨rfl,χ,Y,d.at_,d.nx,fun _=>d.yk⟩
theorem su(l:List (Int×Thread))(k:Int)(v:Thread)(g:Int->Nat)(b:Nat)(h:aw l k=none):cn (l.map fun x=>(x.1,g x.1)) k b=(cn l k v).map fun x=>(x.1,if x.1=k then b else g x.1):=by
 induction l with
 |nil=>simp[kF]
 |cons x l ih=>
  rw[da]at h;have a:k≠x.1:=fun e=>by rw[if_pos e]at h;cases h
  rw[if_neg a]at h;rw[List.map_cons,dY,dY,if_neg a,if_neg a,ih h,List.map_cons,if_neg (fun e=>a e.symm)]
def DE:Nat->Int:=fun _=>0
theorem ae.G5(h:ae w χ L Y C K){id:Int}(D:aw K.ai id=none){f:Frame}{bv:Value}{fb g tb:Nat}(G:aJ w fb 0 169 [] f.post bv f.f)(F:bv.ownBlock=none)
 (H:w.ownsRow 0 167 1 (.slice (some (g,0)) 1 1) 1 [bk fb]) (I:Row w tb 164 [.int .u64 id,.slice (some (g,0)) 1 1,.int .u64 0]) (o:χ fb=.no) (p:χ g=.no) (r:χ tb=.no) (O:g≠fb) (S:tb≠fb) (P:g≠tb)
 (Q:bS w' L.tm .u64 bk (cn (K.ai.map fun x=>(x.1,Y.bI x.1)) id tb)) (c:Ch (aH L.tm) w w'):
 ∃aY Y',ae w' aY L Y' C {K with ai:=cn K.ai id ⟨id,[f],0⟩}/\(∀i,i<w.heap.size->χ i≠ .no->aY i=χ i)/\(∀i,aY i≠ .no->χ i≠ .no∨i=fb∨i=g∨i=tb)/\Yk K Y Y':=by
 have B:=h.tm (by simp);have s:eT [.tm] χ χ (aH L.tm) w w':=eT.one c (fun i d=>by rw[show i=L.tm from d];simp[B.k]) h.small;have base:=h.step s (by simp);obtain⟨aY,A⟩:∃aY:Nat->a',aY=fun i=>if i=fb then .fr id 0 else if i=g then .tl id else if i=tb then .th id else χ i:=⟨_,rfl⟩
 have a:∀{i:Nat} {k:a'},χ i=k->k≠ .no->aY i=k:=fun {i k} d y=>by
  rw[A];dsimp only;rw[if_neg (fun e=>y (by rw[<-d,e,o])),if_neg (fun e=>y (by rw[<-d,e,p])),if_neg (fun e=>y (by rw[<-d,e,r]))];exact d
 have E:∀{i},χ i=.no->i≠L.tm:=fun {i} d e=>by rw[e,B.k]at d;cases d
 have M:MB [.tm] w' aY L Y C K:={
  head:=fun m=>⟨(base.head (by simp)).row,(base.head (by simp)).rows,a (base.head (by simp)).k (by simp)⟩
  mem:=fun m=>⟨(base.mem (by simp)).is,a (base.mem (by simp)).k1 (by simp),a (base.mem (by simp)).k2 (by simp),a (base.mem (by simp)).k3 (by simp)⟩
  al:=fun m=>⟨(base.al (by simp)).is,a (base.al (by simp)).k1 (by simp),fun q l=>a ((base.al (by simp)).k2 q l) (by simp)⟩
  b2:=fun m=>⟨(base.b2 (by simp)).is,a (base.b2 (by simp)).k1 (by simp),a (base.b2 (by simp)).k2 (by simp),a (base.b2 (by simp)).k3 (by simp),a (base.b2 (by simp)).k4 (by simp),fun q l=>a ((base.b2 (by simp)).k5 q l) (by simp)⟩
  ring:=fun m=>⟨(base.ring (by simp)).is,a (base.ring (by simp)).k1 (by simp),a (base.ring (by simp)).k2 (by simp)⟩
  q:=fun m=>⟨(base.q (by simp)).is,(base.q (by simp)).b1,fun i d=>a ((base.q (by simp)).k i d) (by simp)⟩
  cZ:=fun m=>⟨(base.cZ (by simp)).is,a (base.cZ (by simp)).k1 (by simp),a (base.cZ (by simp)).k2 (by simp)⟩
  obj:=fun m=>⟨(base.obj (by simp)).is,a (base.obj (by simp)).k1 (by simp),a (base.obj (by simp)).k2 (by simp)⟩
  tm:=fun m=>absurd (by simp) m
  th:=fun j u n m=>⟨(base.th j u n (by simp)).is,a (base.th j u n (by simp)).k (by simp)⟩
  tl:=fun j u n m=>⟨(base.tl j u n (by simp)).is,fun q l=>a ((base.tl j u n (by simp)).k q l) (by simp)⟩
  fr:=fun j u k f' n y m=>⟨(base.fr j u k f' n y (by simp)).is,a (base.fr j u k f' n y (by simp)).kf (by simp),fun q l=>a ((base.fr j u k f' n y (by simp)).kb q l) (by simp)⟩
  wk:=fun m=>⟨(base.wk (by simp)).is,a (base.wk (by simp)).k (by simp),(base.wk (by simp)).back,fun i x z q l=>a ((base.wk (by simp)).kb i x z q l) (by simp),(base.wk (by simp)).n⟩
  out:=fun m=>⟨(base.out (by simp)).is,fun q l=>a ((base.out (by simp)).k q l) (by simp)⟩
  code:=fun m=>{
   m4:=(base.code (by simp)).m4
   jo:=(base.code (by simp)).jo
   m5:=(base.code (by simp)).m5
   cg:=fun z=>by obtain⟨q,o,p,r⟩:=(base.code (by simp)).cg z;exact⟨q,o,p,a r (by simp)⟩
   prog:=fun z=>by obtain⟨q,o,p,r⟩:=(base.code (by simp)).prog z;exact⟨q,o,p,a r (by simp)⟩
   calls:=fun z=>by obtain⟨q,j,o,p,r⟩:=(base.code (by simp)).calls z;exact⟨q,j,o,p,a r (by simp)⟩}
  small:=fun i d=>by
   rw[A]at d;dsimp only at d;split at d
   ·rename_i e;rw[e];exact Nat.lt_of_lt_of_le G.row.lt c.size
   ·split at d
    ·rename_i e;rw[e];exact Nat.lt_of_lt_of_le (cE H (g:=g) rfl) c.size
    ·split at d
     ·rename_i e;rw[e];exact Nat.lt_of_lt_of_le I.lt c.size
     ·exact base.small i d}
 have J:=G.ch c (fun e=>E o e) (fun q l=>by rw[F]at l;cases l);have N:=ak H c (fun q l e=>E p (by
  have:g=q:=by simpa[Value.ownBlock]using l
  rw[this];exact e))
 have R:=I.ch c (fun e=>E r e);refine⟨aY,_,M.FH (t:=⟨id,[f],0⟩) (f:=f) (v:=.slice (some (g,0)) 1 1) (bv':=bv) (b:=tb) (fbk:=fb) D rfl ⟨?_,a B.k (by simp),B.nd.put _ _⟩ ⟨R,?_⟩ ⟨by simpa using N,?_⟩ ⟨J,?_,fun q l=>by rw[F]at l;cases l⟩,fun i d m=>a rfl m,?_,?_⟩
 ·rw[<-su _ _ _ _ _ D];exact Q
 ·rw[A];dsimp only;rw[if_neg S,if_neg (fun e=>P e.symm),if_pos rfl]
 ·intro q l
  have:g=q:=by simpa[Value.ownBlock]using l
  rw[<-this,A];dsimp only;rw[if_neg O,if_pos rfl]
 ·rw[A];dsimp only;rw[if_pos rfl]
 ·intro i d
  rw[A]at d;dsimp only at d;split at d
  ·rename_i e;exact Or.inr (Or.inl e)
  ·split at d
   ·rename_i e;exact Or.inr (Or.inr (Or.inl e))
   ·split at d
    ·rename_i e;exact Or.inr (Or.inr (Or.inr e))
    ·exact Or.inl d
 ·intro j u n
  have e:j≠id:=fun e=>by rw[e,D]at n;cases n
  exact⟨if_neg e,fun k _=>if_neg e⟩
theorem ng{S:a8}{M:aI}{n a:Nat}(b:S.Ok)(h:(df S M n).1=some a):a<=140000:=by
 unfold df at h;split at h
 ·cases h
 ·split at h
  ·cases h
  ·rename_i i d
   split at h
   ·have:S.ek i=a:=by simpa using h
    rw[<-this];unfold a8.ek;split
    ·have:=b.from_;omega
    ·split
     ·rename_i x c;have:=b.l x (List.mem_of_getElem? c);omega
     ·omega
   ·cases h
def jb(place a:Int):Frame:=⟨⟨place,fun j=>if j=0 then a else 0,[]⟩,false,0⟩
theorem xH(place c:Int)(W:K.blocks.Ok)(X:(df K.blocks K.mem 1).2.1.Ok)(ap:∀J id,(dh K.table J).1=some id->aw K.ai id=none)(h:ae w χ L Y C K):
 Calls prog 48 #[(L.mb,0),place,.int .u64 c] w (dk (.int .u64 (bQ K place c).1) χ L Y C K (bQ K place c).2 w):=by
 have cW:=Z h;have A:=h.pd;have I:=Z (sd 1 (by omega) W h);obtain⟨p,M⟩:=nm (df K.blocks K.mem 1);have hle:∀a,p.1=some a->a<=140000:=fun a am=>ng W (by rw[M];exact am)
 rw[M]at I X;obtain⟨cl,a2,a9⟩:=p;have Q:=Z M;have c4:=Z X;have c8:=Z ap;clear h M W X ap;cases cl with
 |none=>
  have E:Hid (bQ K place c=(0,{K with blocks:=a2,mem:=a9})):=Z (by unfold bQ;rw[Q]);clear hle;go_in
  go_wp2_with fail
  refine I.mono ?_;rintro e w1 ⟨⟨u,rfl,a1⟩,dZ,Y1,b⟩;obtain⟨tt,cQ,rfl⟩:=a1;have y:=Z b;clear b A;go_wp2
  go_ret;rw[E];exact⟨rfl,dZ,Y1,y⟩
 |some a=>
  have am:=hle a rfl;have dN:IntKind.u64.wrap (a:Int)=a:=by unfold IntKind.wrap IntKind.bits IntKind.signed;simp;omega
  obtain⟨K1,V⟩:=mn (({K with blocks:=a2,mem:=a9}:KS));have j:=Z V;have dC:(a:Int)<=140000:=by omega
  obtain⟨q,bi⟩:=nm (dh K1.table (a:Int));obtain⟨ci,r⟩:=q;have z:=Z bi;have c5:Hid (K1.blocks.Ok):=Z (by rw[V];exact c4);clear hle V bi;cases ci with
  |none=>
   have E:Hid (bQ K place c=(0,jm {K1 with table:=r} a)):=Z (by
    have:=z.out;rw[j]at this⊢;unfold bQ;rw[Q];dsimp only;rw[show dh K.table (a:Int)=(none,r)from this])
   go_in
   go_wp2_with fail
   refine I.mono ?_;rintro e w1 ⟨rfl,dZ,Y1,b⟩;rw[<-j]at b;have y:=Z b;have R:=b.at_.ee;have n:=sc (a:Int) b.at_;rw[z]at n;have N:=Z n;clear b A n;go_wp2_with fail
   refine N.mono ?_;rintro e w2 ⟨⟨u,rfl,a1⟩,x,ab,m⟩;obtain⟨tt,cQ,rfl⟩:=a1;have k:=Z (y.trans (Gr.of_eq (by rw[j])) m);have A:=m.at_.pd;clear m R;go_wp2_with fail
   refine(zZ (a:Int) (by exact c5) k.at_).mono ?_;rintro e en ⟨⟨v,rfl,_⟩,cS,ch,ad⟩;have c3:=Z (k.trans (Gr.of_eq (by rw[j])) ad);clear ad A;go_wp2
   go_ret;rw[E];exact⟨rfl,cS,ch,c3⟩
  |some id=>
   have av:aw K.ai id=none:=c8 (a:Int) id (by have:=z.out;rw[j]at this;rw[show dh K.table (a:Int)=(some id,r)from this]);have c9:=Z av;have E:Hid (bQ K place c=(id,{K1 with table:=r,ai:=cn K.ai id ⟨id,[jb place c],0⟩})):=Z (by
    have:=z.out;rw[j]at this⊢;unfold bQ;rw[Q];dsimp only;rw[show dh K.table (a:Int)=(some id,r)from this];rfl)
   clear av;go_in
   go_wp2_with fail
   refine I.mono ?_;rintro e w1 ⟨rfl,dZ,Y1,b⟩;rw[<-j]at b;have y:=Z b;have R:=b.at_.ee;have n:=sc (a:Int) b.at_;rw[z]at n;have N:=Z n;clear b A n;go_wp2_with fail
   refine N.mono ?_;rintro e w2 ⟨rfl,x,ab,m⟩;have k:=Z (y.trans (Gr.of_eq (by rw[j])) m);have S:=m.at_.hN;have c2:=Z S;clear S;go_upto_region 11 with fail
   obtain⟨d,H⟩:=nm (w2.alloc (.cells #[place,.int .u64 c,.int .u64 0,.int .u64 0,.int .u64 0,.int .u64 0,.int .u64 0,.int .u64 0,.int .u64 0,.int .u64 0,.int .u64 0,.int .u64 0,.int .u64 0,.int .u64 0,.int .u64 0,.int .u64 0,.int .u64 0,.int .u64 0,.int .u64 0,.int .u64 0,.int .u64 0,.int .u64 0,.int .u64 0,.int .u64 0,.int .u64 0,.int .u64 0,.int .u64 0,.int .u64 0,.int .u64 0,.int .u64 0,.int .u64 0,.int .u64 0,.int .u64 0,.slice none 0 0,.bool false,.int .i64 0] 169));have a4:=Z (Ch.al (D:=ag) H);have a5:Hid (aJ d w2.heap.size 0 169 [] (jb place c).post (.slice none 0 0) (jb place c).f):=Z ⟨by
    have bw:=Row.new w2 #[place,.int .u64 c,.int .u64 0,.int .u64 0,.int .u64 0,.int .u64 0,.int .u64 0,.int .u64 0,.int .u64 0,.int .u64 0,.int .u64 0,.int .u64 0,.int .u64 0,.int .u64 0,.int .u64 0,.int .u64 0,.int .u64 0,.int .u64 0,.int .u64 0,.int .u64 0,.int .u64 0,.int .u64 0,.int .u64 0,.int .u64 0,.int .u64 0,.int .u64 0,.int .u64 0,.int .u64 0,.int .u64 0,.int .u64 0,.int .u64 0,.int .u64 0,.int .u64 0,.slice none 0 0,.bool false,.int .i64 0] 169;rw[H]at bw;exact bw,rfl,cv.nil _⟩
   have l:Hid (d.heap.size=w2.heap.size+1):=Z (by rw[<-H];simp);rw[H];clear H m R;have S:=(a4.cell (aQ c2.out) (fun h=>h)).trans c2.out;obtain⟨fb,a0⟩:=mn w2.heap.size;rw[<-a0]at a5 l⊢;have o:=Z a0;clear a0;obtain⟨w4,t⟩:=nm ((d.alloc (.cells #[(fb,0)] 167)).alloc (.cells #[.int .u64 id,.slice (some (d.heap.size,0)) 1 1,.int .u64 0] 164));have a3:Hid (Ch ag w2 w4):=Z (by rw[<-t];exact(a4.alloc _).alloc _);have O:Hid (ae w4 x L ab C {K1 with table:=r}):=Z (k.at_.af a3);have cb:Hid (Row w4 d.heap.size 167 [bk fb]):=Z (by rw[<-t];exact(Row.new d _ _).alloc _);have cd:Hid (Row w4 (d.heap.size+1) 164 [.int .u64 id,.slice (some (d.heap.size,0)) 1 1,.int .u64 0]):=Z (by
    rw[<-t];have:=Row.new (d.alloc (.cells #[(fb,0)] 167)) #[.int .u64 id,.slice (some (d.heap.size,0)) 1 1,.int .u64 0] 164;rw[World.size_alloc]at this;exact this)
   have c7:Hid (aJ w4 fb 0 169 [] (jb place c).post (.slice none 0 0) (jb place c).f):=Z (by
    rw[<-t];exact a5.ch (((Ch.refl ag _).alloc _).alloc _) (fun h=>h) (fun _ _ h=>h))
   obtain⟨cL,c0,al,U⟩:=fu (P:=prog) (T:=71) (K:=22) (E:=161) (enc:=bk) underlying71 underlying22 (O.tm (by simp)).is id (d.heap.size+1);have G:∀i,w2.heap.size<=i->x i=.no:=fun i s=>by
    cases B:x i with
    |no=>rfl
    |_=>exact absurd (k.at_.small i (by rw[B];simp)) (by omega)
   have dr:=Z G;have bx:=O.G5 (id:=id) (f:=jb place c) (bv:=.slice none 0 0) (fb:=fb) (g:=d.heap.size) (tb:=d.heap.size+1) (w':=cL) (by rw[j];exact c9) c7 rfl
    ⟨rfl,Or.inr ⟨d.heap.size,1,#[bk fb],rfl,Nat.zero_le _,cb,Nat.le_refl _,by unfold maxLen;omega,rfl,rfl⟩⟩ cd (G _ (by rw[o];exact Nat.le_refl _)) (G _ (by rw[l,o];omega)) (G _ (by rw[l,o];omega)) (by rw[l];omega) (by rw[l];omega) (by omega) al U
   have ce:=Z bx;have c6:=Z U;simp only[bk]at c0;rw[<-t]at c0;clear bx al U t G;go_wp2
   go_ret;rw[E];obtain⟨aY,Y',J,cA,cs,cC⟩:=ce.out;have c1:K1.ai=K.ai:=(by rw[j]);simp only[c1]at J;refine⟨rfl,aY,Y',J,?_,?_⟩
   ·have F:Nx χ x w w4:=k.nx.trans (Nx.af a3)
    have cm:=(O.tm (by simp)).k;have ej:w.heap.size<=w2.heap.size:=k.nx.ch.size;refine⟨F.ch.join c6 (fun i s e=>by rw[<-F.same i s,show i=L.tm from e,cm];simp),fun i s=> ?_⟩;cases B:x i with
    |no=>
     rw[<-F.same i s,B];cases cq:aY i with
     |no=>rfl
     |_=>
      exfalso;rcases cs i (by rw[cq];simp)with e|e|e|e
      ·exact e B
      ·rw[o]at e;omega
      ·rw[l,o]at e;omega
      ·rw[l,o]at e;omega
    |_=>rw[cA i (Nat.lt_of_lt_of_le s F.ch.size) (by rw[B];simp),F.same i s]
   ·exact k.yk.trans (Gr.of_eq c1) cC
theorem Ac(c:cJ)(f:cP):(K.cI c f).mem=K.mem:=by cases c<;>rfl
theorem sw(c:cJ)(f:cP):(K.cI c f).blocks=K.blocks:=by cases c<;>rfl
theorem jR(c:cJ)(f:cP):(K.cI c f).clock=K.clock:=by cases c<;>rfl
theorem xI(c:cJ)(f:cP):(K.cI c f).ring=K.ring:=by cases c<;>rfl
theorem sx(c:cJ)(f:cP):(K.cI c f).out=K.out:=by cases c<;>rfl
theorem gx(c:cJ)(k:Nat)(x:Int):(K.ax c k x).mem=K.mem:=Ac _ _
theorem cj(c:cJ)(k:Nat)(x:Int):(K.ax c k x).blocks=K.blocks:=sw _ _
theorem n7(l:List aF)(id:Int):0<=ed l id/\ed l id<=4:=by
 unfold ed
 repeat' split
 all_goals omega
theorem hg(K:KS)(id a:Int):(eo K id a).ai=K.ai:=by unfold eo jm;split<;>rfl
theorem kZ(K:KS)(id a:Int):(eo K id a).wk=K.wk:=by unfold eo jm;split<;>rfl
theorem sy(K:KS)(id:Int):(cr K id).ai=K.ai:=rfl
theorem k6(place f:Int)(b:∀c id,(dh K.table c).1=some id->aw K.ai id=none):Gr K (bQ K place f).2:=by
 unfold bQ;split
 ·exact Gr.of_eq rfl
 ·dsimp only
  split
  ·exact Gr.of_eq rfl
  ·rename_i id t hb
   intro j u a;have d:=b _ id (by rw[hb]);refine⟨u,?_,Nat.le_refl _⟩;show aw (cn K.ai id _) j=some u
   rw[aV,if_neg (fun e=>by rw[e,d]at a;cases a)];exact a
theorem n9(place a:Int):(bQ K place a).2.wk=K.wk:=by
 unfold bQ;split
 ·rfl
 ·dsimp only
  split<;>rfl
theorem dV(K:KS)(i:Nat)(id:Int):Gr K (ep K i id):=by
 unfold ep;split
 ·exact Gr.of_eq rfl
 ·exact Gr.of_eq rfl
theorem fE(K:KS)(i:Nat)(id:Int):(ep K i id).wk.length=K.wk.length:=by
 unfold ep;split
 ·rfl
 ·simp[KS.bj]
section
attribute [local go_sem] Oper.semAt_some
def gy(q:List Int)(k:Nat):List (Nat×Int):=(List.range k).map fun j=>(j,q[j]?.getD 0)
theorem n'(q:List Int)(k:Nat):gy q (k+1)=gy q k++[(k,q[k]?.getD 0)]:=by simp[gy,List.range_succ]
theorem pI(q:List Int)(k:Nat):(gy q k).length=k:=by simp[gy]
theorem lW(q:List Int){k:Nat}(b:k<=q.length):(gy q k).map Prod.snd=q.take k:=by
 apply List.ext_getElem
 ·simp[gy,b]
 ·intro i a c
  have:i<q.length:=by simp[gy]at a;omega
  simp[gy,this]
def gV(A B:World):Prop:=∀(k:Nat) (o:Obj),A.heap[k]?=some o->o.isCells=true->B.heap[k]?=some o
def G6(A:World)(k:Nat):Prop:=∃o,A.heap[k]?=some o/\o.isCells=true
theorem gV.refl(A:World):gV A A:=fun _ _ h _=>h
theorem gV.drew(A:World):gV A A.drew:=fun _ _ h _=>h
theorem gV.drewN(A:World)(n:Nat):gV A (A.drewN n):=fun _ _ h _=>h
theorem gV.trans{A B C:World}(h:gV A B)(k:gV B C):gV A C:=fun i o b a=>k i o (h i o b a) a
theorem gV.put(W:World)(l:Nat)(o d:Obj)(h:W.heap[l]?=some o)(c:o.isCells=false):gV W (W.putObj l d):=fun k f a b=>by
 by_cases e:k=l
 ·subst e;rw[h]at a;cases a;rw[c]at b;cases b
 ·exact(World.putObj_heap_other e).trans a
theorem oa(W:World){D:Nat}{p:Addr}(o:Obj)(v:Value)(h:D≠p.block):(W.setCell p v).putObj D o=(W.putObj D o).setCell p v:=by
 unfold World.setCell World.putObj
 congr 1
 apply Array.ext_getElem?;intro i;simp only[Array.getElem?_modify,Array.getElem?_setIfInBounds,Array.size_modify];by_cases a:D=i
 ·subst a
  have b:¬p.block=D:=fun e=>h e.symm
  simp[b]
 ·simp[a]
structure uv(Kp:World->World->Prop)(Sep:World->Nat->Prop):Prop where
 keep:∀{A B:World} {k:Nat},Kp A B->Sep A k->k<A.heap.size->B.heap[k]?=A.heap[k]?/\Sep B k
theorem FX:uv gV G6:=⟨fun {A B k} h ⟨o,a,b⟩ _=>⟨(h k o a b).trans a.symm,o,h k o a b,b⟩⟩
theorem mN(a:Nat)(w:World):
 Calls prog 215 #[(a,0)] w (fun e w'=>e=.returned (.func (.func 225) #[] #[(w.heap.size,0)])/\w.alloc (.cells #[(a,0)] 67)=w'):=by
 go_wp2
 go_ret;exact⟨rfl,rfl⟩
theorem uw(n:Nat)(g5:1<=n)(l J b g:Nat)(q:List Int){T:World->World->Prop}{Sep:World->Nat->Prop}(a2:uv T Sep)(j S:List (Nat×Int)->World->Prop)(W:World)
 (a4:∀r k o,Ch ag W r->W.heap.size<=k->r.heap[k]?=some o->o.isCells=true->Sep r k) (X:∀r,Ch ag W r->j [] W->j [] r)
 (a5:∀pre x W,j pre W->pre.length<q.length->YieldAt Fence.wide (n-1) prog l #[.int .i64 (x.1:Nat),.int .u64 x.2] W fun e W'=>
  (e=.returned (.bool true)/\j (pre++[x]) W'/\T W W')∨(e=.returned (.bool false)/\S (pre++[x]) W'))
 (ej:W.cell? (J,0)=some (.pointer (some (b,0)))) (y:eP W b g q) (V:j [] W):
 Calls prog 225 #[.func (.yield l) #[] #[],(J,0)] W fun e W'=>(∃v,e=.returned v)/\
  ((∃c2,c2=gy q q.length/\j c2 W')∨(∃pre,(∃k,k<=q.length/\pre=gy q k)/\S pre W')):=by
 obtain⟨cs,fr,z,bi⟩:=y;have L:=Z z;have ce:=Z bi;have cl:=Z a4;have c8:=Z X;have cA:=Z a5;have c3:=Z V;have K:=Z ej;have cb:=Z a2;have cC:=z.head.k 2 rfl;obtain⟨N,E⟩:=mn q.length;have B:=Z E;have eS:=z.hn;rw[<-E]at cC eS⊢;have c7:=Z (info_parts g');obtain⟨fd,al,eV,eW,fb⟩:=c7.out;have c6:=Z al;clear z bi a4 X a5 V a2 E al;go_wp2
 go_loopg [3,11] (N+1) (fun gk u i wr=>∃k:Nat,k<=N/\gk=N-k+1/\i=.int .i64 k/\Hid (Ch ag W wr/\wr.ownsRow W.heap.size 22 1 u k ((q.take k).map (Value.int .u64))))
 case atStart=>exact⟨0,by omega,by omega,rfl,Ch.refl _ _,⟨by simp,Or.inl ⟨rfl,rfl⟩⟩⟩
 case round=>
  obtain⟨k,g3,rfl,rfl,c⟩:=hrel;have c4:=Z ((c.1.cell (aQ K) id).trans K);obtain⟨C,D,rfl⟩:=au c.2;by_cases F:k<N
  ·have f:q[k]?=some (q[k]?.getD 0):=by rw[List.getElem?_eq_getElem (by rw[<-B];exact F)];rfl
   have cq:=Z f;obtain⟨x,c0⟩:=nm (q[k]?.getD 0);rw[c0]at f;have R:=Z f;have U:wr.cell? ⟨g,(fr+k)%64,none⟩=some (.int .u64 x):=(L.rows.ch c.1 id).cell (by rw[List.getElem?_map,ce k (by rw[<-B];exact F),R];rfl);have es:=c4.out;have et:=Z (L.ch c.1 id id);clear f c0;go_wp2_with fail
   refine(ke b g cs fr q.length k (by omega) wr et.out).mono ?_;rintro e w2 ⟨rfl,kk,rfl⟩;obtain⟨w2,H⟩:=nm (wr.drewN kk);have w:Hid (Ch ag wr w2):=Z (by rw[<-H];exact ay);have cQ:=w.k U;have P:=Z (ak c.2 w (fun _ _ h=>h));rw[H];clear H U es;go_wp2_with (at_builtin;refine wpList_append_lies _ rfl _ _ _ rfl W.heap.size 22 fd _ 1 8 underlying35 c6 eV eW fb rfl (by omega) _ k ((q.take k).map (Value.int .u64)) rfl (P.alloc _) ⟨w2.heap.size,0,none⟩ 1 1 [.int .u64 x] rfl rfl (World.news_of_block (cs:=#[.int .u64 x]) (t:=22) (fr:=(0,0)) (heap_alloc_new w2 _)) (by simp[Value.oneCell']) (by omega) (by unfold maxLen;omega) (by omega) (by simp;have:=c.1.size;have:=w.size;omega) (w2.heap.size+1) (by simp) ?_)
   intro g1 cap w4 av ad en eL;have ab:=ao ad;have cd:=Z av;have c5:=Z (eX (c.1.trans w) P (Nat.le_refl _) ab);clear ad ab av en eL cQ;go_wp2
   go_roundg (N-(k+1)+1)
   case measure=>omega
   case rel=>
    refine⟨k+1,F,rfl,?_,c5,?_⟩
    ·congr 1
    ·rw[List.take_add_one,R,List.map_append,List.map_take]
     exact cd
  ·obtain rfl:k=N:=by omega
   have O:=Z c.2;have Q:=Z c.1;have Y:=c8 wr Q c3;have c9:=Z Y;clear Y;have a3:=O.out;have bx:∀a,(Value.slice C k D).ownBlock=some a->W.heap.size<=a/\∃o,wr.heap[a]?=some o/\o.isCells=true:=fun a d=>by
    rcases a3.2 with⟨e,_⟩|⟨g',cap,cur,e,dC,ex,_⟩
    ·rw[e]at d;cases d
    ·rw[e]at d
     have:g'=a:=(by simpa[Value.ownBlock]using d);subst this;exact⟨dC,_,ex,rfl⟩
   have cm:=Z bx;clear a3 bx;obtain⟨w0,rfl⟩:=mn wr;go_upto_block 2 with fail
   refine(wpIn_wide (n:=n)).1 ?_
   gi_wp2_with fail
   gi_loopw [25] (fun i I=>∃m:Nat,m<=k/\i=.int .i64 m/\Hid (j (gy q m) I/\∀a,(Value.slice C k D).ownBlock=some a->I.heap[a]?=w0.heap[a]?/\Sep I a)) (fun i _=>k-(intOf i).toNat)
   case atStart=>exact⟨0,by omega,rfl,c9,fun a d=>by obtain⟨cS,o,cW,dr⟩:=cm a d;exact⟨rfl,cl w0 a o Q cS cW dr⟩⟩
   case round=>
    obtain⟨m,g4,rfl,s⟩:=hrel;by_cases eC:m<k
    ·obtain⟨p,cL,fn,bw,dN,g6,g2,bv,_⟩:=aE O (by omega)
     obtain⟨rfl,rfl⟩:C=some ⟨p,0,none⟩/\D=cL:=by simpa using bw
     have am:=s.2 p rfl;have G:Row wr p 22 ((q.take k).map (Value.int .u64)++fn):=am.1.trans bv;have eA:k<=q.length:=(by rw[<-B];exact Nat.le_refl _);have a9:wr.cell? (p,m)=some (Value.int .u64 (q[m]?.getD 0)):=G.cell (i:=m) (by
      rw[List.getElem?_append_left (by simp;omega),List.getElem?_map,List.getElem?_take,if_pos eC,List.getElem?_eq_getElem (by omega)];rfl)
     obtain⟨g0,tmps,assign,body,c1,y⟩:=cA _ (m,q[m]?.getD 0) wr s.1 (by rw[pI];omega);have ch:=Z y;have ci:=Z G;dsimp only at c1 a9;clear y bv G bw dN am eA;obtain⟨x,f⟩:=nm (q[m]?.getD 0);rw[f]at c1 a9;have cq:=Z f;clear f
     gi_wp2_with fail
     refine ch.mono ?_;rintro e fz (⟨rfl,a0,ap⟩|⟨rfl,a1⟩)
     ·have A:=Z a0
      have M:=Z (cb.keep ap (s.2 p rfl).2 ci.lt);clear a0 ap
      gi_wp2_with fail
      go_roundw
      case rel=>
       refine⟨m+1,by omega,by simp,?_,fun a d=> ?_⟩
       ·rw[n'];exact A
       ·obtain rfl:p=a:=by simpa[Value.ownBlock]using d
        exact⟨M.1.trans (s.2 p rfl).1,M.2⟩
      case measure=>simp[intOf];omega
     ·have A:=Z a1
      clear a1
      gi_wp2_with fail
      refine bodyPost_ret (results_none rfl _ _ _) rfl ?_;exact⟨⟨_,rfl⟩,.inr ⟨_,⟨m+1,by omega,(n' _ _).symm⟩,A⟩⟩
    ·obtain rfl:m=k:=by omega
     gi_wp2_with fail
     go_end0
     exact⟨⟨_,rfl⟩,.inl ⟨_,rfl,s.1⟩⟩
theorem Ch.grown{w w':World}(h:Ch ag w w'):w.grownBy w' none:=⟨h.os,h.tape,h.output,h.size,fun k a _=>h.same k a id⟩
theorem k7(n:Nat)(C:1<=n)(c b g:Nat)(q:List Int){h:World->World->Prop}{Sep:World->Nat->Prop}(y:uv h Sep)(w:World)
 (i:w.cell? (c,0)=some (.pointer (some (b,0)))) (z:eP w b g q) (A:∀W a k o,Below w.heap.size w W->Ch ag W a->W.heap.size<=k->a.heap[k]?=some o->o.isCells=true->Sep a k):
 SeqStopsK Fence.wide n prog 225 #[(c,0)] (fun x:Nat×Int=>#[Value.int .i64 (x.1:Int),Value.int .u64 x.2]) h (fun D=>D=gy q q.length) (fun pre=>∃k,k<=q.length/\pre=gy q k) q.length w:=fun l p r W j v E B s=>by
 have m:=Ch.bT j;exact callsIn_wide.2 (uw n C l c b g q y p r W (fun a k o d f t u=>A W a k o j d f t u) (fun a d f=>v [] W a none f d.grown (fun _ e=>by cases e)) B ((m.cell (aQ i) id).trans i) (z.ch m id id) s)
end
section
attribute [local go_sem] Oper.semAt_some
theorem dx{P:Program}{f:FuncId}{a:Func}{c:Code}{args:Array Value}{w:World}{R:Ending->World->Prop}
 (b:P.funcs[f]?=some a) (hb:a.body=some c)
 (h:c.wp P (bodyPostM Fence.wide 5 P a R) {tmps:=args++Array.replicate (a.ntmps-args.size) undef,defers:=[]} w):Calls P f args w R:=
 callsIn_wide.1 (callsIn_of_wp_marks (F:=Fence.wide) (n:=5) b hb trivial (wpIn_wide.2 h))
section
variable{w:World}{χ:Nat->a'}{L:cU}{Y:Var}{C:KC}{K:KS}
theorem pJ(i:Nat)(bw:i<K.wk.length)(id:Int)(hid:aK id)(h:ae w χ L Y C K):Calls prog 181 #[(L.mb,0),(L.wb,i*38),.int .u64 id] w (dk (.tuple #[]) χ L Y C K (eK K i id) w):=by
 have cQ:=Z h;have ad:=Z bw;have al:=Z hid;obtain⟨w0,y⟩:=nm (w.alloc (.cells #[.int .u64 id] 22));have c3:=Z (Ch.al (D:=ag) y);have f:=Z (h.gU c3);have a3:=Z (Row.al y);obtain⟨av,bi⟩:=nm ((K.W i).hand);have a9:=Z bi;obtain⟨st,ch⟩:=nm (cz K id);have G:=Z ch;have cA:=f.at_.fD bw;rw[bi]at cA;have cW:=a3.c1;by_cases V:av=0
 ·subst V
  by_cases a:st=1
  ·subst a
   obtain⟨N,ap⟩:=nm K.wk.length;have m:=Z ap;have c9:=(f.at_.wk (by simp)).n;rw[ap]at c9;have a1:Hid (eK K i id=if K.wk.any (fun x=>x.hand==id)then K else if K.ring.any (fun r=>r==id)then K else K.bj i {K.W i with hand:=id}):=Z (by unfold eK;rw[if_neg (by rw[a9.out,G];simp)]);refine dx func181 rfl ?_;simp only[ntmps181,List.size_toArray,List.length_cons,List.length_nil,Nat.reduceAdd,Nat.reduceSub,Array.replicate_succ,Array.replicate_zero,List.push_toArray,List.append_toArray,List.nil_append,List.cons_append];go_wp2_with fail
   try rw[y]
   refine(dd id al f.at_).mono ?_;rintro e w1 ⟨rfl,J⟩;rw[G];have H:=Z (f.af J);have c2:=Z (a3.ch J (fun h=>h));have cm:=H.at_.qH;rw[m]at cm;go_wp2
   go_loopg [25] (N+1) (fun gk u wr=>∃k:Nat,k<=N/\gk=N-k+1/\u=.int .i64 k/\Hid (Ch ag w1 wr/\∀j,j<k->(K.W j).hand≠id))
   case atStart=>exact⟨0,by omega,by omega,rfl,Ch.refl _ _,fun j h=>absurd h (by omega)⟩
   case round=>
    obtain⟨k,dN,rfl,rfl,q⟩:=hrel;have s:=Z (H.af q.1);have a4:=Z (c2.ch q.1 (fun h=>h));have cq:=s.at_.qH;rw[m]at cq;have dr:=a4.c1;by_cases S:k<N
    ·obtain⟨c0,bv⟩:=nm ((K.W k).hand)
     have ab:=Z bv;have cC:=s.at_.fD (i:=k) (by rw[m];exact S);rw[bv]at cC;by_cases d:c0=id
     ·have E:Hid (eK K i id=K):=Z (by
       rw[a1,if_pos];rw[List.any_eq_true];refine⟨K.W k,List.mem_of_getElem? (KS.ha (by rw[m];exact S)),?_⟩;rw[ab,d];simp)
      subst d;go_wp2
      go_quiet (fail)
      obtain⟨X,z⟩:=nm (wr.drewN nq);have M:Hid (Ch ag wr X):=Z (by rw[<-z];exact ay);rw[z];go_wp2_with fail
      refine⟨_,results_none rfl _ _ _,?_⟩;rw[E];exact⟨rfl,_,_,s.af M⟩
     ·have hb:(c0==id)=false:=by rw[beq_eq_false_iff_ne];exact d
      go_wp2
      go_quiet (fail)
      obtain⟨X,z⟩:=nm (wr.drewN nq);have M:Hid (Ch ag wr X):=Z (by rw[<-z];exact ay);rw[z];go_wp2
      go_roundg (N-(k+1)+1)
      case measure=>omega
      case rel=>
       refine⟨k+1,S,rfl,by congr 1,q.1.trans M,fun j R=> ?_⟩;by_cases e:j=k
       ·subst e;rw[ab];exact d
       ·exact q.2 j (by omega)
    ·obtain rfl:k=N:=by omega
     have a2:Hid (eK K i id=if K.ring.any (fun r=>r==id)then K else K.bj i {K.W i with hand:=id}):=Z (by
      rw[a1,if_neg];rw[List.any_eq_true];rintro⟨x,T,U⟩;obtain⟨j,R⟩:=List.getElem?_of_mem T;have bx:=(List.getElem?_eq_some_iff.1 R).1;rw[m]at bx;refine q.2 j bx ?_;rw[KS.Cs R];simpa using U)
     have ej:=s.at_.nX;go_wp2_with fail
     refine(mN L.rb wr).mono ?_;rintro e w4 ⟨rfl,c1⟩;have a5:=Z (Ch.al (D:=ag) c1);have c4:=Z (Row.al c1);have t:=Z (s.af a5);have A:=Z (a4.ch a5 (fun h=>h));go_wp2_with fail
     have ci:=k7 (5-1) (by omega) wr.heap.size L.rb L.rg K.ring FX w4 (c4.cell (i:=0) rfl) (t.at_.ring (by simp)).is (fun W cS k o _ _ _ a O=>⟨o,a,O⟩);refine(wpIn_wide (n:=5)).1 ?_;apply wpIn_rangeFunc_ownG (F:=Fence.wide) (n:=5) rfl (by omega) (gf:=225) (lb:=#[.pointer (some ⟨wr.heap.size,0,none⟩)]) rfl trivial (enters_of func225 (by kernel_rfl) rfl) ci (fun h k=>gV.trans h k) (fun W l o cs _ a O _=>gV.put W l o cs a O) (Below.refl _ _) (fun _=>rfl)
      (fun pre W=>(∀p∈pre,p.2≠id)/\Below w4.heap.size w4 W) (fun c pre W=>(c=.ret/\∃p∈pre,p.2=id)/\Below w4.heap.size w4 W)
      (OwnFrom.and (ownFrom_pure _ (fun pre:List (Nat×Int)=>∀p∈pre,p.2≠id)) (ownFrom_below (Nat.le_refl _) (Nat.le_refl _)))
      (fun c=>OwnFrom.and (ownFrom_pure _ (fun pre:List (Nat×Int)=>c=.ret/\∃p∈pre,p.2=id)) (ownFrom_below (Nat.le_refl _) (Nat.le_refl _)))
      ⟨by simp,Below.refl _ _⟩
     ·intro l x W K g
      gi_wp2
      exact g
     ·rintro l pre ⟨cL,a0⟩ W ⟨v,b⟩ _
      have c5:=(b.cell (p:=⟨w.heap.size,0,none⟩) A.lt).trans (A.cell (i:=0) rfl);by_cases d:a0=id
      ·subst d
       gi_wp2_with fail
       exact⟨KeepsFrom.refl _ _,⟨rfl,(cL,a0),List.mem_append_right _ (List.mem_singleton.2 rfl),rfl⟩,b⟩
      ·have hb:(a0==id)=false:=by rw[beq_eq_false_iff_ne];exact d
       gi_wp2_with fail
       exact⟨KeepsFrom.refl _ _,gV.refl _,⟨fun p cd=>(List.mem_append.1 cd).elim (v p) (fun e=>by rw[List.mem_singleton.1 e];exact d),b⟩⟩
     ·rintro D es W Q rfl ⟨cb,b⟩ g
      have E:Hid (eK K i id=K.bj i {K.W i with hand:=id}):=Z (by
       rw[a2,if_neg];rw[List.any_eq_true];rintro⟨x,T,U⟩;have a:x∈(gy K.ring K.ring.length).map Prod.snd:=(by rw[lW _ (Nat.le_refl _),List.take_length];exact T);obtain⟨p,v,rfl⟩:=List.mem_map.1 a;exact cb p v (by simpa using U))
      have c5:=(b.cell (p:=⟨w.heap.size,0,none⟩) A.lt).trans (A.cell (i:=0) rfl);have am:=Z (t.af (Ch.bT b));have P:=b.trans (belowK_b (w:=w4) (Nat.le_refl _) W D (.deferred (some [])) (.deferred none) Q g rfl rfl);have I:=Z (t.af (Ch.bT P));have en:=am.at_.fD (i:=i) ad;have dC:=am.at_.uq (i*38+1);have cl:D≠L.wb:=(fun e=>by have:=(t.at_.wk (by simp)).is.lt;omega);have c6:=(KeepsOthers.setCell W ⟨L.wb,i*38+1,none⟩ (.int .u64 id)).same D _ g rfl;have B:=Z (And.intro c6 cl);go_wp2_with fail
      refine⟨by simp,.inl ⟨_,_,rfl,run_takeDeferred B.1,?_⟩⟩;refine⟨_,results_none rfl _ _ _,?_⟩;rw[E,oa _ _ _ B.2];obtain⟨aY,Y',c8⟩:=I.at_.jT ad id;exact⟨rfl,aY,Y',I.trans (Gr.refl _) c8⟩
     ·rintro D c pre W Q ⟨kk,c7,rfl⟩ ⟨⟨rfl,p,v,ce⟩,b⟩ g
      have E:Hid (eK K i id=K):=Z (by
       rw[a2,if_pos];rw[List.any_eq_true];have a:p.2∈(gy K.ring kk).map Prod.snd:=List.mem_map.2 ⟨p,v,rfl⟩;rw[lW _ c7]at a;exact⟨p.2,List.mem_of_mem_take a,by simp[ce]⟩)
      have P:=b.trans (belowK_b (w:=w4) (Nat.le_refl _) W D (.deferred (some [])) (.deferred none) Q g rfl rfl);have I:=Z (t.af (Ch.bT P));have B:=Z g
      gi_wp2_with fail
      refine⟨by simp,.inl ⟨_,_,rfl,run_takeDeferred B,?_⟩⟩;refine⟨_,results_none rfl _ _ _,?_⟩;rw[E];exact⟨rfl,_,_,I⟩
  ·have E:Hid (eK K i id=K):=Z (by unfold eK;rw[if_pos (Or.inr (by rw[G.out];exact a))])
   have hb:(st==1)=false:=(by rw[beq_eq_false_iff_ne];exact a);refine dx func181 rfl ?_;simp only[ntmps181,List.size_toArray,List.length_cons,List.length_nil,Nat.reduceAdd,Nat.reduceSub,Array.replicate_succ,Array.replicate_zero,List.push_toArray,List.append_toArray,List.nil_append,List.cons_append];go_wp2_with fail
   try rw[y]
   refine(dd id al f.at_).mono ?_;rintro e w1 ⟨rfl,J⟩;rw[G];have H:=Z (f.af J);go_wp2_with fail
   refine⟨_,results_none rfl _ _ _,?_⟩;rw[E];exact⟨rfl,_,_,H⟩
 ·have E:Hid (eK K i id=K):=Z (by unfold eK;rw[if_pos (Or.inl (by rw[a9.out];exact V))])
  have hb:(av==0)=false:=by rw[beq_eq_false_iff_ne];exact V
  refine dx func181 rfl ?_;simp only[ntmps181,List.size_toArray,List.length_cons,List.length_nil,Nat.reduceAdd,Nat.reduceSub,Array.replicate_succ,Array.replicate_zero,List.push_toArray,List.append_toArray,List.nil_append,List.cons_append];go_wp2_with fail
  try rw[y]
  refine⟨_,results_none rfl _ _ _,?_⟩;rw[E];exact⟨rfl,_,_,f⟩
end
end
variable{x:Int}
theorem ya(a:0<=x)(b:x<=100):wrap64 x=x:=by unfold wrap64;omega
def nh(v:Int)(w:World)(e:Ending)(w':World):Prop:=e=.returned (.int .u64 v)/\Ch ag w w'
theorem Ah{n:Nat}(d:1<=n)(e:n<=64)(c:0<=x):∃m,x%(n:Int)=m/\0<=m/\m<=100/\wrap64 (x%(n:Int))=m/\x.tmod (n:Int)=m:=by
 have a:=Int.emod_nonneg x (b:=(n:Int)) (by omega);have b:=Int.emod_lt_of_pos x (b:=(n:Int)) (by omega);exact⟨_,rfl,a,by omega,ya a (by omega),Int.tmod_eq_emod_of_nonneg c⟩
theorem Ai(i:Nat)(O:i<K.wk.length)(id:Int)(c:cJ)(b o:Nat)(M:aj K c)(R:aR L Y c b o)(T:∀k,k<32->aK ((K.F c).r k))(n j d l r q s:Int)(t:n=23∨n=41∨n=37∨n=40∨n=42∨n=29∨n=38∨n=39∨n=47)(hb:0<=d/\d<32)(V:0<=K.w/\K.w<K.wk.length)(ad:C.bs.length<=2048)(h:ae w χ L Y C K):
 Calls prog 143 #[(L.mb,0),(L.wb,i*38),.int .u64 id,(b,o),aL ⟨n,j,d,l,r,q,s⟩] w (nh (ik C K i id c ⟨n,j,d,l,r,q,s⟩) w):=by
 unfold aL aD;dsimp only;obtain⟨w0,W,E,G,D⟩:=h.sh n j d l r q s;have a:Hid (ae w0 χ L Y C K):=Z G.at_;obtain⟨t0,t1,t2,t3,t4,t5,t6⟩:=D.c7;obtain⟨c8,c9⟩:=hb;have a5:=a.aA M R d.toNat (by omega);obtain⟨f,u⟩:∃y,(K.F c).r d.toNat=y:=⟨_,rfl⟩;have a9:=Z u;have B:=T d.toNat (by omega);rw[u]at a5 B;obtain⟨U,c3⟩:=B;obtain⟨X,c4⟩:=V;have c1:=(a.wk (by simp)).n;have a1:IntKind.u64.wrap (K.wk.length:Int)=K.wk.length:=by unfold IntKind.wrap IntKind.bits IntKind.signed;simp;omega
 have a0:IntKind.u64.wrap K.w=K.w:=by unfold IntKind.wrap IntKind.bits IntKind.signed;simp;omega
 have k1:=a.j2;have k2:=a.qH;have k3:=a.Dv;have c5:=a.fD O;have c6:=a.GC;have a2:=a.c3;obtain⟨a3,bw,av,bi,Q,bv⟩:=Ah (x:=K.w) (n:=K.wk.length) (by omega) (by omega) X;obtain⟨a4,bx,al,am,N,ap⟩:=Ah (x:=f) (n:=K.wk.length) (by omega) (by omega) U;have F:=Z (fun(m:Int) (h:0<=m/\m<=100) p w=>lS m h.1 h.2 p w);obtain⟨I,J⟩:=lD f 8 (by omega);obtain⟨g,A⟩:=nm (bg f ((8:Nat):Int));have v:=Z (nv f 8 (by omega) (by omega));rw[A]at v I J;have ab:g<8:=by omega
 have z:Hid (∀n,n=23∨n=41∨n=37∨n=40∨n=42∨n=29∨n=38∨n=39∨n=47->ik C K i id c ⟨n,j,d,l,r,q,s⟩=if n=23 then 1+2*g else if n=41 then K.clock.now else if n=37 then id else if n=40 then(K.wk.length:Int)else if n=42 then K.draw else if n=29 then(K.W i).hand else if n=38 then gv a3 else if n=39 then gv a4 else if f<C.bs.length then 1 else 0):=Z (by
  have H:IntKind.u64.wrap (1+2*bg f 8)=1+2*g:=by rw[show bg f 8=g from A];unfold IntKind.wrap IntKind.bits IntKind.signed;simp;omega
  intro n t;rcases t with rfl|rfl|rfl|rfl|rfl|rfl|rfl|rfl|rfl<;>simp[ik,u,a1,a0,H,Q,N])
 have c2:(K.wk.length:Int)<=64:=by omega
 have c0:(1:Int)<=K.wk.length:=by omega
 have P:(C.bs.length:Int)<=2048:=by omega
 obtain⟨c7,S⟩:∃n,C.bs.length=n:=⟨_,rfl⟩;rw[S]at a2 P z;rcases t with rfl|rfl|rfl|rfl|rfl|rfl|rfl|rfl|rfl
 all_goals
  go_in
  go_wp2
  try rw[W]
  go_quiet (fail)
  go_wp2_with (first|(go_at_call 157;refine(v _).mono ?_;rintro e w' ⟨rfl,rfl⟩)|(go_at_call 56;refine(FO (a.drewN _)).mono ?_;rintro e w' ⟨rfl,rfl⟩)|(go_at_call 82;refine(F _ (by exact⟨by assumption,by assumption⟩) _ _).mono ?_;rintro e w' ⟨rfl,rfl⟩)|fail)
  all_goals
   go_ret;rw[z.out]
   ·refine⟨?_,E.drewN _⟩
    first|rfl|(simp;done)|(simp;omega)
   ·decide
