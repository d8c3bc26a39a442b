import Derived.Deep.RegionLawGrows
import Derived.Test.YtlihkblppjgebaaGreatDoorZAj
import Derived.Test.YtlihkblppjgebaaGreatDoorZAk
set_option linter.all false
set_option maxRecDepth 100000
set_option maxHeartbeats 8000000
namespace Go.Proofs.YtlihkblppjgebaaGreatDoor
open Go.RowKit Go.Proofs.Tryz
structure cE where
 pc:Int
 r:Nat->Int
 back:List Int
def fO(r:Nat->Int)(k:Nat)(x:Int):Nat->Int:=fun i=>if i=k then x else r i
def fp(r:Nat->Int):List Value:=(List.range 32).map fun k=> .int .u64 (r k)
theorem bq(r:Nat->Int):(fp r).length=32:=by simp[fp]
theorem ie(r:Nat->Int)(k:Nat)(a:k<32):(fp r)[k]?=some (.int .u64 (r k)):=by
 simp[fp,List.getElem?_map,List.getElem?_range a]
theorem pQ(r:Nat->Int)(k:Nat)(d:k<32)(x:Int):(fp r).set k (.int .u64 x)=fp (fO r k x):=by
 apply List.ext_getElem?;intro i;rw[List.getElem?_set];by_cases a:i<32
 ·rw[ie _ i a,ie _ i a,bq]
  unfold fO;by_cases h:k=i
  ·simp[h,a]
  ·simp[h,Ne.symm h]
 ·have b:(fp r)[i]?=none:=List.getElem?_eq_none (by rw[bq];omega)
  have c:(fp (fO r k x))[i]?=none:=List.getElem?_eq_none (by rw[bq];omega);rw[b,c,if_neg (by omega)]
def cE.cells(f:cE)(v:Value):List Value:=.int .i64 f.pc::(fp f.r++[v])
theorem cE.cU(f:cE)(v:Value):(f.cells v).length=34:=by simp[cE.cells,bq]
theorem AF(pre mid post:List Value)(j:Nat)(hj:j<mid.length)(v:Value):(pre++(mid++post)).set (pre.length+j) v=pre++(mid.set j v++post):=by
 rw[List.set_append_right _ _ (by omega),show pre.length+j-pre.length=j from by omega,List.set_append_left _ _ hj]
theorem AG(pre mid post:List Value)(j:Nat)(hj:j<mid.length):(pre++(mid++post))[pre.length+j]?=mid[j]?:=by
 rw[List.getElem?_append_right (by omega),show pre.length+j-pre.length=j from by omega,List.getElem?_append_left hj]
def cp(w:World)(v:Value)(l:List Int):Prop:=w.ownsRow 0 3 1 v l.length (l.map (Value.int .i64))
theorem cp.ch{w w':World}{D:Nat->Prop}{v:Value}{l:List Int}(h:cp w v l)(c:Ch D w w')(a:∀g,v.ownBlock=some g->¬D g):cp w' v l:=ar h c a
theorem cp.nil(w:World):cp w (.slice none 0 0) []:=⟨rfl,Or.inl ⟨rfl,rfl⟩⟩
structure aG(w:World)(b o:Nat)(t:TypeId)(pre post:List Value)(v:Value)(f:cE):Prop where
 row:Row w b t (pre++(f.cells v++post))
 len:pre.length=o
 back:cp w v f.back
theorem aG.get{w:World}{b a:Nat}{t:TypeId}{pre post:List Value}{v:Value}{f:cE}(h:aG w b a t pre post v f)(j:Nat)(hj:j<34){u:Value}(c:(f.cells v)[j]?=some u):w.cell? ⟨b,a+j,none⟩=some u:=by
 refine h.row.cell ?_;rw[<-h.len,AG _ _ _ _ (by rw[cE.cU];exact hj)];exact c
theorem aG.mu{w:World}{b a:Nat}{t:TypeId}{pre post:List Value}{v:Value}{f:cE}(h:aG w b a t pre post v f):w.cell? ⟨b,a,none⟩=some (.int .i64 f.pc):=h.get 0 (by omega) rfl
theorem aG.l4{w:World}{b a:Nat}{t:TypeId}{pre post:List Value}{v:Value}{f:cE}(h:aG w b a t pre post v f)(k:Nat)(c:k<32):w.cell? ⟨b,a+1+k,none⟩=some (.int .u64 (f.r k)):=by
 have:=h.get (k+1) (by omega) (u:=.int .u64 (f.r k)) (by
  unfold cE.cells;rw[List.getElem?_cons_succ,List.getElem?_append_left (by rw[bq];exact c),ie _ _ c])
 rw[show a+1+k=a+(k+1)from by omega];exact this
theorem aG.yg{w:World}{b a:Nat}{t:TypeId}{pre post:List Value}{v:Value}{f:cE}(h:aG w b a t pre post v f):w.cell? ⟨b,a+33,none⟩=some v:=h.get 33 (by omega) (by
 unfold cE.cells;rw[List.getElem?_cons_succ,List.getElem?_append_right (by rw[bq];omega),bq];rfl)
theorem aG.fr{w:World}{b a:Nat}{t:TypeId}{pre post:List Value}{v:Value}{f:cE}(h:aG w b a t pre post v f):fj w b a f.pc f.r:=⟨h.mu,h.l4⟩
theorem aG.free{w:World}{b a:Nat}{t:TypeId}{pre post:List Value}{v:Value}{f:cE}(h:aG w b a t pre post v f)(i:Nat):w.frozen? ⟨b,i,none⟩=false:=h.row.free i
theorem aG.ch{w w':World}{D:Nat->Prop}{b a:Nat}{t:TypeId}{pre post:List Value}{v:Value}{f:cE}(h:aG w b a t pre post v f)(c:Ch D w w')(hb:¬D b)(d:∀g,v.ownBlock=some g->¬D g):aG w' b a t pre post v f:=
 ⟨h.row.ch c hb,h.len,h.back.ch c d⟩
theorem aG.drew{w:World}{b a:Nat}{t:TypeId}{pre post:List Value}{v:Value}{f:cE}(h:aG w b a t pre post v f):aG w.drew b a t pre post v f:=⟨h.row,h.len,h.back⟩
theorem aG.drewN{w:World}{b a:Nat}{t:TypeId}{pre post:List Value}{v:Value}{f:cE}(h:aG w b a t pre post v f)(n:Nat):aG (w.drewN n) b a t pre post v f:=⟨h.row,h.len,h.back⟩
theorem aG.apart{w:World}{b c:Nat}{t:TypeId}{pre post:List Value}{v:Value}{f:cE}(h:aG w b c t pre post v f)(a:t≠3):v.ownBlock≠some b:=aY h.back h.row a
theorem aG.vH{w:World}{b c:Nat}{t:TypeId}{pre post:List Value}{v:Value}{f:cE}(h:aG w b c t pre post v f)(l:t≠3)(j:Nat)(hj:j<34){u d:Value}{a:cE}(g:(f.cells v).set j u=a.cells d)(hb:cp w d a.back):
 aG (w.setCell ⟨b,c+j,none⟩ u) b c t pre post d a:=by
 refine⟨h.row.a' _ _ ?_,h.len,hb.ch (D:=aK b) ((Ch.refl _ _).only _ _) (fun k i e=>aY hb h.row l (by rw[i];exact congrArg some e))⟩;rw[<-h.len,AF _ _ _ _ (by rw[cE.cU];exact hj),g]
theorem aG.jF{w:World}{b a:Nat}{t:TypeId}{pre post:List Value}{v:Value}{f:cE}(h:aG w b a t pre post v f)(c:t≠3)(p:Int):
 aG (w.setCell ⟨b,a,none⟩ (.int .i64 p)) b a t pre post v {f with pc:=p}:=h.vH c 0 (by omega) rfl h.back
theorem aG.pR{w:World}{b a:Nat}{t:TypeId}{pre post:List Value}{v:Value}{f:cE}(h:aG w b a t pre post v f)(d:t≠3)(k:Nat)(c:k<32)(x:Int):
 aG (w.setCell ⟨b,a+1+k,none⟩ (.int .u64 x)) b a t pre post v {f with r:=fO f.r k x}:=by
 rw[show a+1+k=a+(k+1)from by omega];refine h.vH d (k+1) (by omega) ?_ h.back;unfold cE.cells;rw[List.set_cons_succ,List.set_append_left _ _ (by rw[bq];exact c),pQ _ _ c]
theorem aG.pS{w:World}{b a:Nat}{t:TypeId}{pre post:List Value}{v:Value}{f:cE}(h:aG w b a t pre post v f)(d:t≠3)(c:Value)(l:List Int)(hb:cp w c l):
 aG (w.setCell ⟨b,a+33,none⟩ c) b a t pre post c {f with back:=l}:=by
 refine h.vH d 33 (by omega) ?_ hb;unfold cE.cells;rw[List.set_cons_succ,List.set_append_right _ _ (by rw[bq];omega),bq];rfl
theorem cp.pop{w:World}{g m c:Nat}{l:List Int}(h:cp w (.slice (some ⟨g,0,none⟩) (m+1) c) l)(q:l.length=m+1):cp w (.slice (some ⟨g,0,none⟩) m c) (l.take m):=by
 rcases h.2 with⟨a,_⟩|⟨g',n,cur,e,d,f,p,i,j,k⟩
 ·cases a
 ·injection e with a o b
  injection a with a
  injection a with a
  subst a b;unfold cp;rw[List.length_take,show min m l.length=m from by omega];refine⟨by rw[List.length_map,List.length_take];omega,Or.inr ⟨g,c,cur,rfl,d,f,by omega,i,j,?_⟩⟩;rw[List.map_take,<-k,List.take_take]
  congr 1;omega
theorem cp.get{w:World}{g m c:Nat}{l:List Int}(h:cp w (.slice (some ⟨g,0,none⟩) m c) l){i:Nat}{x:Int}(d:l[i]?=some x):w.cell? ⟨g,i,none⟩=some (.int .i64 x):=by
 rcases h.2 with⟨a,_⟩|⟨g',k,cur,e,p,f,q,s,t,j⟩
 ·cases a
 ·injection e with a n o
  injection a with a
  injection a with a
  subst a;have r:=(List.getElem?_eq_some_iff.1 d).1;have:(cur.toList)[i]?=some (.int .i64 x):=by
   have b:(l.map (Value.int .i64))[i]?=some (.int .i64 x):=(by simp[d]);rw[<-j,List.getElem?_take,if_pos (by omega)]at b;exact b
  refine(show Row w g 3 cur.toList from by unfold Row;simpa using f).cell this
theorem AH:(prog.info? 3).map (fun i=>(i.zero,i.size,i.bytes))=some (some (.int .i64 0),1,8):=by kernel_rfl
def dw(x:aV)(f:cE):Int×cE:=
 if x.op=16 then
  if f.back.length=0 then(2,f)
  else(0,{f with pc:=(f.back[f.back.length-1]?).getD 0,back:=f.back.take (f.back.length-1)})
 else if x.op=15 then
  if 8<=f.back.length then(3,f)
  else(0,{f with pc:=wrap64 x.v,back:=f.back++[wrap64 (f.pc+1)]})
 else if x.op=12 then(0,{f with pc:=wrap64 x.v})
 else if(f.r x.a.toNat==0)==(x.op==13)then(0,{f with pc:=wrap64 x.v})
 else(0,{f with pc:=wrap64 (f.pc+1)})
def AI(r:Int)(c:cE)(b d:Nat)(t:TypeId)(pre post:List Value)(v:Value)(w:World)(e:Ending)(w':World):Prop:=
 e=.returned (.int .i64 r)/\(∃a,aG w' b d t pre post a c/\aQ w v a)/\Ch (aK b) w w'
theorem cp.cap{w:World}{a:Option Addr}{m c:Nat}{l:List Int}(h:cp w (.slice a m c) l):m<=c:=by
 rcases h.2 with⟨b,_⟩|⟨g',g,cur,f,i,k,j,n,o,p⟩
 ·injection b with b d e;omega
 ·injection f with b d e;omega
theorem yh(b d:Nat)(t:TypeId)(G:t≠3)(pre post:List Value)(v:Value)(f:cE)(x:aV)(I:x.op=16∨x.op=15∨x.op=12∨(x.op=13∨x.op=14)/\0<=x.a/\x.a<32)(cm:f.back.length<=8)(w:World)(h:aG w b d t pre post v f):
 Calls prog 174 #[.pointer (some ⟨b,d,none⟩),aI x] w (AI (dw x f).1 (dw x f).2 b d t pre post v w):=by
 obtain⟨P,a1,r⟩:=aA h.back;obtain⟨N,a2⟩:=mn f.back.length;rw[<-a2]at r cm;have m:=Z a2;obtain⟨s,bi⟩:=nm (w.alloc (.cells #[.int .i64 x.op,.int .i64 x.a,.int .i64 x.b,.int .i64 x.c,.int .u64 x.v,.int .i64 x.m,.int .i64 x.wh] 184));have C0:=Z (Ch.al (D:=ag) bi);have K:aG s b d t pre post v f:=h.ch C0.out (fun h=>h) (fun g V h=>h);have ad:Row s w.heap.size 184 (aC x).toList:=by rw[<-bi];exact Row.new w _ _
 have H:=Z K;have c7:=K.mu;have am:=K.yg;have f0:=K.free d;have f33:=K.free (d+33);obtain⟨t0,t1⟩:=ad.c2;have t4:=ad.k 4 rfl;obtain⟨tb,eU⟩:=mn w.heap.size;have eC:b<w.heap.size:=h.row.lt;clear ad K h a2;by_cases l:x.op=16
 ·have c5:(x.op==16)=true:=by simp[l]
  by_cases W:N=0
  ·subst W
   have E:Hid (dw x f=(2,f)):=Z (by unfold dw;rw[if_pos l,if_pos m.out.symm]);subst r;clear l I;unfold aI aC;go_enter func174,ntmps174
   go_wp2_with fail
   go_ret;rw[E.out];exact⟨rfl,⟨_,H.out,aQ.refl _ _⟩,C0.out.af⟩
  ·obtain⟨M,rfl⟩:∃M,N=M+1:=⟨N-1,by omega⟩
   obtain⟨g,cap,V,_,_⟩:=H.out.back.form (by rw[<-m.out];omega);rw[<-m.out]at V;subst V;injection r with cW fb dr
   subst cW dr;have cd:M<f.back.length:=(by rw[<-m.out];omega);obtain⟨p,ab⟩:∃p,f.back[M]?=some p:=⟨_,List.getElem?_eq_getElem cd⟩;have en:=H.out.back.get ab;have E:Hid (dw x f=(0,{f with pc:=p,back:=f.back.take M})):=Z (by unfold dw;rw[if_pos l,<-m.out,if_neg (by omega),show M+1-1=M from by omega,ab];rfl);have Y:=Z (H.out.back.pop m.out.symm);have ct:g≠b:=(fun e=>H.out.apart G (by rw[<-e];rfl));have ch:M+1<=cap:=H.out.back.cap;have eL:M<=cap:=(by omega);clear l I ab;unfold aI aC;go_enter func174,ntmps174
   go_wp2_with fail
   go_ret;rw[E.out];exact⟨rfl,⟨_,(H.out.jF G p).pS G _ _ (Y.out.ch (D:=aK b) ((Ch.refl _ _).only _ _) (fun k a3 e=>by injection a3 with a3;exact ct (a3.trans e))),aQ.of_eq rfl⟩,(C0.out.af.only _ _).only _ _⟩
 ·have c5:(x.op==16)=false:=by simpa using l
  have o:∀z B:Int×cE,(if x.op=16 then z else B)=B:=fun z B=>if_neg l
  by_cases n:x.op=15
  ·have c4:(x.op==15)=true:=by simp[n]
   by_cases W:8<=N
   ·have E:Hid (dw x f=(3,f)):=Z (by unfold dw;rw[o,if_pos n,<-m.out,if_pos W])
    subst r;have c6:((8:Int)<=(N:Int)):=(by omega);clear l n I o;unfold aI aC;go_enter func174,ntmps174
    go_wp2_with fail
    go_ret;rw[E.out];exact⟨rfl,⟨_,H.out,aQ.refl _ _⟩,C0.out.af⟩
   ·obtain⟨cS,av,cA,cC,cL⟩:=info_parts AH
    have c1:=Z av;have E:Hid (dw x f=(0,{f with pc:=wrap64 x.v,back:=f.back++[wrap64 (f.pc+1)]})):=Z (by unfold dw;rw[o,if_pos n,<-m.out,if_neg W]);have ap:b<s.heap.size:=H.out.row.lt;have eW:w.heap.size<s.heap.size:=aE t0;have ch:N<=a1:=(by subst r;exact H.out.back.cap);have cq:P=none->N=0/\N=0:=fun e=>by
     rcases H.out.back.2 with⟨a,L⟩|⟨g',c9,cur,U,_⟩
     ·exact⟨by rw[m.out];exact L,by rw[m.out];exact L⟩
     ·rw[r,e]at U;injection U with a;cases a
    have ci:∀q,P=some q->∀j u,(f.back.map (Value.int .i64))[j]?=some u->s.cell? (q.add j)=some u:=fun q F j u hj=>by
     subst r;rcases H.out.back.2 with⟨a,L⟩|⟨g',c9,cur,U,_⟩
     ·injection a with a;rw[a]at F;cases F
     ·injection U with a
      rw[a]at F;injection F with F
      subst F a;rw[show(⟨g',0,none⟩:Addr).add j=⟨g',j,none⟩from by unfold Addr.add;split<;>simp_all];rw[List.getElem?_map]at hj;cases hb:f.back[j]? with
      |none=>rw[hb]at hj;cases hj
      |some y=>
       rw[hb]at hj;injection hj with hj
       rw[<-hj];exact H.out.back.get hb
    have hlen:(f.back.map (Value.int .i64)).length=N*1:=(by rw[List.length_map,m.out];omega);have c6:((8:Int)<=(N:Int))=False:=(by simp;omega);have eY:¬((8:Int)<=(N:Int)):=(by omega);have e1:decide ((8:Int)<=(N:Int))=false:=(by simp;omega);subst r;clear l n I o av;unfold aI aC;go_enter func174,ntmps174
    go_wp2_with fail
    go_region_law (first|(refine step_append_grows (by rfl) _ _ _ (by rfl) 3 cS _ 1 8 underlying45 c1.out cA cC cL rfl (by decide) P N N (f.back.map (Value.int .i64)) (by rfl) cq hlen (fun q F j u hj=>mU (ci q F j u hj) _) ⟨s.heap.size,0,none⟩ 1 1 [.int .i64 (IntKind.i64.wrap (f.pc+1))] (by rfl) (by rfl) (World.news_of_block (cs:=#[.int .i64 (IntKind.i64.wrap (f.pc+1))]) (t:=3) (fr:=(0,0)) (heap_alloc_new s _)) (by simp[Value.oneCell']) (by omega) (by unfold maxLen;omega) (by omega) ?_;intro fo w4 O C;obtain⟨T,cap,rfl,eO,_⟩:=O.form (by omega);have dC:w4.cell? ⟨b,d+33,none⟩=_:=(C.cell_far ⟨b,d+33,none⟩ (by simp;omega) (by simp)).trans (by simp[go_sem,World.cell?_alloc_past,ap,am];rfl);have dN:w4.frozen? ⟨b,d+33,none⟩=false:=(C.frozen_far ⟨b,d+33,none⟩ (by simp;omega) (by simp)).trans (by simp[go_sem,World.frozen?_alloc_past,ap,f33])))
    all_goals
     rw[show IntKind.i64.wrap (f.pc+1)=wrap64 (f.pc+1)from IntWalk.i64_left _]at O;have c2:Hid (aQ w (.slice P N a1) (.slice (some ⟨T,0,none⟩) (N+1) cap)):=Z (aQ.at (Or.inr (by
      have eS:=C0.out.size;rcases O.2 with⟨a,_⟩|⟨g',ec,es,a,L,_⟩
      ·cases a
      ·injection a with a _ _
       injection a with a
       injection a with a
       simp at L;omega)))
     have a0:Hid (Ch ag s w4):=Z ⟨C.os,C.tape,C.output,Nat.le_trans (by simp) C.size,fun i cl _=>(C.block i (by simp;omega) (by simp)).trans (heap_alloc_old s _ cl)⟩;have Y:Hid (cp w4 (.slice (some ⟨T,0,none⟩) (N+1) cap) (f.back++[wrap64 (f.pc+1)])):=Z (by
      unfold cp;rw[List.length_append,<-m.out,List.map_append];exact⟨O.1,O.2.imp id (fun⟨g,c,cur,a,L,cb⟩=>⟨g,c,cur,a,Nat.zero_le _,cb⟩)⟩)
     have c0:Hid (aG w4 b d t pre post (.slice P N a1) f):=Z (H.out.ch a0.out (fun h=>h) (fun g V h=>h));obtain⟨al,Q⟩:=nm (w4.setCell ⟨b,d+33,none⟩ (.slice (some ⟨T,0,none⟩) (N+1) cap));have X:Hid (aG al b d t pre post (.slice (some ⟨T,0,none⟩) (N+1) cap) {f with back:=f.back++[wrap64 (f.pc+1)]}):=Z (by rw[<-Q];exact c0.out.pS G _ _ Y.out);have bw:Hid (Ch (aK b) w al):=Z (by rw[<-Q];exact(C0.out.trans a0.out).af.only _ _);have fn:al.cell? ⟨w.heap.size,4,none⟩=some (.int .u64 x.v):=by
      have bv:w4.cell? ⟨w.heap.size,4,none⟩=some (.int .u64 x.v):=(a0.out.cell (p:=⟨w.heap.size,4,none⟩) (by show w.heap.size<_;omega) (fun h=>h)).trans t4;rw[<-Q];exact(((Ch.refl (aK b) w4).only (d+33) _).cell (p:=⟨w.heap.size,4,none⟩) (aE bv) (fun e=>by have:w.heap.size=b:=e;omega)).trans bv
     have fd:=X.out.mu;have et:=X.out.free d;try rw[Q]
     clear Q O C dC dN c7 am f0 f33 t0 t1 t4;go_wp2_with fail
     go_ret;rw[E.out];exact⟨rfl,⟨_,X.out.jF G _,c2.out⟩,bw.out.only _ _⟩
  ·have c4:(x.op==15)=false:=by simpa using n
   have J:∀z B:Int×cE,(if x.op=15 then z else B)=B:=(fun z B=>if_neg n);by_cases A:x.op=12
   ·have c3:(x.op==12)=true:=by simp[A]
    have E:Hid (dw x f=(0,{f with pc:=wrap64 x.v})):=Z (by unfold dw;rw[o,J,if_pos A]);subst r;clear l n A I o J;unfold aI aC;go_enter func174,ntmps174
    go_wp2_with fail
    go_ret;rw[E.out];exact⟨rfl,⟨_,H.out.jF G _,aQ.refl _ _⟩,C0.out.af.only _ _⟩
   ·have c3:(x.op==12)=false:=by simpa using A
    have S:∀z B:Int×cE,(if x.op=12 then z else B)=B:=(fun z B=>if_neg A);have ce:0<=x.a/\x.a<32:=by
     rcases I with q|q|q|q
     ·exact absurd q l
     ·exact absurd q n
     ·exact absurd q A
     ·exact q.2
    obtain⟨ex,eA⟩:=ce;have c8:=H.out.l4 x.a.toNat (by omega);obtain⟨y,R⟩:=nm (f.r x.a.toNat);rw[R]at c8;subst r;cases hb:((y==0)==(x.op==13))
    ·have E:Hid (dw x f=(0,{f with pc:=wrap64 (f.pc+1)})):=Z (by unfold dw;rw[o,J,S,R,hb];rfl)
     clear l n A I o J S R;unfold aI aC;go_enter func174,ntmps174
     go_wp2_with fail
     go_quiet (fail)
     go_wp2_with fail
     go_ret;rw[E.out];exact⟨rfl,⟨_,(H.out.drewN _).jF G _,aQ.refl _ _⟩,(C0.out.af.drewN _).only _ _⟩
    ·have E:Hid (dw x f=(0,{f with pc:=wrap64 x.v})):=Z (by unfold dw;rw[o,J,S,R,hb];rfl)
     clear l n A I o J S R;unfold aI aC;go_enter func174,ntmps174
     go_wp2_with fail
     go_quiet (fail)
     go_wp2_with fail
     go_ret;rw[E.out];exact⟨rfl,⟨_,(H.out.drewN _).jF G _,aQ.refl _ _⟩,(C0.out.af.drewN _).only _ _⟩
def mv(x:Option Int)(post:World->Prop)(e:Ending)(w':World):Prop:=
 (match x with
  |some v=>e=.returned (.tuple #[.int .u64 v,.nilIface])
  |none=>∃n v,e=.returned (.tuple #[.int .u64 n,v])/\aq v)/\post w'
def EG(ok:Bool)(post:World->Prop)(e:Ending)(w':World):Prop:=(∃v,e=.returned v/\(if ok then v=.nilIface else aq v))/\post w'
structure pT(T:TypeId)(X:Value)(σ:Type) where
 At:σ->World->Prop
 uI:σ->World->Prop
 Ok:σ->Prop
 D:Nat->Prop
 acc:σ->Int->Int->Int->Int->Option Int×σ
 FL:FuncId
 FS:FuncId
 FW:FuncId
 FA:FuncId
 FC:FuncId
 mL:∀w,(Go.method 546 T X "Load").run prog w=.ok (FL,X) w
 mS:∀w,(Go.method 546 T X "Store").run prog w=.ok (FS,X) w
 mW:∀w,(Go.method 546 T X "Swap").run prog w=.ok (FW,X) w
 mA:∀w,(Go.method 546 T X "Add").run prog w=.ok (FA,X) w
 mC:∀w,(Go.method 546 T X "Cas").run prog w=.ok (FC,X) w
 nC:∀w,(nilAhead 546 T X "Cas").run prog w=.ok (some false) w
 eL:∀args w,(callFunc FL args).run prog w=.ok (.enter FL args) w
 eS:∀args w,(callFunc FS args).run prog w=.ok (.enter FS args) w
 eW:∀args w,(callFunc FW args).run prog w=.ok (.enter FW args) w
 eA:∀args w,(callFunc FA args).run prog w=.ok (.enter FA args) w
 eC:∀args w,(callFunc FC args).run prog w=.ok (.enter FC args) w
 keep:∀S w w',At S w->Ch ag w w'->At S w'
 BR:∀S w,At S w->uI S w
 yi:∀S w w',uI S w->Ch ag w w'->uI S w'
 cL:∀S a w,Ok S->aH a->At S w->Calls prog FL #[X,.int .u64 a] w (mv (acc S 0 a 0 0).1 (fun w'=>uI (acc S 0 a 0 0).2 w'/\Ch D w w'))
 cS:∀S a v w,Ok S->aH a->aH v->At S w->Calls prog FS #[X,.int .u64 a,.int .u64 v] w (EG (acc S 1 a 0 v).1.isSome (fun w'=>uI (acc S 1 a 0 v).2 w'/\Ch D w w'))
 cW:∀S a v w,Ok S->aH a->aH v->At S w->Calls prog FW #[X,.int .u64 a,.int .u64 v] w (mv (acc S 2 a 0 v).1 (fun w'=>uI (acc S 2 a 0 v).2 w'/\Ch D w w'))
 cA:∀S a v w,Ok S->aH a->aH v->At S w->Calls prog FA #[X,.int .u64 a,.int .u64 v] w (mv (acc S 3 a 0 v).1 (fun w'=>uI (acc S 3 a 0 v).2 w'/\Ch D w w'))
 cC:∀S a o v w,Ok S->aH a->aH o->aH v->At S w->Calls prog FC #[X,.int .u64 a,.int .u64 o,.int .u64 v] w (mv (acc S 4 a o v).1 (fun w'=>uI (acc S 4 a o v).2 w'/\Ch D w w'))
def cK{a:Type}(acc:a->Int->Int->Int->Int->Option Int×a)(S:a)(x:aV)(r:Nat->Int):Option Int×a:=
 let at_:=du r x
 let v:=r x.a.toNat
 if x.op=17 then acc S 0 at_ 0 0
 else if x.op=18 then((acc S 1 at_ 0 v).1.map fun _=>v,(acc S 1 at_ 0 v).2)
 else if x.op=19 then acc S 2 at_ 0 v
 else if x.op=20 then acc S 3 at_ 0 v
 else acc S 4 at_ v (r x.c.toNat)
theorem vI{r:Nat->Int}(a:∀k,k<32->aH (r k))(n:Int):aH (gF r n):=by
 unfold gF;split
 ·exact a _ (by omega)
 ·exact⟨by decide,by decide⟩
theorem lg{r:Nat->Int}(b:∀k,k<32->aH (r k))(x:aV)(a:aH x.v):aH (du r x):=by
 unfold du;split
 ·exact a
 ·exact mD 64 _ _
theorem pU{T:TypeId}{X:Value}{U:Type}(I:pT T X U)(S:U)(a1:Hid (I.Ok S))(b p:Nat)(pc:Int)(r:Nat->Int)(x:aV)(cm:0<=x.a/\x.a<32)(R:x.op=17∨x.op=18∨x.op=19∨x.op=20∨(x.op=21/\0<=x.c/\x.c<32))(bv:∀k,k<32->aH (r k))(c8:aH x.v)
 (w:World) (h:fj w b p pc r) (c6:I.At S w):
 Calls prog 175 #[.pointer (some ⟨b,p,none⟩),aI x,.iface T X] w (mv (cK I.acc S x r).1 (fun w'=>I.uI (cK I.acc S x r).2 w'/\Ch I.D w w')):=by
 obtain⟨d,c7⟩:=nm (w.alloc (.cells #[.int .i64 x.op,.int .i64 x.a,.int .i64 x.b,.int .i64 x.c,.int .u64 x.v,.int .i64 x.m,.int .i64 x.wh] 184));have C0:=Z (Ch.al (D:=ag) c7);have c2:fj d b p pc r:=h.ch C0.out (fun h=>h);have c3:Row d w.heap.size 184 (aC x).toList:=by rw[<-c7];exact Row.new w _ _
 have H:=Z c2;have V:=Z c6;have c9:=Z bv;obtain⟨t0,t1,t2,t3,t4,t5,t6⟩:=c3.c7;have W:=Z c3;have HA:=Z (fun w h=>ke b p pc r x w h);have P:=Z (lg bv x c8);obtain⟨o,t⟩:=nm (du r x);rw[t]at HA P;obtain⟨cs,ct⟩:=cm;have cl:=c2.oD x.a.toNat (by omega);have Y:=Z (bv x.a.toNat (by omega));obtain⟨y,A⟩:=nm (r x.a.toNat);have a0:=Z A;rw[A]at cl Y;clear bv c8 c3 c2 h c6;unfold aI aC at HA⊢;by_cases C:x.op=17
 ·have cd:(x.op==17)=true:=by simp[C]
  have E:Hid (cK I.acc S x r=I.acc S 0 o 0 0):=Z (by unfold cK;dsimp only;rw[if_pos C,t]);obtain⟨q,m⟩:=nm (I.acc S 0 o 0 0);obtain⟨K,c0⟩:=q;rw[m]at E;have G:=Z m;clear m C R t A;cases K
  all_goals
   go_enter func175,ntmps175
   go_wp2_with fail
   go_region_held3 (fun w'=>w'.cell? ⟨w.heap.size,0,none⟩=some (.int .i64 x.op)/\w'.cell? ⟨w.heap.size,1,none⟩=some (.int .i64 x.a)/\w'.cell? ⟨w.heap.size,2,none⟩=some (.int .i64 x.b)/\w'.cell? ⟨w.heap.size,3,none⟩=some (.int .i64 x.c)/\w'.cell? ⟨w.heap.size,4,none⟩=some (.int .u64 x.v)/\w'.cell? ⟨w.heap.size,5,none⟩=some (.int .i64 x.m)/\w'.cell? ⟨w.heap.size,6,none⟩=some (.int .i64 x.wh)/\w'.cell? ⟨b,p+1+x.a.toNat,none⟩=some (.int .u64 y)) (go_keep) ((go_at_call 140;refine(HA.out d.drew ⟨H.out.pc,H.out.oD⟩).mono ?_;rintro e w2 ⟨rfl,f⟩;have g:=Z f;have T2:=Z (Row.ch (w:=d.drew) W.out.drew f (fun h=>h));have F2:Hid (fj w2 b p pc r):=Z (fj.ch (w:=d.drew) H.out.drew f (fun h=>h));obtain⟨a2,d1,ab,ad,al,am,ap⟩:=T2.out.c7;have d2:=F2.out.oD x.a.toNat (by omega);rw[a0.out]at d2;clear f))
   all_goals
    have F:Hid (I.At S w2):=Z (I.keep S d.drew w2 (I.keep S w d.drew V.out C0.out.drew) g.out);have bi:=I.mL;have av:=I.eL;have i:=Z (I.cL S o w2 a1.out P.out F.out);rw[G.out]at i;go_wp2_with (first|(refine i.out.mono ?_;rintro e L ⟨⟨n,u,rfl,v⟩,a,c⟩;obtain⟨tt,c1,rfl⟩:=v;have l:=Z a;have j:=Z c;clear a c)|(refine i.out.mono ?_;rintro e L ⟨rfl,a,c⟩;have l:=Z a;have j:=Z c;clear a c))
    go_ret2;rw[E.out]
    first|exact⟨⟨_,_,rfl,aq.mk _ _⟩,l.out,((C0.out.drew.trans g.out).af).trans j.out⟩|exact⟨rfl,l.out,((C0.out.drew.trans g.out).af).trans j.out⟩
 have cd:(x.op==17)=false:=by simpa using C
 have M:∀s B:Option Int×U,(if x.op=17 then s else B)=B:=fun s B=>if_neg C
 by_cases J:x.op=18
 ·have ce:(x.op==18)=true:=by simp[J]
  have E:Hid (cK I.acc S x r=((I.acc S 1 o 0 y).1.map fun _=>y,(I.acc S 1 o 0 y).2)):=Z (by unfold cK;dsimp only;rw[M,if_pos J,t,A]);obtain⟨q,m⟩:=nm (I.acc S 1 o 0 y);obtain⟨K,c0⟩:=q;rw[m]at E;have G:=Z m;clear m J R t A C M;cases K
  all_goals
   go_enter func175,ntmps175
   go_wp2_with fail
   go_region_held3 (fun w'=>w'.cell? ⟨w.heap.size,0,none⟩=some (.int .i64 x.op)/\w'.cell? ⟨w.heap.size,1,none⟩=some (.int .i64 x.a)/\w'.cell? ⟨w.heap.size,2,none⟩=some (.int .i64 x.b)/\w'.cell? ⟨w.heap.size,3,none⟩=some (.int .i64 x.c)/\w'.cell? ⟨w.heap.size,4,none⟩=some (.int .u64 x.v)/\w'.cell? ⟨w.heap.size,5,none⟩=some (.int .i64 x.m)/\w'.cell? ⟨w.heap.size,6,none⟩=some (.int .i64 x.wh)/\w'.cell? ⟨b,p+1+x.a.toNat,none⟩=some (.int .u64 y)) (go_keep) ((go_at_call 140;refine(HA.out d.drew ⟨H.out.pc,H.out.oD⟩).mono ?_;rintro e w2 ⟨rfl,f⟩;have g:=Z f;have T2:=Z (Row.ch (w:=d.drew) W.out.drew f (fun h=>h));have F2:Hid (fj w2 b p pc r):=Z (fj.ch (w:=d.drew) H.out.drew f (fun h=>h));obtain⟨a2,d1,ab,ad,al,am,ap⟩:=T2.out.c7;have d2:=F2.out.oD x.a.toNat (by omega);rw[a0.out]at d2;clear f))
   all_goals
    have F:Hid (I.At S w2):=Z (I.keep S d.drew w2 (I.keep S w d.drew V.out C0.out.drew) g.out);have bi:=I.mS;have av:=I.eS;have i:=Z (I.cS S o y w2 a1.out P.out Y.out F.out);rw[G.out]at i;go_wp2_with (first|(refine i.out.mono ?_;rintro e L ⟨⟨u,rfl,v⟩,a,c⟩;obtain⟨tt,c1,rfl⟩:aq u:=v;have l:=Z a;have j:=Z c;clear a c)|(refine i.out.mono ?_;rintro e L ⟨⟨u,rfl,v⟩,a,c⟩;obtain rfl:u=.nilIface:=v;have l:=Z a;have j:=Z c;clear a c))
    go_ret2;rw[E.out]
    first|exact⟨⟨_,_,rfl,aq.mk _ _⟩,l.out,((C0.out.drew.trans g.out).af).trans j.out⟩|exact⟨rfl,l.out,((C0.out.drew.trans g.out).af).trans j.out⟩
 have ce:(x.op==18)=false:=by simpa using J
 have Q:∀s B:Option Int×U,(if x.op=18 then s else B)=B:=fun s B=>if_neg J
 by_cases N:x.op=19
 ·have ch:(x.op==19)=true:=by simp[N]
  have E:Hid (cK I.acc S x r=I.acc S 2 o 0 y):=Z (by unfold cK;dsimp only;rw[M,Q,if_pos N,t,A]);obtain⟨q,m⟩:=nm (I.acc S 2 o 0 y);obtain⟨K,c0⟩:=q;rw[m]at E;have G:=Z m;clear m N R t A C M J Q;cases K
  all_goals
   go_enter func175,ntmps175
   go_wp2_with fail
   go_region_held3 (fun w'=>w'.cell? ⟨w.heap.size,0,none⟩=some (.int .i64 x.op)/\w'.cell? ⟨w.heap.size,1,none⟩=some (.int .i64 x.a)/\w'.cell? ⟨w.heap.size,2,none⟩=some (.int .i64 x.b)/\w'.cell? ⟨w.heap.size,3,none⟩=some (.int .i64 x.c)/\w'.cell? ⟨w.heap.size,4,none⟩=some (.int .u64 x.v)/\w'.cell? ⟨w.heap.size,5,none⟩=some (.int .i64 x.m)/\w'.cell? ⟨w.heap.size,6,none⟩=some (.int .i64 x.wh)/\w'.cell? ⟨b,p+1+x.a.toNat,none⟩=some (.int .u64 y)) (go_keep) ((go_at_call 140;refine(HA.out d.drew ⟨H.out.pc,H.out.oD⟩).mono ?_;rintro e w2 ⟨rfl,f⟩;have g:=Z f;have T2:=Z (Row.ch (w:=d.drew) W.out.drew f (fun h=>h));have F2:Hid (fj w2 b p pc r):=Z (fj.ch (w:=d.drew) H.out.drew f (fun h=>h));obtain⟨a2,d1,ab,ad,al,am,ap⟩:=T2.out.c7;have d2:=F2.out.oD x.a.toNat (by omega);rw[a0.out]at d2;clear f))
   all_goals
    have F:Hid (I.At S w2):=Z (I.keep S d.drew w2 (I.keep S w d.drew V.out C0.out.drew) g.out);have bi:=I.mW;have av:=I.eW;have i:=Z (I.cW S o y w2 a1.out P.out Y.out F.out);rw[G.out]at i;go_wp2_with (first|(refine i.out.mono ?_;rintro e L ⟨⟨n,u,rfl,v⟩,a,c⟩;obtain⟨tt,c1,rfl⟩:=v;have l:=Z a;have j:=Z c;clear a c)|(refine i.out.mono ?_;rintro e L ⟨rfl,a,c⟩;have l:=Z a;have j:=Z c;clear a c))
    go_ret2;rw[E.out]
    first|exact⟨⟨_,_,rfl,aq.mk _ _⟩,l.out,((C0.out.drew.trans g.out).af).trans j.out⟩|exact⟨rfl,l.out,((C0.out.drew.trans g.out).af).trans j.out⟩
 have ch:(x.op==19)=false:=by simpa using N
 have a3:∀s B:Option Int×U,(if x.op=19 then s else B)=B:=fun s B=>if_neg N
 by_cases O:x.op=20
 ·have ci:(x.op==20)=true:=by simp[O]
  have E:Hid (cK I.acc S x r=I.acc S 3 o 0 y):=Z (by unfold cK;dsimp only;rw[M,Q,a3,if_pos O,t,A]);obtain⟨q,m⟩:=nm (I.acc S 3 o 0 y);obtain⟨K,c0⟩:=q;rw[m]at E;have G:=Z m;clear m O R t A C M J Q N a3;cases K
  all_goals
   go_enter func175,ntmps175
   go_wp2_with fail
   go_region_held3 (fun w'=>w'.cell? ⟨w.heap.size,0,none⟩=some (.int .i64 x.op)/\w'.cell? ⟨w.heap.size,1,none⟩=some (.int .i64 x.a)/\w'.cell? ⟨w.heap.size,2,none⟩=some (.int .i64 x.b)/\w'.cell? ⟨w.heap.size,3,none⟩=some (.int .i64 x.c)/\w'.cell? ⟨w.heap.size,4,none⟩=some (.int .u64 x.v)/\w'.cell? ⟨w.heap.size,5,none⟩=some (.int .i64 x.m)/\w'.cell? ⟨w.heap.size,6,none⟩=some (.int .i64 x.wh)/\w'.cell? ⟨b,p+1+x.a.toNat,none⟩=some (.int .u64 y)) (go_keep) ((go_at_call 140;refine(HA.out d.drew ⟨H.out.pc,H.out.oD⟩).mono ?_;rintro e w2 ⟨rfl,f⟩;have g:=Z f;have T2:=Z (Row.ch (w:=d.drew) W.out.drew f (fun h=>h));have F2:Hid (fj w2 b p pc r):=Z (fj.ch (w:=d.drew) H.out.drew f (fun h=>h));obtain⟨a2,d1,ab,ad,al,am,ap⟩:=T2.out.c7;have d2:=F2.out.oD x.a.toNat (by omega);rw[a0.out]at d2;clear f))
   all_goals
    have F:Hid (I.At S w2):=Z (I.keep S d.drew w2 (I.keep S w d.drew V.out C0.out.drew) g.out);have bi:=I.mA;have av:=I.eA;have i:=Z (I.cA S o y w2 a1.out P.out Y.out F.out);rw[G.out]at i;go_wp2_with (first|(refine i.out.mono ?_;rintro e L ⟨⟨n,u,rfl,v⟩,a,c⟩;obtain⟨tt,c1,rfl⟩:=v;have l:=Z a;have j:=Z c;clear a c)|(refine i.out.mono ?_;rintro e L ⟨rfl,a,c⟩;have l:=Z a;have j:=Z c;clear a c))
    go_ret2;rw[E.out]
    first|exact⟨⟨_,_,rfl,aq.mk _ _⟩,l.out,((C0.out.drew.trans g.out).af).trans j.out⟩|exact⟨rfl,l.out,((C0.out.drew.trans g.out).af).trans j.out⟩
 have ci:(x.op==20)=false:=by simpa using O
 have c5:∀s B:Option Int×U,(if x.op=20 then s else B)=B:=fun s B=>if_neg O
 have cq:0<=x.c/\x.c<32:=by
  rcases R with q|q|q|q|q
  ·exact absurd q C
  ·exact absurd q J
  ·exact absurd q N
  ·exact absurd q O
  ·exact q.2
 obtain⟨cA,cC⟩:=cq;have c4:=Z (c9.out x.c.toNat (by omega));obtain⟨z,bw⟩:=nm (r x.c.toNat);have cb:=Z bw;rw[bw]at c4;have E:Hid (cK I.acc S x r=I.acc S 4 o y z):=Z (by unfold cK;dsimp only;rw[M,Q,a3,c5,t,A,bw]);obtain⟨q,m⟩:=nm (I.acc S 4 o y z);obtain⟨K,c0⟩:=q;rw[m]at E;have G:=Z m;clear m R t A bw C J N O M Q a3 c5;cases K
 all_goals
  go_enter func175,ntmps175
  go_wp2_with fail
  go_region_held3 (fun w'=>w'.cell? ⟨w.heap.size,0,none⟩=some (.int .i64 x.op)/\w'.cell? ⟨w.heap.size,1,none⟩=some (.int .i64 x.a)/\w'.cell? ⟨w.heap.size,2,none⟩=some (.int .i64 x.b)/\w'.cell? ⟨w.heap.size,3,none⟩=some (.int .i64 x.c)/\w'.cell? ⟨w.heap.size,4,none⟩=some (.int .u64 x.v)/\w'.cell? ⟨w.heap.size,5,none⟩=some (.int .i64 x.m)/\w'.cell? ⟨w.heap.size,6,none⟩=some (.int .i64 x.wh)/\w'.cell? ⟨b,p+1+x.a.toNat,none⟩=some (.int .u64 y)) (go_keep) ((go_at_call 140;refine(HA.out d.drew ⟨H.out.pc,H.out.oD⟩).mono ?_;rintro e w2 ⟨rfl,f⟩;have g:=Z f;have T2:=Z (Row.ch (w:=d.drew) W.out.drew f (fun h=>h));have F2:Hid (fj w2 b p pc r):=Z (fj.ch (w:=d.drew) H.out.drew f (fun h=>h));obtain⟨a2,d1,ab,ad,al,am,ap⟩:=T2.out.c7;have d2:=F2.out.oD x.a.toNat (by omega);rw[a0.out]at d2;clear f))
  all_goals
   have F:Hid (I.At S w2):=Z (I.keep S d.drew w2 (I.keep S w d.drew V.out C0.out.drew) g.out);have bi:=I.mC;have cL:=I.nC;have av:=I.eC;have i:=Z (I.cC S o y z w2.drew a1.out P.out Y.out c4.out (I.keep S w2 w2.drew F.out (Ch.refl _ w2).drew));rw[G.out]at i;have d3:=F2.out.oD x.c.toNat (by omega);rw[cb.out]at d3;go_wp2_with fail
   go_region_with (first|(refine i.out.mono ?_;rintro e L ⟨⟨n,u,rfl,v⟩,a,c⟩;obtain⟨tt,c1,rfl⟩:=v;have l:=Z a;have j:=Z c;clear a c)|(refine i.out.mono ?_;rintro e L ⟨rfl,a,c⟩;have l:=Z a;have j:=Z c;clear a c))
   all_goals
    go_wp2_with fail
    go_ret2;rw[E.out]
    first|exact⟨⟨_,_,rfl,aq.mk _ _⟩,l.out,((C0.out.drew.trans g.out.drew).af).trans j.out⟩|exact⟨rfl,l.out,((C0.out.drew.trans g.out.drew).af).trans j.out⟩
theorem q2(T:TypeId)(X:Value)(b d:Nat)(t:TypeId)(a0:t≠3)(pre post:List Value)(v:Value)(p:Nat)(fr:Nat->Int)(fb:List Int)(g m N L:Nat)(eC:N<=L)(cb:N<=100000)(ce:p<N)
 (op a c i k j l:Int) (Gf:1<=op/\op<=11) (c8:0<=a/\a<32) (U:bt ⟨op,a,c,i,k,j,l⟩ N=true) (w:World) (h:aG w b d t pre post v ⟨(p:Int),fr,fb⟩)
 (a3:w.cell? ⟨g,m+p*7,none⟩=some (.int .i64 op)) (ab:w.cell? ⟨g,m+p*7+1,none⟩=some (.int .i64 a)) (ad:w.cell? ⟨g,m+p*7+2,none⟩=some (.int .i64 c)) (al:w.cell? ⟨g,m+p*7+3,none⟩=some (.int .i64 i)) (am:w.cell? ⟨g,m+p*7+4,none⟩=some (.int .u64 k)) (ap:w.cell? ⟨g,m+p*7+5,none⟩=some (.int .i64 j)) (av:w.cell? ⟨g,m+p*7+6,none⟩=some (.int .i64 l)):
 Calls prog 137 #[.pointer (some ⟨b,d,none⟩),.slice (some ⟨g,m,none⟩) N L,.iface T X] w
  (fun e w'=>e=.returned (.tuple #[.int .i64 0,.nilIface])/\aG w' b d t pre post v ⟨(p:Int)+1,fO fr a.toNat (ha ⟨op,a,c,i,k,j,l⟩ (gF fr c) (h' fr ⟨op,a,c,i,k,j,l⟩)),fb⟩/\Ch (aK b) w w'):=by
 have H:=Z h;have O:=h.mu;have eW:¬(p:Int)<0:=by omega
 have eY:¬(N:Int)<=(p:Int):=by omega
 have fd:(p:Int)<(N:Int):=by omega
 have s:=Z (fun w=>qV ⟨op,a,c,i,k,j,l⟩ N cb w);rw[U]at s;have K:=Z (fun w h=>m3 b d (p:Int) fr c w h);have y:=Z (fun w h=>vz b d (p:Int) fr ⟨op,a,c,i,k,j,l⟩ w h);obtain⟨bi,W⟩:=nm (gF fr c);obtain⟨bv,a2⟩:=nm (h' fr ⟨op,a,c,i,k,j,l⟩);rw[W]at K⊢;rw[a2]at y⊢;have u:=Z (fun w=>sW ⟨op,a,c,i,k,j,l⟩ bi bv w);obtain⟨F,Y⟩:=nm (ha ⟨op,a,c,i,k,j,l⟩ bi bv);rw[Y]at u⊢;unfold aI aC at s y u;dsimp only at s y u;obtain⟨eL,eO⟩:=c8;clear h U W a2 Y ce;have cd:op=1∨op=2∨op=3∨op=4∨op=5∨op=6∨op=7∨op=8∨op=9∨op=10∨op=11:=by omega
 clear Gf;obtain⟨n,V⟩:=mn op;have c4:=Z V;clear V;rcases cd with rfl|rfl|rfl|rfl|rfl|rfl|rfl|rfl|rfl|rfl|rfl
 all_goals
  go_enter func137,ntmps137
  go_wp2_with fail
  with_reducible refine(s.out _).mono ?_
  rintro e w2 ⟨rfl,R⟩;have f:=Z R;have ch:=f.out.k a3;have ci:=f.out.k ab;have cl:=f.out.k ad;have cm:=f.out.k al;have cq:=f.out.k am;have cs:=f.out.k ap;have ct:=f.out.k av;have c7:=f.out.k O;clear R a3 ab ad al am ap av O;obtain⟨q,r⟩:=nm (w2.alloc (.cells #[.int .i64 n,.int .i64 a,.int .i64 c,.int .i64 i,.int .u64 k,.int .i64 j,.int .i64 l] 184));rw[c4.out]at r;have x:=Z (Row.al r);have G:Hid (Ch ag w q):=Z (by rw[<-r];exact f.out.alloc _);have o:Hid (aG q b d t pre post v ⟨(p:Int),fr,fb⟩):=Z (H.out.ch G.out (fun h=>h) (fun g S h=>h));obtain⟨d0,d1,d2,d3,d4,d5,d6⟩:=x.out.c7;have c6:=o.out.l4 a.toNat (by omega);go_wp2_with fail
  try rw[r]
  have c9:b<w2.heap.size:=Nat.lt_of_lt_of_le H.out.row.lt f.out.size;obtain⟨tb,a1⟩:=mn w2.heap.size;have eS:¬b=tb:=by omega
  have eU:¬tb=b:=by omega
  clear c9;rw[<-a1]at x d0 d1 d2 d3 d4 d5 d6⊢;clear r a1 ch ci cl cm cq cs ct c7;obtain⟨ra,E⟩:=nm (fr a.toNat);have J:=Z E;rw[E]at c6;clear E;go_region_held3 (x.out.c7) (go_keep) ((first|(go_at_call 178;refine(K.out q.drew ⟨o.out.fr.pc,o.out.fr.oD⟩).mono ?_;rintro e w' ⟨rfl,rfl⟩)|(go_at_call 179;refine(y.out q.drew ⟨o.out.fr.pc,o.out.fr.oD⟩).mono ?_;rintro e w4 ⟨rfl,z⟩;have c1:=Z z;have M:=Z (Row.ch (w:=q.drew) x.out.drew z (fun h=>h));have I:Hid (aG w4 b d t pre post v ⟨(p:Int),fr,fb⟩):=Z (aG.ch (w:=q.drew) o.out.drew z (fun h=>h) (fun g S h=>h));obtain⟨cC,cL,cS,cW,dr,dC,dN⟩:=M.out.c7;have P:=I.out.l4 a.toNat (by omega);dsimp only at P;rw[J.out]at P;clear z)|(go_at_call 177;refine(u.out w4).mono ?_;rintro e bw ⟨rfl,A⟩;have c2:=Z A;have c5:=Z (Row.ch (w:=w4) M.out A (fun h=>h));have C:Hid (aG bw b d t pre post v ⟨(p:Int),fr,fb⟩):=Z (aG.ch (w:=w4) I.out A (fun h=>h) (fun g S h=>h));obtain⟨e1,ec,en,es,et,ex,eA⟩:=c5.out.c7;have Q:=C.out.l4 a.toNat (by omega);dsimp only at Q;rw[J.out]at Q;have gf:=C.out.free (d+1+a.toNat);clear A)))
  all_goals
   obtain⟨c0,B⟩:=nm (bw.setCell ⟨b,d+1+a.toNat,none⟩ (.int .u64 F));have D:Hid (aG c0 b d t pre post v ⟨(p:Int),fO fr a.toNat F,fb⟩):=Z (by rw[<-B];exact C.out.pR a0 a.toNat (by omega) F);have c3:Hid (Ch (aK b) w c0):=Z (by rw[<-B];exact(((G.out.drew.trans c1.out).trans c2.out).af).only _ _);have cA:=D.out.mu;have s1:=D.out.free d;dsimp only at cA;try rw[B]
   clear B;go_wp2_with fail
   go_ret2;exact⟨rfl,D.out.jF a0 _,c3.out.only _ _⟩
theorem iQ{x:aV}{n:Nat}(h:bt x n=true):∃y:aV,y.op=x.op/\y.a=x.a/\y.b=x.b/\y.c=x.c/\ep y 1 (x.op !=22)=true:=by
 unfold bt at h;split at h
 ·rw[Bool.and_eq_true]at h
  exact⟨{x with v:=0,m:=0,wh:=0},rfl,rfl,rfl,rfl,h.2⟩
 ·exact⟨{x with m:=0,wh:=0},rfl,rfl,rfl,rfl,h⟩
theorem ju{x:aV}{n:Nat}(h:bt x n=true)(d:(eV x.op).1=true):0<=x.a/\x.a<32:=by
 obtain⟨y,b,c,_,_,a⟩:=iQ h;unfold ep jN at a;simp only[Bool.and_eq_true]at a;have:=a.1.2.1.1.1;rw[b,d]at this;unfold fi at this;rw[<-c];simpa using this
theorem vJ{x:aV}{n:Nat}(h:bt x n=true)(d:x.op=21):0<=x.c/\x.c<32:=by
 obtain⟨y,b,_,_,c,a⟩:=iQ h;unfold ep jN at a;simp only[Bool.and_eq_true]at a;have:=a.1.2.1.2;rw[b,d]at this;unfold fi at this;rw[<-c];simpa[eV,lY]using this
def bD{a:Type}(acc:a->Int->Int->Int->Int->Option Int×a)(l:List aV)(f:cE)(S:a):Int×cE×a:=
 if f.pc<0 then(3,f,S)else
 match l[f.pc.toNat]? with
 |none=>(3,f,S)
 |some x=>
  if bt x l.length=false then(3,f,S)
  else if x.op=12∨x.op=13∨x.op=14∨x.op=15∨x.op=16 then((dw x f).1,(dw x f).2,S)
  else if x.op=17∨x.op=18∨x.op=19∨x.op=20∨x.op=21 then
   match cK acc S x f.r with
   |(none,S')=>(3,f,S')
   |(some v,S')=>(0,{f with r:=fO f.r x.a.toNat v,pc:=wrap64 (f.pc+1)},S')
  else if 1<=x.op/\x.op<=11 then(0,{f with r:=fO f.r x.a.toNat (ha x (gF f.r x.b) (h' f.r x)),pc:=wrap64 (f.pc+1)},S)
  else(1,f,S)
def yj(n:Int)(post:World->Prop)(e:Ending)(w':World):Prop:=(∃u,e=.returned (.tuple #[.int .i64 n,u])/\(u=.nilIface∨n=3/\aq u))/\post w'
def Cw(P Q:Nat->Prop):Nat->Prop:=fun i=>P i∨Q i
theorem sY(n:Int)(t:TypeId)(x:Value)(w:World):Calls prog 176 #[.int .i64 n,.iface t x] w (fun e w'=>e=.returned (.iface 247 (.pointer (some ⟨w.heap.size,0,none⟩)))/\w.alloc (.cells #[.string ⟨#[118,109]⟩,.int .i64 n,.iface t x] 249)=w'):=by
 go_enter func176,ntmps176
 go_wp2
 go_ret;exact⟨rfl,rfl⟩
theorem q3{T:TypeId}{X:Value}{eY:Type}(I:pT T X eY)(S:eY)(he:Hid (I.Ok S))(b d:Nat)(t:TypeId)(ch:t≠3)(pre post:List Value)(v:Value)(f:cE)(l:List aV)(gb:Option Addr)(N eL:Nat)
 (Y:N=l.length) (gR:N<=eL) (go:N<=100000) (hb:f.back.length<=8) (al:∀k,k<32->aH (f.r k)) (c3:∀x∈l,aH x.v)
 (w:World) (h:aG w b d t pre post v f) (s:0<N->∃g ec,gb=some ⟨g,ec,none⟩/\∀j u,(b' l)[j]?=some u->w.cell? ⟨g,ec+j,none⟩=some u) (ad:I.At S w)
 (a2:∀S w w' c8 f1 v2 f2,I.uI S w->aG w b d t pre post c8 f1->aG w' b d t pre post v2 f2->aQ w c8 v2->Ch (aK b) w w'->I.uI S w') (bv:¬I.D b) (bw:∀i,w.heap.size<=i->¬I.D i) (c0:∀g,v.ownBlock=some g->¬I.D g):
 Calls prog 137 #[.pointer (some ⟨b,d,none⟩),.slice gb N eL,.iface T X] w
  (yj (bD I.acc l f S).1 (fun w'=>(∃en,aG w' b d t pre post en (bD I.acc l f S).2.1/\aQ w v en)/\I.uI (bD I.acc l f S).2.2 w'/\Ch (Cw (aK b) I.D) w w')):=by
 obtain⟨c7,fr,fb⟩:=f;dsimp only at hb al;have H:=Z h;have bi:=Z ad;have ab:w.cell? ⟨b,d,none⟩=some (.int .i64 c7):=h.mu;have f0:=h.free d;have gJ:=Z al;by_cases gr:c7<0
 ·have E:Hid (bD I.acc l ⟨c7,fr,fb⟩ S=(3,⟨c7,fr,fb⟩,S)):=Z (by unfold bD;rw[if_pos gr])
  clear h ad al c3 s a2 bv bw c0 hb;go_enter func137,ntmps137
  go_wp2_with fail
  go_ret2;rw[E.out];exact⟨⟨_,rfl,Or.inl rfl⟩,⟨_,H.out,aQ.refl _ _⟩,I.BR _ _ bi.out,Ch.refl _ _⟩
 ·have C:∀fd B:Int×cE×eY,(if c7<0 then fd else B)=B:=fun fd B=>if_neg gr
  obtain⟨p,rfl⟩:=Int.eq_ofNat_of_zero_le (show 0<=c7 by omega);have c2:((p:Int)).toNat=p:=by omega
  by_cases cb:N<=p
  ·have E:Hid (bD I.acc l ⟨(p:Int),fr,fb⟩ S=(3,⟨(p:Int),fr,fb⟩,S)):=Z (by unfold bD;rw[C,c2,List.getElem?_eq_none (by omega)])
   have hf:(N:Int)<=(p:Int):=(by omega);clear h ad al c3 s a2 bv bw c0 hb C c2 cb;go_enter func137,ntmps137
   go_wp2_with fail
   go_ret2;rw[E.out];exact⟨⟨_,rfl,Or.inl rfl⟩,⟨_,H.out,aQ.refl _ _⟩,I.BR _ _ bi.out,Ch.refl _ _⟩
  ·have cd:p<l.length:=by omega
   obtain⟨x,z⟩:∃x,l[p]?=some x:=⟨_,List.getElem?_eq_getElem cd⟩;obtain⟨g,ec,rfl,F⟩:=s (by omega);obtain⟨k0,k1,k2,k3,cl,cm,cq⟩:=eJ l p x z;have a0:=F _ _ k0;have J:=F _ _ k1;rw[<-Nat.add_assoc]at J;have K:=F _ _ k2;rw[<-Nat.add_assoc]at K;have L:=F _ _ k3;rw[<-Nat.add_assoc]at L;have M:=F _ _ cl;rw[<-Nat.add_assoc]at M;have O:=F _ _ cm;rw[<-Nat.add_assoc]at O;have P:=F _ _ cq;rw[<-Nat.add_assoc]at P;have c4:aH x.v:=c3 x (List.mem_of_getElem? z);have hf:¬(N:Int)<=(p:Int):=(by omega);have kf:(p:Int)<(N:Int):=(by omega);have kd:0<=(p:Int):=(by omega);have a1:=Z (fun w=>qV x N go w);have eA:=Z Y;obtain⟨mb,m⟩:=nm (bt x N);rw[m]at a1;cases mb
   ·have E:Hid (bD I.acc l ⟨(p:Int),fr,fb⟩ S=(3,⟨(p:Int),fr,fb⟩,S)):=Z (by unfold bD;rw[C,c2,z];dsimp only;rw[<-Y,if_pos m])
    clear h ad al c3 s a2 bv bw c0 hb C cb z F c4 m Y cd k0 k1 k2 k3 cl cm cq;unfold aI aC at a1;go_enter func137,ntmps137
    go_wp2_with fail
    with_reducible refine(a1.out _).mono ?_
    rintro e w2 ⟨rfl,o⟩;have a:=Z o;clear o;go_wp2_with fail
    go_ret2;rw[E.out];exact⟨⟨_,rfl,Or.inl rfl⟩,⟨_,H.out.ch a.out (fun h=>h) (fun g s h=>h),aQ.refl _ _⟩,I.BR _ _ (I.keep _ _ _ bi.out a.out),a.out.af⟩
   ·obtain⟨op,c,A,y,R,Q,U⟩:=x
    dsimp only at c4 a0 J K L M O P;unfold aI aC at a1;dsimp only at a1;have ex:=Z a2;have hm:=Z m;have hn:=Z z;have ho:=Z c4;by_cases hj:op=12∨op=13∨op=14∨op=15∨op=16
    ·have gk:op=16∨op=15∨op=12∨(op=13∨op=14)/\0<=c/\c<32:=by
      rcases hj with rfl|rfl|rfl|rfl|rfl
      ·omega
      ·exact Or.inr (Or.inr (Or.inr ⟨Or.inl rfl,ju m rfl⟩))
      ·exact Or.inr (Or.inr (Or.inr ⟨Or.inr rfl,ju m rfl⟩))
      ·omega
      ·omega
     have V:=Z (fun w h=>yh b d t ch pre post v ⟨(p:Int),fr,fb⟩ ⟨op,c,A,y,R,Q,U⟩ gk hb w h);unfold aI aC at V;dsimp only at V;have E:Hid (bD I.acc l ⟨(p:Int),fr,fb⟩ S=((dw ⟨op,c,A,y,R,Q,U⟩ ⟨(p:Int),fr,fb⟩).1,(dw ⟨op,c,A,y,R,Q,U⟩ ⟨(p:Int),fr,fb⟩).2,S)):=Z (by unfold bD;rw[C,c2,z];dsimp only;rw[<-Y,m,if_neg (by decide),if_pos hj]);obtain⟨kw,gf⟩:=nm ((dw ⟨op,c,A,y,R,Q,U⟩ ⟨(p:Int),fr,fb⟩));rw[gf]at E V;clear h ad al c3 s a2 bv bw c0 hb C cb z F c4 m Y cd k0 k1 k2 k3 cl cm cq gk gf;rcases hj with rfl|rfl|rfl|rfl|rfl
     all_goals
      go_enter func137,ntmps137
      go_wp2_with fail
      with_reducible refine(a1.out _).mono ?_
      rintro e w2 ⟨rfl,o⟩;have a:=Z o;have cs:=a.out.k a0;have ct:=a.out.k J;have cA:=a.out.k K;have cC:=a.out.k L;have cL:=a.out.k M;have cS:=a.out.k O;have cW:=a.out.k P;have W:=a.out.k ab;clear o a0 J K L M O P ab;go_wp2_with fail
      have fT:Hid (∀eU,aG (w2.alloc eU) b d t pre post v ⟨(p:Int),fr,fb⟩):=Z (fun eU=>H.out.ch (a.out.alloc eU) (fun h=>h) (fun g s h=>h));with_reducible refine(V.out _ (fT.out _)).mono ?_
      rintro e w4 ⟨rfl,⟨en,hF,eO⟩,D⟩;have g2:=Z hF;have gA:Hid (aQ w v en):=Z ((aQ.refl w v).trans (a.out.alloc _).size eO);have gC:=Z eO;clear eO;have fo:=Z D;clear hF D;go_wp2_with fail
      go_ret2;rw[E.out];exact⟨⟨_,rfl,Or.inl rfl⟩,⟨_,g2.out,gA.out⟩,ex.out _ _ _ _ _ _ _ (I.BR _ _ (I.keep _ _ _ bi.out (a.out.alloc _))) (fT.out _) g2.out gC.out fo.out,((a.out.alloc _).af.trans fo.out).mono (fun i a3=>Or.inl a3)⟩
    ·by_cases c1:op=17∨op=18∨op=19∨op=20∨op=21
     ·have dN:0<=c/\c<32:=by
       refine ju m ?_;rcases c1 with rfl|rfl|rfl|rfl|rfl<;>rfl
      have ge:op=17∨op=18∨op=19∨op=20∨(op=21/\0<=y/\y<32):=by
       rcases c1 with rfl|rfl|rfl|rfl|rfl
       ·omega
       ·omega
       ·omega
       ·omega
       ·exact Or.inr (Or.inr (Or.inr (Or.inr ⟨rfl,vJ m rfl⟩)))
      have V:=Z (fun w h hi=>pU I S he b d (p:Int) fr ⟨op,c,A,y,R,Q,U⟩ dN ge gJ.out c4 w h hi);unfold aI aC at V;dsimp only at V;obtain⟨q,eS⟩:=nm (cK I.acc S ⟨op,c,A,y,R,Q,U⟩ fr);obtain⟨gt,gL⟩:=q;have E:Hid (bD I.acc l ⟨(p:Int),fr,fb⟩ S=match(gt,gL)with
       |(none,S')=>(3,⟨(p:Int),fr,fb⟩,S')
       |(some v,S')=>(0,{(⟨(p:Int),fr,fb⟩:cE)with r:=fO fr c.toNat v,pc:=(p:Int)+1},S')):=Z (by
       have hw:wrap64 ((p:Int)+1)=(p:Int)+1:=(by unfold wrap64;omega);unfold bD;rw[C,c2,z];dsimp only;rw[<-Y,m,if_neg (by decide),if_neg hj,if_pos c1,eS,hw])
      rw[eS]at V;obtain⟨k5,kb⟩:=dN;have fE:=Z bw;have fz:=Z bv;have fK:=Z c0;have ex:=Z a2;clear h ad al c3 s a2 bv bw c0 hb C cb z F c4 m Y cd k0 k1 k2 k3 cl cm cq ge eS hj;obtain⟨n,gp⟩:=mn op;have eA:=Z gp;clear gp;rcases c1 with rfl|rfl|rfl|rfl|rfl
      all_goals
       cases gt with
       |none=>
        go_enter func137,ntmps137
        go_wp2_with fail
        with_reducible refine(a1.out _).mono ?_
        rintro e w2 ⟨rfl,o⟩;have a:=Z o;have cs:=a.out.k a0;have ct:=a.out.k J;have cA:=a.out.k K;have cC:=a.out.k L;have cL:=a.out.k M;have cS:=a.out.k O;have cW:=a.out.k P;have W:=a.out.k ab;have ce:=o.size;clear o a0 J K L M O P ab;go_wp2_with fail
        obtain⟨c5,G⟩:=mn (w2.alloc (.cells #[.int .i64 n,.int .i64 c,.int .i64 A,.int .i64 y,.int .u64 R,.int .i64 Q,.int .i64 U] 184));rw[eA.out]at G;have c6:=Z (Row.al G.symm);have am:Hid (Ch ag w c5):=Z (by rw[G];exact a.out.alloc _);have ap:Hid (aG c5 b d t pre post v ⟨(p:Int),fr,fb⟩):=Z (H.out.ch am.out (fun h=>h) (fun g s h=>h));have eC:Hid (I.At S c5):=Z (I.keep _ _ _ bi.out am.out);have dC:Hid (¬I.D w2.heap.size):=Z (fE.out _ ce);try rw[<-G]
        obtain⟨tb,ci⟩:=mn w2.heap.size;rw[<-ci]at c6 dC⊢;clear G ci cs ct cA cC cL cS cW W ce;obtain⟨d0,d1,d2⟩:=c6.out.c3;have W:=ap.out.mu;with_reducible refine(V.out _ ap.out.fr eC.out).mono ?_
        rintro e w4 ⟨⟨n,u,rfl,tt,l1,rfl⟩,c9,D⟩;have et:=Z c9;have es:=Z D;have av:Hid (aG w4 b d t pre post v ⟨(p:Int),fr,fb⟩):=Z (ap.out.ch D fz.out fK.out);clear c9 D d0 d1 d2 W;have W:=av.out.mu;go_wp2_with (first|(go_at_call 176;refine(sY _ _ _ _).mono ?_;rintro e eW ⟨rfl,rfl⟩))
        go_ret2;rw[E.out];exact⟨⟨_,rfl,Or.inr ⟨rfl,aq.mk _ _⟩⟩,⟨_,av.out.ch ((Ch.refl ag _).alloc _) (fun h=>h) (fun g s h=>h),aQ.refl _ _⟩,I.yi _ _ _ et.out ((Ch.refl ag _).alloc _),(am.out.af.trans (es.out.mono fun i a3=>Or.inr a3)).alloc _⟩
       |some c8=>
        go_enter func137,ntmps137
        go_wp2_with fail
        with_reducible refine(a1.out _).mono ?_
        rintro e w2 ⟨rfl,o⟩;have a:=Z o;have cs:=a.out.k a0;have ct:=a.out.k J;have cA:=a.out.k K;have cC:=a.out.k L;have cL:=a.out.k M;have cS:=a.out.k O;have cW:=a.out.k P;have W:=a.out.k ab;have ce:=o.size;clear o a0 J K L M O P ab;go_wp2_with fail
        obtain⟨c5,G⟩:=mn (w2.alloc (.cells #[.int .i64 n,.int .i64 c,.int .i64 A,.int .i64 y,.int .u64 R,.int .i64 Q,.int .i64 U] 184));rw[eA.out]at G;have c6:=Z (Row.al G.symm);have am:Hid (Ch ag w c5):=Z (by rw[G];exact a.out.alloc _);have ap:Hid (aG c5 b d t pre post v ⟨(p:Int),fr,fb⟩):=Z (H.out.ch am.out (fun h=>h) (fun g s h=>h));have eC:Hid (I.At S c5):=Z (I.keep _ _ _ bi.out am.out);have dC:Hid (¬I.D w2.heap.size):=Z (fE.out _ ce);try rw[<-G]
        obtain⟨tb,ci⟩:=mn w2.heap.size;rw[<-ci]at c6 dC⊢;clear G ci cs ct cA cC cL cS cW W ce;obtain⟨d0,d1,d2⟩:=c6.out.c3;have W:=ap.out.mu;with_reducible refine(V.out _ ap.out.fr eC.out).mono ?_
        rintro e w4 ⟨rfl,c9,D⟩;have et:=Z c9;have es:=Z D;have av:Hid (aG w4 b d t pre post v ⟨(p:Int),fr,fb⟩):=Z (ap.out.ch D fz.out fK.out);have g4:=c6.out.ch D dC.out;clear c9 D d0 d1 d2 W;have d1:=g4.k 1 rfl;have jp:=av.out.l4 c.toNat (by omega);have k4:=av.out.free (d+1+c.toNat);clear g4;go_wp2_with fail
        obtain⟨eW,gs⟩:=nm ((w4.drew).setCell ⟨b,d+1+c.toNat,none⟩ (.int .u64 c8));have dr:Hid (aG eW b d t pre post v ⟨(p:Int),fO fr c.toNat c8,fb⟩):=Z (by rw[<-gs];exact av.out.drew.pR ch c.toNat (by omega) c8);have fn:Hid (Ch (aK b) w4 eW):=Z (by rw[<-gs];exact(Ch.refl _ _).drew.only _ _);have l0:=dr.out.mu;have s1:=dr.out.free d;go_still_tail 7,(by kernel_rfl)
        go_wp2_with fail
        go_ret2;rw[E.out];exact⟨⟨_,rfl,Or.inl rfl⟩,⟨_,dr.out.jF ch _,aQ.refl _ _⟩,ex.out _ _ _ _ _ _ _ et.out av.out (dr.out.jF ch _) (aQ.refl _ _) (fn.out.only _ _),(am.out.af.trans (es.out.mono fun i a3=>Or.inr a3)).trans ((fn.out.only _ _).mono fun i a3=>Or.inl a3)⟩
     ·by_cases e1:1<=op/\op<=11
      ·have dN:0<=c/\c<32:=by
        refine ju m ?_;have:op=1∨op=2∨op=3∨op=4∨op=5∨op=6∨op=7∨op=8∨op=9∨op=10∨op=11:=(by omega);rcases this with rfl|rfl|rfl|rfl|rfl|rfl|rfl|rfl|rfl|rfl|rfl<;>rfl
       have E:bD I.acc l ⟨(p:Int),fr,fb⟩ S=(0,⟨(p:Int)+1,fO fr c.toNat (ha ⟨op,c,A,y,R,Q,U⟩ (gF fr A) (h' fr ⟨op,c,A,y,R,Q,U⟩)),fb⟩,S):=by
        have hw:wrap64 ((p:Int)+1)=(p:Int)+1:=(by unfold wrap64;omega);unfold bD;rw[C,c2,z];dsimp only;rw[<-Y,m,if_neg (by decide),if_neg hj,if_neg c1,if_pos e1,hw]
       refine(q2 T X b d t ch pre post v p fr fb g ec N eL gR go (by omega) op c A y R Q U e1 dN m w H.out a0 J K L M O P).mono ?_;rintro e w' ⟨rfl,hF,gc⟩;rw[E];exact⟨⟨_,rfl,Or.inl rfl⟩,⟨_,hF,aQ.refl _ _⟩,a2 _ _ _ _ _ _ _ (I.BR _ _ ad) H.out hF (aQ.refl _ _) gc,gc.mono (fun i a3=>Or.inl a3)⟩
      ·have E:Hid (bD I.acc l ⟨(p:Int),fr,fb⟩ S=(1,⟨(p:Int),fr,fb⟩,S)):=Z (by
        unfold bD;rw[C,c2,z];dsimp only;rw[<-Y,m,if_neg (by decide),if_neg hj,if_neg c1,if_neg e1])
       obtain⟨⟨hq,i6,i9,ih,ii,io,ip⟩,⟨it,iv,hr,hu,hv,hB,i0⟩,i1,i2,i3,i4,i5,i7,i8⟩:(((op==1)=false/\(op==2)=false/\(op==3)=false/\(op==4)=false/\(op==5)=false/\(op==6)=false/\(op==7)=false)/\((op==8)=false/\(op==9)=false/\(op==10)=false/\(op==11)=false/\(op==12)=false/\(op==13)=false/\(op==14)=false)/\(op==15)=false/\(op==16)=false/\(op==17)=false/\(op==18)=false/\(op==19)=false/\(op==20)=false/\(op==21)=false):=by simp only[beq_eq_false_iff_ne];omega
       clear h ad al c3 s a2 bv bw c0 hb C cb z F c4 m Y cd k0 k1 k2 k3 cl cm cq hj c1 e1;go_enter func137,ntmps137
       go_wp2_with fail
       with_reducible refine(a1.out _).mono ?_
       rintro e w2 ⟨rfl,o⟩;have a:=Z o;have cs:=a.out.k a0;have ct:=a.out.k J;have cA:=a.out.k K;have cC:=a.out.k L;have cL:=a.out.k M;have cS:=a.out.k O;have cW:=a.out.k P;have W:=a.out.k ab;clear o a0 J K L M O P ab;go_wp2_with fail
       go_ret2;rw[E.out];exact⟨⟨_,rfl,Or.inl rfl⟩,⟨_,H.out.ch (a.out.alloc _) (fun h=>h) (fun g s h=>h),aQ.refl _ _⟩,I.BR _ _ (I.keep _ _ _ bi.out (a.out.alloc _)),(a.out.alloc _).af⟩
theorem vK(args:Array Value)(w:World):(callFunc 81 args).run prog w=.ok (.enter 81 args) w:=by kernel_rfl
theorem AJ(m:Nat)(w:World):(Go.method 546 103 (.pointer (some ⟨m,0,none⟩)) "Load").run prog w=.ok (81,.pointer (some ⟨m,0,none⟩)) w:=by kernel_rfl
theorem vL(args:Array Value)(w:World):(callFunc 110 args).run prog w=.ok (.enter 110 args) w:=by kernel_rfl
theorem AK(m:Nat)(w:World):(Go.method 546 103 (.pointer (some ⟨m,0,none⟩)) "Store").run prog w=.ok (110,.pointer (some ⟨m,0,none⟩)) w:=by kernel_rfl
theorem vM(args:Array Value)(w:World):(callFunc 277 args).run prog w=.ok (.enter 277 args) w:=by kernel_rfl
theorem AL(m:Nat)(w:World):(Go.method 546 103 (.pointer (some ⟨m,0,none⟩)) "Swap").run prog w=.ok (277,.pointer (some ⟨m,0,none⟩)) w:=by kernel_rfl
theorem vN(args:Array Value)(w:World):(callFunc 131 args).run prog w=.ok (.enter 131 args) w:=by kernel_rfl
theorem AM(m:Nat)(w:World):(Go.method 546 103 (.pointer (some ⟨m,0,none⟩)) "Add").run prog w=.ok (131,.pointer (some ⟨m,0,none⟩)) w:=by kernel_rfl
theorem vO(args:Array Value)(w:World):(callFunc 204 args).run prog w=.ok (.enter 204 args) w:=by kernel_rfl
theorem AN(m:Nat)(w:World):(Go.method 546 103 (.pointer (some ⟨m,0,none⟩)) "Cas").run prog w=.ok (204,.pointer (some ⟨m,0,none⟩)) w:=by kernel_rfl
theorem AO(m:Nat)(w:World):(nilAhead 546 103 (.pointer (some ⟨m,0,none⟩)) "Cas").run prog w=.ok (some false) w:=by kernel_rfl
theorem mv.of{x:Option Int×aF}{m c d:Nat}{w:World}{e:Ending}{w':World}(h:k7 x m c d w e w'):mv x.1 (fun w'=>aO w' m c d x.2/\Ch (di m c) w w') e w':=by
 obtain⟨a,f⟩:=h;refine⟨?_,f⟩;cases b:x.1 with
 |none=>rw[b]at a;obtain⟨v,g,i⟩:=a;exact⟨_,_,g,i⟩
 |some v=>rw[b]at a;exact a
def yl(m c d:Nat):pT 103 (.pointer (some ⟨m,0,none⟩)) aF where
 At:=fun S w=>aO w m c d S
 uI:=fun S w=>aO w m c d S
 Ok:=fun _=>True
 D:=di m c
 acc:=aF.acc
 FL:=81
 FS:=110
 FW:=277
 FA:=131
 FC:=204
 mL:=AJ m
 mS:=AK m
 mW:=AL m
 mA:=AM m
 mC:=AN m
 nC:=AO m
 eL:=vK
 eS:=vL
 eW:=vM
 eA:=vN
 eC:=vO
 keep:=fun _ _ _ h k=>h.ch k (fun h=>h) (fun h=>h) (fun h=>h)
 BR:=fun _ _ h=>h
 yi:=fun _ _ _ h k=>h.ch k (fun h=>h) (fun h=>h) (fun h=>h)
 cL:=fun S a w _ b h=>(lW m c d S a b w h).mono fun _ _ h=>mv.of h
 cS:=fun S a v w _ b e h=>(eo m c d S a v b e w h).mono fun _ _ h=>⟨h.1,h.2⟩
 cW:=fun S a v w _ b e h=>(lX m c d S a v b e w h).mono fun _ _ h=>mv.of h
 cA:=fun S a v w _ b e h=>(mY m c d S a v b e w h).mono fun _ _ h=>mv.of h
 cC:=fun S a f v w _ b _ e h=>(mZ m c d S a f v b e w h).mono fun _ _ h=>mv.of h
structure Sl where
 id:Int
 ad:Int
 mask:Int
 b:Nat
def ptrTo:Option Nat->Value
 |none=> .pointer none
 |some b=> .pointer (some ⟨b,0,none⟩)
def kq(w:World):Option Nat->List Sl->Prop
 |_,[]=>True
 |p,s::r=>Row w s.b 219 [.int .u64 s.id,.int .u64 s.ad,.int .u64 s.mask,ptrTo p,ptrTo (r.head?.map Sl.b)]/\kq w (some s.b) r
theorem kq.ch{w w':World}{D:Nat->Prop}(c:Ch D w w'):∀{p:Option Nat} {l:List Sl},kq w p l->(∀s∈l,¬D s.b)->kq w' p l
 |_,[],_,_=>trivial
 |_,s::r,h,a=>⟨h.1.ch c (a s (by simp)),kq.ch c h.2 (fun x b=>a x (by simp[b]))⟩
def bO(l:List Sl):List Value:=[ptrTo (l.head?.map Sl.b),ptrTo (l.getLast?.map Sl.b)]
theorem iT(qb lb:Nat)(g:Value)(a:Int)(n c:Nat)(d:1<=n)(f:n<=64)(w:World)(h:Row w qb 214 [.slice (some ⟨lb,0,none⟩) n c,g]):
 Calls prog 92 #[.pointer (some ⟨qb,0,none⟩),.int .u64 a] w (d' (.int .i64 (bc a n)) w):=by
 have i:=h.c1;have b:=Z (fun w=>mV a n d f w);clear h;go_enter func92,ntmps92
 go_wp2_with (go_at_call 141;refine(b.out _).mono ?_;rintro e w' ⟨rfl,rfl⟩)
 go_ret;exact d'.mk rfl
end Go.Proofs.YtlihkblppjgebaaGreatDoor
