import Derived.Test.YtfnilkpkogipfaaGreatDoorZAb
import Derived.Test.YtfnilkpkogipfaaGreatDoorZAc
import Derived.Test.YtfnilkpkogipfaaGreatDoorZAd
import Derived.Test.YtfnilkpkogipfaaGreatDoorZAe
set_option linter.all false
set_option maxRecDepth 100000
set_option maxHeartbeats 8000000
namespace Go.Proofs.YtfnilkpkogipfaaGreatDoor
open Go.RowKit Go.Proofs.Tryz
structure cu where
 pc:Int
 r:Nat->Int
 back:List Int
def fU(r:Nat->Int)(k:Nat)(x:Int):Nat->Int:=fun i=>if i=k then x else r i
def fx(r:Nat->Int):List Value:=(List.range 32).map fun k=> .int .u64 (r k)
theorem bt(r:Nat->Int):(fx r).length=32:=by simp[fx]
theorem iA(r:Nat->Int)(k:Nat)(a:k<32):(fx r)[k]?=some (.int .u64 (r k)):=by
 simp[fx,List.getElem?_map,List.getElem?_range a]
theorem qp(r:Nat->Int)(k:Nat)(d:k<32)(x:Int):(fx r).set k (.int .u64 x)=fx (fU r k x):=by
 apply List.ext_getElem?;intro i;rw[List.getElem?_set];by_cases a:i<32
 ·rw[iA _ i a,iA _ i a,bt]
  unfold fU;by_cases h:k=i
  ·simp[h,a]
  ·simp[h,Ne.symm h]
 ·have b:(fx r)[i]?=none:=List.getElem?_eq_none (by rw[bt];omega)
  have c:(fx (fU r k x))[i]?=none:=List.getElem?_eq_none (by rw[bt];omega);rw[b,c,if_neg (by omega)]
def cu.cells(f:cu)(v:Value):List Value:=.int .i64 f.pc::(fx f.r++[v])
theorem cu.cY(f:cu)(v:Value):(f.cells v).length=34:=by simp[cu.cells,bt]
theorem BF(pre mid post:List Value)(j:Nat)(a:j<mid.length)(v:Value):(pre++(mid++post)).set (pre.length+j) v=pre++(mid.set j v++post):=by
 rw[List.set_append_right _ _ (by omega),show pre.length+j-pre.length=j from by omega,List.set_append_left _ _ a]
theorem BG(pre mid post:List Value)(j:Nat)(a:j<mid.length):(pre++(mid++post))[pre.length+j]?=mid[j]?:=by
 rw[List.getElem?_append_right (by omega),show pre.length+j-pre.length=j from by omega,List.getElem?_append_left a]
def ct(w:World)(v:Value)(l:List Int):Prop:=w.ownsRow 0 3 1 v l.length (l.map (Value.int .i64))
theorem ct.ch{w w':World}{D:Nat->Prop}{v:Value}{l:List Int}(h:ct w v l)(c:Ch D w w')(a:∀g,v.ownBlock=some g->¬D g):ct w' v l:=aj h c a
theorem ct.nil(w:World):ct w (.slice none 0 0) []:=⟨rfl,Or.inl ⟨rfl,rfl⟩⟩
structure aJ(w:World)(b o:Nat)(t:TypeId)(pre post:List Value)(v:Value)(f:cu):Prop where
 row:Row w b t (pre++(f.cells v++post))
 len:pre.length=o
 back:ct w v f.back
theorem aJ.get{w:World}{b a:Nat}{t:TypeId}{pre post:List Value}{v:Value}{f:cu}(h:aJ w b a t pre post v f)(j:Nat)(c:j<34){u:Value}(d:(f.cells v)[j]?=some u):w.cell? (b,a+j)=some u:=by
 refine h.row.cell ?_;rw[<-h.len,BG _ _ _ _ (by rw[cu.cY];exact c)];exact d
theorem aJ.kI{w:World}{b a:Nat}{t:TypeId}{pre post:List Value}{v:Value}{f:cu}(h:aJ w b a t pre post v f):w.cell? (b,a)=some (.int .i64 f.pc):=h.get 0 (by omega) rfl
theorem aJ.mo{w:World}{b a:Nat}{t:TypeId}{pre post:List Value}{v:Value}{f:cu}(h:aJ w b a t pre post v f)(k:Nat)(c:k<32):w.cell? (b,a+1+k)=some (.int .u64 (f.r k)):=by
 have:=h.get (k+1) (by omega) (u:=.int .u64 (f.r k)) (by
  unfold cu.cells;rw[List.getElem?_cons_succ,List.getElem?_append_left (by rw[bt];exact c),iA _ _ c])
 rw[show a+1+k=a+(k+1)from by omega];exact this
theorem aJ.zd{w:World}{b a:Nat}{t:TypeId}{pre post:List Value}{v:Value}{f:cu}(h:aJ w b a t pre post v f):w.cell? (b,a+33)=some v:=h.get 33 (by omega) (by
 unfold cu.cells;rw[List.getElem?_cons_succ,List.getElem?_append_right (by rw[bt];omega),bt];rfl)
theorem aJ.fr{w:World}{b a:Nat}{t:TypeId}{pre post:List Value}{v:Value}{f:cu}(h:aJ w b a t pre post v f):fs w b a f.pc f.r:=⟨h.kI,h.mo⟩
theorem aJ.free{w:World}{b a:Nat}{t:TypeId}{pre post:List Value}{v:Value}{f:cu}(h:aJ w b a t pre post v f)(i:Nat):w.frozen? (b,i)=false:=h.row.free i
theorem aJ.ch{w w':World}{D:Nat->Prop}{b a:Nat}{t:TypeId}{pre post:List Value}{v:Value}{f:cu}(h:aJ w b a t pre post v f)(c:Ch D w w')(hb:¬D b)(d:∀g,v.ownBlock=some g->¬D g):aJ w' b a t pre post v f:=
 ⟨h.row.ch c hb,h.len,h.back.ch c d⟩
theorem aJ.drew{w:World}{b a:Nat}{t:TypeId}{pre post:List Value}{v:Value}{f:cu}(h:aJ w b a t pre post v f):aJ w.drew b a t pre post v f:=⟨h.row,h.len,h.back⟩
theorem aJ.drewN{w:World}{b a:Nat}{t:TypeId}{pre post:List Value}{v:Value}{f:cu}(h:aJ w b a t pre post v f)(n:Nat):aJ (w.drewN n) b a t pre post v f:=⟨h.row,h.len,h.back⟩
theorem aJ.apart{w:World}{b c:Nat}{t:TypeId}{pre post:List Value}{v:Value}{f:cu}(h:aJ w b c t pre post v f)(a:t≠3):v.ownBlock≠some b:=aU h.back h.row a
theorem aJ.wN{w:World}{b c:Nat}{t:TypeId}{pre post:List Value}{v:Value}{f:cu}(h:aJ w b c t pre post v f)(m:t≠3)(j:Nat)(i:j<34){u d:Value}{a:cu}(g:(f.cells v).set j u=a.cells d)(hb:ct w d a.back):
 aJ (w.setCell (b,c+j) u) b c t pre post d a:=by
 refine⟨h.row.bc _ _ ?_,h.len,hb.ch (D:=aL b) ((Ch.refl _ _).only _ _) (fun k l e=>aU hb h.row m (by rw[l];exact congrArg some e))⟩;rw[<-h.len,BF _ _ _ _ (by rw[cu.cY];exact i),g]
theorem aJ.jZ{w:World}{b a:Nat}{t:TypeId}{pre post:List Value}{v:Value}{f:cu}(h:aJ w b a t pre post v f)(c:t≠3)(p:Int):
 aJ (w.setCell (b,a) (.int .i64 p)) b a t pre post v {f with pc:=p}:=h.wN c 0 (by omega) rfl h.back
theorem aJ.qq{w:World}{b a:Nat}{t:TypeId}{pre post:List Value}{v:Value}{f:cu}(h:aJ w b a t pre post v f)(d:t≠3)(k:Nat)(c:k<32)(x:Int):
 aJ (w.setCell (b,a+1+k) (.int .u64 x)) b a t pre post v {f with r:=fU f.r k x}:=by
 rw[show a+1+k=a+(k+1)from by omega];refine h.wN d (k+1) (by omega) ?_ h.back;unfold cu.cells;rw[List.set_cons_succ,List.set_append_left _ _ (by rw[bt];exact c),qp _ _ c]
theorem aJ.qs{w:World}{b a:Nat}{t:TypeId}{pre post:List Value}{v:Value}{f:cu}(h:aJ w b a t pre post v f)(d:t≠3)(c:Value)(l:List Int)(hb:ct w c l):
 aJ (w.setCell (b,a+33) c) b a t pre post c {f with back:=l}:=by
 refine h.wN d 33 (by omega) ?_ hb;unfold cu.cells;rw[List.set_cons_succ,List.set_append_right _ _ (by rw[bt];omega),bt];rfl
theorem ct.pop{w:World}{g m c:Nat}{l:List Int}(h:ct w (.slice (some (g,0)) (m+1) c) l)(r:l.length=m+1):ct w (.slice (some (g,0)) m c) (l.take m):=by
 rcases h.2 with⟨a,_⟩|⟨o,n,cur,e,d,f,q,i,j,k⟩
 ·cases a
 ·injection e with a p b
  injection a with a
  injection a with a
  subst a b;unfold ct;rw[List.length_take,show min m l.length=m from by omega];refine⟨by rw[List.length_map,List.length_take];omega,Or.inr ⟨g,c,cur,rfl,d,f,by omega,i,j,?_⟩⟩;rw[List.map_take,<-k,List.take_take]
  congr 1;omega
theorem ct.get{w:World}{g m c:Nat}{l:List Int}(h:ct w (.slice (some (g,0)) m c) l){i:Nat}{x:Int}(d:l[i]?=some x):w.cell? (g,i)=some (.int .i64 x):=by
 rcases h.2 with⟨a,_⟩|⟨n,k,cur,e,q,f,r,t,u,j⟩
 ·cases a
 ·injection e with a o p
  injection a with a
  injection a with a
  subst a;have s:=(List.getElem?_eq_some_iff.1 d).1;have:(cur.toList)[i]?=some (.int .i64 x):=by
   have b:(l.map (Value.int .i64))[i]?=some (.int .i64 x):=(by simp[d]);rw[<-j,List.getElem?_take,if_pos (by omega)]at b;exact b
  refine(show Row w g 3 cur.toList from by unfold Row;simpa using f).cell this
theorem BH:(prog.info? 3).map (fun i=>(i.zero,i.size,i.bytes))=some (some (.int .i64 0),1,8):=by kernel_rfl
def dF(x:aR)(f:cu):Int×cu:=
 if x.op=16 then
  if f.back.length=0 then(2,f)
  else(0,{f with pc:=(f.back[f.back.length-1]?).getD 0,back:=f.back.take (f.back.length-1)})
 else if x.op=15 then
  if 8<=f.back.length then(3,f)
  else(0,{f with pc:=wrap64 x.v,back:=f.back++[wrap64 (f.pc+1)]})
 else if x.op=12 then(0,{f with pc:=wrap64 x.v})
 else if(f.r x.a.toNat==0)==(x.op==13)then(0,{f with pc:=wrap64 x.v})
 else(0,{f with pc:=wrap64 (f.pc+1)})
def BI(r:Int)(c:cu)(b d:Nat)(t:TypeId)(pre post:List Value)(v:Value)(w:World)(e:Ending)(w':World):Prop:=
 e=.returned (.int .i64 r)/\(∃a,aJ w' b d t pre post a c/\aT w v a)/\Ch (aL b) w w'
theorem ct.cap{w:World}{a:Option Addr}{m c:Nat}{l:List Int}(h:ct w (.slice a m c) l):m<=c:=by
 rcases h.2 with⟨b,_⟩|⟨i,g,cur,f,j,n,k,o,p,q⟩
 ·injection b with b d e;omega
 ·injection f with b d e;omega
theorem ze(b d:Nat)(t:TypeId)(J:t≠3)(pre post:List Value)(v:Value)(f:cu)(x:aR)(K:x.op=16∨x.op=15∨x.op=12∨(x.op=13∨x.op=14)/\0<=x.a/\x.a<32)(cl:f.back.length<=8)(w:World)(h:aJ w b d t pre post v f):
 Calls prog 68 #[(b,d),aK x] w (BI (dF x f).1 (dF x f).2 b d t pre post v w):=by
 obtain⟨R,ab,r⟩:=ao h.back;obtain⟨N,ad⟩:=mn f.back.length;rw[<-ad]at r cl;have m:=Z ad;obtain⟨C,bw⟩:=nm (w.alloc (.cells #[x.op,x.a,x.b,x.c,.int .u64 x.v,x.m,x.wh] 121));have s:=Z (Ch.al (D:=ag) bw);have O:aJ C b d t pre post v f:=h.ch s (fun h=>h) (fun g Y h=>h);have ap:Row C w.heap.size 121 (aG x).toList:=by rw[<-bw];exact Row.new w _ _
 have H:=Z O;have c8:=O.kI;have ax:=O.zd;have f0:=O.free d;have f33:=O.free (d+33);obtain⟨t0,t1⟩:=ap.c2;have t4:=ap.k 4 rfl;obtain⟨tb,eW⟩:=mn w.heap.size;have eA:b<w.heap.size:=h.row.lt;clear ap O h ad;by_cases l:x.op=16
 ·have c6:(x.op==16)=true:=by simp[l]
  by_cases a0:N=0
  ·subst a0
   have E:Hid (dF x f=(2,f)):=Z (by unfold dF;rw[if_pos l,if_pos m.out.symm]);subst r;clear l K;unfold aK aG;go_wp2
   go_ret;rw[E];exact⟨rfl,⟨_,H,aT.refl _ _⟩,s.af⟩
  ·obtain⟨M,rfl⟩:∃M,N=M+1:=⟨N-1,by omega⟩
   obtain⟨g,cap,Y,_,_⟩:=H.back.form (by rw[<-m];omega);rw[<-m]at Y;subst Y;injection r with cQ fn cS
   subst cQ cS;have ce:M<f.back.length:=(by rw[<-m];omega);obtain⟨p,am⟩:∃p,f.back[M]?=some p:=⟨_,List.getElem?_eq_getElem ce⟩;have ec:=H.back.get am;have E:Hid (dF x f=(0,{f with pc:=p,back:=f.back.take M})):=Z (by unfold dF;rw[if_pos l,<-m,if_neg (by omega),show M+1-1=M from by omega,am];rfl);have a2:=Z (H.back.pop m.symm);have cq:g≠b:=(fun e=>H.apart J (by rw[<-e];rfl));have ch:M+1<=cap:=H.back.cap;have eC:M<=cap:=(by omega);clear l K am;unfold aK aG;go_wp2
   go_ret;rw[E];exact⟨rfl,⟨_,(H.jZ J p).qs J _ _ (a2.ch (D:=aL b) ((Ch.refl _ _).only _ _) (fun k al e=>by injection al with al;exact cq (al.trans e))),aT.of_eq rfl⟩,(s.af.only _ _).only _ _⟩
 ·have c6:(x.op==16)=false:=by simpa using l
  have o:∀A B:Int×cu,(if x.op=16 then A else B)=B:=fun A B=>if_neg l
  by_cases n:x.op=15
  ·have c5:(x.op==15)=true:=by simp[n]
   by_cases a0:8<=N
   ·have E:Hid (dF x f=(3,f)):=Z (by unfold dF;rw[o,if_pos n,<-m,if_pos a0])
    subst r;have c7:((8:Int)<=(N:Int)):=(by omega);clear l n K o;unfold aK aG;go_wp2
    go_ret;rw[E];exact⟨rfl,⟨_,H,aT.refl _ _⟩,s.af⟩
   ·obtain⟨cL,bv,cr,cA,cC⟩:=info_parts BH
    have c2:=Z bv;have E:Hid (dF x f=(0,{f with pc:=wrap64 x.v,back:=f.back++[wrap64 (f.pc+1)]})):=Z (by unfold dF;rw[o,if_pos n,<-m,if_neg a0]);have bi:b<C.heap.size:=H.row.lt;have fb:w.heap.size<C.heap.size:=aP t0;have ch:N<=ab:=(by subst r;exact H.back.cap);have cm:R=none->N=0/\N=0:=fun e=>by
     rcases H.back.2 with⟨a,P⟩|⟨V,cb,cur,X,_⟩
     ·exact⟨by rw[m];exact P,by rw[m];exact P⟩
     ·rw[r,e]at X;injection X with a;cases a
    have ci:∀q,R=some q->∀j u,(f.back.map (Value.int .i64))[j]?=some u->C.cell? (q.add j)=some u:=fun q I j u z=>by
     subst r;rcases H.back.2 with⟨a,P⟩|⟨V,cb,cur,X,_⟩
     ·injection a with a;rw[a]at I;cases I
     ·injection X with a
      rw[a]at I;injection I with I
      subst I a;rw[show(⟨V,0,none⟩:Addr).add j=⟨V,j,none⟩from by unfold Addr.add;split<;>simp_all];rw[List.getElem?_map]at z;cases hb:f.back[j]? with
      |none=>rw[hb]at z;cases z
      |some y=>
       rw[hb]at z;injection z with z
       rw[<-z];exact H.back.get hb
    have hlen:(f.back.map (Value.int .i64)).length=N*1:=(by rw[List.length_map,m];omega);have c7:((8:Int)<=(N:Int))=False:=(by simp;omega);have fd:¬((8:Int)<=(N:Int)):=(by omega);have dC:decide ((8:Int)<=(N:Int))=false:=(by simp;omega);subst r;clear l n K o bv;unfold aK aG;go_wp2
    go_region_law (first|(refine step_append_grows (by rfl) _ _ _ (by rfl) 3 cL _ 1 8 underlying79 c2 cr cA cC rfl (by decide) R N N (f.back.map (Value.int .i64)) (by rfl) cm hlen (fun q I j u z=>nb (ci q I j u z) _) ⟨C.heap.size,0,none⟩ 1 1 [.int .i64 (IntKind.i64.wrap (f.pc+1))] (by rfl) (by rfl) (World.news_of_block (cs:=#[.int .i64 (IntKind.i64.wrap (f.pc+1))]) (t:=3) (fr:=(0,0)) (heap_alloc_new C _)) (by simp[Value.oneCell']) (by omega) (by unfold maxLen;omega) (by omega) ?_;intro ge w4 Q G;obtain⟨W,cap,rfl,eL,_⟩:=Q.form (by omega);have cW:w4.cell? (b,d+33)=_:=(G.cell_far ⟨b,d+33,none⟩ (by simp;omega) (by simp)).trans (by simp[go_sem,World.cell?_alloc_past,bi,ax];rfl);have dr:w4.frozen? (b,d+33)=false:=(G.frozen_far ⟨b,d+33,none⟩ (by simp;omega) (by simp)).trans (by simp[go_sem,World.frozen?_alloc_past,bi,f33])))
    all_goals
     rw[show IntKind.i64.wrap (f.pc+1)=wrap64 (f.pc+1)from IntWalk.i64_left _]at Q;have c3:Hid (aT w (.slice R N ab) (.slice (some (W,0)) (N+1) cap)):=Z (aT.at (Or.inr (by
      have eS:=s.size;rcases Q.2 with⟨a,_⟩|⟨V,dN,en,a,P,_⟩
      ·cases a
      ·injection a with a _ _
       injection a with a
       injection a with a
       simp at P;omega)))
     have a3:Hid (Ch ag C w4):=Z ⟨G.os,G.tape,G.output,Nat.le_trans (by simp) G.size,fun i ck _=>(G.block i (by simp;omega) (by simp)).trans (heap_alloc_old C _ ck)⟩;have a2:Hid (ct w4 (.slice (some (W,0)) (N+1) cap) (f.back++[wrap64 (f.pc+1)])):=Z (by
      unfold ct;rw[List.length_append,<-m,List.map_append];exact⟨Q.1,Q.2.imp id (fun⟨g,c,cur,a,P,cd⟩=>⟨g,c,cur,a,Nat.zero_le _,cd⟩)⟩)
     have c1:Hid (aJ w4 b d t pre post (.slice R N ab) f):=Z (H.ch a3 (fun h=>h) (fun g Y h=>h));obtain⟨av,S⟩:=nm (w4.setCell (b,d+33) (.slice (some (W,0)) (N+1) cap));have a1:Hid (aJ av b d t pre post (.slice (some (W,0)) (N+1) cap) {f with back:=f.back++[wrap64 (f.pc+1)]}):=Z (by rw[<-S];exact c1.qs J _ _ a2);have c0:Hid (Ch (aL b) w av):=Z (by rw[<-S];exact(s.trans a3).af.only _ _);have gc:av.cell? (w.heap.size,4)=some (.int .u64 x.v):=by
      have bx:w4.cell? (w.heap.size,4)=some (.int .u64 x.v):=(a3.cell (p:=⟨w.heap.size,4,none⟩) (by show w.heap.size<_;omega) (fun h=>h)).trans t4;rw[<-S];exact(((Ch.refl (aL b) w4).only (d+33) _).cell (p:=⟨w.heap.size,4,none⟩) (aP bx) (fun e=>by have:w.heap.size=b:=e;omega)).trans bx
     have fz:=a1.kI;have es:=a1.free d;try rw[S]
     clear S Q G cW dr c8 ax f0 f33 t0 t1 t4;go_wp2
     go_ret;rw[E];exact⟨rfl,⟨_,a1.jZ J _,c3⟩,c0.only _ _⟩
  ·have c5:(x.op==15)=false:=by simpa using n
   have L:∀A B:Int×cu,(if x.op=15 then A else B)=B:=(fun A B=>if_neg n);by_cases F:x.op=12
   ·have c4:(x.op==12)=true:=by simp[F]
    have E:Hid (dF x f=(0,{f with pc:=wrap64 x.v})):=Z (by unfold dF;rw[o,L,if_pos F]);subst r;clear l n F K o L;unfold aK aG;go_wp2
    go_ret;rw[E];exact⟨rfl,⟨_,H.jZ J _,aT.refl _ _⟩,s.af.only _ _⟩
   ·have c4:(x.op==12)=false:=by simpa using F
    have U:∀A B:Int×cu,(if x.op=12 then A else B)=B:=(fun A B=>if_neg F);have cf:0<=x.a/\x.a<32:=by
     rcases K with q|q|q|q
     ·exact absurd q l
     ·exact absurd q n
     ·exact absurd q F
     ·exact q.2
    obtain⟨et,ex⟩:=cf;have c9:=H.mo x.a.toNat (by omega);obtain⟨y,T⟩:=nm (f.r x.a.toNat);rw[T]at c9;subst r;cases hb:((y==0)==(x.op==13))
    ·have E:Hid (dF x f=(0,{f with pc:=wrap64 (f.pc+1)})):=Z (by unfold dF;rw[o,L,U,T,hb];rfl)
     clear l n F K o L U T;unfold aK aG;go_wp2
     go_quiet (fail)
     go_wp2
     go_ret;rw[E];exact⟨rfl,⟨_,(H.drewN _).jZ J _,aT.refl _ _⟩,(s.af.drewN _).only _ _⟩
    ·have E:Hid (dF x f=(0,{f with pc:=wrap64 x.v})):=Z (by unfold dF;rw[o,L,U,T,hb];rfl)
     clear l n F K o L U T;unfold aK aG;go_wp2
     go_quiet (fail)
     go_wp2
     go_ret;rw[E];exact⟨rfl,⟨_,(H.drewN _).jZ J _,aT.refl _ _⟩,(s.af.drewN _).only _ _⟩
theorem rG(T:TypeId)(X:Value)(b d:Nat)(t:TypeId)(Y:t≠3)(pre post:List Value)(v:Value)(p:Nat)(fr:Nat->Int)(fb:List Int)(g m N K:Nat)(es:N<=K)(c7:N<=100000)(cb:p<N)
 (op a c i k j l:Int) (c8:1<=op/\op<=11) (c5:0<=a/\a<32) (S:bz ⟨op,a,c,i,k,j,l⟩ N=true) (w:World) (h:aJ w b d t pre post v ⟨(p:Int),fr,fb⟩)
 (a2:w.cell? ⟨g,m+p*7,none⟩=some (.int .i64 op)) (a3:w.cell? ⟨g,m+p*7+1,none⟩=some (.int .i64 a)) (ab:w.cell? ⟨g,m+p*7+2,none⟩=some (.int .i64 c)) (ad:w.cell? ⟨g,m+p*7+3,none⟩=some (.int .i64 i)) (al:w.cell? ⟨g,m+p*7+4,none⟩=some (.int .u64 k)) (am:w.cell? ⟨g,m+p*7+5,none⟩=some (.int .i64 j)) (ap:w.cell? ⟨g,m+p*7+6,none⟩=some (.int .i64 l)):
 Calls prog 28 #[(b,d),.slice (some ⟨g,m,none⟩) N K,.iface T X] w
  (fun e w'=>e=.returned (.tuple #[.int .i64 0,.nilIface])/\aJ w' b d t pre post v ⟨(p:Int)+1,fU fr a.toNat (hy ⟨op,a,c,i,k,j,l⟩ (gT fr c) (iv fr ⟨op,a,c,i,k,j,l⟩)),fb⟩/\Ch (aL b) w w'):=by
 have H:=Z h;have M:=h.kI;have eL:¬(p:Int)<0:=by omega
 have eS:¬(N:Int)<=(p:Int):=by omega
 have eW:(p:Int)<(N:Int):=by omega
 have r:=Z (fun w=>rz ⟨op,a,c,i,k,j,l⟩ N c7 w);rw[S]at r;have J:=Z (fun w h=>np b d (p:Int) fr c w h);have x:=Z (fun w h=>wF b d (p:Int) fr ⟨op,a,c,i,k,j,l⟩ w h);obtain⟨av,V⟩:=nm (gT fr c);obtain⟨ax,a1⟩:=nm (iv fr ⟨op,a,c,i,k,j,l⟩);rw[V]at J⊢;rw[a1]at x⊢;have s:=Z (fun w=>tT ⟨op,a,c,i,k,j,l⟩ av ax w);obtain⟨E,W⟩:=nm (hy ⟨op,a,c,i,k,j,l⟩ av ax);rw[W]at s⊢;unfold aK aG at r x s;dsimp only at r x s;obtain⟨et,ex⟩:=c5;clear h S V a1 W cb;have c9:op=1∨op=2∨op=3∨op=4∨op=5∨op=6∨op=7∨op=8∨op=9∨op=10∨op=11:=by omega
 clear c8;obtain⟨n,U⟩:=mn op;have c1:=Z U;clear U;rcases c9 with rfl|rfl|rfl|rfl|rfl|rfl|rfl|rfl|rfl|rfl|rfl
 all_goals
  go_in
  go_wp2_with fail
  with_reducible refine(r.out _).mono ?_
  rintro e w2 ⟨rfl,Q⟩;have f:=Z Q;have cd:=f.k a2;have ce:=f.k a3;have cf:=f.k ab;have ch:=f.k ad;have ci:=f.k al;have ck:=f.k am;have cl:=f.k ap;have c4:=f.k M;clear Q a2 a3 ab ad al am ap M;obtain⟨w3,q⟩:=nm (w2.alloc (.cells #[n,a,c,i,.int .u64 k,j,l] 121));rw[c1]at q;have u:=Z (Row.al q);have F:Hid (Ch ag w w3):=Z (by rw[<-q];exact f.alloc _);have o:Hid (aJ w3 b d t pre post v ⟨(p:Int),fr,fb⟩):=Z (H.ch F id (fun g R h=>h));obtain⟨d0,d1,d2,d3,d4,d5,d6⟩:=u.c7;have c3:=o.mo a.toNat (by omega);go_wp2
  try rw[q]
  have c6:b<w2.heap.size:=Nat.lt_of_lt_of_le H.row.lt f.size;obtain⟨tb,a0⟩:=mn w2.heap.size;have eA:¬b=tb:=by omega
  have eC:¬tb=b:=by omega
  clear c6;rw[<-a0]at u d0 d1 d2 d3 d4 d5 d6⊢;clear q a0 cd ce cf ch ci ck cl c4;obtain⟨fd,D⟩:=nm (fr a.toNat);have I:=Z D;rw[D]at c3;clear D;go_region_held3 (u.c7) (go_keep) ((first|(go_at_call 72;refine(J w3.drew ⟨o.fr.pc,o.fr.ph⟩).mono ?_;rintro e w' ⟨rfl,rfl⟩)|(go_at_call 73;refine(x w3.drew ⟨o.fr.pc,o.fr.ph⟩).mono ?_;rintro e w4 ⟨rfl,y⟩;have bw:=Z y;have L:=Z (Row.ch (w:=w3.drew) u.drew y id);have G:Hid (aJ w4 b d t pre post v ⟨(p:Int),fr,fb⟩):=Z (aJ.ch (w:=w3.drew) o.drew y id (fun g R h=>h));obtain⟨cq,cr,cs,cA,cC,cL,cQ⟩:=L.c7;have O:=G.mo a.toNat (by omega);dsimp only at O;rw[I]at O;clear y)|(go_at_call 71;refine(s w4).mono ?_;rintro e bi ⟨rfl,z⟩;have bx:=Z z;have c2:=Z (Row.ch (w:=w4) L z id);have B:Hid (aJ bi b d t pre post v ⟨(p:Int),fr,fb⟩):=Z (aJ.ch (w:=w4) G z id (fun g R h=>h));obtain⟨cS,cW,dr,dC,dN,ec,en⟩:=c2.c7;have P:=B.mo a.toNat (by omega);dsimp only at P;rw[I]at P;have gf:=B.free (d+1+a.toNat);clear z)))
  all_goals
   obtain⟨bv,A⟩:=nm (bi.setCell (b,d+1+a.toNat) (.int .u64 E));have C:Hid (aJ bv b d t pre post v ⟨(p:Int),fU fr a.toNat E,fb⟩):=Z (by rw[<-A];exact B.qq Y a.toNat (by omega) E);have c0:Hid (Ch (aL b) w bv):=Z (by rw[<-A];exact(((F.drew.trans bw).trans bx).af).only _ _);have cm:=C.kI;have fn:=C.free d;dsimp only at cm;try rw[A]
   clear A;go_wp2
   go_ret2;exact⟨rfl,C.jZ Y _,c0.only _ _⟩
end Go.Proofs.YtfnilkpkogipfaaGreatDoor
