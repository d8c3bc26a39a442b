import Derived.Test.YtfnilkpkogipfaaGreatDoorZAz
set_option linter.all false
set_option maxRecDepth 100000
set_option maxHeartbeats 8000000
namespace Go.Proofs.YtfnilkpkogipfaaGreatDoor
open Go.RowKit Go.Proofs.Tryz
theorem Bc{i j:Type}{f1:i->Int->Int->Int->Int->Option Int×i}{f2:j->Int->Int->Int->Int->Option Int×j}{R:i->j->Prop}
 (c:∀S T kind a g v x,aI a->R S T->(f1 S kind a g v).1=some x->(f2 T kind a g v).1=some x/\R (f1 S kind a g v).2 (f2 T kind a g v).2) (l:List aR) (f:cu) (S:i) (T:j) (h:R S T) (t:∀x,l[f.pc.toNat]?=some x->aI (dt f.r x)) (b:(a' f1 l f S).1=0):
 (a' f2 l f T).1=0/\(a' f2 l f T).2.1=(a' f1 l f S).2.1/\R (a' f1 l f S).2.2 (a' f2 l f T).2.2:=by
 unfold a' at b⊢;split
 ·rename_i e;rw[if_pos e]at b;cases b
 ·rename_i e
  rw[if_neg e]at b;cases q:l[f.pc.toNat]? with
  |none=>rw[q]at b;cases b
  |some x=>
   rw[q]at b;dsimp only at b⊢;split
   ·rename_i k;rw[if_pos k]at b;cases b
   ·rename_i k
    rw[if_neg k]at b;split
    ·rename_i m;rw[if_pos m]at b;exact⟨b,rfl,h⟩
    ·rename_i m
     rw[if_neg m]at b;split
     ·rename_i n
      rw[if_pos n]at b;have key:∀v,(bQ f1 S x f.r).1=some v->(bQ f2 T x f.r).1=some v/\R (bQ f1 S x f.r).2 (bQ f2 T x f.r).2:=by
       intro v;have d:=t x q;unfold bQ;dsimp only;split
       ·exact c _ _ _ _ _ _ v d h
       ·split
        ·intro u
         obtain⟨y,w,rfl⟩:=Option.map_eq_some_iff.1 u;obtain⟨k1,k2⟩:=c _ _ _ _ _ _ y d h w;exact⟨by rw[k1];rfl,k2⟩
        ·split
         ·exact c _ _ _ _ _ _ v d h
         ·split
          ·exact c _ _ _ _ _ _ v d h
          ·exact c _ _ _ _ _ _ v d h
      obtain⟨p1,r⟩:∃p,bQ f1 S x f.r=p:=⟨_,rfl⟩;obtain⟨p2,s⟩:∃p,bQ f2 T x f.r=p:=⟨_,rfl⟩;rw[r,s]at key;rw[r]at b⊢;rw[s];obtain⟨z,B⟩:=p1;obtain⟨A,C⟩:=p2;cases z with
      |none=>cases b
      |some v=>
       obtain⟨k1,k2⟩:=key v rfl;obtain rfl:A=some v:=k1;exact⟨rfl,rfl,k2⟩
     ·rename_i n
      rw[if_neg n]at b;split
      ·rename_i o;rw[if_pos o]at b;exact⟨rfl,rfl,h⟩
      ·rename_i o;rw[if_neg o]at b;cases b
def wx(kind held a v:Int):Option Int:=
 if kind=3 then some (rr 64 held v)else if kind=4 then(if held=gi 64 a then some (gi 64 v)else none)else if kind=1∨kind=2 then some (gi 64 v)else none
theorem rp{S:aA}{a:Int}(c:S.wid a=64)(kind b v:Int):S.acc kind a b v=(some (S.cells.getD a.toNat 0),{S with cells:=match wx kind (S.cells.getD a.toNat 0) b v with|some u=>S.cells.set a.toNat u|none=>S.cells}):=by
 unfold aA.acc wx;rw[c,if_neg (by decide)];dsimp only;split
 ·rfl
 ·split
  ·split<;>rfl
  ·split<;>rfl
structure CR(A:aA)(S:aA×List Ev):Prop where
 wid:A.width=List.replicate 6 64
 len:A.cells.length=6
 w2:∀j:Nat,j<6->S.1.wid (25+(j:Int))=64
 c:∀j:Nat,j<6->S.1.cells.getD (25+j) 0=A.cells.getD j 0
 C2:31<=S.1.cells.length
theorem Bd{l m:List Int}{a:Option Int}{j k:Nat}(b:j<6)(d:l.length=6)(f:31<=m.length)(c:k<6)(h:m.getD (25+k) 0=l.getD k 0):
 (match a with|some u=>m.set (25+j) u|none=>m).getD (25+k) 0=(match a with|some u=>l.set j u|none=>l).getD k 0:=by
 cases a with
 |none=>exact h
 |some u=>
  dsimp only;rw[List.getD_eq_getElem?_getD,List.getD_eq_getElem?_getD]at h⊢;rw[List.getElem?_set,List.getElem?_set];by_cases e:j=k
  ·subst e;rw[if_pos rfl,if_pos rfl,if_pos (by omega),if_pos (by omega)]
  ·rw[if_neg (by omega),if_neg e];exact h
theorem C3{C:KC}{f:KS}{id op:Int}(o:C.cells=6)(hb:eV f=25){A:aA}{S:aA×List Ev}{kind a c v x:Int}(p:aI a)(h:CR A S)(b:(A.acc kind a c v).1=some x):
 (bE C f id op S kind a c v).1=some x/\CR (A.acc kind a c v).2 (bE C f id op S kind a c v).2:=by
 have n:=p.lo;have d:a.toNat<6:=by
  refine Nat.lt_of_not_le fun r=> ?_
  have s:A.wid a=0:=by
   unfold aA.wid;rw[h.wid,List.getD_eq_getElem?_getD,List.getElem?_eq_none (by rw[List.length_replicate];exact r)];rfl
  unfold aA.acc at b;rw[if_pos s]at b;cases b
 obtain⟨j,rfl⟩:=Int.eq_ofNat_of_zero_le n;rw[Int.toNat_natCast]at d;have w:A.wid (j:Int)=64:=by
  unfold aA.wid;rw[h.wid,Int.toNat_natCast,List.getD_eq_getElem?_getD,List.getElem?_replicate,if_pos d];rfl
 have l:IntKind.u64.wrap 6=6:=by decide
 have i:IntKind.u64.wrap 25=25:=by decide
 have ec:IntKind.u64.wrap (25+(j:Int))=25+(j:Int):=IntWalk.u64_in _ (by omega);have m:(25+(j:Int)).toNat=25+j:=by omega
 rw[rp w]at b⊢;dsimp only at b;rw[Int.toNat_natCast]at b⊢;have y:A.cells.getD j 0=x:=Option.some.inj b;have g:=h.w2 j d;have q:=h.c j d;unfold bE;rw[o,hb,l,i,ec,if_neg (by omega)];dsimp only;rw[rp g,m,q];dsimp only;have t:∀(cs:List Int),({S.1 with cells:=cs}:aA).wid (25+(j:Int))=64:=fun _=>g
 rw[rp (t _)];dsimp only;refine⟨by rw[y],⟨h.wid,?_,fun k e=>h.w2 k e,fun k e=> ?_,?_⟩⟩
 ·show(match wx kind (A.cells.getD j 0) c v with|some u=>A.cells.set j u|none=>A.cells).length=6
  split
  ·rw[List.length_set];exact h.len
  ·exact h.len
 ·exact Bd d h.len h.C2 e (h.c k e)
 ·show 31<=(match wx kind (A.cells.getD j 0) c v with|some u=>S.1.cells.set (25+j) u|none=>S.1.cells).length
  split
  ·rw[List.length_set];exact h.C2
  ·exact h.C2
structure gR(f:cu)(A:aA)(n:Int)(K:KS):Prop where
 wk:∃x,K.wk=[x]/\x.slot=64/\x.left=n
 ai:∃t num,aw K.ai 64=some t/\t.l=[⟨f,false,num⟩]
 cr:CR A (K.mem,K.out)
 out:K.out=[]
theorem vk{C:KC}{K:KS}{f:cu}{A:aA}{t:Thread}{num:Int}{x:ay}(n:C.cells=6)(u:K.wk=[x])(q:aw K.ai 64=some t)(e:t.l=[⟨f,false,num⟩])(j:CR A (K.mem,K.out))
 (p:∀k,k<32->aI (f.r k)) (s:∀x∈C.a8,aI x.v) (g:(a' aA.acc C.a8 f A).1=0):
 ∃m b,bV C K 0 64 0={K with mem:=m,out:=b,ai:=b8 K.ai 64 {t with l:=[⟨(a' aA.acc C.a8 f A).2.1,false,num⟩]}}/\CR (a' aA.acc C.a8 f A).2.2 (m,b):=by
 have d:K.T 64=t:=by unfold KS.T;rw[q];rfl
 have hF:K.F (.ai 64 0)=f:=by show((K.T 64).l.getD 0 default).f=f;rw[d,e];rfl
 have hb:eV K=25:=by unfold eV;rw[u];rfl
 have w:∀y,C.a8[f.pc.toNat]?=some y->aI (dt f.r y):=fun y z=>jI p y (s y (List.mem_of_getElem? z))
 obtain⟨c,B,D⟩:=Bc (f2:=bE C K 64 (ff C.a8 f.pc).op) (R:=CR) (fun S T kind a E v y r h o=>C3 n hb r h o) C.a8 f A (K.mem,K.out) j w g;refine⟨_,_,?_,D⟩;unfold bV;dsimp only;rw[hF,if_neg (by rw[c];decide),if_neg (by rw[c];decide),if_neg (by rw[c];decide),B];unfold KS.cJ KS.cn;dsimp only;have i:∀m b,KS.T {K with mem:=m,out:=b} 64=t:=fun _ _=>d
 rw[i,e];rfl
theorem Be{C:KC}{K:KS}{f:cu}{A:aA}{n:Int}(v:C.cells=6)(h:gR f A n K)(F:1<=n)(B:∀k,k<32->aI (f.r k))(E:∀x∈C.a8,aI x.v)(q:(a' aA.acc C.a8 f A).1=0):
 gR (a' aA.acc C.a8 f A).2.1 (a' aA.acc C.a8 f A).2.2 (n-1) (fk C K 1 0 0).2:=by
 obtain⟨⟨x,i,l,z⟩,⟨t,num,o,g⟩,u,G⟩:=h;obtain⟨K1,a⟩:=nm (({K with at_:=K.entries,w:=0,draw:=0,entries:=wrap64 (K.entries+1)}:KS));obtain⟨d,c⟩:=nm (({K1 with wk:=[{x with left:=n-1}]}:KS));obtain⟨m,H,p,b⟩:=vk (C:=C) (K:=d) (x:={x with left:=n-1}) v (by rw[<-c]) (by rw[<-c,<-a];exact o) g (by rw[<-c,<-a];exact u) B E q;have y:(fk C K 1 0 0).2={bV C d 0 64 0 with out:=[]}:=by
  unfold fk;dsimp only;rw[if_neg (by decide),if_pos rfl,if_pos ⟨by decide,by show(0:Int)<(K.wk.length:Int);rw[i];simp⟩,a];have s:K1.W 0=x:=by rw[<-a];show K.wk.getD 0 default=x;rw[i];rfl
  have j:K1.T 64=t:=by rw[<-a];show(aw K.ai 64).getD default=t;rw[o];rfl
  have r:eY C K1 (0:Int).toNat=bV C d 0 64 0:=by
   show eY C K1 0=_
   unfold eY;rw[s,l,if_neg (by decide)];dsimp only;have D:K1.top 64=0:=(by unfold KS.top;rw[j,g];rfl);rw[D,j,g];rw[if_neg (fun e=>by have:=e.2;omega),if_neg (by show¬(false=true);decide)]
   congr 1
   unfold KS.be;rw[<-c,z,Int.max_eq_left (by omega)]
   congr 1
   rw[<-a];show K.wk.set 0 _=_
   rw[i];rfl
  rw[r]
 rw[y,p];refine⟨⟨{x with left:=n-1},by rw[<-c],l,rfl⟩,⟨_,num,by show aw (b8 _ _ _) _=_;rw[aV,if_pos rfl],rfl⟩,⟨b.wid,b.len,b.w2,b.c,b.C2⟩,rfl⟩
def hQ(p:List aR):KC:=tn ga.1 0 [⟨6,3,0,0,0,0⟩] p 0 6 0
def pe(p:List aR):KS:=(fk (hQ p) (fk (hQ p) (fH (hQ p) 1 60) 1 0 0).2 1 0 0).2
def Bf:cu:=⟨0,fun j=>if j=0 then 0 else 0,[]⟩
def vl:aA:=((aA.new 6).map 0 6 64).2
theorem E2(p:List aR):((pe p).wk.map fun x=>(x.slot,x.left))=[(64,24)]:=by kernel_rfl
theorem C4(p:List aR):((aw (pe p).ai 64).map fun t=>t.l.map fun f=>(f.f,f.b7))=some [(Bf,false)]:=by kernel_rfl
theorem C5(p:List aR):(pe p).out=[]:=by kernel_rfl
theorem E3(p:List aR):((List.range 6).map fun j:Nat=>(pe p).mem.wid (25+(j:Int)))=List.replicate 6 64:=by kernel_rfl
theorem Gb(p:List aR):((List.range 6).map fun j:Nat=>(pe p).mem.cells.getD (25+j) 0)=List.replicate 6 0:=by kernel_rfl
theorem C6(p:List aR):(pe p).mem.cells.length=60:=by kernel_rfl
theorem E4:vl.width=List.replicate 6 64:=by kernel_rfl
theorem E5:vl.cells.length=6:=by kernel_rfl
theorem E6:((List.range 6).map fun j:Nat=>vl.cells.getD j 0)=List.replicate 6 0:=by kernel_rfl
theorem C7:((aA.new 6).map 0 6 64).1=true:=by kernel_rfl
theorem at_range{α:Type}{f:Nat->α}{n:Nat}{y:α}(h:(List.range n).map f=List.replicate n y)(j:Nat)(a:j<n):f j=y:=by
 have e:=congrArg (fun l=>l[j]?) h;rw[List.getElem?_map,List.getElem?_range a,List.getElem?_replicate,if_pos a]at e;exact Option.some.inj e
theorem yM(p:List aR):gR Bf vl 24 (pe p):=by
 have c:=E2 p;have a:=C4 p;obtain⟨K,q⟩:=nm (pe p);have i:=at_range (E3 p);have k:=at_range (Gb p);have s:=at_range E6;have m:=C5 p;have o:=C6 p;rw[q]at c a i k m o⊢;clear q;refine⟨?_,?_,⟨E4,E5,i,fun j r=>(k j r).trans (s j r).symm,by rw[o];decide⟩,m⟩
 ·cases h:K.wk with
  |nil=>rw[h]at c;cases c
  |cons x l=>
   rw[h]at c;cases l with
   |nil=>injection c with c _;obtain⟨d,e⟩:=Prod.mk.inj c;exact⟨x,rfl,d,e⟩
   |cons y l=>injection c with _ c;cases c
 ·cases h:aw K.ai 64 with
  |none=>rw[h]at a;cases a
  |some t=>
   rw[h]at a;have a:t.l.map (fun f=>(f.f,f.b7))=[(Bf,false)]:=Option.some.inj a;cases g:t.l with
   |nil=>rw[g]at a;cases a
   |cons f l=>
    rw[g]at a;cases l with
    |nil=>injection a with a _;obtain⟨d,e⟩:=Prod.mk.inj a;obtain⟨f,b,n⟩:=f;exact⟨t,n,rfl,by rw[g];dsimp only at d e;rw[d,e]⟩
    |cons y l=>injection a with _ a;cases a
theorem vm(p:List aR):Inv 1 0 (fH (hQ p) 1 60):=oM (hQ p) 1 60 (by decide) (by decide) (by decide) (by show 17+8*1+(6:Int).toNat+(0:Int).toNat<=60;decide)
theorem vn(p:List aR)(a:dB p 0 6 0=true)(b:∀x∈p,aI x.v):mU (hQ p):=ra oP a (by decide) (jS (by kernel_rfl)) b
theorem C8(p:List aR)(a:dB p 0 6 0=true)(b:∀x∈p,aI x.v):Inv 3 0 (pe p):=jl (vn p a b) (jl (vn p a b) (vm p) (by decide) 1 0 0 bm) (by decide) 1 0 0 bm
theorem Bg:(prog.info? 3).map (fun i=>(i.zero,i.size,i.bytes))=some (some (.int .i64 0),1,8):=by kernel_rfl
def C9(f:Frame):Int:=if f.b7 then wrap64 (-1-f.f.pc)else f.f.pc
structure wy(l:List Int)(w:World)(e:Ending)(w':World):Prop where
 ret:∃v,e=.returned v/\w'.ownsRow w.heap.size 3 1 v l.length (l.map (Value.int .i64))
 ch:Ch ag w w'
theorem tM{w:World}{χ:Nat->aX}{L:cz}{Y:Var}{C:KC}{K:KS}(h:ae w χ L Y C K){id:Int}{t:Thread}(l:aw K.ai id=some t)(P:0<t.l.length/\t.l.length<=1000):
 Calls prog 29 #[(L.mb,0),.int .u64 id] w (wy (t.l.map C9) w):=by
 obtain⟨U,N,R,S,T⟩:=info_parts Bg;have G:=Z N;have av:=h.hZ;have x:=h.look id;rw[l]at x;dsimp only[Option.map_some,Option.getD_some,bj]at x;have D:=h.Dp l;have H:=Z h;have I:=Z l;obtain⟨ap,J⟩:∃b,Y.bH id=b:=⟨_,rfl⟩;rw[J]at x D;have d:=h.hL l P.1;obtain⟨g,cap,O,a2,u⟩:=d;rw[O]at D;obtain⟨n,z⟩:=nm t.l.length;rw[z]at D P u;have o:=Z z;have E:=Z u;clear h l N J O a2 u z;go_wp2
 go_loopw [6,22] (fun ab B wr=>∃k:Nat,k<=n/\B=.int .i64 k/\Ch ag w wr/\wr.ownsRow w.heap.size 3 1 ab k (((t.l.take k).map C9).map (Value.int .i64))) (fun _ B _=>n-(intOf B).toNat)
 case atStart=>exact⟨0,by omega,rfl,Ch.refl _ _,⟨by simp,Or.inl ⟨rfl,rfl⟩⟩⟩
 case round=>
  obtain⟨k,bi,rfl,c,A⟩:=hrel;have a:=Z (And.intro c A);obtain⟨am,ax,rfl⟩:=ao A;clear A;by_cases v:k<n
  ·obtain⟨f,d⟩:∃f,t.l[k]?=some f:=⟨_,List.getElem?_eq_getElem (by rw[o];exact v)⟩
   have F:Hid (t.l[k]?.toList=[f]):=Z (by rw[d];rfl);have al:=(c.cell (aP (E k v)) (fun h=>h)).trans (E k v);have q:=(H.fr id t k f I d (by simp)).is.kI;have r:=H.r7 I d;have V:=(c.cell (aP q) (fun h=>h)).trans q;have W:=(c.cell (aP r) (fun h=>h)).trans r;obtain⟨fb,M⟩:∃b,Y.fb id k=b:=⟨_,rfl⟩;rw[M]at al V W;have bv:(k:Int)<n:=(by omega);have Q:=a.1.size;clear q r d M c;obtain⟨⟨pc,fr,fbk⟩,a3,num⟩:=f;dsimp only at V W;cases a3 with
   |true=>
    go_wp2_with (at_builtin;refine wpList_append_lies _ rfl _ _ _ rfl w.heap.size 3 U _ 1 8 underlying79 G R S T rfl (by omega) _ k (((t.l.take k).map C9).map (Value.int .i64)) rfl (a.2.alloc _) ⟨wr.heap.size,0,none⟩ 1 1 [.int .i64 (wrap64 (-1-pc))] rfl rfl (World.news_of_block (cs:=#[.int .i64 (wrap64 (-1-pc))]) (t:=3) (fr:=(0,0)) (heap_alloc_new wr _)) (by simp[Value.oneCell']) (by omega) (by unfold maxLen;omega) (by omega) (by simp;omega) (wr.heap.size+1) (by simp) ?_)
    intro a0 X ad j i s y;have p:=Z j;have m:=Z (gq a.1 a.2 (Nat.le_refl _) (au i));clear i j s y Q;go_wp2
    go_roundw
    case rel=>
     refine⟨k+1,by omega,by go_num,m,?_⟩;rw[List.take_succ,F,List.map_append,List.map_append];have e:=p.out;simp only[List.map_take,List.map_map]at e⊢;exact e
    case measure=>simp[intOf];omega
   |false=>
    go_wp2_with (at_builtin;refine wpList_append_lies _ rfl _ _ _ rfl w.heap.size 3 U _ 1 8 underlying79 G R S T rfl (by omega) _ k (((t.l.take k).map C9).map (Value.int .i64)) rfl (a.2.alloc _) ⟨wr.heap.size,0,none⟩ 1 1 [.int .i64 (pc)] rfl rfl (World.news_of_block (cs:=#[.int .i64 (pc)]) (t:=3) (fr:=(0,0)) (heap_alloc_new wr _)) (by simp[Value.oneCell']) (by omega) (by unfold maxLen;omega) (by omega) (by simp;omega) (wr.heap.size+1) (by simp) ?_)
    intro a0 X ad j i s y;have p:=Z j;have m:=Z (gq a.1 a.2 (Nat.le_refl _) (au i));clear i j s y Q;go_wp2
    go_roundw
    case rel=>
     refine⟨k+1,by omega,by go_num,m,?_⟩;rw[List.take_succ,F,List.map_append,List.map_append];have e:=p.out;simp only[List.map_take,List.map_map]at e⊢;exact e
    case measure=>simp[intOf];omega
  ·obtain rfl:k=n:=by omega
   clear c;go_wp2
   go_ret;refine⟨⟨_,rfl,?_⟩,a.1⟩;have a1:=a.2;rw[List.take_of_length_le (by rw[o];omega)]at a1
   rwa [List.length_map,o]
section
structure CL(p:List aR)(w:World)(mb fb mm mc md N:Nat)(χ:Nat->aX)(K:KS)(f:cu)(A:aA)(v:Value)(wr:World):Prop where
 ms:MS wr χ mb (hQ p) K
 inv:Inv N 0 K
 fr:aJ wr fb 0 81 [] [] v f
 mem:aM wr mm mc md A
 k:χ fb=.no/\χ mm=.no/\χ mc=.no/\χ md=.no
 kv:∀g,v.ownBlock=some g->χ g=.no/\w.heap.size<=g
 b:w.heap.size<=fb/\w.heap.size<=mm/\w.heap.size<=mc/\w.heap.size<=md
 jV:∀i,χ i≠ .no->w.heap.size<=i
 ch:Ch ag w wr
section
variable{p:List aR}{w wr wq:World}{mb fb mm mc md N:Nat}{χ:Nat->aX}{K:KS}{f:cu}{A:aA}{v:Value}{n:Int}
theorem CL.af(h:CL p w mb fb mm mc md N χ K f A v wr)(c:Ch ag wr wq):CL p w mb fb mm mc md N χ K f A v wq:=
 ⟨h.ms.af c,h.inv,h.fr.ch c id (fun _ _ e=>e),h.mem.ch c id id id,h.k,h.kv,h.b,h.jV,h.ch.trans c⟩
theorem CL.ne(h:CL p w mb fb mm mc md N χ K f A v wr):fb≠mm/\fb≠mc/\fb≠md:=⟨h.fr.row.ne h.mem.head (by decide),h.fr.row.ne h.mem.cells (by decide),h.fr.row.ne h.mem.width (by decide)⟩
theorem wz(c:Inv N 0 K)(h:gR f A n K):fi f:=by
 obtain⟨t,num,a,b⟩:=h.ai;have:=(c.core.ai 64 t a).1.l.lS ⟨f,false,num⟩ (by rw[b];simp);exact this
theorem wA{S:aA}{a:Int}(b:S.wid a=64):S.acc 0 a 0 0=(some (S.cells.getD a.toNat 0),S):=by
 rw[rp b];rfl
theorem CL.step(h:CL p w mb fb mm mc md N χ K f A v wr)(X:gR f A n K){H:Value}(V:gQ w w.heap.size H 7 b3 p)(W:p.length<=100000)(Y:∀x∈p,aI x.v):
 Calls prog 28 #[(fb,0),H,.iface 73 (.pointer (some (mm,0)))] wr
  (wQ (a' aA.acc p f A).1 (fun w'=>∃s,CL p w mb fb mm mc md N χ K (a' aA.acc p f A).2.1 (a' aA.acc p f A).2.2 s w')):=by
 obtain⟨O,c,rfl,R,D⟩:=V;have ok:=wz h.inv X;obtain⟨I,J,a0⟩:=h.ne;have z:=h.ch.size;refine(nD (rH mm mc md) A (Z trivial) fb 0 81 (by decide) [] [] v f p O p.length c rfl R W ok.back ok.r Y wr h.fr (fun P=> ?_) h.mem ?_ ?_ ?_ ?_).mono ?_
 ·obtain⟨x,r⟩:∃x,p[0]?=some x:=⟨_,List.getElem?_eq_getElem P⟩
  obtain⟨g,L,e,_,_⟩:=D 0 x r;refine⟨g,L,e,fun j u F=> ?_⟩;have hlen:(b2 p).length=7*p.length:=iY p;have a1:j<7*p.length:=by rw[<-hlen];exact(List.getElem?_eq_some_iff.1 F).1
  have U:j/7<p.length:=by omega
  obtain⟨y,G⟩:∃y,p[j/7]?=some y:=⟨_,List.getElem?_eq_getElem U⟩;obtain⟨t,M,a,T,b⟩:=D _ y G;obtain⟨rfl,rfl⟩:t=g/\M=L:=by rw[e]at a;injection a with a;injection a with a l;exact⟨a.symm,l.symm⟩
  have l:j/7*7+j%7=j:=by omega
  have d:=bD (enc:=b3) (k:=7) (fun _=>rfl) G (j:=j%7) (by omega);rw[l]at d;have m:=b (j%7) u (d.symm.trans F);rw[Nat.add_assoc,l]at m;exact(h.ch.cell (p:=⟨t,M+j,none⟩) T id).trans m
 ·intro S w1 w2 a2 f1 a3 f2 b d _ _ c
  exact aM.ch b c (fun e=>I (Eq.symm e)) (fun e=>J (Eq.symm e)) (fun e=>a0 (Eq.symm e))
 ·rintro(e|e)
  ·exact I e
  ·exact J e
 ·rintro i E (e|e)
  ·have:=h.mem.head.lt;omega
  ·have:=h.mem.cells.lt;omega
 ·rintro g o (e|e)
  ·exact aU h.fr.back h.mem.head (by decide) (o.trans (congrArg some e))
  ·exact aU h.fr.back h.mem.cells (by decide) (o.trans (congrArg some e))
 ·rintro e w' ⟨b,⟨s,d,Q⟩,m,B⟩
  refine⟨b,s,⟨h.ms.jV B (fun i E q=> ?_),h.inv,d,m,h.k,fun g o=> ?_,h.b,h.jV,h.ch.fresh B (fun i E q=> ?_)⟩⟩
  ·rcases q with rfl|rfl|rfl
   ·exact h.k.1
   ·exact h.k.2.1
   ·exact h.k.2.2.1
  ·rcases Q g o with C|C
   ·exact h.kv g C
   ·refine⟨?_,by omega⟩
    cases r:χ g with
    |no=>rfl
    |_=>have:=h.ms.small g (by rw[r];simp);omega
  ·have:=h.b
   rcases q with rfl|rfl|rfl<;>omega
theorem CL.uZ(h:CL p w mb fb mm mc md N χ K f A v wr)(o:mU (hQ p))(q:N<=300000):
 Calls prog 18 #[(mb,0),.agg #[.int .i64 1,.int .i64 0,.int .u64 0]] wr (fun e w'=>∃a k c aY,e=.returned (.slice a k c)/\CL p w mb fb mm mc md (N+1) aY (fk (hQ p) K 1 0 0).2 f A v w'):=by
 refine(tq o h.inv q 1 0 0 bm h.ms).mono ?_;rintro e w' ⟨u,aY,rfl,t,_,s,d⟩;obtain⟨a,c,rfl⟩:=ao t;have j:∀{i},χ i=.no->i<wr.heap.size->aY i=.no:=fun m r=>(d.same _ r).trans m
 have l:∀{i},χ i=.no->¬χ i≠ .no:=fun m e=>e m
 refine⟨a,_,c,aY,rfl,⟨s,jl o h.inv (by omega) 1 0 0 bm,h.fr.ch d.ch (l h.k.1) (fun g b=>l (h.kv g b).1),h.mem.ch d.ch (l h.k.2.1) (l h.k.2.2.1) (l h.k.2.2.2),⟨j h.k.1 h.fr.row.lt,j h.k.2.1 h.mem.head.lt,j h.k.2.2.1 h.mem.cells.lt,j h.k.2.2.2 h.mem.width.lt⟩,
  fun g b=>⟨j (h.kv g b).1 (h.fr.back.lt g b).2,(h.kv g b).2⟩,h.b,lp h.jV d h.ch.size,gE h.jV d h.ch⟩⟩
theorem CL.hL(h:CL p w mb fb mm mc md N χ K f A v wr){f2:cu}{b:aA}(e:gR f2 b n K):Calls prog 29 #[(mb,0),.int .u64 64] wr (wy [f2.pc] wr):=by
 obtain⟨L,Y,rfl,d,_⟩:=h.ms;obtain⟨t,num,c,a⟩:=e.ai;have:=tM d c (by rw[a];simp);rw[a]at this;exact this
theorem CL.load(h:CL p w mb fb mm mc md N χ K f A v wr)(o:gR f A n K)(j:Nat)(m:j<6):
 Calls prog 30 #[(mm,0),.int .u64 j] wr (fun e w'=>e=.returned (.tuple #[.int .u64 (A.cells.getD j 0),.nilIface])/\CL p w mb fb mm mc md N χ K f A v w'):=by
 have q:A.wid (j:Int)=64:=by
  unfold aA.wid;rw[o.cr.wid,Int.toNat_natCast,List.getD_eq_getElem?_getD,List.getElem?_replicate,if_pos m];rfl
 have H:=ht mm mc md A j ⟨by omega,by omega⟩ wr h.mem;rw[wA q,Int.toNat_natCast]at H;refine H.mono ?_;rintro e w' ⟨d,k,a⟩;refine⟨d,h.ms.jV a (fun i l b=> ?_),h.inv,h.fr.ch a (fun e=> ?_) (fun g c e=> ?_),k,h.k,h.kv,h.b,h.jV,h.ch.fresh a (fun i l b=> ?_)⟩
 ·rcases b with rfl|rfl
  ·exact h.k.2.1
  ·exact h.k.2.2.1
 ·rcases e with e|e
  ·exact h.ne.1 e
  ·exact h.ne.2.1 e
 ·rcases e with e|e
  ·exact aU h.fr.back h.mem.head (by decide) (c.trans (congrArg some e))
  ·exact aU h.fr.back h.mem.cells (by decide) (c.trans (congrArg some e))
 ·have:=h.b
  rcases b with rfl|rfl<;>omega
theorem CL.base(h:CL p w mb fb mm mc md N χ K f A v wr)(c:gR f A n K):Calls prog 32 #[(mb,0)] wr (eg (.int .i64 25) wr):=by
 obtain⟨L,Y,rfl,b,_⟩:=h.ms;have:=jN b;obtain⟨x,a,_,_⟩:=c.wk;rw[show eV K=25 by unfold eV;rw[a];rfl]at this;exact this
end
theorem C'{w:World}{χ:Nat->aX}{L:cz}{Y:Var}{C:KC}{K:KS}(a x:Int)(S:aA)(k:aI a)(j:K.mem.acc 0 a 0 0=(some x,S))(h:ae w χ L Y C K):
 Calls prog 31 #[(L.mb,0),.int .u64 a] w (fun e w'=>e=.returned (.tuple #[.int .u64 x,.bool true])/\ae w' χ L Y C {K with mem:=S}/\Nx χ χ w w'):=by
 have c:=h.cP;have d:=Z (ht L.m L.c L.d K.mem a k w (h.mem (by simp)).is);rw[j]at d;have H:=Z h;clear h j;go_in
 go_wp2_with (refine d.mono ?_;rintro e w1 ⟨rfl,g,i⟩;have b:=Z (H.nM g i fun _ l=>fW l);clear g i)
 go_quiet (fail)
 go_wp2
 go_ret2;exact⟨rfl,b.at_.af ((Ch.refl _ _).drewN _),b.nx.trans (Nx.af ((Ch.refl _ _).drewN _))⟩
section
variable{p:List aR}{w wr wq:World}{mb fb mm mc md N:Nat}{χ:Nat->aX}{K:KS}{f:cu}{A:aA}{v:Value}{n:Int}
theorem CL.cell(h:CL p w mb fb mm mc md N χ K f A v wr)(k:gR f A n K)(j:Nat)(d:j<6):
 Calls prog 31 #[(mb,0),.int .u64 (25+(j:Int))] wr (fun e w'=>e=.returned (.tuple #[.int .u64 (A.cells.getD j 0),.bool true])/\CL p w mb fb mm mc md N χ K f A v w'):=by
 obtain⟨L,Y,rfl,t,o⟩:=h.ms;have b:=wA (k.cr.w2 j d);have q:K.mem.cells.getD (25+j) 0=A.cells.getD j 0:=k.cr.c j d;rw[show(25+(j:Int)).toNat=25+j by omega]at b;dsimp only at b;rw[q]at b;refine(C' (25+(j:Int)) _ _ ⟨by omega,by omega⟩ b t).mono ?_;rintro e w' ⟨l,m,c⟩;have a:∀{i},χ i=.no->¬χ i≠ .no:=fun s e=>e s
 exact⟨l,⟨L,Y,rfl,m,o⟩,h.inv,h.fr.ch c.ch (a h.k.1) (fun g r=>a (h.kv g r).1),h.mem.ch c.ch (a h.k.2.1) (a h.k.2.2.1) (a h.k.2.2.2),h.k,h.kv,h.b,h.jV,gE h.jV c h.ch⟩
end
end
theorem Bh(a:World):(Builtin.append_ #[30,30] 30 #[.slice none 0 0,.slice none 0 0]).run prog a=.ok (.slice none 0 0) a:=by kernel_rfl
theorem Bi(l:List aR)(v:Value)(J:l.length*56<=140737488351232)(w:World)(h:gQ w w.heap.size v 7 b3 l)(d:∀c,v=.slice none l.length c->c=0):
 Calls prog 23 #[v] w (fun e w'=>∃m,e=.returned m/\w'.ownsRow w.heap.size 121 7 m l.length (l.flatMap b3)/\Ch ag w w'):=by
 obtain⟨a,c,rfl,r,b⟩:=h;cases a with
 |none=>
  have K:l=[]:=by
   cases l with
   |nil=>rfl
   |cons x l=>obtain⟨g,f,e,_⟩:=b 0 x rfl;cases e
  subst K;obtain rfl:c=0:=d c rfl;have S:=Bh;clear b d r;go_wp2
  go_ret;exact⟨_,rfl,World.ownsRow_nil _ _ _ _,Ch.refl _ _⟩
 |some a=>
  have hlen:(l.flatMap b3).length=l.length*7:=a4 (enc:=b3) (k:=7) (fun _=>rfl) l;have L:∀u∈l.flatMap b3,u.oneCell'=true:=jw l;have B:Hid (∀j u,(l.flatMap b3)[j]?=some u->w.cell? (a.add j)=some u):=Z (fun j u y=>by
   have R:j<l.length*7:=(by rw[<-hlen];exact(List.getElem?_eq_some_iff.1 y).1);have I:j/7<l.length:=(by omega);obtain⟨x,A⟩:∃x,l[j/7]?=some x:=⟨_,List.getElem?_eq_getElem I⟩;obtain⟨g,f,e,_,F⟩:=b _ x A;injection e with e
   subst e;have n:j/7*7+j%7=j:=(by omega);have o:=bD (enc:=b3) (k:=7) (fun _=>rfl) A (j:=j%7) (by omega);rw[n,y]at o;have p:=F _ _ o.symm;rw[Nat.add_assoc,n]at p;have G:(⟨g,f,none⟩:Addr).add j=⟨g,f+j,none⟩:=(by unfold Addr.add;split<;>simp_all);rw[G];exact p)
  obtain⟨Q,t,M,O,P⟩:=info_parts oI;have D:=Z t;clear b d t;obtain⟨N,q⟩:=nm l.length;rw[q]at J r hlen⊢;clear q;go_in
  go_wp2_with (at_builtin;refine wpList_append_own _ rfl _ _ _ rfl w.heap.size 121 Q _ 7 56 underlying30 D M O P rfl (by omega) (.slice none 0 0) 0 [] rfl (World.ownsRow_nil _ _ _ _) a N c (l.flatMap b3) rfl (by rw[hlen]) B L (by unfold maxLen;omega) (by omega) (Nat.le_refl _) ?_;intro m w' z s _;have E:=Z z;have C:=Z s;clear z s)
  go_wp2
  go_ret;exact⟨_,rfl,by simpa using E.out,(Ch.bM C).mono (fun i H=>by cases H)⟩
def Da(p:List aR)(w:World)(e:Ending)(w':World):Prop:=
 ∃pv a,e=.returned (.tuple #[.pointer pv,a])/\Ch ag w w'/\((pv=none/\∃t x,a=.iface t x)∨(dB p 0 6 0=true/\∃mb χ,pv=some ⟨mb,0,none⟩/\a=.nilIface/\MS w' χ mb (hQ p) (fH (hQ p) 1 60)/\∀i,χ i≠ .no->w.heap.size<=i))
theorem Db(p:List aR)(i k l:Value){B1 B2 B3:Nat}(w:World)
 (o:w.ownsRow B1 121 7 i ga.1.length (ga.1.flatMap b3)) (s:w.ownsRow B2 49 6 k 1 [.int .i64 6,.int .i64 3,.int .i64 0,.int .i64 0,.int .i64 0,.int .i64 0]) (d:w.ownsRow B3 121 7 l p.length (p.flatMap b3))
 (t:w.cell? (0,0)=some (.iface 335 (.agg #[(1,40)]))):
 Calls prog 11 #[.agg #[.int .i64 1,.int .i64 60],.agg #[i,.int .i64 0,k],.agg #[l,.int .i64 0,.int .i64 6,.int .i64 0]] w (Da p w):=by
 by_cases f:dB p 0 6 0=true
 ·refine(uW 1 60 (by decide) (by decide) ga.1 0 [⟨6,3,0,0,0,0⟩] p 0 6 0 (by decide) (by decide) oP f (by decide) i k l w o s d t).mono ?_
  rintro e w' ⟨mb,χ,rfl,A,z,x⟩;exact⟨_,_,rfl,x,Or.inr ⟨f,mb,χ,rfl,rfl,A,z⟩⟩
 ·obtain⟨m,a1,G,rfl,_,C,_,D,_⟩:=aF o (ik oP).1
  obtain⟨n,a2,B,rfl,_,H,_,E,_⟩:=aF s (by decide);obtain⟨a3,b,rfl⟩:=ao d;have u:p≠[]->p.length<=b/\∃g,a3=some ⟨g,0,none⟩/\fo w g p:=fun a=>by
   obtain⟨g,c,j,e,_,q,_,r,_⟩:=aF d (List.length_pos_iff.2 a);injection e with v _ F
   exact⟨by omega,g,v,gF r⟩
  have hle:p.length<=b:=by
   by_cases a:p=[]
   ·rw[a];exact Nat.zero_le _
   ·exact(u a).1
  refine(oH 1 60 ga.1 (some ⟨m,0,none⟩) a1 0 [⟨6,3,0,0,0,0⟩] (some ⟨n,0,none⟩) a2 p a3 b 0 6 0 C hle (by decide) w (fun _=>⟨m,rfl,gF D⟩) (fun h=>(u h).2) (fun _=>⟨n,B,rfl,E⟩) (fun h=>f h.2.2.2.2.2) t).mono ?_;rintro e w' ⟨⟨J,rfl,I,K,rfl⟩,y⟩;exact⟨_,_,rfl,y,Or.inl ⟨rfl,_,_,rfl⟩⟩
theorem Da.back{p:List aR}{w w1:World}{e:Ending}{w':World}(c:Ch ag w w1)(h:Da p w1 e w'):Da p w e w':=by
 obtain⟨pv,a,b,d,f⟩:=h;exact⟨pv,a,b,c.trans d,f.imp_right fun⟨k,mb,χ,k1,k2,k3,j⟩=>⟨k,mb,χ,k1,k2,k3,fun i g=>Nat.le_trans c.size (j i g)⟩⟩
structure CM(p:List aR)(w:World)(mb mm mc md:Nat)(A:aA)(χ:Nat->aX)(K:KS)(wr:World):Prop where
 ms:MS wr χ mb (hQ p) K
 mem:aM wr mm mc md A
 k:χ mm=.no/\χ mc=.no/\χ md=.no
 b:w.heap.size<=mm/\w.heap.size<=mc/\w.heap.size<=md
 jV:∀i,χ i≠ .no->w.heap.size<=i
 ch:Ch ag w wr
theorem MS.no{w:World}{χ:Nat->aX}{mb:Nat}{C:KC}{K:KS}(h:MS w χ mb C K){i:Nat}(b:w.heap.size<=i):χ i=.no:=by
 cases a:χ i with
 |no=>rfl
 |_=>have:=h.small i (by rw[a];simp);omega
theorem CM.uZ{p:List aR}{w wr:World}{mb mm mc md N:Nat}{A:aA}{χ:Nat->aX}{K:KS}(h:CM p w mb mm mc md A χ K wr)(j:mU (hQ p))(l:Inv N 0 K)(m:N<=300000):
 Calls prog 18 #[(mb,0),.agg #[.int .i64 1,.int .i64 0,.int .u64 0]] wr (fun e w'=>∃a k c aY,e=.returned (.slice a k c)/\CM p w mb mm mc md A aY (fk (hQ p) K 1 0 0).2 w'):=by
 refine(tq j l m 1 0 0 bm h.ms).mono ?_;rintro e w' ⟨u,aY,rfl,q,_,o,b⟩;obtain⟨a,c,rfl⟩:=ao q;have f:∀{i},χ i=.no->i<wr.heap.size->aY i=.no:=fun d n=>(b.same _ n).trans d
 have g:∀{i},χ i=.no->¬χ i≠ .no:=fun d e=>e d
 exact⟨a,_,c,aY,rfl,⟨o,h.mem.ch b.ch (g h.k.1) (g h.k.2.1) (g h.k.2.2),⟨f h.k.1 h.mem.head.lt,f h.k.2.1 h.mem.cells.lt,f h.k.2.2 h.mem.width.lt⟩,h.b,lp h.jV b h.ch.size,gE h.jV b h.ch⟩⟩
theorem CM.frame{p:List aR}{w wr:World}{mb mm mc md N:Nat}{A:aA}{χ:Nat->aX}{K:KS}(h:CM p w mb mm mc md A χ K wr)(a:Inv N 0 K){cs:Array Value}(b:cs.toList=Bf.cells (.slice none 0 0)):
 CL p w mb wr.heap.size mm mc md N χ K Bf A (.slice none 0 0) (wr.alloc (.cells cs 81)):=
 ⟨h.ms.af ((Ch.refl _ _).alloc _),a,⟨by have:=Row.new wr cs 81;rw[b]at this;rw[List.append_nil,List.nil_append];exact this,rfl,ct.nil _⟩,h.mem.alloc _,⟨h.ms.no (Nat.le_refl _),h.k⟩,fun g c=>(by cases c),⟨h.ch.size,h.b⟩,h.jV,h.ch.trans ((Ch.refl _ _).alloc _)⟩
theorem Bj{w:World}{mm mc md:Nat}(h:aM w mm mc md (aA.new 6)):Calls prog 26 #[(mm,0),.int .i64 0,.int .i64 6,.int .i64 64] w (fun e w'=>e=.returned .nilIface/\aM w' mm mc md vl/\Ch (dD mm mc md) w w'):=by
 refine(ez mm mc md (aA.new 6) 0 6 (by decide) (by decide) w h).mono ?_;rintro e w' ⟨⟨v,rfl,a⟩,b,c⟩;rw[C7]at a;exact⟨by rw[show v=.nilIface from a],b,c⟩
theorem tN(p:List aR)(L:∀x∈p,aI x.v)(dN:p.length*56<=140737488351232)(N:Value)(steps:Int)(w:World)(a1:gQ w w.heap.size N 7 b3 p)(en:∀c,N=.slice none p.length c->c=0)
 (r:w.cell? (0,0)=some (.iface 335 (.agg #[(1,40)]))):
 Calls prog 6 #[N,steps] w (Au w):=by
 have c3:=Z (Bi p N dN w a1 en);have c0:Hid (∀d,Ch ag w d->Calls prog 13 #[] d (dc (.bool true) d)):=Z (fun d c=>pZ d ((c.cell (aP r) id).trans r));have hm:=Z (fun w=>pV w);have c7:=Z (fun(es et ex:Value) (B1 B2 B3:Nat) (d:World) hv hw hB r=>Db p es et ex (B1:=B1) (B2:=B2) (B3:=B3) d hv hw hB r);have hb:Hid (∀d,Calls prog 25 #[.int .i64 6] d (Ao 6 d)):=Z (fun d=>ot 6 (by decide) (by decide) d);have c4:=Z r;have c6:=Z a1;have G:=Z L;obtain⟨k1,kf,rfl,-,-⟩:=a1;clear L dN en r;obtain⟨cb,W⟩:=nm p.length;rw[W]at c3 c6 c7⊢;have ii:=Z W;clear W;go_in
 go_wp2_with fail
 with_reducible refine c3.out.mono ?_
 rintro e w1 ⟨ex,rfl,ad,cr⟩;obtain⟨ce,ck,rfl⟩:=ao ad;have hf:=Z ad;have eW:=Z cr;clear ad cr;go_upto_region 2 with fail
 obtain⟨w2,M⟩:=nm (w1.alloc (.cells #[.slice ce cb ck,.int .i64 0,.int .i64 6,.int .i64 0] 36));have bi:Hid (Ch ag w1 w2):=Z (Ch.al M);have P:=Z (eW.trans bi);have c8:=Z (Row.al M);rw[M];clear M;obtain⟨O,dC⟩:=nm w1.heap.size;rw[dC]at c8⊢;clear dC;have F:Hid (∀d,Ch ag w2 d->d.cell? (O,0)=some (.slice ce cb ck)/\d.cell? (O,1)=some (.int .i64 0)/\d.cell? (O,2)=some (.int .i64 6)/\d.cell? (O,3)=some (.int .i64 0)):=Z (fun d c=>(c8.ch c id).c4);obtain⟨t0,t1,t2,t3⟩:=F _ (Ch.refl _ _);go_cut [6,7] (fun a b wc=>∃pv,a=.pointer pv/\Ch ag w2 wc/\((pv=none/\∃t x,b=.iface t x)∨(dB p 0 6 0=true/\∃mb χ,pv=some ⟨mb,0,none⟩/\b=.nilIface/\MS wc χ mb (hQ p) (fH (hQ p) 1 60)/\∀i,χ i≠ .no->w2.heap.size<=i)))
 case first=>
  go_region_held3 (F _ (Ch.refl _ _)) (go_keep) (first|(go_at_call 24;refine(hm _).mono ?_;rintro e w3 ⟨lo,rfl,⟨es,et,rfl,a2,a3⟩,cA⟩;obtain⟨ac,kb,rfl⟩:=ao a2;obtain⟨k0,kd,rfl⟩:=ao a3;have D:Hid (Ch ag w2 w3):=Z (Ch.trans g3 cA);have he:=Z (fun d (c:Ch ag w3 d)=>(c7 _ _ _ _ _ _ d (aj a2 c (fun _ _ e=>e)) (aj a3 c (fun _ _ e=>e)) (aj hf ((bi.trans D).trans c) (fun _ _ e=>e)) (((P.trans (D.trans c)).cell (aP c4) id).trans c4)).mono fun _ _ h=>h.back (D.trans c));obtain⟨t0,t1,t2,t3⟩:=F _ D;clear a2 a3 cA)|(go_at_call 11;refine(he _ g3).mono ?_;rintro e w4 ⟨pv,kv,rfl,y,n⟩;have bv:=Z y;have hl:=Z n;obtain⟨t0,t1,t2,t3⟩:=F _ bv;clear y n))
  all_goals
   go_wp2
   go_meet
   exact⟨_,rfl,bv,hl⟩
 case rest=>
  obtain⟨w4,rfl⟩:∃x,x=wc:=⟨_,rfl⟩;obtain⟨pv,rfl,y,n⟩:=hcut;have B:=Z (P.trans y);clear y t0 t1 t2 t3;rcases n with⟨rfl,lm,lw,rfl⟩|⟨dr,mb,χ,rfl,rfl,cQ,cL⟩
  ·go_wp2_with fail
   with_reducible refine(c0.out _ B.out).mono ?_
   rintro e eA ⟨rfl,o⟩;have fb:=Z (B.trans o);clear o;go_wp2
   go_ret;exact⟨rfl,fb⟩
  ·have Q:=Z dr
   have s:=Z (And.intro cQ cL);clear dr cQ cL;go_wp2_with fail
   with_reducible refine(hb.out _).mono ?_
   rintro e eA ⟨mm,mc,md,rfl,ab,cf,ch,ci,o⟩;have l:Hid (CM p w mb mm mc md (aA.new 6) χ (fH (hQ p) 1 60) eA):=Z (by
    have z:=B.size;exact⟨s.1.af o,ab,⟨s.1.no cf,s.1.no ch,s.1.no ci⟩,⟨by omega,by omega,by omega⟩,fun i a0=>Nat.le_trans P.size (s.2 i a0),B.trans o⟩)
   have hd:=Z (Bj ab);clear ab cf ch ci o;go_wp2_with fail
   with_reducible refine hd.out.mono ?_
   rintro e i7 ⟨rfl,cS,X⟩;have fz:Hid (CM p w mb mm mc md vl χ (fH (hQ p) 1 60) i7):=Z ⟨l.ms.jV X (fun i a0 Y=>by
    rcases Y with rfl|rfl|rfl
    ·exact l.k.1
    ·exact l.k.2.1
    ·exact l.k.2.2),cS,l.k,l.b,l.jV,l.ch.fresh X (fun i a0 Y=>by
    have:=l.b;rcases Y with rfl|rfl|rfl<;>omega)⟩
   have E:=Z (vn p Q G);have go:=Z (fz.uZ E (vm p) (by omega));clear cS X;go_wp2_with fail
   with_reducible refine go.out.mono ?_
   rintro e lv ⟨it,li,k4,l',rfl,V⟩;have ih:=Z V;have gr:=Z (V.uZ E (jl E (vm p) (by omega) 1 0 0 bm) (by omega));clear V;go_wp2_with fail
   with_reducible refine gr.out.mono ?_
   rintro e av ⟨jp,ll,k5,eS,rfl,cq⟩;have gc:Hid (CM p w mb mm mc md vl eS (pe p) av):=Z cq;clear cq;go_upto_block 0 with fail
   have hi:=Z (jR Q).2;go_cut [] (fun wc=>Ch ag w wc)
   case first=>
    go_wp2
    go_loopw [11] (fun i wr=>∃(k:Nat) (K:KS) (f:cu) (A:aA) (χ:Nat->aX) (v:Value),k<=24/\i=.int .i64 k/\CL p w mb av.heap.size mm mc md (k+3) χ K f A v wr/\gR f A (24-k) K) (fun i _=>24-(intOf i).toNat)
    case atStart=>exact⟨0,_,_,_,eS,_,by omega,rfl,gc.frame (C8 p Q G) (by kernel_rfl),yM p⟩
    case round=>
     obtain⟨k,K,f,A,χ,v,kT,rfl,m,g⟩:=hrel;have H:=Z m;have R:=Z g;have S:=Z (ks steps 24 (by decide) wr);obtain⟨i1,i2⟩:=dz steps 24 (by decide);obtain⟨q,n⟩:=nm (cM steps 24);rw[n]at S i1 i2;have c9:=Z (m.step g c6 (by have:=hi.out;omega) G);have gf:=Z (fun J hF=>Be (C:=hQ p) rfl g hF (wz m.inv g).r G J);clear m g n;by_cases l0:(k:Int)<q
     ·obtain⟨⟨i0,f2,ax⟩,am⟩:∃t,a' aA.acc p f A=t:=⟨_,rfl⟩
      have hn:=Z am;rw[am]at c9;clear am;go_wp2_with fail
      with_reducible refine S.out.mono ?_
      rintro e eC ⟨rfl,rfl⟩;go_wp2_with fail
      with_reducible refine c9.out.mono ?_
      rintro e ls ⟨⟨u,rfl,L⟩,v10,cl⟩;have bw:=Z cl;clear cl L;by_cases J:i0=0
      ·subst J
       have cd:Hid (gR f2 ax (24-k-1) (fk (hQ p) K 1 0 0).2):=Z (by
        have e:=hn.out;have:=gf (by show(a' aA.acc p f A).1=0;rw[e]) (by omega);rw[show a' aA.acc (hQ p).a8 f A=(0,f2,ax)from e]at this;exact this)
       have gk:=Z (bw.uZ E (by omega));go_wp2_with fail
       with_reducible refine gk.out.mono ?_
       rintro e i4 ⟨ip,le,k2,eL,rfl,T⟩;have fn:=Z T;have gs:=Z (T.hL cd);clear T;go_wp2_with fail
       with_reducible refine gs.out.mono ?_
       rintro e i5 ⟨⟨i3,rfl,cW⟩,cs⟩;obtain⟨kw,k3,lc,rfl,-,-,-,al,-⟩:=aF (show i5.ownsRow i4.heap.size 3 1 i3 1 [.int .i64 f2.pc]from cW) (by decide);have bx:=Z (fn.af cs);have x0:=al.c1;have x1:=bx.fr.kI;have io:=Z al;clear cW cs al;go_wp2
       go_quiet (fail)
       go_upto_block 2 with fail
       clear x0 x1;go_wp2
       go_loopw [15] (fun j i8=>∃(q:Nat) (K:KS) (A:aA),q<=6/\j=.int .i64 q/\CL p w mb av.heap.size mm mc md (k+3+1) eL K f2 A v10 i8/\gR f2 A (24-k-1) K) (fun j _=>6-(intOf j).toNat)
       case atStart=>exact⟨0,_,_,by omega,rfl,bx.af ((Ch.refl _ _).drewN _),cd⟩
       case round=>
        obtain⟨q,K,A,l1,rfl,m,g⟩:=hrel;have gt:=Z m;have I:=Z g;by_cases ec:q<6
        ·have c5:=Z (m.load g q ec)
         obtain⟨x,ap⟩:=nm (A.cells.getD q 0);have hu:=Z ap;rw[ap]at c5;clear m g ap;have lb:(q:Int)<6:=(by omega);go_wp2_with fail
         with_reducible refine c5.out.mono ?_
         rintro e lt ⟨rfl,U⟩;have ge:=Z (U.base I);have c1:=Z (U.cell I q ec);rw[hu]at c1;clear U;go_wp2_with fail
         with_reducible refine ge.out.mono ?_
         rintro e i6 ⟨rfl,rfl⟩;go_wp2_with fail
         with_reducible refine c1.out.mono ?_
         rintro e i6 ⟨rfl,cm⟩;have fr:=Z cm;clear cm;go_wp2
         go_roundw
         case rel=>exact⟨q+1,_,_,by omega,by go_num,fr,I⟩
         case measure=>simp[intOf];omega
        ·obtain rfl:q=6:=by omega
         clear m g;go_wp2
         go_roundw
         case rel=>exact⟨k+1,K,f2,A,eL,v10,by omega,by go_num,gt,by have:=I.out;rwa [show(24:Int)-((k+1:Nat):Int)=24-k-1 by omega]⟩
         case measure=>simp[intOf];omega
      ·have i9:=Z J
       go_wp2
       go_meet
       exact bw.ch
     ·go_wp2_with fail
      with_reducible refine S.out.mono ?_
      rintro e eC ⟨rfl,rfl⟩;go_wp2
      go_meet
      exact H.ch
   case rest=>
    have c2:=Z hcut;clear hcut;go_wp2_with fail
    with_reducible refine(c0.out _ c2.out).mono ?_
    rintro e eC ⟨rfl,cC⟩;have fd:=Z (c2.trans cC);clear cC;go_wp2
    go_ret;exact⟨rfl,fd⟩
end Go.Proofs.YtfnilkpkogipfaaGreatDoor
