import Derived.Test.YtlihkblppjgebaaGreatDoorZAq
set_option linter.all false
set_option maxRecDepth 100000
set_option maxHeartbeats 8000000
namespace Go.Proofs.YtlihkblppjgebaaGreatDoor
open Go.RowKit Go.Proofs.Tryz
section
def Ib:Nat->List ic->Nat->Prop
 |a,[],b=>a=b
 |a,x::l,b=>x.at_=a/\0<x.n/\Ib (a+x.n) l b
structure HF(nb:Nat)(l:List aD):Prop where
 len:l.length=64
 le:nb<=64
 row:∀p r,l[p]?=some r->(p<nb->r.taken=true/\r.t.id=((64+p:Nat):Int)/\r.t.state=1)/\(nb<=p->r.taken=false/\r.times=0)
structure WR(w:ak)(x:AW):Prop where
 slot:w.slot=0
 hand:w.hand=x.hand
 pc:w.f.pc=x.pc
 r:w.f.r=fun k=>(x.r k:Int)
 back:w.f.back=x.back.map fun b:Nat=>(b:Int)
 u:∀k,x.r k<qO
structure cR(base:Nat)(s:DS)(a:AS):Prop where
 cl:s.mem.cells.length=a.Gx
 wl:s.mem.width.length=a.Gx
 Gx:a.Gx<=65536
 nl:a.hl<=a.Gx
 n0:0<a.hl
 c:∀j,j<a.hl->s.mem.cells[j]?=some (a.c j:Int)
 u:∀j,a.c j<qO
 w:∀j,j<a.Gx->s.mem.width[j]?=some (if j<a.hl then 64 else 0)
 bf:s.bB.from_=base
 bt:s.bB.xK=a.Gx
 bl:Ib base s.bB.l a.hl
 ring:s.ring=a.ring.map fun y:Nat=>(y:Int)
 tab:HF a.nb s.tab
 wn:s.wk.length=a.wk.length
 wk:∀(i:Nat) (x:AW),a.wk[i]?=some x->∃w,s.wk[i]?=some w/\WR w x
section
variable{base:Nat}{s:DS}{a:AS}{i j v:Nat}{x x':AW}{w':ak}
theorem cR.put(h:cR base s a)(hw:WR w' x'):cR base {s with wk:=s.wk.set i w'} (a.put i x'):=
 {h with
  wn:=by show(s.wk.set i w').length=(a.wk.set i x').length;rw[List.length_set,List.length_set];exact h.wn
  wk:=fun k y b=>by
   have b:(a.wk.set i x')[k]?=some y:=b;show∃w,(s.wk.set i w')[k]?=some w/\_
   rw[List.getElem?_set]at b⊢;by_cases e:i=k
   ·rw[if_pos e]at b⊢
    rw[h.wn];split at b
    ·rename_i c
     rw[if_pos c];exact⟨w',rfl,by rw[<-Option.some.inj b];exact hw⟩
    ·cases b
   ·rw[if_neg e]at b⊢
    exact h.wk k y b}
theorem cR.set(h:cR base s a)(j:Nat)(d:v<qO):cR base {s with mem:={s.mem with cells:=s.mem.cells.set j (v:Int)}} {a with c:=cf a.c j v}:=
 {h with
  cl:=by show(s.mem.cells.set j (v:Int)).length=a.Gx;rw[List.length_set];exact h.cl
  c:=fun k b=>by
   show(s.mem.cells.set j (v:Int))[k]?=some ((cf a.c j v k:Nat):Int)
   rw[List.getElem?_set];unfold cf;by_cases e:j=k
   ·subst e
    rw[if_pos rfl,if_pos rfl,if_pos (by rw[h.cl];exact Nat.lt_of_lt_of_le b h.nl)]
   ·rw[if_neg e,if_neg (fun q=>e q.symm)]
    exact h.c k b
  u:=fun k=>by
   show cf a.c j v k<qO
   unfold cf;split
   ·exact d
   ·exact h.u k}
theorem cR.wid(h:cR base s a)(hj:j<a.hl):s.mem.wid j=64:=by
 unfold aF.wid;rw[Int.toNat_natCast,List.getD_eq_getElem?_getD,h.w j (Nat.lt_of_lt_of_le hj h.nl),if_pos hj];rfl
theorem cR.get(h:cR base s a)(hj:j<a.hl):s.mem.cells.getD j 0=(a.c j:Int):=by
 rw[List.getD_eq_getElem?_getD,h.c j hj];rfl
theorem LZ(n:Nat):IntKind.u64.wrap (n:Int)=((n%qO:Nat):Int):=by
 unfold IntKind.wrap IntKind.bits IntKind.signed qO;simp
theorem Ni(b c:Nat):sQ 64 (b:Int) (c:Int)=(((b+c)%qO:Nat):Int):=by
 unfold sQ gT;rw[if_neg (by decide),if_pos rfl,if_neg (by decide),if_pos rfl,if_neg (by decide),if_pos rfl,<-Int.natCast_add,LZ]
theorem L0(b:Int):gT 64 b=b:=by
 unfold gT;rw[if_neg (by decide),if_pos rfl]
theorem PW(b c:Nat)(d:c<=qO):xO 64 (b:Int) (c:Int)=(((b+(qO-c))%qO:Nat):Int):=by
 unfold xO;rw[L0,L0,L0,<-LZ];unfold IntKind.wrap IntKind.bits IntKind.signed;unfold qO at d⊢;simp
 omega
theorem L1(b:Nat)(hb:b<qO):(BitVec.ofInt 64 (b:Int)).toNat=b:=by
 rw[BitVec.toNat_ofInt];unfold qO at hb;omega
theorem PX(b c:Nat)(hb:b<qO)(d:c<qO):Go.bits .and .u64 (b:Int) (c:Int)=((b&&&c:Nat):Int):=by
 show IntKind.u64.wrap (((BitVec.ofInt 64 (b:Int)&&&BitVec.ofInt 64 (c:Int)).toNat:Nat):Int)=_
 rw[LZ,BitVec.toNat_and,L1 b hb,L1 c d,Nat.mod_eq_of_lt (Nat.lt_of_le_of_lt Nat.and_le_left hb)]
theorem Rm(b c:Nat)(f:c<64):Av (b:Int) (c:Int)=((b>>>(c&&&63):Nat):Int):=by
 unfold Av;have d:Go.bits .and .u64 (c:Int) 63=((c&&&63:Nat):Int):=PX c 63 (by unfold qO;omega) (by decide);rw[d,Int.toNat_natCast];have e:c&&&63=c:=by
  rw[show 63=2^6-1 by decide,Nat.and_two_pow_sub_one_eq_mod];exact Nat.mod_eq_of_lt (by omega)
 rw[e,Nat.min_eq_left (by omega),Nat.shiftRight_eq_div_pow,Int.fdiv_eq_ediv_of_nonneg _ (by exact Int.le_of_lt (Int.pow_pos (by decide)))]
 norm_cast
theorem cR.acc(h:cR base s a)(hj:j<a.hl)(kind b v:Int):s.mem.acc kind (j:Int) b v=
 (some (a.c j:Int),if kind=3 then {s.mem with cells:=s.mem.cells.set j (sQ 64 (a.c j:Int) v)}else if kind=4 then(if(a.c j:Int)=b then {s.mem with cells:=s.mem.cells.set j v}else s.mem)else if kind=1∨kind=2 then {s.mem with cells:=s.mem.cells.set j v}else s.mem):=by
 unfold aF.acc;rw[h.wid hj,if_neg (by decide)];dsimp only;rw[Int.toNat_natCast,h.get hj];simp only[L0]
 repeat' split
 all_goals rfl
end
end
section
section
variable{base:Nat}{C:KC}{K:KS}{a a':AS}{i d:Nat}{w w':AW}{x:aV}
theorem cR.at_(h:cR base K.ds a)(g:a.wk[i]?=some w):i<K.wk.length/\WR (K.W i) w:=by
 obtain⟨c,b,f⟩:=h.wk i w g;have b:K.wk[i]?=some c:=b;have e:K.W i=c:=by unfold KS.W;rw[List.getD_eq_getElem?_getD,b];rfl
 exact⟨(List.getElem?_eq_some_iff.1 b).1,e▸f⟩
theorem Iu{b:Type}(acc:b->Int->Int->Int->Int->Option Int×b){l:List aV}{f:cE}{S:b}{p:Nat}(g:f.pc=p)(c:l[p]?=some x)(e:bt x l.length=true):
 bD acc l f S=if x.op=12∨x.op=13∨x.op=14∨x.op=15∨x.op=16 then((dw x f).1,(dw x f).2,S)
 else if x.op=17∨x.op=18∨x.op=19∨x.op=20∨x.op=21 then
  match cK acc S x f.r with
  |(none,S')=>(3,f,S')
  |(some v,S')=>(0,{f with r:=fO f.r x.a.toNat v,pc:=wrap64 (f.pc+1)},S')
 else if 1<=x.op/\x.op<=11 then(0,{f with r:=fO f.r x.a.toNat (ha x (gF f.r x.b) (h' f.r x)),pc:=wrap64 (f.pc+1)},S)
 else(1,f,S):=by
 unfold bD;rw[if_neg (by omega),g,Int.toNat_natCast,c];dsimp only;rw[e,if_neg (by decide)];rfl
structure JN(base:Nat)(C:KC)(K:KS)(i d:Nat)(a:AS):Prop where
 ar:cR base (gM C K 1 i d).2.ds a
 ml:I8 C (F8 K i d) i
theorem Hq{f:cE}{m:aF}(h:cR base K.ds a)(n:a.wk[i]?=some w)(g:bD aF.acc C.dx (K.W i).f K.mem=(0,f,m))(j:cR base {K.ds with mem:=m} a')(c:f.pc=w'.pc/\f.r=(fun k=>(w'.r k:Int))/\f.back=w'.back.map (fun b:Nat=>(b:Int))/\∀k,w'.r k<qO)(l:w'.hand=w.hand):
 JN base C K i d (a'.put i w'):=by
 obtain⟨e,hw⟩:=h.at_ n;refine⟨?_,Or.inl ?_⟩
 ·rw[LX e hw.slot d g]
  exact j.put (w':={K.W i with parked:=false,f:=f}) ⟨hw.slot,by rw[l];exact hw.hand,c.1,c.2.1,c.2.2.1,c.2.2.2⟩
 ·rw[Hw (K:=F8 K i d) e]
  exact congrArg (·.1) g
theorem HT(r:Nat->Nat)(k v:Nat):fO (fun j=>(r j:Int)) k (v:Int)=fun j=>((cf r k v j:Nat):Int):=by
 funext j
 unfold fO cf
 split<;>rfl
theorem Jr{r:Nat->Nat}(h:∀k,r k<qO){k v:Nat}(b:v<qO):∀j,cf r k v j<qO:=fun j=>by
 unfold cf;split
 ·exact b
 ·exact h j
theorem PM{p:Nat}(b:p<1000000):wrap64 ((p:Int)+1)=((p+1:Nat):Int):=by
 rw[IntWalk.wrap64_in _ (by omega)];rfl
structure OZ(x:aV):Prop where
 a0:0<=x.a
 b0:0<=x.b
 b1:x.b<32
 c0:x.c=-1∨0<=x.c/\x.c<32
 v0:0<=x.v
 v1:x.v<18446744073709551616
theorem PY(r:Nat->Nat)(h:OZ x):gF (fun k=>(r k:Int)) x.b=(cX x r:Int):=by
 unfold gF cX;rw[if_pos ⟨h.b0,h.b1⟩]
theorem O0(r:Nat->Nat)(h:OZ x):h' (fun k=>(r k:Int)) x=(dH x r:Int):=by
 unfold h' dH gF;by_cases e:x.c=-1
 ·rw[if_pos e,if_pos e,Int.toNat_of_nonneg h.v0]
 ·rw[if_neg e,if_neg e,if_pos (h.c0.resolve_left e)]
theorem Rn{r:Nat->Nat}(h:OZ x)(b:∀k,r k<qO):dH x r<qO:=by
 unfold dH;split
 ·have:=h.v0;have:=h.v1;unfold qO;omega
 ·exact b _
theorem PZ(b c:Nat)(h:OZ x)(j:x.op=1∨x.op=2∨x.op=3∨x.op=4∨x.op=5∨x.op=9/\c<64∨x.op=10∨x.op=11)(hb:b<qO)(f:c<qO):ha x (b:Int) (c:Int)=((F2 x b c:Nat):Int)/\F2 x b c<qO:=by
 have l:qO=18446744073709551616:=rfl;rcases j with e|e|e|e|e|⟨e,g⟩|e|e
 ·unfold ha F2;rw[if_pos e,if_pos e];exact⟨(Int.toNat_of_nonneg h.v0).symm,by have:=h.v0;have:=h.v1;omega⟩
 ·unfold ha F2;simp[e];exact hb
 ·unfold ha F2;simp[e,Ni];exact Nat.mod_lt _ (by omega)
 ·unfold ha F2;simp[e,PW _ _ (Nat.le_of_lt f)];exact Nat.mod_lt _ (by omega)
 ·unfold ha F2;simp[e,PX _ _ hb f];exact Nat.lt_of_le_of_lt Nat.and_le_left hb
 ·unfold ha F2;simp[e,Rm _ _ g];exact Nat.lt_of_le_of_lt (Nat.shiftRight_le _ _) hb
 ·unfold ha F2 uy
  simp only[e];by_cases q:b=c
  ·subst q;simp;omega
  ·have k:((b:Int)==c)=false:=by rw[beq_eq_false_iff_ne];omega
   simp[q,k];omega
 ·unfold ha F2 uy
  simp only[e];by_cases q:b<c
  ·simp[q];omega
  ·simp[q];omega
theorem Lk(h:cR base K.ds a)(j:a.wk[i]?=some w)(l:C.dx[w.pc]?=some x)(n:bt x C.dx.length=true)(o:w.pc<1000000)(c:OZ x)(Gf:x.op=1∨x.op=2∨x.op=3∨x.op=4∨x.op=5∨x.op=9/\dH x w.r<64∨x.op=10∨x.op=11):
 JN base C K i d (ck x a i d w):=by
 obtain⟨s,hw⟩:=h.at_ j;have g:1<=x.op/\x.op<=11:=by omega
 obtain⟨p,q⟩:=PZ (cX x w.r) (dH x w.r) c Gf (hw.u _) (Rn c hw.u);have e:ck x a i d w=a.put i {w with pc:=w.pc+1,r:=cf w.r x.a.toNat (F2 x (cX x w.r) (dH x w.r))}:=by unfold ck;simp only[g,and_self,if_true]
 rw[e];refine Hq h j (f:=⟨((w.pc+1:Nat):Int),fun k=>((cf w.r x.a.toNat (F2 x (cX x w.r) (dH x w.r)) k:Nat):Int),w.back.map fun b:Nat=>(b:Int)⟩) (m:=K.mem) ?_ h ⟨rfl,rfl,rfl,Jr hw.u q⟩ rfl;rw[Iu _ hw.pc l n,if_neg (by omega),if_neg (by omega),if_pos g,hw.r,PY _ c,O0 _ c,p,HT,hw.pc,PM o,hw.back]
end
end
section
section
variable{base:Nat}{C:KC}{K:KS}{a a':AS}{i d:Nat}{w w':AW}{x:aV}
theorem Rj(b:OZ x)(c:x.v<1000000):wrap64 x.v=((x.v.toNat:Nat):Int):=by
 have:=b.v0;rw[IntWalk.wrap64_in _ (by omega),Int.toNat_of_nonneg b.v0]
theorem getLast_map(l:List Nat)(h:l≠[]):((l.map fun b:Nat=>(b:Int))[(l.map fun b:Nat=>(b:Int)).length-1]?).getD 0=((l.getLastD 0:Nat):Int):=by
 rw[List.length_map,List.getElem?_map,<-List.getLast?_eq_getElem?,List.getLast?_eq_some_getLast h,List.getLastD_eq_getLast?,List.getLast?_eq_some_getLast h];rfl
theorem L2(l:List Nat):(l.map fun b:Nat=>(b:Int)).take ((l.map fun b:Nat=>(b:Int)).length-1)=(l.dropLast).map fun b:Nat=>(b:Int):=by
 rw[List.length_map,<-List.map_take,List.dropLast_eq_take]
theorem L3(h:cR base K.ds a)(r:a.wk[i]?=some w)(u:C.dx[w.pc]?=some x)(v:bt x C.dx.length=true)(n:w.pc<1000000)(g:OZ x)(l:x.v<1000000)(Gf:x.op=12∨x.op=13∨x.op=14∨x.op=15/\w.back.length<8∨x.op=16/\w.back≠[]):
 JN base C K i d (ck x a i d w):=by
 obtain⟨y,hw⟩:=h.at_ r;have p:=Iu aF.acc (S:=K.mem) hw.pc u v;rw[if_pos (by omega)]at p;have j:(K.W i).f.r x.a.toNat=((w.r x.a.toNat:Nat):Int):=by rw[hw.r]
 have key:∀w2:AW,w2.hand=w.hand->(∀k,w2.r k=w.r k)->dw x (K.W i).f=(0,⟨(w2.pc:Int),fun k=>(w2.r k:Int),w2.back.map fun b:Nat=>(b:Int)⟩)->JN base C K i d (a.put i w2):=fun w2 c s t=>by
  refine Hq h r (f:=⟨(w2.pc:Int),fun k=>(w2.r k:Int),w2.back.map fun b:Nat=>(b:Int)⟩) (m:=K.mem) ?_ h ⟨rfl,rfl,rfl,fun k=>by rw[s];exact hw.u k⟩ c;rw[p,t]
 rcases Gf with e|e|e|⟨e,hb⟩|⟨e,hb⟩
 ·have c:ck x a i d w=a.put i {w with pc:=x.v.toNat}:=by unfold ck;simp[e]
  rw[c];refine key _ rfl (fun _=>rfl) ?_;unfold dw;simp only[e,Int.reduceEq,if_false,if_true,reduceIte];rw[Rj g l,hw.r,hw.back]
 ·have c:ck x a i d w=a.put i (if w.r x.a.toNat=0 then {w with pc:=x.v.toNat}else {w with pc:=w.pc+1}):=by unfold ck;simp[e]
  rw[c];unfold dw at key;simp only[e,Int.reduceEq,if_false,reduceIte]at key;by_cases z:w.r x.a.toNat=0
  ·rw[if_pos z]
   refine key _ rfl (fun _=>rfl) ?_;rw[j,z];simp
   exact⟨by rw[Rj g l];omega,hw.r,hw.back⟩
  ·rw[if_neg z]
   refine key _ rfl (fun _=>rfl) ?_;have o:(((w.r x.a.toNat:Nat):Int)==0)=false:=(by rw[beq_eq_false_iff_ne];omega);rw[j,o];simp
   exact⟨by rw[hw.pc,PM n];rfl,hw.r,hw.back⟩
 ·have c:ck x a i d w=a.put i (if w.r x.a.toNat=0 then {w with pc:=w.pc+1}else {w with pc:=x.v.toNat}):=by unfold ck;simp[e]
  rw[c];unfold dw at key;simp only[e,Int.reduceEq,if_false,reduceIte]at key;by_cases z:w.r x.a.toNat=0
  ·rw[if_pos z]
   refine key _ rfl (fun _=>rfl) ?_;rw[j,z];simp
   exact⟨by rw[hw.pc,PM n];rfl,hw.r,hw.back⟩
  ·rw[if_neg z]
   refine key _ rfl (fun _=>rfl) ?_;have o:(((w.r x.a.toNat:Nat):Int)==0)=false:=(by rw[beq_eq_false_iff_ne];omega);rw[j,o];simp
   exact⟨by rw[Rj g l];omega,hw.r,hw.back⟩
 ·have c:ck x a i d w=a.put i {w with pc:=x.v.toNat,back:=w.back++[w.pc+1]}:=by unfold ck;simp[e]
  rw[c];refine key _ rfl (fun _=>rfl) ?_;unfold dw;simp only[e,Int.reduceEq,if_false,if_true,reduceIte];rw[if_neg (by rw[hw.back,List.length_map];omega),Rj g l,hw.r,hw.back,hw.pc,PM n,List.map_append];rfl
 ·have c:ck x a i d w=a.put i {w with pc:=w.back.getLastD 0,back:=w.back.dropLast}:=by unfold ck;simp[e]
  rw[c];refine key _ rfl (fun _=>rfl) ?_;unfold dw;simp only[e,Int.reduceEq,if_false,if_true,reduceIte];rw[if_neg (by rw[hw.back,List.length_map];intro q;exact hb (List.eq_nil_of_length_eq_zero q)),hw.r,hw.back,getLast_map _ hb,L2]
theorem L4(r:Nat->Nat)(hb:x.b=-1∨0<=x.b/\x.b<32)(b:0<=x.v):du (fun k=>(r k:Int)) x=((GK x r:Nat):Int):=by
 unfold du GK gF;by_cases e:x.b=-1
 ·rw[if_pos e,if_pos e,Int.toNat_of_nonneg b]
 ·rw[if_neg e,if_neg e,if_pos (hb.resolve_left e)]
  obtain⟨n,c⟩:=Int.eq_ofNat_of_zero_le b;rw[c,Int.toNat_natCast,Ni]
theorem IC(h:cR base K.ds a)(g:a.wk[i]?=some w)(n:C.dx[w.pc]?=some x)(o:bt x C.dx.length=true)(p:w.pc<1000000)(hb:x.b=-1∨0<=x.b/\x.b<32)(t:0<=x.v)(m:GK x w.r<a.hl)(Gf:x.op=17∨x.op=18∨x.op=20):
 JN base C K i d (ck x a i d w):=by
 obtain⟨u,hw⟩:=h.at_ g;have b:=Iu aF.acc (S:=K.mem) hw.pc n o;rw[if_neg (by omega),if_pos (by omega)]at b;have l:du (K.W i).f.r x=((GK x w.r:Nat):Int):=by rw[hw.r];exact L4 w.r hb t
 have s:(K.W i).f.r x.a.toNat=((w.r x.a.toNat:Nat):Int):=by rw[hw.r]
 unfold cK at b;dsimp only at b;rw[l,s]at b;have acc:=fun k j v=>h.acc m k j v
 have acc:∀k j v,K.mem.acc k ((GK x w.r:Nat):Int) j v=_:=acc;rw[hw.pc,PM p,hw.back,hw.r]at b;rcases Gf with e|e|e
 ·have f:ck x a i d w=a.put i {w with pc:=w.pc+1,r:=cf w.r x.a.toNat (a.c (GK x w.r))}:=by unfold ck;simp[e]
  rw[f];rw[if_pos e,acc]at b;simp only[Int.reduceEq,if_false,false_or,or_false,reduceIte]at b;rw[HT]at b;exact Hq h g b h ⟨rfl,rfl,rfl,Jr hw.u (h.u _)⟩ rfl
 ·have f:ck x a i d w={a with c:=cf a.c (GK x w.r) (w.r x.a.toNat)}.put i {w with pc:=w.pc+1}:=by unfold ck;simp[e]
  rw[f];rw[if_neg (by omega),if_pos e,acc]at b;simp only[Int.reduceEq,if_false,if_true,true_or,or_true,reduceIte,Option.map_some]at b;rw[HT]at b;refine Hq h g b (h.set _ (hw.u _)) ⟨rfl,?_,rfl,hw.u⟩ rfl
  funext k
  show((cf w.r x.a.toNat (w.r x.a.toNat) k:Nat):Int)=((w.r k:Nat):Int)
  unfold cf;split
  ·rename_i q;rw[q]
  ·rfl
 ·have f:ck x a i d w={a with c:=cf a.c (GK x w.r) ((a.c (GK x w.r)+w.r x.a.toNat)%qO)}.put i {w with pc:=w.pc+1,r:=cf w.r x.a.toNat (a.c (GK x w.r))}:=by unfold ck;simp[e]
  rw[f];rw[if_neg (by omega),if_neg (by omega),if_neg (by omega),if_pos e,acc]at b;simp only[if_true,reduceIte]at b;rw[HT,Ni]at b;exact Hq h g b (h.set _ (Nat.mod_lt _ (by decide))) ⟨rfl,rfl,rfl,Jr hw.u (h.u _)⟩ rfl
end
end
section
section
variable{base:Nat}{C:KC}{K:KS}{a a':AS}{i d:Nat}{w w':AW}{x:aV}{k v:Nat}
theorem Ga:(a.put i w).put i w'=a.put i w':=by
 unfold AS.put;dsimp only;rw[List.set_set]
theorem Gb(b:i<a.wk.length):(a.put i w).wk[i]?=some w:=by
 unfold AS.put;dsimp only;rw[List.getElem?_set_self b]
theorem G8(b:a.wk[i]?=some w):i<a.wk.length:=(List.getElem?_eq_some_iff.1 b).1
theorem JP(b:a.wk[i]?=some w):a.put i w=a:=by
 unfold AS.put;have e:a.wk.set i w=a.wk:=by
  apply List.ext_getElem?;intro n;rw[List.getElem?_set];by_cases q:i=n
  ·subst q;rw[if_pos rfl,if_pos (G8 b),b]
  ·rw[if_neg q]
 rw[e]
theorem L5(h:cR base K.ds a){b:ak}(hw:WR b w):cR base (K.be i b).ds (a.put i w):=h.put hw
theorem Hx(h:cR base K.ds a)(c:a.wk[i]?=some w)(k:Nat)(b:v<qO):cR base (K.au (.own i) k (v:Int)).ds (a.put i {w with r:=cf w.r k v}):=by
 obtain⟨e,hw⟩:=h.at_ c;refine L5 h ⟨hw.slot,hw.hand,hw.pc,?_,hw.back,Jr hw.u b⟩;show fO (K.F (.own i)).r k (v:Int)=_
 rw[show(K.F (.own i)).r=fun j=>(w.r j:Int)from hw.r,HT]
theorem Nj(h:cR base K.ds a)(c:a.wk[i]?=some w)(b:w.pc<1000000):cR base (K.ft (.own i)).ds (a.put i {w with pc:=w.pc+1}):=by
 obtain⟨e,hw⟩:=h.at_ c;refine L5 h ⟨hw.slot,hw.hand,?_,hw.r,hw.back,hw.u⟩;show wrap64 ((K.F (.own i)).pc+1)=_
 rw[show(K.F (.own i)).pc=(w.pc:Int)from hw.pc,PM b]
def Gc(K:KS)(i d:Nat):KS:=Li (F8 K i d) i (K.W i).f K.mem
theorem HL(h:cR base K.ds a)(b:a.wk[i]?=some w):cR base (Gc K i d).ds a:=by
 obtain⟨c,hw⟩:=h.at_ b;have:=h.put (i:=i) (w':={K.W i with parked:=false,f:=(K.W i).f}) (x':=w) ⟨hw.slot,hw.hand,hw.pc,hw.r,hw.back,hw.u⟩
 rwa [JP b]at this
theorem FV(h:cR base K.ds a)(p:a.wk[i]?=some w)(b:C.dx[w.pc]?=some x)(m:bt x C.dx.length=true)(Gf:x.op=29∨x.op=30∨x.op=31∨x.op=32∨x.op=33∨x.op=38∨x.op=39∨x.op=42∨x.op=43∨x.op=48){K2:KS}(e:ay C (Gc K i d) i none (.own i) x=(0,K2))(r:C.dx.length<1000000)(j:cR base K2.ds a')(q:a'.wk[i]?=some w')(n:w'.pc<1000000):
 JN base C K i d (a'.put i {w' with pc:=w'.pc+1}):=by
 obtain⟨f,hw⟩:=h.at_ p;have c:=Iu aF.acc (S:=K.mem) hw.pc b m;rw[if_neg (by omega),if_neg (by omega),if_neg (by omega)]at c;have g:fu C.dx (K.W i).f.pc=x:=by
  unfold fu;have s:=(List.getElem?_eq_some_iff.1 b).1;rw[hw.pc,if_pos ⟨by omega,by omega⟩,Int.toNat_natCast,List.getD_eq_getElem?_getD,b];rfl
 refine⟨?_,Or.inr ?_⟩
 ·rw[JO f hw.slot d c (K2:=K2) (by rw[g];exact e)]
  exact Nj j q n
 ·have o:bD aF.acc C.dx ((F8 K i d).W i).f (F8 K i d).mem=_:=c
  have l:fu C.dx ((F8 K i d).W i).f.pc=x:=g;rw[Hw (K:=F8 K i d) f,o,l];exact⟨rfl,Gf,congrArg Prod.fst e⟩
theorem Ll(Gf:x.op=29∨x.op=38∨x.op=39∨x.op=42):ay C K i none (.own i) x=(0,K.au (.own i) x.a.toNat (hL C K i 0 (.own i) x)):=by
 unfold ay;rw[if_neg (by omega),if_neg (by omega),if_neg (by omega),if_neg (by omega),if_neg (by omega),if_neg (by omega),if_neg (by omega),if_neg (by omega)];rfl
theorem L6(n:Nat)(b:n<1000000):gY (n:Int)=((17+3*n:Nat):Int):=by
 unfold gY;rw[IntWalk.u64_in _ (by omega)];omega
theorem L7(h:cR base K.ds a)(c:a.wk[i]?=some w)(l:C.dx[w.pc]?=some x)(q:bt x C.dx.length=true)(j:C.dx.length<1000000)(hb:0<=x.b/\x.b<32)(A:a.wk.length<=64)(o:w.hand<qO)(n:d<qO)(Gf:x.op=29∨x.op=38∨x.op=39∨x.op=42):
 JN base C K i d (ck x a i d w):=by
 have u:qO=18446744073709551616:=rfl;have f:=HL (d:=d) h c;have s:w.pc<1000000:=Nat.lt_trans (List.getElem?_eq_some_iff.1 l).1 j;obtain⟨y,hw⟩:=f.at_ c;have p:=G8 c;have hlen:(Gc K i d).wk.length=a.wk.length:=f.wn;have key:∀v:Nat,v<qO->hL C (Gc K i d) i 0 (.own i) x=(v:Int)->JN base C K i d (a.put i {w with pc:=w.pc+1,r:=cf w.r x.a.toNat v}):=fun v t e=>by
  have g:=Ll (C:=C) (K:=Gc K i d) (i:=i) Gf;rw[e]at g;have:=FV h c l q (by omega) g j (Hx f c _ t) (Gb p) s
  rwa [Ga]at this
 have m:((Gc K i d).F (.own i)).r x.b.toNat=((cX x w.r:Nat):Int):=by
  show((Gc K i d).W i).f.r _=_
  rw[hw.r];rfl
 rcases Gf with e|e|e|e
 ·have b:ck x a i d w=a.put i {w with pc:=w.pc+1,r:=cf w.r x.a.toNat w.hand}:=by unfold ck;simp[e]
  rw[b];exact key _ o (by unfold hL;simp only[e,Int.reduceEq,if_false,if_true,reduceIte];exact hw.hand)
 ·have b:ck x a i d w=a.put i {w with pc:=w.pc+1,r:=cf w.r x.a.toNat (17+3*i)}:=by unfold ck;simp[e]
  rw[b];refine key _ (by omega) ?_;unfold hL;simp only[e,Int.reduceEq,if_false,if_true,reduceIte];rw[hlen,show(Gc K i d).w=(i:Int)from rfl,IntWalk.u64_in _ (by omega),IntWalk.u64_in _ (by omega),Int.emod_eq_of_lt (by omega) (by omega),IntWalk.wrap64_in _ (by omega)];exact L6 i (by omega)
 ·have b:ck x a i d w=a.put i {w with pc:=w.pc+1,r:=cf w.r x.a.toNat (17+3*(cX x w.r%a.wk.length))}:=by unfold ck;simp[e]
  rw[b];have z:cX x w.r%a.wk.length<a.wk.length:=Nat.mod_lt _ (by omega);refine key _ (by omega) ?_;unfold hL;simp only[e,Int.reduceEq,if_false,if_true,reduceIte];rw[m,hlen,IntWalk.u64_in _ (by omega),<-Int.natCast_emod,IntWalk.wrap64_in _ (by omega)];exact L6 _ (by omega)
 ·have b:ck x a i d w=a.put i {w with pc:=w.pc+1,r:=cf w.r x.a.toNat d}:=by unfold ck;simp[e]
  rw[b];exact key _ n (by unfold hL;simp only[e,Int.reduceEq,if_false,if_true,reduceIte];rfl)
end
end
section
section
variable{base:Nat}{C:KC}{K:KS}{a a':AS}{i d:Nat}{w w':AW}{x:aV}{k v id nb:Nat}{l:List aD}
theorem HF.at_(h:HF nb l){p:Nat}(b:p<64):∃r,l[p]?=some r:=⟨_,List.getElem?_eq_getElem (by rw[h.len];exact b)⟩
theorem KL(h:HF nb l)(id:Nat):dS l (id:Int)=if 64<=id/\id<64+nb then some (id-64)else none:=by
 unfold dS;have e:((id:Int)%64).toNat=id%64:=by omega
 rw[e];obtain⟨r,c⟩:=h.at_ (p:=id%64) (by omega);rw[c];dsimp only;obtain⟨b,g⟩:=h.row _ r c;have hle:=h.le;by_cases q:64<=id/\id<64+nb
 ·rw[if_pos q]
  have f:id%64=id-64:=by omega
  obtain⟨t1,t2,t3⟩:=b (by omega);have t4:(r.t.id==(id:Int))=true:=by rw[t2];simp;omega
  rw[t1,t4,f];rfl
 ·rw[if_neg q]
  by_cases z:id%64<nb
  ·obtain⟨t1,t2,t3⟩:=b z
   have t4:(r.t.id==(id:Int))=false:=(by rw[t2,beq_eq_false_iff_ne];omega);rw[t4];simp
  ·obtain⟨t1,t2⟩:=g (by omega)
   rw[t1];rfl
theorem O1(h:cR base K.ds a)(id:Nat):cx K (id:Int)=if 64<=id/\id<64+a.nb then 1 else 0:=by
 have b:HF a.nb K.table:=h.tab;unfold cx fq;rw[KL b];by_cases q:64<=id/\id<64+a.nb
 ·rw[if_pos q,if_pos q]
  dsimp only;have:=b.le;obtain⟨r,c⟩:=b.at_ (p:=id-64) (by omega);rw[c];exact((b.row _ r c).1 (by omega)).2.2
 ·rw[if_neg q,if_neg q];rfl
theorem HF.be(h:HF nb l)(id:Nat):HF nb (jJ l (id:Int) 1).2:=by
 unfold jJ;rw[KL h];by_cases q:64<=id/\id<64+nb
 ·rw[if_pos q]
  dsimp only;have:=h.le;obtain⟨r,g⟩:=h.at_ (p:=id-64) (by omega);rw[g];dsimp only;split
  ·exact h
  ·split
   ·exact h
   ·refine⟨by rw[List.length_set];exact h.len,h.le,fun p y b=> ?_⟩
    have b:(l.set (id-64) _)[p]?=some y:=b;rw[List.getElem?_set]at b;by_cases e:id-64=p
    ·rw[if_pos e,if_pos (by rw[h.len];omega)]at b
     obtain⟨c,f⟩:=h.row p r (e▸g);rw[<-Option.some.inj b];exact⟨fun z=>⟨(c z).1,(c z).2.1,rfl⟩,fun z=>⟨(f z).1,(f z).2⟩⟩
    ·rw[if_neg e]at b
     exact h.row p y b
 ·rw[if_neg q];exact h
theorem L8(l:List Nat)(id:Nat):(l.map fun y:Nat=>(y:Int)).any (fun r=>r==(id:Int))=l.any fun r=>r==id:=by
 induction l with
 |nil=>rfl
 |cons y l ih=>
  rw[List.map_cons,List.any_cons,List.any_cons,ih]
  congr 1
  by_cases e:y=id
  ·subst e;simp
  ·have b:(y==id)=false:=by rw[beq_eq_false_iff_ne];exact e
   have c:((y:Int)==(id:Int))=false:=(by rw[beq_eq_false_iff_ne];omega);rw[b,c]
theorem L9(h:cR base K.ds a)(id:Nat):K.wk.any (fun x=>x.hand==(id:Int))=a.wk.any fun w=>w.hand==id:=by
 have j:K.wk.length=a.wk.length:=h.wn;rw[Bool.eq_iff_iff,List.any_eq_true,List.any_eq_true]
 constructor
 ·rintro⟨y,g,e⟩
  obtain⟨n,b⟩:=List.getElem?_of_mem g;obtain⟨z,c⟩:∃z,a.wk[n]?=some z:=⟨_,List.getElem?_eq_getElem (by rw[<-j];exact(List.getElem?_eq_some_iff.1 b).1)⟩;obtain⟨o,m,f⟩:=h.wk n z c;obtain rfl:y=o:=Option.some.inj (b.symm.trans m);refine⟨z,List.mem_of_getElem? c,?_⟩;have:=f.hand;simp at e⊢;omega
 ·rintro⟨z,c,e⟩
  obtain⟨n,b⟩:=List.getElem?_of_mem c;obtain⟨y,g,f⟩:=h.wk n z b;refine⟨y,List.mem_of_getElem? g,?_⟩;have:=f.hand;simp at e⊢;omega
theorem KM(h:cR base K.ds a)(f:a.wk[i]?=some w)(id:Nat):cR base (eB K i (id:Int)).ds (a.put i (if w.hand=0/\a.may id=true then {w with hand:=id}else w)):=by
 obtain⟨n,hw⟩:=h.at_ f;have e:cR base K.ds (a.put i w):=by rw[JP f];exact h
 have g:K.ring.any (fun r=>r==(id:Int))=a.ring.any fun r=>r==id:=by rw[show K.ring=_ from h.ring];exact L8 _ _
 unfold eB;rw[L9 h,g,O1 h];unfold AS.may;by_cases b:w.hand=0
 ·by_cases c:64<=id/\id<64+a.nb
  ·rw[if_neg (by rw[hw.hand,b,if_pos c];simp)]
   cases j:a.wk.any fun w=>w.hand==id with
   |true=>simp[b,c];exact e
   |false=>
    cases m:a.ring.any fun r=>r==id with
    |true=>simp[b,c];exact e
    |false=>
     simp[b,c];exact L5 h ⟨hw.slot,rfl,hw.pc,hw.r,hw.back,hw.u⟩
  ·rw[if_pos (Or.inr (by rw[if_neg c];decide))]
   simp[b,c];exact e
 ·rw[if_pos (Or.inl (by rw[hw.hand];omega))]
  simp[b];exact e
theorem O2(h:cR base K.ds a)(n:a.ring.length<64)(id:Nat):cR base (cc K (id:Int)).ds (a.lay id):=by
 have f:=h.acc (j:=0) h.n0 3 0 1;have b:=h.set 0 (v:=(a.c 0+1)%qO) (Nat.mod_lt _ (by decide));have e:(K.mem.acc 3 0 0 1).2={K.mem with cells:=K.mem.cells.set 0 (((a.c 0+1)%qO:Nat):Int)}:=by
  have f:K.mem.acc 3 ((0:Nat):Int) 0 1=_:=f;rw[show((0:Nat):Int)=0 from rfl]at f;rw[f,if_pos rfl];dsimp only;rw[show(1:Int)=((1:Nat):Int)from rfl,Ni];rfl
 have m:K.ring=a.ring.map fun y:Nat=>(y:Int):=h.ring
 have g:(g6 K.ring (id:Int)).2=(a.ring++[id]).map fun y:Nat=>(y:Int):=by
  unfold g6;rw[m,List.length_map,if_neg (by omega),List.map_append];rfl
 exact {b with
  ring:=g
  tab:=(show HF a.nb K.table from h.tab).be id
  cl:=by show(K.mem.acc 3 0 0 1).2.cells.length=_;rw[e];exact b.cl
  wl:=by show(K.mem.acc 3 0 0 1).2.width.length=_;rw[e];exact b.wl
  c:=fun j hj=>by show(K.mem.acc 3 0 0 1).2.cells[j]?=_;rw[e];exact b.c j hj
  w:=fun j hj=>by show(K.mem.acc 3 0 0 1).2.width[j]?=_;rw[e];exact b.w j hj}
end
end
section
section
variable{base:Nat}{C:KC}{K:KS}{a a':AS}{i d:Nat}{w w':AW}{x:aV}{k v id nb:Nat}
theorem JQ(h:cR base K.ds a)(b:a.wk[i]?=some w):cR base (K.be i {K.W i with hand:=0}).ds (a.put i {w with hand:=0}):=by
 obtain⟨c,hw⟩:=h.at_ b;exact L5 h ⟨hw.slot,rfl,hw.pc,hw.r,hw.back,hw.u⟩
theorem Nk(h:cR base K.ds a)(b:a.wk[i]?=some w)(e:C.dx[w.pc]?=some x)(l:bt x C.dx.length=true)(c:C.dx.length<1000000)(Gf:x.op=30):
 JN base C K i d (ck x a i d w):=by
 have m:=HL (d:=d) h b;have n:w.pc<1000000:=Nat.lt_trans (List.getElem?_eq_some_iff.1 e).1 c;obtain⟨r,hw⟩:=m.at_ b;have j:=G8 b;have p:((Gc K i d).F (.own i)).r x.a.toNat=((w.r x.a.toNat:Nat):Int):=by
  show((Gc K i d).W i).f.r _=_
  rw[hw.r]
 have g:ay C (Gc K i d) i none (.own i) x=(0,eB (Gc K i d) i ((w.r x.a.toNat:Nat):Int)):=by
  unfold ay bU;simp only[Gf,Int.reduceEq,if_false,if_true,reduceIte,or_false,false_or,true_or,or_true];rw[p]
 have f:=KM m b (w.r x.a.toNat);have o:ck x a i d w=a.put i (if w.hand=0/\a.may (w.r x.a.toNat)=true then {w with pc:=w.pc+1,hand:=w.r x.a.toNat}else {w with pc:=w.pc+1}):=by unfold ck;simp[Gf]
 rw[o];split at f
 ·rename_i q
  rw[if_pos q];have:=FV h b e l (by omega) g c f (Gb j) n
  rwa [Ga]at this
 ·rename_i q
  rw[if_neg q];have:=FV h b e l (by omega) g c f (Gb j) n
  rwa [Ga]at this
theorem Nl(h:cR base K.ds a)(b:a.wk[i]?=some w)(g:C.dx[w.pc]?=some x)(l:bt x C.dx.length=true)(e:C.dx.length<1000000)(q:w.hand≠0->a.ring.length<64)(Gf:x.op=33):
 JN base C K i d (ck x a i d w):=by
 have j:=HL (d:=d) h b;have m:w.pc<1000000:=Nat.lt_trans (List.getElem?_eq_some_iff.1 g).1 e;obtain⟨r,hw⟩:=j.at_ b;have p:=G8 b;have f:=hw.hand;have o:ck x a i d w=if w.hand=0 then a.put i {w with pc:=w.pc+1}else(a.lay w.hand).put i {w with pc:=w.pc+1,hand:=0}:=by unfold ck;simp[Gf]
 rw[o];have c:ay C (Gc K i d) i none (.own i) x=(0,bU (Gc K i d) i (.own i) x):=by
  unfold ay;simp only[Gf,Int.reduceEq,if_false,if_true,reduceIte,or_false,false_or,true_or,or_true]
 unfold bU at c;simp only[Gf,Int.reduceEq,if_false,if_true,reduceIte,or_false,false_or,true_or,or_true]at c;by_cases z:w.hand=0
 ·rw[if_neg (by rw[f,z];simp)]at c
  rw[if_pos z];exact FV h b g l (by omega) c e j b m
 ·rw[if_pos (by rw[f];omega)]at c
  rw[if_neg z];have n:=O2 j (q z) w.hand;rw[<-f]at n;have:=FV h b g l (by omega) c e (JQ n b) (Gb p) m
  rwa [Ga]at this
theorem Nn(h:cR base K.ds a)(e:a.wk[i]?=some w)(j:C.dx[w.pc]?=some x)(o:bt x C.dx.length=true)(g:C.dx.length<1000000)(hb:x.b=-1∨0<=x.b/\x.b<32)(r:0<=x.v)(m:GK x w.r<a.hl)(Gf:x.op=31):
 JN base C K i d (ck x a i d w):=by
 have f:=HL (d:=d) h e;have p:w.pc<1000000:=Nat.lt_trans (List.getElem?_eq_some_iff.1 j).1 g;obtain⟨s,hw⟩:=f.at_ e;have n:=G8 e;have hF:((Gc K i d).F (.own i)).r=fun k=>(w.r k:Int):=hw.r
 have acc:(Gc K i d).mem.acc 1 ((GK x w.r:Nat):Int) 0 ((w.r x.a.toNat:Nat):Int)=_:=f.acc m 1 0 _;have b:ay C (Gc K i d) i none (.own i) x=bb (Gc K i d) i (.own i) x:=by
  unfold ay;simp only[Gf,Int.reduceEq,if_false,if_true,reduceIte,or_false,false_or,true_or,or_true]
 unfold bb at b;simp only[Gf,if_true,reduceIte]at b;rw[hF,L4 w.r hb r,acc]at b;simp only[Int.reduceEq,if_false,if_true,reduceIte,true_or,Option.isNone_some,Bool.false_eq_true]at b;have l:ck x a i d w=({a with c:=cf a.c (GK x w.r) (w.r x.a.toNat)}:AS).put i {w with pc:=w.pc+1,hand:=0}:=by unfold ck;simp[Gf]
 rw[l];have q:=f.set (GK x w.r) (hw.u x.a.toNat);have:=FV h e j o (by omega) b g (JQ (K:={Gc K i d with mem:=_}) q e) (Gb n) p
 rwa [Ga]at this
theorem No{l:List AW}{i:Nat}(b:l[i]?=some w)(c:w'.hand=w.hand):(l.set i w').any (fun y=>y.hand==id)=l.any fun y=>y.hand==id:=by
 induction l generalizing i with
 |nil=>rfl
 |cons y l ih=>
  cases i with
  |zero=>
   obtain rfl:y=w:=Option.some.inj b;rw[List.set_cons_zero,List.any_cons,List.any_cons,c]
  |succ i=>
   rw[List.set_cons_succ,List.any_cons,List.any_cons,ih (i:=i) (by simpa using b)]
theorem Np(c:a.wk[i]?=some w)(b:w'.hand=w.hand):(a.put i w').may id=a.may id:=by
 unfold AS.may AS.put;dsimp only;rw[No c b]
theorem Nq(h:cR base K.ds a)(f:a.wk[i]?=some w)(u:C.dx[w.pc]?=some x)(D:bt x C.dx.length=true)(t:C.dx.length<1000000)(hb:x.b=-1∨0<=x.b/\x.b<32)(H:0<=x.v)(s:GK x w.r<a.hl)(Gf:x.op=32):
 JN base C K i d (ck x a i d w):=by
 have g:=HL (d:=d) h f;have y:w.pc<1000000:=Nat.lt_trans (List.getElem?_eq_some_iff.1 u).1 t;obtain⟨L,hw⟩:=g.at_ f;have j:=G8 f;have hF:((Gc K i d).F (.own i)).r=fun k=>(w.r k:Int):=hw.r
 have acc:(Gc K i d).mem.acc 4 ((GK x w.r:Nat):Int) ((w.r x.a.toNat:Nat):Int) ((w.r x.c.toNat:Nat):Int)=_:=g.acc s 4 _ _;have b:ay C (Gc K i d) i none (.own i) x=bb (Gc K i d) i (.own i) x:=by
  unfold ay;simp only[Gf,Int.reduceEq,if_false,if_true,reduceIte,or_false,false_or,true_or,or_true]
 unfold bb at b;rw[if_neg (by omega)]at b;dsimp only at b;rw[hF,L4 w.r hb H,acc]at b;rw[if_neg (by decide),if_pos rfl]at b;dsimp only at b;have hcut:∀(m:aF) (v:Int),m.wid ((GK x w.r:Nat):Int)=64->gT (m.wid ((GK x w.r:Nat):Int)) v=v:=fun m v e=>by rw[e,L0]
 by_cases z:a.c (GK x w.r)=w.r x.a.toNat
 ·have l:((a.c (GK x w.r):Nat):Int)=((w.r x.a.toNat:Nat):Int):=by rw[z]
  rw[if_pos l]at b;have G:=g.set (GK x w.r) (hw.u x.c.toNat);have o:=Hx (K:={Gc K i d with mem:=_}) G f x.a.toNat (h.u (GK x w.r));obtain⟨_,I⟩:=o.at_ (Gb j);have B:({(Gc K i d).mem with cells:=(Gc K i d).mem.cells.set (GK x w.r) ((w.r x.c.toNat:Nat):Int)}:aF).wid ((GK x w.r:Nat):Int)=64:=g.wid s;have p:ck x a i d w=({a with c:=cf a.c (GK x w.r) (w.r x.c.toNat)}:AS).put i (if w.hand=0/\a.may (cf w.r x.a.toNat (a.c (GK x w.r)) 16)=true then {w with pc:=w.pc+1,r:=cf w.r x.a.toNat (a.c (GK x w.r)),hand:=cf w.r x.a.toNat (a.c (GK x w.r)) 16}else {w with pc:=w.pc+1,r:=cf w.r x.a.toNat (a.c (GK x w.r))}):=by
   unfold ck;simp only[Gf,Int.reduceEq,Int.reduceLE,if_false,if_true,reduceIte,and_false,false_and,z]
  rw[p]
  replace b:=b.trans (if_pos (l.trans (hcut _ _ B).symm))
  have A:=KM o (Gb j) (cf w.r x.a.toNat (a.c (GK x w.r)) 16);have E:∀id,(({a with c:=cf a.c (GK x w.r) (w.r x.c.toNat)}:AS).put i {w with r:=cf w.r x.a.toNat (a.c (GK x w.r))}).may id=a.may id:=fun id=>Np (a:={a with c:=cf a.c (GK x w.r) (w.r x.c.toNat)}) f rfl
  rw[E]at A;have F:((KS.au {Gc K i d with mem:={(Gc K i d).mem with cells:=(Gc K i d).mem.cells.set (GK x w.r) ((w.r x.c.toNat:Nat):Int)}} (.own i) x.a.toNat ((a.c (GK x w.r):Nat):Int)).F (.own i)).r 16=((cf w.r x.a.toNat (a.c (GK x w.r)) 16:Nat):Int):=congrFun I.r 16;rw[<-F]at A;have n:=fun J q=>FV h f u D (by omega) b t (w':=J) A q
  split
  ·rename_i q
   rw[if_pos q]at n;have:=n _ (Gb (by show i<(a.wk.set i _).length;rw[List.length_set];exact j)) y
   rwa [Ga,Ga]at this
  ·rename_i q
   rw[if_neg q]at n;have:=n _ (Gb (by show i<(a.wk.set i _).length;rw[List.length_set];exact j)) y
   rwa [Ga,Ga]at this
 ·have l:¬((a.c (GK x w.r):Nat):Int)=((w.r x.a.toNat:Nat):Int):=by omega
  rw[if_neg l]at b;have o:=Hx (K:=Gc K i d) g f x.a.toNat (h.u (GK x w.r));have B:(Gc K i d).mem.wid ((GK x w.r:Nat):Int)=64:=g.wid s;rw[if_neg (fun q=>l (q.trans (hcut _ _ B)))]at b;have p:ck x a i d w=a.put i {w with pc:=w.pc+1,r:=cf w.r x.a.toNat (a.c (GK x w.r))}:=by
   unfold ck;simp only[Gf,Int.reduceEq,Int.reduceLE,if_false,if_true,reduceIte,and_false,false_and,z]
  rw[p];have:=FV h f u D (by omega) b t o (Gb j) y
  rwa [Ga]at this
end
end
section
def Nr(b:Nat)(l:List ic)(i:Nat):Nat:=if i=0 then b else match l[i-1]? with|some x=>x.at_+x.n|none=>0
theorem Jd(b:Nat)(x:ic)(l:List ic)(i:Nat):Nr b (x::l) (i+1)=Nr (x.at_+x.n) l i:=by
 cases i with
 |zero=>rfl
 |succ i=>rfl
theorem ID{b e:Nat}{l:List ic}(h:Ib b l e):Nr b l l.length=e:=by
 induction l generalizing b with
 |nil=>exact h
 |cons x l ih=>
  obtain⟨c,_,d⟩:=h;rw[List.length_cons,Jd,c];exact ih d
theorem Js{b e:Nat}{l:List ic}(h:Ib b l e){i:Nat}{x:ic}(c:l[i]?=some x):x.at_=Nr b l i:=by
 induction l generalizing b i with
 |nil=>cases c
 |cons y l ih=>
  obtain⟨d,_,f⟩:=h;cases i with
  |zero=>
   obtain rfl:y=x:=Option.some.inj c;exact d
  |succ i=>
   rw[Jd,d];exact ih f c
theorem Ks{b e n:Nat}{l:List ic}(h:Ib b l e)(c:0<n):Ib b (l++[⟨e,n,64⟩]) (e+n):=by
 induction l generalizing b with
 |nil=>obtain rfl:b=e:=h;exact⟨rfl,c,rfl⟩
 |cons x l ih=>exact⟨h.1,h.2.1,ih h.2.2⟩
theorem Iv(l:List Int)(a:Nat)(v:Int)(n j:Nat):(au l a v n)[j]?=if a<=j/\j<a+n/\j<l.length then some v else l[j]?:=by
 induction n with
 |zero=>rw[if_neg (by omega)];rfl
 |succ n ih=>
  rw[au,List.getElem?_set,ih,dj];by_cases e:a+n=j
  ·rw[if_pos e]
   by_cases g:j<l.length
   ·rw[if_pos (by omega),if_pos (by omega)]
   ·rw[if_neg (by omega),if_neg (by omega),List.getElem?_eq_none (by omega)]
  ·rw[if_neg e]
   by_cases g:a<=j/\j<a+n/\j<l.length
   ·rw[if_pos g,if_pos (by omega)]
   ·rw[if_neg g,if_neg (by omega)]
section
variable{base:Nat}{s:DS}{a:AS}{n:Nat}
theorem KN(h:cR base s a)(o:1<=n):s.bB.find n=if a.hl+n<=a.Gx then some s.bB.l.length else none:=by
 have k:∀f i,i+f=s.bB.l.length+1->s.bB.jR n f i=if i<=s.bB.l.length/\a.hl+n<=a.Gx then some s.bB.l.length else none:=by
  intro f
  induction f with
  |zero=>intro i l;rw[if_neg (by omega)];rfl
  |succ f ih=>
   intro i l;unfold aZ.jR;by_cases e:i=s.bB.l.length
   ·have c:s.bB.fV i=a.Gx:=by unfold aZ.fV;rw[if_pos e,h.bt]
    have d:s.bB.ee i=a.hl:=by
     have:=ID h.bl;rw[<-h.bf,<-e]at this;exact this
    rw[c,d,ih (i+1) (by omega)];have:=h.nl;by_cases g:a.hl+n<=a.Gx
    ·rw[if_neg (by omega),if_pos ⟨by omega,g⟩,e]
    ·rw[if_pos (by omega),if_neg (by omega),if_neg (by omega)]
   ·have m:i<s.bB.l.length:=by omega
    have j:s.bB.fV i=s.bB.ee i:=by
     have b:s.bB.l[i]?=some s.bB.l[i]:=List.getElem?_eq_getElem m;unfold aZ.fV;rw[if_neg e,b];have:=Js h.bl b;rw[<-h.bf]at this;exact this
    rw[j,if_pos (by omega),ih (i+1) (by omega)];by_cases g:a.hl+n<=a.Gx
    ·rw[if_pos ⟨by omega,g⟩,if_pos ⟨by omega,g⟩]
    ·rw[if_neg (by omega),if_neg (by omega)]
 unfold aZ.find;rw[k _ 0 (by omega)];by_cases g:a.hl+n<=a.Gx
 ·rw[if_pos ⟨by omega,g⟩,if_pos g]
 ·rw[if_neg (by omega),if_neg g]
theorem L'(h:cR base s a)(c:1<=n)(b:¬a.hl+n<=a.Gx):c' s.bB s.mem n=(none,s.bB,s.mem):=by
 unfold c';rw[KN h c,if_neg b]
 split<;>rfl
theorem Jt(h:cR base s a)(k:1<=n)(o:n<=4096)(b:a.hl+n<=a.Gx):
 c' s.bB s.mem n=(some a.hl,{s.bB with l:=s.bB.l++[⟨a.hl,n,64⟩]},s.mem.laid a.hl n 64)/\
 cR base {s with bB:={s.bB with l:=s.bB.l++[⟨a.hl,n,64⟩]},mem:=s.mem.laid a.hl n 64} {a with hl:=a.hl+n,c:=fun q=>if a.hl<=q/\q<a.hl+n then 0 else a.c q}:=by
 have e:s.bB.ee s.bB.l.length=a.hl:=by
  have:=ID h.bl;rw[<-h.bf]at this;exact this
 have m:s.mem.iO a.hl n false=true:=An (by rw[h.cl];exact b) (fun i p=>by
  rw[List.getD_eq_getElem?_getD,h.w _ (by omega),if_neg (by omega)];rfl)
 constructor
 ·unfold c'
  rw[if_neg (by omega),KN h k,if_pos b];dsimp only;rw[e];have f:s.mem.map a.hl n 64=(true,s.mem.laid a.hl n 64):=by unfold aF.map;exact if_pos ⟨by omega,m⟩
  rw[f,if_pos rfl,List.take_length,List.drop_length,List.append_nil]
 ·exact {h with
   cl:=by show(au _ _ _ _).length=_;rw[dj];exact h.cl
   wl:=by show(au _ _ _ _).length=_;rw[dj];exact h.wl
   nl:=b
   n0:=by have:=h.n0;show 0<a.hl+n;omega
   c:=fun j hj=>by
    have hj:j<a.hl+n:=hj;show(au s.mem.cells a.hl 0 n)[j]?=some (((if a.hl<=j/\j<a.hl+n then 0 else a.c j:Nat)):Int)
    rw[Iv];by_cases g:a.hl<=j/\j<a.hl+n
    ·rw[if_pos ⟨g.1,g.2,by rw[h.cl];omega⟩,if_pos g];rfl
    ·rw[if_neg (by omega),if_neg g];exact h.c j (by omega)
   u:=fun j=>by
    show(if a.hl<=j/\j<a.hl+n then 0 else a.c j)<qO
    split
    ·decide
    ·exact h.u j
   w:=fun j hj=>by
    have hj:j<a.Gx:=hj;show(au s.mem.width a.hl 64 n)[j]?=some (if j<a.hl+n then 64 else 0)
    rw[Iv,h.w j hj,h.wl];by_cases g:a.hl<=j/\j<a.hl+n
    ·rw[if_pos ⟨g.1,g.2,hj⟩,if_pos g.2]
    ·rw[if_neg (by omega)]
     by_cases d:j<a.hl
     ·rw[if_pos d,if_pos (by omega)]
     ·rw[if_neg d,if_neg (by omega)]
   bl:=Ks h.bl (by omega)}
theorem oz{base e:Nat}{l:List ic}(h:Ib base l e)(y:ic)(f:y.at_=e):∀i,l3 (l++[y]) (e:Int) i=some (i+l.length):=by
 induction l generalizing base with
 |nil=>
  intro i;show(if(y.at_:Int)==(e:Int)then some i else _)=_
  rw[f,if_pos (by simp)];rfl
 |cons x l ih=>
  intro i;obtain⟨j,k,c⟩:=h;have g:∀(b:Nat) (l:List ic),Ib b l e->b<=e:=by
   intro b l
   induction l generalizing b with
   |nil=>intro q;exact Nat.le_of_eq q
   |cons z l ih=>intro q;have:=ih _ q.2.2;omega
  have:=g _ _ c;have d:((x.at_:Int)==(e:Int))=false:=by rw[beq_eq_false_iff_ne];omega
  show(if(x.at_:Int)==(e:Int)then some i else l3 (l++[y]) (e:Int) (i+1))=_
  rw[d,if_neg (by decide),ih c,List.length_cons]
  congr 1
  omega
theorem oA(h:cR base s a)(d:a.hl+1<=a.Gx):∃b,mr {s.bB with l:=s.bB.l++[⟨a.hl,1,64⟩]} (s.mem.laid a.hl 1 64) (a.hl:Int)=(true,s.bB,b)/\cR base {s with mem:=b} a:=by
 have e:(s.mem.laid a.hl 1 64).iO a.hl 1 true=true:=An (by show _<=(au _ _ _ _).length;rw[dj,h.cl];exact d) (fun i k=>by
  show((au s.mem.width a.hl 64 1).getD (a.hl+i) 0 !=0)=true
  rw[List.getD_eq_getElem?_getD,Iv,if_pos ⟨by omega,by omega,by rw[h.wl];omega⟩]
  rfl)
 have f:(s.mem.laid a.hl 1 64).fX a.hl 1=(true,(s.mem.laid a.hl 1 64).laid a.hl 1 0):=by unfold aF.fX;exact if_pos ⟨by omega,e⟩
 refine⟨(s.mem.laid a.hl 1 64).laid a.hl 1 0,?_,{h with
  cl:=by show(au (au _ _ _ _) _ _ _).length=_;rw[dj,dj];exact h.cl
  wl:=by show(au (au _ _ _ _) _ _ _).length=_;rw[dj,dj];exact h.wl
  c:=fun j hj=>by
   show(au (au s.mem.cells a.hl 0 1) a.hl 0 1)[j]?=_
   rw[Iv,if_neg (by omega),Iv,if_neg (by omega)];exact h.c j hj
  w:=fun j hj=>by
   show(au (au s.mem.width a.hl 64 1) a.hl 0 1)[j]?=_
   rw[Iv,Iv,h.w j hj,dj,h.wl];by_cases g:j=a.hl
   ·rw[if_pos ⟨by omega,by omega,hj⟩,if_neg (by omega)]
   ·rw[if_neg (by omega),if_neg (by omega)]}⟩
 unfold mr;dsimp only;rw[oz h.bl ⟨a.hl,1,64⟩ rfl 0,Nat.zero_add];dsimp only;rw[List.getElem?_append_right (Nat.le_refl _),Nat.sub_self];dsimp only[List.getElem?_cons_zero];rw[f,List.eraseIdx_append_of_length_le (Nat.le_refl _),Nat.sub_self];show(true,{s.bB with l:=s.bB.l++[]},_)=_
 rw[List.append_nil]
end
end
section
section
variable{base:Nat}{C:KC}{K:KS}{a a':AS}{i d:Nat}{w w':AW}{x:aV}{k v id nb:Nat}{l:List aD}
theorem Ic(r:Nat->Nat)(k u v:Nat):cf (cf r k u) k v=cf r k v:=by
 funext j
 unfold cf
 split<;>rfl
theorem Ns(h:cR base K.ds a)(n:a.wk[i]?=some w)(u:C.dx[w.pc]?=some x)(F:bt x C.dx.length=true)(t:C.dx.length<1000000)(hb:0<=x.b/\x.b<32)(Gf:x.op=43):
 JN base C K i d (ck x a i d w):=by
 have G:=HL (d:=d) h n;have H:w.pc<1000000:=Nat.lt_trans (List.getElem?_eq_some_iff.1 u).1 t;obtain⟨S,hw⟩:=G.at_ n;have o:=G8 n;have L:((Gc K i d).F (.own i)).r x.b.toNat=((cX x w.r:Nat):Int):=by
  show((Gc K i d).W i).f.r _=_
  rw[hw.r];rfl
 have b:ay C (Gc K i d) i none (.own i) x=(0,bd (Gc K i d) (.own i) x):=by
  unfold ay;simp only[Gf,Int.reduceEq,if_false,if_true,reduceIte,or_false,false_or,true_or,or_true]
 unfold bd at b;simp only[Gf,hb.1,if_true,reduceIte]at b;rw[L]at b;have E:=Hx G n x.a.toNat (v:=0) (by decide);have J:ck x a i d w=if 1<=cX x w.r/\cX x w.r<=4096/\a.hl+cX x w.r<=a.Gx then({a with hl:=a.hl+cX x w.r,c:=fun q=>if a.hl<=q/\q<a.hl+cX x w.r then 0 else a.c q}:AS).put i {w with pc:=w.pc+1,r:=cf w.r x.a.toNat a.hl}else a.put i {w with pc:=w.pc+1,r:=cf w.r x.a.toNat 0}:=by unfold ck;simp[Gf]
 rw[J];have key:∀{K1:KS} {a1:AS} {w1:AW} {v:Nat} {A:Int},cR base K1.ds a1->a1.wk[i]?=some w1->v<qO->w1.pc=w.pc->ay C (Gc K i d) i none (.own i) x=(0,K1.au (.own i) x.a.toNat A)->A=(v:Int)->JN base C K i d (a1.put i {w1 with pc:=w1.pc+1,r:=cf w1.r x.a.toNat v}):=fun {K1 a1 w1 v A} j p N O P Q=>by
  subst Q;have:=FV h n u F (by omega) P t (Hx j p x.a.toNat N) (Gb (G8 p)) (by rw[O];exact H)
  rwa [Ga]at this
 have m:cR base ((Gc K i d).au (.own i) x.a.toNat 0).ds (a.put i {w with r:=cf w.r x.a.toNat 0}):=E;clear E;generalize R:(Gc K i d).au (.own i) x.a.toNat 0=f at b m;by_cases D:cX x w.r<=4096
 ·rw[if_pos (by omega)]at b
  by_cases s:1<=cX x w.r
  ·by_cases g:a.hl+cX x w.r<=a.Gx
   ·rw[if_pos ⟨s,D,g⟩]
    obtain⟨j,p⟩:=Jt m s D g;have j:c' f.blocks f.mem (cX x w.r)=_:=j;rw[Int.toNat_natCast,j]at b;dsimp only at b;have M:a.hl<qO:=(by have:=h.Gx;unfold qO;omega);have:=key (K1:={f with blocks:=_,mem:=_}) p (Gb o) M rfl b rfl;rw[Ic]at this;exact(by
     have e:∀(s2:AS) (y z:AW),s2.put i z=s2.put i z:=fun _ _ _=>rfl
     rwa [show∀(B:Nat->Nat) (I:Nat),({a.put i {w with r:=cf w.r x.a.toNat 0}with hl:=I,c:=B}:AS)=({a with hl:=I,c:=B}:AS).put i {w with r:=cf w.r x.a.toNat 0}from fun _ _=>rfl,Ga]at this)
   ·rw[if_neg (by omega)]
    have j:=L' m s g;have j:c' f.blocks f.mem (cX x w.r)=(none,f.blocks,f.mem):=j;rw[Int.toNat_natCast,j]at b;dsimp only at b;have:=key (v:=0) (K1:=f) m (Gb o) (by decide) rfl b rfl
    rwa [Ga,Ic]at this
  ·rw[if_neg (by omega)]
   have j:c' f.blocks f.mem (cX x w.r)=(none,f.blocks,f.mem):=(by unfold c';rw[if_pos (by omega)]);rw[Int.toNat_natCast,j]at b;dsimp only at b;have:=key (v:=0) (K1:=f) m (Gb o) (by decide) rfl b rfl
   rwa [Ga,Ic]at this
 ·rw[if_neg (by omega)]at b
  rw[if_neg (by omega)];have:=FV h n u F (by omega) b t m (Gb o) H
  rwa [Ga]at this
theorem Ma(h:HF nb l)(j:nb<64):iB l 0=some nb:=by
 have g:∀(n k:Nat) (t:List aD),(∀p,p<n->∃r,t[p]?=some r/\r.taken=true)->(∃r,t[n]?=some r/\r.taken=false)->iB t k=some (k+n):=by
  intro n
  induction n with
  |zero=>
   rintro k t _ ⟨r,b,c⟩;cases t with
   |nil=>cases b
   |cons y t=>
    obtain rfl:y=r:=Option.some.inj b;unfold iB;rw[c];rfl
  |succ n ih=>
   rintro k t e ⟨r,b,c⟩;cases t with
   |nil=>cases b
   |cons y t=>
    obtain⟨z,u,s⟩:=e 0 (by omega);obtain rfl:y=z:=Option.some.inj u;unfold iB;rw[s,if_pos rfl,ih (k+1) t (fun p f=>by obtain⟨q,m,o⟩:=e (p+1) (by omega);exact⟨q,m,o⟩) ⟨r,b,c⟩]
    congr 1
    omega
 have:=g nb 0 l (fun p f=>by obtain⟨r,b⟩:=h.at_ (p:=p) (by omega);exact⟨r,b,((h.row p r b).1 f).1⟩) (by obtain⟨r,b⟩:=h.at_ (p:=nb) j;exact⟨r,b,((h.row nb r b).2 (by omega)).1⟩)
 rwa [Nat.zero_add]at this
theorem Mb(h:HF nb l)(c:nb<64)(home:Int):∃l',db l home=(some ((64+nb:Nat):Int),l')/\HF (nb+1) l':=by
 obtain⟨r,f⟩:=h.at_ (p:=nb) c;obtain⟨m,j⟩:=(h.row nb r f).2 (by omega);have e:IntKind.u64.wrap ((nb:Int)+IntKind.u64.wrap (64*IntKind.u64.wrap (r.times+1)))=((64+nb:Nat):Int):=by
  rw[j,show IntKind.u64.wrap ((0:Int)+1)=1 by decide,show IntKind.u64.wrap ((64:Int)*1)=64 by decide,IntWalk.u64_in _ (by omega)];omega
 refine⟨_,by unfold db;rw[Ma h c];dsimp only;rw[f];dsimp only;rw[e],by rw[List.length_set];exact h.len,by omega,fun p y b=> ?_⟩;have b:(l.set nb _)[p]?=some y:=b;rw[List.getElem?_set]at b;by_cases g:nb=p
 ·rw[if_pos g,if_pos (by rw[h.len];exact c)]at b
  rw[<-Option.some.inj b];exact⟨fun _=>⟨rfl,by rw[<-g],rfl⟩,fun q=>absurd q (by omega)⟩
 ·rw[if_neg g]at b
  have:=h.row p y b;exact⟨fun q=>this.1 (by omega),fun q=>this.2 (by omega)⟩
theorem oE(h:HF 64 l)(home:Int):db l home=(none,l):=by
 have f:∀(t:List aD) (k:Nat),(∀r∈t,r.taken=true)->iB t k=none:=by
  intro t
  induction t with
  |nil=>intro k _;rfl
  |cons y t ih=>
   intro k c;unfold iB;rw[c y (List.mem_cons_self ..),if_pos rfl];exact ih _ (fun r b=>c r (List.mem_cons_of_mem _ b))
 unfold db;rw[f l 0 (fun r b=>by
  obtain⟨p,g,e⟩:=List.mem_iff_getElem.1 b;have:=h.len;exact((h.row p r (by rw[List.getElem?_eq_getElem g,e])).1 (by omega)).1)]
end
end
section
section
variable{base:Nat}{C:KC}{K:KS}{a a':AS}{i d:Nat}{w w':AW}{x:aV}{k v id nb:Nat}{l:List aD}
theorem Nt(h:cR base K.ds a)(b:¬a.hl+1<=a.Gx)(p c:Int):bF K p c=(0,K):=by
 have q:=L' h (Nat.le_refl 1) b;have q:c' K.blocks K.mem 1=(none,K.blocks,K.mem):=q;unfold bF;rw[q]
theorem JR(h:cR base K.ds a)(g:a.hl+1<=a.Gx)(j:a.nb<64)(p n:Int):∃K2,bF K p n=(((64+a.nb:Nat):Int),K2)/\K2.wk=K.wk/\cR base K2.ds {a with hl:=a.hl+1,nb:=a.nb+1,c:=cf a.c a.hl 0}:=by
 obtain⟨b,f⟩:=Jt h (Nat.le_refl 1) (by omega) g;have b:c' K.blocks K.mem 1=(some a.hl,{K.blocks with l:=K.blocks.l++[⟨a.hl,1,64⟩]},K.mem.laid a.hl 1 64):=b;have m:HF a.nb K.table:=h.tab;obtain⟨l',t1,t2⟩:=Mb m j (a.hl:Int);have ec:(fun q=>if a.hl<=q/\q<a.hl+1 then 0 else a.c q)=cf a.c a.hl 0:=by
  funext q
  unfold cf;by_cases e:q=a.hl
  ·rw[if_pos (by omega),if_pos e]
  ·rw[if_neg (by omega),if_neg e]
 rw[ec]at f;unfold bF;rw[b];dsimp only;rw[t1];dsimp only;refine⟨_,rfl,rfl,?_⟩;exact {f with tab:=t2}
theorem ns(h:cR base K.ds a)(e:a.hl+1<=a.Gx)(j:a.nb=64)(p n:Int):∃K2,bF K p n=(0,K2)/\K2.wk=K.wk/\cR base K2.ds a:=by
 obtain⟨c,-⟩:=Jt h (Nat.le_refl 1) (by omega) e;have c:c' K.blocks K.mem 1=(some a.hl,{K.blocks with l:=K.blocks.l++[⟨a.hl,1,64⟩]},K.mem.laid a.hl 1 64):=c;have f:HF a.nb K.table:=h.tab;rw[j]at f;obtain⟨g,b,m⟩:=oA h e;have b:mr {K.blocks with l:=K.blocks.l++[⟨a.hl,1,64⟩]} (K.mem.laid a.hl 1 64) (a.hl:Int)=(true,K.blocks,g):=b;unfold bF;rw[c];dsimp only;rw[oE f (a.hl:Int)];dsimp only;refine⟨_,rfl,rfl,?_⟩;unfold iS;dsimp only;rw[b];exact m
theorem Nu(h:cR base K.ds a)(f:a.wk[i]?=some w)(y:C.dx[w.pc]?=some x)(M:bt x C.dx.length=true)(u:C.dx.length<1000000)(hb:0<=x.b/\x.b<32)(H:w.hand=0)(U:cX x w.r<C.bn.length)(Gf:x.op=48):
 JN base C K i d (ck x a i d w):=by
 have e:=HL (d:=d) h f;have O:w.pc<1000000:=Nat.lt_trans (List.getElem?_eq_some_iff.1 y).1 u;obtain⟨J,hw⟩:=e.at_ f;have L:=G8 f;have F:((Gc K i d).F (.own i)).r x.b.toNat=((cX x w.r:Nat):Int):=by
  show((Gc K i d).W i).f.r _=_
  rw[hw.r];rfl
 have b:ay C (Gc K i d) i none (.own i) x=(0,bu C (Gc K i d) i (.own i) x):=by
  unfold ay;simp only[Gf,Int.reduceEq,if_false,if_true,reduceIte,or_false,false_or,true_or,or_true]
 unfold bu at b;simp only[Gf,if_true,reduceIte]at b;rw[F,if_pos (by omega)]at b;generalize V:wrap64 ((cX x w.r:Nat):Int)=z at b;generalize W:((Gc K i d).F (.own i)).r x.c.toNat=D at b;generalize G:Gc K i d=q at b e J hw;have key:∀{K1:KS} {a1:AS} {w1:AW} {v:Nat} {p:Int},cR base K1.ds a1->a1.wk[i]?=some w1->v<qO->w1.pc=w.pc->ay C q i none (.own i) x=(0,K1.au (.own i) x.a.toNat p)->p=(v:Int)->JN base C K i d (a1.put i {w1 with pc:=w1.pc+1,r:=cf w1.r x.a.toNat v}):=fun {K1 a1 w1 v p} Q A R S B T=>by
  subst T;rw[<-G]at B;have:=FV h f y M (by omega) B u (Hx Q A x.a.toNat R) (Gb (G8 A)) (by rw[S];exact O)
  rwa [Ga]at this
 by_cases g:a.hl+1<=a.Gx
 ·by_cases o:a.nb<64
  ·have j:ck x a i d w=({a with hl:=a.hl+1,nb:=a.nb+1,c:=cf a.c a.hl 0}:AS).put i {w with pc:=w.pc+1,r:=cf w.r x.a.toNat (64+a.nb),hand:=64+a.nb}:=by unfold ck;simp[Gf,g,o]
   rw[j];obtain⟨K2,n,s,m⟩:=JR e g o z D;rw[n]at b;dsimp only at b;rw[if_pos (by omega)]at b;unfold eg at b;have t:K2.W i=q.W i:=(by unfold KS.W;rw[s]);have I:(K2.W i).hand=0:=(by rw[t,hw.hand,H];rfl);rw[if_neg (by rw[I];simp)]at b;dsimp only at b;have E:cR base (KS.be {K2 with table:=(jJ K2.table ((64+a.nb:Nat):Int) 1).2} i {K2.W i with hand:=((64+a.nb:Nat):Int)}).ds (({a with hl:=a.hl+1,nb:=a.nb+1,c:=cf a.c a.hl 0}:AS).put i {w with hand:=64+a.nb}):=by
    refine L5 (K:={K2 with table:=(jJ K2.table ((64+a.nb:Nat):Int) 1).2}) {m with tab:=(show HF (a.nb+1) K2.table from m.tab).be (64+a.nb)} ?_;rw[t];exact⟨hw.slot,rfl,hw.pc,hw.r,hw.back,hw.u⟩
   have P:64+a.nb<qO:=(by unfold qO;omega);have:=key E (Gb L) P rfl b rfl
   rwa [Ga]at this
  ·have N:a.nb=64:=by have:=h.tab.le;omega
   have j:ck x a i d w=a.put i {w with pc:=w.pc+1,r:=cf w.r x.a.toNat 0}:=(by unfold ck;simp[Gf,o]);rw[j];obtain⟨K2,n,s,m⟩:=ns e g N z D;rw[n]at b;dsimp only at b;rw[if_neg (by decide)]at b;exact key (v:=0) m f (by decide) rfl b rfl
 ·have j:ck x a i d w=a.put i {w with pc:=w.pc+1,r:=cf w.r x.a.toNat 0}:=by unfold ck;simp[Gf,g]
  rw[j];rw[Nt e g]at b;dsimp only at b;rw[if_neg (by decide)]at b;exact key (v:=0) e f (by decide) rfl b rfl
end
end
end Go.Proofs.YtlihkblppjgebaaGreatDoor
