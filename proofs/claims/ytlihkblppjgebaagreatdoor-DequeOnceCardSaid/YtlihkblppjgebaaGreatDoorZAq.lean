import Derived.Test.YtlihkblppjgebaaGreatDoorZAn
set_option linter.all false
set_option maxRecDepth 100000
set_option maxHeartbeats 8000000
namespace Go.Proofs.YtlihkblppjgebaaGreatDoor
open Go.RowKit Go.Proofs.Tryz
deriving instance Inhabited for cE
structure Ev where
 kind:Int
 at_:Int
 w:Int
 t:Int
 num:Int
 a0:Int
 a1:Int
 a2:Int
 a3:Int
 v:Int
 code:Int
 deriving DecidableEq,Inhabited
def Ev.cells(e:Ev):List Value:=[.int .i64 e.kind,.int .i64 e.at_,.int .i64 e.w,.int .u64 e.t,.int .i64 e.num,.int .u64 e.a0,.int .u64 e.a1,.int .u64 e.a2,.int .u64 e.a3,.int .u64 e.v,.int .u64 e.code]
theorem Ev.len(e:Ev):e.cells.length=11:=rfl
structure br where
 num:Int
 at_:Int
 k0:Int
 k1:Int
 k2:Int
 k3:Int
 deriving DecidableEq,Inhabited
def br.cells(r:br):List Value:=[.int .i64 r.num,.int .i64 r.at_,.int .i64 r.k0,.int .i64 r.k1,.int .i64 r.k2,.int .i64 r.k3]
theorem br.len(r:br):r.cells.length=6:=rfl
structure Frame where
 f:cE
 ca:Bool
 num:Int
 deriving Inhabited
structure Thread where
 id:Int
 l:List Frame
 eM:Int
 deriving Inhabited
structure ak where
 slot:Int
 hand:Int
 parked:Bool
 left:Int
 f:cE
 deriving Inhabited
structure KC where
 dx:List aV
 loop:Int
 calls:List br
 bn:List aV
 entry:Int
 wide:Int
 narrow:Int
 rows:List Int
structure hx where
 id:Int
 ad:Int
 mask:Int
 deriving DecidableEq,Inhabited
structure KS where
 mem:aF
 blocks:aZ
 clock:aN
 ring:List Int
 q:List (List hx)
 table:List aD
 cV:List bC
 ai:List (Int×Thread)
 wk:List ak
 entries:Int
 at_:Int
 w:Int
 draw:Int
 out:List Ev
def hJ(q:List (List hx))(id:Int):Option hx:=q.flatten.find? (fun s=>s.id==id)
def dy(q:List (List hx))(id:Int):Bool×List (List hx):=
 match hJ q id with
 |none=>(false,q)
 |some _=>(true,q.map fun l=>l.filter fun s=>s.id !=id)
def oX(q:List (List hx))(s:hx):List (List hx):=q.modify (bc s.ad 8).toNat (·++[s])
def kn(q:List (List hx))(id a mask:Int):Bool×List (List hx):=
 if id==0 then(false,q)else
 match hJ q id with
 |some _=>(false,q)
 |none=>(true,oX q ⟨id,a,mask⟩)
def lh(q:List (List hx))(a mask:Int)(each:Bool):Option hx:=(q.getD (bc a 8).toNat []).find? fun s=>s.ad==a&&(each||qR s.mask mask)
def ez(q:List (List hx))(a mask:Int):Int×Bool×List (List hx):=
 match lh q a mask false with
 |none=>(0,false,q)
 |some s=>(s.id,true,(dy q s.id).2)
def hK(q:List (List hx))(fr tt:Int):Int×Bool×List (List hx):=
 match lh q fr 0 true with
 |none=>(0,false,q)
 |some s=>(s.id,true,oX (dy q s.id).2 {s with ad:=tt})
def vR(q:List (List hx))(a mask:Int):Bool:=(lh q a mask false).isSome
def gH(K:KS):Int:=17+8*K.wk.length
def KC.cells(C:KC):Int:=C.wide+C.narrow
def tell(K:KS)(e:Ev):KS:={K with out:=K.out++[{e with at_:=K.at_,w:=K.w}]}
def cx(K:KS)(id:Int):Int:=(fq K.table id).1.state
def cc(K:KS)(id:Int):KS:={K with table:=(jJ K.table id 1).2,ring:=(g6 K.ring id).2,mem:=(K.mem.acc 3 0 0 1).2}
def KS.W(K:KS)(i:Nat):ak:=K.wk.getD i default
def KS.be(K:KS)(i:Nat)(x:ak):KS:={K with wk:=K.wk.set i x}
def KS.T(K:KS)(id:Int):Thread:=(aw K.ai id).getD default
def KS.b9(K:KS)(id:Int)(t:Thread):KS:={K with ai:=b8 K.ai id t}
def gv(C:KC)(K:KS)(i:Nat):KS:=K.be i {K.W i with f:={(K.W i).f with pc:=C.loop,back:=[]}}
def ds(C:KC)(K:KS)(i:Nat):KS:=gv C (K.be i {K.W i with slot:=0}) i
inductive bK where
 |own (i:Nat)
 |ai (id:Int) (k:Nat)
def KS.F(K:KS):bK->cE
 |.own i=>(K.W i).f
 |.ai id k=>((K.T id).l.getD k default).f
def KS.cH(K:KS)(c:bK)(f:cE):KS:=
 match c with
 |.own i=>K.be i {K.W i with f:=f}
 |.ai id k=>K.b9 id {K.T id with l:=(K.T id).l.set k {(K.T id).l.getD k default with f:=f}}
def KS.au(K:KS)(c:bK)(k:Nat)(x:Int):KS:=K.cH c {K.F c with r:=fO (K.F c).r k x}
def KS.ft(K:KS)(c:bK):KS:=K.cH c {K.F c with pc:=wrap64 ((K.F c).pc+1)}
def KS.top(K:KS)(id:Int):Nat:=(K.T id).l.length-1
def hd(K:KS)(a:Int):Int×KS:=(((K.mem.acc 0 a 0 0).1).getD 0,{K with mem:=(K.mem.acc 0 a 0 0).2})
def iD(op:Int):Bool:=(eV op).1
def iS(K:KS)(a:Int):KS:={K with blocks:=(mr K.blocks K.mem a).2.1,mem:=(mr K.blocks K.mem a).2.2}
def ef(K:KS)(id a:Int):KS:=if cx K id=0 then iS K (wrap64 a)else K
def mw(C:KC)(K:KS)(i:Nat)(id:Int):KS:=
 let K:={K with table:=(fW K.table id 0).2}
 let x:=(fq K.table id).1
 let K:={K with table:=(eF K.table id).2}
 let K:={K with q:=(dy K.q id).2}
 let K:={K with clock:=(K.clock.bl id).2}
 let K:=tell K ⟨7,0,0,id,0,0,0,0,0,x.value,0⟩
 let K:=ds C K i
 let K:={K with ai:=fk K.ai id}
 ef K id x.home
def dh(K:KS)(id:Int)(num code v:Int):KS:=
 let K:=K.au (.ai id (K.top id)) 0 code
 let K:=K.au (.ai id (K.top id)) 1 v
 tell K ⟨2,0,0,id,num,0,0,0,0,v,code⟩
def er(K:KS)(id:Int)(code v:Int):KS:=
 let n:=K.top id
 let num:=((K.T id).l.getD n default).num
 dh (K.b9 id {K.T id with l:=(K.T id).l.take n}) id num code v
def cY(K:KS)(id:Int)(c:bK)(x:aV):KS:=
 if x.m=0 then K else
 let code:=if iD x.op then(K.F c).r x.a.toNat else 0
 if x.wh=0∨((x.wh==1)=(code==0))then tell K ⟨5,0,0,id,x.m,0,0,0,0,(K.F c).r 0,code⟩else K
def cr(C:KC)(K:KS):List (Int×Int)->Int
 |[]=>0
 |(k,a)::l=>
  if k=0 then cr C K l
  else if k=7 then(if IntKind.u64.wrap C.cells<=a then 22 else cr C K l)
  else if(ga K.cV a k).isNone then 22 else cr C K l
def cI(C:KC)(K:KS)(id num:Int)(a0 a1 a2 a3:Int):Int:=
 if 1000<=num∨C.rows.getD num.toNat 0=0 then 38
 else if 7<=(K.T id).l.length/\num≠2 then 11
 else
  let r:=C.calls.getD (C.rows.getD num.toNat 0-1).toNat default
  cr C K [(r.k0,a0),(r.k1,a1),(r.k2,a2),(r.k3,a3)]
def da(K:KS)(k a:Int):Int:=
 if k=0 then a else if k=7 then IntKind.u64.wrap (IntKind.u64.wrap (gH K)+a)else(ga K.cV a k).getD 0
def gX(C:KC)(K:KS)(id:Int)(k:Nat)(num:Int):KS:=
 let f:=K.F (.ai id k)
 let a0:=f.r 0
 let a1:=f.r 1
 let a2:=f.r 2
 let a3:=f.r 3
 let K:=tell K ⟨1,0,0,id,num,a0,a1,a2,a3,0,0⟩
 let c:=cI C K id num a0 a1 a2 a3
 if c≠0 then dh K id num c 0
 else
  let r:=C.calls.getD (C.rows.getD num.toNat 0-1).toNat default
  let a:Nat->Int:=fun j=>if j=0 then da K r.k0 a0 else if j=1 then da K r.k1 a1 else if j=2 then da K r.k2 a2 else if j=3 then da K r.k3 a3 else if j=30 then a0 else if j=31 then IntKind.u64.wrap num else 0
  K.b9 id {K.T id with l:=(K.T id).l++[⟨⟨r.at_,a,[]⟩,true,num⟩]}
def eN(C:KC)(K:KS)(i:Nat)(id:Int)(k:Nat)(v:Int):KS:=
 let K:=K.au (.ai id k) 0 v
 let K:=K.ft (.ai id k)
 if 0<C.rows.getD 2 0 then gX C K id k 2
 else mw C {K with table:=(fW K.table id v).2} i id
def eB(K:KS)(i:Nat)(id:Int):KS:=
 if(K.W i).hand≠0∨cx K id≠1 then K
 else if K.wk.any (fun x=>x.hand==id)then K
 else if K.ring.any (fun r=>r==id)then K
 else K.be i {K.W i with hand:=id}
def eg(K:KS)(i:Nat)(id:Int):KS:=
 if(K.W i).hand≠0 then cc K id
 else
  let K:={K with table:=(jJ K.table id 1).2}
  K.be i {K.W i with hand:=id}
def bF(K:KS)(place a:Int):Int×KS:=
 match c' K.blocks K.mem 1 with
 |(none,b,m)=>(0,{K with blocks:=b,mem:=m})
 |(some h,b,m)=>
  let K:={K with blocks:=b,mem:=m}
  match db K.table h with
  |(none,t)=>(0,iS {K with table:=t} h)
  |(some id,t)=>(id,{K with table:=t,ai:=b8 K.ai id ⟨id,[⟨⟨place,fun j=>if j=0 then a else 0,[]⟩,false,0⟩],0⟩})
def aB(C:KC)(K:KS)(i:Nat)(id:Int)(c:bK)(x:aV):Int×KS:=
 let f:=K.F c
 let a:=f.r x.a.toNat
 if x.op=24 then
  let p:=kn K.q id (f.r x.b.toNat) (f.r x.c.toNat)
  if p.1 then(0,{K with q:=p.2,clock:=(K.clock.arm id a).2})else(0,{K with q:=p.2})
 else if x.op=28 then
  match hJ K.q id with
  |some _=>(1,ds C {K with table:=(jJ K.table id 3).2} i)
  |none=>(0,K.au c x.a.toNat (K.T id).eM)
 else if x.op=51 then(0,{K with table:=(g9 K.table a id).2})
 else if x.op=53 then(0,{K with table:=(fW K.table id a).2})
 else if x.op=55 then(1,mw C K i id)
 else if x.op=56 then(0,ds C (cc K id) i)
 else if x.op=57 then
  if a<C.bn.length/\(K.T id).l.length<8 then(0,K.b9 id {K.T id with l:=(K.T id).l++[⟨⟨wrap64 a,fun _=>0,[]⟩,false,0⟩]})else(0,K)
 else if x.op=58 then(1,er K id (f.r 0) (f.r 1))
 else(0,K)
def bb(K:KS)(i:Nat)(c:bK)(x:aV):Int×KS:=
 let f:=K.F c
 let at_:=du f.r x
 let a:=f.r x.a.toNat
 if x.op=31 then
  let p:=K.mem.acc 1 at_ 0 a
  let K:={K with mem:=p.2}
  if p.1.isNone then(2,K)else(0,K.be i {K.W i with hand:=0})
 else
  let p:=K.mem.acc 4 at_ a (f.r x.c.toNat)
  let K:={K with mem:=p.2}
  match p.1 with
  |none=>(2,K)
  |some held=>
   let K:=K.au c x.a.toNat held
   if held=gT (K.mem.wid at_) a then(0,eB K i ((K.F c).r 16))else(0,K)
def bU(K:KS)(i:Nat)(c:bK)(x:aV):KS:=
 let a:=(K.F c).r x.a.toNat
 if x.op=30 then eB K i a
 else if x.op=33 then
  if(K.W i).hand≠0 then
   let K:=cc K (K.W i).hand
   K.be i {K.W i with hand:=0}
  else K
 else if x.op=34 then
  let K:=K.au c x.a.toNat 0
  if(K.W i).hand=0 then
   let p:=gG K.ring
   let K:={K with ring:=p.2.2}
   let K:=K.be i {K.W i with hand:=p.1}
   K.au c x.a.toNat (K.W i).hand
  else K
 else if x.op=35 then
  if(K.W i).hand≠0/\a=(K.W i).hand/\(K.W i).slot=0 then
   let K:=K.be i {K.W i with slot:=(K.W i).hand,hand:=0,left:=24}
   {K with table:=(jJ K.table (K.W i).slot 2).2}
  else K
 else K
def bd(K:KS)(c:bK)(x:aV):KS:=
 let f:=K.F c
 let a:=f.r x.a.toNat
 if x.op=43 then
  let n:=if 0<=x.b then f.r x.b.toNat else x.v
  let K:=K.au c x.a.toNat 0
  if n<=4096 then
   let g:=c' K.blocks K.mem n.toNat
   let K:={K with blocks:=g.2.1,mem:=g.2.2}
   K.au c x.a.toNat (match g.1 with|some h=>(h:Int)|none=>0)
  else K
 else if x.op=44 then(if a<65536 then iS K a else K)
 else if x.op=45 then
  if x.v<=6 then
   let m:=fH K.cV x.v (f.r x.b.toNat)
   {K with cV:=m.2}.au c x.a.toNat (m.1.getD 0)
  else K.au c x.a.toNat 0
 else if x.op=46 then {K with cV:=(iC K.cV a).2}
 else K
def bu(C:KC)(K:KS)(i:Nat)(c:bK)(x:aV):KS:=
 let f:=K.F c
 let a:=f.r x.a.toNat
 let b:=f.r x.b.toNat
 if x.op=48 then
  if b<C.bn.length then
   let p:=bF K (wrap64 b) (f.r x.c.toNat)
   let K:=if p.1≠0 then eg p.2 i p.1 else p.2
   K.au c x.a.toNat p.1
  else K.au c x.a.toNat 0
 else if x.op=52 then
  let t:=(fq K.table a).1
  let l:=eZ K.table a
  let K:={K with table:=l.2}
  (if l.1 then ef K a t.home else K).au c x.a.toNat a
 else if x.op=54 then
  let r:=fs K.table b
  let K:={K with table:=r.2.2.2.2}
  (if r.2.2.2.1 then ef K b r.2.2.1 else K).au c x.a.toNat r.2.1
 else if x.op=49 then K.au c x.a.toNat (IntKind.u64.wrap (dV K.table b))
 else if x.op=50 then K.au c x.a.toNat (fq K.table b).1.home
 else K.au c x.a.toNat a
def bg(K:KS)(i:Nat)(c:bK)(x:aV):KS:=
 let f:=K.F c
 let b:=f.r x.b.toNat
 let d:=f.r x.c.toNat
 if x.op=25 then
  let p:=ez K.q b d
  let K:={K with q:=p.2.2}
  if p.2.1 then
   let K:={K with clock:=(K.clock.bl p.1).2}
   let K:=if(aw K.ai p.1).isSome then K.b9 p.1 {K.T p.1 with eM:=0}else K
   let K:=if cx K p.1=3 then eg K i p.1 else K
   K.au c x.a.toNat p.1
  else K.au c x.a.toNat 0
 else if x.op=26 then
  let p:=hK K.q b d
  {K with q:=p.2.2}.au c x.a.toNat p.1
 else if x.op=27 then K.au c x.a.toNat (if vR K.q b d then 1 else 0)
 else K.au c x.a.toNat 0
def gY(i:Int):Int:=IntKind.u64.wrap (17+3*i)
def hL(C:KC)(K:KS)(i:Nat)(id:Int)(c:bK)(x:aV):Int:=
 let b:=(K.F c).r x.b.toNat
 if x.op=23 then IntKind.u64.wrap (1+2*bc b 8)
 else if x.op=41 then K.clock.now
 else if x.op=37 then id
 else if x.op=40 then IntKind.u64.wrap K.wk.length
 else if x.op=42 then K.draw
 else if x.op=29 then(K.W i).hand
 else if x.op=38 then gY (wrap64 (IntKind.u64.wrap K.w%IntKind.u64.wrap K.wk.length))
 else if x.op=39 then gY (wrap64 (b%IntKind.u64.wrap K.wk.length))
 else if x.op=47 then(if b<C.bn.length then 1 else 0)
 else 0
def ay(C:KC)(K:KS)(i:Nat)(id:Option Int)(c:bK)(x:aV):Int×KS:=
 if x.op=24∨x.op=28∨x.op=51∨x.op=53∨x.op=55∨x.op=56∨x.op=57∨x.op=58 then
  match id with
  |none=>(0,K)
  |some id=>aB C K i id c x
 else if x.op=31∨x.op=32 then bb K i c x
 else if x.op=36 then
  let p:=hd K 0
  let pk:=p.1==(p.2.F c).r x.a.toNat
  let K:=p.2.be i {p.2.W i with parked:=pk}
  if pk then(1,K)else(0,K)
 else if x.op=30∨x.op=33∨x.op=34∨x.op=35 then(0,bU K i c x)
 else if x.op=43∨x.op=44∨x.op=45∨x.op=46 then(0,bd K c x)
 else if x.op=48∨x.op=52∨x.op=54∨x.op=49∨x.op=50 then(0,bu C K i c x)
 else if x.op=25∨x.op=26∨x.op=27 then(0,bg K i c x)
 else if x.op=22 then(2,K)
 else(0,K.au c x.a.toNat (hL C K i (id.getD 0) c x))
def fu(l:List aV)(pc:Int):aV:=if 0<=pc/\pc<l.length then l.getD pc.toNat ⟨0,0,0,0,0,0,0⟩else⟨0,0,0,0,0,0,0⟩
def cy(C:KC)(K:KS)(c:bK):aV×Int×KS:=
 let s:=bD aF.acc C.dx (K.F c) K.mem
 (fu C.dx (K.F c).pc,s.1,({K with mem:=s.2.2}).cH c s.2.1)
def eu(C:KC)(K:KS)(i:Nat)(id:Option Int)(c:bK):aV×Int×KS:=
 let s:=cy C K c
 if s.2.1=1 then
  let p:=ay C s.2.2 i id c s.1
  if p.1=0 then(s.1,0,p.2.ft c)
  else if p.1=2 then(s.1,3,p.2)
  else(s.1,1,p.2)
 else s
def jT(C:KC)(K:KS)(i:Nat):KS:=
 let K:=K.be i {K.W i with parked:=false}
 let s:=eu C K i none (.own i)
 if s.2.1=0 then cY s.2.2 0 (.own i) s.1
 else if s.2.1=3∨s.2.1=2 then gv C s.2.2 i
 else s.2.2
def cz(C:KC)(K:KS)(i:Nat)(id:Int)(k:Nat):KS:=
 let s:=eu C K i (some id) (.ai id k)
 if s.2.1=0 then cY s.2.2 id (.ai id k) s.1
 else if s.2.1=3∨s.2.1=2 then er s.2.2 id 22 0
 else s.2.2
def bG(C:KC)(b:KS)(id op:Int)(S:aF×List Ev)(kind a d v:Int):Option Int×aF×List Ev:=
 if IntKind.u64.wrap C.cells<=a then(none,S)
 else
  let c:=IntKind.u64.wrap (IntKind.u64.wrap (gH b)+a)
  let p:=S.1.acc kind c d v
  match p.1 with
  |none=>(none,p.2,S.2)
  |some held=>
   let pk:=p.2.acc 0 c 0 0
   (some held,pk.2,S.2++[⟨3,b.at_,b.w,id,op,held,pk.1.getD 0,0,0,a,0⟩])
def cu(C:KC)(K:KS)(i:Nat)(id:Int)(k:Nat):KS:=
 let c:=bK.ai id k
 let x:=fu C.bn (K.F c).pc
 let s:=bD (bG C K id x.op) C.bn (K.F c) (K.mem,K.out)
 let K:=({K with mem:=s.2.2.1,out:=s.2.2.2}).cH c s.2.1
 if s.1=1 then gX C (K.ft c) id k (wrap64 x.v)
 else if s.1=2 then
  if 0<K.top id then K.b9 id {K.T id with l:=(K.T id).l.take (K.top id)}
  else eN C K i id k ((K.F c).r 0)
 else if s.1=3 then
  let v:=if x.op≠15/\x.op≠0 then du (K.F c).r x else 0
  eN C (tell K ⟨4,0,0,id,x.op,0,0,0,0,v,0⟩) i id k 18446744073709551615
 else K
def fI(C:KC)(K:KS)(i:Nat):KS:=
 if(K.W i).slot=0 then jT C K i else
 let id:=(K.W i).slot
 let k:=K.top id
 let f:=(K.T id).l.getD k default
 if f.ca=false/\(K.W i).left=0 then ds C (cc K id) i
 else
  let K:=K.be i {K.W i with left:=max ((K.W i).left-1) 0}
  if f.ca then cz C K i id k else cu C K i id k
def cv(K:KS)(id:Int):KS:=
 let K:={K with q:=(dy K.q id).2}
 let K:=if(aw K.ai id).isSome then K.b9 id {K.T id with eM:=110}else K
 if cx K id=3 then cc K id else K
def gZ(K:KS):KS:=
 let t:=K.clock.tick
 let K:={K with clock:=t.1}
 let K:=tell K ⟨6,0,0,0,0,0,0,0,0,K.clock.now,0⟩
 t.2.foldl cv K
def gM(C:KC)(K:KS)(kind wk draw:Int):List Ev×KS:=
 let K:={K with at_:=K.entries,w:=-1,draw:=draw,entries:=wrap64 (K.entries+1)}
 let K:=if kind=2 then gZ K
  else if kind=1 then(if 0<=wk/\wk<K.wk.length then fI C {K with w:=wk} wk.toNat else K)
  else K
 (K.out,{K with out:=[]})
structure Fr(K K':KS):Prop where
 yo:K'.entries=K.entries
 at_:K'.at_=K.at_
 now:K'.clock.now=K.clock.now
 w:K'.w=K.w
 wl:K'.wk.length=K.wk.length
 out:∀e∈K'.out,e∈K.out∨e.at_=K.at_
theorem Fr.refl(K:KS):Fr K K:=⟨rfl,rfl,rfl,rfl,rfl,fun e h=>Or.inl h⟩
theorem Fr.trans{a b c:KS}(h:Fr a b)(g:Fr b c):Fr a c:=⟨g.yo.trans h.yo,g.at_.trans h.at_,g.now.trans h.now,g.w.trans h.w,g.wl.trans h.wl,fun e f=>by
 rcases g.out e f with d|d
 ·exact h.out e d
 ·exact Or.inr (d.trans h.at_)⟩
theorem Fr.th{a b c:KS}(g:Fr b c)(h:Fr a b):Fr a c:=h.trans g
theorem Fr.of{K K':KS}(a:K'.entries=K.entries)(b:K'.at_=K.at_)(c:K'.w=K.w)(d:K'.out=K.out)(f:K'.clock.now=K.clock.now)(g:K'.wk.length=K.wk.length):Fr K K':=⟨a,b,f,c,g,fun e h=>Or.inl (d▸h)⟩
def bf(b:Nat):Value:=.pointer (some ⟨b,0,none⟩)
def kr(s:Sl)(p n:Option Nat):List Value:=[.int .u64 s.id,.int .u64 s.ad,.int .u64 s.mask,ptrTo p,ptrTo n]
def bM(w:World):Option Nat->Option Nat->List Sl->Prop
 |_,_,[]=>True
 |p,e,s::r=>Row w s.b 219 (kr s p ((r.head?.map Sl.b).or e))/\bM w (some s.b) e r
theorem bM.ch{w w':World}{D:Nat->Prop}(c:Ch D w w'):∀{p e:Option Nat} {l:List Sl},bM w p e l->(∀s∈l,¬D s.b)->bM w' p e l
 |_,_,[],_,_=>trivial
 |_,_,s::r,h,a=>⟨h.1.ch c (a s (by simp)),bM.ch c h.2 (fun x b=>a x (by simp[b]))⟩
theorem bM.mem{w:World}:∀{p e:Option Nat} {l:List Sl},bM w p e l->∀s∈l,∃a b,Row w s.b 219 (kr s a b)
 |_,_,x::r,h,s,c=>by
  rcases List.mem_cons.1 c with rfl|c
  ·exact⟨_,_,h.1⟩
  ·exact bM.mem h.2 s c
theorem fP{w:World}{p e:Option Nat}{s:Sl}{r:List Sl}:bM w p e (s::r)↔Row w s.b 219 (kr s p ((r.head?.map Sl.b).or e))/\bM w (some s.b) e r:=Iff.rfl
theorem lj{w:World}{p e:Option Nat}:bM w p e []↔True:=Iff.rfl
theorem bM.app{w:World}:∀{p e:Option Nat} {l r:List Sl},bM w p e (l++r)↔bM w p ((r.head?.map Sl.b).or e) l/\bM w ((l.getLast?.map Sl.b).or p) e r
 |p,e,[],r=>by simp[lj]
 |p,e,s::l,r=>by
  rw[List.cons_append,fP,fP,bM.app (l:=l)];cases l with
  |nil=>simp[lj]
  |cons y l=>
   rw[List.getLast?_cons_cons];obtain⟨z,a⟩:∃z,(y::l).getLast?=some z:=⟨_,List.getLast?_eq_some_getLast (by simp)⟩;rw[a];simp[and_assoc]
theorem bM.snoc{w:World}{p e:Option Nat}{l:List Sl}{x:Sl}:bM w p e (l++[x])↔bM w p (some x.b) l/\Row w x.b 219 (kr x ((l.getLast?.map Sl.b).or p) e):=by
 rw[bM.app,fP];simp[lj]
theorem bM.mid{w:World}{p e:Option Nat}{l r:List Sl}{x:Sl}:bM w p e (l++x::r)↔bM w p (some x.b) l/\Row w x.b 219 (kr x ((l.getLast?.map Sl.b).or p) ((r.head?.map Sl.b).or e))/\bM w (some x.b) e r:=by
 rw[bM.app,fP];simp
theorem iF(l:List Sl):(bO l).length=2:=rfl
theorem kt:∀{d:List (List Sl)} {k:Nat} {x y:List Sl} {a b:Value},d[k]?=some x->bO y=[a,b]->((d.flatMap bO).set (k*2) a).set (k*2+1) b=(d.set k y).flatMap bO
 |[],k,x,y,a,b,h,_=>by simp at h
 |z::d,0,x,y,a,b,h,c=>by
  rw[List.flatMap_cons];show((bO z++_).set 0 a).set 1 b=_
  simp[bO]at c⊢;exact⟨c.1.symm,c.2.symm⟩
 |z::d,k+1,x,y,a,b,h,c=>by
  have e:(k+1)*2=k*2+2:=Nat.succ_mul k 2;rw[List.flatMap_cons,List.set_append_right _ _ (by rw[iF,e];omega),iF,show(k+1)*2-2=k*2 from by omega,
   List.set_append_right _ _ (by rw[iF,e];omega),iF,show(k+1)*2+1-2=k*2+1 from by omega,kt (by simpa using h) c]
  simp
structure ig(w:World)(qb lb mb:Nat)(ls:List (List Sl)):Prop where
 head:Row w qb 214 [.slice (some ⟨lb,0,none⟩) (8:Nat) (8:Nat),.map (some mb)]
 ends:Row w lb 217 (ls.flatMap bO)
 len:ls.length=8
 chain:∀(k:Nat) (l:List Sl),ls[k]?=some l->bM w none none l
 map:∃m,bH w mb .u64 bf m/\f' m/\∀id,aw m id=(ls.flatten.find? (fun s=>s.id==id)).map Sl.b
 nd:(ls.flatten.map Sl.b).Nodup
 xL:(ls.flatten.map Sl.id).Nodup
 at_:∀(k:Nat) (l:List Sl),ls[k]?=some l->∀s∈l,bc s.ad (8:Nat)=k
def QD(qb lb mb:Nat)(a:List (List Sl)):Nat->Prop:=fun i=>i=qb∨i=lb∨i=mb∨∃s∈a.flatten,s.b=i
def Sl.s(x:Sl):hx:=⟨x.id,x.ad,x.mask⟩
def b2(a:List (List Sl)):List (List hx):=a.map (·.map Sl.s)
theorem bo{a:List (List Sl)}{k:Nat}{l:List Sl}(h:a[k]?=some l){s:Sl}(b:s∈l):s∈a.flatten:=List.mem_flatten.2 ⟨l,List.mem_of_getElem? h,b⟩
theorem ig.ch{w w':World}{D:Nat->Prop}{qb lb mb:Nat}{b:List (List Sl)}(h:ig w qb lb mb b)(c:Ch D w w')(a:∀i,QD qb lb mb b i->¬D i):ig w' qb lb mb b where
 head:=h.head.ch c (a _ (Or.inl rfl))
 ends:=h.ends.ch c (a _ (Or.inr (Or.inl rfl)))
 len:=h.len
 chain:=fun k l d=>(h.chain k l d).ch c (fun s g=>a _ (Or.inr (Or.inr (Or.inr ⟨s,bo d g,rfl⟩))))
 map:=by
  obtain⟨m,e,f⟩:=h.map;exact⟨m,e.ch c (a _ (Or.inr (Or.inr (Or.inl rfl)))),f⟩
 nd:=h.nd
 xL:=h.xL
 at_:=h.at_
theorem ig.af{w w':World}{qb lb mb:Nat}{a:List (List Sl)}(h:ig w qb lb mb a)(c:Ch ag w w'):ig w' qb lb mb a:=h.ch c (fun _ _ h=>h)
theorem jw{α:Type}{a:List (List α)}{k:Nat}{l:List α}(h:a[k]?=some l):a.flatten=(a.take k).flatten++l++(a.drop (k+1)).flatten/\∀y,(a.set k y).flatten=(a.take k).flatten++y++(a.drop (k+1)).flatten:=by
 obtain⟨b,rfl⟩:=List.getElem?_eq_some_iff.1 h
 constructor
 ·calc a.flatten=(a.take k++a.drop k).flatten:=by rw[List.take_append_drop]
   _=_:=by rw[List.drop_eq_getElem_cons b,List.flatten_append,List.flatten_cons,List.append_assoc]
 ·intro y
  rw[List.set_eq_take_append_cons_drop,if_pos b];simp
theorem hM{α:Type}{a:List (List α)}{s:α}(h:s∈a.flatten):∃(k:Nat) (pre post:List α),a[k]?=some (pre++s::post):=by
 obtain⟨l,c,d⟩:=List.mem_flatten.1 h;obtain⟨k,b⟩:=List.getElem?_of_mem c;obtain⟨pre,post,rfl⟩:=List.append_of_mem d;exact⟨k,pre,post,b⟩
theorem ig.apart{w:World}{qb lb mb:Nat}{d:List (List Sl)}(h:ig w qb lb mb d){s:Sl}(i:s∈d.flatten):s.b≠qb/\s.b≠lb/\s.b≠mb/\s.b<w.heap.size:=by
 obtain⟨k,pre,post,f⟩:=hM i;obtain⟨a,b,c⟩:=(h.chain k _ f).mem s (by simp);obtain⟨m,g,_⟩:=h.map;exact⟨c.ne h.head (by decide),c.ne h.ends (by decide),fun e=>g.ne c e.symm,c.lt⟩
theorem tO(N:Nat)(a:Option Addr)(c:Nat)(d:Bool)(b:2048<N)(w:World):
 Calls prog 145 #[.slice a N c,.bool d] w (fun e w'=>∃t x,e=.returned (.iface 247 (.pointer (some ⟨w.heap.size,0,none⟩)))/\w.alloc (.cells #[.string ⟨#[99,111,100,101]⟩,.int .i64 0,.iface t x] 249)=w'):=by
 have f:(2048:Int)<(N:Int):=by omega
 clear b;go_enter func145,ntmps145
 go_wp2_with (go_at_call 101;refine(bk _ _ _ _).mono ?_;rintro e w' ⟨rfl,rfl⟩)
 go_ret;exact⟨_,_,rfl,rfl⟩
theorem qA(N:Nat)(a:Option Addr)(c:Nat)(u:Bool)(q:2048<N)(w:World)
 (o:w.cell? ⟨0,0,none⟩=some (.iface 390 (.agg #[.pointer (some ⟨4,85,none⟩)]))):
 Calls prog 102 #[.slice a N c,.bool u] w (qz false w):=by
 obtain⟨w1,r⟩:=nm (w.alloc (.cells #[.pointer none] 247));have d:=Z (Ch.al (D:=ag) r);have g:=Z (Row.al r);have m:Hid (w1.cell? ⟨0,0,none⟩=some (.iface 390 (.agg #[.pointer (some ⟨4,85,none⟩)]))):=Z (d.out.k o);have v:=Z (tO N a c u q w1);clear o q;go_enter func102,ntmps102
 go_wp2_with (first|(go_at_call 145;refine v.out.mono ?_;rintro e w2 ⟨t,x,rfl,s⟩;have n:=Z s;clear s))
 have b:Hid (Ch ag w1 w2):=Z (by rw[<-n.out];exact(Ch.refl _ _).alloc _);have l:Hid (Row w2 w1.heap.size 249 [.string ⟨#[99,111,100,101]⟩,.int .i64 0,.iface t x]):=Z (by rw[<-n.out];exact Row.new w1 _ _);refine(vb ⟨w1.heap.size,0,none⟩ w.heap.size (.pointer none) w2 ((b.out.cell (aE m.out) (fun h=>h)).trans m.out) ((g.out.ch b.out (fun h=>h)).cell (i:=0) rfl) ((g.out.ch b.out (fun h=>h)).free 0)).mono ?_;rintro e z ⟨rfl,B,k⟩;have f:=Z k;have C:w.heap.size<w1.heap.size:=g.out.lt;have A:z.cell? ⟨w1.heap.size,1,none⟩=some (.int .i64 0):=(k.cell (p:=⟨w1.heap.size,1,none⟩) l.out.lt (fun e=>by have:w1.heap.size=w.heap.size:=e;omega)).trans (l.out.cell (i:=1) rfl);clear k;go_wp2_with (go_at_call 101;refine(bk _ _ _ _).mono ?_;rintro e w' ⟨rfl,rfl⟩)
 go_ret;refine⟨⟨_,rfl,aq.mk _ _⟩,Ch.alloc ?_ _⟩;exact⟨f.out.os.trans (d.out.trans b.out).os,f.out.tape.trans (d.out.trans b.out).tape,f.out.output.trans (d.out.trans b.out).output,Nat.le_trans (d.out.trans b.out).size f.out.size,fun j hj y=>(f.out.same j (Nat.lt_of_lt_of_le hj (d.out.trans b.out).size) (fun e=>by have:j=w.heap.size:=e;omega)).trans ((d.out.trans b.out).same j hj y)⟩
theorem Ch.fresh{D:Nat->Prop}{w a b:World}(c:Ch ag w a)(d:Ch D a b)(e:∀i,i<w.heap.size->¬D i):Ch ag w b:=
 ⟨d.os.trans c.os,d.tape.trans c.tape,d.output.trans c.output,Nat.le_trans c.size d.size,fun j hj f=>(d.same j (Nat.lt_of_lt_of_le hj c.size) (e j hj)).trans (c.same j hj f)⟩
def ja(l:List aV)(a:Bool):Bool:=decide (l.length<=2048)&&(gE l.length a l 0).isNone
theorem kL(l:List aV)(a:Option Addr)(c:Nat)(b:Bool)(f:l.length<=c)(w:World)(h:l≠[]->∃g,a=some ⟨g,0,none⟩/\eE w g l)
 (e:w.cell? ⟨0,0,none⟩=some (.iface 390 (.agg #[.pointer (some ⟨4,85,none⟩)]))):
 Calls prog 102 #[.slice a l.length c,.bool b] w (qz (ja l b) w):=by
 unfold ja;by_cases d:l.length<=2048
 ·rw[decide_eq_true d,Bool.true_and];exact sh l a c b d f w h e
 ·rw[decide_eq_false d,Bool.false_and];exact qA _ a c b (by omega) w e
def iM(k:Int):Bool:=decide (0<=k/\k<=7)
def gl(n:Int)(s:List Bool)(r:br):Bool:=(decide (1<=r.num/\r.num<=999)&& !(s.getD r.num.toNat false)&&decide (0<=r.at_/\r.at_<n))&&(iM r.k0&&iM r.k1&&iM r.k2&&iM r.k3)
def jb(n:Int):List br->List Bool->Bool
 |[],_=>true
 |r::l,s=>gl n s r&&jb n l (s.set r.num.toNat true)
def e2(l:List aV)(loop:Int)(calls:List br):Bool:=decide (l.length≠0)&&ja l true&&decide (0<=loop/\loop<l.length)&&jb l.length calls (List.replicate 1000 false)
def fy(n:Int)(calls:List br)(k:Nat)(s:List Bool)(r:Bool):Prop:=s.length=1000/\jb n (calls.drop k) s=r
theorem fy.next{n:Int}{calls:List br}{k:Nat}{s:List Bool}{r:Bool}{X:br}(h:fy n calls k s r)(a:calls[k]?=some X)(d:gl n s X=true):fy n calls (k+1) (s.set X.num.toNat true) r:=by
 refine⟨by simpa using h.1,?_⟩;obtain⟨c,b⟩:=List.getElem?_eq_some_iff.1 a;rw[<-h.2,List.drop_eq_getElem_cons c,b,jb,d,Bool.true_and]
theorem fy.bad{n:Int}{calls:List br}{k:Nat}{s:List Bool}{r:Bool}{X:br}(h:fy n calls k s r)(a:calls[k]?=some X)(d:gl n s X=false):r=false:=by
 obtain⟨c,b⟩:=List.getElem?_eq_some_iff.1 a;rw[<-h.2,List.drop_eq_getElem_cons c,b,jb,d,Bool.false_and]
theorem fy.all{n:Int}{calls:List br}{k:Nat}{s:List Bool}{r:Bool}(h:fy n calls k s r)(a:calls.length<=k):r=true:=by
 rw[<-h.2,List.drop_eq_nil_of_le a];rfl
theorem EZ(a b c d:Int):([a,b,c,d].drop 0).all iM=(iM a&&([a,b,c,d].drop 1).all iM):=rfl
theorem E0(a b c d:Int):([a,b,c,d].drop 1).all iM=(iM b&&([a,b,c,d].drop 2).all iM):=rfl
theorem E1(a b c d:Int):([a,b,c,d].drop 2).all iM=(iM c&&([a,b,c,d].drop 3).all iM):=rfl
theorem E2(a b c d:Int):([a,b,c,d].drop 3).all iM=(iM d&&([a,b,c,d].drop 4).all iM):=rfl
theorem C'(a b c d:Int)(W:World):(Instr.index 156 (.agg #[.int .i64 a,.int .i64 b,.int .i64 c,.int .i64 d]) (.int .i64 0)).run prog W=.ok (.int .i64 a) W:=by kernel_rfl
theorem Da(a b c d:Int)(W:World):(Instr.index 156 (.agg #[.int .i64 a,.int .i64 b,.int .i64 c,.int .i64 d]) (.int .i64 1)).run prog W=.ok (.int .i64 b) W:=by kernel_rfl
theorem Db(a b c d:Int)(W:World):(Instr.index 156 (.agg #[.int .i64 a,.int .i64 b,.int .i64 c,.int .i64 d]) (.int .i64 2)).run prog W=.ok (.int .i64 c) W:=by kernel_rfl
theorem Dc(a b c d:Int)(W:World):(Instr.index 156 (.agg #[.int .i64 a,.int .i64 b,.int .i64 c,.int .i64 d]) (.int .i64 3)).run prog W=.ok (.int .i64 d) W:=by kernel_rfl
theorem jc(l:List aV)(S:Option Addr)(a2:Nat)(loop:Int)(calls:List br)(bw:Option Addr)(ch:Nat)(dr:l.length<=a2)(fK:calls.length<=100000)(w:World)(a0:l≠[]->∃g,S=some ⟨g,0,none⟩/\eE w g l)
 (dN:calls≠[]->∃g R,bw=some ⟨g,0,none⟩/\Row w g 158 (calls.flatMap br.cells++R))
 (Y:w.cell? ⟨0,0,none⟩=some (.iface 390 (.agg #[.pointer (some ⟨4,85,none⟩)]))):
 Calls prog 60 #[.agg #[.slice S l.length a2,.int .i64 loop,.slice bw calls.length ch]] w (qz (e2 l loop calls) w):=by
 obtain⟨w1,ce⟩:=nm (w.alloc (.cells #[.slice S l.length a2,.int .i64 loop,.slice bw calls.length ch] 90));have I:=Z (Ch.al (D:=ag) ce);have eW:Hid (l≠[]->∃g,S=some ⟨g,0,none⟩/\eE w1 g l):=Z (fun h=>by obtain⟨g,e,Y⟩:=a0 h;exact⟨g,e,Y.ch I.out (fun h=>h)⟩);have eU:Hid (calls≠[]->∃g R,bw=some ⟨g,0,none⟩/\Row w1 g 158 (calls.flatMap br.cells++R)):=Z (fun h=>by obtain⟨g,R,e,Y⟩:=dN h;exact⟨g,R,e,Y.ch I.out (fun h=>h)⟩);have cs:Hid (w1.cell? ⟨0,0,none⟩=some (.iface 390 (.agg #[.pointer (some ⟨4,85,none⟩)]))):=Z (I.out.k Y);have U:=Z (kL l S a2 true dr w1 eW.out cs.out);have al:=Z (Row.al ce);obtain⟨N,ap⟩:=mn l.length;obtain⟨M,c0⟩:=mn calls.length;obtain⟨n,c6⟩:=nm (e2 l loop calls);obtain⟨u,cd⟩:=nm (ja l true);obtain⟨q,c7⟩:=nm (jb N calls (List.replicate 1000 false));have K:Hid (n=(decide (N≠0)&&u&&decide (0<=loop/\loop<N)&&q)):=Z (by rw[<-c6,ap,<-cd,<-c7,ap];rfl);have eO:Hid (fy N calls 0 (List.replicate 1000 false) q):=Z ⟨by simp,by rw[List.drop_zero];exact c7⟩;have c3:=Z c0;rw[cd]at U;rw[c6];rw[<-ap,<-c0]at al ce⊢;rw[<-ap]at U;rw[<-c0]at fK;clear a0 dN Y dr ap c0 c6 cd c7;obtain⟨t0,t1,t2⟩:=al.out.c3;by_cases cS:N=0
 ·have E:Hid (n=false):=Z (by rw[K.out,decide_eq_false (by omega)];rfl)
  subst cS;go_enter func60,ntmps60
  go_wp2_with (go_at_call 101;refine(bk _ _ _ _).mono ?_;rintro e w' ⟨rfl,rfl⟩)
  go_ret;rw[E.out];exact⟨⟨_,rfl,aq.mk _ _⟩,I.out.alloc _⟩
 have gc:(N==0)=false:=by simpa using cS
 cases u
 ·have E:Hid (n=false):=Z (by rw[K.out,Bool.and_false];rfl)
  go_enter func60,ntmps60
  go_wp2_with (go_at_call 102;refine U.out.mono ?_;rintro e w2 ⟨⟨y,rfl,C⟩,A⟩;obtain⟨tt,gb,rfl⟩:aq y:=C;have J:=Z A;clear A)
  go_ret;rw[E.out];exact⟨⟨_,rfl,aq.mk _ _⟩,I.out.trans J.out⟩
 by_cases H:¬(0<=loop/\loop<(N:Int))
 ·have E:Hid (n=false):=Z (by rw[K.out,decide_eq_false H,Bool.and_false];rfl)
  have bi:decide (0<=loop/\loop<(N:Int))=false:=decide_eq_false H;have V:=Z (fun w=>lF loop N w);rw[bi]at V;clear bi H;go_enter func60,ntmps60
  go_wp2_with (first|(go_at_call 102;refine U.out.mono ?_;rintro e w2 ⟨⟨y,rfl,C⟩,A⟩;obtain rfl:y=.nilIface:=C;have J:=Z A;have T2:=al.out.ch A (fun h=>h);obtain⟨eA,s1⟩:=T2.c2;clear A T2 t0 t1 t2)|(go_at_call 103;refine(V.out _).mono ?_;rintro e ci ⟨⟨y,rfl,C⟩,W⟩;have a3:=Z W;obtain⟨tt,gb,rfl⟩:aq y:=C;clear W))
  go_ret;rw[E.out];exact⟨⟨_,rfl,aq.mk _ _⟩,(I.out.trans J.out).trans a3.out⟩
 have H:=Decidable.not_not.1 H;have E:Hid (n=q):=Z (by rw[K.out,decide_eq_true (by omega),decide_eq_true H];simp);have bi:decide (0<=loop/\loop<(N:Int))=true:=decide_eq_true H;have V:=Z (fun w=>lF loop N w);rw[bi]at V;clear bi H K;go_enter func60,ntmps60
 go_wp2_with (first|(go_at_call 102;refine U.out.mono ?_;rintro e w2 ⟨⟨y,rfl,C⟩,A⟩;obtain rfl:y=.nilIface:=C;have J:=Z A;have T2:=Z (al.out.ch A (fun h=>h));obtain⟨eA,s1,s2⟩:=T2.out.c3;clear A t0 t1 t2)|(go_at_call 103;refine(V.out _).mono ?_;rintro e ci ⟨⟨y,rfl,C⟩,W⟩;have a3:=Z W;obtain rfl:y=.nilIface:=C;have c4:=Z (T2.out.ch W (fun h=>h));have cA:=Z (c4.out.alloc (.cells Tryz.zeroCells252 252));obtain⟨es,et,ex⟩:=cA.out.c3;clear W eA s1 s2))
 have eC:Hid (Tryz.zeroCells252.toList=(List.replicate 1000 false).map Value.bool):=Z (by kernel_rfl);obtain⟨w4,a1⟩:=nm (ci.alloc (.cells Tryz.zeroCells252 252));obtain⟨o,bv⟩:=nm ci.heap.size;have ct:Hid (Row w4 o 252 ((List.replicate 1000 false).map Value.bool)):=Z (by rw[<-a1,<-bv,<-eC.out];exact Row.new _ _ _);have c2:Hid (Ch ag w w4):=Z (by rw[<-a1];exact((I.out.trans J.out).trans a3.out).alloc _);have T:Hid (w.heap.size<o/\w1.heap.size<=o/\o<w4.heap.size):=Z (by
  refine⟨by rw[<-bv];exact c4.out.lt,by rw[<-bv];exact(J.out.trans a3.out).size,ct.out.lt⟩)
 have cm:Hid (Ch ag w1 w4):=Z (by rw[<-a1];exact(J.out.trans a3.out).alloc _);have cC:Hid (Row w4 w.heap.size 90 [.slice S N a2,.int .i64 loop,.slice bw M ch]):=Z (al.out.ch cm.out (fun h=>h));rw[a1,bv];rw[a1]at es et ex;clear cA c4 T2 V U cs a1 bv es et ex;go_loopg [34] (M+1) (fun gk i wr=>∃(k:Nat) (s:List Bool),k<=M/\gk=M-k+1/\i=.int .i64 k/\Hid (fy N calls k s q)/\Hid (Row wr o 252 (s.map Value.bool))/\Hid (Ch (aK o) w4 wr))
 case atStart=>exact⟨0,_,by omega,by omega,rfl,eO,ct,Z (Ch.refl _ _)⟩
 case round=>
  obtain⟨k,s,dC,rfl,rfl,t,ad,L⟩:=hrel;by_cases e1:k<M
  ·obtain⟨X,av⟩:∃X,calls[k]?=some X:=⟨_,List.getElem?_eq_getElem (by rw[<-c3.out];exact e1)⟩
   have d:=Z av;obtain⟨g,R,rfl,cb⟩:=eU.out (by intro e;rw[e]at av;cases av);have en:=cb.ch (cm.out) (fun h=>h);have ec:Hid (Row wr g 158 (calls.flatMap br.cells++R)):=Z (en.ch L.out (fun e=>by have P:g=o:=e;have cW:=cb.lt;have am:=T.out.2.1;omega));have Q:∀j v,j<6->X.cells[j]?=some v->wr.cell? ⟨g,k*6+j,none⟩=some v:=fun j v hj g2=>ec.out.cell (by
    rw[List.getElem?_append_left (by
     have P:=List.length_flatMap (f:=br.cells) (l:=calls);have cW:(calls.flatMap br.cells).length=calls.length*6:=by
      rw[P];simp only[br.len];rw[List.map_const',List.sum_replicate_nat]
     rw[cW,<-c3.out];have:(k+1)*6<=M*6:=Nat.mul_le_mul_right _ e1;omega)]
    exact(bP br.len av hj).trans g2)
   obtain⟨num,at_,k0,k1,k2,k3⟩:=X;have cL:=Q 0 _ (by omega) rfl;have fd:=Q 1 _ (by omega) rfl;have fn:=Q 2 _ (by omega) rfl;have fo:=Q 3 _ (by omega) rfl;have fr:=Q 4 _ (by omega) rfl;have fz:=Q 5 _ (by omega) rfl;rw[Nat.add_zero]at cL;have g4:wr.cell? ⟨w.heap.size,0,none⟩=some (.slice S N a2):=(cC.out.ch L.out (fun e=>by have P:w.heap.size=o:=e;have am:=T.out.1;omega)).cell (i:=0) rfl;have dC:(k:Int)<M:=(by omega);have fT:g<wr.heap.size/\w.heap.size<wr.heap.size/\o<wr.heap.size:=⟨ec.out.lt,(cC.out.ch L.out (fun e=>by have P:w.heap.size=o:=e;have am:=T.out.1;omega)).lt,ad.out.lt⟩;obtain⟨gr,gs,gt⟩:=fT;clear Q av cb en;have F:Hid (Ch ag w wr):=Z (c2.out.fresh L.out (fun b hb e=>by have P:b=o:=e;have am:=T.out.1;omega));by_cases gA:num<1
   ·have B:Hid (gl N s ⟨num,at_,k0,k1,k2,k3⟩=false):=Z (by unfold gl;dsimp only;rw[decide_eq_false (by omega)];rfl)
    have a:Hid (n=false):=Z (E.out.trans (t.out.bad d.out B.out));clear d;go_wp2_with (go_at_call 101;refine(bk _ _ _ _).mono ?_;rintro e w' ⟨rfl,rfl⟩)
    go_ret;rw[a.out];exact⟨⟨_,rfl,aq.mk _ _⟩,(F.out.alloc _).alloc _⟩
   by_cases gC:999<num
   ·have B:Hid (gl N s ⟨num,at_,k0,k1,k2,k3⟩=false):=Z (by unfold gl;dsimp only;rw[decide_eq_false (by omega)];rfl)
    have a:Hid (n=false):=Z (E.out.trans (t.out.bad d.out B.out));clear d;go_wp2_with (go_at_call 101;refine(bk _ _ _ _).mono ?_;rintro e w' ⟨rfl,rfl⟩)
    go_ret;rw[a.out];exact⟨⟨_,rfl,aq.mk _ _⟩,(F.out.alloc _).alloc _⟩
   obtain⟨m,rfl⟩:∃m:Nat,num=m:=⟨num.toNat,by omega⟩;have gp:(m:Int)<1000:=(by omega);have go:m<1000:=(by omega);have gf:(0:Int)<=m:=(by omega);obtain⟨b,hb⟩:∃b,s[m]?=some b:=⟨_,List.getElem?_eq_getElem (by rw[t.out.1];omega)⟩;have fE:wr.cell? ⟨o,m,none⟩=some (.bool b):=ad.out.cell (by rw[List.getElem?_map,hb];rfl);have ab:Hid (s.getD (m:Int).toNat false=b):=Z (by rw[Int.toNat_natCast,List.getD_eq_getElem?_getD,hb];rfl);clear hb;have hj:decide (1<=(m:Int)/\(m:Int)<=999)=true:=decide_eq_true (by omega);have c:=Z hj;clear hj;cases b
   rotate_left
   ·have B:Hid (gl N s ⟨m,at_,k0,k1,k2,k3⟩=false):=Z (by unfold gl;dsimp only;rw[c.out,ab.out];rfl)
    have a:Hid (n=false):=Z (E.out.trans (t.out.bad d.out B.out));clear d;go_wp2_with (go_at_call 101;refine(bk _ _ _ _).mono ?_;rintro e w' ⟨rfl,rfl⟩)
    go_ret;rw[a.out];exact⟨⟨_,rfl,aq.mk _ _⟩,(F.out.alloc _).alloc _⟩
   by_cases gJ:at_<0
   ·have B:Hid (gl N s ⟨m,at_,k0,k1,k2,k3⟩=false):=Z (by unfold gl;dsimp only;rw[c.out,ab.out,decide_eq_false (p:=0<=at_/\at_<(N:Int)) (by omega)];rfl)
    have a:Hid (n=false):=Z (E.out.trans (t.out.bad d.out B.out));clear d;go_wp2_with (go_at_call 101;refine(bk _ _ _ _).mono ?_;rintro e w' ⟨rfl,rfl⟩)
    go_ret;rw[a.out];exact⟨⟨_,rfl,aq.mk _ _⟩,(F.out.alloc _).alloc _⟩
   by_cases gL:(N:Int)<=at_
   ·have B:Hid (gl N s ⟨m,at_,k0,k1,k2,k3⟩=false):=Z (by unfold gl;dsimp only;rw[c.out,ab.out,decide_eq_false (p:=0<=at_/\at_<(N:Int)) (by omega)];rfl)
    have a:Hid (n=false):=Z (E.out.trans (t.out.bad d.out B.out));clear d;go_wp2_with (go_at_call 101;refine(bk _ _ _ _).mono ?_;rintro e w' ⟨rfl,rfl⟩)
    go_ret;rw[a.out];exact⟨⟨_,rfl,aq.mk _ _⟩,(F.out.alloc _).alloc _⟩
   have z:Hid (gl N s ⟨m,at_,k0,k1,k2,k3⟩=[k0,k1,k2,k3].all iM):=Z (by unfold gl;dsimp only;rw[c.out,ab.out,decide_eq_true (p:=0<=at_/\at_<(N:Int)) (by omega)];simp[Bool.and_assoc]);clear c ab;have fb:=ad.out.free m;go_wp2_with fail
   obtain⟨cl,c1⟩:=mn (((wr.setCell ⟨o,m,none⟩ (.bool true)).alloc (.cells #[.int .i64 m,.int .i64 at_,.int .i64 k0,.int .i64 k1,.int .i64 k2,.int .i64 k3] 158)));have cq:Hid (Ch (aK o) w4 cl):=Z (by rw[c1];exact(L.out.only _ _).alloc _);have eY:Hid (Row cl o 252 ((s.set m true).map Value.bool)):=Z (by rw[c1,List.map_set];exact(ad.out.set _ _).alloc _);have G:Hid (Ch ag w cl):=Z (c2.out.fresh cq.out (fun b hb e=>by have P:b=o:=e;have am:=T.out.1;omega));rw[<-c1];clear c1 cL fd fn fo fr fz g4 fE fb ad L F;obtain⟨r,a0⟩:=nm ([k0,k1,k2,k3].all iM);rw[a0]at z;have eS:Hid (([k0,k1,k2,k3].drop 0).all iM=r):=Z a0;clear a0;go_loop [74] (fun s=>∃j:Nat,s=.int .i64 j/\j<=4/\Hid (([k0,k1,k2,k3].drop j).all iM=r)) (fun s=>4-(intOf s).toNat)
   case atStart=>exact⟨0,rfl,by omega,eS⟩
   case round=>
    obtain⟨j,rfl,ge,c⟩:=hrel;obtain rfl|rfl|rfl|rfl|rfl:j=0∨j=1∨j=2∨j=3∨j=4:=by omega
    ·have c5:=C' k0 k1 k2 k3
     by_cases c8:k0<0
     ·have x:Hid (r=false):=Z (by rw[<-c.out,EZ,show iM k0=false from decide_eq_false (show¬(0<=k0/\k0<=7)by omega)];rfl)
      have a:Hid (n=false):=Z (E.out.trans (t.out.bad d.out (z.out.trans x.out)));go_wp2_with (go_at_call 101;refine(bk _ _ _ _).mono ?_;rintro e w' ⟨rfl,rfl⟩)
      go_ret;rw[a.out];exact⟨⟨_,rfl,aq.mk _ _⟩,G.out.alloc _⟩
     by_cases c9:7<k0
     ·have x:Hid (r=false):=Z (by rw[<-c.out,EZ,show iM k0=false from decide_eq_false (show¬(0<=k0/\k0<=7)by omega)];rfl)
      have a:Hid (n=false):=Z (E.out.trans (t.out.bad d.out (z.out.trans x.out)));go_wp2_with (go_at_call 101;refine(bk _ _ _ _).mono ?_;rintro e w' ⟨rfl,rfl⟩)
      go_ret;rw[a.out];exact⟨⟨_,rfl,aq.mk _ _⟩,G.out.alloc _⟩
     have O:Hid (([k0,k1,k2,k3].drop 1).all iM=r):=Z (by rw[<-c.out,EZ,show iM k0=true from decide_eq_true (show(0<=k0/\k0<=7)by omega)];rfl);go_wp2_with fail
     go_round
     case rel=>exact⟨1,rfl,by omega,O⟩
     case measure=>simp[intOf]
    ·have c5:=Da k0 k1 k2 k3
     by_cases c8:k1<0
     ·have x:Hid (r=false):=Z (by rw[<-c.out,E0,show iM k1=false from decide_eq_false (show¬(0<=k1/\k1<=7)by omega)];rfl)
      have a:Hid (n=false):=Z (E.out.trans (t.out.bad d.out (z.out.trans x.out)));go_wp2_with (go_at_call 101;refine(bk _ _ _ _).mono ?_;rintro e w' ⟨rfl,rfl⟩)
      go_ret;rw[a.out];exact⟨⟨_,rfl,aq.mk _ _⟩,G.out.alloc _⟩
     by_cases c9:7<k1
     ·have x:Hid (r=false):=Z (by rw[<-c.out,E0,show iM k1=false from decide_eq_false (show¬(0<=k1/\k1<=7)by omega)];rfl)
      have a:Hid (n=false):=Z (E.out.trans (t.out.bad d.out (z.out.trans x.out)));go_wp2_with (go_at_call 101;refine(bk _ _ _ _).mono ?_;rintro e w' ⟨rfl,rfl⟩)
      go_ret;rw[a.out];exact⟨⟨_,rfl,aq.mk _ _⟩,G.out.alloc _⟩
     have O:Hid (([k0,k1,k2,k3].drop 2).all iM=r):=Z (by rw[<-c.out,E0,show iM k1=true from decide_eq_true (show(0<=k1/\k1<=7)by omega)];rfl);go_wp2_with fail
     go_round
     case rel=>exact⟨2,rfl,by omega,O⟩
     case measure=>simp[intOf]
    ·have c5:=Db k0 k1 k2 k3
     by_cases c8:k2<0
     ·have x:Hid (r=false):=Z (by rw[<-c.out,E1,show iM k2=false from decide_eq_false (show¬(0<=k2/\k2<=7)by omega)];rfl)
      have a:Hid (n=false):=Z (E.out.trans (t.out.bad d.out (z.out.trans x.out)));go_wp2_with (go_at_call 101;refine(bk _ _ _ _).mono ?_;rintro e w' ⟨rfl,rfl⟩)
      go_ret;rw[a.out];exact⟨⟨_,rfl,aq.mk _ _⟩,G.out.alloc _⟩
     by_cases c9:7<k2
     ·have x:Hid (r=false):=Z (by rw[<-c.out,E1,show iM k2=false from decide_eq_false (show¬(0<=k2/\k2<=7)by omega)];rfl)
      have a:Hid (n=false):=Z (E.out.trans (t.out.bad d.out (z.out.trans x.out)));go_wp2_with (go_at_call 101;refine(bk _ _ _ _).mono ?_;rintro e w' ⟨rfl,rfl⟩)
      go_ret;rw[a.out];exact⟨⟨_,rfl,aq.mk _ _⟩,G.out.alloc _⟩
     have O:Hid (([k0,k1,k2,k3].drop 3).all iM=r):=Z (by rw[<-c.out,E1,show iM k2=true from decide_eq_true (show(0<=k2/\k2<=7)by omega)];rfl);go_wp2_with fail
     go_round
     case rel=>exact⟨3,rfl,by omega,O⟩
     case measure=>simp[intOf]
    ·have c5:=Dc k0 k1 k2 k3
     by_cases c8:k3<0
     ·have x:Hid (r=false):=Z (by rw[<-c.out,E2,show iM k3=false from decide_eq_false (show¬(0<=k3/\k3<=7)by omega)];rfl)
      have a:Hid (n=false):=Z (E.out.trans (t.out.bad d.out (z.out.trans x.out)));go_wp2_with (go_at_call 101;refine(bk _ _ _ _).mono ?_;rintro e w' ⟨rfl,rfl⟩)
      go_ret;rw[a.out];exact⟨⟨_,rfl,aq.mk _ _⟩,G.out.alloc _⟩
     by_cases c9:7<k3
     ·have x:Hid (r=false):=Z (by rw[<-c.out,E2,show iM k3=false from decide_eq_false (show¬(0<=k3/\k3<=7)by omega)];rfl)
      have a:Hid (n=false):=Z (E.out.trans (t.out.bad d.out (z.out.trans x.out)));go_wp2_with (go_at_call 101;refine(bk _ _ _ _).mono ?_;rintro e w' ⟨rfl,rfl⟩)
      go_ret;rw[a.out];exact⟨⟨_,rfl,aq.mk _ _⟩,G.out.alloc _⟩
     have O:Hid (([k0,k1,k2,k3].drop 4).all iM=r):=Z (by rw[<-c.out,E2,show iM k3=true from decide_eq_true (show(0<=k3/\k3<=7)by omega)];rfl);go_wp2_with fail
     go_round
     case rel=>exact⟨4,rfl,by omega,O⟩
     case measure=>simp[intOf]
    ·have eL:Hid (gl N s ⟨m,at_,k0,k1,k2,k3⟩=true):=Z (z.out.trans c.out.symm)
     go_wp2_with fail
     go_roundg (M-k)
     case measure=>omega
     case rel=>exact⟨k+1,_,by omega,by omega,by go_num,Z (t.out.next d.out eL.out),eY,cq⟩
  ·skip
   have a:Hid (n=true):=Z (E.out.trans (t.out.all (by rw[<-c3.out];omega)));have F:Hid (Ch ag w wr):=Z (c2.out.fresh L.out (fun b hb e=>by have P:b=o:=e;have am:=T.out.1;omega));have dC:¬(k:Int)<M:=(by omega);go_wp2_with fail
   go_ret;rw[a.out];exact⟨⟨_,rfl,rfl⟩,F.out⟩
def ei(l:List aV)(en a b:Int):Bool:=
 decide (0<=a/\0<=b/\a<=256/\b<=256-a/\l.length≠0)&&ja l false&&decide (0<=en/\en<l.length)
theorem jd(l:List aV)(a:Option Addr)(c:Nat)(en b d:Int)(F:l.length<=c)(w:World)(I:l≠[]->∃g,a=some ⟨g,0,none⟩/\eE w g l)
 (p:w.cell? ⟨0,0,none⟩=some (.iface 390 (.agg #[.pointer (some ⟨4,85,none⟩)]))):
 Calls prog 61 #[.agg #[.slice a l.length c,.int .i64 en,.int .i64 b,.int .i64 d]] w (qz (ei l en b d) w):=by
 obtain⟨w1,B⟩:=nm (w.alloc (.cells #[.slice a l.length c,.int .i64 en,.int .i64 b,.int .i64 d] 77));have f:=Z (Ch.al (D:=ag) B);have M:Hid (l≠[]->∃g,a=some ⟨g,0,none⟩/\eE w1 g l):=Z (fun h=>by obtain⟨g,e,p⟩:=I h;exact⟨g,e,p.ch f.out (fun h=>h)⟩);have L:Hid (w1.cell? ⟨0,0,none⟩=some (.iface 390 (.agg #[.pointer (some ⟨4,85,none⟩)]))):=Z (f.out.k p);have n:=Z (kL l a c false F w1 M.out L.out);have s:=Z (Row.al B);obtain⟨N,x⟩:=mn l.length;obtain⟨k,z⟩:=nm (ei l en b d);obtain⟨u,A⟩:=nm (ja l false);have H:k=(decide (0<=b/\0<=d/\b<=256/\d<=256-b/\N≠0)&&u&&decide (0<=en/\en<N)):=by rw[<-z,x,<-A];rfl
 rw[A]at n;rw[z];rw[<-x]at n s B⊢;clear I p F x z A;obtain⟨t0,t1,t2,t3⟩:=s.out.c4;have K:Hid (k=(decide (0<=b/\0<=d/\b<=256/\d<=256-b/\N≠0)&&u&&decide (0<=en/\en<N))):=Z H;clear H;have P:b<0∨(¬b<0/\d<0)∨(¬b<0/\¬d<0/\256<b)∨(¬b<0/\¬d<0/\¬256<b/\256-b<d)∨(¬b<0/\¬d<0/\¬256<b/\¬256-b<d/\N=0)∨(¬b<0/\¬d<0/\¬256<b/\¬256-b<d/\N≠0):=by omega
 rcases P with m|⟨m,o⟩|⟨m,o,t⟩|⟨m,o,t,C⟩|⟨m,o,t,C,v⟩|⟨m,o,t,C,v⟩
 ·have E:Hid (k=false):=Z (by rw[K.out,decide_eq_false (by omega)];rfl)
  go_enter func61,ntmps61
  go_wp2_with (go_at_call 101;refine(bk _ _ _ _).mono ?_;rintro e w' ⟨rfl,rfl⟩)
  go_ret;rw[E.out];exact⟨⟨_,rfl,aq.mk _ _⟩,f.out.alloc _⟩
 ·have E:Hid (k=false):=Z (by rw[K.out,decide_eq_false (by omega)];rfl)
  go_enter func61,ntmps61
  go_wp2_with (go_at_call 101;refine(bk _ _ _ _).mono ?_;rintro e w' ⟨rfl,rfl⟩)
  go_ret;rw[E.out];exact⟨⟨_,rfl,aq.mk _ _⟩,f.out.alloc _⟩
 ·have E:Hid (k=false):=Z (by rw[K.out,decide_eq_false (by omega)];rfl)
  go_enter func61,ntmps61
  go_wp2_with (go_at_call 101;refine(bk _ _ _ _).mono ?_;rintro e w' ⟨rfl,rfl⟩)
  go_ret;rw[E.out];exact⟨⟨_,rfl,aq.mk _ _⟩,f.out.alloc _⟩
 ·have E:Hid (k=false):=Z (by rw[K.out,decide_eq_false (by omega)];rfl)
  have hw:IntKind.i64.wrap (256-b)=256-b:=IntWalk.i64_in _ (by omega);go_enter func61,ntmps61
  go_wp2_with (go_at_call 101;refine(bk _ _ _ _).mono ?_;rintro e w' ⟨rfl,rfl⟩)
  go_ret;rw[E.out];exact⟨⟨_,rfl,aq.mk _ _⟩,f.out.alloc _⟩
 ·have E:Hid (k=false):=Z (by rw[K.out,decide_eq_false (by omega)];rfl)
  have hw:IntKind.i64.wrap (256-b)=256-b:=IntWalk.i64_in _ (by omega);subst v;go_enter func61,ntmps61
  go_wp2_with (go_at_call 101;refine(bk _ _ _ _).mono ?_;rintro e w' ⟨rfl,rfl⟩)
  go_ret;rw[E.out];exact⟨⟨_,rfl,aq.mk _ _⟩,f.out.alloc _⟩
 ·have hw:IntKind.i64.wrap (256-b)=256-b:=IntWalk.i64_in _ (by omega)
  have E:Hid (k=(u&&decide (0<=en/\en<N))):=Z (by rw[K.out,decide_eq_true (by omega),Bool.true_and]);have Q:(N==0)=false:=by simpa using v
  cases u
  ·have r:Hid (k=false):=Z (by rw[E.out];rfl)
   go_enter func61,ntmps61
   go_wp2_with (go_at_call 102;refine n.out.mono ?_;rintro e w2 ⟨⟨y,rfl,j⟩,i⟩;obtain⟨tt,T,rfl⟩:aq y:=j;have q:=Z i;clear i)
   go_ret;rw[r.out];exact⟨⟨_,rfl,aq.mk _ _⟩,f.out.trans q.out⟩
  ·have r:Hid (k=decide (0<=en/\en<N)):=Z (by rw[E.out,Bool.true_and])
   go_enter func61,ntmps61
   go_wp2_with (first|(go_at_call 102;refine n.out.mono ?_;rintro e w2 ⟨⟨y,rfl,j⟩,i⟩;obtain rfl:y=.nilIface:=j;have q:=Z i;have T2:=s.out.ch i (fun h=>h);obtain⟨R,s1⟩:=T2.c2;clear i T2 t0 t1 t2 t3)|(go_at_call 103;refine(lF _ _ _).mono ?_;rintro e S ⟨⟨y,rfl,j⟩,G⟩;have J:=Z G;have O:=Z j;clear G j))
   go_ret;rw[r.out];exact⟨⟨_,rfl,O.out⟩,(f.out.trans q.out).trans J.out⟩
section
structure DS where
 mem:aF
 bB:aZ
 ring:List Int
 tab:List aD
 wk:List ak
def KS.ds(K:KS):DS:=⟨K.mem,K.blocks,K.ring,K.table,K.wk⟩
section
variable{C:KC}{K:KS}{i:Nat}
theorem KJ(K:KS)(id:Int)(c:bK)(x:aV):(cY K id c x).ds=K.ds:=by
 unfold cY;dsimp only
 repeat' split
 all_goals rfl
theorem Og(a:i<K.wk.length)(x:ak):(K.be i x).W i=x:=by
 unfold KS.W KS.be;rw[List.getD_eq_getElem?_getD,List.getElem?_set_self a];rfl
def Li(K:KS)(i:Nat)(f:cE)(m:aF):KS:={K with mem:=m,wk:=K.wk.set i {K.W i with parked:=false,f:=f}}
theorem Hw(a:i<K.wk.length):cy C (K.be i {K.W i with parked:=false}) (.own i)=(fu C.dx (K.W i).f.pc,(bD aF.acc C.dx (K.W i).f K.mem).1,Li K i (bD aF.acc C.dx (K.W i).f K.mem).2.1 (bD aF.acc C.dx (K.W i).f K.mem).2.2):=by
 have e:(K.be i {K.W i with parked:=false}).F (.own i)=(K.W i).f:=by show(KS.W _ i).f=_;rw[Og a]
 have g:∀(m:aF) (f:cE),(({K.be i {K.W i with parked:=false}with mem:=m}:KS).cH (.own i) f)=Li K i f m:=fun m f=>by
  show KS.be _ i _=_
  have h:(({K.be i {K.W i with parked:=false}with mem:=m}:KS).W i)={K.W i with parked:=false}:=Og a _;rw[h];unfold KS.be Li;dsimp only;rw[List.set_set]
 unfold cy;dsimp only;rw[e,g];rfl
def F8(K:KS)(i:Nat)(draw:Int):KS:={K with at_:=K.entries,w:=i,draw:=draw,entries:=wrap64 (K.entries+1)}
def Ko(op:Int):Prop:=op=29∨op=30∨op=31∨op=32∨op=33∨op=38∨op=39∨op=42∨op=43∨op=48
def I8(C:KC)(K:KS)(i:Nat):Prop:=
 (cy C (K.be i {K.W i with parked:=false}) (.own i)).2.1=0∨(cy C (K.be i {K.W i with parked:=false}) (.own i)).2.1=1/\Ko (cy C (K.be i {K.W i with parked:=false}) (.own i)).1.op/\(ay C (cy C (K.be i {K.W i with parked:=false}) (.own i)).2.2 i none (.own i) (cy C (K.be i {K.W i with parked:=false}) (.own i)).1).1=0
theorem KK(b:i<K.wk.length)(a:(K.W i).slot=0)(draw:Int):(gM C K 1 i draw).2.ds=(jT C (F8 K i draw) i).ds:=by
 unfold gM;dsimp only;rw[if_neg (by decide),if_pos rfl,if_pos ⟨by omega,by omega⟩,Int.toNat_natCast];have e:fI C (F8 K i draw) i=jT C (F8 K i draw) i:=by
  unfold fI;rw[if_pos (show((F8 K i draw).W i).slot=0 from a)]
 show(fI C (F8 K i draw) i).ds=_
 rw[e]
theorem LX(a:i<K.wk.length)(b:(K.W i).slot=0)(draw:Int){f:cE}{m:aF}(h:bD aF.acc C.dx (K.W i).f K.mem=(0,f,m)):
 (gM C K 1 i draw).2.ds=⟨m,K.blocks,K.ring,K.table,K.wk.set i {K.W i with parked:=false,f:=f}⟩:=by
 rw[KK a b];unfold jT eu;dsimp only;rw[Hw (K:=F8 K i draw) a];have h:bD aF.acc C.dx ((F8 K i draw).W i).f (F8 K i draw).mem=(0,f,m):=h;rw[h];simp only[Int.reduceEq,if_false,if_true,reduceIte];rw[KJ];rfl
theorem JO(b:i<K.wk.length)(c:(K.W i).slot=0)(draw:Int){f:cE}{m:aF}(h:bD aF.acc C.dx (K.W i).f K.mem=(1,f,m)){K2:KS}(a:ay C (Li (F8 K i draw) i f m) i none (.own i) (fu C.dx (K.W i).f.pc)=(0,K2)):
 (gM C K 1 i draw).2.ds=(K2.ft (.own i)).ds:=by
 rw[KK b c];unfold jT eu;dsimp only;rw[Hw (K:=F8 K i draw) b];have h:bD aF.acc C.dx ((F8 K i draw).W i).f (F8 K i draw).mem=(1,f,m):=h;rw[h];dsimp only;have a:ay C (Li (F8 K i draw) i f m) i none (.own i) (fu C.dx ((F8 K i draw).W i).f.pc)=(0,K2):=a;rw[a];simp only[reduceIte];rw[KJ]
end
end
structure AW where
 pc:Nat
 r:Nat->Nat
 back:List Nat
 hand:Nat
structure AS where
 c:Nat->Nat
 hl:Nat
 Gx:Nat
 ring:List Nat
 nb:Nat
 wk:List AW
def qO:Nat:=18446744073709551616
def cf(r:Nat->Nat)(k x:Nat):Nat->Nat:=fun i=>if i=k then x else r i
def cX(x:aV)(r:Nat->Nat):Nat:=r x.b.toNat
def dH(x:aV)(r:Nat->Nat):Nat:=if x.c=-1 then x.v.toNat else r x.c.toNat
def GK(x:aV)(r:Nat->Nat):Nat:=if x.b=-1 then x.v.toNat else(r x.b.toNat+x.v.toNat)%qO
def F2(x:aV)(b c:Nat):Nat:=
 if x.op=1 then x.v.toNat
 else if x.op=3 then(b+c)%qO
 else if x.op=4 then(b+(qO-c))%qO
 else if x.op=5 then b&&&c
 else if x.op=9 then b>>>(c&&&63)
 else if x.op=10 then(if b=c then 1 else 0)
 else if x.op=11 then(if b<c then 1 else 0)
 else b
def AS.put(s:AS)(i:Nat)(w:AW):AS:={s with wk:=s.wk.set i w}
def AS.lay(s:AS)(id:Nat):AS:={s with ring:=s.ring++[id],c:=cf s.c 0 ((s.c 0+1)%qO)}
def AS.may(s:AS)(id:Nat):Bool:=decide (64<=id/\id<64+s.nb)&& !(s.wk.any fun w=>w.hand==id)&& !(s.ring.any fun r=>r==id)
def ck(x:aV)(s:AS)(j d:Nat)(w:AW):AS:=
 let a:=x.a.toNat
 let n:AW:={w with pc:=w.pc+1}
 let g:Nat->AW:=fun v=>{n with r:=cf w.r a v}
 if 1<=x.op/\x.op<=11 then s.put j (g (F2 x (cX x w.r) (dH x w.r)))
 else if x.op=12 then s.put j {w with pc:=x.v.toNat}
 else if x.op=13 then s.put j (if w.r a=0 then {w with pc:=x.v.toNat}else n)
 else if x.op=14 then s.put j (if w.r a=0 then n else {w with pc:=x.v.toNat})
 else if x.op=15 then s.put j {w with pc:=x.v.toNat,back:=w.back++[w.pc+1]}
 else if x.op=16 then s.put j {w with pc:=w.back.getLastD 0,back:=w.back.dropLast}
 else if x.op=17 then s.put j (g (s.c (GK x w.r)))
 else if x.op=18 then {s with c:=cf s.c (GK x w.r) (w.r a)}.put j n
 else if x.op=20 then {s with c:=cf s.c (GK x w.r) ((s.c (GK x w.r)+w.r a)%qO)}.put j (g (s.c (GK x w.r)))
 else if x.op=29 then s.put j (g w.hand)
 else if x.op=30 then s.put j (if w.hand=0/\s.may (w.r a)=true then {n with hand:=w.r a}else n)
 else if x.op=31 then {s with c:=cf s.c (GK x w.r) (w.r a)}.put j {n with hand:=0}
 else if x.op=32 then
  let h:=s.c (GK x w.r)
  let m:AW:=g h
  if h=w.r a then {s with c:=cf s.c (GK x w.r) (w.r x.c.toNat)}.put j (if w.hand=0/\s.may (m.r 16)=true then {m with hand:=m.r 16}else m)
  else s.put j m
 else if x.op=33 then(if w.hand=0 then s.put j n else(s.lay w.hand).put j {n with hand:=0})
 else if x.op=38 then s.put j (g (17+3*j))
 else if x.op=39 then s.put j (g (17+3*(cX x w.r%s.wk.length)))
 else if x.op=42 then s.put j (g d)
 else if x.op=43 then
  let k:=cX x w.r
  if 1<=k/\k<=4096/\s.hl+k<=s.Gx then {s with hl:=s.hl+k,c:=fun q=>if s.hl<=q/\q<s.hl+k then 0 else s.c q}.put j (g s.hl)else s.put j (g 0)
 else if x.op=48 then
  if s.hl+1<=s.Gx/\s.nb<64 then
   ({s with hl:=s.hl+1,nb:=s.nb+1,c:=cf s.c s.hl 0}).put j {g (64+s.nb)with hand:=64+s.nb}
  else s.put j (g 0)
 else s.put j n
def dF:List aV:=[
 ⟨29,16,0,0,0,0,0⟩,⟨13,16,0,0,18,0,0⟩,⟨38,17,0,0,0,0,0⟩,⟨17,18,17,0,1,0,0⟩,⟨17,19,17,0,0,0,0⟩,⟨17,20,17,0,2,0,0⟩,
 ⟨17,21,20,0,0,0,0⟩,⟨4,22,18,19,0,0,0⟩,⟨11,22,22,21,0,0,0⟩,⟨13,22,0,0,19,0,0⟩,⟨4,21,21,-1,1,0,0⟩,⟨5,21,18,21,0,0,0⟩,
 ⟨3,21,20,21,0,0,0⟩,⟨18,16,21,0,1,0,0⟩,⟨3,18,18,-1,1,0,0⟩,⟨31,18,17,0,1,0,0⟩,⟨1,23,0,0,1,0,0⟩,⟨20,23,-1,0,0,0,0⟩,
 ⟨16,0,0,0,0,0,0⟩,⟨1,22,0,0,16,0,0⟩,⟨11,22,21,22,0,0,0⟩,⟨13,22,0,0,43,0,0⟩,⟨3,24,21,21,0,0,0⟩,⟨3,25,24,-1,1,0,0⟩,
 ⟨43,25,25,0,0,0,0⟩,⟨13,25,0,0,43,0,0⟩,⟨18,24,25,0,0,0,0⟩,⟨10,22,19,18,0,0,0⟩,⟨14,22,0,0,39,0,0⟩,⟨4,22,21,-1,1,0,0⟩,
 ⟨5,22,19,22,0,0,0⟩,⟨3,22,20,22,0,0,0⟩,⟨17,23,22,0,1,0,0⟩,⟨4,22,24,-1,1,0,0⟩,⟨5,22,19,22,0,0,0⟩,⟨3,22,25,22,0,0,0⟩,
 ⟨18,23,22,0,1,0,0⟩,⟨3,19,19,-1,1,0,0⟩,⟨12,0,0,0,27,0,0⟩,⟨18,25,17,0,2,0,0⟩,⟨2,20,25,0,0,0,0⟩,⟨2,21,24,0,0,0,0⟩,
 ⟨12,0,0,0,10,0,0⟩,⟨33,0,0,0,0,0,0⟩,⟨16,0,0,0,0,0,0⟩,⟨38,17,0,0,0,0,0⟩,⟨17,18,17,0,1,0,0⟩,⟨4,18,18,-1,1,0,0⟩,
 ⟨18,18,17,0,1,0,0⟩,⟨17,19,17,0,0,0,0⟩,⟨11,22,18,19,0,0,0⟩,⟨14,22,0,0,70,0,0⟩,⟨17,20,17,0,2,0,0⟩,⟨17,21,20,0,0,0,0⟩,
 ⟨4,21,21,-1,1,0,0⟩,⟨5,21,18,21,0,0,0⟩,⟨3,21,20,21,0,0,0⟩,⟨17,16,21,0,1,0,0⟩,⟨10,22,18,19,0,0,0⟩,⟨14,22,0,0,62,0,0⟩,
 ⟨30,16,0,0,0,0,0⟩,⟨16,0,0,0,0,0,0⟩,⟨2,22,19,0,0,0,0⟩,⟨3,23,19,-1,1,0,0⟩,⟨32,22,17,23,0,0,0⟩,⟨18,23,17,0,1,0,0⟩,
 ⟨10,22,22,19,0,0,0⟩,⟨14,22,0,0,69,0,0⟩,⟨1,16,0,0,0,0,0⟩,⟨16,0,0,0,0,0,0⟩,⟨18,19,17,0,1,0,0⟩,⟨1,16,0,0,0,0,0⟩,
 ⟨16,0,0,0,0,0,0⟩,⟨17,19,17,0,0,0,0⟩,⟨17,18,17,0,1,0,0⟩,⟨11,22,19,18,0,0,0⟩,⟨13,22,0,0,88,0,0⟩,⟨17,20,17,0,2,0,0⟩,
 ⟨17,21,20,0,0,0,0⟩,⟨4,21,21,-1,1,0,0⟩,⟨5,21,19,21,0,0,0⟩,⟨3,21,20,21,0,0,0⟩,⟨17,16,21,0,1,0,0⟩,⟨2,22,19,0,0,0,0⟩,
 ⟨3,23,19,-1,1,0,0⟩,⟨32,22,17,23,0,0,0⟩,⟨10,22,22,19,0,0,0⟩,⟨14,22,0,0,89,0,0⟩,⟨1,16,0,0,0,0,0⟩,⟨16,0,0,0,0,0,0⟩,
 ⟨42,0,0,0,0,0,0⟩,⟨5,1,0,-1,3,0,0⟩,⟨9,2,0,-1,2,0,0⟩,⟨13,1,0,0,102,0,0⟩,⟨10,3,1,-1,1,0,0⟩,⟨14,3,0,0,99,0,0⟩,
 ⟨39,17,2,0,0,0,0⟩,⟨15,0,0,0,73,0,0⟩,⟨12,0,0,0,100,0,0⟩,⟨15,0,0,0,45,0,0⟩,⟨33,0,0,0,0,0,0⟩,⟨12,0,0,0,90,0,0⟩,
 ⟨1,4,0,0,0,0,0⟩,⟨48,16,4,4,0,1,0⟩,⟨13,16,0,0,90,0,0⟩,⟨15,0,0,0,0,0,0⟩,⟨12,0,0,0,90,0,0⟩]
def HS(n:Nat):Nat->Nat->Nat
 |0=>fun _=>0
 |k+1=>cf (cf (cf (cf (HS n k) (17+3*k) 1) (17+3*k+1) 1) (17+3*k+2) (17+3*n+5*k)) (17+3*n+5*k) 4
def Kr(n tt lp wd:Nat):AS:=⟨HS n n,17+8*n+wd,tt,[],0,List.replicate n ⟨lp,fun _=>0,[],0⟩⟩
inductive Pl where
 |ring
 |hand (k:Nat)
 |deq (d i:Nat)
 |rch (d:Nat)
 deriving DecidableEq
structure Gh where
 eb:Nat->Nat
 it:Nat->Nat->Nat
 lc:Nat->Pl
 bs:Nat->Nat
 ow:Nat->Nat
 pb:Nat->Bool
def F1{α:Type}(f:Nat->α)(k:Nat)(v:α):Nat->α:=fun i=>if i=k then v else f i
theorem B2{α:Type}(f:Nat->α)(k:Nat)(v:α):F1 f k v k=v:=if_pos rfl
theorem FF{α:Type}(f:Nat->α){k i:Nat}(v:α)(h:i≠k):F1 f k v i=f i:=if_neg h
theorem Fy(f:Nat->Nat)(k v:Nat):cf f k v k=v:=if_pos rfl
theorem cQ(f:Nat->Nat){k i:Nat}(v:Nat)(h:i≠k):cf f k v i=f i:=if_neg h
structure Hy where
 ok:Nat->Nat->Prop
 em:Nat->Prop
 nb:Nat
 h:∀j dr,ok j dr->dr&&&3=0->¬em j
structure Sh where
 c:Nat->Nat
 hl:Nat
 Gx:Nat
 nb:Nat
def AS.sh(s:AS):Sh:=⟨s.c,s.hl,s.Gx,s.nb⟩
def Sh.wr(s:Sh)(q v:Nat):Sh:={s with c:=cf s.c q v}
def tp(s:Sh)(d:Nat):Nat:=s.c (17+3*d)
def dK(s:Sh)(d:Nat):Nat:=s.c (17+3*d+1)
def ra(s:Sh)(d:Nat):Nat:=s.c (17+3*d+2)
def val(s:Sh)(id:Nat):Prop:=64<=id/\id<64+s.nb
structure Ie(n:Nat)(s:Sh)(g:Gh)(a:Nat):Prop where
 lo:17+3*n<=a
 hi:a+s.c a<s.hl
 sz:s.c a=4∨s.c a=8∨s.c a=16
 bs:∀q,a<=q->q<=a+s.c a->g.bs q=a
structure SD(n:Nat)(s:Sh)(g:Gh)(d:Nat):Prop where
 t1:1<=tp s d
 le:tp s d<=g.eb d
 rm:g.eb d<=tp s d+s.c (ra s d)
 eb:g.eb d<=s.nb
 ar:Ie n s g (ra s d)
 pb:g.pb (ra s d)=true
 ow:g.ow (ra s d)=d
 ce:∀i,tp s d<=i->i<g.eb d->s.c (ra s d+1+i%s.c (ra s d))=g.it d i
 dq:∀i,tp s d<=i->i<g.eb d->val s (g.it d i)/\g.lc (g.it d i)=.deq d i
structure SI(ok:Hy)(n:Nat)(s:Sh)(g:Gh):Prop where
 n0:0<n
 n1:n<=64
 nb:s.nb<=64
 li:s.hl<=s.Gx
 l1:s.Gx<=65536
 lo:17+3*n<=s.hl
 em:∀d,d<n->ok.em d->tp s d=g.eb d
 nc:(∀j dr,ok.ok j dr->dr&&&3≠0)->s.nb=ok.nb
 d:∀d,d<n->SD n s g d
structure LI(n:Nat)(s:Sh)(g:Gh)(rl:List Nat)(wk:List AW):Prop where
 r0:∃l,rl=64::l
 rn:rl.Nodup
 rg:∀id,id∈rl↔val s id/\g.lc id=.ring
 dq:∀id d i,val s id->g.lc id=.deq d i->d<n/\tp s d<=i/\i<g.eb d/\g.it d i=id
 hd:∀(k:Nat) w,wk[k]?=some w->w.hand≠0->val s w.hand/\g.lc w.hand=.hand k
 ND:∀id k,val s id->g.lc id=.hand k->∃w,wk[k]?=some w/\w.hand=id
 rc:∀id k,val s id->g.lc id=.rch k->k<n
def I9(s:Sh)(g:Gh)(j:Nat):Prop:=∀id,val s id->g.lc id≠ .rch j
def Rc(s:Sh)(g:Gh)(j i:Nat):Prop:=val s (g.it j i)/\g.lc (g.it j i)=.rch j/\∀id,val s id->g.lc id=.rch j->id=g.it j i
def Qt(s:Sh)(g:Gh)(j:Nat):Prop:=dK s j=g.eb j/\I9 s g j
structure Hp(ok:Hy)(s:Sh)(g:Gh)(j:Nat)(w:AW):Prop where
 q:Qt s g j
 lt:g.eb j<s.nb
 h0:w.hand≠0
 Lh:w.r 16=w.hand
 G1:w.r 17=17+3*j
 bk:w.back=[106]
 po:∃dr,ok.ok j dr/\dr&&&3=0
structure NA(n:Nat)(s:Sh)(g:Gh)(j a:Nat):Prop where
 lo:17+3*n<=a
 hi:a+2*s.c (ra s j)<s.hl
 bs:∀q,a<=q->q<=a+2*s.c (ra s j)->g.bs q=a
 ow:g.ow a=j
 pb:g.pb a=false
structure I6(ok:Hy)(n:Nat)(s:Sh)(g:Gh)(j:Nat)(w:AW):Prop where
 h:Hp ok s g j w
 KO:w.r 18=g.eb j
 Rk:w.r 19<=g.eb j
 NF:g.eb j<=w.r 19+s.c (ra s j)
 Md:w.r 20=ra s j
 Me:w.r 21=s.c (ra s j)
 sm:s.c (ra s j)<16
 KP:w.r 24=2*s.c (ra s j)
 na:NA n s g j (w.r 25)
def Pf(s:Sh)(g:Gh)(j:Nat)(w:AW)(e:Nat):Prop:=
 s.c (w.r 25)=2*s.c (ra s j)/\∀i,tp s j<=i->i<e->s.c (w.r 25+1+i%(2*s.c (ra s j)))=g.it j i
structure Po(ok:Hy)(j:Nat)(w:AW):Prop where
 h0:w.hand=0
 G1:w.r 17=17+3*j
 bk:w.back=[100]
 po:∃dr,ok.ok j dr/\dr&&&3=1
structure Wn(ok:Hy)(s:Sh)(g:Gh)(j:Nat)(w:AW):Prop where
 p:Po ok j w
 b:dK s j=w.r 18
 le:w.r 19<=w.r 18
 t:w.r 19<=tp s j
 nb:w.r 18<s.nb
 ce:s.c (ra s j+1+w.r 18%s.c (ra s j))=g.it j (w.r 18)
 eb:w.r 19<w.r 18/\g.eb j=w.r 18/\Rc s g j (w.r 18)∨w.r 19=w.r 18/\g.eb j=w.r 18+1/\I9 s g j
structure Th(ok:Hy)(n:Nat)(s:Sh)(g:Gh)(j:Nat)(w:AW)(d:Nat):Prop where
 dn:d<n
 q:Qt s g j
 h0:w.hand=0
 bk:w.back=[98]
 G1:w.r 17=17+3*d
 po:∃dr,ok.ok j dr/\(dr>>>2)%n=d
structure T2(s:Sh)(g:Gh)(w:AW)(d:Nat):Prop where
 le:w.r 19<=tp s d
 lt:tp s d=w.r 19->w.r 19<g.eb d
structure HA(n:Nat)(s:Sh)(g:Gh)(w:AW)(d a:Nat):Prop where
 ar:Ie n s g a
 pb:g.pb a=true
 ow:g.ow a=d
 ce:tp s d=w.r 19->s.c (a+1+w.r 19%s.c a)=g.it d (w.r 19)
inductive F7(ok:Hy)(n:Nat)(s:Sh)(g:Gh)(j m:Nat)(w:AW):Prop where
 |p90:w.pc=90->w.back=[]->w.hand=0->Qt s g j->F7 ok n s g j m w
 |p103:w.pc=103->w.back=[]->w.hand=0->w.r 4=0->Qt s g j->(∃dr,ok.ok j dr/\dr&&&3=0)->150<=m->F7 ok n s g j m w
 |p100:w.pc=100->w.back=[]->Qt s g j->2<=m->F7 ok n s g j m w
 |p3:w.pc=3->Hp ok s g j w->143<=m->F7 ok n s g j m w
 |p4:w.pc=4->Hp ok s g j w->w.r 18=g.eb j->142<=m->F7 ok n s g j m w
 |p5:w.pc=5->Hp ok s g j w->w.r 18=g.eb j->w.r 19<=tp s j->g.eb j<=w.r 19+s.c (ra s j)->141<=m->F7 ok n s g j m w
 |p6:w.pc=6->Hp ok s g j w->w.r 18=g.eb j->w.r 19<=tp s j->g.eb j<=w.r 19+s.c (ra s j)->w.r 20=ra s j->140<=m->F7 ok n s g j m w
 |p13:w.pc=13->Hp ok s g j w->w.r 18=g.eb j->g.eb j<tp s j+s.c (ra s j)->w.r 21=ra s j+g.eb j%s.c (ra s j)->7<=m->F7 ok n s g j m w
 |p15:w.pc=15->Hp ok s g j w->w.r 18=g.eb j+1->g.eb j<tp s j+s.c (ra s j)->s.c (ra s j+1+g.eb j%s.c (ra s j))=w.hand->5<=m->F7 ok n s g j m w
 |p17:w.pc=17->w.back=[106]->w.hand=0->Qt s g j->(∃dr,ok.ok j dr/\dr&&&3=0)->3<=m->F7 ok n s g j m w
 |p24:w.pc=24->Hp ok s g j w->w.r 18=g.eb j->w.r 19<=tp s j->g.eb j<=w.r 19+s.c (ra s j)->w.r 20=ra s j->w.r 21=s.c (ra s j)->s.c (ra s j)<16->w.r 24=2*s.c (ra s j)->w.r 25=2*s.c (ra s j)+1->12*(g.eb j-w.r 19)+24<=m->F7 ok n s g j m w
 |p26:w.pc=26->I6 ok n s g j w->w.r 19<=tp s j->12*(g.eb j-w.r 19)+20<=m->F7 ok n s g j m w
 |p32:w.pc=32->I6 ok n s g j w->Pf s g j w (w.r 19)->w.r 19<g.eb j->w.r 22=ra s j+w.r 19%s.c (ra s j)->12*(g.eb j-w.r 19)+14<=m->F7 ok n s g j m w
 |p36:w.pc=36->I6 ok n s g j w->Pf s g j w (w.r 19)->w.r 19<g.eb j->w.r 22=w.r 25+w.r 19%(2*s.c (ra s j))->(tp s j<=w.r 19->w.r 23=g.it j (w.r 19))->12*(g.eb j-w.r 19)+10<=m->F7 ok n s g j m w
 |p39:w.pc=39->I6 ok n s g j w->Pf s g j w (w.r 19)->w.r 19=g.eb j->14<=m->F7 ok n s g j m w
 |p43:w.pc=43->Hp ok s g j w->3<=m->F7 ok n s g j m w
 |p46:w.pc=46->Po ok j w->Qt s g j->24<=m->F7 ok n s g j m w
 |p48:w.pc=48->Po ok j w->Qt s g j->w.r 18+1=g.eb j->22<=m->F7 ok n s g j m w
 |p49:w.pc=49->Po ok j w->dK s j=w.r 18->w.r 18+1=g.eb j->I9 s g j->21<=m->F7 ok n s g j m w
 |p52:w.pc=52->Wn ok s g j w->18<=m->F7 ok n s g j m w
 |p53:w.pc=53->Wn ok s g j w->w.r 20=ra s j->17<=m->F7 ok n s g j m w
 |p57:w.pc=57->Wn ok s g j w->w.r 21=ra s j+w.r 18%s.c (ra s j)->13<=m->F7 ok n s g j m w
 |p60:w.pc=60->Po ok j w->dK s j=w.r 18->g.eb j=w.r 18->Rc s g j (w.r 18)->w.r 16=g.it j (w.r 18)->4<=m->F7 ok n s g j m w
 |p64:w.pc=64->Po ok j w->dK s j=w.r 18->g.eb j=w.r 18+1->w.r 19=w.r 18->w.r 22=w.r 19->w.r 23=w.r 19+1->w.r 19<=tp s j->w.r 16=g.it j (w.r 18)->I9 s g j->8<=m->F7 ok n s g j m w
 |p65:w.pc=65->w.back=[100]->w.r 17=17+3*j->dK s j+1=g.eb j->w.r 23=g.eb j->tp s j=g.eb j->I9 s g j->(∃dr,ok.ok j dr/\dr&&&3=1)->7<=m->F7 ok n s g j m w
 |p70:w.pc=70->Po ok j w->dK s j+1=g.eb j->w.r 19=g.eb j->I9 s g j->5<=m->F7 ok n s g j m w
 |p73:∀d,w.pc=73->Th ok n s g j w d->20<=m->F7 ok n s g j m w
 |p74:∀d,w.pc=74->Th ok n s g j w d->w.r 19<=tp s d->19<=m->F7 ok n s g j m w
 |p77:∀d,w.pc=77->Th ok n s g j w d->T2 s g w d->16<=m->F7 ok n s g j m w
 |p78:∀d,w.pc=78->Th ok n s g j w d->T2 s g w d->HA n s g w d (w.r 20)->15<=m->F7 ok n s g j m w
 |p82:∀d a,w.pc=82->Th ok n s g j w d->T2 s g w d->HA n s g w d a->w.r 21=a+w.r 19%s.c a->11<=m->F7 ok n s g j m w
 |p85:∀d,w.pc=85->Th ok n s g j w d->T2 s g w d->(tp s d=w.r 19->w.r 16=g.it d (w.r 19))->w.r 22=w.r 19->w.r 23=w.r 19+1->8<=m->F7 ok n s g j m w
def F0(x:aV)(n j:Nat)(w:AW):AW:=
 let a:=x.a.toNat
 let g:Nat->AW:=fun v=>{w with pc:=w.pc+1,r:=cf w.r a v}
 if 1<=x.op/\x.op<=11 then g (F2 x (cX x w.r) (dH x w.r))
 else if x.op=12 then {w with pc:=x.v.toNat}
 else if x.op=13 then(if w.r a=0 then {w with pc:=x.v.toNat}else {w with pc:=w.pc+1})
 else if x.op=14 then(if w.r a=0 then {w with pc:=w.pc+1}else {w with pc:=x.v.toNat})
 else if x.op=15 then {w with pc:=x.v.toNat,back:=w.back++[w.pc+1]}
 else if x.op=16 then {w with pc:=w.back.getLastD 0,back:=w.back.dropLast}
 else if x.op=29 then g w.hand
 else if x.op=38 then g (17+3*j)
 else g (17+3*(cX x w.r%n))
def JT(x:aV):Bool:=decide (1<=x.op/\x.op<=16)||decide (x.op=29∨x.op=38∨x.op=39)
def Ql(x:aV)(w:AW):Prop:=(x.op=9->dH x w.r<64)/\(x.op=15->w.back.length<8)/\(x.op=16->w.back≠[])
inductive At(n j:Nat)(P:Nat->AW->Prop):Nat->AW->Prop where
 |here {m w}:P m w->At n j P m w
 |loc {m m' w x}:dF[w.pc]?=some x->JT x=true->Ql x w->m'<m->At n j P m' (F0 x n j w)->At n j P m w
theorem At.mono{n j:Nat}{P Q:Nat->AW->Prop}(h:∀m w,P m w->Q m w){m:Nat}{w:AW}(a:At n j P m w):At n j Q m w:=by
 induction a with
 |here p=>exact .here (h _ _ p)
 |loc b c d e _ ih=>exact .loc b c d e ih
theorem Je{x:aV}(h:JT x=true)(s:AS)(j d:Nat)(w:AW):ck x s j d w=s.put j (F0 x s.wk.length j w):=by
 unfold JT at h;simp only[Bool.or_eq_true,decide_eq_true_eq]at h;by_cases f:1<=x.op/\x.op<=11
 ·unfold ck F0
  dsimp only;rw[if_pos f,if_pos f]
 ·have h:x.op=12∨x.op=13∨x.op=14∨x.op=15∨x.op=16∨x.op=29∨x.op=38∨x.op=39:=by omega
  cases x with
  |mk op a b c v m g=>
   dsimp only at h;rcases h with e|e|e|e|e|e|e|e<;>subst e<;>rfl
section
structure GO(n:Nat)(s:Sh)(g:Gh)(s':Sh)(g':Gh)(k:Nat):Prop where
 nb:s.nb<=s'.nb
 nx:s.hl<=s'.hl
 b:dK s' k=dK s k
 a:ra s' k=ra s k
 eb:g'.eb k=g.eb k
 it:g'.it k=g.it k
 t:∀d,d<n->tp s d<=tp s' d
 ow:∀q,q<s.hl->g'.bs q=g.bs q/\g'.ow q=g.ow q/\(g.pb q=true->g'.pb q=true)/\(g.ow q=k->g'.pb q=g.pb q)
 ce:∀q,17+3*n<=q->q<s.hl->g.ow (g.bs q)=k->s'.c q=s.c q
 hc:∀a,Ie n s g a->g.pb a=true->s'.c a=s.c a
 lr:∀id,val s id->g.lc id=.rch k->g'.lc id=.rch k
 LV:∀id,val s' id->g'.lc id=.rch k->val s id/\g.lc id=.rch k
 th:∀d,d<n->tp s' d=tp s d->tp s d<g.eb d->tp s d<g'.eb d/\g'.it d (tp s d)=g.it d (tp s d)/\∀a,Ie n s g a->g.pb a=true->g.ow a=d->s'.c (a+1+tp s d%s.c a)=s.c (a+1+tp s d%s.c a)
section
variable{ok:Hy}{n k m d a i:Nat}{s s':Sh}{g g':Gh}{w:AW}
theorem val.up(h:val s i)(hb:s.nb<=s'.nb):val s' i:=⟨h.1,by have:=h.2;omega⟩
theorem Hr(h:Ie n s g a):0<s.c a:=by rcases h.sz with e|e|e<;>omega
theorem NG(h:Ie n s g a)(i:Nat):a+1+i%s.c a<=a+s.c a:=by have:=Nat.mod_lt i (Hr h);omega
theorem Ie.cell(h:Ie n s g a)(i:Nat):17+3*n<=a+1+i%s.c a/\a+1+i%s.c a<s.hl/\g.bs (a+1+i%s.c a)=a:=by
 have b:=NG h i;have c:=h.lo;have e:=h.hi;exact⟨by omega,by omega,h.bs _ (by omega) b⟩
theorem Ie.head(h:Ie n s g a):a<s.hl/\g.bs a=a:=⟨by have:=h.hi;omega,h.bs _ (Nat.le_refl _) (by omega)⟩
theorem Ie.FI(h:Ie n s g a)(r:GO n s g s' g' k)(f:g.pb a=true):s'.c a=s.c a/\Ie n s' g' a:=by
 have e:=r.hc a h f;refine⟨e,⟨h.lo,by rw[e];have:=h.hi;have:=r.nx;omega,by rw[e];exact h.sz,fun q c b=> ?_⟩⟩;rw[e]at b;rw[(r.ow q (by have:=h.hi;omega)).1];exact h.bs q c b
theorem cA(r:GO n s g s' g' k)(h:SD n s g k):s'.c (ra s k)=s.c (ra s k):=r.hc _ h.ar h.pb
theorem cC(r:GO n s g s' g' k)(h:SD n s g k)(i:Nat):s'.c (ra s k+1+i%s.c (ra s k))=s.c (ra s k+1+i%s.c (ra s k)):=by
 obtain⟨b,c,e⟩:=h.ar.cell i;exact r.ce _ b c (by rw[e];exact h.ow)
theorem I9.FI(h:I9 s g k)(r:GO n s g s' g' k):I9 s' g' k:=fun id b e=>h id (r.LV id b e).1 (r.LV id b e).2
theorem Rc.FI(h:Rc s g k i)(r:GO n s g s' g' k):Rc s' g' k i:=by
 unfold Rc at*;rw[r.it];exact⟨h.1.up r.nb,r.lr _ h.1 h.2.1,fun id b e=>h.2.2 id (r.LV id b e).1 (r.LV id b e).2⟩
theorem Qt.FI(h:Qt s g k)(r:GO n s g s' g' k):Qt s' g' k:=⟨by rw[r.b,r.eb];exact h.1,h.2.FI r⟩
theorem Hp.FI(h:Hp ok s g k w)(r:GO n s g s' g' k):Hp ok s' g' k w:=⟨h.q.FI r,by rw[r.eb];have:=h.lt;have:=r.nb;omega,h.h0,h.Lh,h.G1,h.bk,h.po⟩
theorem NA.FI(h:NA n s g k a)(r:GO n s g s' g' k)(j:SD n s g k):NA n s' g' k a:=by
 have e:=cA r j;have l:=h.hi;have o:=r.nx;have c:=r.ow a (by omega);refine⟨h.lo,by rw[r.a,e];omega,fun q f b=> ?_,by rw[c.2.1];exact h.ow,by rw[c.2.2.2 h.ow];exact h.pb⟩;rw[r.a,e]at b;rw[(r.ow q (by omega)).1];exact h.bs q f b
theorem I6.FI(h:I6 ok n s g k w)(r:GO n s g s' g' k)(b:SD n s g k):I6 ok n s' g' k w:=by
 have e:=cA r b;exact⟨h.h.FI r,by rw[r.eb];exact h.KO,by rw[r.eb];exact h.Rk,by rw[r.eb,r.a,e];exact h.NF,by rw[r.a];exact h.Md,by rw[r.a,e];exact h.Me,by rw[r.a,e];exact h.sm,by rw[r.a,e];exact h.KP,h.na.FI r b⟩
theorem Pf.FI(h:Pf s g k w i)(r:GO n s g s' g' k)(j:SD n s g k)(o:k<n)(b:NA n s g k (w.r 25)):Pf s' g' k w i:=by
 have e:=cA r j;have u:=Hr j.ar;have p:=b.lo;have t:=b.hi;have l:∀q,w.r 25<=q->q<=w.r 25+2*s.c (ra s k)->s'.c q=s.c q:=fun q f c=>r.ce q (by omega) (by omega) (by rw[b.bs q f c];exact b.ow)
 refine⟨by rw[r.a,e,l _ (Nat.le_refl _) (by omega)];exact h.1,fun i f c=> ?_⟩;have v:=r.t k o;rw[r.a,e,r.it,l _ (by omega) (by have:=Nat.mod_lt i (show 0<2*s.c (ra s k)by omega);omega)];exact h.2 i (by omega) c
theorem Wn.FI(h:Wn ok s g k w)(r:GO n s g s' g' k)(b:SD n s g k)(c:k<n):Wn ok s' g' k w:=by
 have e:=cA r b;refine⟨h.p,by rw[r.b];exact h.b,h.le,Nat.le_trans h.t (r.t k c),Nat.lt_of_lt_of_le h.nb r.nb,by rw[r.a,e,cC r b,r.it];exact h.ce,?_⟩;rw[r.eb];rcases h.eb with⟨a1,a2,a3⟩|⟨a1,a2,a3⟩
 ·exact Or.inl ⟨a1,a2,a3.FI r⟩
 ·exact Or.inr ⟨a1,a2,a3.FI r⟩
theorem Th.FI(h:Th ok n s g k w d)(r:GO n s g s' g' k):Th ok n s' g' k w d:=⟨h.dn,h.q.FI r,h.h0,h.bk,h.G1,h.po⟩
theorem T2.FI(h:T2 s g w d)(r:GO n s g s' g' k)(c:d<n):T2 s' g' w d:=by
 have j:=r.t d c;have f:=h.le;refine⟨by omega,fun e=> ?_⟩;have b:tp s d=w.r 19:=by omega
 have:=(r.th d c (by omega) (by rw[b];exact h.lt b)).1;omega
theorem HA.FI(h:HA n s g w d a)(r:GO n s g s' g' k)(f:d<n)(c:T2 s g w d):s'.c a=s.c a/\HA n s' g' w d a:=by
 obtain⟨e,p⟩:=h.ar.FI r h.pb;have j:=r.ow a h.ar.head.1;refine⟨e,p,j.2.2.1 h.pb,by rw[j.2.1];exact h.ow,fun t=> ?_⟩;have v:=r.t d f;have u:=c.le;have b:tp s d=w.r 19:=by omega
 have⟨_,l,q⟩:=r.th d f (by omega) (by rw[b];exact c.lt b);have o:=q a h.ar h.pb h.ow;rw[b]at l o;rw[e,o,l];exact h.ce b
theorem F7.FI(h:F7 ok n s g k m w)(r:GO n s g s' g' k)(u:SD n s g k)(B:SD n s' g' k)(v:k<n):F7 ok n s' g' k m w:=by
 have e:=cA r u;have t:=r.a;have o:=r.eb;have z:=r.b;have C:=r.t k v;cases h with
 |p90 a b c d=>exact .p90 a b c (d.FI r)
 |p103 a b c d f i j=>exact .p103 a b c d (f.FI r) i j
 |p100 a b c d=>exact .p100 a b (c.FI r) d
 |p3 a b c=>exact .p3 a (b.FI r) c
 |p4 a b c d=>exact .p4 a (b.FI r) (by rw[o];exact c) d
 |p5 a b c d f i=>exact .p5 a (b.FI r) (by rw[o];exact c) (by omega) (by rw[o,t,e];exact f) i
 |p6 a b c d f i j=>exact .p6 a (b.FI r) (by rw[o];exact c) (by omega) (by rw[o,t,e];exact f) (by rw[t];exact i) j
 |p13 a b c d f i=>exact .p13 a (b.FI r) (by rw[o];exact c) (by rw[o,t,e];omega) (by rw[o,t,e];exact f) i
 |p15 a b c d f i=>exact .p15 a (b.FI r) (by rw[o];exact c) (by rw[o,t,e];omega) (by rw[o,t,e,cC r u];exact f) i
 |p17 a b c d f i=>exact .p17 a b c (d.FI r) f i
 |p24 a b c d f i j l y p q=>exact .p24 a (b.FI r) (by rw[o];exact c) (by omega) (by rw[o,t,e];exact f) (by rw[t];exact i) (by rw[t,e];exact j) (by rw[t,e];exact l) (by rw[t,e];exact y) (by rw[t,e];exact p) (by rw[o];exact q)
 |p26 a b c d=>exact .p26 a (b.FI r u) (by omega) (by rw[o];exact d)
 |p32 a b c d f i=>exact .p32 a (b.FI r u) (c.FI r u v b.na) (by rw[o];exact d) (by rw[t,e];exact f) (by rw[o];exact i)
 |p36 a b c d f i j=>exact .p36 a (b.FI r u) (c.FI r u v b.na) (by rw[o];exact d) (by rw[t,e];exact f) (fun q=>by rw[r.it];exact i (by omega)) (by rw[o];exact j)
 |p39 a b c d f=>exact .p39 a (b.FI r u) (c.FI r u v b.na) (by rw[o];exact d) f
 |p43 a b c=>exact .p43 a (b.FI r) c
 |p46 a b c d=>exact .p46 a b (c.FI r) d
 |p48 a b c d f=>exact .p48 a b (c.FI r) (by rw[o];exact d) f
 |p49 a b c d f i=>exact .p49 a b (by rw[z];exact c) (by rw[o];exact d) (f.FI r) i
 |p52 a b c=>exact .p52 a (b.FI r u v) c
 |p53 a b c d=>exact .p53 a (b.FI r u v) (by rw[t];exact c) d
 |p57 a b c d=>exact .p57 a (b.FI r u v) (by rw[t,e];exact c) d
 |p60 a b c d f i j=>exact .p60 a b (by rw[z];exact c) (by rw[o];exact d) (f.FI r) (by rw[r.it];exact i) j
 |p64 a b c d f i j l y p q=>exact .p64 a b (by rw[z];exact c) (by rw[o];exact d) f i j (by omega) (by rw[r.it];exact y) (p.FI r) q
 |p65 a b c d f i j l y=>exact .p65 a b c (by rw[z,o];exact d) (by rw[o];exact f) (by have:=B.le;omega) (j.FI r) l y
 |p70 a b c d f i=>exact .p70 a b (by rw[z,o];exact c) (by rw[o];exact d) (f.FI r) i
 |p73 d a b c=>exact .p73 d a (b.FI r) c
 |p74 d a b c i=>exact .p74 d a (b.FI r) (Nat.le_trans c (r.t d b.dn)) i
 |p77 d a b c i=>exact .p77 d a (b.FI r) (c.FI r b.dn) i
 |p78 d a b c i j=>exact .p78 d a (b.FI r) (c.FI r b.dn) (i.FI r b.dn c).2 j
 |p82 d x a b c i j l=>exact .p82 d x a (b.FI r) (c.FI r b.dn) (i.FI r b.dn c).2 (by rw[(i.FI r b.dn c).1];exact j) l
 |p85 d a b c i j l y=>
  refine .p85 d a (b.FI r) (c.FI r b.dn) (fun D=> ?_) j l y;have C:=r.t d b.dn;have E:=c.le;have A:tp s d=w.r 19:=by omega
  have q:=(r.th d b.dn (by omega) (by rw[A];exact c.lt A)).2.1;rw[A]at q;rw[q];exact i A
end
end
section
section
variable{ok:Hy}{n j k m d a i q v id:Nat}{s s':Sh}{g g':Gh}{w w':AW}{rl:List Nat}{wk:List AW}
theorem IF{i e z:Nat}(b:i<e)(f:e<i+z):i%z≠e%z:=by
 intro h;have a1:=Nat.div_add_mod i z;have a2:=Nat.div_add_mod e z;rcases Nat.lt_or_ge (i/z) (e/z)with c|c
 ·have:z*(i/z+1)<=z*(e/z):=Nat.mul_le_mul_left z c
  rw[Nat.mul_add]at this;omega
 ·have:z*(e/z)<=z*(i/z):=Nat.mul_le_mul_left z c
  omega
def Ja(n:Nat)(s:Sh)(g:Gh)(j q:Nat):Prop:=q=0∨q=17+3*j+1∨17+3*n<=q/\q<s.hl/\g.ow (g.bs q)=j/\(g.pb (g.bs q)=false∨g.bs q=ra s j/\q=ra s j+1+g.eb j%s.c (ra s j)/\g.eb j<tp s j+s.c (ra s j))
theorem Ja.tp(h:Ja n s g j q)(b:d<n):tp (s.wr q v) d=tp s d:=cQ _ _ (by rcases h with e|e|e<;>omega)
theorem Ja.ra(h:Ja n s g j q)(b:d<n):ra (s.wr q v) d=ra s d:=cQ _ _ (by rcases h with e|e|e<;>omega)
theorem Ja.hc(h:Ja n s g j q)(hj:j<n)(c:Ie n s g a)(f:g.pb a=true):(s.wr q v).c a=s.c a:=cQ _ _ (by
 have:=c.lo;rcases h with e|e|⟨l,o,r,b⟩
 ·omega
 ·omega
 ·intro e
  subst e;rw[c.head.2]at b;rcases b with b|⟨b,t,_⟩
  ·rw[f]at b;cases b
  ·omega)
theorem Ja.cl(h:Ja n s g j q)(hj:j<n)(t:Ie n s g a)(u:g.pb a=true)(D:g.ow a=d)(C:Go.Proofs.YtlihkblppjgebaaGreatDoor.tp s d<=i)(r:i<g.eb d):(s.wr q v).c (a+1+i%s.c a)=s.c (a+1+i%s.c a):=cQ _ _ (by
 obtain⟨x,y,c⟩:=t.cell i;rcases h with e|e|⟨A,B,f,b⟩
 ·omega
 ·omega
 ·intro e
  rw[e]at c;rw[c]at f b;rcases b with b|⟨b,l,o⟩
  ·rw[u]at b;cases b
  ·obtain rfl:d=j:=by omega
   rw[<-b]at l o;exact IF (z:=s.c a) r (by omega) (by omega))
theorem Ie.wr(h:Ja n s g j q)(hj:j<n)(b:Ie n s g a)(c:g.pb a=true):Ie n (s.wr q v) g a:=by
 have e:=h.hc (v:=v) hj b c;exact⟨b.lo,by rw[e];exact b.hi,by rw[e];exact b.sz,by rw[e];exact b.bs⟩
theorem SD.wr(h:SD n s g d)(r:d<n)(hj:j<n)(f:Ja n s g j q):SD n (s.wr q v) g d:=by
 have c:=f.tp (v:=v) r;have e:=f.ra (v:=v) r;have o:=f.hc (v:=v) hj h.ar h.pb;exact⟨by rw[c];exact h.t1,by rw[c];exact h.le,by rw[c,e,o];exact h.rm,h.eb,by rw[e];exact h.ar.wr f hj h.pb,by rw[e];exact h.pb,by rw[e];exact h.ow,fun i b l=>by rw[c]at b;rw[e,o,f.cl hj h.ar h.pb h.ow b l];exact h.ce i b l,fun i b l=>by rw[c]at b;exact h.dq i b l⟩
theorem SI.wr(h:SI ok n s g)(hj:j<n)(c:Ja n s g j q):SI ok n (s.wr q v) g:={h with d:=fun d b=>(h.d d b).wr b hj c,em:=fun d b e=>by rw[c.tp b];exact h.em d b e}
theorem GO.wr(h:SI ok n s g)(hj:j<n)(y:k<n)(F:k≠j)(c:Ja n s g j q):GO n s g (s.wr q v) g k where
 nb:=Nat.le_refl _
 nx:=Nat.le_refl _
 b:=cQ _ _ (by rcases c with e|e|e<;>omega)
 a:=c.ra y
 eb:=rfl
 it:=rfl
 t:=fun d r=>by rw[c.tp r];exact Nat.le_refl _
 ow:=fun _ _=>⟨rfl,rfl,fun e=>e,fun _=>rfl⟩
 ce:=fun G u f x=>cQ _ _ (by
  rcases c with e|e|⟨B,C,D,E⟩
  ·omega
  ·omega
  ·intro e;rw[e]at x;omega)
 hc:=fun a l o=>c.hc hj l o
 lr:=fun _ _ e=>e
 LV:=fun _ A e=>⟨A,e⟩
 th:=fun d r u f=>⟨f,rfl,fun a l o z=>c.cl hj l o z (Nat.le_refl _) f⟩
theorem LI.wr(h:LI n s g rl wk)(b:Ja n s g j q):LI n (s.wr q v) g rl wk:={h with
 dq:=fun id d i c e=>by
  have g:=h.dq id d i c e;rw[b.tp g.1];exact g}
theorem LI.put(h:LI n s g rl wk)(hw:wk[j]?=some w)(r:w'.hand=w.hand):LI n s g rl (wk.set j w'):={h with
 hd:=fun k x b l=>by
  rw[List.getElem?_set]at b;split at b
  ·rename_i e
   subst e;split at b
   ·obtain rfl:=Option.some.inj b
    rw[r]at l⊢;exact h.hd _ w hw l
   ·cases b
  ·exact h.hd k x b l
 ND:=fun id k t e=>by
  obtain⟨x,f,o⟩:=h.ND id k t e;by_cases c:j=k
  ·subst c
   rw[hw]at f;obtain rfl:=Option.some.inj f;exact⟨w',by rw[List.getElem?_set_self (List.getElem?_eq_some_iff.1 hw).1],by rw[r];exact o⟩
  ·exact⟨x,by rw[List.getElem?_set_ne c];exact f,o⟩}
theorem Jv(l:j<wk.length){P:Nat->Nat->Prop}(f:w'.hand≠0->P j w'.hand)(h:∀k x,k≠j->wk[k]?=some x->x.hand≠0->P k x.hand):∀(k:Nat) x,(wk.set j w')[k]?=some x->x.hand≠0->P k x.hand:=fun k x b c=>by
 rw[List.getElem?_set]at b;by_cases e:j=k
 ·subst e
  rw[if_pos rfl,if_pos l]at b;obtain rfl:=Option.some.inj b;exact f c
 ·rw[if_neg e]at b
  exact h k x (fun q=>e q.symm) b c
theorem HU(b:j<wk.length):(wk.set j w')[j]?=some w':=List.getElem?_set_self b
theorem HM(h:k≠j):(wk.set j w')[k]?=wk[k]?:=List.getElem?_set_ne (fun e=>h e.symm)
theorem val.Qm(h:val s id):id≠0:=by have:=h.1;omega
end
def Gh.mv(g:Gh)(id:Nat)(p:Pl):Gh:={g with lc:=F1 g.lc id p}
section
variable{ok:Hy}{n j k m d a i q v id:Nat}{s s':Sh}{g g':Gh}{w w':AW}{rl:List Nat}{wk:List AW}{p:Pl}
theorem Ii{x:Nat}(h:x≠id):(g.mv id p).lc x=g.lc x:=FF _ _ h
theorem HH:(g.mv id p).lc id=p:=B2 _ _ _
theorem SD.mv(h:SD n s g d)(f:∀i,g.lc id≠ .deq d i):SD n s (g.mv id p) d:={h with
 ar:=⟨h.ar.lo,h.ar.hi,h.ar.sz,h.ar.bs⟩
 dq:=fun i b c=>by
  have e:=h.dq i b c;exact⟨e.1,by rw[Ii (fun q=>f i (by rw[<-q];exact e.2))];exact e.2⟩}
theorem GO.mv(h:g.lc id≠ .rch k)(l:p≠ .rch k):GO n s g s (g.mv id p) k where
 nb:=Nat.le_refl _
 nx:=Nat.le_refl _
 b:=rfl
 a:=rfl
 eb:=rfl
 it:=rfl
 t:=fun _ _=>Nat.le_refl _
 ow:=fun _ _=>⟨rfl,rfl,fun e=>e,fun _=>rfl⟩
 ce:=fun _ _ _ _=>rfl
 hc:=fun _ _ _=>rfl
 lr:=fun x _ e=>by rw[Ii (fun q=>h (by rw[<-q];exact e))];exact e
 LV:=fun x o e=>by
  by_cases c:x=id
  ·rw[c,HH]at e;exact absurd e l
  ·rw[Ii c]at e;exact⟨o,e⟩
 th:=fun _ _ _ f=>⟨f,rfl,fun _ _ _ _=>rfl⟩
def IG(ok:Hy)(n j:Nat)(s:Sh)(g:Gh)(s':Sh)(g':Gh):Prop:=∀k,k<n->k≠j->∀m w,F7 ok n s g k m w->F7 ok n s' g' k m w
theorem IG.of(h:∀k,k<n->k≠j->GO n s g s' g' k/\SD n s g k/\SD n s' g' k):IG ok n j s g s' g':=fun k c e m w b=>b.FI (h k c e).1 (h k c e).2.1 (h k c e).2.2 c
theorem IG.refl:IG ok n j s g s g:=fun _ _ _ _ _ b=>b
theorem IG.trans{s1:Sh}{c:Gh}(h:IG ok n j s g s1 c)(l:IG ok n j s1 c s' g'):IG ok n j s g s' g':=fun k e f m w b=>l k e f m w (h k e f m w b)
theorem IG.wr(h:SI ok n s g)(hj:j<n)(c:Ja n s g j q):IG ok n j s g (s.wr q v) g:=IG.of fun k b e=>⟨GO.wr h hj b e c,h.d k b,(h.d k b).wr b hj c⟩
structure Mh(ok:Hy)(n j:Nat)(s:Sh)(g:Gh)(s':Sh)(g':Gh)(rl':List Nat)(tC:List AW):Prop where
 si:SI ok n s' g'
 li:LI n s' g' rl' tC
 ot:IG ok n j s g s' g'
theorem NH(I:SI ok n s g)(L:LI n s g rl wk)(hw:wk[j]?=some w)(b:w'.hand=w.hand):Mh ok n j s g s g rl (wk.set j w'):=⟨I,L.put hw b,IG.refl⟩
theorem O4(I:SI ok n s g)(L:LI n s g rl wk)(hj:j<n)(hw:wk[j]?=some w)(c:w'.hand=w.hand)(b:Ja n s g j q):Mh ok n j s g (s.wr q v) g rl (wk.set j w'):=⟨I.wr hj b,(L.wr b).put hw c,IG.wr I hj b⟩
theorem If(hw:wk[j]?=some w):j<wk.length:=(List.getElem?_eq_some_iff.1 hw).1
theorem NI(I:SI ok n s g)(L:LI n s g rl wk)(hj:j<n)(hw:wk[j]?=some w)(H:Hp ok s g j w)(room:g.eb j<tp s j+s.c (ra s j))(W:s.c (ra s j+1+g.eb j%s.c (ra s j))=w.hand)(Z:w'.hand=0):
 ∃g',Mh ok n j s g (s.wr (17+3*j+1) (g.eb j+1)) g' rl (wk.set j w')/\Qt (s.wr (17+3*j+1) (g.eb j+1)) g' j:=by
 have C:Ja n s g j (17+3*j+1):=Or.inr (Or.inl rfl);obtain⟨a0,J⟩:=L.hd j w hw H.h0;have K:∀d,d<n->∀i,tp s d<=i->i<g.eb d->g.it d i≠w.hand:=fun d o i l f e=>by
  have:=((I.d d o).dq i l f).2;rw[e,J]at this;cases this
 have u:=(I.d j hj).wr (v:=g.eb j+1) hj hj C;have T:=I.wr (v:=g.eb j+1) hj C;have N:=C.tp (v:=g.eb j+1) hj;have R:=C.ra (v:=g.eb j+1) hj;have S:=C.hc (v:=g.eb j+1) hj (I.d j hj).ar (I.d j hj).pb;have M:∀d,d<n->d≠j->SD n (s.wr (17+3*j+1) (g.eb j+1)) {g with eb:=F1 g.eb j (g.eb j+1),it:=F1 g.it j (F1 (g.it j) (g.eb j) w.hand),lc:=F1 g.lc w.hand (.deq j (g.eb j))} d:=fun d o E=>by
  have B:=T.d d o;have f1:F1 g.eb j (g.eb j+1) d=g.eb d:=FF _ _ E;have f2:F1 g.it j (F1 (g.it j) (g.eb j) w.hand) d=g.it d:=FF _ _ E;exact⟨B.t1,by show _<=F1 _ _ _ d;rw[f1];exact B.le,by show F1 _ _ _ d<=_;rw[f1];exact B.rm,by show F1 _ _ _ d<=_;rw[f1];exact B.eb,⟨B.ar.lo,B.ar.hi,B.ar.sz,B.ar.bs⟩,B.pb,B.ow,fun i l f=>by
   have f:i<F1 _ _ _ d:=f;rw[f1]at f;show _=F1 g.it j _ d i
   rw[f2];exact B.ce i l f,fun i l f=>by
   have f:i<F1 _ _ _ d:=f;rw[f1]at f;show val _ (F1 g.it j _ d i)/\F1 g.lc w.hand _ (F1 g.it j _ d i)=_
   rw[f2,FF _ _ (K d o i (by rw[C.tp o]at l;exact l) f)];exact B.dq i l f⟩
 refine⟨{g with eb:=F1 g.eb j (g.eb j+1),it:=F1 g.it j (F1 (g.it j) (g.eb j) w.hand),lc:=F1 g.lc w.hand (.deq j (g.eb j))},⟨⟨I.n0,I.n1,I.nb,I.li,I.l1,I.lo,fun d o e=> ?_,I.nc,fun d o=> ?_⟩,?_,IG.of fun k G E=>⟨?_,I.d k G,M k G E⟩⟩,?_⟩
 ·have K:d≠j:=fun q=>by subst q;obtain⟨dr,l,f⟩:=H.po;exact ok.h d dr l f e
  show tp (s.wr _ _) d=F1 _ _ _ d
  rw[FF _ _ K,C.tp o];exact I.em d o e
 ·by_cases c:d=j
  ·subst c
   have f1:F1 g.eb d (g.eb d+1) d=g.eb d+1:=B2 _ _ _;have f2:F1 g.it d (F1 (g.it d) (g.eb d) w.hand) d=F1 (g.it d) (g.eb d) w.hand:=B2 _ _ _;refine⟨u.t1,?_,?_,?_,⟨u.ar.lo,u.ar.hi,u.ar.sz,u.ar.bs⟩,u.pb,u.ow,fun i l f=> ?_,fun i l f=> ?_⟩
   ·show _<=F1 _ _ _ d;rw[f1];have:=u.le;omega
   ·show F1 _ _ _ d<=_;rw[f1,N,R,S];omega
   ·show F1 _ _ _ d<=_;rw[f1];exact H.lt
   ·have f:i<F1 _ _ _ d:=f
    rw[f1]at f;show _=F1 g.it d _ d i
    rw[f2];by_cases F:i=g.eb d
    ·subst F
     rw[B2,R,S];rw[<-W];exact cQ _ _ (by have:=(I.d d hj).ar.cell (g.eb d);omega)
    ·rw[FF _ _ F]
     exact u.ce i l (by omega)
   ·have f:i<F1 _ _ _ d:=f
    rw[f1]at f;show val _ (F1 g.it d _ d i)/\F1 g.lc w.hand _ (F1 g.it d _ d i)=_
    rw[f2];by_cases F:i=g.eb d
    ·subst F
     rw[B2,B2];exact⟨a0,rfl⟩
    ·rw[FF _ _ F,FF _ _ (K d o i (by rw[N]at l;exact l) (by omega))]
     exact u.dq i l (by omega)
  ·exact M d o c
 ·refine⟨L.r0,L.rn,fun id=> ?_,fun id d i z e=> ?_,Jv (If hw) (P:=fun k h=>val _ h/\F1 g.lc w.hand (.deq j (g.eb j)) h=.hand k) (fun O=>absurd Z O) (fun k x G M O=> ?_),fun id k z e=> ?_,fun id k z e=> ?_⟩
  ·show _↔val s id/\F1 g.lc w.hand _ id=_
   rw[L.rg id];by_cases c:id=w.hand
   ·rw[c,B2,J]
    exact⟨fun h=>(by cases h.2),fun h=>(by cases h.2)⟩
   ·rw[FF _ _ c]
  ·have e:F1 g.lc w.hand _ id=_:=e
   by_cases c:id=w.hand
   ·rw[c,B2]at e
    injection e with X Y
    subst X Y;refine⟨hj,by rw[N];exact(I.d j hj).le,?_,?_⟩
    ·show _<F1 g.eb j _ j;rw[B2];omega
    ·show F1 g.it j _ j _=_;rw[B2,B2];exact c.symm
   ·rw[FF _ _ c]at e
    obtain⟨D,y,U,Q⟩:=L.dq id d i z e;refine⟨D,by rw[C.tp D];exact y,?_,?_⟩
    ·show i<F1 g.eb j _ d
     by_cases r:d=j
     ·subst r;rw[B2];omega
     ·rw[FF _ _ r];exact U
    ·show F1 g.it j _ d i=id
     by_cases r:d=j
     ·subst r;rw[B2,FF _ _ (by omega)];exact Q
     ·rw[FF _ _ r];exact Q
  ·obtain⟨D,y⟩:=L.hd k x M O
   refine⟨D,?_⟩;rw[FF _ _ (fun q=>by rw[q,J]at y;injection y with y;exact G y.symm)];exact y
  ·have e:F1 g.lc w.hand _ id=_:=e
   have c:id≠w.hand:=(fun c=>by rw[c,B2]at e;cases e);rw[FF _ _ c]at e;obtain⟨x,D,y⟩:=L.ND id k z e;have V:k≠j:=(fun q=>by subst q;rw[hw]at D;obtain rfl:=Option.some.inj D;exact c y.symm);exact⟨x,by rw[HM V];exact D,y⟩
  ·have e:F1 g.lc w.hand _ id=_:=e
   have c:id≠w.hand:=(fun c=>by rw[c,B2]at e;cases e);rw[FF _ _ c]at e;exact L.rc id k z e
 ·have A:=GO.wr (v:=g.eb j+1) I hj G E C
  exact {
   nb:=A.nb,nx:=A.nx,b:=A.b,a:=A.a,eb:=FF _ _ E,it:=FF _ _ E,t:=A.t,ow:=A.ow,ce:=A.ce,hc:=A.hc,
   lr:=fun id z e=>by
    show F1 g.lc w.hand _ id=_
    rw[FF _ _ (fun c=>by rw[c,J]at e;cases e)];exact e
   LV:=fun id z e=>by
    have e:F1 g.lc w.hand _ id=_:=e;have c:id≠w.hand:=(fun c=>by rw[c,B2]at e;cases e);rw[FF _ _ c]at e;exact⟨z,e⟩
   th:=fun d o l f=>by
    obtain⟨a2,a3,a1⟩:=A.th d o l f;refine⟨?_,?_,a1⟩
    ·show _<F1 g.eb j _ d
     by_cases r:d=j
     ·subst r;rw[B2];omega
     ·rw[FF _ _ r];exact f
    ·show F1 g.it j _ d _=_
     by_cases r:d=j
     ·subst r;rw[B2,FF _ _ (by omega)]
     ·rw[FF _ _ r]}
 ·refine⟨?_,fun id z e=> ?_⟩
  ·show cf _ _ _ _=F1 g.eb j _ j
   rw[Fy,B2]
  ·have e:F1 g.lc w.hand _ id=_:=e
   have c:id≠w.hand:=(fun c=>by rw[c,B2]at e;cases e);rw[FF _ _ c]at e;exact H.q.2 id z e
end
end
end Go.Proofs.YtlihkblppjgebaaGreatDoor
