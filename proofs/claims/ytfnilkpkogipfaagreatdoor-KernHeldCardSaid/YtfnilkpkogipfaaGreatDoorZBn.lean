import Derived.Test.YtfnilkpkogipfaaGreatDoorZBh
set_option linter.all false
set_option maxRecDepth 100000
set_option maxHeartbeats 8000000
namespace Go.Proofs.YtfnilkpkogipfaaGreatDoor
open Go.RowKit Go.Proofs.Tryz
theorem BE(id:Int):ew (List.replicate 64 aD.zero) id=none:=by
 unfold ew;rw[List.getElem?_replicate];split
 ·rfl
 ·rename_i r h
  split at h
  ·cases h;rfl
  ·cases h
theorem sw(n:Nat)(loop:Int)(id:Int)(h:id≠0):hz (List.replicate n (ak.new loop)) id=0:=by
 unfold hz;rw[List.countP_eq_zero];intro x a;rw[(List.mem_replicate.1 a).2];show¬((0:Int)==id)=true
 rw[beq_iff_eq];exact fun e=>h e.symm
theorem zJ(n:Nat)(loop:Int)(id:Int)(h:id≠0):nH (List.replicate n (ak.new loop)) id=0:=by
 unfold nH;rw[List.countP_eq_zero];intro x a;rw[(List.mem_replicate.1 a).2];show¬((0:Int)==id)=true
 rw[beq_iff_eq];exact fun e=>h e.symm
theorem vo(n:Nat)(loop:Int)(id:Int)(h:id≠0):ea (List.replicate n (ak.new loop)) [] id=0:=by
 unfold ea;rw[sw n loop id h,zJ n loop id h];rfl
theorem vp(C:KC)(n tt:Nat)(g:1<=n)(f:n<=64)(c:tt<=65536)(b:17+8*n+C.wide.toNat+C.narrow.toNat<=tt):Inv 0 0 (j2 C n tt) where
 core:={
  cX:=⟨List.length_replicate,fun p r a=>by
   have k:r∈List.replicate 64 aD.zero:=List.mem_of_getElem? a;rw[(List.mem_replicate.1 k).2];exact⟨by decide,by decide,fun e=>(by cases e),⟨by decide,by decide⟩,⟨by decide,by decide⟩⟩⟩
  al:=fun id r b=>by
   have:=BE id;rw[show ew (j2 C n tt).table id=none from this]at b;cases b
  ai:=fun id t h=>by cases h
  one:=fun id h=>by show ea (List.replicate n (ak.new C.loop)) [] id<=1;rw[vo n _ id h];omega
  rV:=fun id h a=>by
   have:ea (List.replicate n (ak.new C.loop)) [] id=0:=vo n _ id h;have i:0<ea (List.replicate n (ak.new C.loop)) [] id:=a;omega
  slt:=fun id h a=>by
   have:hz (List.replicate n (ak.new C.loop)) id=0:=sw n _ id h;have i:0<hz (List.replicate n (ak.new C.loop)) id:=a;omega
  wk:=fun x d=>by
   rw[(List.mem_replicate.1 (show x∈List.replicate n (ak.new C.loop)from d)).2];exact⟨⟨fun j _=>bx,by show([]:List Int).length<=8;decide⟩,Int.le_refl 0,show(0:Int)<=24 by decide⟩}
 nd:=List.nodup_nil
 q:=fun s l=>by
  have:s∈(List.replicate 8 ([]:List hx)).flatten:=l;simp at this
 bW:=⟨ah.Cq,Nat.le_refl _,fun t c=>(by cases c),bx⟩
 bB:=⟨by show 17+8*n+C.wide.toNat+C.narrow.toNat<=70000;omega,by show tt<=70000;omega,fun x d=>(by cases d),Nat.le_refl _⟩
 mem:=xf tt n _ _ c f
 obj:=fun r b=>by
  rw[(List.mem_replicate.1 (show r∈List.replicate 64 bC.zero from b)).2];exact bx
 draw:=bx
 w0:=by show 1<=(List.replicate n (ak.new C.loop)).length;rw[List.length_replicate];exact g
 w1:=by show(List.replicate n (ak.new C.loop)).length<=64;rw[List.length_replicate];exact f
 out:=Nat.le_refl _
section
def g5(χ:Nat->a4):Prop:=∀i,χ i≠ .out
section
variable{w w':World}{χ:Nat->a4}{L:cw}{Y:Var}{C:KC}{K:KS}
theorem ae.Ed(h:ae w χ L Y C K){id:Int}(E:aw K.ai id=none){f:Frame}{bv:Value}{fb g tb:Nat}(H:aG w fb 0 179 [] f.post bv f.f)(G:bv.ownBlock=none)
 (I:w.ownsRow 0 177 1 (.slice (some (g,0)) 1 1) 1 [bf fb]) (J:Row w tb 176 [.int .u64 id,.slice (some (g,0)) 1 1,.int .u64 0]) (o:χ fb=.no) (p:χ g=.no) (r:χ tb=.no) (R:g≠fb) (V:tb≠fb) (S:g≠tb)
 (T:bH w' L.tm .u64 bf (b8 (K.ai.map fun x=>(x.1,Y.bB x.1)) id tb)) (c:Ch (aK L.tm) w w'):
 ∃aW Y',ae w' aW L Y' C {K with ai:=b8 K.ai id ⟨id,[f],0⟩}/\(∀i,i<w.heap.size->χ i≠ .no->aW i=χ i)/\(∀i,aW i≠ .no->χ i≠ .no∨i=fb∨i=g∨i=tb)/\Yk K Y Y'/\(g5 χ->g5 aW):=by
 have B:=h.tm (by simp);have s:eI [.tm] χ χ (aK L.tm) w w':=eI.one c (fun i d=>by rw[show i=L.tm from d];simp[B.k]) h.small;have base:=h.step s (by simp);obtain⟨aW,A⟩:∃aW:Nat->a4,aW=fun i=>if i=fb then .fr id 0 else if i=g then .tl id else if i=tb then .th id else χ i:=⟨_,rfl⟩
 have a:∀{i:Nat} {k:a4},χ i=k->k≠ .no->aW i=k:=fun {i k} d y=>by
  rw[A];dsimp only;rw[if_neg (fun e=>y (by rw[<-d,e,o])),if_neg (fun e=>y (by rw[<-d,e,p])),if_neg (fun e=>y (by rw[<-d,e,r]))];exact d
 have F:∀{i},χ i=.no->i≠L.tm:=fun {i} d e=>by rw[e,B.k]at d;cases d
 have M:MB [.tm] w' aW L Y C K:={
  head:=fun m=>⟨(base.head (by simp)).row,(base.head (by simp)).rows,a (base.head (by simp)).k (by simp)⟩
  mem:=fun m=>⟨(base.mem (by simp)).is,a (base.mem (by simp)).k1 (by simp),a (base.mem (by simp)).k2 (by simp),a (base.mem (by simp)).k3 (by simp)⟩
  al:=fun m=>⟨(base.al (by simp)).is,a (base.al (by simp)).k1 (by simp),fun q l=>a ((base.al (by simp)).k2 q l) (by simp)⟩
  bW:=fun m=>⟨(base.bW (by simp)).is,a (base.bW (by simp)).k1 (by simp),a (base.bW (by simp)).k2 (by simp),a (base.bW (by simp)).k3 (by simp),a (base.bW (by simp)).k4 (by simp),fun q l=>a ((base.bW (by simp)).k5 q l) (by simp)⟩
  ring:=fun m=>⟨(base.ring (by simp)).is,a (base.ring (by simp)).k1 (by simp),a (base.ring (by simp)).k2 (by simp)⟩
  q:=fun m=>⟨(base.q (by simp)).is,(base.q (by simp)).b2,fun i d=>a ((base.q (by simp)).k i d) (by simp)⟩
  cX:=fun m=>⟨(base.cX (by simp)).is,a (base.cX (by simp)).k1 (by simp),a (base.cX (by simp)).k2 (by simp)⟩
  obj:=fun m=>⟨(base.obj (by simp)).is,a (base.obj (by simp)).k1 (by simp),a (base.obj (by simp)).k2 (by simp)⟩
  tm:=fun m=>absurd (by simp) m
  th:=fun j u n m=>⟨(base.th j u n (by simp)).is,a (base.th j u n (by simp)).k (by simp)⟩
  tl:=fun j u n m=>⟨(base.tl j u n (by simp)).is,fun q l=>a ((base.tl j u n (by simp)).k q l) (by simp)⟩
  fr:=fun j u k D n y m=>⟨(base.fr j u k D n y (by simp)).is,a (base.fr j u k D n y (by simp)).kf (by simp),fun q l=>a ((base.fr j u k D n y (by simp)).kb q l) (by simp)⟩
  wk:=fun m=>⟨(base.wk (by simp)).is,a (base.wk (by simp)).k (by simp),(base.wk (by simp)).back,fun i x z q l=>a ((base.wk (by simp)).kb i x z q l) (by simp),(base.wk (by simp)).n⟩
  out:=fun m=>⟨(base.out (by simp)).is,fun q l=>a ((base.out (by simp)).k q l) (by simp)⟩
  code:=fun m=>{
   mx:=(base.code (by simp)).mx
   iU:=(base.code (by simp)).iU
   my:=(base.code (by simp)).my
   ca:=fun z=>by obtain⟨q,o,p,r⟩:=(base.code (by simp)).ca z;exact⟨q,o,p,a r (by simp)⟩
   prog:=fun z=>by obtain⟨q,o,p,r⟩:=(base.code (by simp)).prog z;exact⟨q,o,p,a r (by simp)⟩
   calls:=fun z=>by obtain⟨q,j,o,p,r⟩:=(base.code (by simp)).calls z;exact⟨q,j,o,p,a r (by simp)⟩}
  small:=fun i d=>by
   rw[A]at d;dsimp only at d;split at d
   ·rename_i e;rw[e];exact Nat.lt_of_lt_of_le H.row.lt c.size
   ·split at d
    ·rename_i e;rw[e];exact Nat.lt_of_lt_of_le (cB I (g:=g) rfl) c.size
    ·split at d
     ·rename_i e;rw[e];exact Nat.lt_of_lt_of_le J.lt c.size
     ·exact base.small i d}
 have P:=H.ch c (fun e=>F o e) (fun q l=>by rw[G]at l;cases l);have Q:=ar I c (fun q l e=>F p (by
  have:g=q:=by simpa[Value.ownBlock]using l
  rw[this];exact e))
 have U:=J.ch c (fun e=>F r e);have O:g5 χ->g5 aW:=fun N i=>by
  rw[A];dsimp only;split
  ·intro e;cases e
  ·split
   ·intro e;cases e
   ·split
    ·intro e;cases e
    ·exact N i
 refine⟨aW,_,M.DL (t:=⟨id,[f],0⟩) (f:=f) (v:=.slice (some (g,0)) 1 1) (bv':=bv) (b:=tb) (fbk:=fb) E rfl ⟨?_,a B.k (by simp),B.nd.put _ _⟩ ⟨U,?_⟩ ⟨by simpa using Q,?_⟩ ⟨P,?_,fun q l=>by rw[G]at l;cases l⟩,fun i d m=>a rfl m,?_,?_,O⟩
 ·rw[<-rL _ _ _ _ _ E];exact T
 ·rw[A];dsimp only;rw[if_neg V,if_neg (fun e=>S e.symm),if_pos rfl]
 ·intro q l
  have:g=q:=by simpa[Value.ownBlock]using l
  rw[<-this,A];dsimp only;rw[if_neg R,if_pos rfl]
 ·rw[A];dsimp only;rw[if_pos rfl]
 ·intro i d
  rw[A]at d;dsimp only at d;split at d
  ·rename_i e;exact Or.inr (Or.inl e)
  ·split at d
   ·rename_i e;exact Or.inr (Or.inr (Or.inl e))
   ·split at d
    ·rename_i e;exact Or.inr (Or.inr (Or.inr e))
    ·exact Or.inl d
 ·intro j u n
  have e:j≠id:=fun e=>by rw[e,E]at n;cases n
  exact⟨if_neg e,fun k _=>if_neg e⟩
def Ee(x:Option Nat)(χ:Nat->a4)(L:cw)(Y:Var)(C:KC)(K K':KS)(w:World)(e:Ending)(w':World):Prop:=
 (match x with
  |some a=>e=.returned (.tuple #[.int .i64 a,.nilIface])
  |none=>∃u,e=.returned (.tuple #[.int .i64 0,u])/\aq u)/\∃aW Y',dB χ L Y C K K' w aW Y' w'/\(g5 χ->g5 aW)
def Ef(x:Option Int)(χ:Nat->a4)(L:cw)(Y:Var)(C:KC)(K K':KS)(w:World)(e:Ending)(w':World):Prop:=
 (match x with
  |some a=>e=.returned (.tuple #[.int .u64 a,.nilIface])
  |none=>∃v,e=.returned (.tuple #[.int .u64 0,v])/\aq v)/\∃aW Y',dB χ L Y C K K' w aW Y' w'/\(g5 χ->g5 aW)
def Ca(ok:Bool)(χ:Nat->a4)(L:cw)(Y:Var)(C:KC)(K K':KS)(w:World)(e:Ending)(w':World):Prop:=(∃v,e=.returned v/\(if ok then v=.nilIface else aq v))/\∃aW Y',dB χ L Y C K K' w aW Y' w'/\(g5 χ->g5 aW)
def Eg(v:Value)(χ:Nat->a4)(L:cw)(Y:Var)(C:KC)(K K':KS)(w:World)(e:Ending)(w':World):Prop:=e=.returned v/\∃aW Y',dB χ L Y C K K' w aW Y' w'/\(g5 χ->g5 aW)
theorem pw{χ:Nat->a4}{a:Option Nat}:g5 χ->g5 (cJ χ a .al):=fun h i=>by
 unfold cJ;split
 ·intro e;cases e
 ·exact h i
theorem Dj(n:Nat)(f:n<=1000000)(g:K.blocks.Ok)(h:ae w χ L Y C K):Calls prog 98 #[(L.ab,0),.int .i64 n,.int .i64 64] w (Ee (c' K.blocks K.mem n).1 χ L Y C K {K with blocks:=(c' K.blocks K.mem n).2.1,mem:=(c' K.blocks K.mem n).2.2} w):=
 (kk L.ab L.m L.c L.d Y.av K.blocks K.mem g n f w (h.al (by simp)).is (h.mem (by simp)).is).mono fun _ _ ⟨a,⟨v,b,c⟩,d,e⟩=>⟨a,_,_,h.A1 b c d e,pw⟩
theorem Dk(a:Int)(g:K.blocks.Ok)(h:ae w χ L Y C K):Calls prog 100 #[(L.ab,0),a] w (Ca (mr K.blocks K.mem a).1 χ L Y C K (iS K a) w):=
 (kl L.ab L.m L.c L.d Y.av K.blocks K.mem g a w (h.al (by simp)).is (h.mem (by simp)).is).mono fun _ _ ⟨b,⟨v,c,d⟩,e,f⟩=>⟨b,_,_,h.A1 c d e f,pw⟩
theorem px(home:Int)(h:ae w χ L Y C K):Calls prog 99 #[(L.tb,0),.int .u64 home] w (Ef (db K.table home).1 χ L Y C K {K with table:=(db K.table home).2} w):=
 (l5 L.tb L.tg K.table home w (h.cX (by simp)).is).mono fun _ _ ⟨a,b,c⟩=>⟨a,_,_,h.l8 b c,fun h=>h⟩
theorem xp(v:Int)(h:ae w χ L Y C K):Calls prog 59 #[(L.rb,0),.int .u64 v] w (Ca (g6 K.ring v).1 χ L Y C K {K with ring:=(g6 K.ring v).2} w):=
 (l6 L.rb L.rg K.ring v w (h.ring (by simp)).is).mono fun _ _ ⟨a,b,c⟩=>⟨a,_,_,h.tf b c,fun h=>h⟩
theorem uc(place c:Int)(a3:K.blocks.Ok)(ab:(c' K.blocks K.mem 1).2.1.Ok)(c5:∀O id,(db K.table O).1=some id->aw K.ai id=none)(h:ae w χ L Y C K):
 Calls prog 58 #[(L.mb,0),place,.int .u64 c] w (Eg (.int .u64 (bF K place c).1) χ L Y C K (bF K place c).2 w):=by
 have H:=Z h;have B:=h.oG;have N:=Z (Dj 1 (by omega) a3 h);obtain⟨p,Q⟩:=nm (c' K.blocks K.mem 1);have hle:∀a,p.1=some a->a<=140000:=fun a c4=>mG a3 (by rw[Q];exact c4)
 rw[Q]at N ab;obtain⟨cW,B1,c0⟩:=p;have U:=Z Q;have ch:=Z ab;have cm:=Z c5;clear h Q a3 ab c5;cases cW with
 |none=>
  have E:Hid (bF K place c=(0,{K with blocks:=B1,mem:=c0})):=Z (by unfold bF;rw[U]);clear hle;go_enter func58,ntmps58
  go_wp2_with fail
  refine N.mono ?_;rintro e w1 ⟨⟨u,rfl,al⟩,ap,W,b,M⟩;have A:=Z M;obtain⟨tt,eA,rfl⟩:=al;have y:=Z b;clear b B;go_wp2_with fail
  go_ret;rw[E];exact⟨rfl,ap,W,y,A⟩
 |some a=>
  have c4:=hle a rfl;have eW:IntKind.u64.wrap (a:Int)=a:=by unfold IntKind.wrap IntKind.bits IntKind.signed;simp;omega
  obtain⟨K1,a2⟩:=mn (({K with blocks:=B1,mem:=c0}:KS));have j:=Z a2;have eS:(a:Int)<=140000:=by omega
  obtain⟨q,c7⟩:=nm (db K1.table (a:Int));obtain⟨cS,r⟩:=q;have z:=Z c7;have ci:Hid (K1.blocks.Ok):=Z (by rw[a2];exact ch);clear hle a2 c7;cases cS with
  |none=>
   have E:Hid (bF K place c=(0,iS {K1 with table:=r} a)):=Z (by
    have:=z.out;rw[j]at this⊢;unfold bF;rw[U];dsimp only;rw[show db K.table (a:Int)=(none,r)from this])
   go_enter func58,ntmps58
   go_wp2_with fail
   refine N.mono ?_;rintro e w1 ⟨rfl,ap,W,b,M⟩;have A:=Z M;rw[<-j]at b;have y:=Z b;have X:=b.at_.eh;have n:=px (a:Int) b.at_;rw[z]at n;have R:=Z n;clear b B n;go_wp2_with fail
   refine R.mono ?_;rintro e w2 ⟨⟨u,rfl,al⟩,x,c1,m,am⟩;have V:=Z am;obtain⟨tt,eA,rfl⟩:=al;have k:=Z (y.trans (Gr.of_eq (by rw[j])) m);have B:=m.at_.oG;clear m X;go_wp2_with fail
   refine(Dk (a:Int) (by exact ci) k.at_).mono ?_;rintro e fn ⟨⟨v,rfl,_⟩,eC,cQ,c2,et⟩;have cL:=Z et;have cf:=Z (k.trans (Gr.of_eq (by rw[j])) c2);clear c2 B;go_wp2_with fail
   go_ret;rw[E];exact⟨rfl,eC,cQ,cf,fun h=>cL (V (A h))⟩
  |some id=>
   have c6:aw K.ai id=none:=cm (a:Int) id (by have:=z.out;rw[j]at this;rw[show db K.table (a:Int)=(some id,r)from this]);have cq:=Z c6;have E:Hid (bF K place c=(id,{K1 with table:=r,ai:=b8 K.ai id ⟨id,[iH place c],0⟩})):=Z (by
    have:=z.out;rw[j]at this⊢;unfold bF;rw[U];dsimp only;rw[show db K.table (a:Int)=(some id,r)from this];rfl)
   clear c6;go_enter func58,ntmps58
   go_wp2_with fail
   refine N.mono ?_;rintro e w1 ⟨rfl,ap,W,b,M⟩;have A:=Z M;rw[<-j]at b;have y:=Z b;have X:=b.at_.eh;have n:=px (a:Int) b.at_;rw[z]at n;have R:=Z n;clear b B n;go_wp2_with fail
   refine R.mono ?_;rintro e w2 ⟨rfl,x,c1,m,am⟩;have V:=Z am;have k:=Z (y.trans (Gr.of_eq (by rw[j])) m);have a0:=m.at_.iG;have ce:=Z a0;clear a0;go_upto_region 11 with fail
   obtain⟨d,J⟩:=nm (w2.alloc (.cells #[place,.int .u64 c,.int .u64 0,.int .u64 0,.int .u64 0,.int .u64 0,.int .u64 0,.int .u64 0,.int .u64 0,.int .u64 0,.int .u64 0,.int .u64 0,.int .u64 0,.int .u64 0,.int .u64 0,.int .u64 0,.int .u64 0,.int .u64 0,.int .u64 0,.int .u64 0,.int .u64 0,.int .u64 0,.int .u64 0,.int .u64 0,.int .u64 0,.int .u64 0,.int .u64 0,.int .u64 0,.int .u64 0,.int .u64 0,.int .u64 0,.int .u64 0,.int .u64 0,.slice none 0 0,.bool false,.int .i64 0] 179));have bi:=Z (Ch.al (D:=ag) J);have bw:Hid (aG d w2.heap.size 0 179 [] (iH place c).post (.slice none 0 0) (iH place c).f):=Z ⟨by
    have c8:=Row.new w2 #[place,.int .u64 c,.int .u64 0,.int .u64 0,.int .u64 0,.int .u64 0,.int .u64 0,.int .u64 0,.int .u64 0,.int .u64 0,.int .u64 0,.int .u64 0,.int .u64 0,.int .u64 0,.int .u64 0,.int .u64 0,.int .u64 0,.int .u64 0,.int .u64 0,.int .u64 0,.int .u64 0,.int .u64 0,.int .u64 0,.int .u64 0,.int .u64 0,.int .u64 0,.int .u64 0,.int .u64 0,.int .u64 0,.int .u64 0,.int .u64 0,.int .u64 0,.int .u64 0,.slice none 0 0,.bool false,.int .i64 0] 179;rw[J]at c8;exact c8,rfl,cp.nil _⟩
   have l:Hid (d.heap.size=w2.heap.size+1):=Z (by rw[<-J];simp);rw[J];clear J m X;have a0:=(bi.cell (aE ce.out) (fun h=>h)).trans ce.out;obtain⟨fb,ad⟩:=mn w2.heap.size;rw[<-ad]at bw l⊢;have o:=Z ad;clear ad;obtain⟨w4,t⟩:=nm ((d.alloc (.cells #[(fb,0)] 177)).alloc (.cells #[.int .u64 id,.slice (some (d.heap.size,0)) 1 1,.int .u64 0] 176));have av:Hid (Ch ag w2 w4):=Z (by rw[<-t];exact(bi.alloc _).alloc _);have S:Hid (ae w4 x L c1 C {K1 with table:=r}):=Z (k.at_.af av);have cs:Hid (Row w4 d.heap.size 177 [bf fb]):=Z (by rw[<-t];exact(Row.new d _ _).alloc _);have cA:Hid (Row w4 (d.heap.size+1) 176 [.int .u64 id,.slice (some (d.heap.size,0)) 1 1,.int .u64 0]):=Z (by
    rw[<-t];have:=Row.new (d.alloc (.cells #[(fb,0)] 177)) #[.int .u64 id,.slice (some (d.heap.size,0)) 1 1,.int .u64 0] 176;rw[World.size_alloc]at this;exact this)
   have cl:Hid (aG w4 fb 0 179 [] (iH place c).post (.slice none 0 0) (iH place c).f):=Z (by
    rw[<-t];exact bw.ch (((Ch.refl ag _).alloc _).alloc _) (fun h=>h) (fun _ _ h=>h))
   obtain⟨ex,cb,c3,a1⟩:=fm (P:=prog) (T:=126) (K:=56) (E:=173) (enc:=bf) underlying126 underlying56 (S.tm (by simp)).is id (d.heap.size+1);have I:∀i,w2.heap.size<=i->x i=.no:=fun i s=>by
    cases F:x i with
    |no=>rfl
    |_=>exact absurd (k.at_.small i (by rw[F];simp)) (by omega)
   have eL:=Z I;have c9:=S.Ed (id:=id) (f:=iH place c) (bv:=.slice none 0 0) (fb:=fb) (g:=d.heap.size) (tb:=d.heap.size+1) (w':=ex) (by rw[j];exact cq) cl rfl
    ⟨rfl,Or.inr ⟨d.heap.size,1,#[bf fb],rfl,Nat.zero_le _,cs,Nat.le_refl _,by unfold maxLen;omega,rfl,rfl⟩⟩ cA (I _ (by rw[o];exact Nat.le_refl _)) (I _ (by rw[l,o];omega)) (I _ (by rw[l,o];omega)) (by rw[l];omega) (by rw[l];omega) (by omega) c3 a1
   have cC:=Z c9;have ck:=Z a1;simp only[bf]at cb;rw[<-t]at cb;clear c9 c3 a1 t I;go_wp2_with fail
   go_ret;rw[E];obtain⟨aW,Y',O,en,dN,es,ec⟩:=cC.out;have cd:K1.ai=K.ai:=by rw[j]
   simp only[cd]at O;refine⟨rfl,aW,Y',⟨O,?_,?_⟩,fun h=>ec (V (A h))⟩
   ·have G:Nx χ x w w4:=k.nx.trans (Nx.af av)
    have dr:=(S.tm (by simp)).k;have fd:w.heap.size<=w2.heap.size:=k.nx.ch.size;refine⟨G.ch.join ck (fun i s e=>by rw[<-G.same i s,show i=L.tm from e,dr];simp),fun i s=> ?_⟩;cases F:x i with
    |no=>
     rw[<-G.same i s,F];cases dC:aW i with
     |no=>rfl
     |_=>
      exfalso;rcases dN i (by rw[dC];simp)with e|e|e|e
      ·exact e F
      ·rw[o]at e;omega
      ·rw[l,o]at e;omega
      ·rw[l,o]at e;omega
    |_=>rw[en i (Nat.lt_of_lt_of_le s G.ch.size) (by rw[F];simp),G.same i s]
   ·exact k.yk.trans (Gr.of_eq cd) es
end
end
def z2(w:World)(e:Ending)(w':World):Prop:=(∃v,e=.returned (.tuple #[.pointer none,v])/\aq v)/\Ch ag w w'
theorem uh(n tt:Int)(l:List aV)(m:Option Addr)(o:Nat)(loop:Int)(calls:List br)(k:Option Addr)(r:Nat)(p:List aV)(pa:Option Addr)(pc:Nat)(en j f:Int)
 (P:l.length<=o) (R:p.length<=pc) (M:calls.length<=100000) (w:World) (O:l≠[]->∃g,m=some ⟨g,0,none⟩/\eE w g l) (Q:p≠[]->∃g,pa=some ⟨g,0,none⟩/\eE w g p)
 (N:calls≠[]->∃g F,k=some ⟨g,0,none⟩/\Row w g 49 (calls.flatMap br.cells++F))
 (d:¬(1<=n/\n<=64/\1<=tt/\tt<=65536/\e2 l loop calls=true/\ei p en j f=true))
 (L:w.cell? (0,0)=some (.iface 335 (.agg #[(1,40)]))):
 Calls prog 11 #[.agg #[n,tt],.agg #[.slice m l.length o,loop,.slice k calls.length r],.agg #[.slice pa p.length pc,en,j,f]] w (z2 w):=by
 obtain⟨w1,u⟩:=nm (((w.alloc (.cells #[n,tt] 43)).alloc (.cells #[.slice m l.length o,loop,.slice k calls.length r] 33)).alloc (.cells #[.slice pa p.length pc,en,j,f] 36));have a:Hid (Ch ag w w1):=Z (by rw[<-u];exact(((Ch.refl _ _).alloc _).alloc _).alloc _);have T:Hid (Row w1 w.heap.size 43 [n,tt]):=Z (by rw[<-u];exact((Row.new w _ _).alloc _).alloc _);have H:Hid (Row w1 (w.heap.size+1) 33 [.slice m l.length o,loop,.slice k calls.length r]):=Z (by
  rw[<-u];have:=Row.new (w.alloc (.cells #[n,tt] 43)) #[.slice m l.length o,loop,.slice k calls.length r] 33;rw[World.size_alloc]at this;exact this.alloc _)
 have s:Hid (Row w1 (w.heap.size+2) 36 [.slice pa p.length pc,en,j,f]):=Z (by
  rw[<-u];have:=Row.new ((w.alloc (.cells #[n,tt] 43)).alloc (.cells #[.slice m l.length o,loop,.slice k calls.length r] 33)) #[.slice pa p.length pc,en,j,f] 36;rw[World.size_alloc,World.size_alloc]at this;exact this)
 have z:Hid (w1.cell? (0,0)=some (.iface 335 (.agg #[(1,40)]))):=Z (a.k L);have q:=jc l m o loop calls k r P M w1 (fun h=>by obtain⟨g,e,t⟩:=O h;exact⟨g,e,t.ch a (fun h=>h)⟩) (fun h=>by obtain⟨g,F,e,t⟩:=N h;exact⟨g,F,e,t.ch a (fun h=>h)⟩) z;obtain⟨U,D⟩:∃b,e2 l loop calls=b:=⟨_,rfl⟩;obtain⟨I,E⟩:∃b,ei p en j f=b:=⟨_,rfl⟩;rw[D]at q;have q:=Z q;have G:Hid (∀w2,Ch ag w1 w2->Calls prog 51 #[.agg #[.slice pa p.length pc,en,j,f]] w2 (qz I w2)):=Z (fun w2 J=>by
  have:=jd p pa pc en j f R w2 (fun h=>by obtain⟨g,e,t⟩:=Q h;exact⟨g,e,(t.ch a (fun h=>h)).ch J (fun h=>h)⟩) ((J.cell (aE z) (fun h=>h)).trans z)
  rwa [E]at this)
 rw[D,E]at d;obtain⟨X,B⟩:=mn l.length;obtain⟨W,A⟩:=mn calls.length;obtain⟨Y,C⟩:=mn p.length;rw[<-B,<-A]at H q;rw[<-C]at s G;rw[<-B,<-A,<-C]at u⊢;obtain⟨a2,a3⟩:=T.c2;obtain⟨t10,t11,t12⟩:=H.c3;clear B A C P R M O Q N L D E;by_cases i1:n<1
 ·clear d
  go_enter func11,ntmps11
  go_wp2_with (go_at_call 49;refine(e8 _ _ _ _).mono ?_;rintro e w' ⟨rfl,rfl⟩)
  go_ret2;exact⟨⟨_,rfl,aq.mk _ _⟩,a.alloc _⟩
 by_cases i2:64<n
 ·clear d
  go_enter func11,ntmps11
  go_wp2_with (go_at_call 49;refine(e8 _ _ _ _).mono ?_;rintro e w' ⟨rfl,rfl⟩)
  go_ret2;exact⟨⟨_,rfl,aq.mk _ _⟩,a.alloc _⟩
 by_cases a0:tt<1
 ·clear d
  go_enter func11,ntmps11
  go_wp2_with (go_at_call 49;refine(e8 _ _ _ _).mono ?_;rintro e w' ⟨rfl,rfl⟩)
  go_ret2;exact⟨⟨_,rfl,aq.mk _ _⟩,a.alloc _⟩
 by_cases a1:65536<tt
 ·clear d
  go_enter func11,ntmps11
  go_wp2_with (go_at_call 49;refine(e8 _ _ _ _).mono ?_;rintro e w' ⟨rfl,rfl⟩)
  go_ret2;exact⟨⟨_,rfl,aq.mk _ _⟩,a.alloc _⟩
 cases U
 ·clear d
  go_enter func11,ntmps11
  go_wp2_with (first|(go_at_call 50;refine q.mono ?_;rintro e w2 ⟨⟨y,rfl,v⟩,c⟩;obtain⟨ty,V,rfl⟩:aq y:=v;have x:=Z c;clear c)|(go_at_call 49;refine(e8 _ _ _ _).mono ?_;rintro e w' ⟨rfl,rfl⟩))
  go_ret2;exact⟨⟨_,rfl,aq.mk _ _⟩,(a.trans x).alloc _⟩
 cases I
 ·clear d
  go_enter func11,ntmps11
  go_wp2_with (first|(go_at_call 50;refine q.mono ?_;rintro e w2 ⟨⟨y,rfl,v⟩,c⟩;obtain rfl:y=.nilIface:=v;have x:=Z c;have u20:=(s.ch c (fun h=>h)).cell (i:=0) rfl;have u21:=(s.ch c (fun h=>h)).cell (i:=1) rfl;have u22:=(s.ch c (fun h=>h)).cell (i:=2) rfl;have u23:=(s.ch c (fun h=>h)).cell (i:=3) rfl;clear c)|(go_at_call 51;refine(G _ x).mono ?_;rintro e ab ⟨⟨y,rfl,v⟩,K⟩;obtain⟨ty,V,rfl⟩:aq y:=v;have S:=Z (x.trans K);clear K)|(go_at_call 49;refine(e8 _ _ _ _).mono ?_;rintro e w' ⟨rfl,rfl⟩))
  go_ret2;exact⟨⟨_,rfl,aq.mk _ _⟩,(a.trans S).alloc _⟩
 exact absurd ⟨by omega,by omega,by omega,by omega,rfl,rfl⟩ d
end Go.Proofs.YtfnilkpkogipfaaGreatDoor
