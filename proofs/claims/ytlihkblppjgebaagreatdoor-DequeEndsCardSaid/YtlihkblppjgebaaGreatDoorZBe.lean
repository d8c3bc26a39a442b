import Derived.Test.YtlihkblppjgebaaGreatDoorZBa
import Derived.Test.YtlihkblppjgebaaGreatDoorZBb
set_option linter.all false
set_option maxRecDepth 100000
set_option maxHeartbeats 8000000
namespace Go.Proofs.YtlihkblppjgebaaGreatDoor
open Go.RowKit Go.Proofs.Tryz
section
theorem rL(l:List (Int×Thread))(k:Int)(v:Thread)(g:Int->Nat)(b:Nat)(h:aw l k=none):b8 (l.map fun x=>(x.1,g x.1)) k b=(b8 l k v).map fun x=>(x.1,if x.1=k then b else g x.1):=by
 induction l with
 |nil=>simp[kh]
 |cons x l ih=>
  rw[cT]at h;have a:k≠x.1:=fun e=>by rw[if_pos e]at h;cases h
  rw[if_neg a]at h;rw[List.map_cons,dR,dR,if_neg a,if_neg a,ih h,List.map_cons,if_neg (fun e=>a e.symm)]
def B4:Nat->Int:=fun _=>0
section
variable{w w':World}{χ:Nat->a4}{L:cw}{Y:Var}{C:KC}{K:KS}
theorem ae.EV(h:ae w χ L Y C K){id:Int}(B:aw K.ai id=none){f:Frame}{bv:Value}{fb g tb:Nat}(F:aG w fb 0 127 [] f.post bv f.f)(E:bv.ownBlock=none)
 (G:w.ownsRow 0 125 1 (.slice (some ⟨g,0,none⟩) 1 1) 1 [bf fb]) (H:Row w tb 124 [.int .u64 id,.slice (some ⟨g,0,none⟩) 1 1,.int .u64 0]) (m:χ fb=.no) (n:χ g=.no) (o:χ tb=.no) (N:g≠fb) (R:tb≠fb) (O:g≠tb)
 (P:bH w' L.tm .u64 bf (b8 (K.ai.map fun x=>(x.1,Y.bB x.1)) id tb)) (c:Ch (aK L.tm) w w'):
 ∃aW Y',ae w' aW L Y' C {K with ai:=b8 K.ai id ⟨id,[f],0⟩}/\(∀i,i<w.heap.size->χ i≠ .no->aW i=χ i)/\(∀i,aW i≠ .no->χ i≠ .no∨i=fb∨i=g∨i=tb)/\Yk K Y Y':=by
 have z:=h.tm (by simp);have s:eI [.tm] χ χ (aK L.tm) w w':=eI.one c (fun i a=>by rw[show i=L.tm from a];simp[z.k]) h.small;have base:=h.step s (by simp);obtain⟨aW,y⟩:∃aW:Nat->a4,aW=fun i=>if i=fb then .fr id 0 else if i=g then .tl id else if i=tb then .th id else χ i:=⟨_,rfl⟩
 have nb:∀{i:Nat} {k:a4},χ i=k->k≠ .no->aW i=k:=fun {i k} a p=>by
  rw[y];dsimp only;rw[if_neg (fun e=>p (by rw[<-a,e,m])),if_neg (fun e=>p (by rw[<-a,e,n])),if_neg (fun e=>p (by rw[<-a,e,o]))];exact a
 have D:∀{i},χ i=.no->i≠L.tm:=fun {i} a e=>by rw[e,z.k]at a;cases a
 have M:MB [.tm] w' aW L Y C K:={
  head:=fun l=>⟨(base.head (by simp)).row,(base.head (by simp)).rows,nb (base.head (by simp)).k (by simp)⟩
  mem:=fun l=>⟨(base.mem (by simp)).is,nb (base.mem (by simp)).k1 (by simp),nb (base.mem (by simp)).k2 (by simp),nb (base.mem (by simp)).k3 (by simp)⟩
  al:=fun l=>⟨(base.al (by simp)).is,nb (base.al (by simp)).k1 (by simp),fun q d=>nb ((base.al (by simp)).k2 q d) (by simp)⟩
  bW:=fun l=>⟨(base.bW (by simp)).is,nb (base.bW (by simp)).k1 (by simp),nb (base.bW (by simp)).k2 (by simp),nb (base.bW (by simp)).k3 (by simp),nb (base.bW (by simp)).k4 (by simp),fun q d=>nb ((base.bW (by simp)).k5 q d) (by simp)⟩
  ring:=fun l=>⟨(base.ring (by simp)).is,nb (base.ring (by simp)).k1 (by simp),nb (base.ring (by simp)).k2 (by simp)⟩
  q:=fun l=>⟨(base.q (by simp)).is,(base.q (by simp)).b2,fun i a=>nb ((base.q (by simp)).k i a) (by simp)⟩
  tab:=fun l=>⟨(base.tab (by simp)).is,nb (base.tab (by simp)).k1 (by simp),nb (base.tab (by simp)).k2 (by simp)⟩
  obj:=fun l=>⟨(base.obj (by simp)).is,nb (base.obj (by simp)).k1 (by simp),nb (base.obj (by simp)).k2 (by simp)⟩
  tm:=fun l=>absurd (by simp) l
  th:=fun j u hj l=>⟨(base.th j u hj (by simp)).is,nb (base.th j u hj (by simp)).k (by simp)⟩
  tl:=fun j u hj l=>⟨(base.tl j u hj (by simp)).is,fun q d=>nb ((base.tl j u hj (by simp)).k q d) (by simp)⟩
  fr:=fun j u k A hj p l=>⟨(base.fr j u k A hj p (by simp)).is,nb (base.fr j u k A hj p (by simp)).kf (by simp),fun q d=>nb ((base.fr j u k A hj p (by simp)).kb q d) (by simp)⟩
  wk:=fun l=>⟨(base.wk (by simp)).is,nb (base.wk (by simp)).k (by simp),(base.wk (by simp)).back,fun i x r q d=>nb ((base.wk (by simp)).kb i x r q d) (by simp),(base.wk (by simp)).n⟩
  out:=fun l=>⟨(base.out (by simp)).is,fun q d=>nb ((base.out (by simp)).k q d) (by simp)⟩
  code:=fun l=>{
   mx:=(base.code (by simp)).mx
   iU:=(base.code (by simp)).iU
   my:=(base.code (by simp)).my
   ca:=fun r=>by obtain⟨q,m,n,o⟩:=(base.code (by simp)).ca r;exact⟨q,m,n,nb o (by simp)⟩
   prog:=fun r=>by obtain⟨q,m,n,o⟩:=(base.code (by simp)).prog r;exact⟨q,m,n,nb o (by simp)⟩
   calls:=fun r=>by obtain⟨q,j,m,n,o⟩:=(base.code (by simp)).calls r;exact⟨q,j,m,n,nb o (by simp)⟩}
  small:=fun i a=>by
   rw[y]at a;dsimp only at a;split at a
   ·rename_i e;rw[e];exact Nat.lt_of_lt_of_le F.row.lt c.size
   ·split at a
    ·rename_i e;rw[e];exact Nat.lt_of_lt_of_le (cB G (g:=g) rfl) c.size
    ·split at a
     ·rename_i e;rw[e];exact Nat.lt_of_lt_of_le H.lt c.size
     ·exact base.small i a}
 have I:=F.ch c (fun e=>D m e) (fun q d=>by rw[E]at d;cases d);have J:=ar G c (fun q d e=>D n (by
  have:g=q:=by simpa[Value.ownBlock]using d
  rw[this];exact e))
 have Q:=H.ch c (fun e=>D o e);refine⟨aW,_,M.DL (t:=⟨id,[f],0⟩) (f:=f) (v:=.slice (some ⟨g,0,none⟩) 1 1) (bv':=bv) (b:=tb) (fbk:=fb) B rfl ⟨?_,nb z.k (by simp),z.nd.put _ _⟩ ⟨Q,?_⟩ ⟨by simpa using J,?_⟩ ⟨I,?_,fun q d=>by rw[E]at d;cases d⟩,fun i a l=>nb rfl l,?_,?_⟩
 ·rw[<-rL _ _ _ _ _ B];exact P
 ·rw[y];dsimp only;rw[if_neg R,if_neg (fun e=>O e.symm),if_pos rfl]
 ·intro q d
  have:g=q:=by simpa[Value.ownBlock]using d
  rw[<-this,y];dsimp only;rw[if_neg N,if_pos rfl]
 ·rw[y];dsimp only;rw[if_pos rfl]
 ·intro i a
  rw[y]at a;dsimp only at a;split at a
  ·rename_i e;exact Or.inr (Or.inl e)
  ·split at a
   ·rename_i e;exact Or.inr (Or.inr (Or.inl e))
   ·split at a
    ·rename_i e;exact Or.inr (Or.inr (Or.inr e))
    ·exact Or.inl a
 ·intro j u hj
  have e:j≠id:=fun e=>by rw[e,B]at hj;cases hj
  exact⟨if_neg e,fun k _=>if_neg e⟩
theorem mG{S:aZ}{M:aF}{n a:Nat}(b:S.Ok)(h:(c' S M n).1=some a):a<=140000:=by
 unfold c' at h;split at h
 ·cases h
 ·split at h
  ·cases h
  ·rename_i i d
   split at h
   ·have:S.ee i=a:=by simpa using h
    rw[<-this];unfold aZ.ee;split
    ·have:=b.from_;omega
    ·split
     ·rename_i x c;have:=b.l x (List.mem_of_getElem? c);omega
     ·omega
   ·cases h
def iH(place a:Int):Frame:=⟨⟨place,fun j=>if j=0 then a else 0,[]⟩,false,0⟩
theorem wj(place c:Int)(a0:K.blocks.Ok)(a1:(c' K.blocks K.mem 1).2.1.Ok)(c2:∀M id,(db K.table M).1=some id->aw K.ai id=none)(h:ae w χ L Y C K):
 Calls prog 68 #[.pointer (some ⟨L.mb,0,none⟩),.int .i64 place,.int .u64 c] w (de (.int .u64 (bF K place c).1) χ L Y C K (bF K place c).2 w):=by
 have H:=Z h;have A:=h.oG;have J:=Z (ru 1 (by omega) a0 h);obtain⟨p,N⟩:=nm (c' K.blocks K.mem 1);have hle:∀a,p.1=some a->a<=140000:=fun a c1=>mG a0 (by rw[N];exact c1)
 rw[N]at J a1;obtain⟨cL,ad,av⟩:=p;have R:=Z N;have cd:=Z a1;have cl:=Z c2;clear h N a0 a1 c2;cases cL with
 |none=>
  have E:Hid (bF K place c=(0,{K with blocks:=ad,mem:=av})):=Z (by unfold bF;rw[R.out]);clear hle;go_enter func68,ntmps68
  go_wp2_with fail
  refine J.out.mono ?_;rintro e w1 ⟨⟨u,rfl,a3⟩,ab,S,b⟩;obtain⟨tt,ec,rfl⟩:=a3;have y:=Z b;clear b A;go_wp2_with fail
  go_ret;rw[E.out];exact⟨rfl,ab,S,y.out⟩
 |some a=>
  have c1:=hle a rfl;have ex:IntKind.u64.wrap (a:Int)=a:=by unfold IntKind.wrap IntKind.bits IntKind.signed;simp;omega
  obtain⟨K1,X⟩:=mn (({K with blocks:=ad,mem:=av}:KS));have j:=Z X;have et:(a:Int)<=140000:=by omega
  obtain⟨q,c4⟩:=nm (db K1.table (a:Int));obtain⟨cC,r⟩:=q;have z:=Z c4;have ce:Hid (K1.blocks.Ok):=Z (by rw[X];exact cd.out);clear hle X c4;cases cC with
  |none=>
   have E:Hid (bF K place c=(0,iS {K1 with table:=r} a)):=Z (by
    have:=z.out;rw[j.out]at this⊢;unfold bF;rw[R.out];dsimp only;rw[show db K.table (a:Int)=(none,r)from this])
   go_enter func68,ntmps68
   go_wp2_with fail
   refine J.out.mono ?_;rintro e w1 ⟨rfl,ab,S,b⟩;rw[<-j.out]at b;have y:=Z b;have U:=b.at_.eh;have n:=rs (a:Int) b.at_;rw[z.out]at n;have O:=Z n;clear b A n;go_wp2_with fail
   refine O.out.mono ?_;rintro e w2 ⟨⟨u,rfl,a3⟩,x,bi,m⟩;obtain⟨tt,ec,rfl⟩:=a3;have k:=Z (y.out.trans (Gr.of_eq (by rw[j.out])) m);have A:=m.at_.oG;clear m U;go_wp2_with fail
   refine(yL (a:Int) (by exact ce.out) k.out.at_).mono ?_;rintro e eC ⟨⟨v,rfl,_⟩,en,cA,bw⟩;have cb:=Z (k.out.trans (Gr.of_eq (by rw[j.out])) bw);clear bw A;go_wp2_with fail
   go_ret;rw[E.out];exact⟨rfl,en,cA,cb.out⟩
  |some id=>
   have c3:aw K.ai id=none:=cl.out (a:Int) id (by have:=z.out;rw[j.out]at this;rw[show db K.table (a:Int)=(some id,r)from this]);have cm:=Z c3;have E:Hid (bF K place c=(id,{K1 with table:=r,ai:=b8 K.ai id ⟨id,[iH place c],0⟩})):=Z (by
    have:=z.out;rw[j.out]at this⊢;unfold bF;rw[R.out];dsimp only;rw[show db K.table (a:Int)=(some id,r)from this];rfl)
   clear c3;go_enter func68,ntmps68
   go_wp2_with fail
   refine J.out.mono ?_;rintro e w1 ⟨rfl,ab,S,b⟩;rw[<-j.out]at b;have y:=Z b;have U:=b.at_.eh;have n:=rs (a:Int) b.at_;rw[z.out]at n;have O:=Z n;clear b A n;go_wp2_with fail
   refine O.out.mono ?_;rintro e w2 ⟨rfl,x,bi,m⟩;have k:=Z (y.out.trans (Gr.of_eq (by rw[j.out])) m);have V:=m.at_.iG;have c9:=Z V;clear V;go_upto_region 11 with fail
   obtain⟨d,I⟩:=nm (w2.alloc (.cells #[.int .i64 place,.int .u64 c,.int .u64 0,.int .u64 0,.int .u64 0,.int .u64 0,.int .u64 0,.int .u64 0,.int .u64 0,.int .u64 0,.int .u64 0,.int .u64 0,.int .u64 0,.int .u64 0,.int .u64 0,.int .u64 0,.int .u64 0,.int .u64 0,.int .u64 0,.int .u64 0,.int .u64 0,.int .u64 0,.int .u64 0,.int .u64 0,.int .u64 0,.int .u64 0,.int .u64 0,.int .u64 0,.int .u64 0,.int .u64 0,.int .u64 0,.int .u64 0,.int .u64 0,.slice none 0 0,.bool false,.int .i64 0] 127));have am:=Z (Ch.al (D:=ag) I);have ap:Hid (aG d w2.heap.size 0 127 [] (iH place c).post (.slice none 0 0) (iH place c).f):=Z ⟨by
    have c5:=Row.new w2 #[.int .i64 place,.int .u64 c,.int .u64 0,.int .u64 0,.int .u64 0,.int .u64 0,.int .u64 0,.int .u64 0,.int .u64 0,.int .u64 0,.int .u64 0,.int .u64 0,.int .u64 0,.int .u64 0,.int .u64 0,.int .u64 0,.int .u64 0,.int .u64 0,.int .u64 0,.int .u64 0,.int .u64 0,.int .u64 0,.int .u64 0,.int .u64 0,.int .u64 0,.int .u64 0,.int .u64 0,.int .u64 0,.int .u64 0,.int .u64 0,.int .u64 0,.int .u64 0,.int .u64 0,.slice none 0 0,.bool false,.int .i64 0] 127;rw[I]at c5;exact c5,rfl,cp.nil _⟩
   have l:Hid (d.heap.size=w2.heap.size+1):=Z (by rw[<-I];simp);rw[I];clear I m U;have V:=(am.out.cell (aE c9.out) (fun h=>h)).trans c9.out;obtain⟨fb,a2⟩:=mn w2.heap.size;rw[<-a2]at ap l⊢;have o:=Z a2;clear a2;obtain⟨w4,t⟩:=nm ((d.alloc (.cells #[.pointer (some ⟨fb,0,none⟩)] 125)).alloc (.cells #[.int .u64 id,.slice (some ⟨d.heap.size,0,none⟩) 1 1,.int .u64 0] 124));have al:Hid (Ch ag w2 w4):=Z (by rw[<-t];exact(am.out.alloc _).alloc _);have Q:Hid (ae w4 x L bi C {K1 with table:=r}):=Z (k.out.at_.af al.out);have cq:Hid (Row w4 d.heap.size 125 [bf fb]):=Z (by rw[<-t];exact(Row.new d _ _).alloc _);have cs:Hid (Row w4 (d.heap.size+1) 124 [.int .u64 id,.slice (some ⟨d.heap.size,0,none⟩) 1 1,.int .u64 0]):=Z (by
    rw[<-t];have:=Row.new (d.alloc (.cells #[.pointer (some ⟨fb,0,none⟩)] 125)) #[.int .u64 id,.slice (some ⟨d.heap.size,0,none⟩) 1 1,.int .u64 0] 124;rw[World.size_alloc]at this;exact this)
   have ci:Hid (aG w4 fb 0 127 [] (iH place c).post (.slice none 0 0) (iH place c).f):=Z (by
    rw[<-t];exact ap.out.ch (((Ch.refl ag _).alloc _).alloc _) (fun h=>h) (fun _ _ h=>h))
   obtain⟨e1,c7,c0,W⟩:=fm (P:=prog) (T:=110) (K:=39) (E:=121) (enc:=bf) underlying110 underlying39 (Q.out.tm (by simp)).is id (d.heap.size+1);have G:∀i,w2.heap.size<=i->x i=.no:=fun i s=>by
    cases B:x i with
    |no=>rfl
    |_=>exact absurd (k.out.at_.small i (by rw[B];simp)) (by omega)
   have es:=Z G;have c6:=Q.out.EV (id:=id) (f:=iH place c) (bv:=.slice none 0 0) (fb:=fb) (g:=d.heap.size) (tb:=d.heap.size+1) (w':=e1) (by rw[j.out];exact cm.out) ci.out rfl
    ⟨rfl,Or.inr ⟨d.heap.size,1,#[bf fb],rfl,Nat.zero_le _,cq.out,Nat.le_refl _,by unfold maxLen;omega,rfl,rfl⟩⟩ cs.out (G _ (by rw[o.out];exact Nat.le_refl _)) (G _ (by rw[l.out,o.out];omega)) (G _ (by rw[l.out,o.out];omega)) (by rw[l.out];omega) (by rw[l.out];omega) (by omega) c0 W
   have ct:=Z c6;have ch:=Z W;simp only[bf]at c7;rw[<-t]at c7;clear c6 c0 W t G;go_wp2_with fail
   go_ret;rw[E.out];obtain⟨aW,Y',M,dC,dr,dN⟩:=ct.out;have c8:K1.ai=K.ai:=(by rw[j.out]);simp only[c8]at M;refine⟨rfl,aW,Y',M,?_,?_⟩
   ·have F:Nx χ x w w4:=k.out.nx.trans (Nx.af al.out)
    have cS:=(Q.out.tm (by simp)).k;have eA:w.heap.size<=w2.heap.size:=k.out.nx.ch.size;refine⟨F.ch.join ch.out (fun i s e=>by rw[<-F.same i s,show i=L.tm from e,cS];simp),fun i s=> ?_⟩;cases B:x i with
    |no=>
     rw[<-F.same i s,B];cases cW:aW i with
     |no=>rfl
     |_=>
      exfalso;rcases dr i (by rw[cW];simp)with e|e|e|e
      ·exact e B
      ·rw[o.out]at e;omega
      ·rw[l.out,o.out]at e;omega
      ·rw[l.out,o.out]at e;omega
    |_=>rw[dC i (Nat.lt_of_lt_of_le s F.ch.size) (by rw[B];simp),F.same i s]
   ·exact k.out.yk.trans (Gr.of_eq c8) dN
end
end
section
section
variable{K:KS}
theorem yV(c:bK)(f:cE):(K.cH c f).mem=K.mem:=by cases c<;>rfl
theorem rM(c:bK)(f:cE):(K.cH c f).blocks=K.blocks:=by cases c<;>rfl
theorem rN(c:bK)(f:cE):(K.cH c f).out=K.out:=by cases c<;>rfl
theorem gd(c:bK)(k:Nat)(x:Int):(K.au c k x).mem=K.mem:=yV _ _
theorem b7(c:bK)(k:Nat)(x:Int):(K.au c k x).blocks=K.blocks:=rM _ _
theorem gO(K:KS)(id a:Int):(ef K id a).ai=K.ai:=by unfold ef iS;split<;>rfl
theorem kB(K:KS)(id a:Int):(ef K id a).wk=K.wk:=by unfold ef iS;split<;>rfl
theorem kC(place d:Int)(a:∀b id,(db K.table b).1=some id->aw K.ai id=none):Gr K (bF K place d).2:=by
 unfold bF;split
 ·exact Gr.of_eq rfl
 ·dsimp only
  split
  ·exact Gr.of_eq rfl
  ·rename_i id t hb
   intro j u hj;have c:=a _ id (by rw[hb]);refine⟨u,?_,Nat.le_refl _⟩;show aw (b8 K.ai id _) j=some u
   rw[aT,if_neg (fun e=>by rw[e,c]at hj;cases hj)];exact hj
theorem nB(place a:Int):(bF K place a).2.wk=K.wk:=by
 unfold bF;split
 ·rfl
 ·dsimp only
  split<;>rfl
theorem dO(K:KS)(i:Nat)(id:Int):Gr K (eg K i id):=by
 unfold eg;split
 ·exact Gr.of_eq rfl
 ·exact Gr.of_eq rfl
theorem fw(K:KS)(i:Nat)(id:Int):(eg K i id).wk.length=K.wk.length:=by
 unfold eg;split
 ·rfl
 ·simp[KS.be]
end
end
section
def g5(χ:Nat->a4):Prop:=∀i,χ i≠ .out
section
variable{w w':World}{χ:Nat->a4}{L:cw}{Y:Var}{C:KC}{K:KS}
theorem ae.Ed(h:ae w χ L Y C K){id:Int}(B:aw K.ai id=none){f:Frame}{bv:Value}{fb g tb:Nat}(F:aG w fb 0 127 [] f.post bv f.f)(E:bv.ownBlock=none)
 (G:w.ownsRow 0 125 1 (.slice (some ⟨g,0,none⟩) 1 1) 1 [bf fb]) (H:Row w tb 124 [.int .u64 id,.slice (some ⟨g,0,none⟩) 1 1,.int .u64 0]) (m:χ fb=.no) (n:χ g=.no) (o:χ tb=.no) (P:g≠fb) (T:tb≠fb) (Q:g≠tb)
 (R:bH w' L.tm .u64 bf (b8 (K.ai.map fun x=>(x.1,Y.bB x.1)) id tb)) (c:Ch (aK L.tm) w w'):
 ∃aW Y',ae w' aW L Y' C {K with ai:=b8 K.ai id ⟨id,[f],0⟩}/\(∀i,i<w.heap.size->χ i≠ .no->aW i=χ i)/\(∀i,aW i≠ .no->χ i≠ .no∨i=fb∨i=g∨i=tb)/\Yk K Y Y'/\(g5 χ->g5 aW):=by
 have z:=h.tm (by simp);have s:eI [.tm] χ χ (aK L.tm) w w':=eI.one c (fun i a=>by rw[show i=L.tm from a];simp[z.k]) h.small;have base:=h.step s (by simp);obtain⟨aW,y⟩:∃aW:Nat->a4,aW=fun i=>if i=fb then .fr id 0 else if i=g then .tl id else if i=tb then .th id else χ i:=⟨_,rfl⟩
 have nb:∀{i:Nat} {k:a4},χ i=k->k≠ .no->aW i=k:=fun {i k} a p=>by
  rw[y];dsimp only;rw[if_neg (fun e=>p (by rw[<-a,e,m])),if_neg (fun e=>p (by rw[<-a,e,n])),if_neg (fun e=>p (by rw[<-a,e,o]))];exact a
 have D:∀{i},χ i=.no->i≠L.tm:=fun {i} a e=>by rw[e,z.k]at a;cases a
 have M:MB [.tm] w' aW L Y C K:={
  head:=fun l=>⟨(base.head (by simp)).row,(base.head (by simp)).rows,nb (base.head (by simp)).k (by simp)⟩
  mem:=fun l=>⟨(base.mem (by simp)).is,nb (base.mem (by simp)).k1 (by simp),nb (base.mem (by simp)).k2 (by simp),nb (base.mem (by simp)).k3 (by simp)⟩
  al:=fun l=>⟨(base.al (by simp)).is,nb (base.al (by simp)).k1 (by simp),fun q d=>nb ((base.al (by simp)).k2 q d) (by simp)⟩
  bW:=fun l=>⟨(base.bW (by simp)).is,nb (base.bW (by simp)).k1 (by simp),nb (base.bW (by simp)).k2 (by simp),nb (base.bW (by simp)).k3 (by simp),nb (base.bW (by simp)).k4 (by simp),fun q d=>nb ((base.bW (by simp)).k5 q d) (by simp)⟩
  ring:=fun l=>⟨(base.ring (by simp)).is,nb (base.ring (by simp)).k1 (by simp),nb (base.ring (by simp)).k2 (by simp)⟩
  q:=fun l=>⟨(base.q (by simp)).is,(base.q (by simp)).b2,fun i a=>nb ((base.q (by simp)).k i a) (by simp)⟩
  tab:=fun l=>⟨(base.tab (by simp)).is,nb (base.tab (by simp)).k1 (by simp),nb (base.tab (by simp)).k2 (by simp)⟩
  obj:=fun l=>⟨(base.obj (by simp)).is,nb (base.obj (by simp)).k1 (by simp),nb (base.obj (by simp)).k2 (by simp)⟩
  tm:=fun l=>absurd (by simp) l
  th:=fun j u hj l=>⟨(base.th j u hj (by simp)).is,nb (base.th j u hj (by simp)).k (by simp)⟩
  tl:=fun j u hj l=>⟨(base.tl j u hj (by simp)).is,fun q d=>nb ((base.tl j u hj (by simp)).k q d) (by simp)⟩
  fr:=fun j u k A hj p l=>⟨(base.fr j u k A hj p (by simp)).is,nb (base.fr j u k A hj p (by simp)).kf (by simp),fun q d=>nb ((base.fr j u k A hj p (by simp)).kb q d) (by simp)⟩
  wk:=fun l=>⟨(base.wk (by simp)).is,nb (base.wk (by simp)).k (by simp),(base.wk (by simp)).back,fun i x r q d=>nb ((base.wk (by simp)).kb i x r q d) (by simp),(base.wk (by simp)).n⟩
  out:=fun l=>⟨(base.out (by simp)).is,fun q d=>nb ((base.out (by simp)).k q d) (by simp)⟩
  code:=fun l=>{
   mx:=(base.code (by simp)).mx
   iU:=(base.code (by simp)).iU
   my:=(base.code (by simp)).my
   ca:=fun r=>by obtain⟨q,m,n,o⟩:=(base.code (by simp)).ca r;exact⟨q,m,n,nb o (by simp)⟩
   prog:=fun r=>by obtain⟨q,m,n,o⟩:=(base.code (by simp)).prog r;exact⟨q,m,n,nb o (by simp)⟩
   calls:=fun r=>by obtain⟨q,j,m,n,o⟩:=(base.code (by simp)).calls r;exact⟨q,j,m,n,nb o (by simp)⟩}
  small:=fun i a=>by
   rw[y]at a;dsimp only at a;split at a
   ·rename_i e;rw[e];exact Nat.lt_of_lt_of_le F.row.lt c.size
   ·split at a
    ·rename_i e;rw[e];exact Nat.lt_of_lt_of_le (cB G (g:=g) rfl) c.size
    ·split at a
     ·rename_i e;rw[e];exact Nat.lt_of_lt_of_le H.lt c.size
     ·exact base.small i a}
 have N:=F.ch c (fun e=>D m e) (fun q d=>by rw[E]at d;cases d);have O:=ar G c (fun q d e=>D n (by
  have:g=q:=by simpa[Value.ownBlock]using d
  rw[this];exact e))
 have S:=H.ch c (fun e=>D o e);have J:g5 χ->g5 aW:=fun I i=>by
  rw[y];dsimp only;split
  ·intro e;cases e
  ·split
   ·intro e;cases e
   ·split
    ·intro e;cases e
    ·exact I i
 refine⟨aW,_,M.DL (t:=⟨id,[f],0⟩) (f:=f) (v:=.slice (some ⟨g,0,none⟩) 1 1) (bv':=bv) (b:=tb) (fbk:=fb) B rfl ⟨?_,nb z.k (by simp),z.nd.put _ _⟩ ⟨S,?_⟩ ⟨by simpa using O,?_⟩ ⟨N,?_,fun q d=>by rw[E]at d;cases d⟩,fun i a l=>nb rfl l,?_,?_,J⟩
 ·rw[<-rL _ _ _ _ _ B];exact R
 ·rw[y];dsimp only;rw[if_neg T,if_neg (fun e=>Q e.symm),if_pos rfl]
 ·intro q d
  have:g=q:=by simpa[Value.ownBlock]using d
  rw[<-this,y];dsimp only;rw[if_neg P,if_pos rfl]
 ·rw[y];dsimp only;rw[if_pos rfl]
 ·intro i a
  rw[y]at a;dsimp only at a;split at a
  ·rename_i e;exact Or.inr (Or.inl e)
  ·split at a
   ·rename_i e;exact Or.inr (Or.inr (Or.inl e))
   ·split at a
    ·rename_i e;exact Or.inr (Or.inr (Or.inr e))
    ·exact Or.inl a
 ·intro j u hj
  have e:j≠id:=fun e=>by rw[e,B]at hj;cases hj
  exact⟨if_neg e,fun k _=>if_neg e⟩
def Ee(x:Option Nat)(χ:Nat->a4)(L:cw)(Y:Var)(C:KC)(K K':KS)(w:World)(e:Ending)(w':World):Prop:=
 (match x with
  |some a=>e=.returned (.tuple #[.int .i64 a,.nilIface])
  |none=>∃u,e=.returned (.tuple #[.int .i64 0,u])/\aq u)/\∃aW Y',dB χ L Y C K K' w aW Y' w'/\(g5 χ->g5 aW)
def Ef(x:Option Int)(χ:Nat->a4)(L:cw)(Y:Var)(C:KC)(K K':KS)(w:World)(e:Ending)(w':World):Prop:=
 (match x with
  |some a=>e=.returned (.tuple #[.int .u64 a,.nilIface])
  |none=>∃v,e=.returned (.tuple #[.int .u64 0,v])/\aq v)/\∃aW Y',dB χ L Y C K K' w aW Y' w'/\(g5 χ->g5 aW)
def Ca(ok:Bool)(χ:Nat->a4)(L:cw)(Y:Var)(C:KC)(K K':KS)(w:World)(e:Ending)(w':World):Prop:=(∃v,e=.returned v/\(if ok then v=.nilIface else aq v))/\∃aW Y',dB χ L Y C K K' w aW Y' w'/\(g5 χ->g5 aW)
def Eg(v:Value)(χ:Nat->a4)(L:cw)(Y:Var)(C:KC)(K K':KS)(w:World)(e:Ending)(w':World):Prop:=e=.returned v/\∃aW Y',dB χ L Y C K K' w aW Y' w'/\(g5 χ->g5 aW)
theorem pw{χ:Nat->a4}{a:Option Nat}:g5 χ->g5 (cJ χ a .al):=fun h i=>by
 unfold cJ;split
 ·intro e;cases e
 ·exact h i
theorem Dj(n:Nat)(f:n<=1000000)(g:K.blocks.Ok)(h:ae w χ L Y C K):Calls prog 113 #[.pointer (some ⟨L.ab,0,none⟩),.int .i64 n,.int .i64 64] w (Ee (c' K.blocks K.mem n).1 χ L Y C K {K with blocks:=(c' K.blocks K.mem n).2.1,mem:=(c' K.blocks K.mem n).2.2} w):=
 (kk L.ab L.m L.c L.d Y.av K.blocks K.mem g n f w (h.al (by simp)).is (h.mem (by simp)).is).mono fun _ _ ⟨a,⟨v,b,c⟩,d,e⟩=>⟨a,_,_,h.A1 b c d e,pw⟩
theorem Dk(a:Int)(g:K.blocks.Ok)(h:ae w χ L Y C K):Calls prog 115 #[.pointer (some ⟨L.ab,0,none⟩),.int .i64 a] w (Ca (mr K.blocks K.mem a).1 χ L Y C K (iS K a) w):=
 (kl L.ab L.m L.c L.d Y.av K.blocks K.mem g a w (h.al (by simp)).is (h.mem (by simp)).is).mono fun _ _ ⟨b,⟨v,c,d⟩,e,f⟩=>⟨b,_,_,h.A1 c d e f,pw⟩
theorem px(home:Int)(h:ae w χ L Y C K):Calls prog 114 #[.pointer (some ⟨L.tb,0,none⟩),.int .u64 home] w (Ef (db K.table home).1 χ L Y C K {K with table:=(db K.table home).2} w):=
 (l5 L.tb L.tg K.table home w (h.tab (by simp)).is).mono fun _ _ ⟨a,b,c⟩=>⟨a,_,_,h.l8 b c,fun h=>h⟩
theorem xp(v:Int)(h:ae w χ L Y C K):Calls prog 69 #[.pointer (some ⟨L.rb,0,none⟩),.int .u64 v] w (Ca (g6 K.ring v).1 χ L Y C K {K with ring:=(g6 K.ring v).2} w):=
 (l6 L.rb L.rg K.ring v w (h.ring (by simp)).is).mono fun _ _ ⟨a,b,c⟩=>⟨a,_,_,h.tf b c,fun h=>h⟩
theorem uc(place c:Int)(a3:K.blocks.Ok)(ab:(c' K.blocks K.mem 1).2.1.Ok)(c6:∀O id,(db K.table O).1=some id->aw K.ai id=none)(h:ae w χ L Y C K):
 Calls prog 68 #[.pointer (some ⟨L.mb,0,none⟩),.int .i64 place,.int .u64 c] w (Eg (.int .u64 (bF K place c).1) χ L Y C K (bF K place c).2 w):=by
 have H:=Z h;have B:=h.oG;have N:=Z (Dj 1 (by omega) a3 h);obtain⟨p,Q⟩:=nm (c' K.blocks K.mem 1);have hle:∀a,p.1=some a->a<=140000:=fun a c5=>mG a3 (by rw[Q];exact c5)
 rw[Q]at N ab;obtain⟨dN,av,c1⟩:=p;have U:=Z Q;have cl:=Z ab;have ct:=Z c6;clear h Q a3 ab c6;cases dN with
 |none=>
  have E:Hid (bF K place c=(0,{K with blocks:=av,mem:=c1})):=Z (by unfold bF;rw[U.out]);clear hle;go_enter func68,ntmps68
  go_wp2_with fail
  refine N.out.mono ?_;rintro e w1 ⟨⟨u,rfl,al⟩,ap,W,b,M⟩;have A:=Z M;obtain⟨tt,eL,rfl⟩:=al;have y:=Z b;clear b B;go_wp2_with fail
  go_ret;rw[E.out];exact⟨rfl,ap,W,y.out,A.out⟩
 |some a=>
  have c5:=hle a rfl;have eW:IntKind.u64.wrap (a:Int)=a:=by unfold IntKind.wrap IntKind.bits IntKind.signed;simp;omega
  obtain⟨K1,a2⟩:=mn (({K with blocks:=av,mem:=c1}:KS));have j:=Z a2;have eU:(a:Int)<=140000:=by omega
  obtain⟨q,c8⟩:=nm (db K1.table (a:Int));obtain⟨dC,r⟩:=q;have z:=Z c8;have cm:Hid (K1.blocks.Ok):=Z (by rw[a2];exact cl.out);clear hle a2 c8;cases dC with
  |none=>
   have E:Hid (bF K place c=(0,iS {K1 with table:=r} a)):=Z (by
    have:=z.out;rw[j.out]at this⊢;unfold bF;rw[U.out];dsimp only;rw[show db K.table (a:Int)=(none,r)from this])
   go_enter func68,ntmps68
   go_wp2_with fail
   refine N.out.mono ?_;rintro e w1 ⟨rfl,ap,W,b,M⟩;have A:=Z M;rw[<-j.out]at b;have y:=Z b;have X:=b.at_.eh;have n:=px (a:Int) b.at_;rw[z.out]at n;have R:=Z n;clear b B n;go_wp2_with fail
   refine R.out.mono ?_;rintro e w2 ⟨⟨u,rfl,al⟩,x,c2,m,am⟩;have V:=Z am;obtain⟨tt,eL,rfl⟩:=al;have k:=Z (y.out.trans (Gr.of_eq (by rw[j.out])) m);have B:=m.at_.oG;clear m X;go_wp2_with fail
   refine(Dk (a:Int) (by exact cm.out) k.out.at_).mono ?_;rintro e fd ⟨⟨v,rfl,_⟩,eO,dr,c3,eA⟩;have cW:=Z eA;have ci:=Z (k.out.trans (Gr.of_eq (by rw[j.out])) c3);clear c3 B;go_wp2_with fail
   go_ret;rw[E.out];exact⟨rfl,eO,dr,ci.out,fun h=>cW.out (V.out (A.out h))⟩
  |some id=>
   have c7:aw K.ai id=none:=ct.out (a:Int) id (by have:=z.out;rw[j.out]at this;rw[show db K.table (a:Int)=(some id,r)from this]);have cA:=Z c7;have E:Hid (bF K place c=(id,{K1 with table:=r,ai:=b8 K.ai id ⟨id,[iH place c],0⟩})):=Z (by
    have:=z.out;rw[j.out]at this⊢;unfold bF;rw[U.out];dsimp only;rw[show db K.table (a:Int)=(some id,r)from this];rfl)
   clear c7;go_enter func68,ntmps68
   go_wp2_with fail
   refine N.out.mono ?_;rintro e w1 ⟨rfl,ap,W,b,M⟩;have A:=Z M;rw[<-j.out]at b;have y:=Z b;have X:=b.at_.eh;have n:=px (a:Int) b.at_;rw[z.out]at n;have R:=Z n;clear b B n;go_wp2_with fail
   refine R.out.mono ?_;rintro e w2 ⟨rfl,x,c2,m,am⟩;have V:=Z am;have k:=Z (y.out.trans (Gr.of_eq (by rw[j.out])) m);have a0:=m.at_.iG;have ch:=Z a0;clear a0;go_upto_region 11 with fail
   obtain⟨d,J⟩:=nm (w2.alloc (.cells #[.int .i64 place,.int .u64 c,.int .u64 0,.int .u64 0,.int .u64 0,.int .u64 0,.int .u64 0,.int .u64 0,.int .u64 0,.int .u64 0,.int .u64 0,.int .u64 0,.int .u64 0,.int .u64 0,.int .u64 0,.int .u64 0,.int .u64 0,.int .u64 0,.int .u64 0,.int .u64 0,.int .u64 0,.int .u64 0,.int .u64 0,.int .u64 0,.int .u64 0,.int .u64 0,.int .u64 0,.int .u64 0,.int .u64 0,.int .u64 0,.int .u64 0,.int .u64 0,.int .u64 0,.slice none 0 0,.bool false,.int .i64 0] 127));have bw:=Z (Ch.al (D:=ag) J);have c0:Hid (aG d w2.heap.size 0 127 [] (iH place c).post (.slice none 0 0) (iH place c).f):=Z ⟨by
    have c9:=Row.new w2 #[.int .i64 place,.int .u64 c,.int .u64 0,.int .u64 0,.int .u64 0,.int .u64 0,.int .u64 0,.int .u64 0,.int .u64 0,.int .u64 0,.int .u64 0,.int .u64 0,.int .u64 0,.int .u64 0,.int .u64 0,.int .u64 0,.int .u64 0,.int .u64 0,.int .u64 0,.int .u64 0,.int .u64 0,.int .u64 0,.int .u64 0,.int .u64 0,.int .u64 0,.int .u64 0,.int .u64 0,.int .u64 0,.int .u64 0,.int .u64 0,.int .u64 0,.int .u64 0,.int .u64 0,.slice none 0 0,.bool false,.int .i64 0] 127;rw[J]at c9;exact c9,rfl,cp.nil _⟩
   have l:Hid (d.heap.size=w2.heap.size+1):=Z (by rw[<-J];simp);rw[J];clear J m X;have a0:=(bw.out.cell (aE ch.out) (fun h=>h)).trans ch.out;obtain⟨fb,ad⟩:=mn w2.heap.size;rw[<-ad]at c0 l⊢;have o:=Z ad;clear ad;obtain⟨w4,t⟩:=nm ((d.alloc (.cells #[.pointer (some ⟨fb,0,none⟩)] 125)).alloc (.cells #[.int .u64 id,.slice (some ⟨d.heap.size,0,none⟩) 1 1,.int .u64 0] 124));have bi:Hid (Ch ag w2 w4):=Z (by rw[<-t];exact(bw.out.alloc _).alloc _);have S:Hid (ae w4 x L c2 C {K1 with table:=r}):=Z (k.out.at_.af bi.out);have cC:Hid (Row w4 d.heap.size 125 [bf fb]):=Z (by rw[<-t];exact(Row.new d _ _).alloc _);have cL:Hid (Row w4 (d.heap.size+1) 124 [.int .u64 id,.slice (some ⟨d.heap.size,0,none⟩) 1 1,.int .u64 0]):=Z (by
    rw[<-t];have:=Row.new (d.alloc (.cells #[.pointer (some ⟨fb,0,none⟩)] 125)) #[.int .u64 id,.slice (some ⟨d.heap.size,0,none⟩) 1 1,.int .u64 0] 124;rw[World.size_alloc]at this;exact this)
   have cs:Hid (aG w4 fb 0 127 [] (iH place c).post (.slice none 0 0) (iH place c).f):=Z (by
    rw[<-t];exact c0.out.ch (((Ch.refl ag _).alloc _).alloc _) (fun h=>h) (fun _ _ h=>h))
   obtain⟨eC,cd,c4,a1⟩:=fm (P:=prog) (T:=110) (K:=39) (E:=121) (enc:=bf) underlying110 underlying39 (S.out.tm (by simp)).is id (d.heap.size+1);have I:∀i,w2.heap.size<=i->x i=.no:=fun i s=>by
    cases F:x i with
    |no=>rfl
    |_=>exact absurd (k.out.at_.small i (by rw[F];simp)) (by omega)
   have eS:=Z I;have cb:=S.out.Ed (id:=id) (f:=iH place c) (bv:=.slice none 0 0) (fb:=fb) (g:=d.heap.size) (tb:=d.heap.size+1) (w':=eC) (by rw[j.out];exact cA.out) cs.out rfl
    ⟨rfl,Or.inr ⟨d.heap.size,1,#[bf fb],rfl,Nat.zero_le _,cC.out,Nat.le_refl _,by unfold maxLen;omega,rfl,rfl⟩⟩ cL.out (I _ (by rw[o.out];exact Nat.le_refl _)) (I _ (by rw[l.out,o.out];omega)) (I _ (by rw[l.out,o.out];omega)) (by rw[l.out];omega) (by rw[l.out];omega) (by omega) c4 a1
   have cS:=Z cb;have cq:=Z a1;simp only[bf]at cd;rw[<-t]at cd;clear cb c4 a1 t I;go_wp2_with fail
   go_ret;rw[E.out];obtain⟨aW,Y',O,et,en,ex,es⟩:=cS.out;have ce:K1.ai=K.ai:=(by rw[j.out]);simp only[ce]at O;refine⟨rfl,aW,Y',⟨O,?_,?_⟩,fun h=>es (V.out (A.out h))⟩
   ·have G:Nx χ x w w4:=k.out.nx.trans (Nx.af bi.out)
    have e1:=(S.out.tm (by simp)).k;have eY:w.heap.size<=w2.heap.size:=k.out.nx.ch.size;refine⟨G.ch.join cq.out (fun i s e=>by rw[<-G.same i s,show i=L.tm from e,e1];simp),fun i s=> ?_⟩;cases F:x i with
    |no=>
     rw[<-G.same i s,F];cases ec:aW i with
     |no=>rfl
     |_=>
      exfalso;rcases en i (by rw[ec];simp)with e|e|e|e
      ·exact e F
      ·rw[o.out]at e;omega
      ·rw[l.out,o.out]at e;omega
      ·rw[l.out,o.out]at e;omega
    |_=>rw[et i (Nat.lt_of_lt_of_le s G.ch.size) (by rw[F];simp),G.same i s]
   ·exact k.out.yk.trans (Gr.of_eq ce) ex
end
end
end Go.Proofs.YtlihkblppjgebaaGreatDoor
