import Derived.Deep.RegionHeldLaw
import Derived.Deep.RegionLaw
import Derived.Deep.DeepCutAuto
import Derived.Test.YtmfnplmcfkkdpaaGreatDoorZAl
import Derived.Test.YtmfnplmcfkkdpaaGreatDoorZAq
set_option linter.all false
set_option maxRecDepth 100000
set_option maxHeartbeats 0
namespace Go.Proofs.YtmfnplmcfkkdpaaGreatDoor
open Go.RowKit Go.Proofs.Tryz
section
variable{cg:Bool}{l:List be}
theorem Inv.C4{N M:Nat}{K:KS}(h:Inv N M K)(id:Int)(b:id≠0->(aw K.ai id).isSome=true/\ev K.wk K.ring id=0/\st K.table id≠3):Inv N M {K with ring:=(hG K.ring id).2}:=by
 refine⟨?_,h.nd,h.q,h.b2,h.bI,h.mem,h.obj,h.draw,h.w0,h.w1,h.out⟩;have c:=h.core;refine c.fW id c.cZ (fun _ _=>rfl) (fun _ _=>rfl) (fun j g _=>⟨Nat.le_refl _,?_⟩) c.wk (fun r k f=>c.al id r k f) (fun t m=>c.ai id t m) (fun a=> ?_) (fun a _=>⟨(b a).1,(b a).2.2⟩) (fun a i=> ?_)
 ·show ev K.wk (hG K.ring id).2 j<=ev K.wk K.ring j
  unfold ev;rw[(gz K.ring id j).2 g];exact Nat.le_refl _
 ·show ev K.wk (hG K.ring id).2 id<=1
  have d:=(b a).2.1;have e:=(gz K.ring id id).1;rw[if_pos rfl]at e;unfold ev at d⊢;omega
 ·have d:=(b a).2.1
  have e:0<iO K.wk id:=i;unfold ev at d;omega
theorem yN(home:Int):dh (List.replicate 64 aF.zero) home=(some 64,(List.replicate 64 aF.zero).set 0 ⟨1,true,aF.zero.bL,⟨64,1,home,0,0,false,false⟩⟩):=by rfl
theorem E3(home:Int):st ((List.replicate 64 aF.zero).set 0 ⟨1,true,aF.zero.bL,⟨64,1,home,0,0,false,false⟩⟩) 64=1:=by rfl
theorem tB(C:KC)(n tt:Nat)(g:1<=n)(h:n<=64)(j:tt<=65536)(i:17+8*n+C.wide.toNat+C.narrow.toNat<=tt):Inv 1 0 (hY C n tt):=by
 have f:=wM C n tt g h j i;obtain⟨d,_,e⟩:=f.born (by omega) C.entry 0 bE;unfold hY;dsimp only;refine d.C4 _ (fun c=> ?_);obtain⟨t,k,q⟩:=e c;refine⟨by rw[k];rfl,q,?_⟩;generalize a:bQ (kp C n tt) C.entry 0=x at c⊢;unfold bQ at a
 revert a
 cases df (kp C n tt).blocks (kp C n tt).mem 1 with
 |mk o p=>
  obtain⟨b,m⟩:=p;cases o with
  |none=>intro a;subst a;exact absurd rfl c
  |some r=>
   dsimp only;rw[show(kp C n tt).table=List.replicate 64 aF.zero from rfl,yN];intro a;subst a;dsimp only;rw[E3];decide
theorem p7(l:List bB):∀k,∀r∈fJ l k,0<=r/\r<=k
 |0,r,a=>by
  rw[(List.mem_replicate.1 a).2];exact⟨Int.le_refl _,Int.le_refl _⟩
 |k+1,r,a=>by
  rw[fJ]at a;rcases List.mem_or_eq_of_mem_set a with h|h
  ·have:=p7 l k r h;omega
  ·rw[h];omega
theorem oW(l:List bB):∀k,(fJ l k).length=1000
 |0=>List.length_replicate
 |k+1=>by rw[fJ,List.length_set];exact oW l k
theorem oX{n:Int}:∀{l:List be} {i:Nat},gQ n cg l i=none->∀x∈l,eD x n cg=true
 |[],_,_=>fun x a=>by cases a
 |y::l,i,h=>fun x a=>by
  unfold gQ at h;split at h
  ·rename_i c
   rcases List.mem_cons.1 a with rfl|b
   ·exact c
   ·exact oX h x b
  ·cases h
theorem yO(h:jw l cg=true):∀x∈l,eD x l.length cg=true:=by
 unfold jw at h;rw[Bool.and_eq_true]at h;exact oX (Option.isNone_iff_eq_none.1 h.2)
theorem wO{loop:Int}{calls:List bB}{p:List be}{en wi na:Int}(b:fG l loop calls=true)(a:eQ p en wi na=true)(d:calls.length<=2048)
 (u1:∀x∈l,aK x.v) (u2:∀x∈p,aK x.v):ow (vf l loop calls p en wi na) where
 ll:=(jX b).2
 pl:=(mg a).2
 cl:=d
 lv:=u1
 pv:=u2
 F4:=by
  have c:jw p false=true:=by
   unfold eQ at a;simp only[Bool.and_eq_true]at a;exact a.1.2
  exact yO c
 bw:=by have:=wN a;exact this
 Eu:=oW calls _
 rows:=p7 calls _
end
section
variable{w w':World}{χ aY:Nat->a'}{C:KC}{K:KS}{D:Nat->Prop}{mb:Nat}
theorem ae.rl{L:cU}{Y:Var}(h:ae w χ L Y C K)(c:Ch D w w')(e:∀i,i<w.heap.size->D i->χ i=.no):ae w' χ L Y C K:=by
 have s:eT [.no] χ χ D w w':=⟨c,fun i d f=>by rw[e i d f];simp,fun _ _=>rfl,fun i d=>Nat.lt_of_lt_of_le (h.small i d) c.size⟩;have b:=h.step s (by simp);exact {
  head:=fun _=>b.head (by simp)
  mem:=fun _=>b.mem (by simp)
  al:=fun _=>b.al (by simp)
  b2:=fun _=>b.b2 (by simp)
  ring:=fun _=>b.ring (by simp)
  q:=fun _=>b.q (by simp)
  cZ:=fun _=>b.cZ (by simp)
  obj:=fun _=>b.obj (by simp)
  tm:=fun _=>b.tm (by simp)
  th:=fun j u a _=>b.th j u a (by simp)
  tl:=fun j u a _=>b.tl j u a (by simp)
  fr:=fun j u k f' a g _=>b.fr j u k f' a g (by simp)
  wk:=fun _=>b.wk (by simp)
  out:=fun _=>b.out (by simp)
  code:=fun _=>b.code (by simp)
  small:=b.small}
def MS(w:World)(χ:Nat->a')(mb:Nat)(C:KC)(K:KS):Prop:=∃L Y,L.mb=mb/\ae w χ L Y C K/\∀i,χ i≠ .out
theorem MS.rl(h:MS w χ mb C K)(c:Ch D w w')(e:∀i,i<w.heap.size->D i->χ i=.no):MS w' χ mb C K:=by
 obtain⟨L,Y,a,b,d⟩:=h;exact⟨L,Y,a,b.rl c e,d⟩
theorem MS.af(h:MS w χ mb C K)(c:Ch ag w w'):MS w' χ mb C K:=h.rl c (fun _ _ e=>False.elim e)
theorem MS.small(h:MS w χ mb C K):∀i,χ i≠ .no->i<w.heap.size:=by
 obtain⟨L,Y,b,a,c⟩:=h;exact a.small
def HI(x:List Ev×KS)(χ:Nat->a')(mb:Nat)(C:KC)(w:World)(e:Ending)(w':World):Prop:=
 ∃v aY,e=.returned v/\w'.ownsRow w.heap.size 159 11 v x.1.length (x.1.flatMap Ev.cells)/\(∀g,v.ownBlock=some g->aY g=.no)/\MS w' aY mb C x.2/\Nx χ aY w w'
theorem A'{N:Nat}(j:ow C)(k:Inv N 0 K)(l:N<=300000)(kind wk draw:Int)(m:aK draw)(n:(ht C K kind wk draw).2.clock.fl=[])(h:MS w χ mb C K):
 Calls prog 15 #[(mb,0),.agg #[kind,wk,.int .u64 draw]] w (HI (ht C K kind wk draw) χ mb C w):=by
 obtain⟨L,Y,rfl,a,b⟩:=h;refine(CP j k l kind wk draw m b n a).mono ?_;rintro e w' ⟨v,aY,Y',rfl,c,d,f,g,i⟩;exact⟨v,aY,rfl,c,d,⟨L,Y',rfl,f,i⟩,g⟩
theorem rm{B:Nat}(c:∀i,χ i≠ .no->B<=i)(h:Nx χ aY w w')(d:B<=w.heap.size):∀i,aY i≠ .no->B<=i:=fun i b=>by
 rcases Nat.lt_or_ge i w.heap.size with a|a
 ·rw[h.same i a]at b;exact c i b
 ·omega
theorem iA{w0:World}(b:∀i,χ i≠ .no->w0.heap.size<=i)(h:Nx χ aY w w')(c:Ch ag w0 w):Ch ag w0 w':=c.fresh h.ch (fun i d a=>by have:=b i a;omega)
def E4(C:KC)(n tt:Nat)(w:World)(e:Ending)(w':World):Prop:=
 ∃mb χ,e=.returned (.tuple #[.pointer (some ⟨mb,0,none⟩),.nilIface])/\MS w' χ mb C (hY C n tt)/\(∀i,χ i≠ .no->w.heap.size<=i)/\Ch ag w w'
theorem iB{g:Nat}{l:List be}{c:List Value}(h:Row w g 152 (l.flatMap dn++c)):fN w g l:=
 ⟨h.lt,fun j u a=>h.cell (by
  have b:j<(l.flatMap dn).length:=(List.getElem?_eq_some_iff.1 a).1;rw[List.getElem?_append_left b];exact a)⟩
theorem Ba(n tt:Nat)(B:1<=n/\n<=64)(F:1<=tt/\tt<=65536)(l:List be)(loop:Int)(calls:List bB)(p:List be)(en:Int)(wi na:Nat)(A:calls.length<=100000)(d:0<calls.length)
 (b:fG l loop calls=true) (c:eQ p en wi na=true) (E:17+8*n+wi+na+1<=tt) (vc vk f:Value) {g h i:Nat} (w:World)
 (r:w.ownsRow g 152 7 vc l.length (l.flatMap dn)) (s:w.ownsRow h 121 6 vk calls.length (calls.flatMap bB.cells)) (t:w.ownsRow i 152 7 f p.length (p.flatMap dn))
 (z:w.cell? (0,0)=some (.iface 346 (.agg #[(4,80)]))):
 Calls prog 28 #[.agg #[.int .i64 n,.int .i64 tt],.agg #[vc,loop,vk],.agg #[f,en,.int .i64 wi,.int .i64 na]] w (E4 (vf l loop calls p en wi na) n tt w):=by
 obtain⟨o,j,P,rfl,_,H,_,M,_⟩:=aE r (jX b).1;obtain⟨a,k,G,rfl,_,I,_,N,_⟩:=aE s d;obtain⟨q,m,Q,rfl,_,J,_,O,_⟩:=aE t (mg c).1;refine(tA n tt B F l o j loop calls (some ⟨a,0,none⟩) k p q m en wi na H I J A w (iB M) (iB O) ⟨a,G,rfl,d,N⟩ b c E z).mono ?_;rintro e w' ⟨χ,L,Y,rfl,u,v,x,y⟩;exact⟨L.mb,χ,rfl,⟨L,Y,rfl,u,x⟩,v,y⟩
end
structure oY where
 num:Int
 name:ByteArray
 Bd:ByteArray
 oZ:Int
 k0:Int
 k1:Int
 k2:Int
 k3:Int
def p9(r:oY):List Value:=[.int .i64 r.num,.string r.name,.string r.Bd,.int .i64 r.oZ,.int .i64 r.k0,.int .i64 r.k1,.int .i64 r.k2,.int .i64 r.k3]
theorem yS(r:oY):(p9 r).length=8:=rfl
def dJ:List oY:=[⟨1,⟨#[99,114,101,97,116,101]⟩,⟨#[99,98,111,114,110]⟩,17,0,0,0,0⟩,
 ⟨2,⟨#[101,120,105,116]⟩,⟨#[99,101,120,105,116]⟩,17,0,0,0,0⟩,
 ⟨3,⟨#[106,111,105,110]⟩,⟨#[99,106,111,105,110]⟩,17,0,0,0,0⟩,
 ⟨4,⟨#[100,101,116,97,99,104]⟩,⟨#[99,108,111,111,115,101]⟩,17,0,0,0,0⟩,
 ⟨5,⟨#[115,101,108,102]⟩,⟨#[99,115,101,108,102]⟩,17,0,0,0,0⟩,
 ⟨6,⟨#[121,105,101,108,100]⟩,⟨#[99,121,105,101,108,100]⟩,17,0,0,0,0⟩,
 ⟨7,⟨#[115,108,101,101,112]⟩,⟨#[99,115,108,101,101,112]⟩,17,0,0,0,0⟩,
 ⟨8,⟨#[110,111,119]⟩,⟨#[99,110,111,119]⟩,17,0,0,0,0⟩,
 ⟨10,⟨#[109,117,116,101,120,32,105,110,105,116]⟩,⟨#[99,109,105,110,105,116]⟩,18,0,0,0,0⟩,
 ⟨11,⟨#[109,117,116,101,120,32,100,101,115,116,114,111,121]⟩,⟨#[99,109,103,111,110,101]⟩,18,1,0,0,0⟩,
 ⟨12,⟨#[109,117,116,101,120,32,108,111,99,107]⟩,⟨#[99,109,108,111,99,107]⟩,18,1,0,0,0⟩,
 ⟨13,⟨#[109,117,116,101,120,32,116,114,121,108,111,99,107]⟩,⟨#[99,109,116,114,121]⟩,18,1,0,0,0⟩,
 ⟨14,⟨#[109,117,116,101,120,32,116,105,109,101,100,108,111,99,107]⟩,⟨#[99,109,116,105,109,101,100]⟩,18,1,0,0,0⟩,
 ⟨15,⟨#[109,117,116,101,120,32,117,110,108,111,99,107]⟩,⟨#[99,109,102,114,101,101]⟩,18,1,0,0,0⟩,
 ⟨20,⟨#[115,101,109,32,105,110,105,116]⟩,⟨#[99,115,105,110,105,116]⟩,19,0,0,0,0⟩,
 ⟨21,⟨#[115,101,109,32,100,101,115,116,114,111,121]⟩,⟨#[99,115,103,111,110,101]⟩,19,2,0,0,0⟩,
 ⟨22,⟨#[115,101,109,32,119,97,105,116]⟩,⟨#[99,115,119,97,105,116]⟩,19,2,0,0,0⟩,
 ⟨23,⟨#[115,101,109,32,116,114,121,119,97,105,116]⟩,⟨#[99,115,116,114,121]⟩,19,2,0,0,0⟩,
 ⟨24,⟨#[115,101,109,32,116,105,109,101,100,119,97,105,116]⟩,⟨#[99,115,116,105,109,101,100]⟩,19,2,0,0,0⟩,
 ⟨25,⟨#[115,101,109,32,112,111,115,116]⟩,⟨#[99,115,112,111,115,116]⟩,19,2,0,0,0⟩,
 ⟨26,⟨#[115,101,109,32,103,101,116]⟩,⟨#[99,115,103,101,116]⟩,19,2,0,0,0⟩,
 ⟨30,⟨#[111,110,99,101,32,105,110,105,116]⟩,⟨#[99,111,105,110,105,116]⟩,20,0,0,0,0⟩,
 ⟨31,⟨#[111,110,99,101]⟩,⟨#[99,111,110,99,101]⟩,20,3,0,0,0⟩,
 ⟨40,⟨#[98,97,114,114,105,101,114,32,105,110,105,116]⟩,⟨#[99,98,105,110,105,116]⟩,21,0,0,0,0⟩,
 ⟨41,⟨#[98,97,114,114,105,101,114,32,100,101,115,116,114,111,121]⟩,⟨#[99,98,103,111,110,101]⟩,21,4,0,0,0⟩,
 ⟨42,⟨#[98,97,114,114,105,101,114,32,119,97,105,116]⟩,⟨#[99,98,119,97,105,116]⟩,21,4,0,0,0⟩,
 ⟨50,⟨#[114,119,108,111,99,107,32,105,110,105,116]⟩,⟨#[99,114,105,110,105,116]⟩,22,0,0,0,0⟩,
 ⟨51,⟨#[114,119,108,111,99,107,32,100,101,115,116,114,111,121]⟩,⟨#[99,114,103,111,110,101]⟩,22,5,0,0,0⟩,
 ⟨52,⟨#[114,119,108,111,99,107,32,114,101,97,100]⟩,⟨#[99,114,114,101,97,100]⟩,22,5,0,0,0⟩,
 ⟨53,⟨#[114,119,108,111,99,107,32,116,114,121,114,101,97,100]⟩,⟨#[99,114,116,114,121,114]⟩,22,5,0,0,0⟩,
 ⟨54,⟨#[114,119,108,111,99,107,32,116,105,109,101,100,114,101,97,100]⟩,⟨#[99,114,116,114,101,97,100]⟩,22,5,0,0,0⟩,
 ⟨55,⟨#[114,119,108,111,99,107,32,119,114,105,116,101]⟩,⟨#[99,114,119,114,105,116,101]⟩,22,5,0,0,0⟩,
 ⟨56,⟨#[114,119,108,111,99,107,32,116,114,121,119,114,105,116,101]⟩,⟨#[99,114,116,114,121,119]⟩,22,5,0,0,0⟩,
 ⟨57,⟨#[114,119,108,111,99,107,32,116,105,109,101,100,119,114,105,116,101]⟩,⟨#[99,114,116,119,114,105,116]⟩,22,5,0,0,0⟩,
 ⟨58,⟨#[114,119,108,111,99,107,32,117,110,108,111,99,107]⟩,⟨#[99,114,102,114,101,101]⟩,22,5,0,0,0⟩,
 ⟨60,⟨#[99,111,110,100,32,105,110,105,116]⟩,⟨#[99,99,105,110,105,116]⟩,23,0,0,0,0⟩,
 ⟨61,⟨#[99,111,110,100,32,100,101,115,116,114,111,121]⟩,⟨#[99,99,103,111,110,101]⟩,23,6,0,0,0⟩,
 ⟨62,⟨#[99,111,110,100,32,119,97,105,116]⟩,⟨#[99,99,119,97,105,116]⟩,23,6,1,0,0⟩,
 ⟨63,⟨#[99,111,110,100,32,116,105,109,101,100,119,97,105,116]⟩,⟨#[99,99,116,105,109,101,100]⟩,23,6,1,0,0⟩,
 ⟨64,⟨#[99,111,110,100,32,115,105,103,110,97,108]⟩,⟨#[99,99,115,105,103,110]⟩,23,6,0,0,0⟩,
 ⟨65,⟨#[99,111,110,100,32,98,114,111,97,100,99,97,115,116]⟩,⟨#[99,99,98,114,111,97,100]⟩,23,6,0,0,0⟩,
 ⟨70,⟨#[102,117,116,101,120,32,119,97,105,116]⟩,⟨#[99,102,119,97,105,116]⟩,16,7,0,0,0⟩,
 ⟨71,⟨#[102,117,116,101,120,32,119,97,107,101]⟩,⟨#[99,102,119,97,107,101]⟩,16,7,0,0,0⟩,
 ⟨72,⟨#[102,117,116,101,120,32,114,101,113,117,101,117,101]⟩,⟨#[99,102,114,101,113]⟩,16,7,0,7,0⟩,
 ⟨73,⟨#[102,117,116,101,120,32,99,109,112,114,101,113,117,101,117,101]⟩,⟨#[99,102,99,109,112]⟩,16,7,0,7,0⟩]
theorem yT{P:Program}{o:Oper}{a:Act}{w w':World}{next:Act->World->Prop}{Q:Exit->Act->World->Prop}{v:Value}(h:(execOp a.eval o).run P w=.ok (.value v) w')(k:next (a.put o.dst v) w'):o.wp P a w next Q:=by
 unfold Oper.wp;rw[h];exact k
set_option maxRecDepth 1000000 in
theorem yU(w:World):Calls prog 38 #[] w (fun e w'=>e=.returned (.slice (some (w.heap.size,0)) 45 45)/\Row w' w.heap.size 123 (dJ.flatMap p9)/\Ch ag w w'):=by
 go_wp2
 refine yT (v:=.slice (some (w.heap.size,0)) 45 45) (w':=w.alloc (.cells (dJ.flatMap p9).toArray 123)) (by kernel_rfl) ?_;go_wp2
 go_ret;refine⟨rfl,?_,ay⟩;have h:=Row.new w (dJ.flatMap p9).toArray 123;exact h
variable{w w':World}{B lb:Nat}{vc vk:Value}
def dQ(w w':World):Prop:=∀(k:Nat) (c:Array Value) (t:TypeId) (f:Nat×Nat),t≠62->t≠121->w.heap[k]?=some (.cells c t f)->w'.heap[k]?=some (.cells c t f)
theorem dQ.refl(w:World):dQ w w:=fun _ _ _ _ _ _ h=>h
theorem dQ.trans{a b c:World}(h:dQ a b)(g:dQ b c):dQ a c:=fun k x t f d e i=>g k x t f d e (h k x t f d e i)
theorem dQ.row(h:dQ w w'){b:Nat}{t:TypeId}{l:List Value}(d:Row w b t l)(a:t≠62)(c:t≠121):Row w' b t l:=h b _ t _ a c d
theorem dQ.fj{D:Nat->Prop}(c:Ch D w w')(b:∀k x t f,D k->w.heap[k]?=some (.cells x t f)->t=62∨t=121):dQ w w':=by
 intro k x t f e g a;rw[c.same k (Array.getElem?_eq_some_iff.1 a).1 (fun d=>by rcases b k x t f d a with h|h<;>contradiction)];exact a
theorem dQ.own(h:dQ w w'){e:TypeId}{s n:Nat}{v:Value}{xs:List Value}(a:w.ownsRow B e s v n xs)(b:e≠62)(c:e≠121):w'.ownsRow B e s v n xs:=by
 refine⟨a.1,?_⟩;rcases a.2 with d|⟨g,cap,cur,rfl,i,j,f⟩
 ·exact Or.inl d
 ·exact Or.inr ⟨g,cap,cur,rfl,i,h g _ e _ b c j,f⟩
structure m8(w:World)(B lb:Nat)(vc vk:Value)(loop:Int)(calls:List bB):Prop where
 row:Row w lb 62 [vc,loop,vk]
 hB:B<=lb
 own:w.ownsRow B 121 6 vk calls.length (calls.flatMap bB.cells)
theorem m8.af{loop:Int}{calls:List bB}(h:m8 w B lb vc vk loop calls)(c:Ch ag w w'):m8 w' B lb vc vk loop calls:=⟨h.row.ch c id,h.hB,ak h.own c (fun _ _ e=>e)⟩
theorem m8.app{w1:World}{v':Value}{loop:Int}{calls:List bB}(h:m8 w B lb vc vk loop calls)(n:B<=w.heap.size)(y:bB)
 (m:w1.ownsRow B 121 6 v' (calls.length+1) (calls.flatMap bB.cells++y.cells)) (d:w.grownBy w1 vk.ownBlock):
 m8 (w1.setCell (lb,2) v') B lb vc v' loop (calls++[y])/\Below B w (w1.setCell (lb,2) v')/\dQ w (w1.setCell (lb,2) v'):=by
 have c:=kq (p:=lb) (j:=2) (u:=v') d;have g:Row w1 lb 62 [vc,loop,vk]:=by
  unfold Row;rw[d.block lb h.row.lt (fun e=>bm h.own h.row (by decide) e.symm)];exact h.row
 refine⟨⟨g.bc _ _ rfl,h.hB,?_⟩,f' c h.own h.hB n,?_⟩
 ·have:=dT (j:=2) (u:=v') m g (by decide)
  rw[List.flatMap_append,List.length_append];simpa using this
 ·refine dQ.fj c (fun k x t f b a=> ?_)
  rcases b with rfl|b
  ·exact Or.inl (eM h.row a)
  ·obtain⟨_,cs,i⟩:=bW h.own b
   rw[i]at a;injection a with a;injection a with _ l _
   exact Or.inr l.symm
theorem Bg:(prog.info? 121).map (fun i=>(i.zero,i.size,i.bytes))=some (some (.agg #[.int .i64 0,.int .i64 0,.int .i64 0,.int .i64 0,.int .i64 0,.int .i64 0]),6,48):=by kernel_rfl
theorem J5{w:World}{B b:Nat}{e:TypeId}{z n:Nat}{v:Value}{xs:List Value}(h:w.ownsRow B e z v n xs)(i:b<=B):w.ownsRow b e z v n xs:=by
 refine⟨h.1,?_⟩;rcases h.2 with a|⟨g,c,cur,d,a,f⟩
 ·exact Or.inl a
 ·exact Or.inr ⟨g,c,cur,d,Nat.le_trans i a,f⟩
def MV(p:List be)(w:World)(e:Ending)(w':World):Prop:=∃v,e=.returned (.agg #[v,.int .i64 0,.int .i64 3,.int .i64 1])/\w'.ownsRow w.heap.size 152 7 v p.length (p.flatMap dn)/\Ch ag w w'
theorem Ko(t:ByteArray)(p:List be)(l:List (ByteArray×Int))(I:iV t=some (p,l))(w:World):Calls prog 13 #[.string t] w (MV p w):=by
 have E:=Z (fun w=>me t (p,l) I w);obtain⟨B,n⟩:=nm w.heap.size;have C:=Z n;go_in
 go_wp2_with fail
 generalize s:World.alloc _ _=w1;have h:=Z (Ch.al (D:=ag) s);have m:Hid (Row w1 B 45 [.slice none 0 0,.int .i64 0,.int .i64 0,.int .i64 0]):=Z (by rw[<-n];exact Row.al s);with_reducible refine(E.out w1).mono ?_
 rintro e w2 ⟨vc,vl,rfl,r,-,q⟩;obtain⟨a,c,rfl⟩:=au r;have d:=Z (m.ch q id);have k:=Z (And.intro r q);obtain⟨N,o⟩:=nm p.length;have j:=Z o;dsimp only;rw[o];obtain⟨y0,y,z,A⟩:=d.c4;have f0:=d.free 0;have f1:=d.free 1;have f2:=d.free 2;have f3:=d.free 3;go_wp2
 generalize u:World.setCell _ _ _=x;have F:Hid (Row x B 45 [.slice a N c,.int .i64 0,.int .i64 3,.int .i64 1]):=Z (by rw[<-u];exact(((d.set 0 _).set 1 _).set 2 _).set 3 _);have i:Hid (Ch (aH B) w2 x):=Z (by rw[<-u];exact ay);obtain⟨y0,y,z,A⟩:=F.c4;refine bodyPost_ret (v:=.agg #[.slice a N c,.int .i64 0,.int .i64 3,.int .i64 1]) ?_ rfl ?_
 ·simp[results,Tryz.f13,go_sem,y0,y,z,A]
 ·refine⟨_,rfl,?_,(h.trans k.2).fresh i (fun b hb e=>by have G:b=B:=e;have:=C.out;omega)⟩
  have f:=k.1;try rw[j]at f
  try rw[j]
  refine J5 (ak f i (fun g H e=> ?_)) h.size;have G:g=B:=e;have J:=(f.lt g H).1;have K:=m.lt;omega
def Np(C:KC)(n tt:Nat)(w:World)(e:Ending)(w':World):Prop:=
 ∃mb χ,e=.returned (.pointer (some ⟨mb,0,none⟩))/\MS w' χ mb C (hY C n tt)/\(∀i,χ i≠ .no->w.heap.size<=i)/\Ch ag w w'
def Lo(l:List iD):Nat:=(l.filter fun t=>t.state !=4).length
def K3(K:KS):Nat:=Lo (rz K.table)
theorem LV{l:List iD}{k:Nat}{t:iD}(h:l[k]?=some t):Lo (l.take (k+1))=Lo (l.take k)+(if t.state !=4 then 1 else 0):=by
 unfold Lo;rw[List.take_succ,h,List.filter_append,List.length_append];cases a:t.state !=4<;>simp[a]
theorem Lp{w:World}{χ:Nat->a'}{mb:Nat}{C:KC}{K:KS}(h:MS w χ mb C K):Calls prog 16 #[(mb,0)] w (ds (.int .i64 (K3 K)) w):=by
 obtain⟨L,Y,rfl,b,-⟩:=h;have s:=Z (o8 b);obtain⟨T,p⟩:=nm (rz K.table);have D:T.length<=64:=by
  rw[<-p];unfold rz;rw[List.length_map];exact Nat.le_trans (List.length_filter_le _ _) (by rw[(b.cZ (by simp)).is.len];exact Nat.le_refl _)
 unfold K3;rw[p]at s⊢;obtain⟨N,o⟩:=nm T.length;have j:=Z o;rw[o]at D;clear b p o;go_in
 go_wp2_with fail
 with_reducible refine s.out.mono ?_
 rintro e w2 ⟨v,rfl,f,u⟩;rw[j]at f;obtain⟨a,c,rfl⟩:=au f;have r:=Z (And.intro f u);clear f u;go_wp2
 go_loopg [3,5] (N+1) (fun gk G F wr=>∃k:Nat,k<=N/\gk=N+1-k/\F=.int .i64 k/\G=.int .i64 (Lo (T.take k))/\wr=w2)
 case atStart=>exact⟨0,by omega,by omega,rfl,rfl,rfl⟩
 case round=>
  obtain⟨k,H,rfl,rfl,rfl,rfl⟩:=hrel;by_cases E:k<N
  ·obtain⟨t,q⟩:∃t,T[k]?=some t:=⟨_,List.getElem?_eq_getElem (by rw[j];exact E)⟩
   have d:=Z (LV q);obtain⟨g,cap,M,l,-,-,-,x,-⟩:=aE r.1 (by omega);injection l with l A B
   subst l;obtain⟨m,b⟩:=nm (Lo (T.take k));have J:m<=k:=by
    rw[<-b];unfold Lo;exact Nat.le_trans (List.length_filter_le _ _) (by rw[List.length_take];omega)
   rw[b]at d⊢;have I:(k:Int)<N:=(by omega);have n:(T.flatMap iD.cells)[k*7+1]?=some (.int .i64 t.state):=(bJ (enc:=iD.cells) (k:=7) (fun _=>rfl) q (show 1<7 by decide)).trans rfl;have y:=x.cell (i:=k*7+1) (by rw[List.getElem?_append_left (List.getElem?_eq_some_iff.1 n).1];exact n);clear x q b A B n;cases z:t.state !=4 with
   |true=>
    rw[z]at d;go_wp2
    go_roundg (N+1-(k+1))
    case measure=>omega
    case rel=>exact⟨k+1,by omega,rfl,by go_num,by rw[d];go_num,rfl⟩
   |false=>
    rw[z]at d;go_wp2
    go_roundg (N+1-(k+1))
    case measure=>omega
    case rel=>exact⟨k+1,by omega,rfl,by go_num,by rw[d];go_num,rfl⟩
  ·obtain rfl:k=N:=by omega
   have e:T.take k=T:=List.take_of_length_le (by rw[j];exact Nat.le_refl _);rw[e];go_wp2
   go_ret;exact⟨rfl,r.2⟩
def ku(t:iD):Bool:=(t.state==3||t.state==4)&& !t.aG
def mY(l:List aF):Bool:=(rz l).all ku
theorem tR{w:World}{χ:Nat->a'}{mb:Nat}{C:KC}{K:KS}(h:MS w χ mb C K)(M:mY K.table=false)(v:Value)(p:Option Addr)(b:Bool):Calls prog 17 #[.agg #[v,.pointer p,.bool b],(mb,0)] w (ds (.bool false) w):=by
 obtain⟨w1,x⟩:=nm (w.alloc (.cells #[v,.pointer p,.bool b] 28));have A:=Z (Ch.al (D:=ag) x);have d:=h.af A;obtain⟨L,Y,rfl,s,-⟩:=d;have G:=Z (o8 s);obtain⟨T,j⟩:=nm (rz K.table);have U:T.length<=64:=by
  rw[<-j];unfold rz;rw[List.length_map];exact Nat.le_trans (List.length_filter_le _ _) (by rw[(s.cZ (by simp)).is.len];exact Nat.le_refl _)
 have Q:Hid (T.all ku=false):=Z (by rw[<-j];exact M);rw[j]at G;obtain⟨N,r⟩:=nm T.length;have n:=Z r;rw[r]at U;clear s j r M h;go_in
 go_wp2_with fail
 try rw[x]
 clear x;with_reducible refine G.out.mono ?_
 rintro e w2 ⟨v,rfl,l,J⟩;rw[n]at l;obtain⟨a,c,rfl⟩:=au l;have E:=Z (And.intro l J);clear l J;go_wp2
 go_loopg [6] (N+1) (fun gk W wr=>∃k:Nat,k<=N/\gk=N+1-k/\W=.int .i64 k/\Hid ((T.take k).all ku=true)/\wr=w2)
 case atStart=>exact⟨0,by omega,by omega,rfl,rfl,rfl⟩
 case round=>
  obtain⟨k,a0,rfl,rfl,B,rfl⟩:=hrel;by_cases V:k<N
  ·obtain⟨t,m⟩:∃t,T[k]?=some t:=⟨_,List.getElem?_eq_getElem (by rw[n];exact V)⟩
   have F:Hid ((T.take (k+1)).all ku=ku t):=Z (by
    rw[List.take_succ,m,List.all_append,B];show(true&&(ku t&&true))=_
    rw[Bool.and_true,Bool.true_and])
   obtain⟨g,cap,a2,o,-,-,-,u,-⟩:=aE E.1 (by omega);injection o with o R S
   subst o;have a1:(k:Int)<N:=(by omega);have d:(T.flatMap iD.cells)[k*7+1]?=some (.int .i64 t.state):=(bJ (enc:=iD.cells) (k:=7) (fun _=>rfl) m (show 1<7 by decide)).trans rfl;have q:(T.flatMap iD.cells)[k*7+6]?=some (.bool t.aG):=(bJ (enc:=iD.cells) (k:=7) (fun _=>rfl) m (show 6<7 by decide)).trans rfl;have y:=u.cell (i:=k*7+1) (by rw[List.getElem?_append_left (List.getElem?_eq_some_iff.1 d).1];exact d);have z:=u.cell (i:=k*7+6) (by rw[List.getElem?_append_left (List.getElem?_eq_some_iff.1 q).1];exact q);have f:=Z (show ku t=((t.state==3||t.state==4)&& !t.aG)from rfl);obtain⟨st,P⟩:=nm t.state;obtain⟨X,O⟩:=nm t.aG;rw[P]at y f;rw[O]at z f;rw[f]at F;clear u m R S d q f P O;cases H:st !=3
   all_goals cases I:st !=4
   all_goals cases X
   all_goals go_wp2_with fail
   all_goals first
    |(go_ret
      exact⟨rfl,A.trans E.2⟩)
    |(go_roundg (N+1-(k+1))
      case measure=>omega
      case rel=>
       refine⟨k+1,by omega,rfl,by go_num,Z ?_,rfl⟩;rw[F];simp only[bne_eq_false_iff_eq]at H I
       first
        |(rw[H];rfl)
        |(rw[I];rfl))
  ·obtain rfl:k=N:=by omega
   have e:T.take k=T:=List.take_of_length_le (by rw[n];exact Nat.le_refl _);have d:=B.out;rw[e,Q]at d;cases d
structure gF where
 cells:List Int
 width:List Int
 blocks:a8
 clock:aN
 q:List (List fQ)
 table:List aF
 cT:List bq
 ai:List (Int×Thread)
structure eI where
 w:Int
 bot:Nat->Int
 f:cP
 pk:Bool
 now:Int
 Ea:Int
 at_:Int
 wn:Int
 dr:Int
def lay(w:Int)(bot:Nat->Int)(l:List Int):Nat->List Int
 |0=>l.set 0 w
 |k+1=>(lay w bot l k).set (18+3*k) (bot k)
def Dl(n:Nat)(Z:gF)(left:Int)(e:eI):KS:=
 {mem:=⟨lay e.w e.bot Z.cells n,Z.width⟩,blocks:=Z.blocks,clock:={Z.clock with now:=e.now},ring:=[],q:=Z.q,table:=Z.table,cT:=Z.cT,ai:=Z.ai,
  wk:=⟨64,0,e.pk,left,e.f⟩::List.replicate (n-1) default,entries:=e.Ea,at_:=e.at_,w:=e.wn,draw:=e.dr,out:=[]}
def gG(n:Nat)(K:KS):gF:=⟨lay 0 (fun _=>0) K.mem.cells n,K.mem.width,K.blocks,{K.clock with now:=0},K.q,K.table,K.cT,K.ai⟩
structure r0 where
 Z:gF
 left:Int
 k:Nat
def r0.run(S:r0):gF×Int:=if S.k=1 then({S.Z with table:=(j4 S.Z.table 64 2).2},24)else(S.Z,S.left)
def Bn(C:KC)(n:Nat)(S:r0)(e:eI):List Ev×KS:=ht C (Dl n S.run.1 S.run.2 e) 1 0 e.dr
def mZ(K:KS):Nat:=if(K.W 0).slot=64 then 0 else if K.ring.length=1 then 1 else 2
def kv(C:KC)(n:Nat)(S:r0)(e:eI):r0:=
 let K:=(Bn C n S e).2
 ⟨gG n K,(K.W 0).left,mZ K⟩
def nc(n:Nat)(Z:gF):Bool:=(List.range (17+3*n)).all (fun a=>Z.width.getD a 0==64)&&decide (17+3*n<=Z.cells.length)&&(List.range n).all (fun k=>Z.cells.getD (17+3*k) 0==1)&&Z.clock.fl.isEmpty
def yP(eB:gF->Bool)(Z:gF):Bool:=if Lo (rz Z.table)=0 then eB Z else !mY Z.table
structure vi where
 w:Int
 Ff:List Int
 wk:List aC
 ring:List Int
 now:Int
 k:Nat
 sig:List (Int×Int×Int)
 ok:Bool
def rs(e:Ev):Int×Int×Int:=(e.kind,e.num,e.code)
def DQ(C:KC)(n:Nat)(eB:gF->Bool)(S:r0)(e:eI):vi:=
 let r:=Bn C n S e
 ⟨r.2.mem.cells.getD 0 0,(List.range n).map (fun k=>r.2.mem.cells.getD (18+3*k) 0),r.2.wk,r.2.ring,r.2.clock.now,mZ r.2,r.1.map rs,mG C (Dl n S.run.1 S.run.2 e) 64&&nc n (gG n r.2)&&yP eB S.Z&&yP eB S.run.1⟩
def DR(n:Nat)(left:Int)(k:Nat)(sig:List (Int×Int×Int))(e:eI):vi:=
 ⟨if k=1 then tV 64 e.w 1 else e.w,(List.range n).map e.bot,
  (if k=0 then⟨64,0,e.pk,left,e.f⟩else⟨0,0,e.pk,left,{e.f with pc:=90,back:=[]}⟩)::List.replicate (n-1) default,if k=1 then [64]else [],e.now,k,sig,true⟩
def dp(C:KC)(n:Nat)(Z:gF)(ρ:Nat->eI):Nat->r0
 |0=>⟨Z,0,1⟩
 |m+1=>kv C n (dp C n Z ρ m) (ρ m)
def pq(C:KC)(n:Nat)(eB:gF->Bool)(ρ:Nat->eI):Nat->Nat->r0->List vi×r0
 |0,_,S=>([],S)
 |f+1,m,S=>let r:=pq C n eB ρ f (m+1) (kv C n S (ρ m));(DQ C n eB S (ρ m)::r.1,r.2)
def y8(n:Nat)(ρ:Nat->eI):Nat->List (Int×Nat×List (Int×Int×Int))->List vi
 |_,[]=>[]
 |m,x::l=>DR n x.1 x.2.1 x.2.2 (ρ m)::y8 n ρ (m+1) l
section
variable{j k m:Nat}
theorem fM(l:List Int){a:Nat}(h:a<l.length)(b:Nat)(v:Int):(l.set a v).getD b 0=if a=b then v else l.getD b 0:=by
 rw[List.getD_eq_getElem?_getD,List.getD_eq_getElem?_getD];by_cases e:a=b
 ·subst e
  rw[if_pos rfl,List.getElem?_set_self h];rfl
 ·rw[if_neg e,List.getElem?_set_ne e]
theorem pr{a b:List Int}(e:a.length=b.length)(h:∀i,i<a.length->a.getD i 0=b.getD i 0):a=b:=by
 apply List.ext_getElem e;intro i c d;have:=h i c;rw[List.getD_eq_getElem?_getD,List.getD_eq_getElem?_getD,List.getElem?_eq_getElem c,List.getElem?_eq_getElem d]at this;exact this
section
variable{w:Int}{bot:Nat->Int}{l:List Int}
theorem b7:∀k,(lay w bot l k).length=l.length
 |0=>List.length_set
 |k+1=>by unfold lay;rw[List.length_set];exact b7 k
theorem kx:∀k,17+3*k<=l.length->(lay w bot l k).getD 0 0=w
 |0,h=>by unfold lay;rw[fM _ (by omega),if_pos rfl]
 |k+1,h=>by unfold lay;rw[fM _ (by rw[b7];omega),if_neg (by omega)];exact kx k (by omega)
theorem kG:∀k,17+3*k<=l.length->∀j,j<k->(lay w bot l k).getD (18+3*j) 0=bot j
 |0,h,j,a=>absurd a (Nat.not_lt_zero _)
 |k+1,h,j,a=>by
  unfold lay;rw[fM _ (by rw[b7];omega)];by_cases e:j=k
  ·rw[e,if_pos rfl]
  ·rw[if_neg (by omega)]
   exact kG k (by omega) j (by omega)
theorem iC:∀k,17+3*k<=l.length->∀a,a≠0->(∀j,j<k->a≠18+3*j)->(lay w bot l k).getD a 0=l.getD a 0
 |0,h,a,b,_=>by unfold lay;rw[fM _ (by omega),if_neg (fun e=>b e.symm)]
 |k+1,h,a,b,c=>by
  unfold lay;rw[fM _ (by rw[b7];omega),if_neg (fun e=>c k (Nat.lt_succ_self k) e.symm)];exact iC k (by omega) a b fun j h=>c j (Nat.lt_succ_of_lt h)
theorem vC(h:17+3*k<=l.length):lay (l.getD 0 0) (fun j=>l.getD (18+3*j) 0) (lay w bot l k) k=l:=by
 have d:17+3*k<=(lay w bot l k).length:=by rw[b7];exact h
 refine pr (by rw[b7,b7]) fun a _=> ?_
 by_cases b:a=0
 ·rw[b,kx k d]
 by_cases f:∃j,j<k/\a=18+3*j
 ·obtain⟨j,c,e⟩:=f
  rw[e,kG k d j c]
 ·have g:∀j,j<k->a≠18+3*j:=fun j c e=>f ⟨j,c,e⟩
  rw[iC k d a b g,iC k h a b g]
theorem zb(h:17+3*k<=l.length)(d:j<k)(v:Int):(lay w bot l k).set (18+3*j) v=lay w (fun x=>if x=j then v else bot x) l k:=by
 refine pr (by rw[List.length_set,b7,b7]) fun a _=> ?_
 rw[fM _ (by rw[b7];omega)];by_cases b:a=0
 ·rw[b,if_neg (by omega),kx k h,kx k h]
 by_cases g:∃i,i<k/\a=18+3*i
 ·obtain⟨i,o,e⟩:=g
  rw[e,kG k h i o,kG k h i o];by_cases f:i=j
  ·rw[if_pos (by omega),if_pos f]
  ·rw[if_neg (by omega),if_neg f]
 ·have c:∀j,j<k->a≠18+3*j:=fun j d e=>g ⟨j,d,e⟩
  rw[iC k h a b c,iC k h a b c,if_neg (fun e=>c j d e.symm)]
theorem nr{bot':Nat->Int}:∀k,(∀j,j<k->bot j=bot' j)->lay w bot l k=lay w bot' l k
 |0,_=>rfl
 |k+1,h=>by
  unfold lay;rw[nr k (fun j a=>h j (Nat.lt_succ_of_lt a)),h k (Nat.lt_succ_self k)]
end
structure lz(n:Nat)(Z:gF)(w:Int)(bot:Nat->Int)(K:KS):Prop where
 mem:K.mem=⟨lay w bot Z.cells n,Z.width⟩
 blocks:K.blocks=Z.blocks
 b2:K.clock={Z.clock with now:=K.clock.now}
 q:K.q=Z.q
 table:K.table=Z.table
 cT:K.cT=Z.cT
 ai:K.ai=Z.ai
 out:K.out=[]
 len:K.wk.length=n
section
variable{C:KC}{n:Nat}{eB:gF->Bool}{Z:gF}{w:Int}{bot:Nat->Int}{K:KS}
theorem fT(h:nc n Z=true):(∀a,a<17+3*n->Z.width.getD a 0=64)/\17+3*n<=Z.cells.length/\(∀k,k<n->Z.cells.getD (17+3*k) 0=1)/\Z.clock.fl=[]:=by
 unfold nc at h;simp only[Bool.and_eq_true,List.all_eq_true,List.mem_range,beq_iff_eq,decide_eq_true_eq,List.isEmpty_iff]at h;exact⟨h.1.1.1,h.1.1.2,h.1.2,h.2⟩
theorem lz.env(h:lz n Z w bot K)(e:nc n Z=true)(hb:∀k,k<n->bot k=0∨bot k=1):po n K.mem w bot:=by
 obtain⟨c,a,d,f⟩:=fT e;rw[h.mem];refine⟨c,by rw[b7];exact a,kx n a,fun k b=> ?_,fun k b=>⟨kG n a k b,hb k b⟩⟩;show(lay w bot Z.cells n).getD (17+3*k) 0=1
 rw[iC n a _ (by omega) (fun j g=>by omega),d k b]
theorem lz.own(h:lz n Z w bot K)(e:nc n Z=true)(c:j<n)(d:Int)(f:cP)(b:Bool)(v:Int):lz n Z w (fun x=>if x=j then v else bot x) (bb K j d f b (jL K.mem j v)):=by
 obtain⟨g,a,i,o⟩:=fT e;refine⟨?_,h.blocks,h.b2,h.q,h.table,h.cT,h.ai,h.out,by show(K.wk.set j _).length=n;rw[List.length_set,h.len]⟩;show jL K.mem j v=_
 unfold jL;rw[h.mem];dsimp only;rw[zb a c]
theorem lz.tick(h:lz n Z w bot K)(b c d e a:Int):lz n Z w bot {K with entries:=b,at_:=c,w:=d,draw:=e,clock:={K.clock with now:=a}}:=
 ⟨h.mem,h.blocks,by show({K.clock with now:=a}:aN)=_;rw[h.b2],h.q,h.table,h.cT,h.ai,h.out,h.len⟩
theorem lz.took(h:lz n Z w bot K)(d t:Int)(f:cP):lz n Z w bot (di K j d t f):=⟨h.mem,h.blocks,h.b2,h.q,h.table,h.cT,h.ai,h.out,by show(K.wk.set j _).length=n;rw[List.length_set,h.len]⟩
theorem tC{ρ a:Nat->eI}:∀m,(∀k,k<m->ρ k=a k)->dp C n Z ρ m=dp C n Z a m
 |0,_=>rfl
 |m+1,h=>by
  unfold dp;rw[tC m (fun k b=>h k (Nat.lt_succ_of_lt b)),h m (Nat.lt_succ_self m)]
theorem tD{ρ:Nat->eI}:∀(f m k:Nat),k<f->(pq C n eB ρ f m (dp C n Z ρ m)).1[k]?=some (DQ C n eB (dp C n Z ρ (m+k)) (ρ (m+k)))
 |0,_,_,h=>absurd h (Nat.not_lt_zero _)
 |f+1,m,0,_=>rfl
 |f+1,m,k+1,h=>by
  show(pq C n eB ρ f (m+1) (dp C n Z ρ (m+1))).1[k]?=_
  rw[tD f (m+1) k (Nat.lt_of_succ_lt_succ h),show m+1+k=m+(k+1)from by omega]
theorem tE{ρ:Nat->eI}:∀(f m:Nat),(pq C n eB ρ f m (dp C n Z ρ m)).2=dp C n Z ρ (m+f)
 |0,_=>rfl
 |f+1,m=>by
  show(pq C n eB ρ f (m+1) (dp C n Z ρ (m+1))).2=_
  rw[tE f (m+1),show m+1+f=m+(f+1)from by omega]
theorem tF{ρ:Nat->eI}:∀(l:List (Int×Nat×List (Int×Int×Int))) (m k:Nat),(y8 n ρ m l)[k]?=(l[k]?).map fun x=>DR n x.1 x.2.1 x.2.2 (ρ (m+k))
 |[],_,_=>rfl
 |x::l,m,0=>rfl
 |x::l,m,k+1=>by
  show(y8 n ρ (m+1) l)[k]?=(l[k]?).map _
  rw[tF l (m+1) k,show m+1+k=m+(k+1)from by omega]
theorem vD{S:Nat}{ks:List (Int×Nat×List (Int×Int×Int))}(h:(fun ρ=>(pq C n eB ρ S 0 ⟨Z,0,1⟩).1)=fun ρ=>y8 n ρ 0 ks)(ρ:Nat->eI)(c:m<S){x:Int×Nat×List (Int×Int×Int)}(d:ks[m]?=some x):
 DQ C n eB (dp C n Z ρ m) (ρ m)=DR n x.1 x.2.1 x.2.2 (ρ m):=by
 have b:(pq C n eB ρ S 0 ⟨Z,0,1⟩).1=y8 n ρ 0 ks:=congrFun h ρ;have a:=tD (C:=C) (n:=n) (eB:=eB) (Z:=Z) (ρ:=ρ) S 0 m c;rw[show pq C n eB ρ S 0 (dp C n Z ρ 0)=pq C n eB ρ S 0 ⟨Z,0,1⟩from rfl,b,tF,d,Nat.zero_add]at a;exact(Option.some.inj a).symm
def lB(ρ:Nat->eI)(m:Nat)(e:eI):Nat->eI:=fun k=>if k=m then e else ρ k
theorem vE{ρ:Nat->eI}{i:Nat}{x:Int×Nat×List (Int×Int×Int)}(N:∀ρ,DQ C n eB (dp C n Z ρ m) (ρ m)=DR n x.1 x.2.1 x.2.2 (ρ m))
 (I:nc n (dp C n Z ρ m).run.1=true) (b:lz n (dp C n Z ρ m).run.1 w bot K) (T:K.ring=[]) (O:i<n) {c:Bool} {f:cP} (B:K.W i=⟨64,0,c,(dp C n Z ρ m).run.2,f⟩) (d:Int):
 ∃p,(∀k,k<m->p k=ρ k)/\lz n (dp C n Z p (m+1)).Z (if x.2.1=1 then tV 64 w 1 else w) bot (ht C K 1 i d).2/\(ht C K 1 i d).2.ring=(if x.2.1=1 then [64]else [])/\
  (ht C K 1 i d).2.wk=K.wk.set i (if x.2.1=0 then⟨64,0,c,x.1,f⟩else⟨0,0,c,x.1,{f with pc:=90,back:=[]}⟩)/\(dp C n Z p (m+1)).k=x.2.1/\(dp C n Z p (m+1)).left=x.1/\
  (ht C K 1 i d).1.map rs=x.2.2/\nc n (dp C n Z p (m+1)).Z=true:=by
 obtain⟨a1,a2,a3,a4⟩:=fT I;let e:eI:=⟨w,bot,f,c,K.clock.now,K.entries,K.at_,K.w,d⟩
 have G:∀k,k<m->lB ρ m e k=ρ k:=fun k E=>by unfold lB;rw[if_neg (by omega)]
 have A:dp C n Z (lB ρ m e) m=dp C n Z ρ m:=tC m G;have D:lB ρ m e m=e:=by unfold lB;rw[if_pos rfl]
 have g:=N (lB ρ m e);rw[D,A]at g;have F:dp C n Z (lB ρ m e) (m+1)=kv C n (dp C n Z ρ m) e:=by
  show kv C n (dp C n Z (lB ρ m e) m) (lB ρ m e m)=_
  rw[A,D]
 obtain⟨S,L⟩:=nm (dp C n Z ρ m);rw[L]at I b B g F a1 a2 a3 a4;have hlen:K.wk.length=n:=b.len;have a5:0<n:=by omega
 have P:K.wk.length=(List.replicate (n-1) (default:aC)).length+1:=by rw[List.length_replicate];omega
 have V:K.wk=K.wk.set i (⟨64,0,c,S.run.2,f⟩:aC):=by
  rw[<-B];unfold KS.W;rw[List.getD_eq_getElem?_getD,List.getElem?_eq_getElem (by omega)];exact(List.set_getElem_self (by omega)).symm
 have J:Rl i K.wk (List.replicate (n-1) default) K (Dl n S.run.1 S.run.2 e):=⟨b.mem,b.blocks,b.b2,T,b.q,b.table,b.cT,b.ai,⟨⟨64,0,c,S.run.2,f⟩,V,rfl⟩,⟨rfl,rfl⟩,by rw[b.out];rfl⟩;have r:=congrArg vi.ok g;have r:(mG C (Dl n S.run.1 S.run.2 e) 64&&nc n (gG n (Bn C n S e).2)&&yP eB S.Z&&yP eB S.run.1)=true:=r;simp only[Bool.and_eq_true]at r;obtain⟨⟨⟨R,u⟩,-⟩,-⟩:=r;obtain⟨s,a⟩:=J.Gl (C:=C) (by rw[hlen];exact O) P (by show(64:Int)≠0;decide) R d;have M:ht C (Dl n S.run.1 S.run.2 e) 1 0 d=Bn C n S e:=rfl;rw[M]at s a;obtain⟨Y,h⟩:=nm (Bn C n S e);have X:Y.2.mem.cells.getD 0 0=if x.2.1=1 then tV 64 w 1 else w:=by rw[<-h];exact congrArg vi.w g
 have hb:∀j,j<n->Y.2.mem.cells.getD (18+3*j) 0=bot j:=fun j t=>by
  have:=congrArg (fun o=>o.Ff[j]?) g;have this:((List.range n).map (fun k=>(Bn C n S e).2.mem.cells.getD (18+3*k) 0))[j]?=((List.range n).map bot)[j]?:=this;rw[List.getElem?_map,List.getElem?_map,List.getElem?_range t,h]at this;exact Option.some.inj this
 have H:Y.2.wk=(if x.2.1=0 then⟨64,0,c,x.1,f⟩else⟨0,0,c,x.1,{f with pc:=90,back:=[]}⟩)::List.replicate (n-1) default:=by rw[<-h];exact congrArg vi.wk g
 have U:Y.2.ring=if x.2.1=1 then [64]else []:=by rw[<-h];exact congrArg vi.ring g
 have E:mZ Y.2=x.2.1:=by rw[<-h];exact congrArg vi.k g
 have W:Y.1.map rs=x.2.2:=by rw[<-h];exact congrArg vi.sig g
 rw[h]at s a u;have Q:kv C n S e=⟨gG n Y.2,(Y.2.W 0).left,mZ Y.2⟩:=by unfold kv;rw[h]
 obtain⟨a9,v,ab,ad⟩:=fT u;have v:17+3*n<=Y.2.mem.cells.length:=by
  have:17+3*n<=(lay 0 (fun _=>0) Y.2.mem.cells n).length:=v;rw[b7]at this;exact this
 obtain⟨y,z,q⟩:=a.wk;have a0:y=(if x.2.1=0 then⟨64,0,c,x.1,f⟩else⟨0,0,c,x.1,{f with pc:=90,back:=[]}⟩):=by
  rw[H]at q;injection q with q _
  exact q.symm
 refine⟨lB ρ m e,G,?_⟩;rw[F,Q];refine⟨⟨?_,a.blocks,?_,a.q,a.table,a.cT,a.ai,rfl,by rw[z,List.length_set,hlen]⟩,by rw[a.ring,U],by rw[z,a0],E,?_,?_,u⟩
 ·rw[a.mem]
  show Y.2.mem=⟨lay _ bot (lay 0 (fun _=>0) Y.2.mem.cells n) n,Y.2.mem.width⟩
  rw[<-X,nr n (fun j t=>(hb j t).symm),vC v]
 ·rw[a.clock]
  rfl
 ·show(Y.2.W 0).left=x.1
  unfold KS.W;rw[H];show aC.left (if x.2.1=0 then _ else _)=x.1
  split<;>rfl
 ·rw[<-W]
  have:∀l:List Ev,l.map rs=(l.map tQ).map rs:=fun l=>by rw[List.map_map];rfl
  rw[this,s,<-this]
end
end
section
variable{i j r:Nat}{p:Int}
section
variable{C:KC}{K:KS}
theorem zD(b:i<K.wk.length)(o:(K.W i).slot=0)(h:K.out=[])(d:Int)(a:(K.W i).f.pc=p)(c:0<=p/\p<C.dH.length)(g:bC (fB C.dH p) C.dH.length=true)(f:(fB C.dH p).m=0)
 (k:(fB C.dH p).op=14) (l:(K.W i).f.r (fB C.dH p).a.toNat≠0):ht C K 1 i d=([],bb K i d {(K.W i).f with pc:=wrap64 (fB C.dH p).v} false K.mem):=by
 refine eG b o h d (by rw[a];exact f) ?_;unfold bM;rw[if_neg (by omega),a,fO c];dsimp only;rw[if_neg (by rw[g];decide),if_pos (by omega)];unfold dG;rw[if_neg (by omega),if_neg (by omega),if_neg (by omega),k];have e:((K.W i).f.r (fB C.dH p).a.toNat==0)=false:=by simpa using l
 rw[e];rfl
def mi(K:KS)(i:Nat)(d t:Int)(f:cP):KS:={aP K i d with table:=(j4 K.table t 2).2,wk:=K.wk.set i ⟨t,0,false,24,f⟩}
theorem zE(a:i<K.wk.length)(l:(K.W i).slot=0)(g:K.out=[])(d:Int){t:Int}(c:(K.W i).hand=t)(D:t≠0)(b:(K.W i).f.pc=p)(y:0<=p/\p<C.dH.length)
 (A:bC (fB C.dH p) C.dH.length=true) (z:(fB C.dH p).m=0) (h:(fB C.dH p).op=35) (k:(K.W i).f.r (fB C.dH p).a.toNat=t):
 ht C K 1 i d=([],mi K i d t {(K.W i).f with pc:=wrap64 (p+1)}):=by
 have B:bM aI.acc C.dH (K.W i).f K.mem=(1,(K.W i).f,K.mem):=by
  unfold bM;rw[if_neg (by omega),b,fO y];dsimp only;rw[if_neg (by rw[A];decide),if_neg (by omega),if_neg (by omega),if_neg (by omega)]
 obtain⟨x,o⟩:=nm (fB C.dH p);have q:∀f,(mi K i d t f).W i=⟨t,0,false,24,f⟩:=fun f=>jK (K:=K) a _
 have v:az C (gO (aP K i d) i (K.W i).f K.mem) i none (.own i) (fB C.dH (K.W i).f.pc)=(0,mi K i d t (K.W i).f):=by
  rw[b,o,jS];rw[o]at h k;unfold az;rw[if_neg (by omega),if_neg (by omega),if_neg (by omega),if_pos (by omega)];unfold b0;dsimp only;rw[if_neg (by omega),if_neg (by omega),if_neg (by omega),if_pos h,kh a,gW a];dsimp only;rw[if_pos ⟨by rw[c];exact D,by rw[k,c],l⟩,c];have e:(bb K i d (K.W i).f false K.mem).bj i ⟨t,0,false,24,(K.W i).f⟩={aP K i d with wk:=K.wk.set i ⟨t,0,false,24,(K.W i).f⟩}:=by
   unfold KS.bj bb;dsimp only;rw[List.set_set];rfl
  rw[e];have s:({aP K i d with wk:=K.wk.set i ⟨t,0,false,24,(K.W i).f⟩}:KS).W i=⟨t,0,false,24,(K.W i).f⟩:=jK (K:=K) a _;rw[s];rfl
 rw[gP a l d (by rw[b];exact z) B v];have u:(mi K i d t (K.W i).f).fA (.own i)=mi K i d t {(K.W i).f with pc:=wrap64 (p+1)}:=by
  unfold KS.fA;rw[show(mi K i d t (K.W i).f).F (.own i)=(K.W i).f from by show(KS.W _ i).f=_;rw[q],b];show KS.bj _ i _=_
  rw[q];unfold KS.bj mi;dsimp only;rw[List.set_set]
 rw[u];have:(mi K i d t {(K.W i).f with pc:=wrap64 (p+1)}).out=[]:=g;rw[this];unfold mi aP;rw[g]
theorem vF(a:K.out=[]):∃e:Ev,e.kind=6/\ht C K 2 0 0=([e],{K with entries:=wrap64 (K.entries+1),at_:=K.entries,w:=-1,draw:=0,clock:={K.clock with now:=IntKind.u64.wrap (K.clock.now+1)}}):=by
 obtain⟨m,b,⟨nw,⟨f,d,g⟩,c⟩,rg,q,tb,h,k,wk,en,at_,w,dr,out⟩:=K;dsimp only at a;subst a;exact⟨_,rfl,rfl⟩
theorem zF(h:i≠j)(x:aC):({K with wk:=K.wk.set i x}:KS).W j=K.W j:=by
 unfold KS.W;rw[List.getD_eq_getElem?_getD,List.getElem?_set_ne h,<-List.getD_eq_getElem?_getD]
abbrev UKinds:=List (Int×Nat×List (Int×Int×Int))
structure pC(C:KC)(n:Nat)(eB:gF->Bool)(Z:gF)(ks:UKinds):Prop where
 n1:1<=n
 n4:n<=4
 hZ:qd C.dH n 90 121 (uStart 90)=true
 hR:rch C.dH n 90 120 (uStart 90)=true
 ch:∀ρ m x,ks[m]?=some x->DQ C n eB (dp C n Z ρ m) (ρ m)=DR n x.1 x.2.1 x.2.2 (ρ m)
 z0:nc n Z=true
 k2:∀m x,ks[m]?=some x->(m+1=ks.length/\x.2.1=2)∨(m+1<ks.length/\x.2.1<=1)
 len:ks.length<=1000000
def qe(C:KC)(n:Nat)(w:Int)(bot:Nat->Int)(K:KS)(r:Nat)(j:Nat):Prop:=
 (K.W j).slot=0/\(K.W j).hand=0/\r<=120/\qN C.dH n j 90 w K.ring r (K.W j).f (bot j)
def ey(l:UKinds):Nat:=l.length+124*l.countP (fun x=>x.2.1==1)
structure vT(C:KC)(n:Nat)(Z:gF)(ks:UKinds)(ρ:Nat->eI)(m:Nat)(w:Int)(bot:Nat->Int)(tr:List (Int×Int×Int))(Zn:gF)(K:KS):Prop where
 at_:lz n Zn w bot K
 bot:∀j,j<n->bot j=0∨bot j=1
 zn:nc n Zn=true
 z:nc n (dp C n Z ρ m).Z=true
 w0:0<=w/\w<=m
 tr:tr=(ks.take m).flatMap (fun x=>x.2.2.filter fun s=>s.1 !=6)
def Fg(C:KC)(n:Nat)(Z:gF)(ks:UKinds)(tr:List (Int×Int×Int))(P key:Nat)(K:KS):Prop:=
 ∃ρ m w bot r,vT C n Z ks ρ m w bot tr (dp C n Z ρ m).Z K/\m<ks.length/\(dp C n Z ρ m).k=1/\K.ring=[64]/\(∀j,j<n->∃r,qe C n w bot K r j)/\qe C n w bot K r 0/\P=ey (ks.drop m)+3+r/\key=0
def Fh(C:KC)(n:Nat)(Z:gF)(ks:UKinds)(tr:List (Int×Int×Int))(P key:Nat)(K:KS):Prop:=
 ∃ρ m w bot s,vT C n Z ks ρ m w bot tr (dp C n Z ρ m).Z K/\m<ks.length/\(dp C n Z ρ m).k=1/\K.ring=[]/\key<n/\(∀j,j<n->j≠key->∃r,qe C n w bot K r j)/\
  (K.W key).slot=0/\(K.W key).hand=64/\Gj C.dH 64 s (K.W key).f/\(K.W key).f.r 0<=w/\bot key=1/\P=ey (ks.drop m)+1+s
def Fu(C:KC)(n:Nat)(Z:gF)(ks:UKinds)(tr:List (Int×Int×Int))(P key:Nat)(K:KS):Prop:=
 ∃ρ m w bot a f,vT C n Z ks ρ m w bot tr (dp C n Z ρ m).run.1 K/\m<ks.length/\K.ring=[]/\key<n/\(∀j,j<n->j≠key->∃r,qe C n w bot K r j)/\
  K.W key=⟨64,0,a,(dp C n Z ρ m).run.2,f⟩/\f.r 0<=w/\bot key=1/\P=ey (ks.drop m)
def ru(C:KC)(n:Nat)(Z:gF)(ks:UKinds)(tr:List (Int×Int×Int))(K:KS):Prop:=
 ∃ρ w bot,vT C n Z ks ρ ks.length w bot tr (dp C n Z ρ ks.length).Z K/\K.ring=[]/\∀j,j<n->∃r,qe C n w bot K r j
def Sys(C:KC)(n:Nat)(Z:gF)(ks:UKinds)(tr:List (Int×Int×Int))(P key:Nat)(K:KS):Prop:=Fg C n Z ks tr P key K∨Fh C n Z ks tr P key K∨Fu C n Z ks tr P key K
section
variable{n:Nat}{eB:gF->Bool}{Z:gF}{ks:UKinds}{ρ:Nat->eI}{m:Nat}{w:Int}{bot:Nat->Int}{tr:List (Int×Int×Int)}{Zn:gF}{P key:Nat}
theorem hE(hF:pC C n eB Z ks)(a:vT C n Z ks ρ m w bot tr Zn K)(g:j<n)(t:qe C n w bot K r j)(y:(fB C.dH (K.W j).f.pc).op=34->K.ring=[])(d:Int):
 ∃bot',(ht C K 1 j d).1=[]/\vT C n Z ks ρ m w bot' tr Zn (ht C K 1 j d).2/\(ht C K 1 j d).2.ring=K.ring/\(∀k,k≠j->(ht C K 1 j d).2.W k=K.W k/\bot' k=bot k)/\∃r',qe C n w bot' (ht C K 1 j d).2 r' j/\(K.ring≠[]->r'<r):=by
 obtain⟨l,o,q,s⟩:=t;obtain⟨f',b,h,r',c,B,A,hle,hb⟩:=By hF.hZ a.at_.len hF.n4 g l o a.at_.out (a.at_.env a.zn a.bot) s y q d;have z:j<K.wk.length:=by rw[a.at_.len];exact g
 refine⟨fun x=>if x=j then b else bot x,by rw[c],?_,by rw[c];rfl,fun k e=>⟨by rw[c];exact zF (Ne.symm e) _,if_neg e⟩,r',?_,A⟩
 ·rw[c]
  refine⟨a.at_.own a.zn g d f' h b,fun k e=> ?_,a.zn,a.z,a.w0,a.tr⟩;split
  ·exact hb
  ·exact a.bot k e
 ·rw[c]
  have u:(bb K j d f' h (jL K.mem j b)).W j={K.W j with parked:=h,f:=f'}:=gW z;have v:(fun x=>if x=j then b else bot x) j=b:=if_pos rfl;unfold qe;rw[u,v];exact⟨l,o,hle,B⟩
theorem qe.other{K':KS}{w':Int}{bot':Nat->Int}(h:qe C n w bot K r j)(e:K'.W j=K.W j)(hb:bot' j=bot j)(g:w<=w')(f:K'.ring=[]∨K'.ring=K.ring∨w<w'):qe C n w' bot' K' r j:=by
 obtain⟨a,b,c,d⟩:=h;unfold qe;rw[e,hb];exact⟨a,b,c,d.env g f⟩
theorem vT.tick(h:vT C n Z ks ρ m w bot tr Zn K):∃e:Ev,e.kind=6/\(ht C K 2 0 0).1=[e]/\vT C n Z ks ρ m w bot tr Zn (ht C K 2 0 0).2/\(ht C K 2 0 0).2.ring=K.ring/\∀k,(ht C K 2 0 0).2.W k=K.W k:=by
 obtain⟨e,a,b⟩:=vF (C:=C) h.at_.out;rw[b];exact⟨e,a,rfl,⟨h.at_.tick _ _ _ _ _,h.bot,h.zn,h.z,h.w0,h.tr⟩,rfl,fun k=>rfl⟩
def bd(l:List Ev):List (Int×Int×Int):=(l.map rs).filter fun s=>s.1 !=6
theorem Sys.tick(h:Sys C n Z ks tr P key K):bd (ht C K 2 0 0).1=[]/\Sys C n Z ks tr P key (ht C K 2 0 0).2:=by
 have v:∀e:Ev,e.kind=6->bd [e]=[]:=fun e A=>by show [(e.kind,e.num,e.code)].filter _=[];rw[A];rfl
 rcases h with⟨ρ,m,w,bot,r,o,a,b,c,d,g,k,l⟩|⟨ρ,m,w,bot,s,o,a,b,c,d,g,k,l,t,z,x,y⟩|⟨ρ,m,w,bot,B,f,o,a,b,c,d,g,k,l,t⟩
 ·obtain⟨e,t1,t2,t3,t4,t5⟩:=o.tick
  exact⟨by rw[t2];exact v e t1,Or.inl ⟨ρ,m,w,bot,r,t3,a,b,by rw[t4];exact c,fun j q=>(d j q).imp fun r h=>h.other (t5 j) rfl (Int.le_refl _) (Or.inr (Or.inl t4)),g.other (t5 0) rfl (Int.le_refl _) (Or.inr (Or.inl t4)),k,l⟩⟩
 ·obtain⟨e,t1,t2,t3,t4,t5⟩:=o.tick
  exact⟨by rw[t2];exact v e t1,Or.inr (Or.inl ⟨ρ,m,w,bot,s,t3,a,b,by rw[t4];exact c,d,fun j q u=>(g j q u).imp fun r h=>h.other (t5 j) rfl (Int.le_refl _) (Or.inr (Or.inl t4)),by rw[t5];exact k,by rw[t5];exact l,by rw[t5];exact t,by rw[t5];exact z,x,y⟩)⟩
 ·obtain⟨e,t1,t2,t3,t4,t5⟩:=o.tick
  exact⟨by rw[t2];exact v e t1,Or.inr (Or.inr ⟨ρ,m,w,bot,B,f,t3,a,by rw[t4];exact b,c,fun j q u=>(d j q u).imp fun r h=>h.other (t5 j) rfl (Int.le_refl _) (Or.inr (Or.inl t4)),by rw[t5];exact g,k,l,t⟩)⟩
theorem ru.tick(h:ru C n Z ks tr K):bd (ht C K 2 0 0).1=[]/\ru C n Z ks tr (ht C K 2 0 0).2:=by
 obtain⟨ρ,w,bot,c,a,b⟩:=h;obtain⟨e,t1,t2,t3,t4,t5⟩:=c.tick;exact⟨by rw[t2];show [(e.kind,e.num,e.code)].filter _=[];rw[t1];rfl,ρ,w,bot,t3,by rw[t4];exact a,fun j d=>(b j d).imp fun r h=>h.other (t5 j) rfl (Int.le_refl _) (Or.inr (Or.inl t4))⟩
theorem ru.pick(hF:pC C n eB Z ks)(h:ru C n Z ks tr K)(g:j<n)(d:Int):bd (ht C K 1 j d).1=[]/\ru C n Z ks tr (ht C K 1 j d).2:=by
 obtain⟨ρ,w,bot,s,c,f⟩:=h;obtain⟨r,u⟩:=f j g;obtain⟨bot',l,o,a,b,r',q,v⟩:=hE hF s g u (fun _=>c) d;refine⟨by rw[l];rfl,ρ,w,bot',o,by rw[a];exact c,fun k t=> ?_⟩;by_cases e:k=j
 ·rw[e];exact⟨r',q⟩
 ·exact(f k t).imp fun r h=>h.other (b k e).1 (b k e).2 (Int.le_refl _) (Or.inr (Or.inl a))
end
end
end
section
variable{j:Nat}
section
variable{C:KC}{K:KS}{n:Nat}{eB:gF->Bool}{Z:gF}{ks:UKinds}{ρ:Nat->eI}{m:Nat}{w:Int}{bot:Nat->Int}{tr:List (Int×Int×Int)}{Zn:gF}{P key:Nat}
theorem zG(S:r0):nc n S.run.1=nc n S.Z:=by
 unfold r0.run
 split<;>rfl
theorem tH{code:List be}{q:Int}(h:kt code q=true):∃y z,fB code (wrap64 (q+1))=y/\fB code (wrap64 y.v)=z/\y.op=14/\y.a=16/\y.m=0/\z.op=35/\z.a=16/\z.m=0/\(0<=wrap64 (q+1)/\wrap64 (q+1)<code.length)/\(0<=wrap64 y.v/\wrap64 y.v<code.length)/\bC y code.length=true/\bC z code.length=true:=by
 unfold kt at h;dsimp only at h;simp only[Bool.and_eq_true,beq_iff_eq,decide_eq_true_eq]at h;obtain⟨⟨⟨⟨⟨⟨⟨⟨⟨l,c⟩,d⟩,e⟩,f⟩,g⟩,i⟩,a⟩,k⟩,b⟩:=h;exact⟨_,_,rfl,rfl,c,d,e,f,g,i,⟨a.1,a.2.1⟩,⟨a.2.2.1,a.2.2.2⟩,k,b⟩
theorem lz.Fz(h:lz n Zn w bot K)(d:Int)(f:cP)(b:Bool):lz n Zn w bot (bb K j d f b K.mem):=
 ⟨h.mem,h.blocks,h.b2,h.q,h.table,h.cT,h.ai,h.out,by show(K.wk.set j _).length=n;rw[List.length_set,h.len]⟩
theorem tS{x:Int×Nat×List (Int×Int×Int)}(b:ks[m]?=some x):ey (ks.drop m)=ey (ks.drop (m+1))+1+(if x.2.1=1 then 124 else 0):=by
 obtain⟨a,e⟩:=List.getElem?_eq_some_iff.1 b;rw[List.drop_eq_getElem_cons a,e];unfold ey;rw[List.length_cons,List.countP_cons];by_cases h:x.2.1=1
 ·rw[if_pos h,if_pos (by rw[h];rfl)];omega
 ·rw[if_neg h,if_neg (by simpa using h)];omega
theorem tT{x:Int×Nat×List (Int×Int×Int)}(a:ks[m]?=some x)(g:(Int×Nat×List (Int×Int×Int))->List (Int×Int×Int)):(ks.take (m+1)).flatMap g=(ks.take m).flatMap g++g x:=by
 rw[List.take_succ,a,List.flatMap_append];show _++(g x++[])=_
 rw[List.append_nil]
def BE(C:KC)(n:Nat)(Z:gF)(ks:UKinds)(tr:List (Int×Int×Int))(P key:Nat)(r:List Ev×KS)(other:Prop):Prop:=
 (bd r.1=[]/\Sys C n Z ks tr P key r.2/\other)∨(∃a b,a<P/\Sys C n Z ks (tr++bd r.1) a b r.2)∨ru C n Z ks (tr++bd r.1) r.2
theorem Fg.pick(hF:pC C n eB Z ks)(h:Fg C n Z ks tr P key K)(g:j<n)(d:Int):BE C n Z ks tr P key (ht C K 1 j d) (j≠key):=by
 obtain⟨ρ,m,w,bot,r,a,v,x,q,l,B,rfl,rfl⟩:=h;have G:j<K.wk.length:=by rw[a.at_.len];exact g
 by_cases y:(fB C.dH (K.W j).f.pc).op=34
 ·obtain⟨M,A,D,N,E⟩:=l j g
  obtain⟨f',F,L,hle,hb⟩:=tP a.at_.len g A D a.at_.out q E y d;have s:(di K j d 64 f').W j={K.W j with parked:=false,hand:=64,f:=f'}:=jK (K:=K) G _;refine Or.inr (Or.inl ⟨ey (ks.drop m)+1+1,j,by omega,Or.inr (Or.inl ?_)⟩);rw[F];refine⟨ρ,m,w,bot,1,⟨a.at_.took d 64 f',a.bot,a.zn,a.z,a.w0,by rw[a.tr];exact List.append_nil _⟩,v,x,rfl,g,fun k o H=> ?_,by rw[s];exact A,by rw[s],by rw[s];exact L,by rw[s];exact hle,hb,rfl⟩;exact(l k o).imp fun r h=>h.other (zF (Ne.symm H) _) rfl (Int.le_refl _) (Or.inl rfl)
 ·have I:K.ring≠[]:=by rw[q];exact List.cons_ne_nil _ _
  by_cases t:j=0
  ·subst t
   obtain⟨bot',u,b,i,c,r',p,z⟩:=hE hF a g B (fun e=>absurd e y) d;refine Or.inr (Or.inl ⟨ey (ks.drop m)+3+r',0,by have:=z I;omega,Or.inl ?_⟩);refine⟨ρ,m,w,bot',r',by rw[u];exact⟨b.at_,b.bot,b.zn,b.z,b.w0,by rw[b.tr];exact List.append_nil _⟩,v,x,by rw[i];exact q,fun k o=> ?_,p,rfl,rfl⟩;by_cases e:k=0
   ·rw[e];exact⟨r',p⟩
   ·exact(l k o).imp fun r h=>h.other (c k e).1 (c k e).2 (Int.le_refl _) (Or.inr (Or.inl i))
  ·obtain⟨M,J⟩:=l j g
   obtain⟨bot',u,b,i,c,r',p,z⟩:=hE hF a g J (fun e=>absurd e y) d;refine Or.inl ⟨by rw[u];rfl,Or.inl ⟨ρ,m,w,bot',r,b,v,x,by rw[i];exact q,fun k o=> ?_,B.other (c 0 (Ne.symm t)).1 (c 0 (Ne.symm t)).2 (Int.le_refl _) (Or.inr (Or.inl i)),rfl,rfl⟩,t⟩;by_cases e:k=j
   ·rw[e];exact⟨r',p⟩
   ·exact(l k o).imp fun r h=>h.other (c k e).1 (c k e).2 (Int.le_refl _) (Or.inr (Or.inl i))
theorem Fh.pick(hF:pC C n eB Z ks)(h:Fh C n Z ks tr P key K)(l:j<n)(d:Int):BE C n Z ks tr P key (ht C K 1 j d) (j≠key):=by
 obtain⟨ρ,m,w,bot,s,a,E,G,t,a2,u,v,H,L,I,F,rfl⟩:=h;have B:j<K.wk.length:=by rw[a.at_.len];exact l
 by_cases A:j=key
 ·subst A
  obtain⟨t1,⟨rfl,q,t2,t3⟩|⟨rfl,q,t2,t3⟩⟩:=L
  ·obtain⟨y,z,c,i,N,O,Q,T,U,V,R,W,S,X⟩:=tH t3
   have x:=zD (C:=C) B v a.at_.out d t2 R (by rw[c];exact S) (by rw[c];exact Q) (by rw[c];exact N) (by rw[c,O];show(K.W j).f.r 16≠0;rw[t1];decide);rw[c]at x;refine Or.inr (Or.inl ⟨ey (ks.drop m)+1+0,j,by omega,Or.inr (Or.inl ?_)⟩);have g:(bb K j d {(K.W j).f with pc:=wrap64 y.v} false K.mem).W j={K.W j with parked:=false,f:={(K.W j).f with pc:=wrap64 y.v}}:=gW B;rw[x];refine⟨ρ,m,w,bot,0,⟨a.at_.Fz d _ _,a.bot,a.zn,a.z,a.w0,by rw[a.tr];exact List.append_nil _⟩,E,G,t,l,fun k o p=> ?_,by rw[g];exact v,by rw[g];exact H,?_,by rw[g];exact I,F,rfl⟩
   ·exact(u k o p).imp fun r h=>h.other (zF (Ne.symm p) _) rfl (Int.le_refl _) (Or.inr (Or.inl rfl))
   ·rw[g]
    exact⟨t1,Or.inr ⟨rfl,q,by rw[c],t3⟩⟩
  ·obtain⟨y,z,c,i,N,O,Q,T,U,V,R,W,S,X⟩:=tH t3
   rw[c]at t2;have x:=zE (C:=C) B v a.at_.out d H (by decide) t2 W (by rw[i];exact X) (by rw[i];exact V) (by rw[i];exact T) (by rw[i,U];exact t1);refine Or.inr (Or.inl ⟨ey (ks.drop m),j,by omega,Or.inr (Or.inr ?_)⟩);have g:(mi K j d 64 {(K.W j).f with pc:=wrap64 (wrap64 y.v+1)}).W j=⟨64,0,false,24,{(K.W j).f with pc:=wrap64 (wrap64 y.v+1)}⟩:=jK (K:=K) B _;have M:(dp C n Z ρ m).run=({(dp C n Z ρ m).Z with table:=(j4 (dp C n Z ρ m).Z.table 64 2).2},24):=(by unfold r0.run;rw[if_pos G]);rw[x];refine⟨ρ,m,w,bot,false,{(K.W j).f with pc:=wrap64 (wrap64 y.v+1)},⟨?_,a.bot,by rw[zG];exact a.z,a.z,a.w0,by rw[a.tr];exact List.append_nil _⟩,E,t,l,fun k o p=> ?_,by rw[g,M],I,F,rfl⟩
   ·rw[M]
    have b:=a.at_;exact⟨b.mem,b.blocks,b.b2,b.q,by show(j4 K.table 64 2).2=_;rw[b.table],b.cT,b.ai,b.out,by show(K.wk.set j _).length=n;rw[List.length_set,b.len]⟩
   ·exact(u k o p).imp fun r h=>h.other (zF (Ne.symm p) _) rfl (Int.le_refl _) (Or.inr (Or.inl rfl))
 ·obtain⟨a9,a4⟩:=u j l A
  obtain⟨bot',Y,a0,J,D,r',a1,a5⟩:=hE hF a l a4 (fun _=>t) d;obtain⟨k1,k2⟩:=D key (Ne.symm A);refine Or.inl ⟨by rw[Y];rfl,Or.inr (Or.inl ⟨ρ,m,w,bot',s,a0,E,G,by rw[J];exact t,a2,fun k o a3=> ?_,by rw[k1];exact v,by rw[k1];exact H,by rw[k1];exact L,by rw[k1];exact I,by rw[k2];exact F,rfl⟩),A⟩;by_cases e:k=j
  ·rw[e];exact⟨r',a1⟩
  ·exact(u k o a3).imp fun r h=>h.other (D k e).1 (D k e).2 (Int.le_refl _) (Or.inr (Or.inl J))
theorem AQ{w:Int}(a:0<=w)(b:w<=1000000):tV 64 w 1=w+1:=by
 unfold tV hk IntKind.wrap IntKind.bits IntKind.signed;simp
 omega
theorem Fu.pick(hF:pC C n eB Z ks)(h:Fu C n Z ks tr P key K)(p:j<n)(d:Int):BE C n Z ks tr P key (ht C K 1 j d) (j≠key):=by
 obtain⟨ρ,m,w,bot,z,f,a,L,D,a0,o,M,E,t,rfl⟩:=h;have a2:j<K.wk.length:=by rw[a.at_.len];exact p
 by_cases u:j=key
 ·subst u
  obtain⟨x,y⟩:∃x,ks[m]?=some x:=⟨_,List.getElem?_eq_getElem L⟩;obtain⟨q,-,g,c,I,A,ad,V,i⟩:=vE (fun ρ=>hF.ch ρ m x y) a.zn a.at_ D p M d;have T:=tS y;have hle:=hF.len;have v:(ks.take m).flatMap (fun x=>x.2.2.filter fun s=>s.1 !=6)++bd (ht C K 1 j d).1=(ks.take (m+1)).flatMap (fun x=>x.2.2.filter fun s=>s.1 !=6):=by
   rw[tT y];unfold bd;rw[V]
  obtain⟨R,a1⟩:=nm (ht C K 1 j d);rw[a1]at g c I V v⊢;have G:∀k,k≠j->R.2.W k=K.W k:=fun k b=>by
   unfold KS.W;rw[I,List.getD_eq_getElem?_getD,List.getElem?_set_ne (Ne.symm b),<-List.getD_eq_getElem?_getD]
  have l:R.2.W j=(if x.2.1=0 then⟨64,0,z,x.1,f⟩else⟨0,0,z,x.1,{f with pc:=90,back:=[]}⟩:aC):=by
   unfold KS.W;rw[I,List.getD_eq_getElem?_getD,List.getElem?_set_self a2];rfl
  rcases hF.k2 m x y with⟨F,a4⟩|⟨O,am⟩
  ·refine Or.inr (Or.inr ?_)
   rw[a4]at g c l;rw[a.tr,v,F];rw[F]at g i;refine⟨q,w,bot,⟨g,a.bot,i,i,⟨a.w0.1,by have:=a.w0.2;omega⟩,by rw[<-F]⟩,c,fun k b=> ?_⟩;by_cases e:k=j
   ·subst e
    refine⟨120,?_⟩;unfold qe;rw[l,t];exact⟨rfl,rfl,Nat.le_refl _,qN.start hF.hR hF.hZ rfl rfl E⟩
   ·exact(o k b e).imp fun r h=>h.other (G k e) rfl (Int.le_refl _) (Or.inl c)
  ·have a3:x.2.1=0∨x.2.1=1:=by omega
   rcases a3 with b|b
   ·rw[b]at g c A l
    have H:(dp C n Z q (m+1)).run=((dp C n Z q (m+1)).Z,x.1):=by
     unfold r0.run;rw[if_neg (by rw[A];decide),ad]
    rw[if_neg (by rw[b];decide)]at T;refine Or.inr (Or.inl ⟨ey (ks.drop (m+1)),j,by omega,Or.inr (Or.inr ?_)⟩);rw[a.tr,v];refine⟨q,m+1,w,bot,z,f,⟨by rw[H];exact g,a.bot,by rw[H];exact i,i,⟨a.w0.1,by have:=a.w0.2;omega⟩,rfl⟩,O,c,p,fun k b Q=> ?_,by rw[l,H];rfl,E,t,rfl⟩;exact(o k b Q).imp fun r h=>h.other (G k Q) rfl (Int.le_refl _) (Or.inl c)
   ·rw[b]at g c A l
    have ab:tV 64 w 1=w+1:=AQ a.w0.1 (by have:=a.w0.2;omega);rw[if_pos rfl,ab]at g;rw[if_pos rfl]at c;rw[if_pos b]at T;have N:∀k,k<n->∃r,qe C n (w+1) bot R.2 r k:=fun k b=>by
     by_cases e:k=j
     ·subst e
      refine⟨120,?_⟩;unfold qe;rw[l,t];exact⟨rfl,rfl,Nat.le_refl _,qN.start hF.hR hF.hZ rfl rfl (by show f.r 0<=_;omega)⟩
     ·exact(o k b e).imp fun r h=>h.other (G k e) rfl (by omega) (Or.inr (Or.inr (by omega)))
    obtain⟨U,S⟩:=N 0 hF.n1;refine Or.inr (Or.inl ⟨ey (ks.drop (m+1))+3+U,0,by have:=S.2.2.1;omega,Or.inl ?_⟩);rw[a.tr,v];exact⟨q,m+1,w+1,bot,U,⟨g,a.bot,i,i,⟨by have:=a.w0.1;omega,by have:=a.w0.2;omega⟩,rfl⟩,O,A,c,N,S,rfl,rfl⟩
 ·obtain⟨ap,a9⟩:=o j p u
  obtain⟨bot',W,X,J,B,r',Y,al⟩:=hE hF a p a9 (fun _=>D) d;obtain⟨k1,k2⟩:=B key (Ne.symm u);refine Or.inl ⟨by rw[W];rfl,Or.inr (Or.inr ⟨ρ,m,w,bot',z,f,X,L,by rw[J];exact D,a0,fun k b a5=> ?_,by rw[k1];exact M,E,by rw[k2];exact t,rfl⟩),u⟩;by_cases e:k=j
  ·rw[e];exact⟨r',Y⟩
  ·exact(o k b a5).imp fun r h=>h.other (B k e).1 (B k e).2 (Int.le_refl _) (Or.inr (Or.inl J))
theorem Sys.pick(hF:pC C n eB Z ks)(h:Sys C n Z ks tr P key K)(a:j<n)(d:Int):BE C n Z ks tr P key (ht C K 1 j d) (j≠key):=by
 rcases h with h|h|h
 ·exact h.pick hF a d
 ·exact h.pick hF a d
 ·exact h.pick hF a d
theorem Sys.Gm(hF:pC C n eB Z ks)(h:Sys C n Z ks tr P key K):(K3 K=0/\∃Zn w bot,lz n Zn w bot K/\nc n Zn=true/\eB Zn=true/\∃m,tr=(ks.take m).flatMap (fun x=>x.2.2.filter fun s=>s.1 !=6))∨(K3 K≠0/\mY K.table=false):=by
 have e:∀ρ m,m<ks.length->yP eB (dp C n Z ρ m).Z=true/\yP eB (dp C n Z ρ m).run.1=true:=fun ρ m g=>by
  obtain⟨x,i⟩:∃x,ks[m]?=some x:=⟨_,List.getElem?_eq_getElem g⟩;have h:=congrArg vi.ok (hF.ch ρ m x i);have h:(mG C (Dl n (dp C n Z ρ m).run.1 (dp C n Z ρ m).run.2 (ρ m)) 64&&nc n (gG n (Bn C n (dp C n Z ρ m) (ρ m)).2)&&yP eB (dp C n Z ρ m).Z&&yP eB (dp C n Z ρ m).run.1)=true:=h;simp only[Bool.and_eq_true]at h;exact⟨h.1.2,h.2⟩
 have fin:∀{ρ m w bot Zn},vT C n Z ks ρ m w bot tr Zn K->yP eB Zn=true->(K3 K=0/\∃Zn w bot,lz n Zn w bot K/\nc n Zn=true/\eB Zn=true/\∃m,tr=(ks.take m).flatMap (fun x=>x.2.2.filter fun s=>s.1 !=6))∨(K3 K≠0/\mY K.table=false):=fun {ρ m w bot Zn} a c=>by
  unfold yP at c;unfold K3;rw[a.at_.table];split at c
  ·rename_i d
   exact Or.inl ⟨d,Zn,w,bot,a.at_,a.zn,c,m,a.tr⟩
  ·rename_i d
   exact Or.inr ⟨d,by simpa using c⟩
 rcases h with⟨ρ,m,w,bot,r,a,b,-⟩|⟨ρ,m,w,bot,s,a,b,-⟩|⟨ρ,m,w,bot,k,f,a,b,-⟩
 ·exact fin a (e ρ m b).1
 ·exact fin a (e ρ m b).1
 ·exact fin a (e ρ m b).2
end
end
variable{W:World}{g j kk n:Nat}{u v:Value}{l:List Int}{s x:Int}{L:List Value}
def HU(s:Int):Int:=IntKind.u64.wrap (IntKind.u64.wrap (s*6364136223846793005)+1442695040888963407)
def It(n:Int):Nat->List Int->Int->List hI×Int
 |0,_,s=>([],s)
 |f+1,left,s=>
  let s:=HU s
  let k:=(s/4294967296%(left.length:Int)).toNat
  let x:=left.getD k 0
  let p:=It n f (left.eraseIdx k) s
  ((if x=n then⟨2,0,0⟩else⟨1,x,s/4294967296⟩)::p.1,p.2)
def Jm(n:Nat):List Int:=(List.range (n+1)).map Int.ofNat
def HR(n:Nat):Nat->Int->List hI
 |0,_=>[]
 |r+1,s=>(It n (n+1) (Jm n) s).1++HR n r (It n (n+1) (Jm n) s).2
def Ln(S:List hI)(w:World)(e:Ending)(w':World):Prop:=∃v,e=.returned v/\w'.ownsRow w.heap.size 51 3 v S.length (S.flatMap mo)/\Ch ag w w'
def I7(w:World)(B:Nat)(v:Value)(l:List Int):Prop:=w.ownsRow B 3 1 v l.length (l.map (Value.int .i64))
theorem I8(n:Nat):(Jm n).length=n+1:=by unfold Jm;rw[List.length_map,List.length_range]
theorem MG{k:Nat}(h:w.ownsRow B 3 1 v k (((List.range k).map Int.ofNat).map (Value.int .i64)))(a:k=n+1):I7 w B v (Jm n):=by
 subst a;unfold I7;rw[I8];exact h
theorem JE{b:List Value}(h:Row w g 3 (l.map (Value.int .i64)++b)){q:Nat}(a:l[q]?=some x):w.cell? (g,q)=some (.int .i64 x):=
 h.cell (by rw[List.getElem?_append_left (by rw[List.length_map];exact(List.getElem?_eq_some_iff.1 a).1),List.getElem?_map,a];rfl)
theorem Ke{P:Program}{ops:Array Oper}{o:Oper}{a:Act}{K:Act->World->Prop}{Q:Exit->Act->World->Prop}{E:Prop}
 (p:o.guard=none) (s x:Operand) (t:TypeId) (y:o.op=Op.call {callee:=Callee.builtin Builtin.append,args:=#[s,x],argTypes:=#[t,t]})
 (e:TypeId) (i:TypeInfo) (f:P.underlying t=some (.slice e)) (h:P.info? e=some i) (b:Option Addr) (n cap:Nat) (A:a.eval s=.slice b n cap) (r:n<=cap) (d:Option Addr) (m c:Nat) (D:a.eval x=.slice d m c) (q:m=0)
 (k:∀v' w',v'=.slice b n cap->w'=w->K (a.put o.dst v') w'):
 if Region.wanted o (yielded ops a.tmps)=true then Oper.wp P o a w K Q else E:=by
 subst q;have C:Region.wanted o (yielded ops a.tmps)=true:=by simp[Region.wanted,p]
 rw[if_pos C];have z:(Builtin.append_ #[t,t] o.type #[.slice b n cap,.slice d 0 c]).run P w=.ok (.slice b n cap) w:=by
  cases b<;>cases d<;>simp[Builtin.append_,run_underlying f,sizeOf,typeInfo,h,Builtin.lenOf,Builtin.firstCells,r,storeCells,loadCells,loadCellsFrom]
 unfold Oper.wp;simp[execOp,y,resolve,invoke,builtin,A,D,z,Result.andThen];exact k _ _ rfl rfl
theorem K0{e:TypeId}{s:Nat}{xs:List Value}(h:w.ownsRow B e s v n xs):∃c,(∀a d b,v=.slice a d b->b=c)/\n<=c:=by
 rcases h.2 with⟨rfl,rfl⟩|⟨g,cap,cur,rfl,_,_,f,_⟩
 ·exact⟨0,(fun a d b e=>by injection e with _ _ e;exact e.symm),Nat.le_refl _⟩
 ·exact⟨cap,(fun a d b e=>by injection e with _ _ e;exact e.symm),f⟩
theorem Iw{P:Program}(w:World){ops:Array Oper}{o:Oper}{a:Act}{K:Act->World->Prop}{Q:Exit->Act->World->Prop}{E:Prop}(y:o.guard=none)(s x:Operand)(t:TypeId)
 (F:o.op=.call {callee:=.builtin .append,args:=#[s,x],argTypes:=#[t,t]}) (base:Nat) (e:TypeId) (i:TypeInfo) (z:Value) (size bytes:Nat) (H:P.underlying t=some (.slice e)) (A:P.info? e=some i) (ab:i.zero=some z)
 (a5:i.size=size) (X:i.bytes=bytes) (ad:z.cells.size=size) (a9:0<size) (b:Option Addr) (n c:Nat) (xs:List Value) (G:a.eval s=.slice b n c) (r:w.ownsRow base e size (.slice b n c) n xs)
 (k:Option Addr) (m p:Nat) (news:List Value) (I:a.eval x=.slice k m p) (C:news.length=m*size) (a4:m=0∨∃d,k=some d/\∀j u,news[j]?=some u->w.cell? (d.add j)=some u) (R:∀u∈news,u.oneCell'=true)
 (U:n+m<=maxLen) (Y:(n+m)*bytes<=140737488355328) (V:base<=w.heap.size)
 (h:∀v' w',w'.ownsRow base e size v' (n+m) (xs++news)->Ch (fun i=>(Value.slice b n c).ownBlock=some i) w w'->(∀g,v'.ownBlock=some g->(Value.slice b n c).ownBlock=some g∨w.heap.size<=g)->K (a.put o.dst v') w'):
 if Region.wanted o (yielded ops a.tmps)=true then Oper.wp P o a w K Q else E:=by
 by_cases D:m=0
 ·subst D
  obtain⟨al,a0,a3⟩:=K0 r;refine Ke y s x t F e i H A b n c G (by rw[a0 _ _ _ rfl];exact a3) k 0 p I rfl (fun v' w' J M=> ?_);subst J;subst M;have a2:news=[]:=List.eq_nil_of_length_eq_zero (by rw[C,Nat.zero_mul]);subst a2;exact h _ _ (by rw[List.append_nil];exact r) ay (fun g a1=>Or.inl a1)
 ·obtain⟨d,rfl,Z⟩:=a4.resolve_left D
  refine step_append_lies w y s x t F base e i z size bytes H A ab a5 X ad a9 _ n xs G r d m p news I C Z R (by omega) U Y V _ rfl (fun N am w2 S T f ap=>h _ _ S (Ch.bK T) (fun O q=> ?_));have q:N=O:=by simpa[Value.ownBlock]using q
  subst q;rcases f with f|f
  ·exact Or.inl f
  ·exact Or.inr (by omega)
theorem LS(W:World)(T:TypeId):(W.alloc (.cells #[] T)).drew.ownsRow W.heap.size T 1 (.slice (some (W.heap.size,0)) 0 0) 0 []:=
 ⟨by simp,Or.inr ⟨W.heap.size,0,#[],rfl,Nat.le_refl _,(Row.new W #[] T:Row _ _ _ []),Nat.le_refl _,by decide,by simp,by simp⟩⟩
theorem Mi{n:Int}{m:Nat}{left:List Int}{a:Int}{E:hI}(c:left.length=m+1)(e:HU s=a)(d:kk=(a/4294967296%((m+1:Nat):Int)).toNat)(f:left[kk]?=some x)(b:(if x=n then⟨2,0,0⟩else⟨1,x,a/4294967296⟩)=E):
 It n (m+1) left s=(E::(It n m (left.eraseIdx kk) a).1,(It n m (left.eraseIdx kk) a).2):=by
 show((if left.getD (HU s/4294967296%(left.length:Int)).toNat 0=n then(⟨2,0,0⟩:hI)else⟨1,left.getD (HU s/4294967296%(left.length:Int)).toNat 0,HU s/4294967296⟩)::(It n m (left.eraseIdx (HU s/4294967296%(left.length:Int)).toNat) (HU s)).1,(It n m (left.eraseIdx (HU s/4294967296%(left.length:Int)).toNat) (HU s)).2)=_
 rw[e,c,<-d,List.getD_eq_getElem?_getD,f,<-b];rfl
theorem K2(l:List Int):∀u∈l.map (Value.int .i64),u.oneCell'=true:=fun u a=>by
 obtain⟨x,_,rfl⟩:=List.mem_map.1 a;simp[Value.oneCell']
theorem Kq{c:List Value}(h:Row w g 3 (l.map (Value.int .i64)++c))(b:((l.take kk).map (Value.int .i64))[j]?=some u):w.cell? (g,j)=some u:=by
 rw[List.getElem?_map]at b;cases a:(l.take kk)[j]? with
 |none=>rw[a]at b;cases b
 |some x=>
  rw[a]at b;obtain rfl:=Option.some.inj b;refine JE h ?_;rw[List.getElem?_take]at a;split at a
  ·exact a
  ·cases a
theorem LU{k1:Nat}{c:List Value}(h:Row w g 3 (l.map (Value.int .i64)++c))(a:((l.drop k1).map (Value.int .i64))[j]?=some u):w.cell? (g,k1+j)=some u:=by
 rw[List.getElem?_map]at a;cases b:(l.drop k1)[j]? with
 |none=>rw[b]at a;cases a
 |some x=>
  rw[b]at a;obtain rfl:=Option.some.inj a;exact JE h (by rw[List.getElem?_drop]at b;exact b)
theorem Lx(h:∀(j:Nat) (u:Value),L[j]?=some u->W.cell? ⟨g,j,none⟩=some u):∀(j:Nat) (u:Value),L[j]?=some u->W.cell? ((⟨g,0,none⟩:Addr).add j)=some u:=fun j u a=>by
 rw[show(⟨g,0,none⟩:Addr).add j=⟨g,j,none⟩by unfold Addr.add;split<;>simp_all];exact h j u a
theorem MH{o:Nat}(h:∀(j:Nat) (u:Value),L[j]?=some u->W.cell? ⟨g,o+j,none⟩=some u):∀(j:Nat) (u:Value),L[j]?=some u->W.cell? ((⟨g,o,none⟩:Addr).add j)=some u:=fun j u a=>by
 rw[show(⟨g,o,none⟩:Addr).add j=⟨g,o+j,none⟩by unfold Addr.add;split<;>simp_all];exact h j u a
theorem M5{L:Nat}(h:aK s)(c:0<L)(d:L<=1000):∃kk:Nat,wrap64 ((s/4294967296).tmod (L:Int))=(kk:Int)/\kk<L/\Hid (kk=(s/4294967296%(L:Int)).toNat):=by
 have a:=Int.ediv_nonneg h.lo (b:=4294967296) (by decide);have e:=Int.emod_nonneg (s/4294967296) (b:=(L:Int)) (by omega);have f:=Int.emod_lt_of_pos (s/4294967296) (b:=(L:Int)) (by omega);refine⟨(s/4294967296%(L:Int)).toNat,?_,by omega,Z rfl⟩;rw[Int.tmod_eq_emod_of_nonneg a];unfold wrap64;omega
theorem MI(a:Option Addr)(n c i:Nat)(h:(Value.slice a n c).ownBlock=some i):some i=a.map Addr.block:=by rw[<-h];cases a<;>rfl
theorem Mj:(prog.info? 3).map (fun i=>(i.zero,i.size,i.bytes))=some (some (.int .i64 0),1,8):=by kernel_rfl
theorem J8(n K:Nat)(k4:1<=n/\n<=64)(i3:K<=65536)(O:Int)(gt:aK O)(w:World):
 Calls prog 14 #[.int .i64 n,.int .i64 K,.int .u64 O] w (Ln (HR n K O) w):=by
 have kb:(n:Int)<=64:=by omega
 have k5:(1:Int)<=n:=by omega
 obtain⟨R,fz⟩:=nm (HR n K O);have c5:=Z fz;have cW:=Z gt;rw[c5];go_wp2
 go_loopg [7,8,9] (K+1) (fun gk bv bw hn wr=>∃(r:Nat) (S:List hI) (s:Int),r<=K/\gk=K-r+1/\hn=.int .i64 r/\bw=.int .u64 s/\Hid (Ch ag w wr/\wr.ownsRow w.heap.size 51 3 bv S.length (S.flatMap mo)/\S++HR n (K-r) s=R/\aK s/\S.length=r*(n+1)))
 case atStart=>exact⟨0,[],O,by omega,by omega,rfl,rfl,Ch.refl _ _,⟨by simp,Or.inl ⟨rfl,rfl⟩⟩,c5,cW,by simp⟩
 case round=>
  obtain⟨r,S,s,kd,rfl,rfl,rfl,z⟩:=hrel;obtain⟨w1,rfl⟩:=mn wr;obtain⟨eC,eW,rfl⟩:=au z.2.1;have kf:(r:Int)<=65536:=by omega
  by_cases k0:r<K
  ·have k2:(r:Int)<(K:Int):=by omega
   have k3:(r:Int)<65536:=(by omega);obtain⟨bi,g4,am,ap,av⟩:=info_parts Mj;have a0:=Z g4;go_wp2
   go_loopg [10,11] (n+2) (fun gk v hi wc=>∃k:Nat,k<=n+1/\gk=n+2-k/\hi=.int .i64 k/\Hid (wc.ownsRow w1.heap.size 3 1 v k (((List.range k).map Int.ofNat).map (Value.int .i64))/\Ch ag w1 wc))
   case atStart=>exact⟨0,by omega,by omega,rfl,Z ⟨⟨by simp,Or.inl ⟨rfl,rfl⟩⟩,Ch.refl _ _⟩⟩
   case round=>
    obtain⟨k,i7,rfl,rfl,C⟩:=hrel;obtain⟨hF,i0,rfl⟩:=au C.1;have hd:=C.2.size;by_cases j9:k<=n
    ·have g7:(k:Int)<=n:=by omega
     go_wp2_with (at_builtin;refine wpList_append_lies _ rfl _ _ _ rfl w1.heap.size 3 bi _ 1 8 underlying87 a0 am ap av rfl (by omega) _ k (((List.range k).map Int.ofNat).map (Value.int .i64)) rfl (C.1.alloc _) ⟨wr.heap.size,0,none⟩ 1 1 [.int .i64 k] rfl rfl (World.news_of_block (cs:=#[.int .i64 k]) (t:=3) (fr:=(0,0)) (heap_alloc_new wr _)) (by simp[Value.oneCell']) (by omega) (by unfold maxLen;omega) (by omega) (by simp;omega) (wr.heap.size+1) (by simp) ?_)
     intro c8 c7 cq ab a9 g0 go;have a2:Hid (cq.ownsRow w1.heap.size 3 1 (.slice (some (c8,0)) (k+1) c7) (k+1) (((List.range (k+1)).map Int.ofNat).map (Value.int .i64))):=Z (by
      rw[List.range_succ,List.map_append,List.map_append];simpa using ab)
     have X:=Z (eX C.2 C.1 (Nat.le_refl _) (ao a9));go_wp2
     go_roundg (n+2-(k+1))
     case measure=>omega
     case rel=>exact⟨k+1,by omega,rfl,by go_num,Z ⟨a2,X⟩⟩
    ·have g7:¬(k:Int)<=n:=by omega
     have g8:=Z (show k=n+1 by omega);go_wp2
     have cL:=Z (MG C.1 g8.out);have cA:=Z (z.1.trans C.2);have dr:Hid (wr.ownsRow w.heap.size 51 3 (.slice eC S.length eW) S.length (S.flatMap mo)):=Z (ak z.2.1 C.2 (fun _ _ h=>h));obtain⟨w2,rfl⟩:=mn wr;go_loopg [7,8,10] (n+2) (fun gk bv bw v wb=>∃(left:List Int) (S':List hI) (F:Int),gk=left.length+1/\bw=.int .u64 F/\left.length<=n+1/\Hid (I7 wb w1.heap.size v left/\wb.ownsRow w.heap.size 51 3 bv S'.length (S'.flatMap mo)/\Ch ag w wb/\S'++((It n left.length left F).1++HR n (K-(r+1)) (It n left.length left F).2)=R/\aK F/\S'.length+left.length=(r+1)*(n+1)/\∀x∈left,0<=x/\x<=n))
     case atStart=>
      refine⟨Jm n,S,s,by rw[I8],rfl,by rw[I8];exact Nat.le_refl _,Z ⟨cL,dr,cA,?_,z.2.2.2.1,?_,?_⟩⟩
      ·rw[I8,<-z.2.2.1,show K-r=(K-(r+1))+1 by omega]
       rfl
      ·rw[I8,z.2.2.2.2,Nat.succ_mul]
      ·intro x V
       obtain⟨q,gs,rfl⟩:=List.mem_map.1 V;have:=List.mem_range.1 gs;exact⟨Int.natCast_nonneg _,by show(q:Int)<=n;omega⟩
     case round=>
      obtain⟨left,S',F,rfl,rfl,gf,f⟩:=hrel;obtain⟨c6,hK,rfl⟩:=au f.2.1;obtain⟨L,cd⟩:=nm left.length;have p:=Z cd;have T:=f.1;unfold I7 at T;rw[cd]at gf T;by_cases c9:0<L
      ·obtain⟨a3,J,hf,rfl,gc,jp,jr,ge,-⟩:=aE T c9
       have Q:=Z ge;have fb:(0:Int)<L:=(by omega);have i5:(L:Int)<=65:=(by omega);have i4:(L:Int)≠0:=(by omega);go_upto_region 16 with fail
       obtain⟨o,ad⟩:=nm (HU F);have U:aK o:=(by rw[<-ad];exact bO _);obtain⟨kk,g9,ch,cC⟩:∃kk:Nat,wrap64 ((o/4294967296).tmod (L:Int))=(kk:Int)/\kk<L/\Hid (kk=(o/4294967296%(L:Int)).toNat):=M5 U c9 (by omega);rw[show IntKind.u64.wrap (IntKind.u64.wrap (F*6364136223846793005)+1442695040888963407)=o from ad,g9];have dC:=Z ad;have ej:=Z U;have g2:aK (o/4294967296):=⟨Int.ediv_nonneg U.lo (by decide),by have:=U.hi;omega⟩;have hu:=Z g2;obtain⟨x,V⟩:∃x,left[kk]?=some x:=⟨_,List.getElem?_eq_getElem (by rw[p];exact ch)⟩;have i2:=JE Q V;have en:=Z V;have it:(kk:Int)<L:=(by omega);have ip:(0:Int)<=kk:=(by omega);obtain⟨i1,g5,ci,cl,cm⟩:=info_parts Dj;have c2:=Z g5;have hd:=f.2.2.1.size;have i6:S'.length<=4259840:=by
        have D:=f.2.2.2.2.2.1;have a4:(r+1)*(n+1)<=65536*65:=Nat.mul_le_mul (by omega) (by omega);omega
       obtain⟨E,fn⟩:∃E:hI,(if x=(n:Int)then⟨2,0,0⟩else⟨1,x,o/4294967296⟩)=E:=⟨_,rfl⟩;have Y:=Z fn;go_upto_if 56 with fail
       go_cut [7] (fun v wc=>wc.ownsRow w.heap.size 51 3 v (S'.length+1) ((S'++[E]).flatMap mo)/\Ch ag w wc/\Ch (fun i=>some i=c6.map Addr.block) wr wc)
       case first=>
        rcases Decidable.em (x=(n:Int))with N|N
        case' inl=>
         have al:(x==(n:Int))=true:=(by simp;exact N);obtain rfl:E=⟨2,0,0⟩:=by have:=Y.out;rw[if_pos N]at this;exact this.symm
         rw[al];go_wp2_with (at_builtin;refine wpList_append_lies _ rfl _ _ _ rfl w.heap.size 51 i1 _ 3 24 underlying47 c2 ci cl cm rfl (by omega) _ S'.length (S'.flatMap mo) rfl (f.2.1.alloc _) ⟨wr.heap.size,0,none⟩ 1 1 (mo ⟨2,0,0⟩) rfl rfl (World.news_of_block (cs:=#[.int .i64 2,.int .i64 0,.int .u64 0]) (t:=51) (fr:=(0,0)) (heap_alloc_new wr _)) (by simp[Value.oneCell',mo]) (by omega) (by unfold maxLen;omega) (by omega) (by simp;omega) (wr.heap.size+1) (by simp) ?_)
        case' inr=>
         have al:(x==(n:Int))=false:=(by simp;exact N);obtain rfl:E=⟨1,x,o/4294967296⟩:=by have:=Y.out;rw[if_neg N]at this;exact this.symm
         rw[al];go_wp2_with (at_builtin;refine wpList_append_lies _ rfl _ _ _ rfl w.heap.size 51 i1 _ 3 24 underlying47 c2 ci cl cm rfl (by omega) _ S'.length (S'.flatMap mo) rfl (f.2.1.alloc _) ⟨wr.heap.size,0,none⟩ 1 1 (mo ⟨1,x,o/4294967296⟩) rfl rfl (World.news_of_block (cs:=#[.int .i64 1,.int .i64 x,.int .u64 (o/4294967296)]) (t:=51) (fr:=(0,0)) (heap_alloc_new wr _)) (by simp[Value.oneCell',mo]) (by omega) (by unfold maxLen;omega) (by omega) (by simp;omega) (wr.heap.size+1) (by simp) ?_)
        all_goals
         intro c8 c7 cq ab a9 g0 go;have ce:=ao a9;have X:=Z (And.intro (eX f.2.2.1 f.2.1 (Nat.le_refl _) ce) ((Ch.bK ce).mono (fun i h=>MI _ _ _ _ h)));have a2:=Z ab;go_wp2
         go_meet
         exact⟨by rw[List.flatMap_append];simpa using a2.out,X⟩
       case rest=>
        have c0:=Z hcut;obtain⟨ex,eL,rfl⟩:=au hcut.1;have gr:Row wc a3 3 (left.map (Value.int .i64)++hf):=Q.ch hcut.2.2 (fun e=>aZ f.2.1 Q (by decide) (by cases c6 with|none=>cases e|some q=>exact e.symm));have a1:=Z gr;obtain⟨k1,g6⟩:∃k1:Nat,kk+1=k1:=⟨_,rfl⟩;have c3:=Z g6;have ih:IntKind.i64.wrap ((kk:Int)+1)=(k1:Int):=(by rw[IntWalk.i64_left];unfold wrap64;omega);have i8:(k1:Int)<=L:=(by omega);have i9:(k1:Int)<=J:=(by omega);have ii:(kk:Int)<=J:=(by omega);have io:(kk:Int)<=k1:=(by omega);have j':(L:Int)<=J:=(by omega);have kw:=hcut.2.1.size;have hb:w1.heap.size<=wc.heap.size:=Nat.le_trans (Nat.le_trans gc (Nat.le_of_lt Q.lt)) hcut.2.2.size;have I:Hid ((left.eraseIdx kk).length=L-1):=Z (by rw[List.length_eraseIdx,if_pos (by rw[p.out];exact ch),p]);have cS:Hid (∀v A,I7 A w1.heap.size v (left.eraseIdx kk)->Ch ag wc A->I7 A w1.heap.size v (left.eraseIdx kk)/\A.ownsRow w.heap.size 51 3 (.slice ex (S'.length+1) eL) (S'++[E]).length ((S'++[E]).flatMap mo)/\Ch ag w A/\(S'++[E])++((It n (left.eraseIdx kk).length (left.eraseIdx kk) o).1++HR n (K-(r+1)) (It n (left.eraseIdx kk).length (left.eraseIdx kk) o).2)=R/\aK o/\(S'++[E]).length+(left.eraseIdx kk).length=(r+1)*(n+1)/\∀x∈left.eraseIdx kk,0<=x/\x<=n):=Z (fun v A D a4=>by
         refine⟨D,?_,c0.2.1.trans a4,?_,ej,?_,fun y he=>f.2.2.2.2.2.2 y (List.mem_of_mem_eraseIdx he)⟩
         ·rw[List.length_append]
          exact ak c0.1 a4 (fun _ _ h=>h)
         ·have M:=f.2.2.2.1
          rw[p,show L=(L-1)+1 by omega,Mi (m:=L-1) (by rw[p];omega) dC (by rw[show((L-1+1:Nat):Int)=L by omega];exact cC) en Y]at M;rw[I,<-M];simp
         ·have fd:=f.2.2.2.2.2.1
          rw[I,List.length_append,<-fd,p];show S'.length+1+_=_
          omega)
        have P:Hid (Ch ag wc (wc.alloc (.cells #[] 3)).drew):=Z ay;have c1:Hid ((wc.alloc (.cells #[] 3)).drew.ownsRow wc.heap.size 3 1 (.slice (some ⟨wc.heap.size,0,none⟩) 0 0) 0 []):=Z (LS wc _);have hv:Hid (wc.heap.size<=(wc.alloc (.cells #[] 3)).drew.heap.size):=Z P.size;have dN:Hid (∀j u,((left.take kk).map (Value.int .i64))[j]?=some u->(wc.alloc (.cells #[] 3)).drew.cell? ⟨a3,j,none⟩=some u):=Z (fun j u G=>(P.cell (aQ (Kq a1 G)) id).trans (Kq a1 G));have c4:Hid (∀j u,((left.drop k1).map (Value.int .i64))[j]?=some u->wc.cell? ⟨a3,k1+j,none⟩=some u):=Z (fun j u G=>LU a1 G);have es:Hid (((left.take kk).map (Value.int .i64)).length=kk*1):=Z (by rw[List.length_map,List.length_take,p];omega);have et:Hid (((left.drop k1).map (Value.int .i64)).length=(L-k1)*1):=Z (by rw[List.length_map,List.length_drop,p];omega);rcases Decidable.em (J=k1)with g1|g1
        all_goals
         go_upto_region 19 with fail
         go_region_law (first
          |(refine Iw _ (by rfl) _ _ _ (by rfl) wc.heap.size 3 bi _ 1 8 underlying87 a0 am ap av (by rfl) (by omega) _ 0 0 [] (by rfl) c1 _ kk _ ((left.take kk).map (Value.int .i64)) (by rfl) es (Or.inr ⟨_,rfl,Lx dN⟩) (K2 _) (by unfold maxLen;omega) (by omega) P.size ?_;intro l1 lb a5 eS kE;obtain⟨hw,l0,rfl⟩:=au a5;rw[Nat.zero_add]at a5;have H:=Z (And.intro a5 (P.fresh eS (fun i g3 e=>by have:=(c1.lt i e).1;omega))))
          |(refine Iw _ (by rfl) _ _ _ (by rfl) wc.heap.size 3 bi _ 1 8 underlying87 a0 am ap av (by rfl) (by omega) _ kk _ ((left.take kk).map (Value.int .i64)) (by rfl) H.1 _ (L-k1) _ ((left.drop k1).map (Value.int .i64)) (by rfl) et (by first|exact Or.inr ⟨_,rfl,MH (fun j u G=>(H.2.cell (aQ (c4 j u G)) id).trans (c4 j u G))⟩|exact Or.inl (by omega)) (K2 _) (by unfold maxLen;omega) (by omega) H.2.size ?_;intro la A cb eV kT;obtain⟨eA,hm,rfl⟩:=au cb;have bx:=Z (And.intro cb (H.2.fresh eV (fun i g3 e=>by have:=(H.1.lt i e).1;omega)))))
         have cQ:Hid (I7 A w1.heap.size (.slice eA (kk+(L-k1)) hm) (left.eraseIdx kk)):=Z (by
          have D:=bx.1;have D:A.ownsRow w1.heap.size 3 1 _ _ _:=⟨D.1,D.2.imp_right fun⟨g,c,cur,a,b,d⟩=>⟨g,c,cur,a,Nat.le_trans hb b,d⟩⟩;rw[<-List.map_append,show left.take kk++left.drop k1=left.eraseIdx kk by rw[List.eraseIdx_eq_take_drop_succ,c3]]at D;unfold I7;rw[I,show L-1=kk+(L-k1)by have:=c3.out;omega];exact D)
         go_wp2
         go_roundg (L-1+1)
         case measure=>have:=p.out;omega
         case rel=>exact⟨left.eraseIdx kk,S'++[E],o,by rw[I],rfl,by rw[I];omega,Z (cS _ _ cQ bx.2)⟩
      ·obtain⟨hB,J,rfl⟩:=au T
       have fb:¬(0:Int)<L:=(by omega);go_wp2
       go_roundg (K-(r+1)+1)
       case measure=>omega
       case rel=>
        obtain rfl:left=[]:=List.eq_nil_of_length_eq_zero (by have:=p.out;omega);exact⟨r+1,S',F,by omega,rfl,by go_num,rfl,Z ⟨f.2.2.1,f.2.1,f.2.2.2.1,f.2.2.2.2.1,f.2.2.2.2.2.1⟩⟩
  ·obtain rfl:r=K:=by omega
   go_wp2
   go_ret;have M:=z.2.2.1;rw[Nat.sub_self,show HR n 0 s=[]from rfl,List.append_nil]at M;rw[<-M];exact⟨_,rfl,z.2.1,z.1⟩
def cX(v n:Int):Int:=if n<1 then 0 else if Int.tmod v n<0 then Int.tmod v n+n else Int.tmod v n
theorem o0(v n:Int)(d:n<=1000000)(w:World):Calls prog 5 #[v,n] w (fun e w'=>e=.returned (.int .i64 (cX v n))/\w=w'):=by
 go_in
 by_cases b:n<1
 ·have a:Hid (cX v n=0):=by show _=_;unfold cX;rw[if_pos b]
  go_wp2
  go_ret;rw[a];exact⟨rfl,rfl⟩
 ·have f:¬n=0:=by omega
  have g:=Int.tmod_lt_of_pos v (show 0<n by omega);have h:-n<Int.tmod v n:=by
   have:=Int.tmod_lt_of_pos (-v) (show 0<n by omega);rw[Int.neg_tmod]at this;omega
  by_cases c:Int.tmod v n<0
  ·have a:Hid (cX v n=Int.tmod v n+n):=by show _=_;unfold cX;rw[if_neg b,if_pos c]
   go_wp2
   go_ret;rw[a];exact⟨rfl,rfl⟩
  ·have a:Hid (cX v n=Int.tmod v n):=by show _=_;unfold cX;rw[if_neg b,if_neg c]
   go_wp2
   go_ret;rw[a];exact⟨rfl,rfl⟩
theorem dR(v n:Int)(h:1<=n):0<=cX v n/\cX v n<n:=by
 unfold cX;have a:=Int.tmod_lt_of_pos v (show 0<n by omega);have b:-n<Int.tmod v n:=by
  have:=Int.tmod_lt_of_pos (-v) (show 0<n by omega);rw[Int.neg_tmod]at this;omega
 split
 ·omega
 ·split<;>omega
variable{C:KC}{K:KS}
def Kf(C:KC):List hI->KS->List Ev×KS
 |[],K=>([],K)
 |x::l,K=>((ht C K x.kind x.wk x.draw).1++(Kf C l (ht C K x.kind x.wk x.draw).2).1,(Kf C l (ht C K x.kind x.wk x.draw).2).2)
def Ji(C:KC)(n:Nat)(a:Int)(q:KS->Bool):Nat->Int->List Ev->KS->List Ev×KS×Bool
 |0,_,tr,K=>(tr,K,false)
 |f+1,r,tr,K=>
  let p:=Kf C (HR n 40 (IntKind.u64.wrap (a+r))) K
  if K3 p.2=0 then(tr++p.1,p.2,true)
  else if 400<=r/\r%400=0/\q p.2=true then(tr++p.1,p.2,false)
  else Ji C n a q f (r+40) (tr++p.1) p.2
def mj(C:KC):List hI->KS->Bool
 |[],_=>true
 |x::l,K=>(ht C K x.kind x.wk x.draw).2.clock.fl.isEmpty&&mj C l (ht C K x.kind x.wk x.draw).2
def fk(C:KC)(n:Nat)(a:Int):Nat->Int->KS->Bool
 |0,_,_=>true
 |f+1,r,K=>mj C (HR n 40 (IntKind.u64.wrap (a+r))) K&&(decide (K3 (Kf C (HR n 40 (IntKind.u64.wrap (a+r))) K).2=0)||fk C n a f (r+40) (Kf C (HR n 40 (IntKind.u64.wrap (a+r))) K).2)
theorem tU{x:hI}{l:List hI}(h:mj C (x::l) K=true):(ht C K x.kind x.wk x.draw).2.clock.fl=[]/\mj C l (ht C K x.kind x.wk x.draw).2=true:=by
 unfold mj at h;rw[Bool.and_eq_true,List.isEmpty_iff]at h;exact h
theorem rv{n:Nat}{a r:Int}{f:Nat}(h:fk C n a (f+1) r K=true):mj C (HR n 40 (IntKind.u64.wrap (a+r))) K=true/\(K3 (Kf C (HR n 40 (IntKind.u64.wrap (a+r))) K).2≠0->fk C n a f (r+40) (Kf C (HR n 40 (IntKind.u64.wrap (a+r))) K).2=true):=by
 unfold fk at h;rw[Bool.and_eq_true,Bool.or_eq_true,decide_eq_true_eq]at h;exact⟨h.1,fun b=>h.2.resolve_left b⟩
theorem Mk{N:Nat}(f:ow C)(h:Inv N 0 K)(g:N<=800000)(kind wk draw:Int)(j:aK draw)(b:(ht C K kind wk draw).2.clock.fl=[]):(ht C K kind wk draw).1.length<=4:=by
 have a:∀w,Inv N 0 ({K with at_:=K.entries,w:=w,draw:=draw,entries:=wrap64 (K.entries+1)}:KS):=fun w=>⟨h.core,h.nd,h.q,h.b2,h.bI,h.mem,h.obj,j,h.w0,h.w1,h.out⟩
 unfold ht at b⊢;dsimp only at b⊢;split
 ·exact Nat.le_trans (AJ (a (-1))).out (by decide)
 ·rename_i e
  split
  ·rename_i d
   split
   ·rename_i c
    rw[if_neg e,if_pos d,if_pos c]at b;exact(AI f (a wk) g (i:=wk.toNat) (by have:=c.2;show wk.toNat<K.wk.length;omega) b).out
   ·exact Nat.le_trans (a (-1)).out (by decide)
  ·exact Nat.le_trans (a (-1)).out (by decide)
def Ly(C:KC)(tr:List Ev)(K:KS)(d:Bool)(w:World)(e:Ending)(w':World):Prop:=
 ∃v mb χ N,e=.returned (.tuple #[.agg #[v,.pointer (some ⟨mb,0,none⟩),.bool d],.bool true])/\w'.ownsRow w.heap.size 159 11 v tr.length (tr.flatMap Ev.cells)/\MS w' χ mb C K/\Inv N 0 K/\N<=300001/\(∀i,χ i≠ .no->w.heap.size<=i)/\Ch ag w w'
theorem K4(n:Int):∀(f:Nat) (l:List Int) (s:Int),(It n f l s).1.length=f
 |0,_,_=>rfl
 |f+1,l,s=>by
  show(_::(It n f _ _).1).length=f+1
  rw[List.length_cons,K4 n f]
theorem I9(n:Nat):∀(r:Nat) (s:Int),(HR n r s).length=r*(n+1)
 |0,_=>by rw[Nat.zero_mul];rfl
 |r+1,s=>by
  show((It n (n+1) (Jm n) s).1++HR n r _).length=_
  rw[List.length_append,K4,I9 n r,Nat.succ_mul,Nat.add_comm]
theorem Lz(n:Int):∀(f:Nat) (l:List Int) (s:Int),aK s->(∀x∈(It n f l s).1,aK x.draw)/\aK (It n f l s).2
 |0,_,_,h=>⟨(fun x a=>by cases a),h⟩
 |f+1,l,s,_=>by
  have b:aK (HU s):=bO _;obtain⟨c,d⟩:=Lz n f (l.eraseIdx (HU s/4294967296%(l.length:Int)).toNat) (HU s) b;refine⟨fun x a=> ?_,d⟩;rcases List.mem_cons.1 a with rfl|a
  ·split
   ·exact⟨by decide,by decide⟩
   ·exact⟨Int.ediv_nonneg b.lo (by decide),by have:=b.lo;have:=b.hi;show HU s/4294967296<_;omega⟩
  ·exact c x a
theorem Jn(n:Nat):∀(r:Nat) (s:Int),aK s->∀x∈HR n r s,aK x.draw
 |0,_,_,x,a=>by cases a
 |r+1,s,h,x,a=>by
  obtain⟨b,c⟩:=Lz n (n+1) (Jm n) s h;rcases List.mem_append.1 a with a|a
  ·exact b x a
  ·exact Jn n r _ c x a
theorem Jf{S:List hI}{b:List Value}{q:Nat}{o:Option Value}{v:Value}(h:(S.flatMap mo)[q]?=o)(a:o=some v):(S.flatMap mo++b)[q]?=some v:=by
 subst a;rw[List.getElem?_append_left (List.getElem?_eq_some_iff.1 h).1,h]
theorem Ml{w:World}{B:Nat}{e:TypeId}{s m c:Nat}{a:Option Addr}{xs:List Value}(h:w.ownsRow B e s (.slice a m c) m xs):m=0∨∃d,a=some d/\∀j u,xs[j]?=some u->w.cell? (d.add j)=some u:=by
 by_cases i:m=0
 ·exact Or.inl i
 ·obtain⟨g,cap,o,b,-,-,-,k,-⟩:=aE h (by omega)
  injection b with b l n
  exact Or.inr ⟨_,b,Lx (fun j u f=>k.cell (by rw[List.getElem?_append_left (List.getElem?_eq_some_iff.1 f).1];exact f))⟩
theorem MJ(l:List Ev):∀u∈l.flatMap Ev.cells,u.oneCell'=true:=fun u b=>by
 obtain⟨X,_,a⟩:=List.mem_flatMap.1 b;simp only[Ev.cells,List.mem_cons,List.not_mem_nil,or_false]at a;rcases a with rfl|rfl|rfl|rfl|rfl|rfl|rfl|rfl|rfl|rfl|rfl<;>rfl
structure Ni(C:KC)(w:World)(rb eb mb gs:Nat)(jk:List Value)(S:List hI)(T1:List Ev)(K1:KS)(N0:Nat)(wr:World)(i:Nat)(χ:Nat->a')(tr':List Ev)(K':KS)(v:Value):Prop where
 row:Row wr eb 28 [v,(mb,0),.bool false]
 own:wr.ownsRow w.heap.size 159 11 v tr'.length (tr'.flatMap Ev.cells)
 Ht:∀g,v.ownBlock=some g->χ g=.no
 ms:MS wr χ mb C K'
 inv:Inv (N0+i) 0 K'
 ev:tr'++(Kf C (S.drop i) K').1=T1
 st:(Kf C (S.drop i) K').2=K1/\mj C (S.drop i) K'=true
 M6:χ eb=.no
 rl:∀i,χ i≠ .no->w.heap.size<=i
 ch:Ch ag w wr
 len:tr'.length<=4*(N0+i)
 MW:χ gs=.no
 Ea:Row wr gs 51 (S.flatMap mo++jk)
 res:Row wr rb 28 [.slice none 0 0,.pointer none,.bool false]/\χ rb=.no
structure MX(C:KC)(n:Nat)(seed:Int)(q:KS->Bool)(w:World)(rb eb mb:Nat)(tr:List Ev)(K:KS)(J:Nat)(wr:World)(j:Nat)(χ:Nat->a')(tr':List Ev)(K':KS)(v:Value)(d:Bool):Prop where
 le:j<=J
 row:Row wr eb 28 [v,(mb,0),.bool d]
 own:wr.ownsRow w.heap.size 159 11 v tr'.length (tr'.flatMap Ev.cells)
 Ht:∀g,v.ownBlock=some g->χ g=.no
 ms:MS wr χ mb C K'
 inv:Inv (1+j*(40*(n+1))) 0 K'
 fin:(d=false/\Ji C n seed q (J-j) (40*j) tr' K'=(tr,K,true)/\fk C n seed (J-j) (40*j) K'=true)∨(d=true/\tr'=tr/\K'=K)
 M6:χ eb=.no
 rl:∀i,χ i≠ .no->w.heap.size<=i
 ch:Ch ag w wr
 len:tr'.length<=4*(1+j*(40*(n+1)))
 res:Row wr rb 28 [.slice none 0 0,.pointer none,.bool false]/\χ rb=.no
section
section
variable{C:KC}{K:KS}{n:Nat}{eB:gF->Bool}{Z:gF}{ks:UKinds}{tr:List (Int×Int×Int)}{P key:Nat}
def kN(n:Nat)(x:hI):Prop:=x=⟨2,0,0⟩∨∃j:Nat,∃d,j<n/\x=⟨1,j,d⟩
theorem gd(a b:List Ev):bd (a++b)=bd a++bd b:=by unfold bd;rw[List.map_append,List.filter_append]
theorem ru.run(hF:pC C n eB Z ks):∀(l:List hI) (K:KS),(∀x∈l,kN n x)->ru C n Z ks tr K->bd (Kf C l K).1=[]/\ru C n Z ks tr (Kf C l K).2
 |[],K,_,h=>⟨rfl,h⟩
 |x::l,K,c,h=>by
  have a:bd (ht C K x.kind x.wk x.draw).1=[]/\ru C n Z ks tr (ht C K x.kind x.wk x.draw).2:=by
   rcases c x List.mem_cons_self with rfl|⟨j,d,e,rfl⟩
   ·exact h.tick
   ·exact h.pick hF e d
  have b:=ru.run hF l _ (fun y f=>c y (List.mem_cons_of_mem _ f)) a.2;show bd ((ht C K x.kind x.wk x.draw).1++_)=[]/\_
  rw[gd,a.1,b.1];exact⟨rfl,b.2⟩
def One(C:KC)(n:Nat)(Z:gF)(ks:UKinds)(K:KS):Prop:=(∃tr P key,Sys C n Z ks tr P key K)∨∃tr,ru C n Z ks tr K
theorem One.fl(h:One C n Z ks K):K.clock.fl=[]:=by
 have a:∀{ρ m w bot tr Zn},vT C n Z ks ρ m w bot tr Zn K->K.clock.fl=[]:=fun h=>by
  rw[h.at_.b2];exact(fT h.zn).2.2.2
 rcases h with⟨_,_,_,⟨_,_,_,_,_,h,_⟩|⟨_,_,_,_,_,h,_⟩|⟨_,_,_,_,_,_,h,_⟩⟩|⟨_,_,_,_,h,_⟩
 ·exact a h
 ·exact a h
 ·exact a h
 ·exact a h
theorem One.step(hF:pC C n eB Z ks)(h:One C n Z ks K){x:hI}(b:kN n x):One C n Z ks (ht C K x.kind x.wk x.draw).2:=by
 rcases h with⟨tr,P,key,h⟩|⟨tr,h⟩
 ·rcases b with rfl|⟨j,d,a,rfl⟩
  ·exact Or.inl ⟨_,_,_,h.tick.2⟩
  ·rcases h.pick hF a d with⟨_,e,_⟩|⟨_,_,_,e⟩|e
   ·exact Or.inl ⟨_,_,_,e⟩
   ·exact Or.inl ⟨_,_,_,e⟩
   ·exact Or.inr ⟨_,e⟩
 ·rcases b with rfl|⟨j,d,a,rfl⟩
  ·exact Or.inr ⟨_,h.tick.2⟩
  ·exact Or.inr ⟨_,(h.pick hF a d).2⟩
theorem One.run(hF:pC C n eB Z ks):∀(l:List hI) (K:KS),(∀x∈l,kN n x)->One C n Z ks K->mj C l K=true/\One C n Z ks (Kf C l K).2
 |[],_,_,h=>⟨rfl,h⟩
 |x::l,K,c,h=>by
  have a:=h.step hF (c x List.mem_cons_self);have b:=One.run hF l _ (fun y d=>c y (List.mem_cons_of_mem _ d)) a;refine⟨?_,b.2⟩;unfold mj;rw[a.fl,b.1];rfl
theorem Sys.run(hF:pC C n eB Z ks):∀(l:List hI) (K:KS) (tr:List (Int×Int×Int)) (P key:Nat),(∀x∈l,kN n x)->Sys C n Z ks tr P key K->BE C n Z ks tr P key (Kf C l K) (∀d,(⟨1,key,d⟩:hI)∉l)
 |[],K,tr,P,key,_,h=>Or.inl ⟨rfl,h,fun d a=>by cases a⟩
 |x::l,K,tr,P,key,o,h=>by
  have m:∀y∈l,kN n y:=fun y s=>o y (List.mem_cons_of_mem _ s)
  have q:BE C n Z ks tr P key (ht C K x.kind x.wk x.draw) (∀d,(⟨1,key,d⟩:hI)≠x):=by
   rcases o x List.mem_cons_self with rfl|⟨j,d,r,rfl⟩
   ·obtain⟨b,c⟩:=h.tick
    exact Or.inl ⟨b,c,fun d a=>by injection a with a _ _;exact absurd a (by decide)⟩
   ·rcases h.pick hF r d with⟨b,c,k⟩|e|e
    ·refine Or.inl ⟨b,c,fun d a=> ?_⟩
     injection a with _ a _
     exact k (by omega)
    ·exact Or.inr (Or.inl e)
    ·exact Or.inr (Or.inr e)
  unfold BE;show(bd ((ht C K x.kind x.wk x.draw).1++(Kf C l (ht C K x.kind x.wk x.draw).2).1)=[]/\Sys C n Z ks tr P key (Kf C l (ht C K x.kind x.wk x.draw).2).2/\_)∨(∃g i,g<P/\Sys C n Z ks (tr++bd ((ht C K x.kind x.wk x.draw).1++(Kf C l (ht C K x.kind x.wk x.draw).2).1)) g i (Kf C l (ht C K x.kind x.wk x.draw).2).2)∨
   ru C n Z ks (tr++bd ((ht C K x.kind x.wk x.draw).1++(Kf C l (ht C K x.kind x.wk x.draw).2).1)) (Kf C l (ht C K x.kind x.wk x.draw).2).2
  rw[gd];rcases q with⟨b,c,k⟩|⟨g,i,b,c⟩|e
  ·rw[b]
   rcases Sys.run hF l _ tr P key m c with⟨f1,f2,f3⟩|f|f
   ·exact Or.inl ⟨f1,f2,fun d a=>(List.mem_cons.1 a).elim (k d) (f3 d)⟩
   ·exact Or.inr (Or.inl f)
   ·exact Or.inr (Or.inr f)
  ·rw[<-List.append_assoc]
   rcases Sys.run hF l _ _ g i m c with⟨f1,f2,f3⟩|⟨p,k2,f1,f2⟩|f
   ·rw[f1]
    simp only[List.append_nil];exact Or.inr (Or.inl ⟨g,i,b,f2⟩)
   ·exact Or.inr (Or.inl ⟨p,k2,by omega,f2⟩)
   ·exact Or.inr (Or.inr f)
  ·obtain⟨f1,f2⟩:=e.run hF l _ m
   rw[f1,List.append_nil];exact Or.inr (Or.inr f2)
theorem o1(n:Nat):∀(f:Nat) (left:List Int) (s:Int),left.length=f->(∀x∈left,0<=x/\x<=n)->(∀x∈(It n f left s).1,kN n x)/\∀x∈left,x≠n->∃d,(⟨1,x,d⟩:hI)∈(It n f left s).1
 |0,left,s,h,_=>⟨(fun x a=>by cases a),(fun x a=>by rw[List.length_eq_zero_iff.1 h]at a;cases a)⟩
 |f+1,left,s,h,hb=>by
  obtain⟨k,p⟩:=nm ((HU s/4294967296%(left.length:Int)).toNat);have c:k<left.length:=by
   have u:=Int.emod_nonneg (HU s/4294967296) (show(left.length:Int)≠0 by omega);have v:=Int.emod_lt_of_pos (HU s/4294967296) (show(0:Int)<left.length by omega);omega
  have a:left.getD k 0=left[k]:=by rw[List.getD_eq_getElem?_getD,List.getElem?_eq_getElem c];rfl
  obtain⟨r,t⟩:=o1 n f (left.eraseIdx k) (HU s) (by rw[List.length_eraseIdx_of_lt c];omega) (fun x a=>hb x (List.mem_of_mem_eraseIdx a));have q:=hb left[k] (List.getElem_mem c);have e:(It n (f+1) left s).1=(if left[k]=n then(⟨2,0,0⟩:hI)else⟨1,left[k],HU s/4294967296⟩)::(It n f (left.eraseIdx k) (HU s)).1:=by
   show(if left.getD (HU s/4294967296%(left.length:Int)).toNat 0=n then(⟨2,0,0⟩:hI)else⟨1,left.getD (HU s/4294967296%(left.length:Int)).toNat 0,HU s/4294967296⟩)::(It n f (left.eraseIdx (HU s/4294967296%(left.length:Int)).toNat) (HU s)).1=_
   rw[p,a]
  rw[e];refine⟨fun x a=> ?_,fun x a j=> ?_⟩
  ·rcases List.mem_cons.1 a with rfl|a
   ·split
    ·exact Or.inl rfl
    ·refine Or.inr ⟨left[k].toNat,HU s/4294967296,by omega,?_⟩
     rw[Int.toNat_of_nonneg q.1]
   ·exact r x a
  ·by_cases b:x=left[k]
   ·refine⟨HU s/4294967296,?_⟩
    rw[if_neg (by rw[<-b];exact j),b];exact List.mem_cons_self
   ·have:x∈left.eraseIdx k:=by
     obtain⟨i,o,g⟩:=List.getElem_of_mem a;exact List.mem_eraseIdx_iff_getElem.2 ⟨i,o,fun l=>b (by rw[<-g];subst l;rfl),g⟩
    obtain⟨d,m⟩:=t x this j;exact⟨d,List.mem_cons_of_mem _ m⟩
theorem Bo(n:Nat):∀x∈Jm n,0<=x/\x<=n:=fun x b=>by
 obtain⟨k,a,rfl⟩:=List.mem_map.1 b;have:=List.mem_range.1 a;exact⟨Int.natCast_nonneg k,by show(k:Int)<=n;omega⟩
theorem Sys.vU(hF:pC C n eB Z ks)(h:Sys C n Z ks tr P key K):key<n:=by
 rcases h with⟨ρ,m,w,bot,r,e,b,c,a,d,g,i,rfl⟩|⟨ρ,m,w,bot,s,e,b,c,a,d,-⟩|⟨ρ,m,w,bot,j,f,e,b,c,a,-⟩
 ·exact hF.n1
 ·exact d
 ·exact a
theorem tI:∀(a b:List hI) (K:KS),Kf C (a++b) K=((Kf C a K).1++(Kf C b (Kf C a K).2).1,(Kf C b (Kf C a K).2).2)
 |[],b,K=>rfl
 |x::a,b,K=>by
  show((ht C K x.kind x.wk x.draw).1++(Kf C (a++b) (ht C K x.kind x.wk x.draw).2).1,(Kf C (a++b) (ht C K x.kind x.wk x.draw).2).2)=_
  rw[tI a b];show(_++(_++_),_)=((_++_)++_,_)
  rw[List.append_assoc];rfl
theorem iX(n:Nat):∀(r:Nat) (s:Int),∀x∈HR n r s,kN n x
 |0,_,x,a=>by cases a
 |r+1,s,x,a=>by
  rcases List.mem_append.1 a with a|a
  ·exact(o1 n (n+1) (Jm n) s (I8 n) (Bo n)).1 x a
  ·exact iX n r _ x a
theorem One.vV(hF:pC C n eB Z ks)(b:Int):∀(a:Nat) (r:Int) (K:KS),One C n Z ks K->fk C n b a r K=true
 |0,_,_,_=>rfl
 |a+1,r,K,h=>by
  have c:=One.run hF _ K (iX n 40 (IntKind.u64.wrap (b+r))) h;unfold fk;rw[c.1,One.vV hF b a _ _ c.2,Bool.or_true];rfl
theorem Sys.rounds(hF:pC C n eB Z ks):∀(r:Nat) (s:Int) (K:KS) (tr:List (Int×Int×Int)) (P key:Nat),Sys C n Z ks tr P key K->
 (∃a c,a+r<=P/\Sys C n Z ks (tr++bd (Kf C (HR n r s) K).1) a c (Kf C (HR n r s) K).2)∨ru C n Z ks (tr++bd (Kf C (HR n r s) K).1) (Kf C (HR n r s) K).2
 |0,s,K,tr,P,key,h=>Or.inl ⟨P,key,Nat.le_refl _,by show Sys C n Z ks (tr++[]) P key K;rw[List.append_nil];exact h⟩
 |r+1,s,K,tr,P,key,h=>by
  obtain⟨R,j⟩:=nm (It n (n+1) (Jm n) s);obtain⟨k,l⟩:=o1 n (n+1) (Jm n) s (I8 n) (Bo n);rw[j]at k l;have e:HR n (r+1) s=R.1++HR n r R.2:=by rw[<-j];rfl
  have p:∃d,(⟨1,key,d⟩:hI)∈R.1:=l key (List.mem_map.2 ⟨key,List.mem_range.2 (by have:=h.vU hF;omega),rfl⟩) (by have:=h.vU hF;omega);obtain⟨d,o⟩:=p;rw[e,tI];dsimp only;rw[gd,<-List.append_assoc];rcases Sys.run hF R.1 K tr P key k h with⟨-,-,f3⟩|⟨a,c,f1,f2⟩|f
  ·exact absurd o (f3 d)
  ·rcases Sys.rounds hF r R.2 _ _ a c f2 with⟨m,k2,i,b⟩|g
   ·exact Or.inl ⟨m,k2,by omega,b⟩
   ·exact Or.inr g
  ·obtain⟨i,b⟩:=f.run hF (HR n r R.2) _ (iX n r R.2)
   rw[i,List.append_nil];exact Or.inr b
theorem Sys.vV(hF:pC C n eB Z ks)(f:∀ρ,Lo (rz (dp C n Z ρ ks.length).Z.table)=0/\eB (dp C n Z ρ ks.length).Z=true)(d:Int):∀(a:Nat) (r:Int) (b:List Ev) (K:KS) (P key:Nat),Sys C n Z ks (bd b) P key K->P<40*a->
 ∃tr K' Zn w bot,Ji C n d (fun K=>mY K.table) a r b K=(tr,K',true)/\lz n Zn w bot K'/\nc n Zn=true/\eB Zn=true/\∃m,bd tr=(ks.take m).flatMap (fun x=>x.2.2.filter fun s=>s.1 !=6)
 |0,r,b,K,P,key,_,h=>absurd h (Nat.not_lt_zero _)
 |a+1,r,b,K,P,key,h,z=>by
  unfold Ji;dsimp only;obtain⟨R,l⟩:=nm (Kf C (HR n 40 (IntKind.u64.wrap (d+r))) K);have k:=Sys.rounds hF 40 (IntKind.u64.wrap (d+r)) K _ P key h;rw[l,<-gd]at k;rw[l];rcases k with⟨o,q,y,j⟩|e
  ·rcases j.Gm hF with⟨t,Zn,w,bot,g,i,u,v⟩|⟨g,i⟩
   ·rw[if_pos t]
    exact⟨_,_,Zn,w,bot,rfl,g,i,u,v⟩
   ·rw[if_neg g,if_neg (by rw[i];rintro⟨-,-,h⟩;cases h)]
    exact Sys.vV hF f d a _ _ _ o q j (by omega)
  ·obtain⟨ρ,w,bot,c,-⟩:=e
   have p:K3 R.2=0:=by
    unfold K3;rw[c.at_.table];exact(f ρ).1
   rw[if_pos p];exact⟨_,_,_,w,bot,rfl,c.at_,c.zn,(f ρ).2,_,c.tr⟩
end
end
section
def BI:eI:=⟨0,fun _=>1,⟨90,fun _=>0,[]⟩,false,0,0,0,0,0⟩
def vW(C:KC)(n:Nat):Nat->r0->UKinds
 |0,_=>[]
 |f+1,S=>let r:=Bn C n S BI;((r.2.W 0).left,mZ r.2,r.1.map rs)::(if mZ r.2=2 then []else vW C n f (kv C n S BI))
def kO(n:Nat)(K:KS):Bool:=
 K.mem.cells.getD 0 0==0&&(List.range n).all (fun j=>K.mem.cells.getD (18+3*j) 0==1&&(K.W j).slot==0&&(K.W j).hand==0&&(K.W j).f.pc==90&&(K.W j).f.back.isEmpty&&(K.W j).f.r 0==0)&&decide (K.ring=[64])&&K.out.isEmpty&&K.wk.length==n&&nc n (gG n K)
def lu:UKinds->Bool
 |[]=>false
 |[x]=>x.2.1==2
 |x::y::l=>decide (x.2.1<=1)&&lu (y::l)
def Gd(C:KC)(n:Nat)(Z:gF)(ks:UKinds)(eB:gF->Bool)(ρ:Nat->eI):List vi×Bool:=((pq C n eB ρ ks.length 0 ⟨Z,0,1⟩).1,decide (Lo (rz (pq C n eB ρ ks.length 0 ⟨Z,0,1⟩).2.Z.table)=0)&&eB (pq C n eB ρ ks.length 0 ⟨Z,0,1⟩).2.Z)
section
variable{C:KC}{K:KS}{n:Nat}{eB:gF->Bool}{Z:gF}{ks:UKinds}{P key:Nat}
theorem tJ:∀{ks:UKinds},lu ks=true->∀m x,ks[m]?=some x->(m+1=ks.length/\x.2.1=2)∨(m+1<ks.length/\x.2.1<=1)
 |[],h,_,_,_=>by cases h
 |[x],h,0,y,a=>by
  injection a with a
  subst a;exact Or.inl ⟨rfl,beq_iff_eq.1 h⟩
 |[x],h,m+1,y,a=>by cases a
 |x::z::l,h,0,y,a=>by
  injection a with a
  subst a;unfold lu at h;rw[Bool.and_eq_true]at h;exact Or.inr ⟨by simp,of_decide_eq_true h.1⟩
 |x::z::l,h,m+1,y,a=>by
  unfold lu at h;rw[Bool.and_eq_true]at h;rcases tJ h.2 m y a with⟨c,b⟩|⟨c,b⟩
  ·exact Or.inl ⟨by rw[List.length_cons,<-c],b⟩
  ·exact Or.inr ⟨by rw[List.length_cons];omega,b⟩
theorem B1(d:1<=n)(f:n<=4)(a:(qd C.dH n 90 121 (uStart 90)&&rch C.dH n 90 120 (uStart 90))=true)(b:Gd C n Z ks eB=fun ρ=>(y8 n ρ 0 ks,true))(k:nc n Z=true)(i:lu ks=true)(j:ks.length<=1000000):
 pC C n eB Z ks/\∀ρ,Lo (rz (dp C n Z ρ ks.length).Z.table)=0/\eB (dp C n Z ρ ks.length).Z=true:=by
 rw[Bool.and_eq_true]at a;have g:(fun ρ=>(pq C n eB ρ ks.length 0 ⟨Z,0,1⟩).1)=fun ρ=>y8 n ρ 0 ks:=funext fun ρ=>congrArg Prod.fst (congrFun b ρ)
 refine⟨⟨d,f,a.1,a.2,fun ρ m x c=>vD g ρ (List.getElem?_eq_some_iff.1 c).1 c,k,tJ i,j⟩,fun ρ=> ?_⟩;have h:=congrArg Prod.snd (congrFun b ρ);have h:(decide (Lo (rz (pq C n eB ρ ks.length 0 ⟨Z,0,1⟩).2.Z.table)=0)&&eB (pq C n eB ρ ks.length 0 ⟨Z,0,1⟩).2.Z)=true:=h;have e:=tE (C:=C) (n:=n) (eB:=eB) (Z:=Z) (ρ:=ρ) ks.length 0;rw[show pq C n eB ρ ks.length 0 (dp C n Z ρ 0)=pq C n eB ρ ks.length 0 ⟨Z,0,1⟩from rfl,Nat.zero_add]at e;rw[e,Bool.and_eq_true,decide_eq_true_eq]at h;exact h
theorem ns(hF:pC C n eB (gG n K) ks)(h:kO n K=true)(t:0<ks.length):Sys C n (gG n K) ks [] (ey ks+123) 0 K:=by
 unfold kO at h;simp only[Bool.and_eq_true,List.all_eq_true,List.mem_range,beq_iff_eq,decide_eq_true_eq,List.isEmpty_iff]at h;obtain⟨⟨⟨⟨⟨p,m⟩,q⟩,r⟩,s⟩,c⟩:=h;obtain⟨u,d,v,x⟩:=fT c;have d:17+3*n<=K.mem.cells.length:=by
  have:17+3*n<=(lay 0 (fun _=>0) K.mem.cells n).length:=d;rw[b7]at this;exact this
 have o:∀j,j<n->qe C n 0 (fun k=>K.mem.cells.getD (18+3*k) 0) K 120 j:=fun j a=>by
  obtain⟨⟨⟨⟨⟨b,e⟩,f⟩,g⟩,i⟩,l⟩:=m j a;refine⟨e,f,Nat.le_refl _,?_⟩;show qN C.dH n j 90 0 K.ring 120 (K.W j).f (K.mem.cells.getD (18+3*j) 0)
  rw[b];exact qN.start hF.hR hF.hZ g i (by rw[l];exact Int.le_refl _)
 refine Or.inl ⟨fun _=>BI,0,0,fun k=>K.mem.cells.getD (18+3*k) 0,120,⟨⟨?_,rfl,rfl,rfl,rfl,rfl,rfl,r,s⟩,fun j a=> ?_,c,c,⟨Int.le_refl _,Int.le_refl _⟩,rfl⟩,t,rfl,q,fun j a=>⟨120,o j a⟩,o 0 hF.n1,rfl,rfl⟩
 ·show K.mem=⟨lay 0 _ (lay 0 (fun _=>0) K.mem.cells n) n,K.mem.width⟩
  have:=vC (w:=0) (bot:=fun _=>0) d;rw[p]at this;rw[this]
 ·right
  obtain⟨⟨⟨⟨⟨b,e⟩,f⟩,g⟩,i⟩,l⟩:=m j a;exact b
theorem vX(o:1<=n)(p:n<=4)(r:(qd C.dH n 90 121 (uStart 90)&&rch C.dH n 90 120 (uStart 90))=true)(b:kO n K=true)(t:Gd C n (gG n K) ks eB=fun ρ=>(y8 n ρ 0 ks,true))(f:lu ks=true)
 (a:Nat) (d:ey ks+123<40*a) (v:a<=1499) (c:Int):
 fk C n c a 0 K=true/\∃tr K' Zn w bot,Ji C n c (fun K=>mY K.table) a 0 [] K=(tr,K',true)/\lz n Zn w bot K'/\17+3*n<=Zn.cells.length/\eB Zn=true/\∃m,bd tr=(ks.take m).flatMap (fun x=>x.2.2.filter fun s=>s.1 !=6):=by
 have u:nc n (gG n K)=true:=by
  unfold kO at b;rw[Bool.and_eq_true]at b;exact b.2
 have hlen:ks.length<=1000000:=by unfold ey at d;omega
 obtain⟨hF,q⟩:=B1 o p r t u f hlen;have g:0<ks.length:=by
  cases ks with
  |nil=>cases f
  |cons x l=>exact Nat.succ_pos _
 obtain⟨tr,K',Zn,w,bot,e,h,i,j,k⟩:=Sys.vV hF q c a 0 [] K _ 0 (ns hF b g) d;exact⟨One.vV hF c a 0 K (Or.inl ⟨_,_,_,ns hF b g⟩),tr,K',Zn,w,bot,e,h,(fT i).2.1,j,k⟩
theorem vY{w:Int}{bot:Nat->Int}{Zn:gF}(h:lz n Zn w bot K)(b:17+3*n<=Zn.cells.length){a:Nat}(d:17+3*n<=a)(c:Zn.width.getD a 0≠0):K.mem.acc 0 (a:Int) 0 0=(some (Zn.cells.getD a 0),K.mem):=by
 rw[h.mem];unfold aI.acc aI.wid;dsimp only;rw[Int.toNat_natCast,if_neg c];simp only[show¬((0:Int)=3)from by decide,show¬((0:Int)=4)from by decide,show¬((0:Int)=1∨(0:Int)=2)from by decide,if_false];rw[iC n b a (by omega) (fun j e=>by omega)]
end
end
variable{t:TypeId}
theorem Bb{α:Type}{enc:α->List Value}{k:Nat}(a:∀x,(enc x).length=k){g q:Nat}{L:List α}{f:List Value}{X:α}(r:Row w g t (L.flatMap enc++f))(c:L[q]?=some X)(j:Nat)(b:j<k)(v:Value)(e:(enc X)[j]?=some v):
 w.cell? (g,q*k+j)=some v:=r.cell (by
 have d:=(List.getElem?_eq_some_iff.1 c).1;rw[List.getElem?_append_left (by rw[aU a];exact Nat.lt_of_lt_of_le (Nat.add_lt_add_left b _) (by rw[<-Nat.succ_mul];exact Nat.mul_le_mul_right _ d))];exact(bJ a c b).trans e)
structure Gk where
 t:Int
 a:Int
 m:Int
 d:Int
def Gk.cells(x:Gk):List Value:=[.int .u64 x.t,.int .u64 x.a,.int .u64 x.m,.int .u64 x.d]
attribute [local go_sem] Oper.semAt_some
variable{k:Nat}
def gH(q:List bq):List (Int×Int):=(q.filter fun r=>r.handle !=0).map fun r=>(r.handle,r.addr)
theorem Bc(q:List bq):(gH q).length<=q.length:=by unfold gH;rw[List.length_map];exact List.length_filter_le _ _
theorem wR{q:List bq}{r:bq}(h:q[k]?=some r):gH (q.take (k+1))=gH (q.take k)++if r.handle !=0 then [(r.handle,r.addr)]else []:=by
 unfold gH;rw[List.take_add_one,h,List.filter_append,List.map_append];cases a:r.handle !=0<;>simp[a]
theorem tK(W:World)(T:TypeId)(s:Nat):(W.alloc (.cells #[] T)).ownsRow W.heap.size T s (.slice (some (W.heap.size,0)) 0 0) 0 []:=⟨by simp,Or.inr ⟨W.heap.size,0,#[],rfl,Nat.le_refl _,heap_alloc_new W _,by omega,by decide,by simp,by simp⟩⟩
theorem ry(a:Nat)(w:World):
 Calls prog 25 #[(a,0)] w (fun e w'=>e=.returned (.func (.func 35) #[] #[(w.heap.size,0)])/\w.alloc (.cells #[(a,0)] 70)=w'):=by
 go_wp2
 go_ret;exact⟨rfl,rfl⟩
theorem ud(n:Nat)(eL:1<=n)(l O b g:Nat)(q:List bq){S:World->World->Prop}{Sep:World->Nat->Prop}(c7:uv S Sep)(c R:List (Int×Int)->World->Prop)(W:World)
 (c8:∀d k o,Ch ag W d->W.heap.size<=k->d.heap[k]?=some o->o.isCells=true->Sep d k) (c9:∀A B k,Ch ag A B->k<A.heap.size->Sep A k->Sep B k) (c4:∀pre T d,Ch ag T d->c pre T->c pre d)
 (cb:∀pre x W,c pre W->pre.length<64->YieldAt Fence.wide (n-1) prog l #[.int .u64 x.1,.int .u64 x.2] W fun e W'=>
  (e=.returned (.bool true)/\c (pre++[x]) W'/\S W W')∨(e=.returned (.bool false)/\R (pre++[x]) W'))
 (c3:W.cell? (O,0)=some (.pointer (some (b,0)))) (t:bP W b g q) (c2:c [] W):
 Calls prog 35 #[.func (.yield l) #[] #[],(O,0)] W fun e W'=>(∃v,e=.returned v)/\
  ((∃a5,a5=gH q/\c a5 W')∨(∃pre,True/\R pre W')):=by
 have p:=Z t;have bw:=Z c8;have Q:=Z c9;have E:=Z c4;have c0:=Z cb;have a9:=Z c2;have bi:=Z c7;have c1:=t.head.c1;have am:=Z (info_parts s');obtain⟨cW,ci,cL,cQ,cS⟩:=am.out;have al:=Z ci;have ab:Hid (∀j u,(q.flatMap bq.cells)[j]?=some u->W.cell? ((⟨g,0,none⟩:Addr).add j)=some u):=Z (fun j u J=>by
  have cd:(⟨g,0,none⟩:Addr).add j=⟨g,j,none⟩:=by unfold Addr.add;split<;>simp_all
  rw[cd];exact p.rows.cell J)
 have ce:(q.flatMap bq.cells).length=64*4:=by rw[aU (enc:=bq.cells) (k:=4) (fun _=>rfl),p.len]
 have et:=ia c3 (.cells #[] 111);have ej:=ia c1 (.cells #[] 111);have cq:∀u∈q.flatMap bq.cells,u.oneCell'=true:=fun u cA=>by
  obtain⟨X,_,V⟩:=List.mem_flatMap.1 cA;simp only[bq.cells,List.mem_cons,List.not_mem_nil,or_false]at V;rcases V with rfl|rfl|rfl|rfl<;>rfl
 go_in
 go_wp2_with (at_builtin;refine wpList_append_own _ rfl _ _ _ rfl (W.heap.size) 111 cW _ 4 32 underlying107 al cL cQ cS rfl (by omega) _ 0 [] rfl ?_ ⟨g,0,none⟩ 64 64 (q.flatMap bq.cells) rfl ce ?_ cq (by unfold maxLen;omega) (by omega) ?_ ?_)
 ·exact tK W _ _
 ·exact fun j u J=>ia (ab j u J) _
 ·simp
 intro v' w0 M ch es;have M:w0.ownsRow W.heap.size 111 4 v' 64 (q.flatMap bq.cells):=by simpa using M
 have H:Ch ag W w0:=eX ay (tK W 111 4) (Nat.le_refl _) ch;have dC:=Z H;have ap:=Z (E [] W w0 H a9);obtain⟨G,cs,dr,rfl,a0,-,-,a2,-⟩:=aE M (by decide);have ad:=Z (And.intro a0 a2);have bx:=Z (bw w0 G _ H a0 a2 rfl);go_upto_block 0 with fail
 refine(wpIn_wide (n:=n)).1 ?_
 gi_wp2_with fail
 gi_loopw [12] (fun i N=>∃m:Nat,m<=64/\i=.int .i64 m/\Hid (c (gH (q.take m)) N/\Row N G 111 (q.flatMap bq.cells++dr)/\Sep N G)) (fun i _=>64-(intOf i).toNat)
 case atStart=>exact⟨0,by omega,rfl,Z ⟨ap,ad.2,bx⟩⟩
 case round=>
  obtain⟨m,ex,rfl,a⟩:=hrel;by_cases cm:m<64
  ·obtain⟨r,a1⟩:∃r,q[m]?=some r:=⟨_,List.getElem?_eq_getElem (by rw[p.len];exact cm)⟩
   have s:=Z (wR a1);have y:=Bb (k:=4) (enc:=bq.cells) (fun _=>rfl) a.2.1 a1;have x0:=y 0 (by decide) _ rfl;have x1:=y 1 (by decide) _ rfl;have x2:=y 2 (by decide) _ rfl;have x3:=y 3 (by decide) _ rfl;rw[Nat.add_zero]at x0;have eA:(m:Int)<64:=(by omega);have eC:(0:Int)<=m:=(by omega);have av:Hid ((gH (q.take m)).length<64):=Z (Nat.lt_of_le_of_lt (Bc _) (by rw[List.length_take];omega));obtain⟨tm,I,kd,U⟩:=r;dsimp only at x0 x1 x2 x3;cases a4:(I !=0)with
   |false=>
    rw[a4]at s
    gi_wp2_with fail
    refine⟨(fun f h=>by cases h),?_⟩
    gi_wp2_with fail
    go_roundw
    case rel=>exact⟨m+1,by omega,by simp,Z ⟨by rw[s,if_neg (by decide),List.append_nil];exact E _ _ _ ay a.1,a.2.1.alloc _,Q _ _ _ ay a.2.1.lt a.2.2⟩⟩
    case measure=>simp[intOf];omega
   |true=>
    rw[a4]at s;obtain⟨w2,a3⟩:=nm (wr.alloc (.cells #[.int .u64 tm,.int .u64 I,kd,.int .u64 U] 111));have z:Hid (Ch ag wr w2):=Z (Ch.al a3);have D:=Z (And.intro (a.2.1.ch z (fun h=>h)) (Q _ _ _ z a.2.1.lt a.2.2));obtain⟨en,tmps,assign,body,cC,t⟩:=c0 _ (I,U) w2 (E _ _ _ z a.1) av;have bv:=Z t;subst a3;dsimp only at cC
    gi_wp2_with fail
    refine bv.mono ?_;rintro e dN (⟨rfl,c5,cl⟩|⟨rfl,c6⟩)
    ·have F:=Z c5
     have P:=Z (bi.keep cl D.2 D.1.lt)
     gi_wp2_with fail
     go_roundw
     case rel=>exact⟨m+1,by omega,by simp,Z ⟨by rw[s,if_pos trivial];exact F,P.1.trans D.1,P.2⟩⟩
     case measure=>simp[intOf];omega
    ·have F:=Z c6
     gi_wp2_with fail
     refine bodyPost_ret (results_none rfl _ _ _) rfl ?_;exact⟨⟨_,rfl⟩,.inr ⟨_,trivial,F⟩⟩
  ·obtain rfl:m=64:=by omega
   gi_wp2_with fail
   go_end0
   exact⟨⟨_,rfl⟩,.inl ⟨_,rfl,by have:=a.1;rwa [List.take_of_length_le (by rw[p.len];omega)]at this⟩⟩
theorem pX(n:Nat)(I:1<=n)(c b g:Nat)(q:List bq){i:World->World->Prop}{Sep:World->Nat->Prop}(D:uv i Sep)(w:World)
 (j:w.cell? (c,0)=some (.pointer (some (b,0)))) (E:bP w b g q) (F:∀W a k o,Below w.heap.size w W->Ch ag W a->W.heap.size<=k->a.heap[k]?=some o->o.isCells=true->Sep a k) (G:∀A B k,Ch ag A B->k<A.heap.size->Sep A k->Sep B k):
 SeqStopsK Fence.wide n prog 35 #[(c,0)] (fun x:Int×Int=>#[Value.int .u64 x.1,Value.int .u64 x.2]) i (fun J=>J=gH q) (fun _=>True) 64 w:=fun l r s W m z M H u=>by
 have p:=Ch.bT m;exact callsIn_wide.2 (ud n I l c b g q D r s W (fun a k o d f v y=>F W a k o m d f v y) G (fun pre t a d f=>z pre t a none f d.grown (fun _ e=>by cases e)) H ((p.cell (aQ j) (fun h=>h)).trans j) (E.ch p (fun h=>h) (fun h=>h)) u)
def B3(lc:Nat)(A:World)(k:Nat):Prop:=Eb lc A k/\lc<A.heap.size
theorem ES(lc:Nat):uv (yQ lc) (B3 lc):=⟨fun {A B k} h ⟨a,c⟩ b=>⟨((Bp lc).keep h a b).1,((Bp lc).keep h a b).2,Nat.lt_of_lt_of_le c h.size⟩⟩
theorem Be{lc:Nat}{A B:World}(c:Ch ag A B)(l:k<A.heap.size)(h:B3 lc A k):B3 lc B k:=by
 obtain⟨⟨⟨o,b,d⟩,f,g⟩,a⟩:=h;have e:∀j,j<A.heap.size->B.heap[j]?=A.heap[j]?:=fun j i=>c.same j i (fun h=>h)
 exact⟨⟨⟨o,(e k l).trans b,d⟩,f,fun⟨v,n,m⟩=>g ⟨v,(e lc a).symm.trans n,m⟩⟩,Nat.lt_of_lt_of_le a c.size⟩
section
variable{w:World}{χ:Nat->a'}{L:cU}{Y:Var}{C:KC}{K:KS}
theorem o3(h:ae w χ L Y C K):Calls prog 9 #[.pointer (some ⟨L.mb,0,none⟩)] w (wP ((gH K.cT).map Prod.fst) w):=by
 obtain⟨lc,E⟩:=nm w.heap.size;obtain⟨w1,P⟩:=nm (w.alloc (.cells #[.slice none 0 0] 35));have a1:Hid (Boxed w1 lc 35 (.slice none 0 0)):=Z (by rw[<-P,<-E];exact Boxed.new _ _ _);have d:Hid (Ch ag w w1):=Z (Ch.al P);have S:=Z (h.af d);have a9:Hid (w1.heap.size=lc+1):=Z (by rw[<-P,<-E];simp);have c5:=S.iq;obtain⟨c4,U,c1,c2,c3⟩:=info_parts g';have a4:=Z U;clear U;refine dx func9 rfl ?_;simp only[ntmps9,List.size_toArray,List.length_cons,List.length_nil,Nat.reduceAdd,Nat.reduceSub,Array.replicate_succ,Array.replicate_zero,List.push_toArray,List.append_toArray,List.nil_append,List.cons_append];go_wp2_with fail
 refine(ry L.ob w1).mono ?_;rintro e w4 ⟨rfl,s⟩;have f:Hid (Ch ag w1 w4):=Z (Ch.al s);have a5:Hid (Row w4 w1.heap.size 70 [.pointer (some ⟨L.ob,0,none⟩)]):=Z (Row.al s);have Q:Hid (Boxed w4 lc 35 (.slice none 0 0)):=Z (by rw[<-s];exact a1.alloc _);have t:Hid (w4.heap.size=lc+2):=Z (by rw[<-s];simp[a9.out]);have ab:=Z (S.af f);clear s c5;go_wp2_with fail
 have V:=pX (5-1) (by omega) w1.heap.size L.ob L.og K.cT (ES lc) w4 (a5.cell (i:=0) rfl) (ab.obj (by simp)).is (fun W J k o hb am O M N=>by
  have bx:=hb.size;have a0:Boxed J lc 35 (.slice none 0 0):=((show Row w4 lc 35 [.slice none 0 0]from Q.out).ch (Ch.bT hb) (fun h=>h)).ch am (fun h=>h);refine⟨⟨⟨o,M,N⟩,by rw[t]at bx;omega,fun⟨v,a,e⟩=> ?_⟩,(show Row J lc _ _ from a0).lt⟩;have:=(show J.heap[lc]?=_ from a).symm.trans a0;simp at this;subst this;simp[Value.ownBlock]at e) (fun A B k=>Be)
 refine(wpIn_wide (n:=5)).1 ?_;apply wpIn_rangeFunc_ownG (F:=Fence.wide) (n:=5) rfl (by omega) (gf:=35) (lb:=#[.pointer (some ⟨w1.heap.size,0,none⟩)]) rfl trivial (enters_of func35 (by kernel_rfl) rfl) V (fun h k=>yQ.trans h k) (fun W l o c6 av M N _=>yQ.put W l o c6 (by rw[t]at av;omega) M N) (Below.refl _ _) (fun _=>rfl)
  (fun pre W=>Below w.heap.size w4 W/\∃v,Boxed W lc 35 v/\W.ownsRow lc 22 1 v pre.length (pre.map fun p=>Value.int .u64 p.1)/\True) (fun c pre W=>False)
  (OwnFrom.and (ownFrom_below (by have:=d.size;have:=f.size;omega) (by have:=d.size;have:=f.size;omega)) ((holdsRow_own lc lc 35 22 1 (fun pre:List (Int×Int)=>pre.length) (fun pre=>pre.map fun p=>Value.int .u64 p.1) (fun _ _=>True)).from _))
  (fun c=>fun _ _ _ _ h _ _=>h)
  ⟨Below.refl _ _,_,Q,⟨by simp,Or.inl ⟨rfl,rfl⟩⟩,trivial⟩
 ·intro l x W K j
  gi_wp2
  exact j
 ·rintro l pre ⟨c7,ci⟩ W ⟨g,v,a,b,-⟩ hlen
  have ce:=g.size;have ad:=a.cell;have fb:=a.frozen;have I:=Z a;have R:=Z b;have a2:=Z g
  gi_wp2_with (first|(gi_at_builtin;refine hS _ rfl _ _ 35 rfl lc 22 c4 (.int .u64 0) 1 8 underlying35 a4 c1 c2 c3 rfl (by decide) _ _ _ rfl (R.alloc _) ⟨W.heap.size,0,none⟩ 1 1 [.int .u64 c7] rfl rfl (cell_one_new _ _ _) (by simp[Value.oneCell']) (by omega) (by unfold maxLen;omega) (by omega) (by have:=t.out;simp;omega) ?_;intro g' c9 ch bw q y;obtain⟨X,m,G,r,z⟩:=I.appended (by decide) R (by have:=t.out;omega) (Nat.le_refl _) bw q;have c8:=X.cell;have f3:=X.frozen;have u:=Z (And.intro m (And.intro G (And.intro r z)));have a3:=Z (And.intro q y);clear q y m G r z))
  obtain⟨m,G,r,z⟩:=u.out;obtain⟨q,y⟩:=a3.out;refine⟨r.from _,⟨r.size,fun k o O cd bi bv=> ?_,fun k ⟨v',c0,e⟩=> ?_⟩,⟨(show Below lc w4 W from E▸a2).trans z,_,m,?_⟩⟩
  ·have ap:=lx O
   refine(Below.heap_setCell _ _ _ k (fun e=>bi e)).trans ((q.block k (by simp;omega) (fun e=>bv ⟨v,I,e.symm⟩)).trans ((Ms _ _ _ ap).trans O))
  ·have:=(show _=some (Obj.cells #[v'] 35 (0,0))from c0).symm.trans m
   simp at this;subst this;obtain rfl:g'=k:=by simpa[Value.ownBlock]using e
   rcases y with h|h
   ·exact Or.inl ⟨v,I,h⟩
   ·exact Or.inr (by rw[h];simp)
  ·simpa using G
 ·rintro D cl W T rfl ⟨g,v,a,b,-⟩ j
  have ad:=a.cell;have H:=Z j;have u:=Z (And.intro g b);clear V g j b;go_wp2_with fail
  refine⟨by simp,.inl ⟨_,_,rfl,run_takeDeferred H,?_⟩⟩;refine⟨_,results_tmp rfl _ _ _,?_⟩;have b:=ownsRow_putObj u.2 (.deferred none) H rfl;have al:Below w.heap.size w (W.putObj D (.deferred none)):=(((d.trans f).ib).trans u.1).trans (belowK_b (w:=w4) (by have:=d.size;have:=f.size;omega) W D (.deferred (some [])) (.deferred none) T H rfl rfl);exact⟨⟨_,rfl,by rw[E,List.map_map,List.length_map];exact b⟩,Ch.bT al⟩
 ·rintro D c pre W T cb hF j
  exact hF.elim
end
