import Derived.Deep.RegionLawGrows
import Derived.Test.YtfnilkpkogipfaaGreatDoorZAg
set_option linter.unusedVariables false
set_option linter.unusedSimpArgs false
set_option maxRecDepth 100000
set_option maxHeartbeats 8000000
namespace Go.Proofs.YtfnilkpkogipfaaGreatDoor
open Go.RowKit Go.Proofs.Tryz
section
attribute [local go_sem↓] Go.wp_at_zero Go.wp_at_succ
def aZ.jR(S:aZ)(n:Nat):Nat->Nat->Option Nat
 |0,_=>none
 |f+1,i=>if(S.fV i:Int)-S.ee i<n then aZ.jR S n f (i+1)else some i
def aZ.find(S:aZ)(n:Nat):Option Nat:=S.jR n (S.l.length+1) 0
def c'(S:aZ)(M:aF)(n:Nat):Option Nat×aZ×aF:=
 if n=0∨4096<n then(none,S,M)else
 match S.find n with
 |none=>(none,S,M)
 |some i=>if(M.map (S.ee i) n 64).1=true then(some (S.ee i),{S with l:=S.l.take i++[⟨S.ee i,n,64⟩]++S.l.drop i},(M.map (S.ee i) n 64).2)else(none,S,M)
def lf(b:Nat)(v:Value)(m c a:Nat):Nat->Prop:=fun i=>dv b v i∨dE m c a i
def Cu(x:Option Nat×aZ×aF)(b m c d:Nat)(v:Value)(w:World)(e:Ending)(w':World):Prop:=
 (match x.1 with
  |some a=>e=.returned (.tuple #[.int .i64 a,.nilIface])
  |none=>∃u,e=.returned (.tuple #[.int .i64 0,u])/\aq u)/\(∃f,aR w' b m f x.2.1/\aQ w v f)/\aO w' m c d x.2.2/\Ch (lf b v m c d) w w'
theorem fN(n:Int)(t:TypeId)(x:Value)(w:World):Calls prog 126 #[n,.iface t x] w (fun e w'=>e=.returned (.iface 197 (.pointer (some (w.heap.size,0))))/\w.alloc (.cells #[.string ⟨#[97,108,108,111,99]⟩,n,.iface t x] 199)=w'):=by
 go_enter func126,ntmps126
 go_wp2
 go_ret;exact⟨rfl,rfl⟩
theorem vG(w:World)(a b:Nat):(w.drewN a).drewN b=w.drewN (a+b):=by unfold World.drewN;simp[Nat.add_assoc]
theorem uE:(prog.info? 274).map (fun i=>(i.zero,i.size,i.bytes))=some (some (.agg #[.int .i64 0,.int .i64 0,.int .i64 0]),3,24):=by kernel_rfl
theorem aR.gW{w:World}{b m c d:Nat}{v:Value}{S:aZ}{M:aF}(h:aR w b m v S)(a:aO w m c d M):(¬dE m c d b/\∀g,v.ownBlock=some g->¬dE m c d g)/\(¬dv b v m/\¬dv b v c/\¬dv b v d):=by
 refine⟨⟨?_,?_⟩,?_,?_,?_⟩
 ·rintro(e|e|e)
  ·exact h.head.ne a.head (by decide) e
  ·exact h.head.ne a.cells (by decide) e
  ·exact h.head.ne a.width (by decide) e
 ·rintro g f (e|e|e)
  ·exact aY h.own a.head (by decide) (by rw[f,e])
  ·exact aY h.own a.cells (by decide) (by rw[f,e])
  ·exact aY h.own a.width (by decide) (by rw[f,e])
 ·rintro(e|e)
  ·exact h.head.ne a.head (by decide) e.symm
  ·exact aY h.own a.head (by decide) e
 ·rintro(e|e)
  ·exact h.head.ne a.cells (by decide) e.symm
  ·exact aY h.own a.cells (by decide) e
 ·rintro(e|e)
  ·exact h.head.ne a.width (by decide) e.symm
  ·exact aY h.own a.width (by decide) e
theorem aR.app{w w4:World}{b m g cap:Nat}{v:Value}{S:aZ}{z:ic}(h:aR w b m v S)
 (d:w4.ownsRow 0 274 3 (.slice (some (g,0)) (S.l.length+1) cap) (S.l.length+1) (S.l.flatMap ic.cells++z.cells)) (j:w.grownBy w4 v.ownBlock):
 aR (w4.setCell (b,3) (.slice (some (g,0)) (S.l.length+1) cap)) b m (.slice (some (g,0)) (S.l.length+1) cap) {S with l:=S.l++[z]}/\
 Ch (dv b v) w (w4.setCell (b,3) (.slice (some (g,0)) (S.l.length+1) cap)):=by
 have c:=Ch.bQ j;have a:=h.head.ch c (aY h.own h.head (by decide));have f:b≠g:=by
  intro e;subst e;exact aY d a (by decide) rfl
 refine⟨⟨a.a' _ _ rfl,?_⟩,(Ch.mono (E:=dv b v) c fun i n=>Or.inr n).gS (p:=⟨b,3,none⟩) (Or.inl rfl) _⟩;have:(S.l++[z]).flatMap ic.cells=S.l.flatMap ic.cells++z.cells:=by simp
 rw[this];show(w4.setCell (b,3) _).ownsRow 0 274 3 _ (S.l++[z]).length _
 rw[List.length_append,List.length_cons,List.length_nil];exact ar (D:=aK b) d ((Ch.refl _ _).only 3 (.slice (some (g,0)) (S.l.length+1) cap)) (fun k o e=>by
  have:g=k:=by simpa[Value.ownBlock]using o
  subst this;exact f (show _=_ from e.symm))
def ic.zero:ic:=⟨0,0,0⟩
theorem aR.lay{w:World}{b m g n cap:Nat}{S:aZ}{l:List ic}(h:aR w b m (.slice (some (g,0)) n cap) {S with l:=l})(c:n=l.length){i:Nat}(f:i<l.length)(x:ic){i1 i2:Nat}(o:i1=i*3+1)(p:i2=i*3+2):
 aR (((w.setCell (g,i*3) (.int .i64 x.at_)).setCell (g,i1) (.int .i64 x.n)).setCell (g,i2) (.int .i64 x.w)) b m (.slice (some (g,0)) n cap) {S with l:=l.set i x}:=by
 obtain⟨y,q⟩:∃y,l[i]?=some y:=⟨_,List.getElem?_eq_getElem f⟩;have d:b≠g:=fun e=>aY h.own h.head (by decide) (by rw[e];rfl)
 have j:=h.own;rw[show({S with l:=l}:aZ).l=l from rfl,<-c]at j;have r:=hI j ic.len q 0 (by omega) (a:=i*3) (by omega) (v:=.int .i64 x.at_) (y:=⟨x.at_,y.n,y.w⟩) rfl c;have s:=hI r ic.len (x:=⟨x.at_,y.n,y.w⟩) (by simp[f]) 1 (by omega) o (v:=.int .i64 x.n) (y:=⟨x.at_,x.n,y.w⟩) rfl (by simpa using c);have k:=hI s ic.len (x:=⟨x.at_,x.n,y.w⟩) (by simp[f]) 2 (by omega) p (v:=.int .i64 x.w) (y:=x) rfl (by simpa using c);rw[List.set_set,List.set_set]at k;refine⟨((h.head.other d _).other d _).other d _,?_⟩;show World.ownsRow _ 0 274 3 _ (l.set i x).length _
 rw[List.length_set,<-c];exact k
theorem ye{α:Type}(l:List α)(k:Nat)(x:α)(a:k<l.length):(l.take (k+1)++l.drop k).set k x=l.take k++[x]++l.drop k:=by
 rw[List.take_succ_eq_append_getElem a,List.append_assoc,List.append_assoc,List.set_append_right _ _ (by rw[List.length_take];omega)]
 congr 1
 rw[List.length_take,Nat.min_eq_left (by omega),Nat.sub_self];rfl
theorem uF{α:Type}(l:List α)(z x:α){k:Nat}(a:k=l.length):(l++[z]).set k x=l.take k++[x]++l.drop k:=by subst a;simp
theorem kk(b m c j:Nat)(v:Value)(S:aZ)(M:aF)(ap:S.Ok)(n:Nat)(ii:n<=1000000)(w:World)(h:aR w b m v S)(c6:aO w m c j M):
 Calls prog 98 #[.pointer (some ⟨b,0,none⟩),.int .i64 n,.int .i64 64] w (Cu (c' S M n) b m c j v w):=by
 obtain⟨hF,ec,hw,eC,hB⟩:=info_parts uE;have c0:=Z ec;have H:=Z h;have cb:=Z c6;have cd:=Z ap;clear ec;by_cases c1:n=0
 ·have E:Hid (c' S M n=(none,S,M)):=Z (by unfold c';rw[if_pos (Or.inl c1)])
  subst c1;clear h c6 ap;go_enter func98,ntmps98
  go_wp2_with (go_at_call 126;refine(fN _ _ _ _).mono ?_;rintro e w' ⟨rfl,rfl⟩)
  go_ret2;rw[E];exact⟨⟨_,rfl,aq.mk _ _⟩,⟨v,H.alloc _,aQ.refl _ _⟩,cb.alloc _,(Ch.refl _ _).alloc _⟩
 by_cases ad:4096<n
 ·have E:Hid (c' S M n=(none,S,M)):=Z (by unfold c';rw[if_pos (Or.inr ad)])
  have i3:(4096:Int)<n:=by omega
  have fz:¬((n:Int)<1):=by omega
  clear h c6 ap c1;go_enter func98,ntmps98
  go_wp2_with (go_at_call 126;refine(fN _ _ _ _).mono ?_;rintro e w' ⟨rfl,rfl⟩)
  go_ret2;rw[E];exact⟨⟨_,rfl,aq.mk _ _⟩,⟨v,H.alloc _,aQ.refl _ _⟩,cb.alloc _,(Ch.refl _ _).alloc _⟩
 have E:Hid (c' S M n=match S.find n with
  |none=>(none,S,M)
  |some i=>if(M.map (S.ee i) n 64).1=true then(some (S.ee i),{S with l:=S.l.take i++[⟨S.ee i,n,64⟩]++S.l.drop i},(M.map (S.ee i) n 64).2)else(none,S,M)):=Z (by unfold c';rw[if_neg (by omega)])
 have fz:¬((n:Int)<1):=by omega
 have i4:¬((4096:Int)<n):=by omega
 obtain⟨G,I,av⟩:=aA h.own;obtain⟨N,c2⟩:=mn S.l.length;rw[<-c2]at av;have F:=Z c2;have i5:N<=900000:=by rw[c2];exact ap.len
 subst av;clear h c6 ap c2 c1;go_enter func98,ntmps98
 go_wp2
 go_loopw [8] (fun s wr=>∃k:Nat,s=.int .i64 k/\k<=N+1/\Hid (S.jR n (N+1-k) k=S.find n/\∃q,wr=w.drewN q)) (fun s _=>N+1-(intOf s).toNat)
 case atStart=>exact⟨0,rfl,Nat.zero_le _,by rw[F];rfl,0,rfl⟩
 case round=>
  obtain⟨k,rfl,i9,a3⟩:=hrel;have V:Hid (aR wr b m (.slice G N I) S/\aO wr m c j M/\Ch (lf b (.slice G N I) m c j) w wr):=Z (by
   obtain⟨q,rfl⟩:=a3.2;exact⟨H.drewN q,cb.drewN q,(Ch.refl _ _).drewN q⟩)
  have cS:=V.1.head.k 3 rfl;by_cases en:k<=N
  ·have hl:(k:Int)<=N:=by omega
   have c8:Hid (S.jR n (N+1-k) k=if(S.fV k:Int)-S.ee k<n then S.jR n (N+1-(k+1)) (k+1)else some k):=Z (by
    rw[show N+1-k=(N+1-(k+1))+1 from by omega,aZ.jR])
   have hv:S.ee k<=140000/\S.fV k<=140000:=by
    have c3:=cd.out;have i8:=c3.from_;have io:=c3.xK;refine⟨?_,?_⟩
    ·unfold aZ.ee
     split
     ·omega
     ·split
      ·rename_i x bi;have:=c3.l x (List.mem_of_getElem? bi);omega
      ·omega
    ·unfold aZ.fV
     split
     ·omega
     ·split
      ·rename_i x bi;have:=c3.l x (List.mem_of_getElem? bi);omega
      ·omega
   obtain⟨a,c4⟩:=mn (S.ee k);obtain⟨st,cq⟩:=mn (S.fV k);have eS:Hid (∀w,aR w b m (.slice G N I) S->Calls prog 127 #[.pointer (some ⟨b,0,none⟩),.int .i64 k] w (fun e w'=>e=.returned (.int .i64 a)/\∃q,w'=w.drewN q)):=Z (fun w h=>by rw[c4];exact pP b m _ S cd k (by rw[<-F];exact en) w h);have ce:Hid (∀w,aR w b m (.slice G N I) S->Calls prog 128 #[.pointer (some ⟨b,0,none⟩),.int .i64 k] w (d' (.int .i64 st) w)):=Z (fun w h=>by rw[cq];exact m' b m _ S cd k (by rw[<-F];exact en) w h);rw[<-c4,<-cq]at c8 hv;have cL:=Z c4;clear c4 cq;go_wp2_with fail
   refine(eS _ V.1).mono ?_;rintro e w1 ⟨rfl,eA⟩;have C:Hid (aR w1 b m (.slice G N I) S/\aO w1 m c j M/\Ch (lf b (.slice G N I) m c j) w w1/\∃q,w1=w.drewN q):=Z (by
    obtain⟨q,rfl⟩:=eA;obtain⟨c7,rfl⟩:=a3.2;exact⟨V.1.drewN q,V.2.1.drewN q,V.2.2.drewN q,c7+q,vG _ _ _⟩)
   have d0:=C.1.head.c1;clear eA cS;by_cases et:(st:Int)-a<n
   ·have bw:Hid (S.jR n (N+1-(k+1)) (k+1)=S.find n):=Z (by rw[<-a3.1,c8,if_pos et])
    go_wp2_with (go_at_call 128;refine(ce _ C.1).mono ?_;rintro e w' ⟨rfl,rfl⟩)
    go_roundw
    case rel=>exact⟨k+1,by go_num,by omega,bw,C.2.2.2⟩
    case measure=>simp[intOf];omega
   ·have bw:Hid (S.find n=some k):=Z (by rw[<-a3.1,c8,if_neg et])
    cases R:(M.map a n 64).1
    ·have U:Hid (c' S M n=(none,S,M)):=Z (by rw[E,bw];simp only[<-cL.out,R];rfl)
     have a2:=Z (fun w h=>fh m c j M a n (by omega) (by omega) w h);have ex:(M.map a n 64).2=M:=by unfold aF.map at R⊢;split at R;cases R;rename_i gc;rw[if_neg gc]
     rw[show M.map a n 64=(false,M)from Prod.ext R ex]at a2;clear R ex;go_wp2_with (first|(go_at_call 128;refine(ce _ C.1).mono ?_;rintro e w' ⟨rfl,rfl⟩)|(go_at_call 26;refine(a2 _ C.2.1).mono ?_;rintro e w2 ⟨⟨u,rfl,cA⟩,O,a1⟩;obtain⟨tt,it,rfl⟩:=cA;have eW:=Z O;have cQ:=Z a1;clear O a1)|(go_at_call 126;refine(fN _ _ _ _).mono ?_;rintro e w' ⟨rfl,rfl⟩))
     go_ret2;rw[U];have d:=C.1.gW C.2.1;exact⟨⟨_,rfl,aq.mk _ _⟩,⟨_,(C.1.ch cQ d.1.1 d.1.2).alloc _,aQ.refl _ _⟩,eW.alloc _,(C.2.2.1.trans (cQ.mono fun i r=>Or.inr r)).alloc _⟩
    ·have U:Hid (c' S M n=(some a,{S with l:=S.l.take k++[⟨a,n,64⟩]++S.l.drop k},(M.map a n 64).2)):=Z (by rw[E,bw];simp only[<-cL.out,R];rfl)
     have a2:=Z (fun w h=>fh m c j M a n (by omega) (by omega) w h);obtain⟨ab,O⟩:=nm ((M.map a n 64).2);rw[show M.map a n 64=(true,ab)from Prod.ext R O]at a2;rw[O]at U;clear R O;go_wp2_with (first|(go_at_call 128;refine(ce _ C.1).mono ?_;rintro e w' ⟨rfl,rfl⟩)|fail)
     refine(a2 _ C.2.1).mono ?_;rintro e w2 ⟨⟨u,rfl,cA⟩,O,a1⟩;obtain rfl:u=.nilIface:=cA;have d:=C.1.gW C.2.1;have A:Hid (aR w2 b m (.slice G N I) S/\aO w2 m c j ab/\Ch (lf b (.slice G N I) m c j) w w2):=Z ⟨C.1.ch a1 d.1.1 d.1.2,O,C.2.2.1.trans (a1.mono fun i r=>Or.inr r)⟩;clear O a1 d d0;have d3:=A.1.head.k 3 rfl;have cW:=A.1.head.free 3;have ck:=A.1.own;rw[<-F]at ck;have fb:=Z ck;clear ck;go_wp2_with (at_builtin;refine wpList_append_lies _ rfl _ _ _ rfl 0 274 hF _ 3 24 underlying269 c0 hw eC hB rfl (by omega) _ N (S.l.flatMap ic.cells) rfl (fb.alloc _) ⟨w2.heap.size,0,none⟩ 1 1 [.int .i64 0,.int .i64 0,.int .i64 0] rfl rfl (World.news_of_block (cs:=#[.int .i64 0,.int .i64 0,.int .i64 0]) (t:=274) (fr:=(0,0)) (heap_alloc_new w2 _)) (by simp[Value.oneCell']) (by omega) (by unfold maxLen;omega) (by omega) (by simp) (w2.heap.size+1) (by simp) ?_)
     intro g cap w4 cl c5 ch hn;have a0:=A.1.app (z:=ic.zero) (by rw[<-F];exact cl) (ax c5);rw[<-F]at a0;have d:=A.1.gW A.2.1;obtain⟨f,cC⟩:=nm (w4.setCell ⟨b,3,none⟩ (.slice (some ⟨g,0,none⟩) (N+1) cap));have fn:w4.cell? ⟨b,3,none⟩=some (.slice G N I):=((Ch.bQ (ax c5)).cell (p:=⟨b,3,none⟩) A.1.head.lt (aY A.1.own A.1.head (by decide))).trans d3;have k3:w4.frozen? ⟨b,3,none⟩=false:=((Ch.bQ (ax c5)).frozen (p:=⟨b,3,none⟩) A.1.head.lt (aY A.1.own A.1.head (by decide))).trans cW;rw[cC]at a0;have dr:∀i,i<w.heap.size->dv b (.slice (some ⟨g,0,none⟩) (N+1) cap) i->dv b (.slice G N I) i:=fun i r bi=>by
      rcases bi with ad|ad
      ·exact Or.inl ad
      ·have gf:g=i:=by simpa[Value.ownBlock]using ad
       rcases ch with al|al
       ·exact Or.inr (by rw[al,gf])
       ·have:=A.2.2.size;omega
     have c9:Hid (aQ w (.slice G N I) (.slice (some ⟨g,0,none⟩) (N+1) cap)):=Z (aQ.at (by
      rcases ch with al|al
      ·exact Or.inl (by rw[al])
      ·have:=A.2.2.size;exact Or.inr (by omega)))
     have B:Hid (aR f b m (.slice (some ⟨g,0,none⟩) (N+1) cap) {S with l:=S.l++[ic.zero]}/\aO f m c j ab/\Ch (lf b (.slice G N I) m c j) w f/\(∀i,i<w.heap.size->dv b (.slice (some ⟨g,0,none⟩) (N+1) cap) i->dv b (.slice G N I) i)):=Lib.hid
      ⟨a0.1,A.2.1.ch a0.2 d.2.1 d.2.2.1 d.2.2.2,A.2.2.trans (a0.2.mono fun i r=>Or.inl r),dr⟩
     have i7:N+1<=cap:=by
      obtain⟨_,_,_,X,_,i6,_⟩:=aS cl (by omega);injection X with c7 eL ip
      omega
     clear a0 d dr c5 ch hn d3 cW cl;go_wp2_with fail
     try rw[cC]
     clear cC fn k3;have cS:=B.1.head.k 3 rfl;by_cases es:k<N
     ·have ih:k+1<cap:=by omega
      have ci:=B.1.own.drew;rw[show({S with l:=S.l++[ic.zero]}:aZ).l=S.l++[ic.zero]from rfl,List.length_append,List.length_cons,List.length_nil,Nat.zero_add,F]at ci;obtain⟨L,cm,K,cf⟩:=vF (P:=prog) (T:=269) (ty:=3) (dC:=cap-(k+1)) (sC:=cap-k) underlying269 (by rw[c0];simp[eC]) ic.len (fun x v av=>by simp[ic.cells]at av;rcases av with rfl|rfl|rfl<;>rfl) (by rw[<-F];exact es) ci;rw[<-F]at cm K;clear ci;have o:Hid (aR L b m (.slice (some ⟨g,0,none⟩) (N+1) cap) {S with l:=S.l.take (k+1)++S.l.drop k}/\aO L m c j ab/\Ch (dv b (.slice (some ⟨g,0,none⟩) (N+1) cap)) f L):=Z (by
       have d:=B.1.gW B.2.1;have dN:Ch (dv b (.slice (some ⟨g,0,none⟩) (N+1) cap)) f L:=(Ch.refl _ _).drew.trans (cf.mono fun i r=>Or.inr (congrArg some (show g=i from Eq.symm r)));refine⟨⟨B.1.head.drew.ch cf (fun e=>aY B.1.own B.1.head (by decide) (congrArg some (show g=b from Eq.symm e))),?_⟩,B.2.1.ch dN d.2.1 d.2.2.1 d.2.2.2,dN⟩;show L.ownsRow 0 274 3 _ (S.l.take (k+1)++S.l.drop k).length _
       rw[List.length_append,List.length_take,List.length_drop,<-F,show min (k+1) N+(N-k)=N+1 from by omega];exact K)
      clear K cf;have J:(S.l.take (k+1)++S.l.drop k).length=N+1:=by rw[List.length_append,List.length_take,List.length_drop,<-F];omega
      obtain⟨Y,bv⟩:∃y,(S.l.take (k+1)++S.l.drop k)[k]?=some y:=⟨_,List.getElem?_eq_getElem (by rw[J];omega)⟩;have K:=o.1.own;rw[show({S with l:=S.l.take (k+1)++S.l.drop k}:aZ).l=S.l.take (k+1)++S.l.drop k from rfl,J]at K;obtain⟨Q,hm,ge⟩:=kj K ic.len J.symm bv;have i0:L.cell? ⟨g,k*3,none⟩=some (.int .i64 Y.at_):=Q 0 _ (by omega) rfl;have c7:L.cell? ⟨g,k*3+1,none⟩=some (.int .i64 Y.n):=Q 1 _ (by omega) rfl;have eL:L.cell? ⟨g,k*3+2,none⟩=some (.int .i64 Y.w):=Q 2 _ (by omega) rfl;have fd:L.cell? ⟨b,3,none⟩=some (.slice (some ⟨g,0,none⟩) (N+1) cap):=o.1.head.cell (i:=3) rfl;have W:=Z J;have hu:(k:Int)<(N:Int)+1:=by omega
      clear Q bv K J;have go:(k:Int)+1<=(N:Int)+1:=by omega
      have gr:(0:Int)<=(k:Int)+1:=by omega
      have gs:IntKind.i64.wrap ((k:Int)+1)=(k:Int)+1:=IntWalk.i64_in _ (by omega);have gt:((k:Int)+1).toNat=k+1:=by omega
      have hb:(k:Int)<=(N:Int)+1:=by omega
      have he:k<cap:=by omega
      have hf:¬cap=k:=by omega
      have hi:¬cap=k+1:=by omega
      have gk:k<=N+1:=by omega
      go_wp2
      go_still_tail 13,(by kernel_rfl)
      change wpList _ _ _ _ _ f.drew;go_wp2
      go_ret2;rw[U];refine⟨rfl,⟨.slice (some ⟨g,0,none⟩) (N+1) cap,?_,c9⟩,?_,?_⟩
      ·have:=o.1.lay W.symm (i:=k) (by rw[W];omega) ⟨a,n,64⟩ (i1:=k*3+1) (i2:=k*3+2) rfl rfl
       rw[ye _ _ _ (by rw[<-F];exact es)]at this;exact this
      ·have d:=o.1.gW o.2.1
       exact o.2.1.ch (D:=aK g) ((((Ch.refl _ _).only _ _).only _ _).only _ _) (fun e=>d.2.1 (Or.inr (congrArg some (show g=m from Eq.symm e)))) (fun e=>d.2.2.1 (Or.inr (congrArg some (show g=c from Eq.symm e)))) (fun e=>d.2.2.2 (Or.inr (congrArg some (show g=j from Eq.symm e))))
      ·have am:Ch (dv b (.slice (some ⟨g,0,none⟩) (N+1) cap)) L _:=Ch.mono (D:=aK g) ((((Ch.refl _ L).only (k*3) (.int .i64 a)).only (k*3+1) (.int .i64 n)).only (k*3+2) (.int .i64 64)) (fun i r=>Or.inr (congrArg some (show g=i from Eq.symm r)))
       exact B.2.2.1.join (o.2.2.trans am) (fun i r X=>Or.inl (B.2.2.2 i r X))
     ·obtain rfl:k=N:=by omega
      have o:Hid (aR f b m (.slice (some ⟨g,0,none⟩) (k+1) cap) {S with l:=S.l++[ic.zero]}/\aO f m c j ab/\Ch (dv b (.slice (some ⟨g,0,none⟩) (k+1) cap)) f f):=Z ⟨B.1,B.2.1,Ch.refl _ _⟩;have J:(S.l++[ic.zero]).length=k+1:=by rw[List.length_append,List.length_cons,List.length_nil,<-F]
      obtain⟨Y,bv⟩:∃y,(S.l++[ic.zero])[k]?=some y:=⟨_,List.getElem?_eq_getElem (by rw[J];omega)⟩;have K:=o.1.own;rw[show({S with l:=S.l++[ic.zero]}:aZ).l=S.l++[ic.zero]from rfl,J]at K;obtain⟨Q,hm,ge⟩:=kj K ic.len J.symm bv;have i0:f.cell? ⟨g,k*3,none⟩=some (.int .i64 Y.at_):=Q 0 _ (by omega) rfl;have c7:f.cell? ⟨g,k*3+1,none⟩=some (.int .i64 Y.n):=Q 1 _ (by omega) rfl;have eL:f.cell? ⟨g,k*3+2,none⟩=some (.int .i64 Y.w):=Q 2 _ (by omega) rfl;have fd:f.cell? ⟨b,3,none⟩=some (.slice (some ⟨g,0,none⟩) (k+1) cap):=o.1.head.cell (i:=3) rfl;have W:=Z J;have hu:(k:Int)<(k:Int)+1:=by omega
      clear Q bv K J;have go:(k:Int)+1<=(k:Int)+1:=by omega
      have gr:(0:Int)<=(k:Int)+1:=by omega
      have gs:IntKind.i64.wrap ((k:Int)+1)=(k:Int)+1:=IntWalk.i64_in _ (by omega);have gt:((k:Int)+1).toNat=k+1:=by omega
      have hb:(k:Int)<=(k:Int)+1:=by omega
      have he:k<cap:=by omega
      have hf:¬cap=k:=by omega
      have gk:k<=k+1:=by omega
      by_cases hi:cap=k+1
      ·skip
       have cm:∀(j a:Option Addr) (dC sC:Nat),(Builtin.copy_ #[269,269] 3 #[.slice j 0 dC,.slice a 1 sC]).run prog f.drew=.ok (goInt 0) f.drew:=fun j a dC sC=>nb f.drew _ _ _ _ j a 0 dC 1 sC underlying269 (by rw[c0];rfl) rfl
       go_wp2
       go_still_tail 13,(by kernel_rfl)
       change wpList _ _ _ _ _ f.drew;go_wp2
       go_ret2;rw[U];refine⟨rfl,⟨.slice (some ⟨g,0,none⟩) (k+1) cap,?_,c9⟩,?_,?_⟩
       ·have:=o.1.lay W.symm (i:=k) (by rw[W];omega) ⟨a,n,64⟩ (i1:=k*3+1) (i2:=k*3+2) rfl rfl
        rw[uF _ _ _ F]at this;exact this.drew
       ·have d:=o.1.gW o.2.1
        exact o.2.1.ch (D:=aK g) ((((Ch.refl _ _).only _ _).only _ _).only _ _).drew (fun e=>d.2.1 (Or.inr (congrArg some (show g=m from Eq.symm e)))) (fun e=>d.2.2.1 (Or.inr (congrArg some (show g=c from Eq.symm e)))) (fun e=>d.2.2.2 (Or.inr (congrArg some (show g=j from Eq.symm e))))
       ·have am:Ch (dv b (.slice (some ⟨g,0,none⟩) (k+1) cap)) f _:=Ch.mono (D:=aK g) ((((Ch.refl _ f).only (k*3) (.int .i64 a)).only (k*3+1) (.int .i64 n)).only (k*3+2) (.int .i64 64)).drew (fun i r=>Or.inr (congrArg some (show g=i from Eq.symm r)))
        exact B.2.2.1.join (o.2.2.trans am) (fun i r X=>Or.inl (B.2.2.2 i r X))
      ·skip
       have cm:∀(j a:Option Addr) (dC sC:Nat),(Builtin.copy_ #[269,269] 3 #[.slice j 0 dC,.slice a 1 sC]).run prog f.drew=.ok (goInt 0) f.drew:=fun j a dC sC=>nb f.drew _ _ _ _ j a 0 dC 1 sC underlying269 (by rw[c0];rfl) rfl
       go_wp2
       go_still_tail 13,(by kernel_rfl)
       change wpList _ _ _ _ _ f.drew;go_wp2
       go_ret2;rw[U];refine⟨rfl,⟨.slice (some ⟨g,0,none⟩) (k+1) cap,?_,c9⟩,?_,?_⟩
       ·have:=o.1.lay W.symm (i:=k) (by rw[W];omega) ⟨a,n,64⟩ (i1:=k*3+1) (i2:=k*3+2) rfl rfl
        rw[uF _ _ _ F]at this;exact this.drew
       ·have d:=o.1.gW o.2.1
        exact o.2.1.ch (D:=aK g) ((((Ch.refl _ _).only _ _).only _ _).only _ _).drew (fun e=>d.2.1 (Or.inr (congrArg some (show g=m from Eq.symm e)))) (fun e=>d.2.2.1 (Or.inr (congrArg some (show g=c from Eq.symm e)))) (fun e=>d.2.2.2 (Or.inr (congrArg some (show g=j from Eq.symm e))))
       ·have am:Ch (dv b (.slice (some ⟨g,0,none⟩) (k+1) cap)) f _:=Ch.mono (D:=aK g) ((((Ch.refl _ f).only (k*3) (.int .i64 a)).only (k*3+1) (.int .i64 n)).only (k*3+2) (.int .i64 64)).drew (fun i r=>Or.inr (congrArg some (show g=i from Eq.symm r)))
        exact B.2.2.1.join (o.2.2.trans am) (fun i r X=>Or.inl (B.2.2.2 i r X))
  ·have hl:¬((k:Int)<=N):=by omega
   have U:Hid (c' S M n=(none,S,M)):=Z (by
    rw[E,<-a3.1,show N+1-k=0 from by omega];rfl)
   go_wp2_with (go_at_call 126;refine(fN _ _ _ _).mono ?_;rintro e w' ⟨rfl,rfl⟩)
   go_ret2;rw[U];exact⟨⟨_,rfl,aq.mk _ _⟩,⟨_,V.1.alloc _,aQ.refl _ _⟩,V.2.1.alloc _,V.2.2.alloc _⟩
end
section
attribute [local go_sem↓] Go.wp_at_zero Go.wp_at_succ
def yf:List Value->Nat->List Value->List Value
 |L,_,[]=>L
 |L,a,v::r=>yf (L.set a v) (a+1) r
theorem uG:∀(b:List Value) (L:List Value) (a:Nat),a+b.length<=L.length->yf L a b=L.take a++b++L.drop (a+b.length)
 |[],L,a,_=>by simp[yf]
 |v::r,L,a,h=>by
  rw[List.length_cons]at h;rw[yf,uG r (L.set a v) (a+1) (by rw[List.length_set];omega),list_seg_step L a v r h];rfl
theorem Row.vH{g:Nat}{t:TypeId}:∀(b:List Value) (a:Nat) (w:World) (L:List Value),Row w g t L->Row (w.setCells g a b) g t (yf L a b)
 |[],_,_,_,h=>h
 |v::r,a,w,L,h=>Row.vH r (a+1) _ _ (h.set a v)
theorem uH{g:Nat}:∀(b:List Value) (a:Nat) (w:World),Ch (aK g) w (w.setCells g a b)
 |[],_,w=>Ch.refl _ w
 |v::r,a,w=>((Ch.refl _ w).only a v).trans (uH r (a+1) _)
theorem q1{P:Program}{α:Type}{enc:α->List Value}{ops:Array Oper}{k:Oper}{a:Act}{w:World}{K:Act->World->Prop}{Q:Exit->Act->World->Prop}{E:Prop}
 (S:k.guard=none) (s x:Operand) (T:TypeId) (Z:k.op=Op.call {callee:=Callee.builtin Builtin.append,args:=#[s,x],argTypes:=#[T,T]})
 (e:TypeId) (A:TypeInfo) (size:Nat) (a2:P.underlying T=some (.slice e)) (U:P.info? e=some A) (al:A.size=size)
 {l:List α} (f:∀x,(enc x).length=size) (H:∀x,∀v∈enc x,v.oneCell'=true) (B g i n cap:Nat) (bv:i<n) (p:n=l.length)
 (a0:a.eval s=.slice (some (g,0)) i cap) (r:Addr) (c G:Nat) (a1:G=n-(i+1)) (ab:a.eval x=.slice (some r) G c) (M:i+1<n->r=⟨g,(i+1)*size,none⟩)
 (Y:w.ownsRow B e size (.slice (some (g,0)) n cap) n (l.flatMap enc))
 (J:∀w',w'.ownsRow B e size (.slice (some (g,0)) (n-1) cap) (n-1) ((l.eraseIdx i).flatMap enc)->Ch (aK g) w w'->K (a.put k.dst (.slice (some (g,0)) (n-1) cap)) w'):
 if Region.wanted k (yielded ops a.tmps)=true then Oper.wp P k a w K Q else E:=by
 subst a1;obtain⟨av,ap,C,O,I,N,X,q,t⟩:=aS Y (by omega);injection O with m c1 am
 injection m with m
 injection m with m
 subst m am;have D:=a7 f l;have b:=a7 f (l.drop (i+1));rw[List.length_drop,<-p]at b;have bi:n*size<=cap*size:=Nat.mul_le_mul_right _ N;have c0:i*size+(n-(i+1))*size+size=n*size:=by
  rw[<-Nat.add_mul,<-Nat.succ_mul];congr 1;omega
 refine step_append_room S s x T Z e A size a2 U al g 0 i cap a0 r (n-(i+1)) c ((l.drop (i+1)).flatMap enc) ab b (fun j u d=> ?_) (fun u a3=> ?_) (by omega) (fun j d=> ?_) ?_
 ·have F:=(List.getElem?_eq_some_iff.1 d).1
  rw[b]at F;have V:i+1<n:=by
   rcases Nat.lt_or_ge (i+1) n with h|h
   ·exact h
   ·rw[show n-(i+1)=0 from by omega]at F;omega
  rw[M V,show(⟨g,(i+1)*size,none⟩:Addr).add j=⟨g,(i+1)*size+j,none⟩from by unfold Addr.add;split<;>simp_all];have bw:(i+1)*size=i*size+size:=Nat.succ_mul _ _;refine q.cell ?_;rw[List.getElem?_append_left (by rw[D,<-p];omega)];rw[<-ld f,List.getElem?_drop]at d;exact d
 ·obtain⟨y,_,ad⟩:=List.mem_flatMap.1 a3
  exact H y u ad
 ·rw[b]at d
  rw[Nat.zero_add];have W:i*size+j<(l.flatMap enc++C).length:=by rw[t];omega
  exact⟨by rw[q.cell (List.getElem?_eq_getElem W)];rfl,q.free _⟩
 ·have hlen:i+(n-(i+1))=n-1:=by omega
  rw[hlen,Nat.zero_add];refine J _ ?_ (uH _ _ _);have z:=q.vH ((l.drop (i+1)).flatMap enc) (i*size) w;have R:i*size+((l.drop (i+1)).flatMap enc).length<=(l.flatMap enc++C).length:=by rw[b,t];omega
  rw[uG _ _ _ R,b]at z;have L:(l.flatMap enc++C).take (i*size)=(l.take i).flatMap enc:=by
   rw[List.take_append,js f,D,<-p,show i*size-n*size=0 from by omega,List.take_zero,List.append_nil]
  rw[L,<-List.flatMap_append,<-List.eraseIdx_eq_take_drop_succ]at z;have o:=a7 f (l.eraseIdx i);rw[List.length_eraseIdx_of_lt (by omega),<-p]at o;refine⟨o,Or.inr ⟨g,cap,_,rfl,I,z,by omega,X,?_,?_⟩⟩
  ·rw[List.size_toArray,List.length_append,o,List.length_drop,t]
   have:(n-1)*size=i*size+(n-(i+1))*size:=by rw[<-Nat.add_mul];congr 1;omega
   omega
  ·rw[List.toList_toArray]
   exact List.take_left' o
def l3:List ic->Int->Nat->Option Nat
 |[],_,_=>none
 |x::l,a,i=>if(x.at_:Int)==a then some i else l3 l a (i+1)
def mr(S:aZ)(M:aF)(a:Int):Bool×aZ×aF:=
 match l3 S.l a 0 with
 |none=>(false,S,M)
 |some i=>match S.l[i]? with
  |none=>(false,S,M)
  |some x=>((M.fX x.at_ x.n).1,{S with l:=S.l.eraseIdx i},(M.fX x.at_ x.n).2)
def Cv(x:Bool×aZ×aF)(b m c a:Nat)(v:Value)(w:World)(e:Ending)(w':World):Prop:=
 pI x.1 e/\(∃d,aR w' b m d x.2.1/\aQ w v d)/\aO w' m c a x.2.2/\Ch (lf b v m c a) w w'
theorem kl(b m c o:Nat)(v:Value)(S:aZ)(M:aF)(bi:S.Ok)(a:Int)(w:World)(h:aR w b m v S)(ch:aO w m c o M):
 Calls prog 100 #[(b,0),a] w (Cv (mr S M a) b m c o v w):=by
 obtain⟨cq,ce,fz,cm,gc⟩:=info_parts uE;have c7:=Z ce;have H:=Z h;have cC:=Z ch;have cL:=Z bi;obtain⟨cS,j,Y⟩:=aA h.own;obtain⟨N,ap⟩:=mn S.l.length;have hlen:=bi.len;rw[<-ap]at Y hlen;have r:=Z ap;have O:=h.head.k 3 rfl;subst Y;clear h ch bi ap ce;go_enter func100,ntmps100
 go_wp2
 go_loopw [13] (fun s wr=>∃k:Nat,s=.int .i64 k/\k<=N/\Hid (l3 (S.l.drop k) a k=l3 S.l a 0/\Ch ag w wr)) (fun s _=>N-(intOf s).toNat)
 case atStart=>exact⟨0,rfl,Nat.zero_le _,rfl,Ch.refl _ _⟩
 case round=>
  obtain⟨k,rfl,fd,C⟩:=hrel;have L:Hid (aR wr b m (.slice cS N j) S/\aO wr m c o M):=Z ⟨H.ch C.2 (fun h=>h) (fun _ _ h=>h),cC.ch C.2 (fun h=>h) (fun h=>h) (fun h=>h)⟩;by_cases U:k<N
  ·obtain⟨x,a0⟩:∃x,S.l[k]?=some x:=⟨_,List.getElem?_eq_getElem (by rw[<-r];exact U)⟩
   have cd:S.l.drop k=x::S.l.drop (k+1):=by
    obtain⟨cW,dr⟩:=List.getElem?_eq_some_iff.1 a0;rw[List.drop_eq_getElem_cons cW,dr]
   have ab:=L.1.own;rw[<-r]at ab;obtain⟨g,cap,gr,G,eW,fb,fn,-,-⟩:=aS ab (by omega);injection G with c2 cs eC
   subst c2 eC;obtain⟨a3,cf,dN⟩:=kj ab ic.len r a0;have eA:wr.cell? (g,k*3)=some (.int .i64 x.at_):=a3 0 _ (by omega) rfl;have c2:wr.cell? (g,k*3+1)=some (.int .i64 x.n):=a3 1 _ (by omega) rfl;have cs:wr.cell? (g,k*3+2)=some (.int .i64 x.w):=a3 2 _ (by omega) rfl;have ec:(k:Int)<N:=by omega
   have cQ:=Z a0;have c6:=Z cd;have fr:=cL.l x (List.mem_of_getElem? a0);clear a3 a0 cd ab O;cases G:(x.at_:Int)==a
   ·have cA:Hid (l3 (S.l.drop (k+1)) a (k+1)=l3 S.l a 0):=Z (by
     rw[<-C.1,c6];show _=if((x.at_:Int)==a)=true then _ else _;rw[G];rfl)
    have en:((x.at_:Int) !=a)=true:=by rw[bne,G];rfl
    clear G;go_wp2
    go_roundw
    case rel=>exact⟨k+1,by go_num,by omega,cA,C.2.alloc _⟩
    case measure=>simp[intOf];omega
   ·have en:((x.at_:Int) !=a)=false:=by rw[bne,G];rfl
    have E:Hid (mr S M a=((M.fX x.at_ x.n).1,{S with l:=S.l.eraseIdx k},(M.fX x.at_ x.n).2)):=Z (by
     have:l3 S.l a 0=some k:=by
      rw[<-C.1,c6];show(if((x.at_:Int)==a)=true then _ else _)=_;rw[G];rfl
     unfold mr;rw[this];simp only[cQ.out])
    clear G;obtain⟨w1,c1⟩:=nm (wr.alloc (.cells #[.int .i64 x.at_,.int .i64 x.n,.int .i64 x.w] 274));have d:Hid (aR w1 b m (.slice (some (g,0)) N j) S/\aO w1 m c o M/\Ch (lf b (.slice (some (g,0)) N j) m c o) w w1/\Row w1 wr.heap.size 274 x.cells):=Z (by
     rw[<-c1];exact⟨L.1.alloc _,L.2.alloc _,C.2.af.alloc _,Row.new wr _ _⟩)
    have c0:Hid (g<wr.heap.size/\b<wr.heap.size):=Z ⟨cf,L.1.head.lt⟩;have c8:=d.1.head.c1;have O:=d.1.head.k 3 rfl;have f3:=d.1.head.free 3;obtain⟨t0,t1⟩:=d.2.2.2.c2;go_wp2
    try rw[c1]
    clear c1 eA c2 cs dN cf;obtain⟨tb,ci⟩:=mn wr.heap.size;rw[<-ci]at d c0 t0 t1⊢;have cl:g≠tb:=by have:=c0.out;omega
    have ck:b≠tb:=by have:=c0.out;omega
    clear ci;have bv:=d.1.own;rw[<-r]at bv;have cb:=Z bv;have F:Hid (¬aK g b):=Z (fun e=>aY d.1.own d.1.head (by decide) (congrArg some (show g=b from Eq.symm e)));have c9:Hid (∀x:ic,∀v∈x.cells,v.oneCell'=true):=Z (fun x v Y=>by simp[ic.cells]at Y;rcases Y with rfl|rfl|rfl<;>rfl);clear bv;have i1:(0:Int)<=k:=by omega
    have i2:(k:Int)<=j:=by omega
    have ge:IntKind.i64.wrap ((k:Int)+1)=(k:Int)+1:=IntWalk.i64_in _ (by omega);have gf:(0:Int)<=(k:Int)+1:=by omega
    have es:(k:Int)+1<=N:=by omega
    have gk:((k:Int)+1).toNat=k+1:=by omega
    have et:k<=j:=by omega
    have ex:k+1<=N:=by omega
    by_cases dC:j=k+1
    ·obtain rfl:N=k+1:=by omega
     subst dC;have go:(k:Int)<=(k:Int)+1:=by omega
     have i10:k<=k+1:=by omega
     clear i2 es et ex;go_region_law (first|(refine q1 (by rfl) (.tmp 28) (.tmp 35) 269 (by rfl) 274 cq 3 underlying269 c7 cm ic.len c9 0 g k (k+1) (k+1) U r (by rfl) ⟨g,0,none⟩ 0 0 (by omega) (by rfl) (fun h=>by omega) cb.drew ?_;intro w2 W B;have ad:=Z W;have P:=Z B;have al:w2.cell? (b,3)=some (.slice (some (g,0)) (k+1) (k+1)):=(B.cell (p:=⟨b,3,none⟩) d.1.head.lt F.out).trans O;have k3:w2.frozen? (b,3)=false:=(B.frozen (p:=⟨b,3,none⟩) d.1.head.lt F.out).trans f3;clear W B))
     all_goals
      obtain⟨f,z⟩:=nm (w2.setCell (b,3) (.slice (some (g,0)) k (k+1)));have n:Hid (aR f b m (.slice (some (g,0)) k (k+1)) {S with l:=S.l.eraseIdx k}/\aO f m c o M/\Ch (lf b (.slice (some (g,0)) (k+1) (k+1)) m c o) w f/\Row f tb 274 x.cells):=Z (by
       have K:=d.1.gW d.2.1;have av:b≠g:=fun e=>F.out e
       have J:Ch (dv b (.slice (some (g,0)) (k+1) (k+1))) w1 f:=by
        rw[<-z];have am:Ch (dv b (.slice (some (g,0)) (k+1) (k+1))) w1 w2:=(Ch.refl _ _).drew.trans (P.mono fun i t=>Or.inr (congrArg some (show g=i from Eq.symm t)));exact am.gS (p:=⟨b,3,none⟩) (Or.inl rfl) _
       refine⟨⟨?_,?_⟩,d.2.1.ch J K.2.1 K.2.2.1 K.2.2.2,d.2.2.1.trans (J.mono fun i t=>Or.inl t),d.2.2.2.ch J ?_⟩
       ·rw[<-z];exact(d.1.head.drew.ch P F.out).a' _ _ rfl
       ·show f.ownsRow 0 274 3 _ (S.l.eraseIdx k).length _
        rw[List.length_eraseIdx_of_lt (by rw[<-r];exact U),<-r,<-z];exact ar (D:=aK b) ad ((Ch.refl _ _).only 3 _) (fun q bw e=>av (by
         have:g=q:=by simpa[Value.ownBlock]using bw
         rw[this];exact(show q=b from e).symm))
       ·rintro(e|e)
        ·exact ck e.symm
        ·exact cl (by simpa[Value.ownBlock]using e))
      have k0:f.cell? (b,0)=some (.pointer (some (m,0))):=n.1.head.cell (i:=0) rfl;obtain⟨c3,c4⟩:=n.2.2.2.c2;go_wp2
      try rw[z]
      clear z al k3 c8 O f3 t0 t1;have R:=Z (fun w h=>kc m c o M x.at_ x.n (by omega) (by omega) w h);have V:=Z (n.1.gW n.2.1);obtain⟨y,a1⟩:=nm (M.fX x.at_ x.n);rw[a1]at R E;clear a1;obtain⟨c5,eS⟩:=y;go_still_tail 8,(by kernel_rfl)
      change wpList _ _ _ _ _ f.drew;go_wp2_with fail
      refine(R _ n.2.1.drew).mono ?_;rintro e a2 ⟨⟨u,rfl,X⟩,T,I⟩;have Q:=Z T;have A:Hid (aR a2 b m (.slice (some (g,0)) k (k+1)) {S with l:=S.l.eraseIdx k}/\Ch (lf b (.slice (some (g,0)) (k+1) (k+1)) m c o) w a2):=Z ⟨n.1.drew.ch I V.out.1.1 V.out.1.2,n.2.2.1.drew.trans (I.mono fun i t=>Or.inr t)⟩;clear T I k0 c3 c4;cases c5
      ·obtain⟨tt,eL,rfl⟩:aq u:=X
       go_wp2_with (go_at_call 126;refine(fN _ _ _ _).mono ?_;rintro e w' ⟨rfl,rfl⟩)
       go_ret;rw[E];exact⟨⟨_,rfl,aq.mk _ _⟩,⟨_,A.1.alloc _,aQ.of_eq rfl⟩,Q.alloc _,A.2.alloc _⟩
      ·obtain rfl:u=.nilIface:=X
       go_wp2
       go_ret;rw[E];exact⟨⟨_,rfl,rfl⟩,⟨_,A.1,aQ.of_eq rfl⟩,Q,A.2⟩
    ·go_region_law (first|(refine q1 (by rfl) (.tmp 28) (.tmp 35) 269 (by rfl) 274 cq 3 underlying269 c7 cm ic.len c9 0 g k N j U r (by rfl) ⟨g,(k+1)*3,none⟩ (j-(k+1)) (N-(k+1)) rfl (by rfl) (fun h=>rfl) cb.drew ?_;intro w2 W B;have ad:=Z W;have P:=Z B;have al:w2.cell? (b,3)=some (.slice (some (g,0)) N j):=(B.cell (p:=⟨b,3,none⟩) d.1.head.lt F.out).trans O;have k3:w2.frozen? (b,3)=false:=(B.frozen (p:=⟨b,3,none⟩) d.1.head.lt F.out).trans f3;clear W B))
     all_goals
      obtain⟨f,z⟩:=nm (w2.setCell (b,3) (.slice (some (g,0)) (N-1) j));have n:Hid (aR f b m (.slice (some (g,0)) (N-1) j) {S with l:=S.l.eraseIdx k}/\aO f m c o M/\Ch (lf b (.slice (some (g,0)) N j) m c o) w f/\Row f tb 274 x.cells):=Z (by
       have K:=d.1.gW d.2.1;have av:b≠g:=fun e=>F.out e
       have J:Ch (dv b (.slice (some (g,0)) N j)) w1 f:=by
        rw[<-z];have am:Ch (dv b (.slice (some (g,0)) N j)) w1 w2:=(Ch.refl _ _).drew.trans (P.mono fun i t=>Or.inr (congrArg some (show g=i from Eq.symm t)));exact am.gS (p:=⟨b,3,none⟩) (Or.inl rfl) _
       refine⟨⟨?_,?_⟩,d.2.1.ch J K.2.1 K.2.2.1 K.2.2.2,d.2.2.1.trans (J.mono fun i t=>Or.inl t),d.2.2.2.ch J ?_⟩
       ·rw[<-z];exact(d.1.head.drew.ch P F.out).a' _ _ rfl
       ·show f.ownsRow 0 274 3 _ (S.l.eraseIdx k).length _
        rw[List.length_eraseIdx_of_lt (by rw[<-r];exact U),<-r,<-z];exact ar (D:=aK b) ad ((Ch.refl _ _).only 3 _) (fun q bw e=>av (by
         have:g=q:=by simpa[Value.ownBlock]using bw
         rw[this];exact(show q=b from e).symm))
       ·rintro(e|e)
        ·exact ck e.symm
        ·exact cl (by simpa[Value.ownBlock]using e))
      have k0:f.cell? (b,0)=some (.pointer (some (m,0))):=n.1.head.cell (i:=0) rfl;obtain⟨c3,c4⟩:=n.2.2.2.c2;go_wp2
      try rw[z]
      clear z al k3 c8 O f3 t0 t1;have R:=Z (fun w h=>kc m c o M x.at_ x.n (by omega) (by omega) w h);have V:=Z (n.1.gW n.2.1);obtain⟨y,a1⟩:=nm (M.fX x.at_ x.n);rw[a1]at R E;clear a1;obtain⟨c5,eS⟩:=y;go_still_tail 8,(by kernel_rfl)
      change wpList _ _ _ _ _ f.drew;go_wp2_with fail
      refine(R _ n.2.1.drew).mono ?_;rintro e a2 ⟨⟨u,rfl,X⟩,T,I⟩;have Q:=Z T;have A:Hid (aR a2 b m (.slice (some (g,0)) (N-1) j) {S with l:=S.l.eraseIdx k}/\Ch (lf b (.slice (some (g,0)) N j) m c o) w a2):=Z ⟨n.1.drew.ch I V.out.1.1 V.out.1.2,n.2.2.1.drew.trans (I.mono fun i t=>Or.inr t)⟩;clear T I k0 c3 c4;cases c5
      ·obtain⟨tt,eL,rfl⟩:aq u:=X
       go_wp2_with (go_at_call 126;refine(fN _ _ _ _).mono ?_;rintro e w' ⟨rfl,rfl⟩)
       go_ret;rw[E];exact⟨⟨_,rfl,aq.mk _ _⟩,⟨_,A.1.alloc _,aQ.of_eq rfl⟩,Q.alloc _,A.2.alloc _⟩
      ·obtain rfl:u=.nilIface:=X
       go_wp2
       go_ret;rw[E];exact⟨⟨_,rfl,rfl⟩,⟨_,A.1,aQ.of_eq rfl⟩,Q,A.2⟩
  ·have ec:¬(k:Int)<N:=by omega
   have E:Hid (mr S M a=(false,S,M)):=Z (by
    have:l3 S.l a 0=none:=by rw[<-C.1,List.drop_eq_nil_of_le (by rw[<-r];omega)];rfl
    unfold mr;rw[this])
   go_wp2_with (go_at_call 126;refine(fN _ _ _ _).mono ?_;rintro e w' ⟨rfl,rfl⟩)
   go_ret;rw[E];exact⟨⟨_,rfl,aq.mk _ _⟩,⟨_,L.1.alloc _,aQ.refl _ _⟩,L.2.alloc _,C.2.af.alloc _⟩
end
structure cE where
 pc:Int
 r:Nat->Int
 back:List Int
def fO(r:Nat->Int)(k:Nat)(x:Int):Nat->Int:=fun i=>if i=k then x else r i
def fp(r:Nat->Int):List Value:=(List.range 32).map fun k=> .int .u64 (r k)
theorem bq(r:Nat->Int):(fp r).length=32:=by simp[fp]
theorem ie(r:Nat->Int)(k:Nat)(a:k<32):(fp r)[k]?=some (.int .u64 (r k)):=by
 simp[fp,List.getElem?_map,List.getElem?_range a]
theorem pQ(r:Nat->Int)(k:Nat)(d:k<32)(x:Int):(fp r).set k (.int .u64 x)=fp (fO r k x):=by
 apply List.ext_getElem?;intro i;rw[List.getElem?_set];by_cases a:i<32
 ·rw[ie _ i a,ie _ i a,bq]
  unfold fO;by_cases h:k=i
  ·simp[h,a]
  ·simp[h,Ne.symm h]
 ·have b:(fp r)[i]?=none:=List.getElem?_eq_none (by rw[bq];omega)
  have c:(fp (fO r k x))[i]?=none:=List.getElem?_eq_none (by rw[bq];omega);rw[b,c,if_neg (by omega)]
def cE.cells(f:cE)(v:Value):List Value:=.int .i64 f.pc::(fp f.r++[v])
theorem cE.cU(f:cE)(v:Value):(f.cells v).length=34:=by simp[cE.cells,bq]
theorem AF(pre mid post:List Value)(j:Nat)(a:j<mid.length)(v:Value):(pre++(mid++post)).set (pre.length+j) v=pre++(mid.set j v++post):=by
 rw[List.set_append_right _ _ (by omega),show pre.length+j-pre.length=j from by omega,List.set_append_left _ _ a]
theorem AG(pre mid post:List Value)(j:Nat)(a:j<mid.length):(pre++(mid++post))[pre.length+j]?=mid[j]?:=by
 rw[List.getElem?_append_right (by omega),show pre.length+j-pre.length=j from by omega,List.getElem?_append_left a]
def cp(w:World)(v:Value)(l:List Int):Prop:=w.ownsRow 0 3 1 v l.length (l.map (Value.int .i64))
theorem cp.ch{w w':World}{D:Nat->Prop}{v:Value}{l:List Int}(h:cp w v l)(c:Ch D w w')(a:∀g,v.ownBlock=some g->¬D g):cp w' v l:=ar h c a
theorem cp.nil(w:World):cp w (.slice none 0 0) []:=⟨rfl,Or.inl ⟨rfl,rfl⟩⟩
structure aG(w:World)(b o:Nat)(t:TypeId)(pre post:List Value)(v:Value)(f:cE):Prop where
 row:Row w b t (pre++(f.cells v++post))
 len:pre.length=o
 back:cp w v f.back
theorem aG.get{w:World}{b a:Nat}{t:TypeId}{pre post:List Value}{v:Value}{f:cE}(h:aG w b a t pre post v f)(j:Nat)(c:j<34){u:Value}(d:(f.cells v)[j]?=some u):w.cell? (b,a+j)=some u:=by
 refine h.row.cell ?_;rw[<-h.len,AG _ _ _ _ (by rw[cE.cU];exact c)];exact d
theorem aG.mu{w:World}{b a:Nat}{t:TypeId}{pre post:List Value}{v:Value}{f:cE}(h:aG w b a t pre post v f):w.cell? (b,a)=some (.int .i64 f.pc):=h.get 0 (by omega) rfl
theorem aG.l4{w:World}{b a:Nat}{t:TypeId}{pre post:List Value}{v:Value}{f:cE}(h:aG w b a t pre post v f)(k:Nat)(c:k<32):w.cell? (b,a+1+k)=some (.int .u64 (f.r k)):=by
 have:=h.get (k+1) (by omega) (u:=.int .u64 (f.r k)) (by
  unfold cE.cells;rw[List.getElem?_cons_succ,List.getElem?_append_left (by rw[bq];exact c),ie _ _ c])
 rw[show a+1+k=a+(k+1)from by omega];exact this
theorem aG.yg{w:World}{b a:Nat}{t:TypeId}{pre post:List Value}{v:Value}{f:cE}(h:aG w b a t pre post v f):w.cell? (b,a+33)=some v:=h.get 33 (by omega) (by
 unfold cE.cells;rw[List.getElem?_cons_succ,List.getElem?_append_right (by rw[bq];omega),bq];rfl)
theorem aG.fr{w:World}{b a:Nat}{t:TypeId}{pre post:List Value}{v:Value}{f:cE}(h:aG w b a t pre post v f):fj w b a f.pc f.r:=⟨h.mu,h.l4⟩
theorem aG.free{w:World}{b a:Nat}{t:TypeId}{pre post:List Value}{v:Value}{f:cE}(h:aG w b a t pre post v f)(i:Nat):w.frozen? (b,i)=false:=h.row.free i
theorem aG.ch{w w':World}{D:Nat->Prop}{b a:Nat}{t:TypeId}{pre post:List Value}{v:Value}{f:cE}(h:aG w b a t pre post v f)(c:Ch D w w')(hb:¬D b)(d:∀g,v.ownBlock=some g->¬D g):aG w' b a t pre post v f:=
 ⟨h.row.ch c hb,h.len,h.back.ch c d⟩
theorem aG.drew{w:World}{b a:Nat}{t:TypeId}{pre post:List Value}{v:Value}{f:cE}(h:aG w b a t pre post v f):aG w.drew b a t pre post v f:=⟨h.row,h.len,h.back⟩
theorem aG.drewN{w:World}{b a:Nat}{t:TypeId}{pre post:List Value}{v:Value}{f:cE}(h:aG w b a t pre post v f)(n:Nat):aG (w.drewN n) b a t pre post v f:=⟨h.row,h.len,h.back⟩
theorem aG.apart{w:World}{b c:Nat}{t:TypeId}{pre post:List Value}{v:Value}{f:cE}(h:aG w b c t pre post v f)(a:t≠3):v.ownBlock≠some b:=aY h.back h.row a
theorem aG.vH{w:World}{b c:Nat}{t:TypeId}{pre post:List Value}{v:Value}{f:cE}(h:aG w b c t pre post v f)(m:t≠3)(j:Nat)(i:j<34){u d:Value}{a:cE}(g:(f.cells v).set j u=a.cells d)(hb:cp w d a.back):
 aG (w.setCell (b,c+j) u) b c t pre post d a:=by
 refine⟨h.row.a' _ _ ?_,h.len,hb.ch (D:=aK b) ((Ch.refl _ _).only _ _) (fun k l e=>aY hb h.row m (by rw[l];exact congrArg some e))⟩;rw[<-h.len,AF _ _ _ _ (by rw[cE.cU];exact i),g]
theorem aG.jF{w:World}{b a:Nat}{t:TypeId}{pre post:List Value}{v:Value}{f:cE}(h:aG w b a t pre post v f)(c:t≠3)(p:Int):
 aG (w.setCell (b,a) (.int .i64 p)) b a t pre post v {f with pc:=p}:=h.vH c 0 (by omega) rfl h.back
theorem aG.pR{w:World}{b a:Nat}{t:TypeId}{pre post:List Value}{v:Value}{f:cE}(h:aG w b a t pre post v f)(d:t≠3)(k:Nat)(c:k<32)(x:Int):
 aG (w.setCell (b,a+1+k) (.int .u64 x)) b a t pre post v {f with r:=fO f.r k x}:=by
 rw[show a+1+k=a+(k+1)from by omega];refine h.vH d (k+1) (by omega) ?_ h.back;unfold cE.cells;rw[List.set_cons_succ,List.set_append_left _ _ (by rw[bq];exact c),pQ _ _ c]
theorem aG.pS{w:World}{b a:Nat}{t:TypeId}{pre post:List Value}{v:Value}{f:cE}(h:aG w b a t pre post v f)(d:t≠3)(c:Value)(l:List Int)(hb:cp w c l):
 aG (w.setCell (b,a+33) c) b a t pre post c {f with back:=l}:=by
 refine h.vH d 33 (by omega) ?_ hb;unfold cE.cells;rw[List.set_cons_succ,List.set_append_right _ _ (by rw[bq];omega),bq];rfl
theorem cp.pop{w:World}{g m c:Nat}{l:List Int}(h:cp w (.slice (some (g,0)) (m+1) c) l)(r:l.length=m+1):cp w (.slice (some (g,0)) m c) (l.take m):=by
 rcases h.2 with⟨a,_⟩|⟨o,n,cur,e,d,f,q,i,j,k⟩
 ·cases a
 ·injection e with a p b
  injection a with a
  injection a with a
  subst a b;unfold cp;rw[List.length_take,show min m l.length=m from by omega];refine⟨by rw[List.length_map,List.length_take];omega,Or.inr ⟨g,c,cur,rfl,d,f,by omega,i,j,?_⟩⟩;rw[List.map_take,<-k,List.take_take]
  congr 1;omega
theorem cp.get{w:World}{g m c:Nat}{l:List Int}(h:cp w (.slice (some (g,0)) m c) l){i:Nat}{x:Int}(d:l[i]?=some x):w.cell? (g,i)=some (.int .i64 x):=by
 rcases h.2 with⟨a,_⟩|⟨n,k,cur,e,q,f,r,t,u,j⟩
 ·cases a
 ·injection e with a o p
  injection a with a
  injection a with a
  subst a;have s:=(List.getElem?_eq_some_iff.1 d).1;have:(cur.toList)[i]?=some (.int .i64 x):=by
   have b:(l.map (Value.int .i64))[i]?=some (.int .i64 x):=by simp[d]
   rw[<-j,List.getElem?_take,if_pos (by omega)]at b;exact b
  refine(show Row w g 3 cur.toList from by unfold Row;simpa using f).cell this
theorem AH:(prog.info? 3).map (fun i=>(i.zero,i.size,i.bytes))=some (some (.int .i64 0),1,8):=by kernel_rfl
end Go.Proofs.YtfnilkpkogipfaaGreatDoor
