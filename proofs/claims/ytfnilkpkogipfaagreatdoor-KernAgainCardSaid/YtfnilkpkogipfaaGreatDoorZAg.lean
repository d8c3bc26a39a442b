import Derived.Laws.Concat
import Derived.Deep.RegionHeldLaw
import Derived.Test.YtfnilkpkogipfaaGreatDoorZAb
import Derived.Test.YtfnilkpkogipfaaGreatDoorZAd
import Derived.Test.YtfnilkpkogipfaaGreatDoorZAe
set_option linter.all false
set_option maxRecDepth 100000
set_option maxHeartbeats 8000000
namespace Go.Proofs.YtfnilkpkogipfaaGreatDoor
open Go.RowKit Go.Proofs.Tryz
section
attribute [local go_sem↓] Go.wp_at_zero Go.wp_at_succ
def a6.ka(S:a6)(n:Nat):Nat->Nat->Option Nat
 |0,_=>none
 |f+1,i=>if(S.gh i:Int)-S.ej i<n then a6.ka S n f (i+1)else some i
def a6.find(S:a6)(n:Nat):Option Nat:=S.ka n (S.l.length+1) 0
def dd(S:a6)(M:aA)(n:Nat):Option Nat×a6×aA:=
 if n=0∨4096<n then(none,S,M)else
 match S.find n with
 |none=>(none,S,M)
 |some i=>if(M.map (S.ej i) n 64).1=true then(some (S.ej i),{S with l:=S.l.take i++[⟨S.ej i,n,64⟩]++S.l.drop i},(M.map (S.ej i) n 64).2)else(none,S,M)
def lI(b:Nat)(v:Value)(m c a:Nat):Nat->Prop:=fun i=>dE b v i∨dD m c a i
def DV(x:Option Nat×a6×aA)(b m c d:Nat)(v:Value)(w:World)(e:Ending)(w':World):Prop:=
 (match x.1 with
  |some a=>e=.returned (.tuple #[.int .i64 a,.nilIface])
  |none=>∃u,e=.returned (.tuple #[.int .i64 0,u])/\ar u)/\(∃f,aW w' b m f x.2.1/\aT w v f)/\aM w' m c d x.2.2/\Ch (lI b v m c d) w w'
theorem fT(n:Int)(t:TypeId)(x:Value)(w:World):Calls prog 126 #[n,.iface t x] w (fun e w'=>e=.returned (.iface 197 (.pointer (some (w.heap.size,0))))/\w.alloc (.cells #[.string ⟨#[97,108,108,111,99]⟩,n,.iface t x] 199)=w'):=by
 go_wp2
 go_ret;exact⟨rfl,rfl⟩
theorem wM(w:World)(a b:Nat):(w.drewN a).drewN b=w.drewN (a+b):=by unfold World.drewN;simp[Nat.add_assoc]
theorem vw:(prog.info? 274).map (fun i=>(i.zero,i.size,i.bytes))=some (some (.agg #[.int .i64 0,.int .i64 0,.int .i64 0]),3,24):=by kernel_rfl
theorem aW.g8{w:World}{b m c d:Nat}{v:Value}{S:a6}{M:aA}(h:aW w b m v S)(a:aM w m c d M):(¬dD m c d b/\∀g,v.ownBlock=some g->¬dD m c d g)/\(¬dE b v m/\¬dE b v c/\¬dE b v d):=by
 refine⟨⟨?_,?_⟩,?_,?_,?_⟩
 ·rintro(e|e|e)
  ·exact h.head.ne a.head (by decide) e
  ·exact h.head.ne a.cells (by decide) e
  ·exact h.head.ne a.width (by decide) e
 ·rintro g f (e|e|e)
  ·exact aU h.own a.head (by decide) (by rw[f,e])
  ·exact aU h.own a.cells (by decide) (by rw[f,e])
  ·exact aU h.own a.width (by decide) (by rw[f,e])
 ·rintro(e|e)
  ·exact h.head.ne a.head (by decide) e.symm
  ·exact aU h.own a.head (by decide) e
 ·rintro(e|e)
  ·exact h.head.ne a.cells (by decide) e.symm
  ·exact aU h.own a.cells (by decide) e
 ·rintro(e|e)
  ·exact h.head.ne a.width (by decide) e.symm
  ·exact aU h.own a.width (by decide) e
theorem aW.app{w w4:World}{b m g cap:Nat}{v:Value}{S:a6}{z:iz}(h:aW w b m v S)
 (d:w4.ownsRow 0 274 3 (.slice (some (g,0)) (S.l.length+1) cap) (S.l.length+1) (S.l.flatMap iz.cells++z.cells)) (j:w.grownBy w4 v.ownBlock):
 aW (w4.setCell (b,3) (.slice (some (g,0)) (S.l.length+1) cap)) b m (.slice (some (g,0)) (S.l.length+1) cap) {S with l:=S.l++[z]}/\
 Ch (dE b v) w (w4.setCell (b,3) (.slice (some (g,0)) (S.l.length+1) cap)):=by
 have c:=Ch.bM j;have a:=h.head.ch c (aU h.own h.head (by decide));have f:b≠g:=by
  intro e;subst e;exact aU d a (by decide) rfl
 refine⟨⟨a.bc _ _ rfl,?_⟩,(Ch.mono (E:=dE b v) c fun i n=>Or.inr n).g5 (p:=⟨b,3,none⟩) (Or.inl rfl) _⟩;have:(S.l++[z]).flatMap iz.cells=S.l.flatMap iz.cells++z.cells:=by simp
 rw[this];show(w4.setCell (b,3) _).ownsRow 0 274 3 _ (S.l++[z]).length _
 rw[List.length_append,List.length_cons,List.length_nil];exact aj (D:=aL b) d ((Ch.refl _ _).only 3 (.slice (some (g,0)) (S.l.length+1) cap)) (fun k o e=>by
  have:g=k:=by simpa[Value.ownBlock]using o
  subst this;exact f (show _=_ from e.symm))
def iz.zero:iz:=⟨0,0,0⟩
theorem aW.lay{w:World}{b m g n cap:Nat}{S:a6}{l:List iz}(h:aW w b m (.slice (some (g,0)) n cap) {S with l:=l})(c:n=l.length){i:Nat}(f:i<l.length)(x:iz){i1 i2:Nat}(o:i1=i*3+1)(p:i2=i*3+2):
 aW (((w.setCell (g,i*3) (.int .i64 x.at_)).setCell (g,i1) (.int .i64 x.n)).setCell (g,i2) (.int .i64 x.w)) b m (.slice (some (g,0)) n cap) {S with l:=l.set i x}:=by
 obtain⟨y,q⟩:∃y,l[i]?=some y:=⟨_,List.getElem?_eq_getElem f⟩;have d:b≠g:=fun e=>aU h.own h.head (by decide) (by rw[e];rfl)
 have j:=h.own;rw[show({S with l:=l}:a6).l=l from rfl,<-c]at j;have r:=hU j iz.len q 0 (by omega) (a:=i*3) (by omega) (v:=.int .i64 x.at_) (y:=⟨x.at_,y.n,y.w⟩) rfl c;have s:=hU r iz.len (x:=⟨x.at_,y.n,y.w⟩) (by simp[f]) 1 (by omega) o (v:=.int .i64 x.n) (y:=⟨x.at_,x.n,y.w⟩) rfl (by simpa using c);have k:=hU s iz.len (x:=⟨x.at_,x.n,y.w⟩) (by simp[f]) 2 (by omega) p (v:=.int .i64 x.w) (y:=x) rfl (by simpa using c);rw[List.set_set,List.set_set]at k;refine⟨((h.head.other d _).other d _).other d _,?_⟩;show World.ownsRow _ 0 274 3 _ (l.set i x).length _
 rw[List.length_set,<-c];exact k
theorem zb{α:Type}(l:List α)(k:Nat)(x:α)(a:k<l.length):(l.take (k+1)++l.drop k).set k x=l.take k++[x]++l.drop k:=by
 rw[List.take_succ_eq_append_getElem a,List.append_assoc,List.append_assoc,List.set_append_right _ _ (by rw[List.length_take];omega)]
 congr 1
 rw[List.length_take,Nat.min_eq_left (by omega),Nat.sub_self];rfl
theorem vx{α:Type}(l:List α)(z x:α){k:Nat}(a:k=l.length):(l++[z]).set k x=l.take k++[x]++l.drop k:=by subst a;simp
theorem kG(b m c j:Nat)(v:Value)(S:a6)(M:aA)(ap:S.Ok)(n:Nat)(i7:n<=1000000)(w:World)(h:aW w b m v S)(c4:aM w m c j M):
 Calls prog 98 #[.pointer (some ⟨b,0,none⟩),.int .i64 n,.int .i64 64] w (DV (dd S M n) b m c j v w):=by
 obtain⟨hu,cW,hm,et,hn⟩:=info_parts vw;have bw:=Z cW;have H:=Z h;have c8:=Z c4;have c9:=Z ap;clear cW;by_cases bx:n=0
 ·have E:Hid (dd S M n=(none,S,M)):=Z (by unfold dd;rw[if_pos (Or.inl bx)])
  subst bx;clear h c4 ap;go_in
  go_wp2_with (go_at_call 126;refine(fT _ _ _ _).mono ?_;rintro e w' ⟨rfl,rfl⟩)
  go_ret2;rw[E];exact⟨⟨_,rfl,ar.mk _ _⟩,⟨v,H.alloc _,aT.refl _ _⟩,c8.alloc _,(Ch.refl _ _).alloc _⟩
 by_cases ad:4096<n
 ·have E:Hid (dd S M n=(none,S,M)):=Z (by unfold dd;rw[if_pos (Or.inr ad)])
  have hw:(4096:Int)<n:=by omega
  have fb:¬((n:Int)<1):=by omega
  clear h c4 ap bx;go_in
  go_wp2_with (go_at_call 126;refine(fT _ _ _ _).mono ?_;rintro e w' ⟨rfl,rfl⟩)
  go_ret2;rw[E];exact⟨⟨_,rfl,ar.mk _ _⟩,⟨v,H.alloc _,aT.refl _ _⟩,c8.alloc _,(Ch.refl _ _).alloc _⟩
 have E:Hid (dd S M n=match S.find n with
  |none=>(none,S,M)
  |some i=>if(M.map (S.ej i) n 64).1=true then(some (S.ej i),{S with l:=S.l.take i++[⟨S.ej i,n,64⟩]++S.l.drop i},(M.map (S.ej i) n 64).2)else(none,S,M)):=Z (by unfold dd;rw[if_neg (by omega)])
 have fb:¬((n:Int)<1):=by omega
 have hB:¬((4096:Int)<n):=by omega
 obtain⟨G,I,av⟩:=ao h.own;obtain⟨N,c0⟩:=mn S.l.length;rw[<-c0]at av;have F:=Z c0;have hF:N<=900000:=by rw[c0];exact ap.len
 subst av;clear h c4 ap c0 bx;go_wp2
 go_loopw [8] (fun s wr=>∃k:Nat,s=.int .i64 k/\k<=N+1/\Hid (S.ka n (N+1-k) k=S.find n/\∃q,wr=w.drewN q)) (fun s _=>N+1-(intOf s).toNat)
 case atStart=>exact⟨0,rfl,Nat.zero_le _,by rw[F];rfl,0,rfl⟩
 case round=>
  obtain⟨k,rfl,i5,a3⟩:=hrel;have V:Hid (aW wr b m (.slice G N I) S/\aM wr m c j M/\Ch (lI b (.slice G N I) m c j) w wr):=Z (by
   obtain⟨q,rfl⟩:=a3.2;exact⟨H.drewN q,c8.drewN q,(Ch.refl _ _).drewN q⟩)
  have cC:=V.1.head.k 3 rfl;by_cases dr:k<=N
  ·have hd:(k:Int)<=N:=by omega
   have c6:Hid (S.ka n (N+1-k) k=if(S.gh k:Int)-S.ej k<n then S.ka n (N+1-(k+1)) (k+1)else some k):=Z (by
    rw[show N+1-k=(N+1-(k+1))+1 from by omega,a6.ka])
   have hl:S.ej k<=140000/\S.gh k<=140000:=by
    have c1:=c9.out;have i4:=c1.from_;have i8:=c1.yQ;refine⟨?_,?_⟩
    ·unfold a6.ej
     split
     ·omega
     ·split
      ·rename_i x ax;have:=c1.l x (List.mem_of_getElem? ax);omega
      ·omega
    ·unfold a6.gh
     split
     ·omega
     ·split
      ·rename_i x ax;have:=c1.l x (List.mem_of_getElem? ax);omega
      ·omega
   obtain⟨a,c2⟩:=mn (S.ej k);obtain⟨st,cl⟩:=mn (S.gh k);have eA:Hid (∀w,aW w b m (.slice G N I) S->Calls prog 127 #[.pointer (some ⟨b,0,none⟩),.int .i64 k] w (fun e w'=>e=.returned (.int .i64 a)/\∃q,w'=w.drewN q)):=Z (fun w h=>by rw[c2];exact qo b m _ S c9 k (by rw[<-F];exact dr) w h);have cb:Hid (∀w,aW w b m (.slice G N I) S->Calls prog 128 #[.pointer (some ⟨b,0,none⟩),.int .i64 k] w (eg (.int .i64 st) w)):=Z (fun w h=>by rw[cl];exact nz b m _ S c9 k (by rw[<-F];exact dr) w h);rw[<-c2,<-cl]at c6 hl;have cr:=Z c2;clear c2 cl;go_wp2_with fail
   refine(eA _ V.1).mono ?_;rintro e w1 ⟨rfl,es⟩;have C:Hid (aW w1 b m (.slice G N I) S/\aM w1 m c j M/\Ch (lI b (.slice G N I) m c j) w w1/\∃q,w1=w.drewN q):=Z (by
    obtain⟨q,rfl⟩:=es;obtain⟨c5,rfl⟩:=a3.2;exact⟨V.1.drewN q,V.2.1.drewN q,V.2.2.drewN q,c5+q,wM _ _ _⟩)
   have d0:=C.1.head.c1;clear es cC;by_cases ec:(st:Int)-a<n
   ·have bv:Hid (S.ka n (N+1-(k+1)) (k+1)=S.find n):=Z (by rw[<-a3.1,c6,if_pos ec])
    go_wp2_with (go_at_call 128;refine(cb _ C.1).mono ?_;rintro e w' ⟨rfl,rfl⟩)
    go_roundw
    case rel=>exact⟨k+1,by go_num,by omega,bv,C.2.2.2⟩
    case measure=>simp[intOf];omega
   ·have bv:Hid (S.find n=some k):=Z (by rw[<-a3.1,c6,if_neg ec])
    cases R:(M.map a n 64).1
    ·have U:Hid (dd S M n=(none,S,M)):=Z (by rw[E,bv];simp only[<-cr.out,R];rfl)
     have a2:=Z (fun w h=>ez m c j M a n (by omega) (by omega) w h);have en:(M.map a n 64).2=M:=(by unfold aA.map at R⊢;split at R;cases R;rename_i fd;rw[if_neg fd]);rw[show M.map a n 64=(false,M)from Prod.ext R en]at a2;clear R en;go_wp2_with (first|(go_at_call 128;refine(cb _ C.1).mono ?_;rintro e w' ⟨rfl,rfl⟩)|(go_at_call 26;refine(a2 _ C.2.1).mono ?_;rintro e w2 ⟨⟨u,rfl,cm⟩,O,a1⟩;obtain⟨tt,ih,rfl⟩:=cm;have eC:=Z O;have cA:=Z a1;clear O a1)|(go_at_call 126;refine(fT _ _ _ _).mono ?_;rintro e w' ⟨rfl,rfl⟩))
     go_ret2;rw[U];have d:=C.1.g8 C.2.1;exact⟨⟨_,rfl,ar.mk _ _⟩,⟨_,(C.1.ch cA d.1.1 d.1.2).alloc _,aT.refl _ _⟩,eC.alloc _,(C.2.2.1.trans (cA.mono fun i r=>Or.inr r)).alloc _⟩
    ·have U:Hid (dd S M n=(some a,{S with l:=S.l.take k++[⟨a,n,64⟩]++S.l.drop k},(M.map a n 64).2)):=Z (by rw[E,bv];simp only[<-cr.out,R];rfl)
     have a2:=Z (fun w h=>ez m c j M a n (by omega) (by omega) w h);obtain⟨ab,O⟩:=nm ((M.map a n 64).2);rw[show M.map a n 64=(true,ab)from Prod.ext R O]at a2;rw[O]at U;clear R O;go_wp2_with (first|(go_at_call 128;refine(cb _ C.1).mono ?_;rintro e w' ⟨rfl,rfl⟩)|fail)
     refine(a2 _ C.2.1).mono ?_;rintro e w2 ⟨⟨u,rfl,cm⟩,O,a1⟩;obtain rfl:u=.nilIface:=cm;have d:=C.1.g8 C.2.1;have A:Hid (aW w2 b m (.slice G N I) S/\aM w2 m c j ab/\Ch (lI b (.slice G N I) m c j) w w2):=Z ⟨C.1.ch a1 d.1.1 d.1.2,O,C.2.2.1.trans (a1.mono fun i r=>Or.inr r)⟩;clear O a1 d d0;have d3:=A.1.head.k 3 rfl;have cL:=A.1.head.free 3;have ch:=A.1.own;rw[<-F]at ch;have eL:=Z ch;clear ch;go_wp2_with (at_builtin;refine wpList_append_lies _ rfl _ _ _ rfl 0 274 hu _ 3 24 underlying269 bw hm et hn rfl (by omega) _ N (S.l.flatMap iz.cells) rfl (eL.alloc _) ⟨w2.heap.size,0,none⟩ 1 1 [.int .i64 0,.int .i64 0,.int .i64 0] rfl rfl (World.news_of_block (cs:=#[.int .i64 0,.int .i64 0,.int .i64 0]) (t:=274) (fr:=(0,0)) (heap_alloc_new w2 _)) (by simp[Value.oneCell']) (by omega) (by unfold maxLen;omega) (by omega) (by simp) (w2.heap.size+1) (by simp) ?_)
     intro g cap w4 ci c3 ce hf;have a0:=A.1.app (z:=iz.zero) (by rw[<-F];exact ci) (au c3);rw[<-F]at a0;have d:=A.1.g8 A.2.1;obtain⟨f,cq⟩:=nm (w4.setCell ⟨b,3,none⟩ (.slice (some ⟨g,0,none⟩) (N+1) cap));have eW:w4.cell? ⟨b,3,none⟩=some (.slice G N I):=((Ch.bM (au c3)).cell (p:=⟨b,3,none⟩) A.1.head.lt (aU A.1.own A.1.head (by decide))).trans d3;have k3:w4.frozen? ⟨b,3,none⟩=false:=((Ch.bM (au c3)).frozen (p:=⟨b,3,none⟩) A.1.head.lt (aU A.1.own A.1.head (by decide))).trans cL;rw[cq]at a0;have cQ:∀i,i<w.heap.size->dE b (.slice (some ⟨g,0,none⟩) (N+1) cap) i->dE b (.slice G N I) i:=fun i r ax=>by
      rcases ax with ad|ad
      ·exact Or.inl ad
      ·have fz:g=i:=by simpa[Value.ownBlock]using ad
       rcases ce with al|al
       ·exact Or.inr (by rw[al,fz])
       ·have:=A.2.2.size;omega
     have c7:Hid (aT w (.slice G N I) (.slice (some ⟨g,0,none⟩) (N+1) cap)):=Z (aT.at (by
      rcases ce with al|al
      ·exact Or.inl (by rw[al])
      ·have:=A.2.2.size;exact Or.inr (by omega)))
     have B:Hid (aW f b m (.slice (some ⟨g,0,none⟩) (N+1) cap) {S with l:=S.l++[iz.zero]}/\aM f m c j ab/\Ch (lI b (.slice G N I) m c j) w f/\(∀i,i<w.heap.size->dE b (.slice (some ⟨g,0,none⟩) (N+1) cap) i->dE b (.slice G N I) i)):=Lib.hid
      ⟨a0.1,A.2.1.ch a0.2 d.2.1 d.2.2.1 d.2.2.2,A.2.2.trans (a0.2.mono fun i r=>Or.inl r),cQ⟩
     have i3:N+1<=cap:=by
      obtain⟨_,_,_,X,_,i0,_⟩:=aF ci (by omega);injection X with c5 ex i9
      omega
     clear a0 d cQ c3 ce hf d3 cL ci;go_wp2
     try rw[cq]
     clear cq eW k3;have cC:=B.1.head.k 3 rfl;by_cases dN:k<N
     ·have i6:k+1<cap:=by omega
      have cf:=B.1.own.drew;rw[show({S with l:=S.l++[iz.zero]}:a6).l=S.l++[iz.zero]from rfl,List.length_append,List.length_cons,List.length_nil,Nat.zero_add,F]at cf;obtain⟨L,ck,K,cd⟩:=wL (P:=prog) (T:=269) (ty:=3) (dC:=cap-(k+1)) (sC:=cap-k) underlying269 (by rw[bw];simp[et]) iz.len (fun x v av=>by simp[iz.cells]at av;rcases av with rfl|rfl|rfl<;>rfl) (by rw[<-F];exact dN) cf;rw[<-F]at ck K;clear cf;have o:Hid (aW L b m (.slice (some ⟨g,0,none⟩) (N+1) cap) {S with l:=S.l.take (k+1)++S.l.drop k}/\aM L m c j ab/\Ch (dE b (.slice (some ⟨g,0,none⟩) (N+1) cap)) f L):=Z (by
       have d:=B.1.g8 B.2.1;have cS:Ch (dE b (.slice (some ⟨g,0,none⟩) (N+1) cap)) f L:=(Ch.refl _ _).drew.trans (cd.mono fun i r=>Or.inr (congrArg some (show g=i from Eq.symm r)));refine⟨⟨B.1.head.drew.ch cd (fun e=>aU B.1.own B.1.head (by decide) (congrArg some (show g=b from Eq.symm e))),?_⟩,B.2.1.ch cS d.2.1 d.2.2.1 d.2.2.2,cS⟩;show L.ownsRow 0 274 3 _ (S.l.take (k+1)++S.l.drop k).length _
       rw[List.length_append,List.length_take,List.length_drop,<-F,show min (k+1) N+(N-k)=N+1 from by omega];exact K)
      clear K cd;have J:(S.l.take (k+1)++S.l.drop k).length=N+1:=(by rw[List.length_append,List.length_take,List.length_drop,<-F];omega);obtain⟨Y,bi⟩:∃y,(S.l.take (k+1)++S.l.drop k)[k]?=some y:=⟨_,List.getElem?_eq_getElem (by rw[J];omega)⟩;have K:=o.1.own;rw[show({S with l:=S.l.take (k+1)++S.l.drop k}:a6).l=S.l.take (k+1)++S.l.drop k from rfl,J]at K;obtain⟨Q,he,fn⟩:=kF K iz.len J.symm bi;have hv:L.cell? ⟨g,k*3,none⟩=some (.int .i64 Y.at_):=Q 0 _ (by omega) rfl;have c5:L.cell? ⟨g,k*3+1,none⟩=some (.int .i64 Y.n):=Q 1 _ (by omega) rfl;have ex:L.cell? ⟨g,k*3+2,none⟩=some (.int .i64 Y.w):=Q 2 _ (by omega) rfl;have eS:L.cell? ⟨b,3,none⟩=some (.slice (some ⟨g,0,none⟩) (N+1) cap):=o.1.head.cell (i:=3) rfl;have W:=Z J;have hi:(k:Int)<(N:Int)+1:=(by omega);clear Q bi K J;have ge:(k:Int)+1<=(N:Int)+1:=(by omega);have gf:(0:Int)<=(k:Int)+1:=(by omega);have gk:IntKind.i64.wrap ((k:Int)+1)=(k:Int)+1:=IntWalk.i64_in _ (by omega);have go:((k:Int)+1).toNat=k+1:=(by omega);have gr:(k:Int)<=(N:Int)+1:=(by omega);have gs:k<cap:=(by omega);have gt:¬cap=k:=(by omega);have hb:¬cap=k+1:=(by omega);have gc:k<=N+1:=(by omega);go_wp2
      go_still_tail 13,(by kernel_rfl)
      change wpList _ _ _ _ _ f.drew;go_wp2
      go_ret2;rw[U];refine⟨rfl,⟨.slice (some ⟨g,0,none⟩) (N+1) cap,?_,c7⟩,?_,?_⟩
      ·have:=o.1.lay W.symm (i:=k) (by rw[W];omega) ⟨a,n,64⟩ (i1:=k*3+1) (i2:=k*3+2) rfl rfl
       rw[zb _ _ _ (by rw[<-F];exact dN)]at this;exact this
      ·have d:=o.1.g8 o.2.1
       exact o.2.1.ch (D:=aL g) ((((Ch.refl _ _).only _ _).only _ _).only _ _) (fun e=>d.2.1 (Or.inr (congrArg some (show g=m from Eq.symm e)))) (fun e=>d.2.2.1 (Or.inr (congrArg some (show g=c from Eq.symm e)))) (fun e=>d.2.2.2 (Or.inr (congrArg some (show g=j from Eq.symm e))))
      ·have am:Ch (dE b (.slice (some ⟨g,0,none⟩) (N+1) cap)) L _:=Ch.mono (D:=aL g) ((((Ch.refl _ L).only (k*3) (.int .i64 a)).only (k*3+1) (.int .i64 n)).only (k*3+2) (.int .i64 64)) (fun i r=>Or.inr (congrArg some (show g=i from Eq.symm r)))
       exact B.2.2.1.join (o.2.2.trans am) (fun i r X=>Or.inl (B.2.2.2 i r X))
     ·obtain rfl:k=N:=by omega
      have o:Hid (aW f b m (.slice (some ⟨g,0,none⟩) (k+1) cap) {S with l:=S.l++[iz.zero]}/\aM f m c j ab/\Ch (dE b (.slice (some ⟨g,0,none⟩) (k+1) cap)) f f):=Z ⟨B.1,B.2.1,Ch.refl _ _⟩;have J:(S.l++[iz.zero]).length=k+1:=(by rw[List.length_append,List.length_cons,List.length_nil,<-F]);obtain⟨Y,bi⟩:∃y,(S.l++[iz.zero])[k]?=some y:=⟨_,List.getElem?_eq_getElem (by rw[J];omega)⟩;have K:=o.1.own;rw[show({S with l:=S.l++[iz.zero]}:a6).l=S.l++[iz.zero]from rfl,J]at K;obtain⟨Q,he,fn⟩:=kF K iz.len J.symm bi;have hv:f.cell? ⟨g,k*3,none⟩=some (.int .i64 Y.at_):=Q 0 _ (by omega) rfl;have c5:f.cell? ⟨g,k*3+1,none⟩=some (.int .i64 Y.n):=Q 1 _ (by omega) rfl;have ex:f.cell? ⟨g,k*3+2,none⟩=some (.int .i64 Y.w):=Q 2 _ (by omega) rfl;have eS:f.cell? ⟨b,3,none⟩=some (.slice (some ⟨g,0,none⟩) (k+1) cap):=o.1.head.cell (i:=3) rfl;have W:=Z J;have hi:(k:Int)<(k:Int)+1:=(by omega);clear Q bi K J;have ge:(k:Int)+1<=(k:Int)+1:=(by omega);have gf:(0:Int)<=(k:Int)+1:=(by omega);have gk:IntKind.i64.wrap ((k:Int)+1)=(k:Int)+1:=IntWalk.i64_in _ (by omega);have go:((k:Int)+1).toNat=k+1:=(by omega);have gr:(k:Int)<=(k:Int)+1:=(by omega);have gs:k<cap:=(by omega);have gt:¬cap=k:=(by omega);have gc:k<=k+1:=(by omega);by_cases hb:cap=k+1
      ·skip
       have ck:∀(j a:Option Addr) (dC sC:Nat),(Builtin.copy_ #[269,269] 3 #[.slice j 0 dC,.slice a 1 sC]).run prog f.drew=.ok (goInt 0) f.drew:=(fun j a dC sC=>nB f.drew _ _ _ _ j a 0 dC 1 sC underlying269 (by rw[bw];rfl) rfl);go_wp2
       go_still_tail 13,(by kernel_rfl)
       change wpList _ _ _ _ _ f.drew;go_wp2
       go_ret2;rw[U];refine⟨rfl,⟨.slice (some ⟨g,0,none⟩) (k+1) cap,?_,c7⟩,?_,?_⟩
       ·have:=o.1.lay W.symm (i:=k) (by rw[W];omega) ⟨a,n,64⟩ (i1:=k*3+1) (i2:=k*3+2) rfl rfl
        rw[vx _ _ _ F]at this;exact this.drew
       ·have d:=o.1.g8 o.2.1
        exact o.2.1.ch (D:=aL g) ((((Ch.refl _ _).only _ _).only _ _).only _ _).drew (fun e=>d.2.1 (Or.inr (congrArg some (show g=m from Eq.symm e)))) (fun e=>d.2.2.1 (Or.inr (congrArg some (show g=c from Eq.symm e)))) (fun e=>d.2.2.2 (Or.inr (congrArg some (show g=j from Eq.symm e))))
       ·have am:Ch (dE b (.slice (some ⟨g,0,none⟩) (k+1) cap)) f _:=Ch.mono (D:=aL g) ((((Ch.refl _ f).only (k*3) (.int .i64 a)).only (k*3+1) (.int .i64 n)).only (k*3+2) (.int .i64 64)).drew (fun i r=>Or.inr (congrArg some (show g=i from Eq.symm r)))
        exact B.2.2.1.join (o.2.2.trans am) (fun i r X=>Or.inl (B.2.2.2 i r X))
      ·skip
       have ck:∀(j a:Option Addr) (dC sC:Nat),(Builtin.copy_ #[269,269] 3 #[.slice j 0 dC,.slice a 1 sC]).run prog f.drew=.ok (goInt 0) f.drew:=(fun j a dC sC=>nB f.drew _ _ _ _ j a 0 dC 1 sC underlying269 (by rw[bw];rfl) rfl);go_wp2
       go_still_tail 13,(by kernel_rfl)
       change wpList _ _ _ _ _ f.drew;go_wp2
       go_ret2;rw[U];refine⟨rfl,⟨.slice (some ⟨g,0,none⟩) (k+1) cap,?_,c7⟩,?_,?_⟩
       ·have:=o.1.lay W.symm (i:=k) (by rw[W];omega) ⟨a,n,64⟩ (i1:=k*3+1) (i2:=k*3+2) rfl rfl
        rw[vx _ _ _ F]at this;exact this.drew
       ·have d:=o.1.g8 o.2.1
        exact o.2.1.ch (D:=aL g) ((((Ch.refl _ _).only _ _).only _ _).only _ _).drew (fun e=>d.2.1 (Or.inr (congrArg some (show g=m from Eq.symm e)))) (fun e=>d.2.2.1 (Or.inr (congrArg some (show g=c from Eq.symm e)))) (fun e=>d.2.2.2 (Or.inr (congrArg some (show g=j from Eq.symm e))))
       ·have am:Ch (dE b (.slice (some ⟨g,0,none⟩) (k+1) cap)) f _:=Ch.mono (D:=aL g) ((((Ch.refl _ f).only (k*3) (.int .i64 a)).only (k*3+1) (.int .i64 n)).only (k*3+2) (.int .i64 64)).drew (fun i r=>Or.inr (congrArg some (show g=i from Eq.symm r)))
        exact B.2.2.1.join (o.2.2.trans am) (fun i r X=>Or.inl (B.2.2.2 i r X))
  ·have hd:¬((k:Int)<=N):=by omega
   have U:Hid (dd S M n=(none,S,M)):=Z (by
    rw[E,<-a3.1,show N+1-k=0 from by omega];rfl)
   go_wp2_with (go_at_call 126;refine(fT _ _ _ _).mono ?_;rintro e w' ⟨rfl,rfl⟩)
   go_ret2;rw[U];exact⟨⟨_,rfl,ar.mk _ _⟩,⟨_,V.1.alloc _,aT.refl _ _⟩,V.2.1.alloc _,V.2.2.alloc _⟩
end
section
attribute [local go_sem↓] Go.wp_at_zero Go.wp_at_succ
def zc:List Value->Nat->List Value->List Value
 |L,_,[]=>L
 |L,a,v::r=>zc (L.set a v) (a+1) r
theorem vy:∀(b:List Value) (L:List Value) (a:Nat),a+b.length<=L.length->zc L a b=L.take a++b++L.drop (a+b.length)
 |[],L,a,_=>by simp[zc]
 |v::r,L,a,h=>by
  rw[List.length_cons]at h;rw[zc,vy r (L.set a v) (a+1) (by rw[List.length_set];omega),list_seg_step L a v r h];rfl
theorem Row.wN{g:Nat}{t:TypeId}:∀(b:List Value) (a:Nat) (w:World) (L:List Value),Row w g t L->Row (w.setCells g a b) g t (zc L a b)
 |[],_,_,_,h=>h
 |v::r,a,w,L,h=>Row.wN r (a+1) _ _ (h.set a v)
theorem vz{g:Nat}:∀(b:List Value) (a:Nat) (w:World),Ch (aL g) w (w.setCells g a b)
 |[],_,w=>Ch.refl _ w
 |v::r,a,w=>((Ch.refl _ w).only a v).trans (vz r (a+1) _)
theorem rF{P:Program}{α:Type}{enc:α->List Value}{ops:Array Oper}{k:Oper}{a:Act}{w:World}{K:Act->World->Prop}{Q:Exit->Act->World->Prop}{E:Prop}
 (S:k.guard=none) (s x:Operand) (T:TypeId) (Z:k.op=Op.call {callee:=Callee.builtin Builtin.append,args:=#[s,x],argTypes:=#[T,T]})
 (e:TypeId) (A:TypeInfo) (size:Nat) (a2:P.underlying T=some (.slice e)) (U:P.info? e=some A) (al:A.size=size)
 {l:List α} (f:∀x,(enc x).length=size) (H:∀x,∀v∈enc x,v.oneCell'=true) (B g i n cap:Nat) (bi:i<n) (p:n=l.length)
 (a0:a.eval s=.slice (some (g,0)) i cap) (r:Addr) (c G:Nat) (a1:G=n-(i+1)) (ab:a.eval x=.slice (some r) G c) (M:i+1<n->r=⟨g,(i+1)*size,none⟩)
 (Y:w.ownsRow B e size (.slice (some (g,0)) n cap) n (l.flatMap enc))
 (J:∀w',w'.ownsRow B e size (.slice (some (g,0)) (n-1) cap) (n-1) ((l.eraseIdx i).flatMap enc)->Ch (aL g) w w'->K (a.put k.dst (.slice (some (g,0)) (n-1) cap)) w'):
 if Region.wanted k (yielded ops a.tmps)=true then Oper.wp P k a w K Q else E:=by
 subst a1;obtain⟨av,ap,C,O,I,N,X,q,t⟩:=aF Y (by omega);injection O with m bx am
 injection m with m
 injection m with m
 subst m am;have D:=a4 f l;have b:=a4 f (l.drop (i+1));rw[List.length_drop,<-p]at b;have ax:n*size<=cap*size:=Nat.mul_le_mul_right _ N;have bw:i*size+(n-(i+1))*size+size=n*size:=by
  rw[<-Nat.add_mul,<-Nat.succ_mul];congr 1;omega
 refine step_append_room S s x T Z e A size a2 U al g 0 i cap a0 r (n-(i+1)) c ((l.drop (i+1)).flatMap enc) ab b (fun j u d=> ?_) (fun u a3=> ?_) (by omega) (fun j d=> ?_) ?_
 ·have F:=(List.getElem?_eq_some_iff.1 d).1
  rw[b]at F;have V:i+1<n:=by
   rcases Nat.lt_or_ge (i+1) n with h|h
   ·exact h
   ·rw[show n-(i+1)=0 from by omega]at F;omega
  rw[M V,show(⟨g,(i+1)*size,none⟩:Addr).add j=⟨g,(i+1)*size+j,none⟩from by unfold Addr.add;split<;>simp_all];have bv:(i+1)*size=i*size+size:=Nat.succ_mul _ _;refine q.cell ?_;rw[List.getElem?_append_left (by rw[D,<-p];omega)];rw[<-lH f,List.getElem?_drop]at d;exact d
 ·obtain⟨y,_,ad⟩:=List.mem_flatMap.1 a3
  exact H y u ad
 ·rw[b]at d
  rw[Nat.zero_add];have W:i*size+j<(l.flatMap enc++C).length:=by rw[t];omega
  exact⟨by rw[q.cell (List.getElem?_eq_getElem W)];rfl,q.free _⟩
 ·have hlen:i+(n-(i+1))=n-1:=by omega
  rw[hlen,Nat.zero_add];refine J _ ?_ (vz _ _ _);have z:=q.wN ((l.drop (i+1)).flatMap enc) (i*size) w;have R:i*size+((l.drop (i+1)).flatMap enc).length<=(l.flatMap enc++C).length:=by rw[b,t];omega
  rw[vy _ _ _ R,b]at z;have L:(l.flatMap enc++C).take (i*size)=(l.take i).flatMap enc:=by
   rw[List.take_append,jH f,D,<-p,show i*size-n*size=0 from by omega,List.take_zero,List.append_nil]
  rw[L,<-List.flatMap_append,<-List.eraseIdx_eq_take_drop_succ]at z;have o:=a4 f (l.eraseIdx i);rw[List.length_eraseIdx_of_lt (by omega),<-p]at o;refine⟨o,Or.inr ⟨g,cap,_,rfl,I,z,by omega,X,?_,?_⟩⟩
  ·rw[List.size_toArray,List.length_append,o,List.length_drop,t]
   have:(n-1)*size=i*size+(n-(i+1))*size:=(by rw[<-Nat.add_mul];congr 1;omega);omega
  ·rw[List.toList_toArray]
   exact List.take_left' o
def ml:List iz->Int->Nat->Option Nat
 |[],_,_=>none
 |x::l,a,i=>if(x.at_:Int)==a then some i else ml l a (i+1)
def mO(S:a6)(M:aA)(a:Int):Bool×a6×aA:=
 match ml S.l a 0 with
 |none=>(false,S,M)
 |some i=>match S.l[i]? with
  |none=>(false,S,M)
  |some x=>((M.gl x.at_ x.n).1,{S with l:=S.l.eraseIdx i},(M.gl x.at_ x.n).2)
def DW(x:Bool×a6×aA)(b m c a:Nat)(v:Value)(w:World)(e:Ending)(w':World):Prop:=
 qe x.1 e/\(∃d,aW w' b m d x.2.1/\aT w v d)/\aM w' m c a x.2.2/\Ch (lI b v m c a) w w'
theorem kH(b m c n:Nat)(v:Value)(S:a6)(M:aA)(av:S.Ok)(a:Int)(w:World)(h:aW w b m v S)(cd:aM w m c n M):
 Calls prog 100 #[(b,0),a] w (DW (mO S M a) b m c n v w):=by
 obtain⟨ck,c9,fb,ci,fd⟩:=info_parts vw;have c4:=Z c9;have H:=Z h;have cq:=Z cd;have cr:=Z av;obtain⟨cA,f,X⟩:=ao h.own;obtain⟨N,am⟩:=mn S.l.length;have hlen:=av.len;rw[<-am]at X hlen;have o:=Z am;have L:=h.head.k 3 rfl;subst X;clear h cd av am c9;go_wp2
 go_loopw [13] (fun s wr=>∃k:Nat,s=.int .i64 k/\k<=N/\Hid (ml (S.l.drop k) a k=ml S.l a 0/\Ch ag w wr)) (fun s _=>N-(intOf s).toNat)
 case atStart=>exact⟨0,rfl,Nat.zero_le _,rfl,Ch.refl _ _⟩
 case round=>
  obtain⟨k,rfl,eL,B⟩:=hrel;have K:Hid (aW wr b m (.slice cA N f) S/\aM wr m c n M):=Z ⟨H.ch B.2 id (fun _ _ h=>h),cq.ch B.2 id id id⟩;by_cases T:k<N
  ·obtain⟨x,Y⟩:∃x,S.l[k]?=some x:=⟨_,List.getElem?_eq_getElem (by rw[<-o];exact T)⟩
   have c8:S.l.drop k=x::S.l.drop (k+1):=by
    obtain⟨cC,cL⟩:=List.getElem?_eq_some_iff.1 Y;rw[List.drop_eq_getElem_cons cC,cL]
   have a3:=K.1.own;rw[<-o]at a3;obtain⟨g,cap,ge,F,eA,eC,eS,-,-⟩:=aF a3 (by omega);injection F with bx cl es
   subst bx es;obtain⟨a2,cb,cS⟩:=kF a3 iz.len o Y;have en:wr.cell? (g,k*3)=some (.int .i64 x.at_):=a2 0 _ (by omega) rfl;have bx:wr.cell? (g,k*3+1)=some (.int .i64 x.n):=a2 1 _ (by omega) rfl;have cl:wr.cell? (g,k*3+2)=some (.int .i64 x.w):=a2 2 _ (by omega) rfl;have cW:(k:Int)<N:=(by omega);have cs:=Z Y;have c3:=Z c8;have eW:=cr.l x (List.mem_of_getElem? Y);clear a2 Y c8 a3 L;cases F:(x.at_:Int)==a
   ·have cm:Hid (ml (S.l.drop (k+1)) a (k+1)=ml S.l a 0):=Z (by
     rw[<-B.1,c3];show _=if((x.at_:Int)==a)=true then _ else _;rw[F];rfl)
    have dr:((x.at_:Int) !=a)=true:=(by rw[bne,F];rfl);clear F;go_wp2
    go_roundw
    case rel=>exact⟨k+1,by go_num,by omega,cm,B.2.alloc _⟩
    case measure=>simp[intOf];omega
   ·have dr:((x.at_:Int) !=a)=false:=by rw[bne,F];rfl
    have E:Hid (mO S M a=((M.gl x.at_ x.n).1,{S with l:=S.l.eraseIdx k},(M.gl x.at_ x.n).2)):=Z (by
     have:ml S.l a 0=some k:=by
      rw[<-B.1,c3];show(if((x.at_:Int)==a)=true then _ else _)=_;rw[F];rfl
     unfold mO;rw[this];simp only[cs.out])
    clear F;obtain⟨w1,bw⟩:=nm (wr.alloc (.cells #[.int .i64 x.at_,.int .i64 x.n,.int .i64 x.w] 274));have d:Hid (aW w1 b m (.slice (some (g,0)) N f) S/\aM w1 m c n M/\Ch (lI b (.slice (some (g,0)) N f) m c n) w w1/\Row w1 wr.heap.size 274 x.cells):=Z (by
     rw[<-bw];exact⟨K.1.alloc _,K.2.alloc _,B.2.af.alloc _,Row.new wr _ _⟩)
    have bv:Hid (g<wr.heap.size/\b<wr.heap.size):=Z ⟨cb,K.1.head.lt⟩;have c5:=d.1.head.c1;have L:=d.1.head.k 3 rfl;have f3:=d.1.head.free 3;obtain⟨t0,t1⟩:=d.2.2.2.c2;go_wp2
    try rw[bw]
    clear bw en bx cl cS cb;obtain⟨tb,ce⟩:=mn wr.heap.size;rw[<-ce]at d bv t0 t1⊢;have ch:g≠tb:=(by have:=bv.out;omega);have cf:b≠tb:=(by have:=bv.out;omega);clear ce;have ax:=d.1.own;rw[<-o]at ax;have c7:=Z ax;have C:Hid (¬aL g b):=Z (fun e=>aU d.1.own d.1.head (by decide) (congrArg some (show g=b from Eq.symm e)));have c6:Hid (∀x:iz,∀v∈x.cells,v.oneCell'=true):=Z (fun x v X=>by simp[iz.cells]at X;rcases X with rfl|rfl|rfl<;>rfl);clear ax;have i1:(0:Int)<=k:=(by omega);have i2:(k:Int)<=f:=(by omega);have fn:IntKind.i64.wrap ((k:Int)+1)=(k:Int)+1:=IntWalk.i64_in _ (by omega);have fr:(0:Int)<=(k:Int)+1:=(by omega);have dC:(k:Int)+1<=N:=(by omega);have fz:((k:Int)+1).toNat=k+1:=(by omega);have dN:k<=f:=(by omega);have ec:k+1<=N:=(by omega);by_cases cQ:f=k+1
    ·obtain rfl:N=k+1:=by omega
     subst cQ;have gc:(k:Int)<=(k:Int)+1:=(by omega);have i10:k<=k+1:=(by omega);clear i2 dC dN ec;go_region_law (first|(refine rF (by rfl) (.tmp 28) (.tmp 35) 269 (by rfl) 274 ck 3 underlying269 c4 ci iz.len c6 0 g k (k+1) (k+1) T o (by rfl) ⟨g,0,none⟩ 0 0 (by omega) (by rfl) (fun h=>by omega) c7.drew ?_;intro w2 V A;have ab:=Z V;have O:=Z A;have ad:w2.cell? (b,3)=some (.slice (some (g,0)) (k+1) (k+1)):=(A.cell (p:=⟨b,3,none⟩) d.1.head.lt C.out).trans L;have k3:w2.frozen? (b,3)=false:=(A.frozen (p:=⟨b,3,none⟩) d.1.head.lt C.out).trans f3;clear V A))
     all_goals
      obtain⟨w3,t⟩:=nm (w2.setCell (b,3) (.slice (some (g,0)) k (k+1)));have j:Hid (aW w3 b m (.slice (some (g,0)) k (k+1)) {S with l:=S.l.eraseIdx k}/\aM w3 m c n M/\Ch (lI b (.slice (some (g,0)) (k+1) (k+1)) m c n) w w3/\Row w3 tb 274 x.cells):=Z (by
       have J:=d.1.g8 d.2.1;have ap:b≠g:=(fun e=>C.out e);have I:Ch (dE b (.slice (some (g,0)) (k+1) (k+1))) w1 w3:=by
        rw[<-t];have al:Ch (dE b (.slice (some (g,0)) (k+1) (k+1))) w1 w2:=(Ch.refl _ _).drew.trans (O.mono fun i r=>Or.inr (congrArg some (show g=i from Eq.symm r)));exact al.g5 (p:=⟨b,3,none⟩) (Or.inl rfl) _
       refine⟨⟨?_,?_⟩,d.2.1.ch I J.2.1 J.2.2.1 J.2.2.2,d.2.2.1.trans (I.mono fun i r=>Or.inl r),d.2.2.2.ch I ?_⟩
       ·rw[<-t];exact(d.1.head.drew.ch O C.out).bc _ _ rfl
       ·show w3.ownsRow 0 274 3 _ (S.l.eraseIdx k).length _
        rw[List.length_eraseIdx_of_lt (by rw[<-o];exact T),<-o,<-t];exact aj (D:=aL b) ab ((Ch.refl _ _).only 3 _) (fun q bi e=>ap (by
         have:g=q:=(by simpa[Value.ownBlock]using bi);rw[this];exact(show q=b from e).symm))
       ·rintro(e|e)
        ·exact cf e.symm
        ·exact ch (by simpa[Value.ownBlock]using e))
      have k0:w3.cell? (b,0)=some (.pointer (some (m,0))):=j.1.head.cell (i:=0) rfl;obtain⟨c0,c1⟩:=j.2.2.2.c2;go_wp2
      try rw[t]
      clear t ad k3 c5 L f3 t0 t1;have Q:=Z (fun w h=>kA m c n M x.at_ x.n (by omega) (by omega) w h);have U:=Z (j.1.g8 j.2.1);obtain⟨y,a0⟩:=nm (M.gl x.at_ x.n);rw[a0]at Q E;clear a0;obtain⟨c2,ex⟩:=y;go_still_tail 8,(by kernel_rfl)
      change wpList _ _ _ _ _ w3.drew;go_wp2_with fail
      refine(Q _ j.2.1.drew).mono ?_;rintro e a1 ⟨⟨u,rfl,W⟩,R,G⟩;have P:=Z R;have z:Hid (aW a1 b m (.slice (some (g,0)) k (k+1)) {S with l:=S.l.eraseIdx k}/\Ch (lI b (.slice (some (g,0)) (k+1) (k+1)) m c n) w a1):=Z ⟨j.1.drew.ch G U.out.1.1 U.out.1.2,j.2.2.1.drew.trans (G.mono fun i r=>Or.inr r)⟩;clear R G k0 c0 c1;cases c2
      ·obtain⟨tt,et,rfl⟩:ar u:=W
       go_wp2_with (go_at_call 126;refine(fT _ _ _ _).mono ?_;rintro e w' ⟨rfl,rfl⟩)
       go_ret;rw[E];exact⟨⟨_,rfl,ar.mk _ _⟩,⟨_,z.1.alloc _,aT.of_eq rfl⟩,P.alloc _,z.2.alloc _⟩
      ·obtain rfl:u=.nilIface:=W
       go_wp2
       go_ret;rw[E];exact⟨⟨_,rfl,rfl⟩,⟨_,z.1,aT.of_eq rfl⟩,P,z.2⟩
    ·go_region_law (first|(refine rF (by rfl) (.tmp 28) (.tmp 35) 269 (by rfl) 274 ck 3 underlying269 c4 ci iz.len c6 0 g k N f T o (by rfl) ⟨g,(k+1)*3,none⟩ (f-(k+1)) (N-(k+1)) rfl (by rfl) (fun h=>rfl) c7.drew ?_;intro w2 V A;have ab:=Z V;have O:=Z A;have ad:w2.cell? (b,3)=some (.slice (some (g,0)) N f):=(A.cell (p:=⟨b,3,none⟩) d.1.head.lt C.out).trans L;have k3:w2.frozen? (b,3)=false:=(A.frozen (p:=⟨b,3,none⟩) d.1.head.lt C.out).trans f3;clear V A))
     all_goals
      obtain⟨w3,t⟩:=nm (w2.setCell (b,3) (.slice (some (g,0)) (N-1) f));have j:Hid (aW w3 b m (.slice (some (g,0)) (N-1) f) {S with l:=S.l.eraseIdx k}/\aM w3 m c n M/\Ch (lI b (.slice (some (g,0)) N f) m c n) w w3/\Row w3 tb 274 x.cells):=Z (by
       have J:=d.1.g8 d.2.1;have ap:b≠g:=(fun e=>C.out e);have I:Ch (dE b (.slice (some (g,0)) N f)) w1 w3:=by
        rw[<-t];have al:Ch (dE b (.slice (some (g,0)) N f)) w1 w2:=(Ch.refl _ _).drew.trans (O.mono fun i r=>Or.inr (congrArg some (show g=i from Eq.symm r)));exact al.g5 (p:=⟨b,3,none⟩) (Or.inl rfl) _
       refine⟨⟨?_,?_⟩,d.2.1.ch I J.2.1 J.2.2.1 J.2.2.2,d.2.2.1.trans (I.mono fun i r=>Or.inl r),d.2.2.2.ch I ?_⟩
       ·rw[<-t];exact(d.1.head.drew.ch O C.out).bc _ _ rfl
       ·show w3.ownsRow 0 274 3 _ (S.l.eraseIdx k).length _
        rw[List.length_eraseIdx_of_lt (by rw[<-o];exact T),<-o,<-t];exact aj (D:=aL b) ab ((Ch.refl _ _).only 3 _) (fun q bi e=>ap (by
         have:g=q:=(by simpa[Value.ownBlock]using bi);rw[this];exact(show q=b from e).symm))
       ·rintro(e|e)
        ·exact cf e.symm
        ·exact ch (by simpa[Value.ownBlock]using e))
      have k0:w3.cell? (b,0)=some (.pointer (some (m,0))):=j.1.head.cell (i:=0) rfl;obtain⟨c0,c1⟩:=j.2.2.2.c2;go_wp2
      try rw[t]
      clear t ad k3 c5 L f3 t0 t1;have Q:=Z (fun w h=>kA m c n M x.at_ x.n (by omega) (by omega) w h);have U:=Z (j.1.g8 j.2.1);obtain⟨y,a0⟩:=nm (M.gl x.at_ x.n);rw[a0]at Q E;clear a0;obtain⟨c2,ex⟩:=y;go_still_tail 8,(by kernel_rfl)
      change wpList _ _ _ _ _ w3.drew;go_wp2_with fail
      refine(Q _ j.2.1.drew).mono ?_;rintro e a1 ⟨⟨u,rfl,W⟩,R,G⟩;have P:=Z R;have z:Hid (aW a1 b m (.slice (some (g,0)) (N-1) f) {S with l:=S.l.eraseIdx k}/\Ch (lI b (.slice (some (g,0)) N f) m c n) w a1):=Z ⟨j.1.drew.ch G U.out.1.1 U.out.1.2,j.2.2.1.drew.trans (G.mono fun i r=>Or.inr r)⟩;clear R G k0 c0 c1;cases c2
      ·obtain⟨tt,et,rfl⟩:ar u:=W
       go_wp2_with (go_at_call 126;refine(fT _ _ _ _).mono ?_;rintro e w' ⟨rfl,rfl⟩)
       go_ret;rw[E];exact⟨⟨_,rfl,ar.mk _ _⟩,⟨_,z.1.alloc _,aT.of_eq rfl⟩,P.alloc _,z.2.alloc _⟩
      ·obtain rfl:u=.nilIface:=W
       go_wp2
       go_ret;rw[E];exact⟨⟨_,rfl,rfl⟩,⟨_,z.1,aT.of_eq rfl⟩,P,z.2⟩
  ·have cW:¬(k:Int)<N:=by omega
   have E:Hid (mO S M a=(false,S,M)):=Z (by
    have:ml S.l a 0=none:=(by rw[<-B.1,List.drop_eq_nil_of_le (by rw[<-o];omega)];rfl);unfold mO;rw[this])
   go_wp2_with (go_at_call 126;refine(fT _ _ _ _).mono ?_;rintro e w' ⟨rfl,rfl⟩)
   go_ret;rw[E];exact⟨⟨_,rfl,ar.mk _ _⟩,⟨_,K.1.alloc _,aT.refl _ _⟩,K.2.alloc _,B.2.af.alloc _⟩
end
theorem ia{α:Type}{enc:α->List Value}{k:Nat}(a:∀x,(enc x).length=k)(m:0<k)(x:α)(z:Array Value)(g:z.toList=enc x)(c:Nat):(madeCells z (c*k)).toList=(List.replicate c x).flatMap enc:=by
 have d:z.size=k:=by rw[<-Array.length_toList,g,a]
 apply List.ext_getElem?;intro i;by_cases f:i<c*k
 ·have e:i=(i/k)*k+i%k:=by rw[Nat.mul_comm];exact(Nat.div_add_mod i k).symm
  have l:i/k<c:=Nat.div_lt_of_lt_mul (by rw[Nat.mul_comm];exact f);have b:i%k<k:=Nat.mod_lt _ m;have h:((List.replicate c x).flatMap enc)[i]?=(enc x)[i%k]?:=by
   conv=>lhs;rw[e]
   exact bD a (by simp[l]) b
  rw[h,<-g];have j:(madeCells z (c*k))[i]?=z[i%k]?:=by
   unfold madeCells;rw[Array.getElem?_map,Array.getElem?_range,if_pos f];simp only[Option.map_some,d];rw[getElem!_pos z (i%k) (by rw[d];exact b),Array.getElem?_eq_getElem (by rw[d];exact b)]
  simpa using j
 ·rw[List.getElem?_eq_none (by simp[size_madeCells];omega),List.getElem?_eq_none (by rw[a4 a,List.length_replicate];omega)]
theorem oo(z:Value)(c:Nat):(madeCells #[z] c).toList=List.replicate c z:=by
 have:=ia (enc:=fun v:Value=>[v]) (k:=1) (fun _=>rfl) (by omega) z #[z] rfl c;rw[Nat.mul_one]at this;rw[this];simp[List.flatMap_replicate]
theorem Am:(prog.info? 251).map (fun i=>(i.zero,i.size,i.bytes))=some (some (.agg #[.int .u64 0,.bool false,.bool false,.int .u64 0,.int .i64 0,.int .u64 0,.int .u64 0,.int .u64 0,.bool false,.bool false]),10,64):=by kernel_rfl
theorem An:(prog.info? 262).map (fun i=>(i.zero,i.size,i.bytes))=some (some (.agg #[.int .u64 0,.int .u64 0,.int .i64 0,.int .u64 0]),4,32):=by kernel_rfl
theorem Cv:(prog.info? 254).map (fun i=>(i.zero,i.size,i.bytes))=some (some (.agg #[.pointer none,.pointer none]),2,16):=by kernel_rfl
theorem Ey:(prog.info? 5).map (fun i=>(i.zero,i.size,i.bytes))=some (some (.int .u8 0),1,1):=by kernel_rfl
def aE.zero:aE:=⟨0,false,false,iZ.zero⟩
def bK.zero:bK:=⟨0,0,0,0⟩
theorem q0(w:World):Calls prog 55 #[.int .i64 64] w (fun e w'=>e=.returned (.tuple #[(w.heap.size+1,0),.nilIface])/\a5 w' (w.heap.size+1) w.heap.size (List.replicate 64 aE.zero)/\Ch ag w w'):=by
 obtain⟨g,b,c,d,f⟩:=info_parts Am;have j:=run_make (P:=prog) w 215 251 g _ underlying215 b c .i64 .i64 64 64 (by omega) (by omega) (by rw[f];decide) (by omega);obtain⟨cs,a⟩:=nm (madeCells (Value.agg #[.int .u64 0,.bool false,.bool false,.int .u64 0,.int .i64 0,.int .u64 0,.int .u64 0,.int .u64 0,.bool false,.bool false]).cells ((64:Int).toNat*g.size));rw[a]at j;rw[d]at a;have h:=Z a;clear a b c d f;go_wp2
 go_ret2;have i:=ia (enc:=aE.cells) aE.len (by omega) aE.zero #[.int .u64 0,.bool false,.bool false,.int .u64 0,.int .i64 0,.int .u64 0,.int .u64 0,.int .u64 0,.bool false,.bool false] rfl 64;have k:Row (w.alloc (.cells cs 251)) w.heap.size 251 ((List.replicate 64 aE.zero).flatMap aE.cells):=by
  have:=Row.new w cs 251;rw[<-h]at this⊢;rw[<-i];exact this
 refine⟨by simp,⟨?_,k.alloc _,by simp⟩,((Ch.refl _ _).alloc _).alloc _⟩;have:=Row.new (w.alloc (.cells cs 251)) #[.slice (some (w.heap.size,0)) 64 64] 217;rw[World.size_alloc]at this;exact this
theorem oq(w:World):Calls prog 56 #[.int .i64 64] w (fun e w'=>e=.returned (.tuple #[(w.heap.size+1,0),.nilIface])/\bX w' (w.heap.size+1) w.heap.size (List.replicate 64 bK.zero)/\Ch ag w w'):=by
 obtain⟨g,b,c,d,f⟩:=info_parts An;have j:=run_make (P:=prog) w 218 262 g _ underlying218 b c .i64 .i64 64 64 (by omega) (by omega) (by rw[f];decide) (by omega);obtain⟨cs,a⟩:=nm (madeCells (Value.agg #[.int .u64 0,.int .u64 0,.int .i64 0,.int .u64 0]).cells ((64:Int).toNat*g.size));rw[a]at j;rw[d]at a;have h:=Z a;clear a b c d f;go_wp2
 go_ret2;have i:=ia (enc:=bK.cells) bK.len (by omega) bK.zero #[.int .u64 0,.int .u64 0,.int .i64 0,.int .u64 0] rfl 64;have k:Row (w.alloc (.cells cs 262)) w.heap.size 262 ((List.replicate 64 bK.zero).flatMap bK.cells):=by
  have:=Row.new w cs 262;rw[<-h]at this⊢;rw[<-i];exact this
 refine⟨by simp,⟨?_,k.alloc _,by simp⟩,((Ch.refl _ _).alloc _).alloc _⟩;have:=Row.new (w.alloc (.cells cs 262)) #[.slice (some (w.heap.size,0)) 64 64] 220;rw[World.size_alloc]at this;exact this
theorem sT(w:World):Calls prog 53 #[.int .i64 64] w (fun e w'=>e=.returned (.tuple #[(w.heap.size+1,0),.nilIface])/\eO w' (w.heap.size+1) w.heap.size []/\Ch ag w w'):=by
 obtain⟨g,b,c,d,f⟩:=info_parts ix;have i:=run_make (P:=prog) w 29 56 g _ underlying29 b c .i64 .i64 64 64 (by omega) (by omega) (by rw[f];decide) (by omega);obtain⟨cs,a⟩:=nm (madeCells (Value.int .u64 0).cells ((64:Int).toNat*g.size));rw[a]at i;rw[d]at a;have h:=Z a;clear a b c d f;go_wp2
 go_ret2;have j:Row (w.alloc (.cells cs 56)) w.heap.size 56 ((List.replicate 64 (0:Int)).map (Value.int .u64)):=by
  have:=Row.new w cs 56;rw[<-h]at this⊢;rw[List.map_replicate,<-oo (.int .u64 0) 64];exact this
 refine⟨by simp,⟨List.replicate 64 0,0,⟨?_,j.alloc _,by simp,by omega,by simp⟩,by simp⟩,((Ch.refl _ _).alloc _).alloc _⟩;have:=Row.new (w.alloc (.cells cs 56)) #[.slice (some (w.heap.size,0)) 64 64,.int .i64 0,.int .i64 0] 209;rw[World.size_alloc]at this;exact this
theorem q1(m fr tt:Nat)(h:fr<=tt)(c:tt<=1000000)(w:World):Calls prog 96 #[(m,0),.int .i64 fr,.int .i64 tt] w (fun e w'=>e=.returned (.tuple #[(w.heap.size,0),.nilIface])/\aW w' w.heap.size m (.slice none 0 0) ⟨fr,tt,[]⟩/\Ch ag w w'):=by
 have a:(fr:Int)<=(tt:Int):=by omega
 have b:¬(tt:Int)<(fr:Int):=by omega
 clear h;go_wp2
 go_ret2;exact⟨rfl,⟨Row.new w #[(m,0),.int .i64 fr,.int .i64 tt,.slice none 0 0] 271,rfl,Or.inl ⟨rfl,rfl⟩⟩,(Ch.refl _ _).alloc _⟩
theorem CA:(prog.info? 9).map (fun i=>(i.zero,i.size,i.bytes))=some (some (.string ByteArray.empty),1,16):=by kernel_rfl
def ta(l:List UInt8):ByteArray:=⟨l.toArray⟩
theorem tc(l:List UInt8):(ta l).size=l.length:=by simp[ta,ByteArray.size]
theorem js(l:List UInt8):(ta l).data.toList=l:=by simp[ta]
def o'(w:List UInt8):List ByteArray:=if w=[]then []else [ta w]
def lf:List UInt8->List UInt8->List ByteArray
 |[],w=>o' w
 |c::cs,w=>if(c.toNat:Int)≠32/\(c.toNat:Int)≠59 then lf cs (w++[c])else if(c.toNat:Int)=59 then o' w else o' w++lf cs []
def e7(s:ByteArray):List ByteArray:=lf s.data.toList []
def ic(a:List ByteArray)(w:World)(e:Ending)(w':World):Prop:=
 ∃v,e=.returned v/\w'.ownsRow w.heap.size 9 1 v a.length (a.map Value.string)/\Below w.heap.size w w'
theorem ic.mk{a:List ByteArray}{w w':World}{v:Value}(acc:List ByteArray)(h:a=acc)(b:w'.ownsRow w.heap.size 9 1 v acc.length (acc.map Value.string))(hb:Below w.heap.size w w'):ic a w (.returned v) w':=by
 subst h;exact⟨v,rfl,b,hb⟩
theorem l3{B:Nat}{w wr w2:World}{a:Obj}{l:Value}{n:Nat}{f:List Value}(h:Below B w wr)(e:wr.ownsRow B 9 1 l n f)(c:(wr.alloc a).grownBy w2 l.ownBlock)(b:B<=wr.heap.size:=by omega):Below B w w2:=
 (h.alloc b a).grown c (by simp;omega) (fun k d=>(e.lt k d).1)
theorem q5{B:Nat}{w2:World}{l:Value}{acc:List ByteArray}{x:ByteArray}(h:w2.ownsRow B 9 1 l (acc.length+1) (acc.map Value.string++[.string x])):w2.ownsRow B 9 1 l (acc++[x]).length ((acc++[x]).map Value.string):=by
 simpa using h
def Az(s:ByteArray)(w:World)(l wv i:Value)(wr:World):Prop:=
 ∃(k:Nat) (a:List UInt8) (acc:List ByteArray),k<=s.size+1/\i=.int .i64 k/\wv=.string (ta a)/\a.length<=k/\acc.length<=k/\wr.ownsRow w.heap.size 9 1 l acc.length (acc.map Value.string)/\Below w.heap.size w wr/\((k<=s.size/\acc++lf (s.data.toList.drop k) a=e7 s)∨(s.size<k/\acc=e7 s))
theorem oA(s:ByteArray)(a0:s.size<=65536)(w:World):Calls prog 103 #[.string s] w (ic (e7 s) w):=by
 obtain⟨M,H,J,K,L⟩:=info_parts CA;go_wp2
 go_loopw [3,4,5] (fun l wv i wr=>Az s w l wv i wr) (fun _ _ i _=>s.size+1-(intOf i).toNat)
 case atStart=>exact⟨0,[],[],by omega,rfl,rfl,by simp,by simp,World.ownsRow_nil _ _ _ _,Below.refl _ _,Or.inl ⟨by omega,rfl⟩⟩
 case round=>
  obtain⟨k,f,acc,Y,rfl,rfl,a2,X,m,o,D⟩:=hrel;have a1:=o.size;rcases D with⟨U,D⟩|⟨U,D⟩
  ·have B:=Z D
   clear D;have P:(ta f).size=f.length:=tc f;have W:=Z P;have I:(ta f).size<=65536:=(by omega);clear P;by_cases V:k<s.size
   ·have v:Hid (s.data.toList.drop k=s[k]::s.data.toList.drop (k+1)):=drop_cons s k V
    have R:Hid (ta f++s.extract k (k+1)=ta (f++[s[k]])):=by
     show _=_
     have e:(s.extract k (k+1)).data.toList=[s[k]]:=by
      rw[ByteArray.data_extract,Array.toList_extract,List.extract_eq_take_drop,show k+1-k=1 from by omega,v];rfl
     apply ByteArray.ext;apply Array.ext';rw[ByteArray.data_append,Array.toList_append,e,js,js]
    by_cases C:(s[k].toNat:Int)=32
    ·obtain⟨t,c⟩:=nm (ta f)
     rw[c]at I⊢;have N:=Z c;have O:((s[k].toNat:Int) !=32)=false:=(by simpa using C);have T:((s[k].toNat:Int)==59)=false:=(by rw[C];rfl);by_cases d:f=[]
     ·have p:t.toList=[]:=by rw[<-c,d,ByteArray.toList_eq];rfl
      have E:(!t.toList.isEmpty)=false:=(by rw[p];rfl);have n:Hid (acc++lf (s.data.toList.drop (k+1)) []=e7 s):=by
       show _=_
       rw[<-B,v];rw[lf,if_neg (by omega),if_neg (by omega),d];rfl
      clear c d C;go_wp2
      go_roundw
      case rel=>exact⟨k+1,[],acc,by omega,by go_num,rfl,by simp,by omega,m,o,Or.inl ⟨by omega,n⟩⟩
      case measure=>simp[intOf];omega
     ·have p:¬t.toList=[]:=by
       intro q;have x:(ta f).toList=[]:=(by rw[c];exact q);rw[ByteArray.toList_eq]at x;exact d (by rw[<-js f];exact x)
      have E:(!t.toList.isEmpty)=true:=by
       cases q:t.toList with
       |nil=>exact absurd q p
       |cons a b=>rfl
      have n:Hid ((acc++[t])++lf (s.data.toList.drop (k+1)) []=e7 s):=by
       show _=_
       rw[<-B,v];rw[lf,if_neg (by omega),if_neg (by omega),o',if_neg d,c,List.append_assoc]
      clear c d C;go_wp2_with (at_builtin;refine wpList_append_own _ rfl _ _ 195 rfl w.heap.size 9 M (.string ByteArray.empty) 1 16 underlying195 H J K L rfl (by decide) _ _ _ rfl (m.alloc _) ⟨wr.heap.size,0,none⟩ 1 1 [.string t] rfl rfl ?_ ?_ ?_ ?_ ?_ ?_)
      ·intro j u g
       match j,g with
       |0,g=>simp at g;subst g;simp[Addr.add]
      ·first|rfl|(intro u A;simp at A;subst A;rfl)
      ·unfold maxLen;omega
      ·omega
      ·simp;omega
      intro Q w2 z y _;have F:=l3 o m y;have G:=q5 z;clear z y m o;go_wp2
      go_roundw
      case rel=>exact⟨k+1,[],acc++[t],by omega,by go_num,rfl,by simp,by simp;try omega,G,F,Or.inl ⟨by omega,n⟩⟩
      case measure=>simp[intOf];omega
    ·by_cases r:(s[k].toNat:Int)=59
     ·obtain⟨t,c⟩:=nm (ta f)
      rw[c]at I⊢;have N:=Z c;have O:((s[k].toNat:Int) !=32)=true:=(by rw[r];rfl);have S:((s[k].toNat:Int) !=59)=false:=(by rw[r];rfl);have T:((s[k].toNat:Int)==59)=true:=(by rw[r];rfl);by_cases d:f=[]
      ·have p:t.toList=[]:=by rw[<-c,d,ByteArray.toList_eq];rfl
       have E:(!t.toList.isEmpty)=false:=(by rw[p];rfl);have n:Hid (acc++[]=e7 s):=by
        show _=_
        rw[<-B,v];rw[lf,if_neg (by omega),if_pos r,d];rfl
       clear c d r;go_wp2
       go_ret;exact ic.mk _ (by have h:=n.out;rw[List.append_nil]at h;exact h.symm) m o
      ·have p:¬t.toList=[]:=by
        intro q;have x:(ta f).toList=[]:=(by rw[c];exact q);rw[ByteArray.toList_eq]at x;exact d (by rw[<-js f];exact x)
       have E:(!t.toList.isEmpty)=true:=by
        cases q:t.toList with
        |nil=>exact absurd q p
        |cons a b=>rfl
       have n:Hid ((acc++[t])++[]=e7 s):=by
        show _=_
        rw[<-B,v];rw[lf,if_neg (by omega),if_pos r,o',if_neg d,c,List.append_nil]
       clear c d r;go_wp2_with (at_builtin;refine wpList_append_own _ rfl _ _ 195 rfl w.heap.size 9 M (.string ByteArray.empty) 1 16 underlying195 H J K L rfl (by decide) _ _ _ rfl (m.alloc _) ⟨wr.heap.size,0,none⟩ 1 1 [.string t] rfl rfl ?_ ?_ ?_ ?_ ?_ ?_)
       ·intro j u g
        match j,g with
        |0,g=>simp at g;subst g;simp[Addr.add]
       ·first|rfl|(intro u A;simp at A;subst A;rfl)
       ·unfold maxLen;omega
       ·omega
       ·simp;omega
       intro Q w2 z y _;have F:=l3 o m y;have G:=q5 z;clear z y m o;go_wp2
       go_ret;exact ic.mk _ (by have h:=n.out;rw[List.append_nil]at h;exact h.symm) G F
     ·have O:((s[k].toNat:Int) !=32)=true:=by simpa using C
      have S:((s[k].toNat:Int) !=59)=true:=(by simpa using r);have n:Hid (acc++lf (s.data.toList.drop (k+1)) (f++[s[k]])=e7 s):=by
       show _=_
       rw[<-B,v,lf,if_pos ⟨C,r⟩]
      clear C r;go_wp2
      go_roundw
      case rel=>exact⟨k+1,f++[s[k]],acc,by omega,by go_num,congrArg Value.string R,by simp;omega,by omega,m,o,Or.inl ⟨by omega,n⟩⟩
      case measure=>simp[intOf];omega
   ·have v:Hid (s.data.toList.drop k=[]):=ib s k (by omega)
    obtain⟨t,c⟩:=nm (ta f);rw[c]at I⊢;have N:=Z c;by_cases d:f=[]
    ·have p:t.toList=[]:=by rw[<-c,d,ByteArray.toList_eq];rfl
     have E:(!t.toList.isEmpty)=false:=(by rw[p];rfl);have n:Hid (acc++[]=e7 s):=by
      show _=_
      rw[<-B,v];rw[lf,d];rfl
     clear c d;go_wp2
     go_roundw
     case rel=>exact⟨k+1,[],acc,by omega,by go_num,rfl,by simp,by omega,m,o,Or.inr ⟨by omega,by have h:=n.out;rw[List.append_nil]at h;exact h⟩⟩
     case measure=>simp[intOf];omega
    ·have p:¬t.toList=[]:=by
      intro q;have x:(ta f).toList=[]:=(by rw[c];exact q);rw[ByteArray.toList_eq]at x;exact d (by rw[<-js f];exact x)
     have E:(!t.toList.isEmpty)=true:=by
      cases q:t.toList with
      |nil=>exact absurd q p
      |cons a b=>rfl
     have n:Hid ((acc++[t])++[]=e7 s):=by
      show _=_
      rw[<-B,v];rw[lf,o',if_neg d,c,List.append_nil]
     clear c d;go_wp2_with (at_builtin;refine wpList_append_own _ rfl _ _ 195 rfl w.heap.size 9 M (.string ByteArray.empty) 1 16 underlying195 H J K L rfl (by decide) _ _ _ rfl (m.alloc _) ⟨wr.heap.size,0,none⟩ 1 1 [.string t] rfl rfl ?_ ?_ ?_ ?_ ?_ ?_)
     ·intro j u g
      match j,g with
      |0,g=>simp at g;subst g;simp[Addr.add]
     ·first|rfl|(intro u A;simp at A;subst A;rfl)
     ·unfold maxLen;omega
     ·omega
     ·simp;omega
     intro Q w2 z y _;have F:=l3 o m y;have G:=q5 z;clear z y m o;go_wp2
     go_roundw
     case rel=>exact⟨k+1,[],acc++[t],by omega,by go_num,rfl,by simp,by simp;omega,G,F,Or.inr ⟨by omega,by have h:=n.out;rw[List.append_nil]at h;exact h⟩⟩
     case measure=>simp[intOf];omega
  ·go_wp2
   go_ret;exact ic.mk _ D.symm m o
end Go.Proofs.YtfnilkpkogipfaaGreatDoor
