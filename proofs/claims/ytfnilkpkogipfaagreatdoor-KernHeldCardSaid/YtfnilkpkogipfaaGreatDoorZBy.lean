import Derived.Test.YtfnilkpkogipfaaGreatDoorZBx
set_option linter.all false
set_option maxRecDepth 100000
set_option maxHeartbeats 8000000
namespace Go.Proofs.YtfnilkpkogipfaaGreatDoor
open Go.RowKit Go.Proofs.Tryz
theorem iA.ch{α:Type}{w w':World}{v:Value}{k:Nat}{enc:α->List Value}{l:List α}(h:iA w w.heap.size v k enc l)(c:Ch ag w w'):iA w' w'.heap.size v k enc l:=by
 obtain⟨a,f,i,m,n⟩:=h;refine⟨a,f,i,m,fun q x t=> ?_⟩;obtain⟨g,d,o,b,r⟩:=n q x t;exact⟨g,d,o,Nat.lt_of_lt_of_le b c.size,fun j u s=>(c.cell (p:=⟨g,d+q*k+j,none⟩) b (fun e=>e)).trans (r j u s)⟩
structure Cf(C:KC)(ok:Bool)(nw tt wk ce:Int)(p:Value)(w:World):Prop where
 made:∀W,Ch ag w W->Calls prog 15 #[.agg #[wk,ce],p] W (Aa C ok nw.toNat tt.toNat W)
 Fp:∀W,Ch ag w W->Calls prog 13 #[] W (dt (.bool true) W)
 ck:ok=true->oC C/\Inv 1 0 (hC C nw.toNat tt.toNat)
 cf:∀W,Calls prog 12 #[.agg #[wk,ce]] W (dt (.agg #[nw,tt]) W)
 EA:1<=nw/\nw<=64/\1<=tt/\tt<=65536
theorem BL{f:List aV}{loop:Int}{calls:List br}(g:sB f loop calls)(j:∀w,Calls prog 9 #[.int .i64 16] w (od f loop calls w))(P:fc)(i:iy P)(p:Value)(wk a:Int)(w:World)(k:fF w w.heap.size p P)
 (d:w.cell? (0,0)=some (.iface 335 (.agg #[(1,40)]))):Cf (oz f loop calls P) (iz P wk a) (ct wk a).1 (ct wk a).2 wk a p w:=by
 refine⟨?_,?_,?_,?_,kU wk a⟩
 ·exact fun b c=>sM g j P i p wk a b ((k.below c.gU).mono c.size) ((c.cell (aE d) (fun e=>e)).trans d)
 ·exact fun b c=>pB b ((c.cell (aE d) (fun e=>e)).trans d)
 ·exact fun h=>⟨sJ g i h,sK h⟩
 ·exact fun b=>ou wk a b
theorem Dx(P:fc)(c:iy P)(p:Value)(wk a:Int)(w:World)(f:fF w w.heap.size p P)
 (e:w.cell? (0,0)=some (.iface 335 (.agg #[(1,40)]))):∃C ok nw tt,Cf C ok nw tt wk a p w:=by
 obtain⟨g,loop,calls,b,d⟩:=sD;exact⟨_,_,_,_,BL b d P c p wk a w f e⟩
theorem uq{w:World}{B:Nat}{p:Value}{P:fc}(h:fF w B p P):∃a0 a a1 b a2 c a3 d,p=.agg #[.slice a0 P.cV a,.slice a1 P.first.length b,.slice a2 P.others.length c,.slice a3 P.once.length d,.bool P.kV]:=by
 obtain⟨a0,a,i,j,k,rfl,e,f,g⟩:=h;obtain⟨a1,b,rfl,-,-⟩:=e;obtain⟨a2,c,rfl,-,-⟩:=f;obtain⟨a3,d,rfl,-,-⟩:=g;exact⟨_,_,_,_,_,_,_,_,rfl⟩
structure oA(w1:World)(C:KC)(nw:Int)(mb:Nat)(sb:Nat)(sv:Value)(S:List lT)(χ:Nat->a4)(K:KS)(i:Nat)(wr:World):Prop where
 ms:MS wr χ mb C K
 inv:Inv (i+1) 0 K
 out:K.out=[]
 wl:(K.wk.length:Int)=nw
 zS:∀j,χ j≠ .no->w1.heap.size<=j
 ch:Ch ag w1 wr
 row:wr.ownsRow sb 58 3 sv S.length (S.flatMap j7)
 EB:∀g,sv.ownBlock=some g->g<wr.heap.size/\χ g=.no
theorem oA.af{w1:World}{C:KC}{nw:Int}{mb a:Nat}{b:Value}{S:List lT}{χ:Nat->a4}{K:KS}{i:Nat}{wr d:World}(h:oA w1 C nw mb a b S χ K i wr)(c:Ch ag wr d):oA w1 C nw mb a b S χ K i d:=
 ⟨h.ms.af c,h.inv,h.out,h.wl,h.zS,h.ch.trans c,ar h.row c (fun _ _ h=>h),fun g e=>⟨Nat.lt_of_lt_of_le (h.EB g e).1 c.size,(h.EB g e).2⟩⟩
theorem Ad(C:KC)(K:KS)(kind wk draw:Int)(h:K.out=[]):(gM C K kind wk draw).2.out=[]/\(gM C K kind wk draw).2.wk.length=K.wk.length:=by
 by_cases e:kind=2
 ·subst e;obtain⟨-,-,-,a,b⟩:=uP C K wk draw h;exact⟨a,b⟩
 ·obtain⟨-,-,-,a,b⟩:=BS C K kind wk draw h e;exact⟨a,b⟩
theorem oA.step{w1:World}{C:KC}{nw:Int}{mb n:Nat}{o:Value}{S:List lT}{χ:Nat->a4}{K:KS}{i:Nat}{wr j:World}(l:oC C)(h:oA w1 C nw mb n o S χ K i wr)(c:Ch ag wr j)(t:i<=1000)(x:lT)(m:aH x.draw):
 Calls prog 18 #[(mb,0),.agg #[.int .i64 x.kind,.int .i64 x.wk,.int .u64 x.draw]] j (fun e w4=>∃d f,e=.returned d/\w4.ownsRow j.heap.size 62 11 d (gM C K x.kind x.wk x.draw).1.length ((gM C K x.kind x.wk x.draw).1.flatMap Ev.cells)/\(∀g,d.ownBlock=some g->f g=.no)/\Nx χ f j w4/\oA w1 C nw mb n o S f (gM C K x.kind x.wk x.draw).2 (i+1) w4):=by
 have a:=h.af c;refine(vr l h.inv (by omega) x.kind x.wk x.draw m a.ms).mono ?_;rintro e w4 ⟨d,f,rfl,s,p,r,b⟩;obtain⟨k1,k2⟩:=Ad C K x.kind x.wk x.draw h.out;refine⟨d,f,rfl,s,p,b,r,nU l h.inv (by omega) x.kind x.wk x.draw m,k1,by rw[k2];exact h.wl,mO h.zS b a.ch.size,jl h.zS b a.ch,ar a.row b.ch (fun g e q=>q (a.EB g e).2),fun g e=> ?_⟩;have k:=a.EB g e;exact⟨Nat.lt_of_lt_of_le k.1 b.ch.size,(b.same g k.1).trans k.2⟩
theorem oA.yo{w1:World}{C:KC}{nw:Int}{mb l:Nat}{c:Value}{S:List lT}{χ:Nat->a4}{K:KS}{i:Nat}{wr:World}(h:oA w1 C nw mb l c S χ K i wr){x:lT}{q:Nat}(b:S[q]?=some x):
 ∃g cap,c=.slice (some ⟨g,0,none⟩) S.length cap/\wr.cell? ⟨g,q*3,none⟩=some (.int .i64 x.kind)/\wr.cell? ⟨g,q*3+1,none⟩=some (.int .i64 x.wk)/\wr.cell? ⟨g,q*3+2,none⟩=some (.int .u64 x.draw):=by
 have m:=(List.getElem?_eq_some_iff.1 b).1;obtain⟨g,cap,n,rfl,_,_,_,e,_⟩:=aS h.row (by omega);have a:∀j v,j<3->(j7 x)[j]?=some v->wr.cell? ⟨g,q*3+j,none⟩=some v:=fun j v d f=>e.cell (by
  rw[List.getElem?_append_left (by rw[a7 (enc:=j7) (k:=3) (fun _=>rfl)];omega)];exact(bP (enc:=j7) (k:=3) (fun _=>rfl) b d).trans f)
 exact⟨g,cap,rfl,a 0 _ (by omega) rfl,a 1 _ (by omega) rfl,a 2 _ (by omega) rfl⟩
def pG(n:Int)(x:lT):Prop:=aH x.draw/\(x.kind=1/\0<=x.wk/\x.wk<n∨x.kind=2)
structure Ag(n:Int)(most:Nat)(w:World)(e:Ending)(w':World):Prop where
 ret:∃(S:List lT) (v:Value),e=.returned v/\w'.ownsRow w.heap.size 58 3 v S.length (S.flatMap j7)/\S.length<=most/\∀x∈S,pG n x
 ch:Ch ag w w'
theorem BM:(prog.info? 58).map (fun i=>(i.zero,i.size,i.bytes))=some (some (.agg #[.int .i64 0,.int .i64 0,.int .u64 0]),3,24):=by kernel_rfl
theorem uu(n:Int)(ec:1<=n)(en:n<=64)(e:Nat)(c4:e<=1000)(l:List Int)(R:∀x∈l,aH x)(v:Value)(w:World)(h:iA w w.heap.size v 1 (fun x=>[.int .u64 x]) l):
 Calls prog 16 #[n,v,.int .i64 e] w (Ag n e w):=by
 obtain⟨a,c,rfl,c1,W⟩:=h;obtain⟨N,z⟩:=nm l.length;have ab:=Z z;have am:=Z W;have a2:=Z R;have a3:=Z c4;have T:(e:Int)<=1000:=by omega
 rw[z]at c1⊢;clear z W R;go_enter func16,ntmps16
 go_wp2_with fail
 go_loopg [7,8] (e+1) (fun gk u i wr=>∃(k:Nat) (S:List lT),k<=e/\gk=e-k+1/\i=.int .i64 k/\Hid (Ch ag w wr/\wr.ownsRow w.heap.size 58 3 u k (S.flatMap j7)/\S.length=k/\∀x∈S,pG n x))
 case atStart=>exact⟨0,[],by omega,by omega,rfl,Ch.refl _ _,⟨by simp,Or.inl ⟨rfl,rfl⟩⟩,rfl,by simp⟩
 case round=>
  obtain⟨k,S,P,rfl,rfl,d⟩:=hrel;obtain⟨ci,ck,rfl⟩:=aA d.2.1;have cW:(k:Int)<=1000:=by have:=a3.out;omega
  by_cases dC:k<e
  ·have dN:(k:Int)<(e:Int):=by omega
   by_cases bi:0<N
   ·have cL:(0:Int)<(N:Int):=by omega
    have cC:(N:Int)≠0:=by omega
    have c6:Int.tmod (k:Int) (N:Int)=((k%N:Nat):Int):=by rw[Int.tmod_eq_emod_of_nonneg (by omega)];rfl
    have U:k%N<N:=Nat.mod_lt _ bi;have T:((k%N:Nat):Int)<(N:Int):=by omega
    obtain⟨x,A⟩:∃x,l[k%N]?=some x:=⟨_,List.getElem?_eq_getElem (by rw[ab];exact U)⟩;obtain⟨g,ch,rfl,c2,K⟩:=am _ _ A;have s:=K 0 _ rfl;have H:wr.cell? (g,ch+k%N)=some (.int .u64 x):=by
     have:=(d.1.cell (aE s) (fun h=>h)).trans s;simpa using this
    obtain⟨cf,Q⟩:∃m,k%N=m:=⟨_,rfl⟩;rw[Q]at c6 U T H;have dr:(0:Int)<=(cf:Int):=by omega
    have cQ:=Z (a2 x (List.mem_of_getElem? A));clear A K s c2 Q;go_wp2_with fail
    go_quiet (fail)
    generalize Y:wr.drewN nq=w1;have r:Hid (Ch ag wr w1):=Z (Ch.dN Y);clear Y H;generalize X:IntKind.u64.wrap (x+IntKind.u64.wrap (IntKind.u64.wrap (wrap64 ((k:Int)/(N:Int)))*2654435761))=p;have c7:aH p:=by rw[<-X];exact cj _
    clear X;obtain⟨es,et⟩:=c7;go_upto_region 8 with fail
    generalize hb:bits .xor .u64 p (p/131072)=o;have cS:0<=o:=by rw[<-hb];exact(iN .xor p (p/131072)).1
    obtain⟨j,J,bv,bw⟩:∃j,wrap64 ((o/256).tmod n)=j/\0<=j/\j<n:=by
     have ap:(o/256).tmod n=o/256%n:=Int.tmod_eq_emod_of_nonneg (by omega);have cm:=Int.emod_nonneg (o/256) (b:=n) (by omega);have cq:=Int.emod_lt_of_pos (o/256) (b:=n) (by omega);rw[ap];exact⟨_,rfl,by unfold wrap64;omega,by unfold wrap64;omega⟩
    obtain⟨D,I,av,cA⟩:∃D,(o/65536).tmod 64=D/\0<=D/\D<64:=by
     rw[Int.tmod_eq_emod_of_nonneg (by omega)];exact⟨_,rfl,by omega,by omega⟩
    try rw[J]
    try rw[I]
    clear hb;have ad:=Z (ar d.2.1 r (fun _ _ h=>h));have C:Hid (pG n ⟨1,j,D⟩/\pG n ⟨2,0,0⟩):=Z ⟨⟨⟨av,by show D<_;omega⟩,Or.inl ⟨rfl,bv,bw⟩⟩,⟨⟨by decide,by decide⟩,Or.inr rfl⟩⟩;obtain⟨ce,O,c9,cb,cd⟩:=info_parts BM;have a1:=Z O;clear O J I;go_upto_region 10 with fail
    all_goals
     first
      |(obtain⟨w2,f⟩:=nm (w1.alloc (.cells #[.int .i64 2,.int .i64 0,.int .u64 0] 58));rw[f];obtain⟨E,F,q,B⟩:∃E,Hid (pG n E)/\Hid (Ch ag w1 w2)/\Hid (Row w2 w1.heap.size 58 (j7 E)):=⟨⟨2,0,0⟩,C.2,Ch.al f,Row.al f⟩;clear f)
      |(obtain⟨w2,f⟩:=nm (w1.alloc (.cells #[.int .i64 1,.int .i64 j,.int .u64 D] 58));rw[f];obtain⟨E,F,q,B⟩:∃E,Hid (pG n E)/\Hid (Ch ag w1 w2)/\Hid (Row w2 w1.heap.size 58 (j7 E)):=⟨⟨1,j,D⟩,C.1,Ch.al f,Row.al f⟩;clear f)
     obtain⟨x0,x1,x2⟩:=B.c3;have G:=Z (ar ad q (fun _ _ h=>h));have c5:=(d.1.trans r).trans q|>.size
     go_wp2_with (at_builtin;refine wpList_append_lies _ rfl _ _ _ rfl w.heap.size 58 ce _ 3 24 underlying51 a1 c9 cb cd rfl (by omega) _ k (S.flatMap j7) rfl (G.alloc _) ⟨w2.heap.size,0,none⟩ 1 1 (j7 E) rfl rfl (World.news_of_block (cs:=#[.int .i64 E.kind,.int .i64 E.wk,.int .u64 E.draw]) (t:=58) (fr:=(0,0)) (heap_alloc_new w2 _)) (by simp[Value.oneCell',j7]) (by omega) (by unfold maxLen;omega) (by omega) (by simp;omega) (w2.heap.size+1) (by simp) ?_)
     intro cl cap w4 V M c0 c3;have L:=ax M;have al:=Z V;have a0:=Z (iP ((d.1.trans r).trans q) G (Nat.le_refl _) L);clear M L V c0 c3 x0 x1 x2 c5;go_wp2_with fail
     go_roundg (e-(k+1)+1)
     case measure=>omega
     case rel=>
      exact⟨k+1,S++[E],by omega,rfl,rfl,a0,by rw[List.flatMap_append];simpa using al.out,by rw[List.length_append,d.2.2.1];rfl,fun y c8=>by
       rcases List.mem_append.1 c8 with h|h
       ·exact d.2.2.2 y h
       ·rw[List.mem_singleton.1 h];exact F⟩
   ·go_wp2_with fail
    go_ret;exact⟨⟨S,_,rfl,d.2.2.1▸d.2.1,by rw[d.2.2.1];exact P,d.2.2.2⟩,d.1⟩
  ·go_wp2_with fail
   go_ret;exact⟨⟨S,_,rfl,d.2.2.1▸d.2.1,by rw[d.2.2.1];exact P,d.2.2.2⟩,d.1⟩
end Go.Proofs.YtfnilkpkogipfaaGreatDoor
