import Derived.Test.YtlihkblppjgebaaGreatDoorZBd
import Derived.Test.YtlihkblppjgebaaGreatDoorZBe
set_option linter.all false
set_option maxRecDepth 100000
set_option maxHeartbeats 8000000
namespace Go.Proofs.YtlihkblppjgebaaGreatDoor
open Go.RowKit Go.Proofs.Tryz
section
section
variable{w:World}{χ:Nat->a4}{L:cw}{Y:Var}{C:KC}{K:KS}
def iz(K:KS)(pid v:Int):KS:=if(aw K.ai pid).isSome then K.b9 pid {K.T pid with eM:=v}else K
theorem jg{pid:Int}{t:Thread}(h:aw K.ai pid=some t)(v:Int):iz K pid v=K.b9 pid {t with eM:=v}:=by unfold iz;rw[if_pos (by rw[h];rfl),KS.df h]
theorem jk{pid:Int}(h:aw K.ai pid=none)(v:Int):iz K pid v=K:=by unfold iz;rw[if_neg (by rw[h];simp)]
theorem pg{id:Int}{t a:Thread}(c:aw K.ai id=some t)(b:t.l.length<=a.l.length):Gr K (K.b9 id a):=by
 intro j u hj;show∃v,aw (b8 K.ai id a) j=some v/\_
 rw[aT];by_cases e:j=id
 ·subst e
  rw[c]at hj;injection hj with hj;subst hj
  rw[if_pos rfl];exact⟨_,rfl,b⟩
 ·rw[if_neg e];exact⟨u,hj,Nat.le_refl _⟩
end
end
section
section
variable{w w':World}{χ:Nat->a4}{L:cw}{Y:Var}{C:KC}{K:KS}
def pV(l:List Int)(χ:Nat->a4)(L:cw)(Y:Var)(C:KC)(K K':KS)(w:World)(e:Ending)(w':World):Prop:=
 ∃u aW Y',e=.returned u/\w'.ownsRow w.heap.size 39 1 u l.length (l.map (Value.int .u64))/\(∀g,u.ownBlock=some g->w.heap.size<=g/\aW g=.no)/\dB χ L Y C K K' w aW Y' w'
theorem pW(d:K.clock.Ok)(h:ae w χ L Y C K):Calls prog 82 #[.pointer (some ⟨L.cb,0,none⟩)] w (pV K.clock.tick.2 χ L Y C K {K with clock:=K.clock.tick.1} w):=
 (ko L.cb L.ch L.cm L.cq Y.hv K.clock d.len d.wf w (h.bW (by simp)).is).mono fun _ _ ⟨⟨u,e,a⟩,⟨v,c,f⟩,i⟩=>
  ⟨u,_,_,e,a,fun g b=>⟨ou a g b,by
   have j:χ g=.no:=h.fresh (ou a g b);unfold cJ;rw[if_neg (pO a c.heap.own (by decide) b)];exact j⟩,h.qp c f i⟩
def jm(K:KS)(l:List Int):KS:=l.foldl cv K
theorem i'(K:KS)(id:Int):cv K id=(if cx (iz {K with q:=(dy K.q id).2} id 110) id=3 then cc (iz {K with q:=(dy K.q id).2} id 110) id else iz {K with q:=(dy K.q id).2} id 110):=rfl
theorem kx(K:KS)(id v:Int):Gr K (iz K id v):=by
 cases h:aw K.ai id with
 |none=>rw[jk h];exact Gr.refl _
 |some t=>rw[jg h];exact pg h (Nat.le_refl _)
theorem lN(K:KS)(id:Int):Gr K (cv K id):=by
 rw[i'];have h:=(Gr.of_eq (K:=K) (K':={K with q:=(dy K.q id).2}) rfl).trans (kx _ id 110);split
 ·exact h.trans (Gr.of_eq rfl)
 ·exact h
theorem nj(K:KS)(l:List Int):Gr K (jm K l):=by
 induction l generalizing K with
 |nil=>exact Gr.refl _
 |cons x l ih=>exact(lN K x).trans (ih _)
theorem k'(K:KS)(l:List Int)(x:Int):jm K (l++[x])=cv (jm K l) x:=by unfold jm;rw[List.foldl_append];rfl
theorem nk(cS:K.clock.Ok)(c9:∀x∈K.clock.tick.2,aH x)(hlen:K.clock.tick.2.length<=900000)(hb:K.out.length<=900000)(h:ae w χ L Y C K):Calls prog 42 #[.pointer (some ⟨L.mb,0,none⟩)] w (de (.tuple #[]) χ L Y C K (gZ K) w):=by
 have H:=Z h;have cC:=Z (pW cS h);obtain⟨p,c7⟩:=nm K.clock.tick;rw[c7]at cC c9 hlen;have fT:=Z c7;obtain⟨eY,l⟩:=p;dsimp only at c9 hlen;have eL:=Z c9;have fE:=Z hb;obtain⟨N,ch⟩:=nm l.length;have bv:=Z ch;rw[ch]at hlen;obtain⟨K1,X⟩:=mn (({K with clock:=eY}:KS));have ec:=Z X;obtain⟨K2,c3⟩:=mn (tell K1 ⟨6,0,0,0,0,0,0,0,0,K1.clock.now,0⟩);have en:=Z c3;have cs:Hid (Gr K K1):=Z (by rw[X];exact Gr.of_eq rfl);have e1:Hid (Gr K K2):=Z (by rw[c3];exact cs.out.trans (Gr.of_eq rfl));have ex:Hid (K1.out.length<=900000):=Z (by rw[X];exact hb);have E:Hid (gZ K=jm K2 l):=Z (by unfold gZ;dsimp only;rw[c7,c3,X];rfl);have k0:=h.jH;clear h cS c7 c9 hb ch X c3;go_enter func42,ntmps42
 go_wp2_with fail
 refine cC.out.mono ?_;rintro e w1 ⟨u,ge,g4,rfl,cl,cW,c2⟩;try dsimp only at c2 cl
 rw[<-ec.out]at c2;have c0:=Z c2;have bw:=Z cl;have cA:=Z cW;rw[bv.out]at bw;clear c2 cl cW k0;obtain⟨T,U,rfl⟩:=aA bw.out;have k1:=c0.out.at_.jH;have et:=Z (CD c0.out.at_);go_wp2_with fail
 refine et.out.mono ?_;rintro e w2 ⟨rfl,rfl⟩;go_wp2_with fail
 refine(dz (K:=K1) 6 0 0 0 0 0 0 0 0 K1.clock.now 0 ex.out c0.out.at_).mono ?_;rintro e w2 ⟨rfl,dN,eS,V⟩;rw[<-en.out]at V;have eO:=Z (c0.out.trans cs.out V);have eA:Hid (w2.ownsRow w.heap.size 39 1 (.slice T N U) N (l.map (Value.int .u64))):=Z (ar bw.out V.nx.ch (fun g a e=>e (cA.out g a).2));have es:Hid (∀g,(Value.slice T N U).ownBlock=some g->dN g=.no):=Z (fun g a=>(V.nx.same g (cB bw.out a)).trans (cA.out g a).2);clear V k1;go_wp2_with fail
 go_loopg [21] (N+1) (fun gk i wr=>∃k:Nat,k<=N/\gk=N-k+1/\i=.int .i64 k/\Hid (∃aW Y',dB χ L Y C K (jm K2 (l.take k)) w aW Y' wr/\wr.ownsRow w.heap.size 39 1 (.slice T N U) N (l.map (Value.int .u64))/\∀g,(Value.slice T N U).ownBlock=some g->aW g=.no))
 case atStart=>exact⟨0,by omega,by omega,rfl,dN,eS,eO.out,eA.out,es.out⟩
 case round=>
  obtain⟨k,gb,rfl,rfl,eC⟩:=hrel;obtain⟨fz,eU,W,c6,ci⟩:=eC.out;by_cases Q:k<N
  ·obtain⟨cL,eW,gc,dC,fb,fn,fd,dr,_⟩:=aS c6 (by omega)
   obtain⟨rfl,rfl⟩:T=some ⟨cL,0,none⟩/\U=eW:=by simpa using dC
   obtain⟨x,ab⟩:∃x,l[k]?=some x:=⟨_,List.getElem?_eq_getElem (by rw[bv.out];exact Q)⟩;have g2:=Z ab;have P:Hid (aH x):=Z (eL.out x (List.mem_of_getElem? ab));have c1:wr.cell? ⟨cL,k,none⟩=some (.int .u64 x):=dr.cell (by rw[List.getElem?_append_left (by rw[List.length_map,bv.out];exact Q),List.getElem?_map,ab];rfl);obtain⟨cd,a0⟩:=nm (jm K2 (l.take k));rw[a0]at W;have fK:=Z a0;have R:Hid (Gr K cd):=Z (by rw[<-a0];exact e1.out.trans (nj _ _));have y:=Z W;have B:=Z c6;have A:=Z ci;obtain⟨S,c4⟩:=mn (({cd with q:=(dy cd.q x).2}:KS));have av:=Z c4;have cb:Hid (Gr K S):=Z (by rw[c4];exact R.out.trans (Gr.of_eq rfl));obtain⟨n,c5⟩:=mn (iz S x 110);have bi:=Z c5;have ct:Hid (Gr K n):=Z (by rw[c5];exact cb.out.trans (kx _ _ _));have ap:Hid (jm K2 (l.take (k+1))=if cx n x=3 then cc n x else n):=Z (by rw[List.take_add_one,ab,show(some x).toList=[x]from rfl,k',a0,i',<-c4,<-c5]);clear W c6 ci ab dr dC fb fn fd a0 c4 c5;have k3:=y.out.at_.qL;cases c8:aw S.ai x with
   |none=>
    have j:=Z c8;clear c8;by_cases f:cx n x=3
    ·have s:=Z f
     clear f;go_wp2_with fail
     refine(kO x y.out.at_).mono ?_;rintro e w4 ⟨rfl,am,J,c⟩;rw[<-av.out]at c;have b:=Z (y.out.trans R.out c);have D:=Z c.nx;clear c k3 c1;have O:=b.out.at_.iG;have d:=b.out.at_.look x;rw[j.out]at d;dsimp only[Option.map,Option.getD]at d;go_wp2_with fail
     clear d O;have o:=b;rw[<-jk (K:=S) j.out 110,<-bi.out]at o;have F:=D;refine(cZ (K:=n) x P.out o.out.at_).mono ?_;rintro e cm ⟨rfl,m⟩;have z:=Z (o.out.af m);have G:=Z (F.out.trans (Nx.af m));clear m;have f:=s.out;rw[f];go_wp2_with fail
     refine(e9 (K:=n) x P.out z.out.at_).mono ?_;rintro e fr ⟨rfl,cq,ce,M⟩;have I:=Z (z.out.trans ct.out M);have v:=Z (G.out.trans M.nx);clear M f;go_wp2_with fail
     go_roundg (N-(k+1)+1)
     case measure=>omega
     case rel=>
      refine⟨k+1,Q,rfl,by congr 1,cq,ce,?_,ar B.out v.out.ch (fun g a e=>e (A.out g a)),fun g a=>(v.out.same g (cB B.out a)).trans (A.out g a)⟩;rw[ap.out,if_pos s.out];exact I.out
    ·have s:=Z f
     clear f;go_wp2_with fail
     refine(kO x y.out.at_).mono ?_;rintro e w4 ⟨rfl,am,J,c⟩;rw[<-av.out]at c;have b:=Z (y.out.trans R.out c);have D:=Z c.nx;clear c k3 c1;have O:=b.out.at_.iG;have d:=b.out.at_.look x;rw[j.out]at d;dsimp only[Option.map,Option.getD]at d;go_wp2_with fail
     clear d O;have o:=b;rw[<-jk (K:=S) j.out 110,<-bi.out]at o;have F:=D;refine(cZ (K:=n) x P.out o.out.at_).mono ?_;rintro e cm ⟨rfl,m⟩;have z:=Z (o.out.af m);have G:=Z (F.out.trans (Nx.af m));clear m;have f:=s.out;obtain⟨st,a1⟩:=nm (cx n x);rw[a1]at f⊢;clear a1;go_wp2_with fail
     have I:=z;have v:=G;go_roundg (N-(k+1)+1)
     case measure=>omega
     case rel=>
      refine⟨k+1,Q,rfl,by congr 1,am,J,?_,ar B.out v.out.ch (fun g a e=>e (A.out g a)),fun g a=>(v.out.same g (cB B.out a)).trans (A.out g a)⟩;rw[ap.out,if_neg s.out];exact I.out
   |some t=>
    have j:=Z c8;clear c8;by_cases f:cx n x=3
    ·have s:=Z f
     clear f;go_wp2_with fail
     refine(kO x y.out.at_).mono ?_;rintro e w4 ⟨rfl,am,J,c⟩;rw[<-av.out]at c;have b:=Z (y.out.trans R.out c);have D:=Z c.nx;clear c k3 c1;have O:=b.out.at_.iG;have d:=b.out.at_.look x;rw[j.out]at d;dsimp only[Option.map,Option.getD]at d;unfold bf at d;have ad:=b.out.at_.qF (id:=x) (t:=t) j.out;have al:=b.out.at_.qq (id:=x) (t:=t) j.out 2;have r:=Z (b.out.at_.jA (id:=x) (t:=t) j.out 110);obtain⟨tb,a2⟩:=nm (J.bB x);rw[a2]at d ad al r;clear a2;go_wp2_with fail
     obtain⟨fo,a3⟩:=nm (w4.setCell ⟨tb,2,none⟩ (.int .u64 110));rw[a3]at r⊢;clear a3 ad al d O;rw[<-jg j.out,<-bi.out]at r;have o:=Z (b.out.trans cb.out r.out);have F:=Z (D.out.trans r.out.nx);clear r;refine(cZ (K:=n) x P.out o.out.at_).mono ?_;rintro e cm ⟨rfl,m⟩;have z:=Z (o.out.af m);have G:=Z (F.out.trans (Nx.af m));clear m;have f:=s.out;rw[f];go_wp2_with fail
     refine(e9 (K:=n) x P.out z.out.at_).mono ?_;rintro e fr ⟨rfl,cq,ce,M⟩;have I:=Z (z.out.trans ct.out M);have v:=Z (G.out.trans M.nx);clear M f;go_wp2_with fail
     go_roundg (N-(k+1)+1)
     case measure=>omega
     case rel=>
      refine⟨k+1,Q,rfl,by congr 1,cq,ce,?_,ar B.out v.out.ch (fun g a e=>e (A.out g a)),fun g a=>(v.out.same g (cB B.out a)).trans (A.out g a)⟩;rw[ap.out,if_pos s.out];exact I.out
    ·have s:=Z f
     clear f;go_wp2_with fail
     refine(kO x y.out.at_).mono ?_;rintro e w4 ⟨rfl,am,J,c⟩;rw[<-av.out]at c;have b:=Z (y.out.trans R.out c);have D:=Z c.nx;clear c k3 c1;have O:=b.out.at_.iG;have d:=b.out.at_.look x;rw[j.out]at d;dsimp only[Option.map,Option.getD]at d;unfold bf at d;have ad:=b.out.at_.qF (id:=x) (t:=t) j.out;have al:=b.out.at_.qq (id:=x) (t:=t) j.out 2;have r:=Z (b.out.at_.jA (id:=x) (t:=t) j.out 110);obtain⟨tb,a2⟩:=nm (J.bB x);rw[a2]at d ad al r;clear a2;go_wp2_with fail
     obtain⟨fo,a3⟩:=nm (w4.setCell ⟨tb,2,none⟩ (.int .u64 110));rw[a3]at r⊢;clear a3 ad al d O;rw[<-jg j.out,<-bi.out]at r;have o:=Z (b.out.trans cb.out r.out);have F:=Z (D.out.trans r.out.nx);clear r;refine(cZ (K:=n) x P.out o.out.at_).mono ?_;rintro e cm ⟨rfl,m⟩;have z:=Z (o.out.af m);have G:=Z (F.out.trans (Nx.af m));clear m;have f:=s.out;obtain⟨st,a1⟩:=nm (cx n x);rw[a1]at f⊢;clear a1;go_wp2_with fail
     have I:=z;have v:=G;go_roundg (N-(k+1)+1)
     case measure=>omega
     case rel=>
      refine⟨k+1,Q,rfl,by congr 1,am,J,?_,ar B.out v.out.ch (fun g a e=>e (A.out g a)),fun g a=>(v.out.same g (cB B.out a)).trans (A.out g a)⟩;rw[ap.out,if_neg s.out];exact I.out
  ·obtain rfl:k=N:=by omega
   have y:=Z W;clear W c6 ci;go_wp2_with fail
   go_end0
   rw[E.out];have:l.take k=l:=List.take_of_length_le (by rw[bv.out];exact Nat.le_refl _);rw[<-this];exact⟨rfl,fz,eU,y.out⟩
end
end
end Go.Proofs.YtlihkblppjgebaaGreatDoor
