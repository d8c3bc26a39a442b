import Derived.ArgAppend
import Derived.Test.YtlihkblppjgebaaGreatDoorZBt
set_option linter.all false
set_option maxRecDepth 100000
set_option maxHeartbeats 8000000
namespace Go.Proofs.YtlihkblppjgebaaGreatDoor
open Go.RowKit Go.Proofs.Tryz
def Pz(n:Int):List Value:=[.int .i64 n]
section
abbrev kG:=List (Nat×TypeId×List Value)
section
variable{ok:Hy}{n j d mb N M f:Nat}{s s' S:AS}{w w' W:World}{F F2:kG}{T D:ByteArray}{L:List (ByteArray×Int)}
structure LW(F:kG)(w:World)(mb n N:Nat)(s:AS)(W:World):Prop where
 d:∃χ K M,M<=N/\DM M W χ mb n K s/\(∀i,χ i≠ .no->w.heap.size<=i)/\∀x∈F,χ x.1=.no/\Row W x.1 x.2.1 x.2.2
 c:Ch ag w W
theorem LW.af(h:LW F w mb n N s W)(c:Ch ag W w'):LW F w mb n N s w':=by
 obtain⟨χ,K,M,g,i,k,a⟩:=h.d;exact⟨⟨χ,K,M,g,i.af c,k,fun x b=>⟨(a x b).1,(a x b).2.ch c (fun e=>e)⟩⟩,h.c.trans c⟩
theorem LW.more(h:LW F w mb n N s W)(e:N<=M):LW F w mb n M s W:=by
 obtain⟨χ,K,q,c,a,b⟩:=h.d;exact⟨⟨χ,K,q,by omega,a,b⟩,h.c⟩
theorem LW.row(h:LW F w mb n N s W){x:Nat×TypeId×List Value}(b:x∈F):Row W x.1 x.2.1 x.2.2:=by
 obtain⟨χ,K,M,c,e,g,a⟩:=h.d;exact(a x b).2
theorem LW.new(h:LW F w mb n N s W)(c:Ch ag W w')(b:∀x∈F2,W.heap.size<=x.1/\Row w' x.1 x.2.1 x.2.2):LW F2 w mb n N s w':=by
 obtain⟨χ,K,M,g,a,i,k⟩:=h.d;refine⟨⟨χ,K,M,g,a.af c,i,fun x e=>⟨?_,(b x e).2⟩⟩,h.c.trans c⟩;exact Classical.byContradiction fun q=>Nat.lt_irrefl _ (Nat.lt_of_lt_of_le (a.ms.small _ q) (b x e).1)
theorem LW.wr{g:Nat}{t k:TypeId}{cs a:List Value}(h:LW [(g,t,cs)] w mb n N s W)(v:w.heap.size<=g)(c:Ch (fun i=>i=g) W w')(r:Row w' g k a):LW [(g,k,a)] w mb n N s w':=by
 obtain⟨χ,K,M,l,m,o,p⟩:=h.d;have e:=(p _ (List.mem_singleton.2 rfl)).1;refine⟨⟨χ,K,M,l,m.zS c (fun i _ b=>by rw[b];exact e),o,fun x u=> ?_⟩,h.c.fresh c (fun i b q=>by omega)⟩;obtain rfl:=List.mem_singleton.1 u;exact⟨e,r⟩
theorem LW.cell(h:LW F w mb n N s W){a:Addr}{v:Value}(b:w.cell? a=some v):W.cell? a=some v:=(h.c.cell (aE b) (fun e=>e)).trans b
def Oe(F:kG)(w:World)(mb n N:Nat)(s:AS)(e:Ending)(w':World):Prop:=∃v,e=.returned v/\LW F w mb n N s w'
theorem OV(h:LW F w mb n N s W)(I:FK ok n s)(hj:j<n)(m:ok.ok j d)(l:d<qO)(p:N<=300000):
 Calls prog 13 #[.pointer (some ⟨mb,0,none⟩),.agg #[.int .i64 1,.int .i64 j,.int .u64 d]] W (Oe F w mb n (N+1) (aaq s j d)):=by
 obtain⟨χ,K,M,o,i,g,b⟩:=h.d;refine(Q4 i I hj m l (by omega)).mono ?_;rintro e w' ⟨v,aW,K',rfl,k,a⟩;exact⟨v,rfl,⟨aW,K',M+1,by omega,k,mO g a h.c.size,fun x c=>⟨(a.same _ (b x c).2.lt).trans (b x c).1,(b x c).2.ch a.ch (fun q=>q (b x c).1)⟩⟩,jl g a h.c⟩
def Rb(p:Nat)(w:World)(e:Ending)(w':World):Prop:=∃a b c d,e=.returned (.tuple #[.agg #[.int .u64 a,.int .u64 b,.bool c,.int .i64 p,.int .i64 d],.bool true])/\Ch ag w w'
theorem LU(h:LW F w mb n N s W)(I:FK ok n s)(hj:j<n):Calls prog 55 #[.pointer (some ⟨mb,0,none⟩),.int .i64 j] W (Rb (Ia s j) W):=by
 obtain⟨χ,K,M,b,a,c⟩:=h.d;exact Lz a I hj
theorem Ld(h:LW F w mb n N s W):Calls prog 19 #[.pointer (some ⟨mb,0,none⟩)] W (Ah (s.ring.map fun y:Nat=>(y:Int)) W):=by
 obtain⟨χ,K,M,b,a,c⟩:=h.d;exact N1 a
theorem Py(h:Ia (aaq s j d) j=90):GC (f+1) s j d=aaq s j d:=by unfold GC;rw[if_pos h]
theorem Re(h:¬Ia (aaq s j d) j=90):GC (f+1) s j d=GC f (aaq s j d) j d:=by rw[GC,if_neg h]
def Lf(l:List Nat):Nat:=l.getD (l.length-1) 0
def Rf(F:kG)(w:World)(mb n N:Nat)(s:AS)(e:Ending)(w':World):Prop:=e=.returned (.tuple #[.int .i64 s.ring.length,.int .u64 (Lf s.ring)])/\LW F w mb n N s w'
theorem Nc(X:I4 T D L)(h:LW F w mb n N s W)(I:FK ok n s)(hj:j<n)(Q:ok.ok j d)(al:d<qO)(cb:N+500<=300000)(m:Int)(ap:w.cell? ⟨1,0,none⟩=some (.int .i64 m)):
 Calls prog 27 #[.pointer (some ⟨mb,0,none⟩),.int .i64 j,.int .u64 d] W (Rf F w mb n (N+500) (GC 500 s j d)):=by
 have c0:=Z (I5 X (.pointer (some ⟨mb,0,none⟩)) m W (h.cell ap));obtain⟨l,K⟩:=nm (GC 500 s j d);have c6:=Z K;rw[K];have c2:Hid (∀k S wr,k<500->LW F w mb n (N+k) S wr->FK ok n S->GC (500-k) S j d=l->Calls prog 13 #[.pointer (some ⟨mb,0,none⟩),.agg #[.int .i64 1,.int .i64 j,.int .u64 d]] wr (Oe F w mb n (N+k+1) (aaq S j d))):=Z (fun k S wr cd H r cL=>
  OV H r hj Q al (by omega))
 have c9:Hid (∀N S wr,LW F w mb n N S wr->FK ok n S->Calls prog 55 #[.pointer (some ⟨mb,0,none⟩),.int .i64 j] wr (Rb (Ia S j) wr)):=Z (fun N S wr H r=>LU H r hj);have c8:Hid (∀S,FK ok n S->FK ok n (aaq S j d)):=Z (fun S h=>h.step hj Q);have bi:=Z h;have c3:=Z I;clear X h I K ap al Q cb;go_enter func27,ntmps27
 go_wp2_with fail
 with_reducible refine c0.out.mono ?_
 rintro e w1 ⟨rfl,ab⟩;have bv:=Z (bi.out.af ab);clear ab;go_upto_block 0 with fail
 go_cut [] (fun wc=>LW F w mb n (N+500) l wc)
 case first=>
  go_wp2_with fail
  go_loopw [9] (fun i wr=>∃(k:Nat) (S:AS),k<=500/\i=.int .i64 k/\LW F w mb n (N+k) S wr/\FK ok n S/\GC (500-k) S j d=l) (fun i _=>500-(intOf i).toNat)
  case atStart=>exact⟨0,s,by omega,rfl,bv.out,c3.out,c6.out⟩
  case round=>
   obtain⟨k,S,cd,rfl,E,C,z⟩:=hrel;by_cases ce:k<500
   ·have c1:=Z (c2.out k S wr ce E C z)
    have a1:=Z (c8.out S C);have B:=Z z;have cS:(k:Int)<500:=(by omega);clear E C z;go_wp2_with fail
    with_reducible refine c1.out.mono ?_
    rintro e w2 ⟨v,rfl,r⟩;have V:=Z r;clear r;go_wp2_with fail
    with_reducible refine(c9.out _ _ _ V.out a1.out).mono ?_
    rintro e en ⟨a,b,c,cC,rfl,ad⟩;have Y:=Z (V.out.af ad);clear ad;obtain⟨P,J⟩:=nm (Ia (aaq S j d) j);rw[J];have a2:=Z J;clear J;by_cases A:P=90
    ·subst A
     go_wp2_with fail
     go_meet
     have q:=B.out;rw[show 500-k=(499-k)+1 by omega,Py a2.out]at q;rw[<-q];exact(Y.out.af ((Ch.refl _ _).alloc _)).more (by omega)
    ·have dr:((P:Int)==90)=false:=by simp;omega
     go_wp2_with fail
     go_roundw
     case rel=>
      refine⟨k+1,_,by omega,by go_num,(Y.out.af ((Ch.refl _ _).alloc _)).more (by omega),a1.out,?_⟩;have q:=B.out;rw[show 500-k=(499-k)+1 by omega,Re (by rw[a2.out];exact A)]at q;rw[show 500-(k+1)=499-k by omega];exact q
     case measure=>simp[intOf];omega
   ·obtain rfl:k=500:=by omega
    have c4:=Z E;have B:Hid (S=l):=Z z;clear E C z;go_wp2_with fail
    go_meet
    rw[<-B.out];exact c4.out
 case rest=>
  have bw:=Z hcut;have c7:=Z (Ld hcut);clear hcut;go_wp2_with fail
  with_reducible refine c7.out.mono ?_
  rintro e w4 ci;obtain⟨⟨ec,rfl,o⟩,O⟩:=ci;have a0:=Z (bw.out.af O);obtain⟨cs,cA,rfl⟩:=aA o;rw[List.length_map]at o⊢;by_cases u:l.ring.length=0
  ·rw[u]
   clear o O;have c5:Hid (l.ring=[]):=Z (List.length_eq_zero_iff.1 u);clear u;go_wp2_with fail
   refine bodyPost_ret (v:=.tuple #[.int .i64 0,.int .u64 0]) ?_ rfl ?_
   ·simp[results,Tryz.f27,go_sem]
   ·refine⟨?_,a0.out⟩
    rw[c5.out];rfl
  ·obtain⟨x,R⟩:∃x,l.ring[l.ring.length-1]?=some x:=⟨_,List.getElem?_eq_getElem (by omega)⟩
   have am:Lf l.ring=x:=(by unfold Lf;rw[List.getD_eq_getElem?_getD,R];rfl);have U:(l.ring.map fun y:Nat=>(y:Int))[l.ring.length-1]?=some (x:Int):=(by rw[List.getElem?_map,R];rfl);rw[Ra]at o;have ch:=Nb o;obtain⟨q,t⟩:=nm l.ring.length;obtain⟨p,A⟩:=nm (q-1);rw[t]at u;rw[t,A]at U;rw[t]at o ch;obtain⟨g,ct,e1,G,-,-,-,av,-⟩:=aS o (by omega);injection G with G cm cq
   subst G;have cl:=Od (k:=1) (fun _=>rfl) av U 0 (by decide) _ rfl;rw[Nat.mul_one,Nat.add_zero]at cl;have a3:Hid (l.ring.length=q/\Lf l.ring=x):=Z ⟨t,am⟩;rw[t];have dN:((q:Int)==0)=false:=(by simp;omega);have cW:(q:Int)-1=p:=(by omega);have dC:p<q:=(by omega);clear o av U O cm cq R am t u A;go_upto_region 11 with fail
   go_quiet (fail)
   go_wp2_with fail
   refine bodyPost_ret (v:=.tuple #[.int .i64 q,.int .u64 x]) ?_ rfl ?_
   ·simp[results,Tryz.f27,go_sem]
   ·refine⟨?_,a0.out.af ?_⟩
    ·rw[a3.out.1,a3.out.2]
    ·repeat(first|exact Ch.refl _ _|with_reducible refine Ch.drewN ?_ _|with_reducible refine Ch.drew ?_)
end
end
section
section
variable{ok:Hy}{n j d mb N M f tt:Nat}{s s' S:AS}{w w' W:World}{F F2:kG}{T D:ByteArray}{L:List (ByteArray×Int)}
def OX(w:World)(n tt:Nat)(e:Ending)(w':World):Prop:=∃mb,e=.returned (.pointer (some ⟨mb,0,none⟩))/\LW [] w mb n 1 (F9 n tt) w'
theorem Of(X:I4 T D L)(a:1<=n/\n<=64)(b:17+8*n+1<=tt/\tt<=65536)(m:Int)(w:World)(k:w.cell? ⟨1,0,none⟩=some (.int .i64 m))
 (i:w.cell? ⟨0,0,none⟩=some (.iface 390 (.agg #[.pointer (some ⟨4,85,none⟩)]))):
 Calls prog 25 #[.int .i64 n,.int .i64 tt] w (OX w n tt):=by
 refine(LS X n tt a b m w k i).mono ?_;rintro e w' ⟨mb,χ,rfl,c,g,h⟩;exact⟨mb,rfl,⟨χ,_,1,Nat.le_refl _,⟨c,sy NY n tt a.1 a.2 b.2 (show 17+8*n+0+0<=tt by omega),NB (C:=NY) (wd:=0) (lp:=90) a.1 a.2 b.2 rfl (by decide) rfl (by omega) rfl⟩,g,fun x l=>by cases l⟩,h⟩
def ek(s:AS):Nat->AS
 |0=>s
 |k+1=>Ph 400 (ek s k) k 2
theorem fl(h:Ia s j=90):∀f,Ph f s j d=s
 |0=>rfl
 |f+1=>by unfold Ph;rw[if_pos h]
theorem hT(h:¬Ia s j=90):Ph (f+1) s j d=Ph f (aaq s j d) j d:=by rw[Ph,if_neg h]
def hW(F:kG)(w:World)(mb n N:Nat)(s:AS)(e:Ending)(w':World):Prop:=e=.returned (.bool true)/\LW F w mb n N s w'
theorem gw(X:I4 T D L)(h:LW F w mb n N s W)(I:FK ok n s)(g:∀k,k<n->ok.ok k 2∨Ia (ek s k) k=90)(cl:n<=64)(c9:N+64*400<=300000)(m:Int)(ab:w.cell? ⟨1,0,none⟩=some (.int .i64 m)):
 Calls prog 28 #[.pointer (some ⟨mb,0,none⟩),.int .i64 n] W (hW F w mb n (N+n*400) (ek s n)):=by
 have bi:Hid (∀wr,wr.cell? ⟨1,0,none⟩=some (.int .i64 m)->Calls prog 26 #[.pointer (some ⟨mb,0,none⟩)] wr (dt (.int .i64 90) wr)):=Z (fun wr h=>I5 X (.pointer (some ⟨mb,0,none⟩)) m wr h);have bw:Hid (∀j k S wr,j<n->k<400->LW F w mb n (N+j*400+k) S wr->FK ok n S->ok.ok j 2->Ph (400-k) S j 2=ek s (j+1)->Calls prog 13 #[.pointer (some ⟨mb,0,none⟩),.agg #[.int .i64 1,.int .i64 j,.int .u64 2]] wr (Oe F w mb n (N+j*400+k+1) (aaq S j 2))):=Z (fun j k S wr hj cb J K g ce=>
  OV J K hj g (by decide) (by have:j*400<=63*400:=Nat.mul_le_mul_right _ (by omega);omega))
 have c8:Hid (∀j N S wr,j<n->LW F w mb n N S wr->FK ok n S->Calls prog 55 #[.pointer (some ⟨mb,0,none⟩),.int .i64 j] wr (Rb (Ia S j) wr)):=Z (fun j N S wr hj J K=>LU J K hj);have c7:Hid (∀j S,j<n->ok.ok j 2->FK ok n S->FK ok n (aaq S j 2)):=Z (fun j S hj g h=>h.step hj g);have c0:Hid (∀j S,j<n->ok.ok j 2->FK ok n S->Ia (Ph 400 S j 2) j=90):=Z (fun j S hj g h=>fF h hj g);have c3:=Z g;have am:=Z h;have x:=Z I;have c2:=Z ab;clear X h I ab g c9;go_enter func28,ntmps28
 go_wp2_with fail
 go_loopw [5] (fun i wr=>∃j:Nat,j<=n/\i=.int .i64 j/\LW F w mb n (N+j*400) (ek s j) wr/\FK ok n (ek s j)) (fun i _=>n-(intOf i).toNat)
 case atStart=>exact⟨0,by omega,rfl,am.out.more (by omega),x.out⟩
 case round=>
  obtain⟨j,hj,rfl,r,p⟩:=hrel;have Y:=Z r;have x:=Z p;clear r p;by_cases t:j<n
  ·have c4:Hid (ok.ok j 2∨Ia (ek s j) j=90):=Z (c3.out j t)
   have ch:(j:Int)<n:=(by omega);go_wp2_with fail
   go_loopw [6] (fun i wr=>∃(k:Nat) (S:AS),k<=400/\i=.int .i64 k/\LW F w mb n (N+j*400+k) S wr/\FK ok n S/\Ph (400-k) S j 2=ek s (j+1)/\(ok.ok j 2∨Ia S j=90)) (fun i _=>400-(intOf i).toNat)
   case atStart=>exact⟨0,ek s j,by omega,rfl,Y.out,x.out,rfl,c4.out⟩
   case round=>
    obtain⟨k,S,cb,rfl,r,p,a3,g⟩:=hrel;have U:=Z r;have y:=Z p;have u:=Z a3;have c5:=Z g;clear r p a3 g;have ci:¬(k:Int)>400:=(by omega);go_wp2_with fail
    with_reducible refine(c8.out _ _ _ _ t U.out y.out).mono ?_
    rintro e Q ⟨a,b,c,a0,rfl,a2⟩;have ap:=Z (U.out.af a2);clear a2;obtain⟨P,O⟩:=nm (Ia S j);rw[O];have z:=Z O;clear O;obtain⟨E,ad⟩:=nm Q.heap.size;go_upto_region 9 with fail
    obtain⟨w4,C⟩:=nm (Q.alloc (.cells #[.int .u64 a,.int .u64 b,.bool c,.int .i64 P,.int .i64 a0] 144));have c6:Hid (Row w4 E 144 [.int .u64 a,.int .u64 b,.bool c,.int .i64 P,.int .i64 a0]):=Z (by rw[<-C,<-ad];exact Row.new _ _ _);have G:=Z (ap.out.af (show Ch ag Q w4 by rw[<-C];exact(Ch.refl _ _).alloc _));rw[C];clear C ad;have H:Hid (∀W,Ch ag w4 W->W.cell? ⟨E,3,none⟩=some (.int .i64 P)):=Z (fun W c=>(c6.out.ch c (fun h=>h)).cell rfl);have V:=Z (fun W (c:Ch ag w4 W)=>bi.out W ((G.out.af c).cell c2.out));have t3:=H.out _ (Ch.refl _ _);by_cases B:P=90
    ·subst B
     go_region_held3 (fun w'=>w'.cell? ⟨E,3,none⟩=some (.int .i64 (90:Nat))) (go_keep) (first
      |(go_at_call 26;refine(V.out _ PL).mono ?_;rintro e R ⟨rfl,o⟩;have l:Hid (Ch ag w4 R):=Z (Ch.trans PL o);have t3:=H.out _ l.out;clear o))
     all_goals
      go_wp2_with fail
      have q:=(fl (d:=2) z.out _).symm.trans u.out;refine⟨⟨j+1,by omega,by go_num,?_,?_⟩,by simp[intOf];omega⟩
      ·rw[<-q]
       exact(G.out.af l.out).more (by rw[Nat.succ_mul];omega)
      ·rw[<-q]
       exact y.out
    ·have A:ok.ok j 2:=c5.out.resolve_right (fun e=>B (z.out.symm.trans e))
     have cd:k<400:=by
      rcases Nat.lt_or_ge k 400 with h|h
      ·exact h
      ·have q:=u.out
       rw[show 400-k=0 by omega]at q;have q:S=ek s (j+1):=q;exact absurd (z.out.symm.trans ((congrArg (fun al=>Ia al j) q).trans (c0.out j (ek s j) t A x.out))) B
     have bv:=Z (fun W (c:Ch ag w4 W)=>bw.out j k S W t cd (G.out.af c) y.out A u.out);have c1:=Z (c7.out j S t A y.out);have cm:((P:Int)==90)=false:=(by simp;omega);go_region_held3 (fun w'=>w'.cell? ⟨E,3,none⟩=some (.int .i64 P)) (go_keep) (first
      |(go_at_call 26;refine(V.out _ PL).mono ?_;rintro e R ⟨rfl,o⟩;have l:Hid (Ch ag w4 R):=Z (Ch.trans PL o);have t3:=H.out _ l.out;clear o))
     all_goals
      go_wp2_with fail
      with_reducible refine(bv.out _ l.out).mono ?_
      rintro e cq ⟨v,rfl,a1⟩;have av:=Z a1;clear a1;go_wp2_with fail
      go_roundw
      case rel=>
       refine⟨k+1,_,by omega,by go_num,av.out,c1.out,?_,Or.inl A⟩;have q:=u.out;rw[show 400-k=(399-k)+1 by omega,hT (by rw[z.out];exact B)]at q;rw[show 400-(k+1)=399-k by omega];exact q
      case measure=>simp[intOf];omega
  ·obtain rfl:j=n:=by omega
   go_wp2_with fail
   go_ret;exact⟨rfl,Y.out⟩
end
end
section
section
variable{ok:Hy}{n j d mb N M f base q t b a z i:Nat}{s s' S:AS}{w w' W:World}{K:KS}{F0:kG}
theorem fL(c:cR base K.ds s)(e:q<s.hl):pk K (q:Int)=(s.c q:Int):=by
 have g:K.mem.wid (q:Int)=64:=c.wid e;have h:K.mem.cells.getD q 0=(s.c q:Int):=c.get e;unfold pk hd aF.acc;rw[g,if_neg (by decide)];dsimp only;rw[if_neg (by decide),if_neg (by decide),if_neg (by decide),Int.toNat_natCast,h];rfl
theorem ey{x:Nat}(h:x<65537):IntKind.u64.wrap (x:Int)=(x:Int):=by rw[LZ,Nat.mod_eq_of_lt (by unfold qO;omega)]
theorem hP(g:cR base K.ds s)(r:0<z)(u:a+z<s.hl)(v:s.hl<=65536)(hb:b<=64):∀(f i:Nat),b-i<=f->eT K (a:Int) (z:Int) (b:Int) f (i:Int)=((List.range (b-i)).map fun k=>s.c (a+1+(i+k)%z)).map fun y:Nat=>(y:Int):=by
 intro f
 induction f with
 |zero=>
  intro i h;rw[show b-i=0 by omega];rfl
 |succ f ih=>
  intro i h;unfold eT;by_cases c:i<b
  ·have x:=Nat.mod_lt i r
   rw[if_pos ⟨by omega,by omega⟩];have l:IntKind.u64.wrap (IntKind.u64.wrap ((a:Int)+1)+(i:Int).tmod (z:Int))=((a+1+i%z:Nat):Int):=by
    have e:=ey (show a+1<65537 by omega);rw[Int.natCast_add]at e;have o:(i:Int).tmod (z:Int)=((i%z:Nat):Int):=(by rw[Int.tmod_eq_emod_of_nonneg (by omega)];rfl);have p:=ey (show a+1+i%z<65537 by omega);rw[show IntKind.u64.wrap ((a:Int)+1)=((a+1:Nat):Int)from e,o,<-Int.natCast_add];exact p
   have m:IntKind.u64.wrap ((i:Int)+1)=((i+1:Nat):Int):=ey (show i+1<65537 by omega);rw[l,m,fL g (by omega),ih (i+1) (by omega),show b-i=(b-(i+1))+1 by omega,List.range_succ_eq_map];simp[Function.comp_def,Nat.add_assoc,Nat.add_comm 1]
  ·rw[if_neg (by omega),show b-i=0 by omega]
   rfl
theorem hh(c:cR base K.ds s)(F:Fd n s j (tp s.sh j) (dK s.sh j) (ra s.sh j) (s.sh.c (ra s.sh j)))(hj:j<s.wk.length):ev K j=(((tp s.sh j:Nat):Int),((dK s.sh j:Nat):Int),(cont s.sh j).map fun y:Nat=>(y:Int)):=by
 have p:0<s.sh.c (ra s.sh j):=by rcases F.zs with e|e|e<;>omega
 have r:=F.x;have h:=F.l;have k:=F.m;have hw:K.wk.length=s.wk.length:=c.wn;have g:gY (j:Int)=((17+3*j:Nat):Int):=ey (x:=17+3*j) (by omega);have l:=fL c (q:=17+3*j) (by omega);have m:=fL c (q:=17+3*j+1) (by omega);have o:=fL c (q:=17+3*j+2) (by omega);have p3:=fL c (q:=ra s.sh j) (by omega);have w1:IntKind.u64.wrap (((17+3*j:Nat):Int)+1)=((17+3*j+1:Nat):Int):=ey (x:=17+3*j+1) (by omega);have w2:IntKind.u64.wrap (((17+3*j:Nat):Int)+2)=((17+3*j+2:Nat):Int):=ey (x:=17+3*j+2) (by omega);unfold ev;rw[if_neg (by omega)];dsimp only;rw[g,w1,w2,l,m,o];have p3:pk K ((s.c (17+3*j+2):Nat):Int)=(s.c (ra s.sh j):Int):=p3;rw[p3];refine Prod.ext rfl (Prod.ext rfl ?_);exact hP c (a:=ra s.sh j) (z:=s.sh.c (ra s.sh j)) (b:=dK s.sh j) p h k F.b1 16 (tp s.sh j) (by have:=F.bz;rcases F.zs with e|e|e<;>omega)
def ij(F0:kG)(w:World)(mb n N j:Nat)(s:AS)(W:World)(e:Ending)(w':World):Prop:=
 ∃x y v,e=.returned (.tuple #[.int .u64 x,.int .u64 y,v])/\w'.ownsRow W.heap.size 39 1 v (cont s.sh j).length (((cont s.sh j).map fun y:Nat=>(y:Int)).map (Value.int .u64))/\LW F0 w mb n N s w'
theorem hk(h:LW F0 w mb n N s W)(I:FK ok n s)(hj:j<n)(B:Ia s j=90):Calls prog 21 #[.pointer (some ⟨mb,0,none⟩),.int .i64 j] W (ij F0 w mb n N j s W):=by
 obtain⟨χ,K,M,y,p,l⟩:=h.d;obtain⟨g,m,o,_⟩:=I;obtain⟨x,c⟩:=o.at_ hj;have A:=(quiet o c (by rw[<-HX c];exact B)).2.2;have F:=o.fd hj A;obtain⟨L,Y,rfl,C,D⟩:=p.ms;have k:=gq (j:Int) C;rw[hh p.ar F (by rw[o.nw];exact hj)]at k;refine k.mono ?_;rintro e w' ⟨v,E,u,r⟩;rw[List.length_map]at u;exact⟨_,_,v,E,u,⟨χ,K,M,y,⟨⟨L,Y,rfl,r.at_,D⟩,p.iv,p.ar⟩,l.1,fun x c=>⟨(l.2 x c).1,(l.2 x c).2.ch r.nx.ch (fun q=>q (l.2 x c).1)⟩⟩,jl l.1 r.nx h.c⟩
end
end
section
def jI(B:Nat)(v:Value)(l:List Int)(F:kG):Prop:=
 (v=.slice none 0 0/\l=[]/\F=[])∨
 ∃g a c cs,v=.slice (some ⟨g,a,none⟩) l.length c/\F=[(g,39,cs)]/\B<=g/\l.length<=c/\c<=maxLen/\a+c<=cs.length/\∀(k:Nat) (x:Int),l[k]?=some x->cs[a+k]?=some (.int .u64 x)
section
variable{n mb N B:Nat}{s:AS}{w W w':World}{F:kG}{v:Value}{l:List Int}
theorem jI.sl(h:jI B v l F):∃a c,v=.slice a l.length c/\l.length<=c/\c<=maxLen:=by
 rcases h with⟨rfl,rfl,rfl⟩|⟨g,e,c,cs,rfl,_,_,b,d,_⟩
 ·exact⟨_,_,rfl,Nat.le_refl _,by decide⟩
 ·exact⟨_,_,rfl,b,d⟩
theorem jI.at_(h:jI B v l F)(H:LW F w mb n N s W){k:Nat}{x:Int}(b:l[k]?=some x):∃g a c,v=.slice (some ⟨g,a,none⟩) l.length c/\W.cell? ⟨g,a+k,none⟩=some (.int .u64 x):=by
 rcases h with⟨rfl,rfl,rfl⟩|⟨g,a,c,cs,rfl,rfl,_,e,f,_,d⟩
 ·cases b
 ·exact⟨g,a,c,rfl,(H.row (List.mem_singleton.2 rfl)).cell (d k x b)⟩
theorem jI.pop{x:Int}(h:jI B v (l++[x]) F):∃a c,v=.slice a (l.length+1) c/\l.length+1<=c/\jI B (.slice a l.length c) l F:=by
 rcases h with⟨_,h,_⟩|⟨g,m,c,cs,rfl,rfl,j,b,e,i,f⟩
 ·simp at h
 ·rw[List.length_append]at b
  have b:l.length+1<=c:=b;refine⟨_,_,by rw[List.length_append];rfl,b,Or.inr ⟨g,m,c,cs,rfl,rfl,j,by omega,e,i,fun k y d=>f k y ?_⟩⟩;rw[List.getElem?_append_left (List.getElem?_eq_some_iff.1 d).1,d]
theorem jI.shift{x:Int}(h:jI B v (x::l) F):∃g a c,v=.slice (some ⟨g,a,none⟩) (l.length+1) c/\l.length+1<=c/\jI B (.slice (some ⟨g,a+1,none⟩) l.length (c-1)) l F/\(c-1=0->jI B (.slice (some ⟨g,a,none⟩) l.length 0) l F):=by
 rcases h with⟨_,h,_⟩|⟨g,a,c,cs,rfl,rfl,e,d,j,m,f⟩
 ·cases h
 ·rw[List.length_cons]at d
  refine⟨g,a,c,rfl,d,Or.inr ⟨g,a+1,c-1,cs,rfl,rfl,e,by omega,by omega,by omega,fun k y b=> ?_⟩,fun i=>Or.inr ⟨g,a,0,cs,rfl,rfl,e,by omega,by decide,by omega,fun k y b=> ?_⟩⟩
  ·rw[show a+1+k=a+(k+1)by omega]
   exact f (k+1) y b
  ·have:=(List.getElem?_eq_some_iff.1 b).1
   omega
theorem jI.head{aw:Option Addr}{q d:Nat}{x:Int}(h:jI B (.slice aw q d) (x::l) F)(H:LW F w mb n N s W):∃g a y,aw=some ⟨g,a,none⟩/\q=l.length+1/\l.length+1<=d/\W.cell? ⟨g,a,none⟩=some (.int .u64 x)/\W.cell? ⟨g,a+l.length,none⟩=some (.int .u64 y)/\jI B (.slice (some ⟨g,a+1,none⟩) l.length (d-1)) l F/\(d-1=0->jI B (.slice (some ⟨g,a,none⟩) l.length 0) l F):=by
 obtain⟨g,a,c,e,o,p⟩:=h.shift;injection e with f b j
 subst f b j;obtain⟨y,r⟩:∃y,(x::l)[l.length]?=some y:=⟨_,List.getElem?_eq_getElem (by simp)⟩;obtain⟨g',t,z,i,k1⟩:=h.at_ H (k:=0) (x:=x) rfl;obtain⟨m,u,A,b,k2⟩:=h.at_ H (k:=l.length) r;injection i with f _ _
 injection b with b _ _
 obtain⟨rfl,rfl⟩:g=g'/\a=t:=by simpa using f
 obtain⟨rfl,rfl⟩:g=m/\a=u:=by simpa using b
 exact⟨g,a,y,rfl,rfl,o,k1,k2,p⟩
theorem jI.tail{aw:Option Addr}{q b:Nat}{x:Int}(h:jI B (.slice aw q b) (l++[x]) F)(H:LW F w mb n N s W):∃g f,aw=some ⟨g,f,none⟩/\q=l.length+1/\l.length+1<=b/\W.cell? ⟨g,f+l.length,none⟩=some (.int .u64 x)/\jI B (.slice (some ⟨g,f,none⟩) l.length b) l F:=by
 obtain⟨a,c,e,o,p⟩:=h.pop;injection e with d j m
 subst d j m;obtain⟨g',r,t,i,k1⟩:=h.at_ H (k:=l.length) (x:=x) (by simp);injection i with d _ _
 subst d;exact⟨g',r,rfl,rfl,o,k1,p⟩
theorem jG{ops:Array Oper}{rest:List Oper}{m:Oper}{a:Act}{Q:Exit->Act->World->Prop}
 (Y:m.guard=none) (r A:Operand) (t:TypeId) (Gf:m.op=Op.call {callee:=Callee.builtin Builtin.append,args:=#[r,A],argTypes:=#[t,t]})
 (i:TypeInfo) (z:Value) (O:prog.underlying t=some (.slice 39)) (P:prog.info? 39=some i) (R:i.zero=some z) (S:i.size=1) (T:i.bytes=8) (U:z.cells.size=1)
 (a0:a.eval r=v) (hw:jI B v l F) (H:LW F w mb n N s W) (c3:w.heap.size<=B) (c4:B<=W.heap.size) (c5:l.length<=1000)
 (f:Addr) (c:Nat) (y:Int) (C:a.eval A=.slice (some f) 1 c) (ab:W.cell? f=some (.int .u64 y))
 (V:∀d K D,jI B d (l++[y]) K->LW K w mb n N s D->W.heap.size<=D.heap.size->wpList prog ops Q rest (a.put m.dst d) D):wpList prog ops Q (m::rest) a W:=by
 have X:∀j u,([.int .u64 y]:List Value)[j]?=some u->W.cell? (f.add j)=some u:=fun j u hj=>by
  cases j with
  |zero=>
   obtain rfl:=Option.some.inj hj;rw[show f.add 0=f by unfold Addr.add;split<;>simp_all];exact ab
  |succ j=>cases hj
 have Z:∀u∈([.int .u64 y]:List Value),u.oneCell'=true:=fun u J=>by rw[List.mem_singleton.1 J];rfl
 have grow:∀(d:Value) (w':World),w'.ownsRow W.heap.size 39 1 d (l.length+1) (l.map (Value.int .u64)++[.int .u64 y])->W.grownBy w' none->wpList prog ops Q rest (a.put m.dst d) w':=fun d w' av al=>by
  obtain⟨g',cap,bi,rfl,o,p,bw,c0,c1⟩:=aS av (by omega);have h:Ch ag W w':=(Ch.bQ al).mono (fun i am=>by cases am);refine V _ [(g',39,l.map (Value.int .u64)++[.int .u64 y]++bi)] w' (Or.inr ⟨g',0,cap,_,by rw[List.length_append];rfl,rfl,by omega,by rw[List.length_append];exact p,bw,by rw[c1];omega,fun k x e=> ?_⟩) (H.new h (fun x C=> ?_)) h.size
  ·rw[Nat.zero_add,List.getElem?_append_left (by rw[List.length_append,List.length_map];have:=(List.getElem?_eq_some_iff.1 e).1;rw[List.length_append]at this;exact this)]
   rw[show l.map (Value.int .u64)++[.int .u64 y]=(l++[y]).map (Value.int .u64)by rw[List.map_append];rfl,List.getElem?_map,e];rfl
  ·obtain rfl:=List.mem_singleton.1 C
   exact⟨o,c0⟩
 rcases hw with⟨rfl,rfl,rfl⟩|⟨g,of,M,cs,rfl,rfl,ad,c2,a2,a3,L⟩
 ·exact wpList_append_grows W Y r A t Gf 39 i z 1 8 O P R S T U (by decide) none 0 0 [] a0 (fun _=>⟨rfl,rfl⟩) rfl (fun b hb=>by cases hb) f 1 c [.int .u64 y] C rfl X Z (by decide) (by decide) (by decide) (fun d w' o p=>grow d w' o p)
 ·have q:=H.row (List.mem_singleton.2 rfl)
  have bv:∀j u,(l.map (Value.int .u64))[j]?=some u->W.cell? ⟨g,of+j,none⟩=some u:=fun j u hj=>by
   rw[List.getElem?_map]at hj;cases G:l[j]? with
   |none=>rw[G]at hj;cases hj
   |some x=>
    rw[G]at hj;obtain rfl:=Option.some.inj hj;exact q.cell (L j x G)
  refine wpList_append_arg W Y r A t Gf 39 i z 1 8 O P R S T U (by decide) g of l.length M (l.map (Value.int .u64)) a0 (by rw[List.length_map,Nat.mul_one]) bv f 1 c [.int .u64 y] C rfl X Z (fun I j hj=> ?_) (by unfold maxLen;omega) (by omega) (fun I=> ?_) (fun I d w' o p=>grow d w' o p)
  ·have hj:j<1:=hj
   obtain⟨u,J⟩:∃u,cs[of+l.length*1+j]?=some u:=⟨_,List.getElem?_eq_getElem (by omega)⟩;exact⟨by rw[q.cell J];rfl,q.free _⟩
  ·have h:Ch (fun i=>i=g) W (W.setCells g (of+l.length*1) [.int .u64 y]):=uH _ _ _
   have a1:Row (W.setCells g (of+l.length*1) [.int .u64 y]) g 39 (cs.set (of+l.length) (.int .u64 y)):=by
    have:=Row.vH (g:=g) [.int .u64 y] (of+l.length*1) W cs q;rw[Nat.mul_one]at this⊢;exact this
   refine V _ [(g,39,cs.set (of+l.length) (.int .u64 y))] _ (Or.inr ⟨g,of,M,_,by rw[List.length_append];rfl,rfl,ad,by rw[List.length_append];exact I,a2,by rw[List.length_set];exact a3,fun k x e=> ?_⟩) (H.wr (by omega) h a1) h.size;rw[List.getElem?_set];by_cases ap:k<l.length
   ·rw[if_neg (by omega)]
    rw[List.getElem?_append_left ap]at e;exact L k x e
   ·have E:=(List.getElem?_eq_some_iff.1 e).1
    rw[List.length_append]at E;have E:k<l.length+1:=E;obtain rfl:k=l.length:=by omega
    rw[List.getElem?_append_right (Nat.le_refl _),Nat.sub_self]at e;obtain rfl:=Option.some.inj e;rw[if_pos rfl,if_pos (by omega)]
theorem l7(L:List Int){y:Nat}{u v2:Value}(b:W.ownsRow y 39 1 u L.length (L.map (Value.int .u64)))(m:jI B v2 L F)(H:LW F w mb n N s W):
 Calls prog 23 #[u,v2] W (dt (.bool true) W):=by
 rw[Ra]at b;have q:Hid (∀k x d,Ch ag W d->L[k]?=some x->∃g r c,v2=.slice (some ⟨g,r,none⟩) L.length c/\d.cell? ⟨g,r+k,none⟩=some (.int .u64 x)):=Z (fun k x d c f=>m.at_ (H.af c) f);obtain⟨a2,K,rfl,-,-⟩:=m.sl;obtain⟨a,o⟩:=nm L.length;rw[o]at b q⊢;have R:a<=9223372036854775807:=Nb b;have A:=Z o;have z:=Z b;obtain⟨a1,J,rfl⟩:=aA b;clear b m o H;go_enter func23,ntmps23
 go_wp2_with fail
 go_loopw [5] (fun s d=>∃k:Nat,k<=a/\s=.int .i64 k/\Ch ag W d) (fun s _=>a-(intOf s).toNat)
 case atStart=>exact⟨0,by omega,rfl,Ch.refl _ _⟩
 case round=>
  obtain⟨k,P,rfl,hb⟩:=hrel;have e:=Z hb;clear hb;by_cases C:k<a
  ·obtain⟨X,p⟩:∃X,L[k]?=some X:=⟨_,List.getElem?_eq_getElem (by rw[A.out];exact C)⟩
   obtain⟨M,U,S,i,-,-,-,t,-⟩:=aS z.out (by omega);obtain⟨O,V,T,j,y0⟩:=q.out k X _ e.out p;injection i with i D E
   injection j with j G I
   subst i j;clear D E G I;have f:=Od (k:=1) (fun _=>rfl) (t.ch e.out (fun h=>h)) p;have x0:=f 0 (by decide) _ rfl;rw[Nat.add_zero,Nat.mul_one]at x0;have Q:(k:Int)<a:=(by omega);clear p t f;go_wp2_with fail
   go_quiet (fail)
   go_wp2_with fail
   go_roundw
   case rel=>exact⟨k+1,by omega,by go_num,e.out.trans ((Ch.refl _ _).drewN _)⟩
   case measure=>simp[intOf];omega
  ·obtain rfl:k=a:=by omega
   go_wp2_with fail
   go_ret;exact⟨rfl,e.out⟩
end
end
end Go.Proofs.YtlihkblppjgebaaGreatDoor
