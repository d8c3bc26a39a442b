import Derived.Deep.LoopGhost
import Derived.Laws.CopyRow
import Derived.Test.YtfnilkpkogipfaaGreatDoorZAf
set_option linter.unusedVariables false
set_option linter.unusedSimpArgs false
set_option maxRecDepth 100000
set_option maxHeartbeats 8000000
namespace Go.Proofs.YtfnilkpkogipfaaGreatDoor
open Go.RowKit Go.Proofs.Tryz
section
attribute [local go_sem↓] Go.wp_at_zero Go.wp_at_succ
def aN.arm(S:aN)(id dl:Int):Bool×aN:=
 if id==0 then(false,S)else
 match aw S.ff id with
 |some _=>(false,S)
 |none=>if dl !=18446744073709551615 then(true,{S with heap:=(S.heap.put dl id).2,ff:=b8 S.ff id ((S.heap.put dl id).1,dl)})else(true,S)
def Cr(x:Bool×aN)(b hb mb qb:Nat)(v:Value)(w:World)(e:Ending)(w':World):Prop:=(∃u,e=.returned u/\(if x.1 then u=.nilIface else aq u))/\(∃a,aX w' b hb mb qb a x.2/\aQ w v a)/\Ch (e0 b hb mb qb v) w w'
theorem pN(b hb mb qb:Nat)(v:Value)(S:aN)(id dl:Int)(G:S.heap.l.length<=900000)(w:World)(h:aX w b hb mb qb v S):
 Calls prog 187 #[(b,0),.int .u64 id,.int .u64 dl] w (Cr (S.arm id dl) b hb mb qb v w):=by
 have H:=Z h;have k:=h.head.k 1 rfl;have l:=h.head.k 2 rfl;have d:=ht (P:=prog) (T:=205) (K:=56) (E:=258) underlying205 underlying56 (uC w) h.ff id;cases s:id==0
 ·obtain⟨r,n⟩:=nm (aw S.ff id)
  rw[n]at d;have j:=Z n;have g:=Z s;clear h n;cases r with
  |some x=>
   have E:Hid (S.arm id dl=(false,S)):=Z (by unfold aN.arm;rw[g,j];rfl);simp only[Option.map_some,Option.getD_some,Option.isSome_some,ib]at d;go_enter func187,ntmps187
   go_wp2
   go_ret;rw[E];exact⟨⟨_,rfl,aq.mk _ _⟩,⟨v,(H.alloc _).alloc _,aQ.refl _ _⟩,((Ch.refl _ _).alloc _).alloc _⟩
  |none=>
   simp only[Option.map_none,Option.getD_none,Option.isSome_none,ib]at d;cases z:dl !=18446744073709551615
   ·have E:Hid (S.arm id dl=(true,S)):=Z (by unfold aN.arm;rw[g,j,z];rfl)
    go_enter func187,ntmps187
    go_wp2
    go_ret;rw[E];exact⟨⟨_,rfl,rfl⟩,⟨v,H.alloc _,aQ.refl _ _⟩,(Ch.refl _ _).alloc _⟩
   ·obtain⟨y,p⟩:=nm (S.heap.put dl id)
    have E:Hid (S.arm id dl=(true,{S with heap:=y.2,ff:=b8 S.ff id (y.1,dl)})):=Z (by unfold aN.arm;rw[g,j,z,p];rfl);have D:Hid (∀w,aM w hb mb v S.heap->Calls prog 208 #[(hb,0),.int .u64 dl,.int .u64 id] w (uz y hb mb v w)):=Z (fun w h=>p▸qX hb mb v S.heap dl id G w h);clear p;go_enter func187,ntmps187
    go_wp2
    obtain⟨w1,o⟩:=nm (w.alloc (.cells #[.int .i64 0,.int .u64 0] 258));have a:Hid (aX w1 b hb mb qb v S/\Ch (e0 b hb mb qb v) w w1):=Z (by rw[<-o];exact⟨H.alloc _,(Ch.refl _ _).alloc _⟩);rw[o];clear o k l d;have k:=a.1.head.k 1 rfl;have l:=a.1.head.k 2 rfl;go_region_held3 (fun w'=>w'.cell? (b,1)=some (.pointer (some (hb,0)))/\w'.cell? (b,2)=some (.map (some qb))) (go_keep) ((go_at_call 208;refine(D _ a.1.heap.drew).mono ?_;rintro e w2 ⟨rfl,⟨q,A,B⟩,u⟩;have c:=Z (a.1.drew.drop A u);have F:Hid (aQ w v q):=Z ((aQ.refl w v).trans a.2.size B);clear A u k l B;have d1:=c.1.head.k 1 rfl;have d2:=c.1.head.k 2 rfl;obtain⟨C,J,t,m⟩:=fm (P:=prog) (T:=205) (K:=56) (E:=258) (enc:=ib) underlying205 underlying56 c.1.ff id (y.1,dl);have f:=Z (⟨c.1.del t m,(a.2.drew.trans c.2).trans (m.mono fun i I=>Or.inr (Or.inl I))⟩:aX C b hb mb qb q {S with heap:=y.2,ff:=b8 S.ff id (y.1,dl)}/\Ch (e0 b hb mb qb v) w C);have d3:=f.1.head.k 1 rfl;have d4:=f.1.head.k 2 rfl;clear t m;simp only[ib]at J))
    all_goals
     go_wp2
     go_ret;rw[E];exact⟨⟨_,rfl,rfl⟩,⟨q,f.1,F⟩,f.2⟩
 ·have E:Hid (S.arm id dl=(false,S)):=Z (by unfold aN.arm;rw[s];rfl)
  clear h d;go_enter func187,ntmps187
  go_wp2
  go_ret;rw[E];exact⟨⟨_,rfl,aq.mk _ _⟩,⟨v,H.alloc _,aQ.refl _ _⟩,(Ch.refl _ _).alloc _⟩
def aN.new:aN:=⟨0,ah.new,[]⟩
theorem ki(w:World):Calls prog 52 #[] w (fun e w'=>∃b hb mb qb,e=.returned (.pointer (some ⟨b,0,none⟩))/\aX w' b hb mb qb (.slice none 0 0) aN.new/\w.heap.size<=b/\w.heap.size<=hb/\w.heap.size<=mb/\w.heap.size<=qb/\Ch ag w w'):=by
 have k:= @run_makeMap prog;go_enter func52,ntmps52
 go_wp2_with fail
 refine(q0 _).mono ?_;rintro e w1 ⟨hb,mb,rfl,c,g,h,a⟩;have f:=Z c;have d:=Z a;have i:=a.size;have j:=c.map.lt;clear c a;go_wp2
 go_ret;refine⟨w1.heap.size+1,hb,mb,w1.heap.size,rfl,⟨?_,(f.alloc _).alloc _,⟨#[],0,?_,rfl⟩,by omega⟩,by omega,g,h,i,(d.alloc _).alloc _⟩
 ·have:=Row.new (w1.alloc (.map #[] 0)) #[.int .u64 0,.pointer (some ⟨hb,0,none⟩),.map (some w1.heap.size)] 207
  rw[World.size_alloc]at this;exact this
 ·rw[Below.heap_alloc _ _ _ (by simp)];exact heap_alloc_new w1 _
end
section
attribute [local go_sem↓] Go.wp_at_zero Go.wp_at_succ
theorem m9:∀(f:Nat) (S:ah) (i:Nat) (t:a8),(bN f S i t).1.l.length=S.l.length
 |0,_,_,_=>rfl
 |f+1,S,i,t=>by
  unfold bN;split
  ·rfl
  ·split
   ·rfl
   ·split
    ·rw[m9,ah.b1]
    ·rfl
theorem ah.yd(S:ah)(i:Nat):(S.down i).l.length=S.l.length:=by
 unfold ah.down;split
 ·rfl
 ·rw[ah.b1,m9]
theorem ah.uD(S:ah)(h:Int):(S.cut h).l.length=S.l.length-1:=by unfold ah.cut;simp
theorem ah.AD(S:ah)(h:Int):((S.drop h).2.1=false/\(S.drop h).2.2=S/\(S.drop h).1=0)∨((S.drop h).2.1=true/\0<S.l.length/\(S.drop h).2.2.l.length=S.l.length-1):=by
 unfold ah.drop;split
 ·exact Or.inl ⟨rfl,rfl,rfl⟩
 ·split
  ·rename_i t d a c
   have b:=(List.getElem?_eq_some_iff.1 a).1;split
   ·exact Or.inr ⟨rfl,by omega,by rw[ah.yd,ah.m7,ah.b1,ah.uD]⟩
   ·exact Or.inr ⟨rfl,by omega,by rw[ah.uD]⟩
  ·exact Or.inl ⟨rfl,rfl,rfl⟩
theorem ah.Cs(S:ah)(now:Int):((S.pop now).2.1=false/\(S.pop now).2.2=S/\(S.pop now).1=0)∨((S.pop now).2.1=true/\0<S.l.length/\(S.pop now).2.2.l.length=S.l.length-1):=by
 unfold ah.pop;split
 ·exact Or.inl ⟨rfl,rfl,rfl⟩
 ·split
  ·exact Or.inl ⟨rfl,rfl,rfl⟩
  ·exact ah.AD _ _
def ed:Nat->aN->List Int->aN×List Int
 |0,S,acc=>(S,acc)
 |f+1,S,acc=>
  if(S.heap.pop S.now).2.1 then ed f {S with heap:=(S.heap.pop S.now).2.2,ff:=fk S.ff (S.heap.pop S.now).1} (acc++[(S.heap.pop S.now).1])else(S,acc)
def aN.tick(S:aN):aN×List Int:=
 ed (S.heap.l.length+1) {S with now:=IntKind.u64.wrap (S.now+1)} []
def AE(x:aN×List Int)(b hb mb qb:Nat)(v:Value)(w:World)(e:Ending)(w':World):Prop:=
 (∃u,e=.returned u/\w'.ownsRow w.heap.size 56 1 u x.2.length (x.2.map (Value.int .u64)))/\(∃a,aX w' b hb mb qb a x.1/\aQ w v a)/\Ch (e0 b hb mb qb v) w w'
theorem vE{w:World}{b hb mb qb:Nat}{v d:Value}(h:aQ w v d):∀i,i<w.heap.size->e0 b hb mb qb d i->e0 b hb mb qb v i:=fun i f e=>by
 rcases e with a|a|a|a|a
 ·exact Or.inl a
 ·exact Or.inr (Or.inl a)
 ·exact Or.inr (Or.inr (Or.inl a))
 ·exact Or.inr (Or.inr (Or.inr (Or.inl a)))
 ·rcases h i a with c|c
  ·exact Or.inr (Or.inr (Or.inr (Or.inr c)))
  ·omega
theorem jt:(prog.info? 56).map (fun i=>(i.zero,i.size,i.bytes))=some (some (.int .u64 0),1,8):=by kernel_rfl
theorem aX.time{w:World}{b hb mb qb:Nat}{v:Value}{S:aN}(h:aX w b hb mb qb v S)(n:Int):aX (w.setCell (b,0) (.int .u64 n)) b hb mb qb v {S with now:=n}/\Ch (e0 b hb mb qb v) w (w.setCell (b,0) (.int .u64 n)):=by
 have a:Ch (aK b) w (w.setCell (b,0) (.int .u64 n)):=(Ch.refl _ _).only 0 _;refine⟨⟨h.head.a' _ _ rfl,h.heap.ch a (fun e=>h.head.ne h.heap.head (by decide) (show _=_ from Eq.symm e)) (fun e=>h.heap.map.ne h.head e) (fun g c e=>aY h.heap.own h.head (by decide) (by rw[c];exact congrArg some e)),h.ff.ch a (fun e=>h.ff.ne h.head e),h.ne⟩,a.mono fun i d=>Or.inl d⟩
theorem pO{w:World}{B f:Nat}{e a:TypeId}{s o:Nat}{v d:Value}{n m:Nat}{p q:List Value}(h:w.ownsRow B e s v n p)(i:w.ownsRow f a o d m q)(j:e≠a){k:Nat}(b:v.ownBlock=some k):d.ownBlock≠some k:=by
 rcases h.2 with⟨rfl,_⟩|⟨g,cap,cur,rfl,_,l,_⟩
 ·cases b
 ·have:g=k:=by simpa[Value.ownBlock]using b
  subst this;exact aY (c:=cur.toList) i (by unfold Row;simpa using l) j
theorem aM.Ct{w:World}{b mb:Nat}{v:Value}{S:ah}(h:aM w b mb v S){B:Nat}{e:TypeId}{s:Nat}{u:Value}{n:Nat}{i:List Value}(d:w.ownsRow B e s u n i)(f:268≠e)(g:e≠318):∀k,u.ownBlock=some k->¬cn b mb v k:=by
 rintro k c (a|a|a)
 ·exact aY d h.head f (c.trans (congrArg some a))
 ·exact ia d h.map (c.trans (congrArg some a))
 ·exact pO d h.own g c a
theorem aX.grown{w w':World}{b hb mb qb:Nat}{v:Value}{S:aN}(h:aX w b hb mb qb v S){B:Nat}{u:Value}{n:Nat}{f:List Value}(a:w.ownsRow B 56 1 u n f)(c:w.grownBy w' u.ownBlock):aX w' b hb mb qb v S:=
 h.ch (Ch.bQ c) (aY a h.head (by decide)) (aY a h.heap.head (by decide)) (ia a h.heap.map) (ia a h.ff) (fun g d e=>pO a h.heap.own (by decide) e d)
theorem iP{w w':World}{B:Nat}{D:Nat->Prop}{a:World}{e:TypeId}{s:Nat}{u:Value}{n:Nat}{h:List Value}(c:Ch D a w)(f:w.ownsRow B e s u n h)(j:a.heap.size<=B)(d:w.grownBy w' u.ownBlock):Ch D a w':=
 c.join (Ch.bQ d) (fun i l b=>by
  rcases f.2 with⟨rfl,_⟩|⟨g,cap,cur,rfl,k,_⟩
  ·cases b
  ·have:g=i:=by simpa[Value.ownBlock]using b
   omega)
theorem oE(b hb mb qb:Nat)(v:Value)(S:aN)(al:S.heap.l.length<=900000)(bv:S.heap.WF)(w:World)(h:aX w b hb mb qb v S):
 Calls prog 105 #[(b,0)] w (AE S.tick b hb mb qb v w):=by
 obtain⟨cq,ap,ck,cl,cm⟩:=info_parts jt;have c2:=Z ap;have D:=h.head.c1;have f0:=h.head.free 0;have H:=Z h;have c3:=Z bv;have X:=Z al;have cS:=h.head.lt;obtain⟨n,M⟩:=mn (IntKind.u64.wrap (S.now+1));have E:Hid (S.tick=ed (S.heap.l.length+1) {S with now:=n} []):=Z (by unfold aN.tick;rw[M]);have c5:=Z M;clear h bv al M ap;go_enter func105,ntmps105
 go_wp2
 rw[<-c5];obtain⟨w1,R⟩:=nm (w.setCell (b,0) (.int .u64 n));have W:Hid (aX w1 b hb mb qb v {S with now:=n}/\Ch (e0 b hb mb qb v) w w1):=Z (by rw[<-R];exact H.time n);rw[R];clear R D f0;go_loopg [3] (S.heap.l.length+1) (fun gk u wr=>∃(a:aN) (acc:List Int) (m:Value),u=u/\a.heap.l.length<gk/\a.heap.l.length+acc.length<=S.heap.l.length/\Hid (ed gk a acc=ed (S.heap.l.length+1) {S with now:=n} []/\a.heap.WF/\aX wr b hb mb qb m a/\wr.ownsRow w.heap.size 56 1 u acc.length (acc.map (Value.int .u64))/\Ch (e0 b hb mb qb v) w wr/\aQ w v m))
 case atStart=>exact⟨{S with now:=n},[],v,rfl,Nat.lt_succ_self _,by simp,rfl,c3,W.1,⟨rfl,Or.inl ⟨rfl,rfl⟩⟩,W.2,aQ.refl _ _⟩
 case round=>
  obtain⟨a,acc,m,-,cW,dN,d⟩:=hrel;have l:=Z d.2.2.1;have z:=Z d.2.2.2.1;have p:=Z d.2.2.2.2.1;have a3:=Z d.2.2.2.2.2;have a2:=Z (vE (b:=b) (hb:=hb) (mb:=mb) (qb:=qb) d.2.2.2.2.2);obtain⟨q,rfl⟩:∃c7,gk=c7+1:=⟨gk-1,by omega⟩;obtain⟨y,B⟩:=nm (a.heap.pop a.now);have O:=ah.Cs a.heap a.now;have U:=d.2.1.pop a.now;have a1:Hid (ed (q+1) a acc=if y.2.1 then ed q {a with heap:=y.2.2,ff:=fk a.ff y.1} (acc++[y.1])else(a,acc)):=Z (by rw[ed,B]);have Y:Hid (∀w,aM w hb mb m a.heap->Calls prog 136 #[(hb,0),.int .u64 a.now] w (pL y hb mb m w)):=Z (fun w h=>B▸qZ hb mb m a.heap a.now (by have:=X.out;omega) (fun t _=>d.2.1.jP t.h) w h);rw[B]at O U;have a0:=Z O;have c4:=Z U;clear B O U;obtain⟨f,cA,o⟩:=y;obtain⟨D,c6⟩:=l.head.c2;obtain⟨cC,cL,rfl⟩:=aA z;have ad:=Z (l.heap.Ct z (by decide) (by decide));cases cA
  ·have cd:o=a.heap:=by rcases a0 with⟨_,G,_⟩|⟨F,_⟩;exact G;cases F
   have I:Hid (S.tick=(a,acc)):=Z (by rw[E,<-d.1,a1];rfl);subst cd;go_wp2
   go_region_held3 (fun w'=>w'.cell? (b,0)=some (.int .u64 a.now)/\w'.cell? (b,1)=some (.pointer (some (hb,0)))) (go_keep) ((go_at_call 136;refine(Y _ l.heap.drew).mono ?_;rintro e w2 ⟨rfl,⟨V,s,x⟩,j⟩;have c:=Z (l.drew.drop s j);have Q:=Z x;have A:=Z j;clear s j x;obtain⟨d0,d1⟩:=c.1.head.c2))
   all_goals
    go_wp2
    go_ret;rw[I];refine⟨⟨_,rfl,?_⟩,⟨V,?_,?_⟩,?_⟩
    ·exact ar z.drew A.out ad
    ·exact c.1
    ·exact a3.trans p.size (aQ.of_eq Q.out)
    ·exact p.drew.join c.2 a2
  ·have dC:0<a.heap.l.length/\o.l.length=a.heap.l.length-1:=by
    rcases a0 with⟨F,_⟩|⟨_,G,c8⟩
    ·cases F
    ·exact⟨G,c8⟩
   have I:Hid (ed q {a with heap:=o,ff:=fk a.ff f} (acc++[f])=ed (S.heap.l.length+1) {S with now:=n} []):=Z (by rw[<-d.1,a1];rfl);have cQ:=X.out;go_wp2
   go_region_held3 (fun w'=>w'.cell? (b,0)=some (.int .u64 a.now)/\w'.cell? (b,1)=some (.pointer (some (hb,0)))) (go_keep) ((go_at_call 136;refine(Y _ l.heap.drew).mono ?_;rintro e w2 ⟨rfl,⟨V,s,x⟩,j⟩;have c:=Z (l.drew.drop s j);have Q:=Z x;have A:=Z j;clear s j x;obtain⟨d0,d1⟩:=c.1.head.c2))
   all_goals
    have d2:=c.1.head.k 2 rfl;obtain⟨C,ci,ab,r⟩:=fo (P:=prog) (T:=205) (K:=56) (E:=258) (ty:=0) (kT:=56) underlying205 underlying56 c.1.ff f;have bw:=Z (c.1.del ab r);have c1:=Z (r);have N:=ar z.drew A.out ad;have av:=ar N r (fun k cf e=>ia N c.1.ff (cf.trans (congrArg some e)));have J:=Z av;have ec:w.heap.size<=C.heap.size:=by have:=p.size;have:=A.out.size;have:=r.size;simp at*;omega
    clear ab r N av d0 d1 D c6;go_wp2_with (at_builtin;refine wpList_append_lies _ rfl _ _ _ rfl w.heap.size 56 cq _ 1 8 underlying29 c2 ck cl cm rfl (by omega) _ acc.length (acc.map (Value.int .u64)) rfl (J.alloc _) ⟨C.heap.size,0,none⟩ 1 1 [.int .u64 f] rfl rfl (World.news_of_block (cs:=#[.int .u64 f]) (t:=56) (fr:=(0,0)) (heap_alloc_new C _)) (by simp[Value.oneCell']) (by omega) (by unfold maxLen;omega) (by omega) (by simp;omega) (C.heap.size+1) (by simp) ?_)
    intro g cap w4 bi am ce ch;have L:=ax am;have c0:=Z (bw.grown J L);have cb:=Z bi;have c9:=Z (iP ((p.drew.join c.2 a2).join c1 (fun i dr e=>Or.inr (Or.inl e))) J (Nat.le_refl _) L);clear am L bi ce ch d2 ci;go_wp2
    go_roundg q
    case measure=>omega
    case rel=>
     refine⟨{a with heap:=o,ff:=fk a.ff f},acc++[f],V,by trivial,?_,?_,I,c4,c0,?_,c9,?_⟩
     ·show o.l.length<q
      omega
     ·show o.l.length+(acc++[f]).length<=_
      rw[List.length_append,List.length_cons,List.length_nil];omega
     ·rw[List.length_append,List.length_cons,List.length_nil,List.map_append]
      exact cb
     ·exact a3.trans p.size (aQ.of_eq Q.out)
end
structure ic where
 at_:Nat
 n:Nat
 w:Int
 deriving DecidableEq,Repr,Inhabited
def ic.cells(b:ic):List Value:=[.int .i64 b.at_,.int .i64 b.n,.int .i64 b.w]
theorem ic.len(b:ic):b.cells.length=3:=rfl
structure aZ where
 from_:Nat
 xK:Nat
 l:List ic
structure aR(w:World)(b m:Nat)(v:Value)(S:aZ):Prop where
 head:Row w b 271 [(m,0),.int .i64 S.from_,.int .i64 S.xK,v]
 own:w.ownsRow 0 274 3 v S.l.length (S.l.flatMap ic.cells)
def dv(b:Nat)(v:Value):Nat->Prop:=fun i=>i=b∨v.ownBlock=some i
theorem aR.alloc{w:World}{b m:Nat}{v:Value}{S:aZ}(h:aR w b m v S)(a:Obj):aR (w.alloc a) b m v S:=⟨h.head.alloc a,h.own.alloc a⟩
theorem aR.drew{w:World}{b m:Nat}{v:Value}{S:aZ}(h:aR w b m v S):aR w.drew b m v S:=⟨h.head,h.own.drew⟩
theorem aR.drewN{w:World}{b m:Nat}{v:Value}{S:aZ}(h:aR w b m v S)(n:Nat):aR (w.drewN n) b m v S:=⟨h.head,⟨h.own.1,h.own.2⟩⟩
theorem aR.ch{w w':World}{D:Nat->Prop}{b m:Nat}{v:Value}{S:aZ}(h:aR w b m v S)(c:Ch D w w')(hb:¬D b)(a:∀g,v.ownBlock=some g->¬D g):aR w' b m v S:=⟨h.head.ch c hb,ar h.own c a⟩
theorem aS{w:World}{B:Nat}{e:TypeId}{s:Nat}{v:Value}{n:Nat}{a:List Value}(h:w.ownsRow B e s v n a)(m:0<n):∃g cap c,v=.slice (some ⟨g,0,none⟩) n cap/\B<=g/\n<=cap/\cap<=maxLen/\Row w g e (a++c)/\(a++c).length=cap*s:=by
 rcases h.2 with⟨_,l⟩|⟨g,cap,cur,rfl,d,i,f,j,k,b⟩
 ·omega
 ·refine⟨g,cap,cur.toList.drop (n*s),rfl,d,f,j,?_,?_⟩
  ·unfold Row;rw[<-b,List.take_append_drop];simpa using i
  ·rw[<-b,List.take_append_drop];simpa using k
theorem kj{α:Type}{enc:α->List Value}{w:World}{B:Nat}{e:TypeId}{s g n cap:Nat}{l:List α}(h:w.ownsRow B e s (.slice (some (g,0)) n cap) n (l.flatMap enc))(c:∀x,(enc x).length=s)(E:n=l.length){i:Nat}{x:α}(d:l[i]?=some x):
 (∀j v,j<s->(enc x)[j]?=some v->w.cell? ⟨g,i*s+j,none⟩=some v)/\g<w.heap.size/\(∀j,w.frozen? ⟨g,j,none⟩=false):=by
 have A:=(List.getElem?_eq_some_iff.1 d).1;obtain⟨r,q,F,k,y,z,D,b,C⟩:=aS h (by omega);injection k with a t u
 injection a with a
 injection a with a
 subst a;have f:=a7 c l;refine⟨fun j v m p=>b.cell ?_,b.lt,fun j=>b.free j⟩;have o:i*s+j<l.length*s:=by
  calc i*s+j<i*s+s:=by omega
   _=(i+1)*s:=by rw[Nat.succ_mul]
   _<=l.length*s:=Nat.mul_le_mul_right _ (by omega)
 rw[List.getElem?_append_left (by rw[f];exact o)];exact(bP c d m).trans p
def aZ.ee(S:aZ)(i:Nat):Nat:=if i=0 then S.from_ else match S.l[i-1]? with|some x=>x.at_+x.n|none=>0
def aZ.fV(S:aZ)(i:Nat):Nat:=if i=S.l.length then S.xK else match S.l[i]? with|some x=>x.at_|none=>0
structure aZ.Ok(S:aZ):Prop where
 from_:S.from_<=70000
 xK:S.xK<=70000
 l:∀x∈S.l,x.at_<=70000/\x.n<=70000
 len:S.l.length<=900000
theorem pP(b m:Nat)(v:Value)(S:aZ)(a:S.Ok)(i:Nat)(q:i<=S.l.length)(w:World)(h:aR w b m v S):
 Calls prog 127 #[(b,0),.int .i64 i] w (fun e w'=>e=.returned (.int .i64 (S.ee i))/\∃k,w'=w.drewN k):=by
 by_cases n:i=0
 ·subst n
  have E:Hid (S.ee 0=S.from_):=Z (by unfold aZ.ee;rw[if_pos rfl]);have r:=h.head.k 1 rfl;clear h;go_enter func127,ntmps127
  go_wp2
  go_ret;rw[E];exact⟨rfl,0,rfl⟩
 ·obtain⟨p,rfl⟩:∃p,i=p+1:=⟨i-1,by omega⟩
  obtain⟨x,c⟩:∃x,S.l[p]?=some x:=⟨_,List.getElem?_eq_getElem (by omega)⟩;have E:Hid (S.ee (p+1)=x.at_+x.n):=Z (by unfold aZ.ee;rw[if_neg (by omega),Nat.add_sub_cancel,c]);have G:=a.l x (List.mem_of_getElem? c);obtain⟨g,cap,H,rfl,y,o,C,-,-⟩:=aS h.own (by omega);obtain⟨d,B,A⟩:=kj h.own ic.len rfl c;have I:w.cell? ⟨g,p*3,none⟩=some (.int .i64 x.at_):=d 0 _ (by omega) rfl;have J:w.cell? ⟨g,p*3+1,none⟩=some (.int .i64 x.n):=d 1 _ (by omega) rfl;have l:=h.head.k 3 rfl;obtain⟨N,f⟩:=mn S.l.length;rw[<-f]at l q o;have j:((p+1:Nat):Int)=(p:Int)+1:=by omega
  have z:((p:Int)+1==0)=false:=by rw[beq_eq_false_iff_ne];omega
  have s:IntKind.i64.wrap ((p:Int)+1-1)=(p:Int):=by rw[show(p:Int)+1-1=p from by omega];exact IntWalk.i64_in _ (by have:=a.len;omega)
  have u:IntKind.i64.wrap (p:Int)=(p:Int):=IntWalk.i64_in _ (by have:=a.len;omega);have t:IntKind.i64.wrap ((x.at_:Int)+x.n)=((x.at_:Int)+x.n):=IntWalk.i64_in _ (by omega);have F:(p:Int)<N:=by omega
  have D:(0:Int)<=p:=by omega
  rw[j];clear h c d f j a;go_enter func127,ntmps127
  go_wp2
  go_quiet (fail)
  go_wp2
  go_ret;rw[E];exact⟨rfl,_,rfl⟩
theorem m'(b m:Nat)(v:Value)(S:aZ)(j:S.Ok)(i:Nat)(n:i<=S.l.length)(w:World)(h:aR w b m v S):
 Calls prog 128 #[(b,0),.int .i64 i] w (d' (.int .i64 (S.fV i)) w):=by
 obtain⟨o,q,d⟩:=aA h.own;have p:=h.head.k 2 rfl;have k:=h.head.k 3 rfl;obtain⟨N,a⟩:=mn S.l.length;by_cases c:i=S.l.length
 ·have E:Hid (S.fV i=S.xK):=Z (by unfold aZ.fV;rw[if_pos c])
  rw[<-a]at c d;subst c;subst d;clear h a;go_enter func128,ntmps128
  go_wp2
  go_ret;exact d'.mk (by rw[E];rfl)
 ·obtain⟨x,e⟩:∃x,S.l[i]?=some x:=⟨_,List.getElem?_eq_getElem (by omega)⟩
  have E:Hid (S.fV i=x.at_):=Z (by unfold aZ.fV;rw[if_neg c,e]);obtain⟨g,cap,A,rfl,r,l,z,-,-⟩:=aS h.own (by omega);obtain⟨f,y,t⟩:=kj h.own ic.len rfl e;have B:w.cell? (g,i*3)=some (.int .i64 x.at_):=f 0 _ (by omega) rfl;rw[<-a]at k n c l;have hlen:=j.len;rw[<-a]at hlen;have s:((i:Int)==(N:Int))=false:=by rw[beq_eq_false_iff_ne];omega
  have u:(i:Int)<N:=by omega
  clear h e f a d j;go_enter func128,ntmps128
  go_wp2
  go_ret;exact d'.mk (by rw[E];rfl)
section
attribute [local go_sem↓] Go.wp_at_zero Go.wp_at_succ
theorem na{P:Program}(w:World)(f y ty elem:TypeId)(size g b c k:Nat)(a:Addr)(e x:Nat)(cur:Array Value)(t:TypeId)(cs:List Value)
 (u:P.underlying f=some (.slice elem)) (h:(P.info? elem).map (·.size)=some size)
 (n:w.heap[g]?=some (.cells cur t (0,0))) (q:cs.length=Nat.min e c*size)
 (r:∀j v,cs[j]?=some v->w.cell? (a.add j)=some v) (m:b+cs.length<=cur.size) (l:∀v∈cs,v.oneCell'=true):
 (Builtin.copy_ #[f,y] ty #[.slice (some (g,b)) c k,.slice (some a) e x]).run P w=
  .ok (goInt (Nat.min e c)) (w.setRow g (cur.toList.take b++cs++cur.toList.drop (b+cs.length)).toArray):=by
 have p:=run_loadCells_list (P:=P) w a cs r;have s:=run_storeCells_at P g b t cs 0 cur w n (by simpa using m) l;cases d:P.info? elem with
 |none=>simp[d]at h
 |some i=>
  have o:i.size=size:=by simpa[d]using h
  simp[Builtin.copy_,run_underlying u,Builtin.lenOf,Builtin.firstCells,sizeOf,typeInfo,d,o,<-q,p,s]
theorem oV(w:World)(g:Nat)(cs:Array Value):Ch (aK g) w (w.setRow g cs):=
 ⟨rfl,rfl,rfl,by simp[World.setRow],fun k b a=>setRow_other w g k cs (fun e=>a e)⟩
theorem ld{α:Type}{enc:α->List Value}{k:Nat}(a:∀x,(enc x).length=k):∀(l:List α) (n:Nat),(l.flatMap enc).drop (n*k)=(l.drop n).flatMap enc
 |[],n=>by simp
 |x::l,0=>by simp
 |x::l,n+1=>by
  rw[List.flatMap_cons,List.drop_succ_cons,Nat.succ_mul,List.drop_append,a,show n*k+k-k=n*k from by omega,ld a l n,List.drop_of_length_le (by rw[a];omega),List.nil_append]
theorem vF{α:Type}{enc:α->List Value}{P:Program}{w:World}{B g cap s:Nat}{e T ty:TypeId}{l:List α}{z:α}{i dC sC:Nat}(G:P.underlying T=some (.slice e))(F:(P.info? e).map (·.size)=some s)
 (a:∀x,(enc x).length=s) (q:∀x,∀v∈enc x,v.oneCell'=true) (M:i<l.length) (h:w.ownsRow B e s (.slice (some (g,0)) (l.length+1) cap) (l.length+1) ((l++[z]).flatMap enc)):
 ∃w',(Builtin.copy_ #[T,T] ty #[.slice (some (g,(i+1)*s)) (l.length-i) dC,.slice (some (g,i*s)) (l.length+1-i) sC]).run P w=.ok (goInt ((l.length-i:Nat):Int)) w'/\
  w'.ownsRow B e s (.slice (some (g,0)) (l.length+1) cap) (l.length+1) ((l.take (i+1)++l.drop i).flatMap enc)/\Ch (aK g) w w':=by
 obtain⟨L,K,b,A,r,y,E,n,C⟩:=aS h (by omega);injection A with f O J
 injection f with f
 injection f with f
 subst f J;have d:((l++[z]).flatMap enc).length=(l.length+1)*s:=by rw[a7 a];simp
 have c:=a7 a (l.drop i);rw[List.length_drop]at c;have o:Nat.min (l.length+1-i) (l.length-i)=l.length-i:=Nat.min_eq_right (by omega);have p:=na (P:=P) w T T ty e s g ((i+1)*s) (l.length-i) dC ⟨g,i*s,none⟩ (l.length+1-i) sC ((l++[z]).flatMap enc++b).toArray e ((l.drop i).flatMap enc) G F n (by rw[o];exact c) (fun j v m=>by
  have N:j<(l.length-i)*s:=by rw[<-c];exact(List.getElem?_eq_some_iff.1 m).1
  rw[show(⟨g,i*s,none⟩:Addr).add j=⟨g,i*s+j,none⟩from by unfold Addr.add;split<;>simp_all];refine n.cell ?_;have hb:i*s+j<l.length*s:=by
   have:i*s+(l.length-i)*s=l.length*s:=by rw[<-Nat.add_mul];congr 1;omega
   omega
  rw[List.getElem?_append_left (by rw[d,Nat.succ_mul];omega),List.flatMap_append,List.getElem?_append_left (by rw[a7 a];exact hb)];rw[<-ld a,List.getElem?_drop]at m;exact m) (by
  rw[List.size_toArray,List.length_append,d,c];have:(i+1)*s+(l.length-i)*s=(l.length+1)*s:=by rw[<-Nat.add_mul];congr 1;omega
  omega) (fun v H=>by
  obtain⟨x,_,I⟩:=List.mem_flatMap.1 H;exact q x v I)
 rw[o]at p;refine⟨_,p,?_,oV _ _ _⟩;have k:=setRow_heap w g _ (List.take ((i+1)*s) ((l++[z]).flatMap enc++b).toArray.toList++(l.drop i).flatMap enc++List.drop ((i+1)*s+((l.drop i).flatMap enc).length) ((l++[z]).flatMap enc++b).toArray.toList).toArray e (0,0) n;have u:List.take ((i+1)*s) ((l++[z]).flatMap enc++b)=(l.take (i+1)).flatMap enc:=by
  rw[List.take_append,js a,d,show(i+1)*s-(l.length+1)*s=0 from by have:(i+1)*s<=(l.length+1)*s:=Nat.mul_le_mul_right _ (by omega);omega,List.take_zero,List.append_nil,List.take_append_of_le_length (by omega)]
 have t:List.drop ((i+1)*s+((l.drop i).flatMap enc).length) ((l++[z]).flatMap enc++b)=b:=by
  rw[c,show(i+1)*s+(l.length-i)*s=(l.length+1)*s from by rw[<-Nat.add_mul];congr 1;omega,<-d,List.drop_left'];rfl
 rw[List.toList_toArray]at k;rw[u,t]at k⊢;have D:(l.take (i+1)++l.drop i).length=l.length+1:=by rw[List.length_append,List.length_take,List.length_drop];omega
 have f2:=a7 a (l.take (i+1)++l.drop i);rw[D]at f2;refine⟨f2,Or.inr ⟨g,cap,_,rfl,r,k,y,E,?_,?_⟩⟩
 ·rw[List.size_toArray,<-List.flatMap_append,List.length_append,f2,<-d,<-List.length_append];exact C
 ·rw[List.toList_toArray,<-List.flatMap_append]
  exact List.take_left' f2
theorem nb{P:Program}(w:World)(d n ty elem:TypeId)(b a:Option Addr)(c g f m:Nat)(l:P.underlying d=some (.slice elem))(k:((P.info? elem).map (·.size)).isSome=true)(j:Nat.min f c=0):
 (Builtin.copy_ #[d,n] ty #[.slice b c g,.slice a f m]).run P w=.ok (goInt 0) w:=by
 cases e:P.info? elem with
 |none=>simp[e]at k
 |some i=>
  have h:∀(x:Addr),(loadCells x 0).run P w=.ok #[] w:=fun x=>by simpa using run_loadCells_list (P:=P) w x [] (by simp)
  cases b<;>cases a<;>simp[Builtin.copy_,run_underlying l,Builtin.lenOf,Builtin.firstCells,sizeOf,typeInfo,e,j,storeCells,h]
theorem hI{α:Type}{enc:α->List Value}{w:World}{B g n cap s:Nat}{e:TypeId}{l:List α}(h:w.ownsRow B e s (.slice (some (g,0)) n cap) n (l.flatMap enc))(c:∀x,(enc x).length=s){i:Nat}{x y:α}(k:l[i]?=some x)(j:Nat)(r:j<s){a:Nat}(o:a=i*s+j){v:Value}(D:(enc x).set j v=enc y)(f:n=l.length):
 (w.setCell (g,a) v).ownsRow B e s (.slice (some (g,0)) n cap) n ((l.set i y).flatMap enc):=by
 subst o;have J:=(List.getElem?_eq_some_iff.1 k).1;obtain⟨H,G,E,q,m,p,z,A,t⟩:=aS h (by omega);injection q with b K F
 injection b with b
 injection b with b
 subst b F;have d:=a7 c l;have f2:=a7 c (l.set i y);rw[List.length_set]at f2;have u:i*s+j<l.length*s:=by
  have I:i*s+s<=l.length*s:=by rw[<-Nat.succ_mul];exact Nat.mul_le_mul_right _ (by omega)
  omega
 have C:=A.a' (i*s+j) v (l':=(l.set i y).flatMap enc++E) (by
  rw[List.set_append_left _ _ (by rw[d];exact u),fg c k r D])
 refine⟨by rw[f2,f],Or.inr ⟨g,cap,_,rfl,m,C,p,z,?_,?_⟩⟩
 ·rw[List.size_toArray,List.length_append,f2,<-d,<-List.length_append];exact t
 ·rw[List.toList_toArray,f]
  exact List.take_left' f2
end
end Go.Proofs.YtfnilkpkogipfaaGreatDoor
