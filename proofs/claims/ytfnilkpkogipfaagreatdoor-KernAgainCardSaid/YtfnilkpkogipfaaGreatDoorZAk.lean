import Derived.Test.YtfnilkpkogipfaaGreatDoorZAh
import Derived.Test.YtfnilkpkogipfaaGreatDoorZAi
set_option linter.all false
set_option maxRecDepth 100000
set_option maxHeartbeats 8000000
namespace Go.Proofs.YtfnilkpkogipfaaGreatDoor
open Go.RowKit Go.Proofs.Tryz
theorem CC:(prog.info? 238).map (fun i=>(i.zero,i.size,i.bytes))=some (some (.agg #[.string ByteArray.empty,.int .i64 0]),2,24):=by kernel_rfl
theorem oz.EH{w w1:World}{B p F:Nat}{r i x z a:Value}{S:gC}(h:oz w B p F r i x z S)(I:B<=w.heap.size)(y:ByteArray×Int)
 (H:w1.ownsRow B 238 2 a (S.labels.length+1) (S.labels.flatMap o8++o8 y)) (l:w.grownBy w1 i.ownBlock):
 dK (w1.setCell (p,1) a) B p p {S with labels:=S.labels++[y]}/\Below B w (w1.setCell (p,1) a):=by
 have c:=kp (p:=p) (j:=1) (u:=a) l;have J:∀{k:Nat} {cs:Array Value} {t:TypeId} {f:Nat×Nat},w.heap[k]?=some (.cells cs t f)->t≠232->t≠238->¬ym p i k:=fun m b d C=>by
  rcases C with rfl|C
  ·exact b (e3 h.row m)
  ·exact bl h.labels m d C
 have K:∀{e:TypeId} {s:Nat} {v:Value} {n:Nat} {A:List Value},w.ownsRow B e s v n A->e≠232->e≠238->∀g,v.ownBlock=some g->¬ym p i g:=fun o b d g l=>by
  obtain⟨_,cs,m⟩:=bS o l;exact J m b d
 have D:Row w1 p 232 [r,i,x,z,.int .i64 S.line]:=by
  unfold Row;rw[l.block p h.row.lt (fun e=>bl h.labels h.row (by decide) e.symm)];exact h.row
 have G:(w1.setCell (p,1) a).ownsRow B 238 2 a (S.labels++[y]).length ((S.labels++[y]).flatMap o8):=by
  have:=dR (j:=1) (u:=a) H D (by decide);rw[List.flatMap_append,List.length_append];simpa using this
 have E:Row (w1.setCell (p,1) a) p 232 [r,a,x,z,.int .i64 S.line]:=D.bc _ _ rfl;have q:∀{e:TypeId} {s:Nat} {v:Value} {n:Nat} {A:List Value},w.ownsRow B e s v n A->e≠232->e≠238->(w1.setCell (p,1) a).ownsRow B e s v n A:=fun o b d=>aj o c (K o b d)
 exact⟨⟨r,a,x,z,E,h.hB,q h.code (by decide) (by decide),bl (q h.code (by decide) (by decide)) E (by decide),G,q h.lines (by decide) (by decide),q h.bs (by decide) (by decide)⟩,fZ c h.labels h.hB I⟩
theorem oz.CD{w w1:World}{B p F:Nat}{r x i z a:Value}{S:gC}(h:oz w B p F r x i z S)(I:B<=w.heap.size)(y:Int)
 (H:w1.ownsRow B 3 1 a (S.lines.length+1) (S.lines.flatMap jr++jr y)) (l:w.grownBy w1 i.ownBlock):
 dK (w1.setCell (p,2) a) B p p {S with lines:=S.lines++[y]}/\Below B w (w1.setCell (p,2) a):=by
 have c:=kp (p:=p) (j:=2) (u:=a) l;have J:∀{k:Nat} {cs:Array Value} {t:TypeId} {f:Nat×Nat},w.heap[k]?=some (.cells cs t f)->t≠232->t≠3->¬ym p i k:=fun m b d C=>by
  rcases C with rfl|C
  ·exact b (e3 h.row m)
  ·exact bl h.lines m d C
 have K:∀{e:TypeId} {s:Nat} {v:Value} {n:Nat} {A:List Value},w.ownsRow B e s v n A->e≠232->e≠3->∀g,v.ownBlock=some g->¬ym p i g:=fun o b d g l=>by
  obtain⟨_,cs,m⟩:=bS o l;exact J m b d
 have D:Row w1 p 232 [r,x,i,z,.int .i64 S.line]:=by
  unfold Row;rw[l.block p h.row.lt (fun e=>bl h.lines h.row (by decide) e.symm)];exact h.row
 have G:(w1.setCell (p,2) a).ownsRow B 3 1 a (S.lines++[y]).length ((S.lines++[y]).flatMap jr):=by
  have:=dR (j:=2) (u:=a) H D (by decide);rw[List.flatMap_append,List.length_append];simpa using this
 have E:Row (w1.setCell (p,2) a) p 232 [r,x,a,z,.int .i64 S.line]:=D.bc _ _ rfl;have q:∀{e:TypeId} {s:Nat} {v:Value} {n:Nat} {A:List Value},w.ownsRow B e s v n A->e≠232->e≠3->(w1.setCell (p,2) a).ownsRow B e s v n A:=fun o b d=>aj o c (K o b d)
 exact⟨⟨r,x,a,z,E,h.hB,q h.code (by decide) (by decide),bl (q h.code (by decide) (by decide)) E (by decide),q h.labels (by decide) (by decide),G,q h.bs (by decide) (by decide)⟩,fZ c h.lines h.hB I⟩
theorem oz.iI{w w1:World}{B p G:Nat}{i r x z a:Value}{S:gC}(h:oz w B p G i r x z S)(I:B<=w.heap.size)(y:aR)
 (H:w1.ownsRow B 121 7 a (S.code.length+1) (S.code.flatMap b3++b3 y)) (l:w.grownBy w1 i.ownBlock):
 dK (w1.setCell (p,0) a) B p p {S with code:=S.code++[y]}/\Below B w (w1.setCell (p,0) a):=by
 have c:=kp (p:=p) (j:=0) (u:=a) l;have J:∀{k:Nat} {cs:Array Value} {t:TypeId} {f:Nat×Nat},w.heap[k]?=some (.cells cs t f)->t≠232->t≠121->¬ym p i k:=fun m b d C=>by
  rcases C with rfl|C
  ·exact b (e3 h.row m)
  ·exact bl h.code m d C
 have K:∀{e:TypeId} {s:Nat} {v:Value} {n:Nat} {A:List Value},w.ownsRow B e s v n A->e≠232->e≠121->∀g,v.ownBlock=some g->¬ym p i g:=fun o b d g l=>by
  obtain⟨_,cs,m⟩:=bS o l;exact J m b d
 have E:Row w1 p 232 [i,r,x,z,.int .i64 S.line]:=by
  unfold Row;rw[l.block p h.row.lt (fun e=>bl h.code h.row (by decide) e.symm)];exact h.row
 have D:(w1.setCell (p,0) a).ownsRow B 121 7 a (S.code++[y]).length ((S.code++[y]).flatMap b3):=by
  have:=dR (j:=0) (u:=a) H E (by decide);rw[List.flatMap_append,List.length_append];simpa using this
 have F:Row (w1.setCell (p,0) a) p 232 [a,r,x,z,.int .i64 S.line]:=E.bc _ _ rfl;have q:∀{e:TypeId} {s:Nat} {v:Value} {n:Nat} {A:List Value},w.ownsRow B e s v n A->e≠232->e≠121->(w1.setCell (p,0) a).ownsRow B e s v n A:=fun o b d=>aj o c (K o b d)
 exact⟨⟨a,r,x,z,F,h.hB,D,bl D F (by decide),q h.labels (by decide) (by decide),q h.lines (by decide) (by decide),q h.bs (by decide) (by decide)⟩,fZ c h.code h.hB I⟩
def oC(S:gC)(B p:Nat)(w:World)(e:Ending)(w':World):Prop:=e=.returned (.pointer none)/\dK w' B p p S/\Below B w w'
def ee(w:World)(g:Nat)(l:List ByteArray):Prop:=∃a,Row w g 9 (l.map Value.string++a)
theorem ee.cell{w:World}{g:Nat}{l:List ByteArray}(h:ee w g l){k:Nat}{x:ByteArray}(a:l[k]?=some x):w.cell? (g,k)=some (.string x):=by
 obtain⟨b,h⟩:=h;refine h.cell ?_;rw[List.getElem?_append_left (by rw[List.length_map];exact(List.getElem?_eq_some_iff.1 a).1),List.getElem?_map,a];rfl
theorem ee.af{w w':World}{g:Nat}{l:List ByteArray}(h:ee w g l)(c:Ch ag w w'):ee w' g l:=by
 obtain⟨a,h⟩:=h;exact⟨a,h.ch c id⟩
theorem hk(l:List (ByteArray×Int))(n:ByteArray)(r:Int×Bool)(b:q7 (cR l n)=r)(v:Value)(B:Nat)(w:World)(h:w.ownsRow B 238 2 v l.length (l.flatMap o8))(a:l.length<=1000000):
 Calls prog 82 #[v,.string n] w (yS .i64 r w):=by rw[<-b];exact yo l n v B w h a
theorem uS(b n:ByteArray)(L:b.extract 0 (b.size-1)=n)(cq:1<=b.size)(cr:b.size<=65536)(G:ca b (b.size-1)=58)(g cap B p:Nat)(S:gC)(w:World)(O:ee w g [b])(cA:1<=cap)(c4:dK w B p p S)(av:B<=w.heap.size)
 (M:fY n=true) (I:cR S.labels n=none) (u:S.labels.length<=1000000) (U:S.lines.length<=1000000):
 Calls prog 104 #[(p,0),.slice (some (g,0)) 1 cap] w (oC {S with labels:=S.labels++[(n,(S.code.length:Int))],lines:=S.lines++[S.line]} B p w):=by
 have p1:b.size-1<b.size:=by omega
 have a3:((b[b.size-1].toNat:Int)==58)=true:=by rw[cj,beq_iff_eq];exact G
 have t0:w.cell? (g,0)=some (.string b):=O.cell rfl;have N:n.size<=maxLen:=by rw[<-L];unfold maxLen;simp;omega
 have a1:=Z (kr n N true M);have X:=Z (fun v w h=>hk S.labels n (0,false) (by rw[I];rfl) v B w h u);obtain⟨cL,f,cW,dr,a⟩:=c4;have x:=Z a;have l:w.cell? (p,1)=some f:=a.row.cell rfl;have bv:=Z u;have bw:=Z U;clear a O M I N G u U;go_in
 go_wp2_with (first|(go_at_call 82;(with_reducible refine(X.out _ _ ?_).mono ?_);exact x.out.labels;rintro e w' ⟨rfl,cb,rfl⟩)|(go_at_call 130;(with_reducible refine(a1.out _).mono ?_);rintro e w' ⟨rfl,cd,rfl⟩))
 obtain⟨w1,r⟩:=nm (w.drewN (cb+cd));have m:=Z (Ch.dN (D:=ag) r);rw[r];clear r l t0 a3 L;have a:=x.af m;have a2:=Z a;obtain⟨z,A,H⟩:=ao a.code;have W:=Z H;have V:w1.cell? (p,0)=some (.slice z S.code.length A):=by rw[<-W];exact a.row.cell rfl
 have l:w1.cell? (p,1)=some f:=a.row.cell rfl;have C:=a.row.free 1;have j:=a.row.lt;have k:f.ownBlock≠some p:=bl a.labels a.row (by decide);have E:=a.labels;have am:B<=w1.heap.size:=by have:=m.size;omega
 obtain⟨c8,J,Q,R,T⟩:=info_parts CC;have Y:=Z J;have bx:=bv.out;clear a H J;go_cut [] (fun wc=>dK wc B p p {S with labels:=S.labels++[(n,(S.code.length:Int))]}/\Below B w1 wc)
 case first=>
  go_region_law (first|(refine step_append_lies _ (by rfl) _ _ _ (by rfl) B 238 c8 _ 2 24 underlying151 Y Q R T rfl (by omega) f S.labels.length (S.labels.flatMap o8) (by rfl) ((E.alloc _).drew) ⟨w1.heap.size,0,none⟩ 1 1 [.string n,.int .i64 S.code.length] (by rfl) (by rfl) (World.news_of_block (cs:=#[.string n,.int .i64 S.code.length]) (t:=238) (fr:=(0,0)) (heap_alloc_new w1 _)) (by simp[Value.oneCell']) (by omega) (by unfold maxLen;omega) (by omega) (by simp;omega) (w1.heap.size+1) (by simp) ?_;intro al ab w2 c1 d bi c0;have cl:w2.cell? (p,1)=some f:=(d.cell_far ⟨p,1,none⟩ (by simp;omega) (Ne.symm k)).trans (by simp[go_sem,World.cell?_alloc_past,j,l]);have cm:w2.frozen? (p,1)=false:=(d.frozen_far ⟨p,1,none⟩ (by simp;omega) (Ne.symm k)).trans (by simp[go_sem,World.frozen?_alloc_past,j,C]);have ch:w2.cell? (p,0)=some (.slice z S.code.length A):=(d.cell_far ⟨p,0,none⟩ (by simp;omega) (Ne.symm k)).trans (by simp[go_sem,World.cell?_alloc_past,j,V])))
  all_goals
   go_wp2
   go_meet
   exact a2.EH am (n,(S.code.length:Int)) c1 (au (cT d))
 case rest=>
  obtain⟨c3,F⟩:=hcut;have o:=Z F;obtain⟨cQ,cS,i,dC,c⟩:=c3;have y:=Z c;obtain⟨w3,P⟩:=nm wc;rw[P]at y o c⊢;have ce:w3.cell? (p,2)=some i:=c.row.cell rfl;have cf:w3.cell? (p,4)=some (.int .i64 S.line):=c.row.cell rfl;have ad:=c.row.free 2;have q:=c.row.lt;have s:i.ownBlock≠some p:=bl c.lines c.row (by decide);have ax:w3.ownsRow B 3 1 i S.lines.length (S.lines.flatMap jr):=c.lines;have ap:B<=w3.heap.size:=by have:=o.size;omega
  obtain⟨c9,K,c5,c6,c7⟩:=info_parts lg;have a0:=Z K;have cC:=bw.out;clear c K V l C j k E Q R T bx F;clear P;go_wp2
  go_region_law (first|(refine step_append_lies _ (by rfl) _ _ _ (by rfl) B 3 c9 _ 1 8 underlying79 a0 c5 c6 c7 rfl (by omega) i S.lines.length (S.lines.flatMap jr) (by rfl) ((ax.alloc _).drew) ⟨w3.heap.size,0,none⟩ 1 1 [.int .i64 S.line] (by rfl) (by rfl) (World.news_of_block (cs:=#[.int .i64 S.line]) (t:=3) (fr:=(0,0)) (heap_alloc_new w3 _)) (by simp[Value.oneCell']) (by omega) (by unfold maxLen;omega) (by omega) (by simp;omega) (w3.heap.size+1) (by simp) ?_;intro al ab w4 c2 d bi c0;have cl:w4.cell? (p,2)=some i:=(d.cell_far ⟨p,2,none⟩ (by simp;omega) (Ne.symm s)).trans (by simp[go_sem,World.cell?_alloc_past,q,ce]);have cm:w4.frozen? (p,2)=false:=(d.frozen_far ⟨p,2,none⟩ (by simp;omega) (Ne.symm s)).trans (by simp[go_sem,World.frozen?_alloc_past,q,ad]);have ch:w4.cell? (p,4)=some (.int .i64 S.line):=(d.cell_far ⟨p,4,none⟩ (by simp;omega) (Ne.symm s)).trans (by simp[go_sem,World.cell?_alloc_past,q,cf])))
  all_goals
   go_wp2
   go_ret;obtain⟨ci,ck⟩:=y.CD ap S.line c2 (au (cT d));exact⟨rfl,ci,((m.below av (fun _ hb=>False.elim hb)).trans o).trans ck⟩
end Go.Proofs.YtfnilkpkogipfaaGreatDoor
