import Derived.ChangeKeysEq
import Derived.Test.YtfnilkpkogipfaaGreatDoorZBy
set_option linter.all false
set_option maxRecDepth 100000
set_option maxHeartbeats 8000000
namespace Go.Proofs.YtfnilkpkogipfaaGreatDoor
open Go.RowKit Go.Proofs.Tryz
theorem aal{w:World}{g k:Nat}{t:TypeId}{L:List Ev}{d:List Value}{X:Ev}(r:Row w g t (L.flatMap Ev.cells++d))(a:L[k]?=some X):
 w.cell? (g,k*11)=some (.int .i64 X.kind)/\w.cell? (g,k*11+1)=some (.int .i64 X.at_)/\w.cell? (g,k*11+2)=some (.int .i64 X.w)/\w.cell? (g,k*11+3)=some (.int .u64 X.t)/\w.cell? (g,k*11+4)=some (.int .i64 X.num)/\w.cell? (g,k*11+5)=some (.int .u64 X.a0)/\w.cell? (g,k*11+6)=some (.int .u64 X.a1)/\w.cell? (g,k*11+7)=some (.int .u64 X.a2)/\w.cell? (g,k*11+8)=some (.int .u64 X.a3)/\w.cell? (g,k*11+9)=some (.int .u64 X.v)/\w.cell? (g,k*11+10)=some (.int .u64 X.code):=by
 have f:∀j v,j<11->X.cells[j]?=some v->w.cell? ⟨g,k*11+j,none⟩=some v:=fun j v b c=>r.cell (by
  have e:=(List.getElem?_eq_some_iff.1 a).1;rw[List.getElem?_append_left (by rw[a7 (enc:=Ev.cells) (k:=11) (fun _=>rfl)];omega)];exact(bP (enc:=Ev.cells) (k:=11) (fun _=>rfl) a b).trans c)
 exact⟨f 0 _ (by omega) rfl,by and_intros<;>exact f _ _ (by decide) rfl⟩
theorem aau(a b c e:Int)(w:World):(Op.equalIn 9999 60 (.agg #[.int .u64 a,.int .u64 b,.int .u64 c,.int .u64 e]) (.agg #[.int .u64 a,.int .u64 b,.int .u64 c,.int .u64 e])).run prog w=.ok true w:=by
 obtain⟨j,d,f,g,i⟩:=info_parts jt;rw[run_equalIn_array w 9998 _ _ underlying60 d];have h:prog.cellsOf 56=1:=by kernel_rfl
 rw[h];simp[Op.eqItems,List.range_succ,go_sem]
theorem aah(L:List Ev){B1 B2:Nat}{m n:Value}(w:World)(a:w.ownsRow B1 62 11 m L.length (L.flatMap Ev.cells))(c:w.ownsRow B2 62 11 n L.length (L.flatMap Ev.cells)):
 Calls prog 17 #[m,n] w (dt (.bool true) w):=by
 obtain⟨N,g⟩:=nm L.length;rw[g]at a c;have I:N<=9223372036854775807:=by
  rcases Nat.eq_zero_or_pos N with e|e
  ·omega
  ·obtain⟨_,_,_,_,_,r,t,_,_⟩:=aS a e
   exact Nat.le_trans r t
 have q:=Z g;have o:=Z a;have p:=Z c;obtain⟨a1,B,rfl⟩:=aA a;obtain⟨a2,C,rfl⟩:=aA c;clear a c g;go_enter func17,ntmps17
 go_wp2_with fail
 go_loopw [5] (fun s v=>∃k:Nat,k<=N/\s=.int .i64 k/\Ch ag w v) (fun s _=>N-(intOf s).toNat)
 case atStart=>exact⟨0,by omega,rfl,Ch.refl _ _⟩
 case round=>
  obtain⟨k,G,rfl,hb⟩:=hrel;have b:=Z hb;clear hb;by_cases u:k<N
  ·obtain⟨X,i⟩:∃X,L[k]?=some X:=⟨_,List.getElem?_eq_getElem (by rw[q];exact u)⟩
   obtain⟨D,M,J,d,-,-,-,j,-⟩:=aS o (by omega);obtain⟨E,O,K,f,-,-,-,l,-⟩:=aS p (by omega);injection d with d x y
   injection f with f z A
   subst d f;clear x y z A;obtain⟨x0,x1,x2,x3,x4,x5,x6,x7,x8,x9,P⟩:=aal (j.ch b (fun h=>h)) i;obtain⟨y0,Q,S,T,U,V,W,Y,a0,a3,R⟩:=aal (l.ch b (fun h=>h)) i;have H:(k:Int)<N:=by omega
   have F:=aau;clear i j l;go_wp2_with fail
   go_quiet (fail)
   go_wp2_with fail
   go_roundw
   case rel=>exact⟨k+1,by omega,by go_num,b.trans ((Ch.refl _ _).drewN _)⟩
   case measure=>simp[intOf];omega
  ·obtain rfl:k=N:=by omega
   go_wp2_with fail
   go_ret;exact⟨rfl,b⟩
structure Two(w1:World)(C:KC)(nw:Int)(mb nb sb:Nat)(sv:Value)(S:List lT)(χ ψ:Nat->a4)(K:KS)(i:Nat)(wr:World):Prop where
 a:oA w1 C nw mb sb sv S χ K i wr
 b:oA w1 C nw nb sb sv S ψ K i wr
 ap:∀j,χ j≠ .no->ψ j=.no
theorem Two.af{w1:World}{C:KC}{nw:Int}{mb a b:Nat}{d:Value}{S:List lT}{χ f:Nat->a4}{K:KS}{i:Nat}{wr e:World}(h:Two w1 C nw mb a b d S χ f K i wr)(c:Ch ag wr e):Two w1 C nw mb a b d S χ f K i e:=⟨h.a.af c,h.b.af c,h.ap⟩
theorem oA.other{w1:World}{C:KC}{nw:Int}{mb c:Nat}{b:Value}{S:List lT}{χ a o:Nat->a4}{K:KS}{i:Nat}{wr w4:World}(h:oA w1 C nw mb c b S χ K i wr)(n:Nx a o wr w4)(d:∀j,a j≠ .no->χ j=.no)(f:∀j,a j≠ .no->w1.heap.size<=j)(m:∀g,b.ownBlock=some g->a g=.no):oA w1 C nw mb c b S χ K i w4:=
 ⟨h.ms.zS n.ch (fun j _ l=>d j l),h.inv,h.out,h.wl,h.zS,jl f n h.ch,ar h.row n.ch (fun g e k=>k (m g e)),fun g e=>⟨Nat.lt_of_lt_of_le (h.EB g e).1 n.ch.size,(h.EB g e).2⟩⟩
theorem aai{χ b c:Nat->a4}{wr w4:World}(n:Nx b c wr w4)(d:∀j,χ j≠ .no->b j=.no)(small:∀j,χ j≠ .no->j<wr.heap.size):∀j,χ j≠ .no->c j=.no:=fun j a=>(n.same j (small j a)).trans (d j a)
theorem aam{χ a:Nat->a4}(b:∀j,χ j≠ .no->a j=.no):∀j,a j≠ .no->χ j=.no:=fun j d=>by
 cases c:χ j with
 |no=>rfl
 |_=>exact absurd (b j (by rw[c];simp)) d
theorem oA.aan{w1:World}{C:KC}{nw:Int}{mb c g n cap:Nat}{S:List lT}{χ:Nat->a4}{K:KS}{i:Nat}{wr:World}(h:oA w1 C nw mb c (.slice (some (g,0)) n cap) S χ K i wr){x:lT}{q:Nat}(b:S[q]?=some x):
 wr.cell? (g,q*3)=some (.int .i64 x.kind)/\wr.cell? (g,q*3+1)=some (.int .i64 x.wk)/\wr.cell? (g,q*3+2)=some (.int .u64 x.draw):=by
 obtain⟨f,d,e,a⟩:=h.yo b;injection e with e _ _
 injection e with e
 injection e with e _ _
 subst e;exact a
theorem Two.aaq{w1:World}{C:KC}{nw:Int}{mb s m:Nat}{n:Value}{S:List lT}{χ a:Nat->a4}{K:KS}{i:Nat}{wr:World}(t:oC C)(h:Two w1 C nw mb s m n S χ a K i wr)(y:i<=1000)(x:lT)(v:aH x.draw){d:World}(c:Ch ag wr d):
 Calls prog 18 #[(mb,0),.agg #[.int .i64 x.kind,.int .i64 x.wk,.int .u64 x.draw]] d (fun e w4=>∃b f,e=.returned b/\w4.ownsRow d.heap.size 62 11 b (gM C K x.kind x.wk x.draw).1.length ((gM C K x.kind x.wk x.draw).1.flatMap Ev.cells)/\(∀g,b.ownBlock=some g->f g=.no/\a g=.no)/\oA w1 C nw mb m n S f (gM C K x.kind x.wk x.draw).2 (i+1) w4/\oA w1 C nw s m n S a K i w4/\∀j,f j≠ .no->a j=.no):=by
 have l:=h.af c;refine(h.a.step t c y x v).mono ?_;rintro e w4 ⟨b,f,rfl,r,u,q,z⟩;have p:∀j,d.heap.size<=j->a j=.no:=fun j o=>by
  cases w:a j with
  |no=>rfl
  |_=>exact absurd (l.b.ms.small j (by rw[w];simp)) (by omega)
 refine⟨b,f,rfl,r,fun g e=>⟨u g e,p g (r.lt g e).1⟩,z,l.b.other q h.ap h.a.zS (fun g e=>(l.a.EB g e).2),fun j o=> ?_⟩;rcases Nat.lt_or_ge j d.heap.size with k|k
 ·exact h.ap j (by rw[<-q.same j k];exact o)
 ·exact p j k
theorem Two.aar{w1:World}{C:KC}{nw:Int}{mb f h:Nat}{k:Value}{S:List lT}{χ l:Nat->a4}{K K':KS}{i:Nat}{wr:World}(p:oC C)(o:oA w1 C nw mb h k S χ K' (i+1) wr)(hb:oA w1 C nw f h k S l K i wr)(n:∀j,χ j≠ .no->l j=.no)(s:i<=1000)(x:lT)(r:aH x.draw)(q:(gM C K x.kind x.wk x.draw).2=K'){b:World}(c:Ch ag wr b):
 Calls prog 18 #[(f,0),.agg #[.int .i64 x.kind,.int .i64 x.wk,.int .u64 x.draw]] b (fun e w4=>∃a m,e=.returned a/\w4.ownsRow b.heap.size 62 11 a (gM C K x.kind x.wk x.draw).1.length ((gM C K x.kind x.wk x.draw).1.flatMap Ev.cells)/\Two w1 C nw mb f h k S χ m K' (i+1) w4/\Ch (fun j=>l j≠ .no) b w4):=by
 subst q;refine(hb.step p c s x r).mono ?_;rintro e w4 ⟨a,m,rfl,t,v,d,u⟩;exact⟨a,m,rfl,t,⟨(o.af c).other d (aam n) hb.zS (fun g e=>(hb.EB g e).2),u,aai d n (o.af c).ms.small⟩,d.ch⟩
theorem aad{B n:Nat}{v:Value}{z:List Value}(w:World)(h:w.ownsRow B 121 7 v n z)(o:0<n):
 Calls prog 14 #[v] w (fun e w'=>e=.returned (.tuple #[])/\Ch (fun i=>v.ownBlock=some i) w w'):=by
 obtain⟨g,N,j,rfl,-,G,l,p,m⟩:=aS h o;have x:=Z p;have t:=Z m;have l:N<=9223372036854775807:=l;clear h p m o;go_enter func14,ntmps14
 go_wp2_with fail
 go_loopw [2] (fun s r=>∃k:Nat,k<=N/\s=.int .i64 k/\Ch (aK g) w r/\∃d,Row r g 121 d/\d.length=N*7) (fun s _=>N-(intOf s).toNat)
 case atStart=>exact⟨0,by omega,rfl,Ch.refl _ _,_,x,t⟩
 case round=>
  obtain⟨k,C,rfl,hb,d,c,q⟩:=hrel;have a:=Z (And.intro hb (And.intro c q));clear hb c q;by_cases E:k<N
  ·have f:∀j,j<7->∃u,wr.cell? ⟨g,k*7+j,none⟩=some u:=fun j A=>by
    have c:=a.2.1;exact⟨_,c.cell (List.getElem?_eq_getElem (by rw[a.2.2];omega))⟩
   obtain⟨u0,y0⟩:∃u,wr.cell? (g,k*7)=some u:=f 0 (by omega);obtain⟨u1,H⟩:=f 1 (by omega);obtain⟨u2,I⟩:=f 2 (by omega);obtain⟨u3,J⟩:=f 3 (by omega);obtain⟨u4,K⟩:=f 4 (by omega);obtain⟨u5,L⟩:=f 5 (by omega);obtain⟨u6,M⟩:=f 6 (by omega);have b:∀j,wr.frozen? ⟨g,j,none⟩=false:=a.2.1.free;have f0:=b (k*7);have f1:=b (k*7+1);have f2:=b (k*7+2);have f3:=b (k*7+3);have f4:=b (k*7+4);have f5:=b (k*7+5);have f6:=b (k*7+6);have D:(k:Int)<N:=by omega
   have F:=a.2.1.lt;clear f b;go_wp2_with fail
   go_roundw
   case rel=>exact⟨k+1,by omega,by go_num,((((((a.1.only _ _).only _ _).only _ _).only _ _).only _ _).only _ _).only _ _,_,((((((a.2.1.set _ _).set _ _).set _ _).set _ _).set _ _).set _ _).set _ _,by simp only[List.length_set];exact a.2.2⟩
   case measure=>simp[intOf];omega
  ·obtain rfl:k=N:=by omega
   go_wp2_with fail
   go_end0
   exact⟨rfl,a.1.mono (fun i (y:i=g)=>by rw[y];rfl)⟩
section
section
variable{w w1 zw3 w4 zW w':World}{cs:Array Value}{zvc zvk zvp:Value}{l p:List aV}{loop:Int}{calls:List br}{lb zpb:Nat}
theorem Ch.aao{D:Nat->Prop}(h:Ch D w.drew w'):Ch D w w':=⟨h.os,h.tape,h.output,h.size,h.same⟩
theorem chN(T:TypeId)(c:Ch ag (w.alloc (.cells cs T)) w'):Row w' w.heap.size T cs.toList:=(Row.new w cs T).ch c (fun h=>h)
theorem aaj(T:TypeId){a:Obj}(c:Ch ag ((w.alloc (.cells cs T)).alloc a) w'):Row w' w.heap.size T cs.toList:=((Row.new w cs T).alloc a).ch c (fun h=>h)
theorem aak(T:TypeId){a:Obj}(c:Ch ag ((w.alloc a).alloc (.cells cs T)) w'):Row w' (w.heap.size+1) T cs.toList:=by
 have r:=(Row.new (w.alloc a) cs T).ch c (fun h=>h)
 rwa [World.size_alloc]at r
theorem aab{B a:Nat}{e:TypeId}{z n:Nat}{v:Value}{b:List Value}(h:w.ownsRow B e z v n b)(f:a<=B):w.ownsRow a e z v n b:=by
 refine⟨h.1,?_⟩;rcases h.2 with c|⟨g,cap,cur,i,hb,d⟩
 ·exact Or.inl c
 ·exact Or.inr ⟨g,cap,cur,i,Nat.le_trans f hb,d⟩
theorem aas(c:Ch ag w1 zW)(b:zw3.ownsRow zW.heap.size 121 7 zvc l.length (l.flatMap dg))(d:zw3.ownsRow zW.heap.size 49 6 zvk calls.length (calls.flatMap br.cells))(a:Ch ag zW zw3):
 zw3.ownsRow w1.heap.size 121 7 zvc l.length (l.flatMap dg)/\zw3.ownsRow w1.heap.size 49 6 zvk calls.length (calls.flatMap br.cells)/\Ch ag w1 zw3:=⟨aab b c.size,aab d c.size,c.trans a⟩
theorem aap{a b c d:Nat}(h:d<a)(e:a<=b)(f:b<=c):a≠d/\d≠a/\a+1≠d/\d≠a+1/\b≠d/\d≠b/\b+1≠d/\d≠b+1/\c≠d/\d≠c/\c+1≠d/\d≠c+1/\d<c:=by omega
structure aaa(l:List aV)(calls:List br)(p:List aV)(w1:World)(zvc zvk zvp:Value)(w:World):Prop where
 c:w.ownsRow w1.heap.size 121 7 zvc l.length (l.flatMap dg)
 k:w.ownsRow w1.heap.size 49 6 zvk calls.length (calls.flatMap br.cells)
 p:w.ownsRow w1.heap.size 121 7 zvp p.length (p.flatMap dg)
 ne:∀g,zvc.ownBlock=some g->zvp.ownBlock≠some g
 ch:Ch ag w1 w
theorem aat(h:zw3.ownsRow w1.heap.size 121 7 zvc l.length (l.flatMap dg)/\zw3.ownsRow w1.heap.size 49 6 zvk calls.length (calls.flatMap br.cells)/\Ch ag w1 zw3)(c:Ch ag zw3 zW)(b:w4.ownsRow zW.heap.size 121 7 zvp p.length (p.flatMap dg))(a:Ch ag zW w4):aaa l calls p w1 zvc zvk zvp w4:=
 ⟨ar h.1 (c.trans a) (fun _ _ e=>e),ar h.2.1 (c.trans a) (fun _ _ e=>e),aab b (h.2.2.trans c).size,fun g e d=>by have:=(h.1.lt g e).2;have:=(b.lt g d).1;have:=c.size;omega,h.2.2.trans (c.trans a)⟩
structure aac(l:List aV)(loop:Int)(calls:List br)(p:List aV)(w1:World)(lb zpb:Nat)(zvc zvk zvp:Value)(w:World):Prop where
 ca:Row w lb 33 [zvc,loop,zvk]
 prg:Row w zpb 36 [zvp,.int .i64 0,.int .i64 3,.int .i64 1]
 h:aaa l calls p w1 zvc zvk zvp w
 lb0:w1.heap.size<=lb
 pb0:w1.heap.size<=zpb
theorem aaa.step{D:Nat->Prop}(h:aaa l calls p w1 zvc zvk zvp w)(c:Ch D w w')(a:∀i,i<w1.heap.size->¬D i)(d1:∀g,zvc.ownBlock=some g->¬D g)(d2:∀g,zvk.ownBlock=some g->¬D g)(d3:∀g,zvp.ownBlock=some g->¬D g):aaa l calls p w1 zvc zvk zvp w':=
 ⟨ar h.c c d1,ar h.k c d2,ar h.p c d3,h.ne,h.ch.fresh c a⟩
end
section
variable{w w1:World}{zvc zvk zvp a0 a1 a2 zb0 zb1 zb2 zb3:Value}{l p:List aV}{loop:Int}{calls:List br}{lb zpb:Nat}
theorem aaa.alloc(h:aaa l calls p w1 zvc zvk zvp w)(a:Obj):aaa l calls p w1 zvc zvk zvp (w.alloc a):=h.step (D:=ag) ((Ch.refl _ _).alloc a) (fun _ _ e=>e) (fun _ _ e=>e) (fun _ _ e=>e) (fun _ _ e=>e)
theorem aaa.ca(h:aaa l calls p w1 zvc zvk zvp w)(r:Row w lb 33 [a0,a1,a2])(hb:w1.heap.size<=lb){w':World}(c:Ch (aK lb) w w'):aaa l calls p w1 zvc zvk zvp w':=
 h.step c (fun i a e=>by have e:i=lb:=e;omega) (fun g e k=>aY h.c r (by decide) (e.trans (congrArg some k))) (fun g e k=>aY h.k r (by decide) (e.trans (congrArg some k))) (fun g e k=>aY h.p r (by decide) (e.trans (congrArg some k)))
theorem aaa.prg(h:aaa l calls p w1 zvc zvk zvp w)(r:Row w zpb 36 [zb0,zb1,zb2,zb3])(hb:w1.heap.size<=zpb){w':World}(c:Ch (aK zpb) w w'):aaa l calls p w1 zvc zvk zvp w':=
 h.step c (fun i a e=>by have e:i=zpb:=e;omega) (fun g e k=>aY h.c r (by decide) (e.trans (congrArg some k))) (fun g e k=>aY h.k r (by decide) (e.trans (congrArg some k))) (fun g e k=>aY h.p r (by decide) (e.trans (congrArg some k)))
theorem aav(h:aaa l calls p w1 zvc zvk zvp w)(r:Row w lb 33 [a0,a1,a2])(q:Row w zpb 36 [zb0,zb1,zb2,zb3])(a:w1.heap.size<=lb)(b:w1.heap.size<=zpb):
 aac l loop calls p w1 lb zpb zvc zvk zvp (((((((w.setCell (lb,0) zvc).setCell (lb,1) (.int .i64 loop)).setCell (lb,2) zvk).setCell (zpb,0) zvp).setCell (zpb,1) (.int .i64 0)).setCell (zpb,2) (.int .i64 3)).setCell (zpb,3) (.int .i64 1)):=by
 have n:=r.ne q (by decide);have r':=((r.set 0 zvc).set 1 (.int .i64 loop)).set 2 zvk;have c:=((q.other (p:=⟨lb,0,none⟩) n.symm zvc).other (p:=⟨lb,1,none⟩) n.symm (.int .i64 loop)).other (p:=⟨lb,2,none⟩) n.symm zvk;exact⟨(((r'.other n _).other n _).other n _).other n _,(((c.set 0 _).set 1 _).set 2 _).set 3 _,(h.ca r a ((((Ch.refl _ _).only _ _).only _ _).only _ _)).prg c b (((((Ch.refl _ _).only _ _).only _ _).only _ _).only _ _),a,b⟩
theorem aaw(h:aaa l calls p w1 zvc zvk zvp w)(q:Row w zpb 36 [zb0,zb1,zb2,zb3])(a:w1.heap.size<=zpb):
 aac l loop calls p w1 w.heap.size zpb zvc zvk zvp (((((w.setCell (zpb,0) zvp).setCell (zpb,1) (.int .i64 0)).setCell (zpb,2) (.int .i64 3)).setCell (zpb,3) (.int .i64 1)).alloc (.cells #[zvc,loop,zvk] 33)):=
 ⟨fB _ (by simp) rfl,((((q.set 0 _).set 1 _).set 2 _).set 3 _).alloc _,(h.prg q a (((((Ch.refl _ _).only _ _).only _ _).only _ _).only _ _)).alloc _,h.ch.size,a⟩
theorem aax(h:aaa l calls p w1 zvc zvk zvp w)(r:Row w lb 33 [a0,a1,a2])(a:w1.heap.size<=lb):
 aac l loop calls p w1 lb w.heap.size zvc zvk zvp ((((w.setCell (lb,0) zvc).setCell (lb,1) (.int .i64 loop)).setCell (lb,2) zvk).alloc (.cells #[zvp,.int .i64 0,.int .i64 3,.int .i64 1] 36)):=
 ⟨(((r.set 0 _).set 1 _).set 2 _).alloc _,fB _ (by simp) rfl,(h.ca r a ((((Ch.refl _ _).only _ _).only _ _).only _ _)).alloc _,a,h.ch.size⟩
theorem aay(h:aaa l calls p w1 zvc zvk zvp w):aac l loop calls p w1 w.heap.size (w.heap.size+1) zvc zvk zvp ((w.alloc (.cells #[zvc,loop,zvk] 33)).alloc (.cells #[zvp,.int .i64 0,.int .i64 3,.int .i64 1] 36)):=
 ⟨(fB _ rfl rfl).alloc _,fB _ (by simp) rfl,(h.alloc _).alloc _,h.ch.size,by have:=h.ch.size;omega⟩
theorem aaz(h:aaa l calls p w1 zvc zvk zvp w):aac l loop calls p w1 (w.heap.size+1) w.heap.size zvc zvk zvp ((w.alloc (.cells #[zvp,.int .i64 0,.int .i64 3,.int .i64 1] 36)).alloc (.cells #[zvc,loop,zvk] 33)):=
 ⟨fB _ (by simp) rfl,(fB _ rfl rfl).alloc _,(h.alloc _).alloc _,by have:=h.ch.size;omega,h.ch.size⟩
end
theorem aag(P:fc)(hi:iy P)(p:Value)(wk F:Int)(l:List Int)(v:Value)(w:World)(es:fF w w.heap.size p P)(ms:iA w w.heap.size v 1 (fun x=>[.int .u64 x]) l)(ec:∀x∈l,aH x)
 (c8:w.cell? (0,0)=some (.iface 335 (.agg #[(1,40)]))):
 Calls prog 3 #[.agg #[wk,F],p,v] w (zz w):=by
 obtain⟨eA,loop,calls,bv,hl⟩:=sD;have mn:=BL bv hl P hi p wk F w es c8;have c2:=Z hl;have gr:Hid (∀w1,Ch ag w w1->Calls prog 10 #[p,.int .i64 16] w1 (vu (bR P) w1)):=Z (fun w1 c=>z' P hi p w1 ((es.below c.gU).mono c.size));have go:=Z (fun(cd ce cf:Value) (B1 B2 B3:Nat) (d:World) l0 l1 lc c8=>z8 bv P wk F cd ce cf (B1:=B1) (B2:=B2) (B3:=B3) d l0 l1 lc c8);have ip:=Z c8;have J:=Z (And.intro (hU bv.ok).1 (And.intro bv.c0 (And.intro bv.c1 (z7 P))));obtain⟨a0,cA,a1,cC,a2,cL,a3,cQ,rfl⟩:=uq es;obtain⟨ck,ll⟩:=nm P.cV;obtain⟨cl,lm⟩:=nm P.first.length;obtain⟨cm,lo⟩:=nm P.others.length;obtain⟨cq,ls⟩:=nm P.once.length;obtain⟨eS,n2⟩:=nm P.kV;obtain⟨i4,n8⟩:=nm (bR P);obtain⟨C,le⟩:=nm (oz eA loop calls P);obtain⟨ok,n1⟩:=nm (iz P wk F);obtain⟨nw,mS⟩:=nm ((ct wk F).1);obtain⟨tt,nx⟩:=nm ((ct wk F).2);have A:=Z mn;rw[ll,lm,lo,ls,n2]at A gr⊢;rw[le,n1,mS,nx]at A go;rw[n8]at gr go J;have k0:=Z ms;have qb:=Z ec;obtain⟨rd,re,rfl,-,-⟩:=ms;obtain⟨X,dN⟩:=nm w.heap.size;have st:=Z dN;clear es c8 ec mn ll lm lo ls n2 hi bv hl n8 le n1 mS nx;obtain⟨N,li⟩:=nm l.length;rw[li]at k0⊢;clear li;go_enter func3,ntmps3
 go_wp2_with fail
 obtain⟨w1,c9⟩:=nm ((w.alloc (.cells #[wk,F] 23)).alloc (.cells #[.slice a0 ck cA,.slice a1 cl cC,.slice a2 cm cL,.slice a3 cq cQ,.bool eS] 28));have am:Hid (Ch ag w w1):=Z (by rw[<-c9];exact((Ch.refl _ _).alloc _).alloc _);have ih:Hid (Row w1 X 23 [wk,F]):=Z (by rw[<-c9,<-dN];exact(Row.new w _ _).alloc _);have gs:Hid (Row w1 (X+1) 28 [.slice a0 ck cA,.slice a1 cl cC,.slice a2 cm cL,.slice a3 cq cQ,.bool eS]):=Z (by
  rw[<-c9,<-dN];have r:=Row.new (w.alloc (.cells #[wk,F] 23)) #[.slice a0 ck cA,.slice a1 cl cC,.slice a2 cm cL,.slice a3 cq cQ,.bool eS] 28;rw[World.size_alloc]at r;exact r)
 rw[c9];clear c9 dN;obtain⟨c5,md⟩:=nm (X+1);rw[md]at gs⊢;clear md;have c3:Hid (∀d,Ch ag w1 d->d.cell? (c5,0)=some (.slice a0 ck cA)/\d.cell? (c5,1)=some (.slice a1 cl cC)/\d.cell? (c5,2)=some (.slice a2 cm cL)/\d.cell? (c5,3)=some (.slice a3 cq cQ)/\d.cell? (c5,4)=some (.bool eS)):=Z (fun d c=>by
  have q:=gs.ch c (fun h=>h);exact⟨q.cell rfl,q.cell rfl,q.cell rfl,q.cell rfl,q.cell rfl⟩)
 obtain⟨t2,t3,t4,t5,t6⟩:=c3 _ (Ch.refl _ _);go_cut [7,8] (fun a b wc=>∃lb G cd ce cf,a=.pointer (some ⟨lb,0,none⟩)/\b=.pointer (some ⟨G,0,none⟩)/\aac eA loop calls i4 w1 lb G cd ce cf wc)
 case first=>
  go_region_held3 (c3.out _ (Ch.refl _ _)) (go_keep) (first|(go_at_call 9;refine(c2.out _).mono ?_;rintro e s6 ⟨Do,rfl,⟨cd,ce,rfl,hF,i0⟩,hw⟩;obtain⟨ac,tb,rfl⟩:=aA hF;obtain⟨sz,tg,rfl⟩:=aA i0;have c1:=Z (aas (w1:=w1) chi hF i0 hw);have m:=hw;(repeat(with_reducible replace m:=Ch.aao m));(first|(have z:=Z (aaj 33 m))|(have z:=Z (aak 33 m))|(have z:=Z (chN 33 m))|skip);(first|(have y:=Z (aaj 36 m))|(have y:=Z (aak 36 m))|(have y:=Z (chN 36 m))|skip);obtain⟨t2,t3,t4,t5,t6⟩:=c3.out _ c1.out.2.2;clear hw hF i0 m)|(go_at_call 10;refine(gr.out _ (am.out.trans (c1.out.2.2.trans chi))).mono ?_;rintro e w4 ⟨cf,rfl,i1,dr⟩;obtain⟨sC,th,rfl⟩:=aA i1;have V:=Z (aat c1.out chi i1 dr);have m:=dr;have ci:Ch ag s6 w4:=Ch.trans chi dr;(first|(have z:=Z (z.out.ch ci (fun h=>h)))|(have z:=Z (aaj 33 m))|(have z:=Z (aak 33 m))|(have z:=Z (chN 33 m))|skip);(first|(have y:=Z (y.out.ch ci (fun h=>h)))|(have y:=Z (aaj 36 m))|(have y:=Z (aak 36 m))|(have y:=Z (chN 36 m))|skip);(try obtain⟨ad,ex,cb⟩:=z.out.c3);(try obtain⟨al,p1,p2,p3⟩:=y.out.c4);(try(have v4:=z.out.free 0;have v6:=z.out.free 1;have w0:=z.out.free 2));(try(have w2:=y.out.free 0;have wb:=y.out.free 1;have wd:=y.out.free 2;have wh:=y.out.free 3));(try(have on:=z.out.ne y.out (by decide);have r':=Ne.symm on));(try(have eC:=World.new_ne w4 _ ad;have x7:=Ne.symm eC;have x9:=z.out.lt));(try(have eL:=World.new_ne w4 _ al;have x8:=Ne.symm eL;have xs:=y.out.lt));obtain⟨t2,t3,t4,t5,t6⟩:=c3.out _ V.out.ch;obtain⟨L,bi,cS,un,up,us,ut,v0,v1,tl,tm,tr,ty⟩:=aap gs.out.lt c1.out.2.2.size ci.size;clear dr i1 m ci))
  all_goals
   go_wp2_with fail
   go_meet
   have yk:=c1.2.2.size;have At:=V.ch.size;with_reducible exact⟨_,_,_,_,_,rfl,rfl,by first|exact aay V.out|exact aaz V.out|exact aav V.out z.out y.out (by omega) (by omega)|exact aaw V.out y.out (by omega)|exact aax V.out z.out (by omega)⟩
 case rest=>
  obtain⟨R,rfl⟩:∃x,x=wc:=⟨_,rfl⟩;obtain⟨lb,G,cd,ce,cf,rfl,rfl,B⟩:=hcut;have o:=Z B;obtain⟨kw,ob,x2,rfl,-,-,-,-,-⟩:=aS B.h.c J.1;obtain⟨kT,og,x4,rfl,-,-,-,-,-⟩:=aS B.h.p J.2.2.2;obtain⟨gk,i3,x3,rfl,-,mp,-,-,-⟩:=aS B.h.k J.2.1;have fr:=Z (am.trans B.h.ch);have qr:=Z (fun d (c:Ch ag R d)=>(go _ _ _ _ _ _ d (ar o.h.c c (fun _ _ e=>e)) (ar o.h.k c (fun _ _ e=>e)) (ar o.h.p c (fun _ _ e=>e)) (((fr.trans c).cell (aE ip) (fun e=>e)).trans ip)).mono fun _ _ h=>h.back c);have he:Hid (∀d,Ch ag R d->d.cell? (X,0)=some (.int .i64 wk)/\d.cell? (X,1)=some (.int .i64 F)/\d.cell? ⟨lb,0,none⟩=some (.slice (some (kw,0)) eA.length ob)/\d.cell? ⟨lb,1,none⟩=some (.int .i64 loop)/\d.cell? ⟨lb,2,none⟩=some (.slice (some (gk,0)) calls.length i3)/\d.cell? ⟨G,0,none⟩=some (.slice (some (kT,0)) i4.length og)/\d.cell? ⟨G,1,none⟩=some (.int .i64 0)/\d.cell? ⟨G,2,none⟩=some (.int .i64 3)/\d.cell? ⟨G,3,none⟩=some (.int .i64 1)):=Z (fun d c=>by
   have r:=ih.ch (o.h.ch.trans c) (fun h=>h);have q:=o.ca.ch c (fun h=>h);have s:=o.prg.ch c (fun h=>h);exact⟨r.cell rfl,r.cell rfl,q.cell rfl,q.cell rfl,q.cell rfl,s.cell rfl,s.cell rfl,s.cell rfl,s.cell rfl⟩)
  have qm:=Z mp;clear B mp t2 t3 t4 t5 t6;obtain⟨t0,t1,ad,ex,cb,al,p1,p2,p3⟩:=he _ (Ch.refl _ _);go_upto_region 2 with fail
  go_cut [9,10] (fun a b Q=>∃pv,a=.pointer pv/\Ch ag R Q/\((ok=false/\pv=none/\∃t x,b=.iface t x)∨(ok=true/\∃mb χ,pv=some ⟨mb,0,none⟩/\b=.nilIface/\MS Q χ mb C (hC C nw.toNat tt.toNat)/\∀i,χ i≠ .no->R.heap.size<=i)))
  case first=>
   go_region_held3 (fun w'=>w'.cell? (X,0)=some (.int .i64 wk)/\w'.cell? (X,1)=some (.int .i64 F)/\w'.cell? ⟨lb,0,none⟩=some (.slice (some (kw,0)) eA.length ob)/\w'.cell? ⟨lb,1,none⟩=some (.int .i64 loop)/\w'.cell? ⟨lb,2,none⟩=some (.slice (some (gk,0)) calls.length i3)/\w'.cell? ⟨G,0,none⟩=some (.slice (some (kT,0)) i4.length og)/\w'.cell? ⟨G,1,none⟩=some (.int .i64 0)/\w'.cell? ⟨G,2,none⟩=some (.int .i64 3)/\w'.cell? ⟨G,3,none⟩=some (.int .i64 1)) (go_keep) (first|(go_at_call 12;refine(A.cf _).mono ?_;rintro e i5 ⟨rfl,c6⟩;have i7:Hid (Ch ag R i5):=Z (Ch.trans chi c6);obtain⟨t0,t1,ad,ex,cb,al,p1,p2,p3⟩:=he _ i7;clear c6)|(go_at_call 11;refine(qr _ (i7.trans chi)).mono ?_;rintro e Q ⟨pv,v2,rfl,bw,et⟩;have pl:=Z bw;have r6:=Z et;obtain⟨t0,t1,ad,ex,cb,al,p1,p2,p3⟩:=he _ bw;clear bw et))
   all_goals
    go_wp2_with fail
    go_meet
    exact⟨_,rfl,pl,r6⟩
  case rest=>
   obtain⟨Q,rfl⟩:∃x,x=wc:=⟨_,rfl⟩;obtain⟨pv,rfl,bw,et⟩:=hcut;have I:=Z bw;clear bw t0 t1 ad ex cb al p1 p2 p3;rcases et with⟨en,rfl,AC,EQ,rfl⟩|⟨en,mb,χ,rfl,rfl,mC,c7⟩
   ·clear en
    go_wp2_with fail
    with_reducible refine(A.out.Fp _ (fr.out.trans I.out)).mono ?_
    rintro e eW ⟨rfl,E⟩;have pi:=Z ((fr.trans I).trans E);clear E;go_wp2_with fail
    go_ret;exact⟨rfl,pi⟩
   ·subst en
    have ge:=Z (And.intro mC c7);clear mC c7;have gc:=Z (o.ca.ch I (fun h=>h));have k2:=Z (o.prg.ch I (fun h=>h));have W:=Z (And.intro (ar o.h.c I (fun _ _ e=>e)) (And.intro (ar o.h.k I (fun _ _ e=>e)) (ar o.h.p I (fun _ _ e=>e))));have gt:=Z (aad Q W.1 J.1);have ad:=gc.c1;go_wp2_with fail
    with_reducible refine gt.out.mono ?_
    rintro e eW ⟨rfl,E⟩;have pm:Hid (Ch (fun i=>w1.heap.size<=i/\i<R.heap.size) Q eW):=Z (E.mono o.h.c.lt);have it:=Z (gc.ch E (aY W.1 gc (by decide)));have r5:=Z (k2.ch E (aY W.1 k2 (by decide)));have c4:=Z (And.intro (ar W.2.1 E (fun g e=>pO W.2.1 W.1 (by decide) e)) (ar W.2.2 E (fun g e bi=>o.h.ne g bi e)));have gt:=Z (aad eW c4.2 J.2.2.2);have al:=r5.c1;clear E ad;go_wp2_with fail
    with_reducible refine gt.out.mono ?_
    rintro e p8 ⟨rfl,dC⟩;have pp:Hid (Ch (fun i=>w1.heap.size<=i/\i<R.heap.size) Q p8):=Z (pm.trans (dC.mono o.h.p.lt));have jp:=Z (it.ch dC (aY c4.2 it (by decide)));obtain⟨wl,x6,x5,ro,-,-,-,ni,mA⟩:=aS (ar c4.1 dC (fun g e=>pO c4.1 c4.2 (by decide) e)) J.2.1;injection ro with L bi cS
    injection L with L
    injection L with L _ _
    subst L cS;have fz:=Z (And.intro ni mA);clear dC al ni mA bi;go_upto_block 0 with fail
    go_cut [] (fun s7=>Ch (fun i=>w1.heap.size<=i/\i<R.heap.size) Q s7)
    case first=>
     go_wp2_with fail
     go_loopw [11] (fun s ch=>∃k:Nat,k<=calls.length/\s=.int .i64 k/\Ch (aK gk) p8 ch/\∃i6,Row ch gk 49 i6/\i6.length=i3*6) (fun s _=>calls.length-(intOf s).toNat)
     case atStart=>exact⟨0,by omega,rfl,Ch.refl _ _,_,fz.1,fz.2⟩
     case round=>
      obtain⟨k,en,rfl,hb,i6,ab,nC⟩:=hrel;have H:=Z (And.intro hb (And.intro ab nC));have cb:=(jp.ch hb (fun e=>jp.ne fz.1 (by decide) e)).cell (i:=2) rfl;clear hb ab nC;have wv:=J.2.2.1;by_cases x0:k<calls.length
      ·have f:∀j,j<6->∃u,wr.cell? ⟨gk,k*6+j,none⟩=some u:=fun j O=>by
        have ab:=H.2.1;exact⟨_,ab.cell (List.getElem?_eq_getElem (by rw[H.2.2];have:=qm.out;omega))⟩
       obtain⟨u0,y0⟩:∃u,wr.cell? ⟨gk,k*6,none⟩=some u:=f 0 (by omega);obtain⟨u1,fb⟩:=f 1 (by omega);obtain⟨u2,fd⟩:=f 2 (by omega);obtain⟨u3,F0⟩:=f 3 (by omega);obtain⟨u4,F1⟩:=f 4 (by omega);obtain⟨u5,F2⟩:=f 5 (by omega);have Y:∀j,wr.frozen? ⟨gk,j,none⟩=false:=H.2.1.free;have f0:=Y (k*6);have f1:=Y (k*6+1);have f2:=Y (k*6+2);have f3:=Y (k*6+3);have f4:=Y (k*6+4);have f5:=Y (k*6+5);have ww:(k:Int)<calls.length:=by omega
       have rx:=H.2.1.lt;clear f Y;go_wp2_with fail
       go_roundw
       case rel=>exact⟨k+1,by omega,by go_num,(((((H.1.only _ _).only _ _).only _ _).only _ _).only _ _).only _ _,_,(((((H.2.1.set _ _).set _ _).set _ _).set _ _).set _ _).set _ _,by simp only[List.length_set];exact H.2.2⟩
       case measure=>simp[intOf];omega
      ·obtain rfl:k=calls.length:=by omega
       go_wp2_with fail
       go_meet
       exact pp.trans (H.1.mono (fun i (hB:i=gk)=>hB▸o.h.k.lt gk rfl))
    case rest=>
     obtain⟨ch,rfl⟩:∃x,x=wc:=⟨_,rfl⟩;have U:=Z ((o.h.ch.trans I).fresh hcut (fun i hB ec=>by omega));have gf:=Z (ge.1.zS hcut (fun i _ ec=>by
      cases B:χ i with
      |no=>rfl
      |_=>have:=ge.2 i (by rw[B];simp);omega))
     have i9:=Z (A.ck rfl).1;obtain⟨t2,t3,t4,t5,t6⟩:=c3 _ U;have ii:=Z (ih.ch U (fun h=>h));obtain⟨t0,t1⟩:=ii.c2;clear hcut;go_wp2_with fail
     with_reducible refine(A.out.made _ (am.out.trans U.out)).mono ?_
     rintro e s5 (⟨h,-⟩|⟨-,os,T,rfl,mL,c7,hu⟩)
     ·cases h
     have ap:=Z (And.intro mL (And.intro c7 hu));have pu:=Z (ii.ch hu (fun h=>h));clear mL c7 hu t0 t1 t2 t3 t4 t5 t6;obtain⟨t0,t1⟩:=pu.c2;go_wp2_with fail
     with_reducible refine(A.out.cf _).mono ?_
     rintro e c0 ⟨rfl,cW⟩;have fn:=Z (ap.2.2.trans cW);have rc:=Z cW.size;have pa:=Z cW;clear cW t0 t1;have rt:∀d:World,(Instr.field 43 (.agg #[nw,tt]) 0).run prog d=.ok (.int .i64 nw) d:=fun d=>by kernel_rfl
     go_wp2_with fail
     clear rt;have rb:Hid (Calls prog 16 #[nw,.slice rd N re,.int .i64 300] c0 (Ag nw 300 c0)):=Z (uu nw A.EA.1 A.EA.2.1 300 (by omega) l qb _ c0 (k0.ch ((am.trans U).trans fn)));with_reducible refine rb.out.mono ?_
     rintro e ov ⟨⟨S,s2,rfl,M,lt,lv⟩,hv⟩;have k3:Hid (Two w1 C nw mb os c0.heap.size s2 S χ T (hC C nw.toNat tt.toNat) 0 ov):=Z (by
      obtain⟨on,r',eC,eL⟩:=tU C nw.toNat tt.toNat;have x1:=A.EA.1;have hn:=fn.trans hv;have s8:=U.size;have F3:=ap.2.2.size;have s9:=fn.size;have sl:=o.h.ch.size;have m:∀j,ch.heap.size<=j->χ j=.no:=fun j O=>by
       cases B:χ j with
       |no=>rfl
       |_=>have:=gf.small j (by rw[B];simp);omega
      have ab:∀j,(j<ch.heap.size∨c0.heap.size<=j)->T j=.no:=fun j O=>by
       cases B:T j with
       |no=>rfl
       |_=>have l0:=ap.1.small j (by rw[B];simp);have l1:=ap.2.1 j (by rw[B];simp);have lc:=rc.out;omega
      refine⟨⟨(gf.af hn),(A.ck rfl).2,eL,by rw[eC];omega,fun j O=>Nat.le_trans sl (ge.2 j O),U.trans hn,M,fun g e=>⟨(M.lt g e).2,m g (Nat.le_trans s9 (M.lt g e).1)⟩⟩,
       ⟨(ap.1.af (show Ch ag s5 ov from ?_)),(A.ck rfl).2,eL,by rw[eC];omega,fun j O=>Nat.le_trans s8 (ap.2.1 j O),U.trans hn,M,fun g e=>⟨(M.lt g e).2,ab g (Or.inr (M.lt g e).1)⟩⟩,fun j O=>ab j (Or.inl (gf.small j O))⟩
      exact pa.trans hv)
     have k5:=Z (And.intro lt lv);obtain⟨s0,s1,rfl⟩:=aA M;obtain⟨av,hm⟩:∃n,S.length=n:=⟨_,rfl⟩;rw[hm]at k3⊢;have k4:=Z hm;clear M lt lv hv hm;go_upto_block 2 with fail
     go_cut [] (fun wc=>Ch ag w1 wc)
     case first=>
      go_wp2_with fail
      go_loopw [14] (fun j wr=>∃(i:Nat) (K:KS) (χ T:Nat->a4),i<=av/\j=.int .i64 i/\Two w1 C nw mb os c0.heap.size (.slice s0 av s1) S χ T K i wr) (fun j _=>av-(intOf j).toNat)
      case atStart=>exact⟨0,_,χ,T,by omega,rfl,k3⟩
      case round=>
       obtain⟨i,K,χ,T,hB,rfl,nd⟩:=hrel;have c2:=Z nd;clear nd;by_cases rx:i<av
       ·have mk:i<S.length:=by have:=k4.out;omega
        have wn:i<=300:=by have:=k5.1;have:=k4.out;omega
        obtain⟨x,m⟩:∃x,S[i]?=some x:=⟨_,List.getElem?_eq_getElem mk⟩;have hf:=Z m;have kf:=Z (k5.2 x (List.mem_of_getElem? m));obtain⟨g,cap,rg,y0,fb,fd⟩:=c2.a.yo m;injection rg with L bi cS
        subst L;have ws:(i:Int)<av:=by omega
        have qc:=Z (fun d (c:Ch ag wr d)=>Two.aaq i9 c2 (by omega) x kf.1 c);clear mk m bi cS;go_upto_region 18 with fail
        go_region_held3 (fun w'=>w'.cell? ⟨g,i*3,none⟩=some (.int .i64 x.kind)/\w'.cell? ⟨g,i*3+1,none⟩=some (.int .i64 x.wk)/\w'.cell? ⟨g,i*3+2,none⟩=some (.int .u64 x.draw)) (go_keep) (first|(go_at_call 18;refine(io _ chi).mono ?_;rintro e i5 ⟨s4,F5,rfl,n0,nq,c6⟩;have kb:=Z nq;have ql:Hid (∀d,Ch ag i5 d->Calls prog 17 #[s3,s4] d (dt (.bool true) d)):=Z (fun d c=>aah _ d (ar (ar k1.1 (Ch.trans (D:=fun j=>T j≠ .no) (Ch.af chi) c6) (fun g e k=>k (k1.2 g e).2)) c (fun _ _ e=>e)) (ar n0 c (fun _ _ e=>e)));obtain⟨y0,fb,fd⟩:=kb.a.aan hf;clear io n0 nq c6)|(go_at_call 18;refine(qc _ chi).mono ?_;rintro e w4 ⟨s3,F4,rfl,mW,mc,i2,ne,lw⟩;have k1:=Z (And.intro mW mc);have io:=Z (fun d (c:Ch ag w4 d)=>Two.aar i9 i2 ne lw (by omega) x kf.1 rfl c);obtain⟨y0,fb,fd⟩:=i2.aan hf;clear mW mc i2 ne lw)|(go_at_call 17;refine(ql _ chi).mono ?_;rintro e eW ⟨rfl,E⟩;have kd:=Z (kb.af (Ch.trans chi E));obtain⟨y0,fb,fd⟩:=kd.a.aan hf;clear E))
        all_goals
         go_wp2_with fail
         go_roundw
         case rel=>exact⟨i+1,_,_,_,by omega,by go_num,kd⟩
         case measure=>simp[intOf];omega
       ·obtain rfl:i=av:=by omega
        go_wp2_with fail
        go_meet
        exact c2.a.ch
     case rest=>
      have i8:=Z hcut;clear hcut;go_wp2_with fail
      with_reducible refine(A.out.Fp _ (am.out.trans i8.out)).mono ?_
      rintro e Ev ⟨rfl,l'⟩;have pc:=Z (i8.trans l');clear l';go_wp2_with fail
      go_ret;exact⟨rfl,am.trans pc⟩
end
end Go.Proofs.YtfnilkpkogipfaaGreatDoor
