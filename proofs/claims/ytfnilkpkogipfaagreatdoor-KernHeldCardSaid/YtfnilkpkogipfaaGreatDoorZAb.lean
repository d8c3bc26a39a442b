import Derived.Laws.MakeOwn
import Derived.Deep.DeepCutAuto
import Derived.Test.YtfnilkpkogipfaaGreatDoorZAa
set_option linter.unusedVariables false
set_option linter.unusedSimpArgs false
set_option maxRecDepth 100000
set_option maxHeartbeats 8000000
namespace Go.Proofs.YtfnilkpkogipfaaGreatDoor
open Go.RowKit Go.Proofs.Tryz
def au(l:List Int)(a:Nat)(v:Int):Nat->List Int
 |0=>l
 |k+1=>(au l a v k).set (a+k) v
theorem dj(l:List Int)(a:Nat)(v:Int):∀k,(au l a v k).length=l.length
 |0=>rfl
 |k+1=>by rw[au,List.length_set,dj l a v k]
theorem aO.Ci{w:World}{m c b:Nat}{S:aF}(h:aO w m c b S)(i:Nat)(v:Int)(f:0<=v/\v<=255):aO (w.setCell (b,i) (.int .u8 v)) m c b {S with width:=S.width.set i v}:=
 ⟨h.head.other h.md _,h.cells.other h.cd _,h.width.a' _ _ (by rw[List.map_set]),by simpa using h.len,h.oP,fun j x a=>by
  by_cases e:i=j
  ·subst e
   rw[List.getElem?_set_self']at a;cases d:S.width[i]? with
   |none=>rw[d]at a;simp at a
   |some y=>rw[d]at a;have:v=x:=by simpa using a
            subst this;exact f
  ·rw[List.getElem?_set_ne e]at a;exact h.ok j x a,h.u64⟩
theorem aO.there{w:World}{m c a:Nat}{S:aF}(h:aO w m c a S)(n:Int):aO (w.setCell (m,2) (.int .i64 n)) m c a {S with there:=n}:=
 ⟨h.head.a' _ _ rfl,h.cells.other (fun e=>h.mc e.symm) _,h.width.other (fun e=>h.md e.symm) _,h.len,h.oP,h.ok,h.u64⟩
def aF.laid(S:aF)(a n:Nat)(b:Int):aF:={S with width:=au S.width a b n,cells:=au S.cells a 0 n}
def aF.map(S:aF)(a n:Nat)(b:Int):Bool×aF:=
 if n≠0/\S.iO a n false=true then(true,{S.laid a n b with there:=wrap64 (S.there+n)})else(false,S)
def aF.fX(S:aF)(a n:Nat):Bool×aF:=
 if n≠0/\S.iO a n true=true then(true,{S.laid a n 0 with there:=wrap64 (S.there-n)})else(false,S)
def sS(x:Bool×aF)(m c a:Nat)(w:World)(e:Ending)(w':World):Prop:=pI x.1 e/\aO w' m c a x.2/\Ch (dE m c a) w w'
theorem Ch.EC{a b c:Nat}{v w:World}(h:Ch (dE a b c) v w)(d:Nat)(x:Value):Ch (dE a b c) v (w.setCell (a,d) x):=h.gS (p:=⟨a,d,none⟩) (show a=a∨a=b∨a=c from Or.inl rfl) x
theorem Ch.ED{a b c:Nat}{v w:World}(h:Ch (dE a b c) v w)(d:Nat)(x:Value):Ch (dE a b c) v (w.setCell (b,d) x):=h.gS (p:=⟨b,d,none⟩) (show b=a∨b=b∨b=c from Or.inr (Or.inl rfl)) x
theorem Ch.EE{a b c:Nat}{v w:World}(h:Ch (dE a b c) v w)(d:Nat)(x:Value):Ch (dE a b c) v (w.setCell (c,d) x):=h.gS (p:=⟨c,d,none⟩) (show c=a∨c=b∨c=c from Or.inr (Or.inr rfl)) x
theorem ka(m c f:Nat)(S:aF)(a n:Nat)(L:a<=1000000)(U:n<=1000000)(w:World)(h:aO w m c f S):
 Calls prog 26 #[(m,0),.int .i64 a,.int .i64 n,.int .i64 32] w (sS (S.map a n 32) m c f w):=by
 have H:=Z h;have q:=Z (jM m c f S a n false L U w h);by_cases r:n=0
 ·subst r
  have E:Hid (S.map a 0 32=(false,S)):=Z (by unfold aF.map;rw[if_neg (by simp)]);clear h;go_enter func26,ntmps26
  go_wp2_with (go_at_call 65;refine(dQ _ _ _ _).mono ?_;rintro e w' ⟨rfl,rfl⟩)
  go_ret;rw[E];exact⟨⟨_,rfl,aq.mk _ _⟩,H.alloc _,(Ch.refl _ _).alloc _⟩
 have ap:(1:Int)<=n:=by omega
 cases g:S.iO a n false
 ·have E:Hid (S.map a n 32=(false,S)):=Z (by unfold aF.map;rw[if_neg (by rw[g];simp)])
  rw[g]at q;clear h g r
  all_goals
   go_enter func26,ntmps26
   go_wp2_with (first|(go_at_call 66;refine q.mono ?_;rintro e w1 ⟨⟨v,rfl,A⟩,j⟩;obtain⟨t,x,rfl⟩:=A;have o:=Z j;clear j)|(go_at_call 65;refine(dQ _ _ _ _).mono ?_;rintro e w' ⟨rfl,rfl⟩))
   go_ret;rw[E];exact⟨⟨_,rfl,aq.mk _ _⟩,H.ch o (fun b=>b) (fun b=>b) (fun b=>b),o.af⟩
 ·have P:=(jq g).1
  have E:Hid (S.map a n 32=(true,{S.laid a n 32 with there:=wrap64 (S.there+n)})):=Z (by unfold aF.map;rw[if_pos ⟨r,g⟩]);rw[g]at q;obtain⟨N,y⟩:=mn S.cells.length;have M:=h.oP;rw[<-y]at M P;have p:=Z y;clear h g r y
  all_goals
   go_enter func26,ntmps26
   go_wp2_with fail
   refine q.mono ?_;rintro e w1 ⟨⟨v,rfl,A⟩,j⟩;obtain rfl:v=.nilIface:=A;have J:=Z (H.ch j (fun b=>b) (fun b=>b) (fun b=>b));have o:=Z (j.af (D:=dE m c f));clear j;go_wp2
   go_loopw [10] (fun s wr=>∃k:Nat,s=.int .i64 ((a+k:Nat):Int)/\k<=n/\Hid (aO wr m c f (S.laid a k 32)/\Ch (dE m c f) w wr)) (fun s _=>a+n-(intOf s).toNat)
   case atStart=>exact⟨0,by go_num,Nat.zero_le _,J,o⟩
   case round=>
    obtain⟨k,rfl,a3,l⟩:=hrel;have d:=l.1;have V:wr.cell? (m,0)=some (.slice (some (c,0)) N N):=by have:=d.head.cell (i:=0) rfl;rwa [show(S.laid a k 32).cells.length=N from by unfold aF.laid;rw[dj];exact p.symm]at this
    have W:wr.cell? (m,1)=some (.slice (some (f,0)) N N):=by have:=d.head.cell (i:=1) rfl;rwa [show(S.laid a k 32).cells.length=N from by unfold aF.laid;rw[dj];exact p.symm]at this
    have C:=d.head.k 2 rfl;have f2:=d.head.free 2;have R:=d.mc;have T:=d.md;have O:=d.cd;have F:(S.laid a k 32).there=S.there:=rfl;rw[F]at C;by_cases ad:k<n
    ·obtain⟨i,b⟩:=mn (a+k)
     have G:∃u,wr.cell? (c,i)=some u:=by
      have z:(S.laid a k 32).cells.length=N:=by unfold aF.laid;rw[dj];exact p.symm
      exact⟨_,d.cells.cell (by rw[List.getElem?_map,List.getElem?_eq_getElem (by rw[z];omega)];rfl)⟩
     have I:∃u,wr.cell? (f,i)=some u:=by
      have z:(S.laid a k 32).width.length=N:=by rw[d.len];unfold aF.laid;rw[dj];exact p.symm
      exact⟨_,d.width.cell (by rw[List.getElem?_map,List.getElem?_eq_getElem (by rw[z];omega)];rfl)⟩
     obtain⟨u1,G⟩:=G;obtain⟨u2,I⟩:=I;have X:=d.cells.free i;have Y:=d.width.free i;have a1:(i:Int)<a+n:=by omega
     have a2:(i:Int)<N:=by omega
     have B:=Z b;rw[<-b];have a0:f≠c:=fun e=>O e.symm
     have al:c≠m:=fun e=>R e.symm
     have am:f≠m:=fun e=>T e.symm
     clear b d C f2 F;go_wp2
     go_roundw
     case rel=>
      refine⟨k+1,by rw[show a+(k+1)=i+1 from by have:=B.out;omega];go_num,by omega,?_,?_⟩
      ·have K:=B.out
       subst K;exact(l.1.Ci (a+k) 32 (by omega)).lay (a+k) 0 ⟨by omega,by omega⟩
      ·exact(l.2.EE _ _).ED _ _
     case measure=>simp[intOf];omega
    ·have Q:k=n:=by omega
     subst Q;have ab:¬(((a+k:Nat):Int)<a+k):=by omega
     clear d;go_wp2
     go_ret;rw[E];exact⟨⟨_,rfl,rfl⟩,l.1.there _,l.2.EC _ _⟩
theorem fh(m c f:Nat)(S:aF)(a n:Nat)(L:a<=1000000)(U:n<=1000000)(w:World)(h:aO w m c f S):
 Calls prog 26 #[(m,0),.int .i64 a,.int .i64 n,.int .i64 64] w (sS (S.map a n 64) m c f w):=by
 have H:=Z h;have q:=Z (jM m c f S a n false L U w h);by_cases r:n=0
 ·subst r
  have E:Hid (S.map a 0 64=(false,S)):=Z (by unfold aF.map;rw[if_neg (by simp)]);clear h;go_enter func26,ntmps26
  go_wp2_with (go_at_call 65;refine(dQ _ _ _ _).mono ?_;rintro e w' ⟨rfl,rfl⟩)
  go_ret;rw[E];exact⟨⟨_,rfl,aq.mk _ _⟩,H.alloc _,(Ch.refl _ _).alloc _⟩
 have ap:(1:Int)<=n:=by omega
 cases g:S.iO a n false
 ·have E:Hid (S.map a n 64=(false,S)):=Z (by unfold aF.map;rw[if_neg (by rw[g];simp)])
  rw[g]at q;clear h g r
  all_goals
   go_enter func26,ntmps26
   go_wp2_with (first|(go_at_call 66;refine q.mono ?_;rintro e w1 ⟨⟨v,rfl,A⟩,j⟩;obtain⟨t,x,rfl⟩:=A;have o:=Z j;clear j)|(go_at_call 65;refine(dQ _ _ _ _).mono ?_;rintro e w' ⟨rfl,rfl⟩))
   go_ret;rw[E];exact⟨⟨_,rfl,aq.mk _ _⟩,H.ch o (fun b=>b) (fun b=>b) (fun b=>b),o.af⟩
 ·have P:=(jq g).1
  have E:Hid (S.map a n 64=(true,{S.laid a n 64 with there:=wrap64 (S.there+n)})):=Z (by unfold aF.map;rw[if_pos ⟨r,g⟩]);rw[g]at q;obtain⟨N,y⟩:=mn S.cells.length;have M:=h.oP;rw[<-y]at M P;have p:=Z y;clear h g r y
  all_goals
   go_enter func26,ntmps26
   go_wp2_with fail
   refine q.mono ?_;rintro e w1 ⟨⟨v,rfl,A⟩,j⟩;obtain rfl:v=.nilIface:=A;have J:=Z (H.ch j (fun b=>b) (fun b=>b) (fun b=>b));have o:=Z (j.af (D:=dE m c f));clear j;go_wp2
   go_loopw [10] (fun s wr=>∃k:Nat,s=.int .i64 ((a+k:Nat):Int)/\k<=n/\Hid (aO wr m c f (S.laid a k 64)/\Ch (dE m c f) w wr)) (fun s _=>a+n-(intOf s).toNat)
   case atStart=>exact⟨0,by go_num,Nat.zero_le _,J,o⟩
   case round=>
    obtain⟨k,rfl,a3,l⟩:=hrel;have d:=l.1;have V:wr.cell? (m,0)=some (.slice (some (c,0)) N N):=by have:=d.head.cell (i:=0) rfl;rwa [show(S.laid a k 64).cells.length=N from by unfold aF.laid;rw[dj];exact p.symm]at this
    have W:wr.cell? (m,1)=some (.slice (some (f,0)) N N):=by have:=d.head.cell (i:=1) rfl;rwa [show(S.laid a k 64).cells.length=N from by unfold aF.laid;rw[dj];exact p.symm]at this
    have C:=d.head.k 2 rfl;have f2:=d.head.free 2;have R:=d.mc;have T:=d.md;have O:=d.cd;have F:(S.laid a k 64).there=S.there:=rfl;rw[F]at C;by_cases ad:k<n
    ·obtain⟨i,b⟩:=mn (a+k)
     have G:∃u,wr.cell? (c,i)=some u:=by
      have z:(S.laid a k 64).cells.length=N:=by unfold aF.laid;rw[dj];exact p.symm
      exact⟨_,d.cells.cell (by rw[List.getElem?_map,List.getElem?_eq_getElem (by rw[z];omega)];rfl)⟩
     have I:∃u,wr.cell? (f,i)=some u:=by
      have z:(S.laid a k 64).width.length=N:=by rw[d.len];unfold aF.laid;rw[dj];exact p.symm
      exact⟨_,d.width.cell (by rw[List.getElem?_map,List.getElem?_eq_getElem (by rw[z];omega)];rfl)⟩
     obtain⟨u1,G⟩:=G;obtain⟨u2,I⟩:=I;have X:=d.cells.free i;have Y:=d.width.free i;have a1:(i:Int)<a+n:=by omega
     have a2:(i:Int)<N:=by omega
     have B:=Z b;rw[<-b];have a0:f≠c:=fun e=>O e.symm
     have al:c≠m:=fun e=>R e.symm
     have am:f≠m:=fun e=>T e.symm
     clear b d C f2 F;go_wp2
     go_roundw
     case rel=>
      refine⟨k+1,by rw[show a+(k+1)=i+1 from by have:=B.out;omega];go_num,by omega,?_,?_⟩
      ·have K:=B.out
       subst K;exact(l.1.Ci (a+k) 64 (by omega)).lay (a+k) 0 ⟨by omega,by omega⟩
      ·exact(l.2.EE _ _).ED _ _
     case measure=>simp[intOf];omega
    ·have Q:k=n:=by omega
     subst Q;have ab:¬(((a+k:Nat):Int)<a+k):=by omega
     clear d;go_wp2
     go_ret;rw[E];exact⟨⟨_,rfl,rfl⟩,l.1.there _,l.2.EC _ _⟩
theorem kc(m c f:Nat)(S:aF)(a n:Nat)(L:a<=1000000)(U:n<=1000000)(w:World)(h:aO w m c f S):
 Calls prog 129 #[(m,0),.int .i64 a,.int .i64 n] w (sS (S.fX a n) m c f w):=by
 have H:=Z h;have q:=Z (jM m c f S a n true L U w h);by_cases r:n=0
 ·subst r
  have E:Hid (S.fX a 0=(false,S)):=Z (by unfold aF.fX;rw[if_neg (by simp)]);clear h;go_enter func129,ntmps129
  go_wp2_with (go_at_call 65;refine(dQ _ _ _ _).mono ?_;rintro e w' ⟨rfl,rfl⟩)
  go_ret;rw[E];exact⟨⟨_,rfl,aq.mk _ _⟩,H.alloc _,(Ch.refl _ _).alloc _⟩
 have ap:(1:Int)<=n:=by omega
 cases g:S.iO a n true
 ·have E:Hid (S.fX a n=(false,S)):=Z (by unfold aF.fX;rw[if_neg (by rw[g];simp)])
  rw[g]at q;clear h g r
  all_goals
   go_enter func129,ntmps129
   go_wp2_with (first|(go_at_call 66;refine q.mono ?_;rintro e w1 ⟨⟨v,rfl,A⟩,j⟩;obtain⟨t,x,rfl⟩:=A;have o:=Z j;clear j)|(go_at_call 65;refine(dQ _ _ _ _).mono ?_;rintro e w' ⟨rfl,rfl⟩))
   go_ret;rw[E];exact⟨⟨_,rfl,aq.mk _ _⟩,H.ch o (fun b=>b) (fun b=>b) (fun b=>b),o.af⟩
 ·have P:=(jq g).1
  have E:Hid (S.fX a n=(true,{S.laid a n 0 with there:=wrap64 (S.there-n)})):=Z (by unfold aF.fX;rw[if_pos ⟨r,g⟩]);rw[g]at q;obtain⟨N,y⟩:=mn S.cells.length;have M:=h.oP;rw[<-y]at M P;have p:=Z y;clear h g r y
  all_goals
   go_enter func129,ntmps129
   go_wp2_with fail
   refine q.mono ?_;rintro e w1 ⟨⟨v,rfl,A⟩,j⟩;obtain rfl:v=.nilIface:=A;have J:=Z (H.ch j (fun b=>b) (fun b=>b) (fun b=>b));have o:=Z (j.af (D:=dE m c f));clear j;go_wp2
   go_loopw [8] (fun s wr=>∃k:Nat,s=.int .i64 ((a+k:Nat):Int)/\k<=n/\Hid (aO wr m c f (S.laid a k 0)/\Ch (dE m c f) w wr)) (fun s _=>a+n-(intOf s).toNat)
   case atStart=>exact⟨0,by go_num,Nat.zero_le _,J,o⟩
   case round=>
    obtain⟨k,rfl,a3,l⟩:=hrel;have d:=l.1;have V:wr.cell? (m,0)=some (.slice (some (c,0)) N N):=by have:=d.head.cell (i:=0) rfl;rwa [show(S.laid a k 0).cells.length=N from by unfold aF.laid;rw[dj];exact p.symm]at this
    have W:wr.cell? (m,1)=some (.slice (some (f,0)) N N):=by have:=d.head.cell (i:=1) rfl;rwa [show(S.laid a k 0).cells.length=N from by unfold aF.laid;rw[dj];exact p.symm]at this
    have C:=d.head.k 2 rfl;have f2:=d.head.free 2;have R:=d.mc;have T:=d.md;have O:=d.cd;have F:(S.laid a k 0).there=S.there:=rfl;rw[F]at C;by_cases ad:k<n
    ·obtain⟨i,b⟩:=mn (a+k)
     have G:∃u,wr.cell? (c,i)=some u:=by
      have z:(S.laid a k 0).cells.length=N:=by unfold aF.laid;rw[dj];exact p.symm
      exact⟨_,d.cells.cell (by rw[List.getElem?_map,List.getElem?_eq_getElem (by rw[z];omega)];rfl)⟩
     have I:∃u,wr.cell? (f,i)=some u:=by
      have z:(S.laid a k 0).width.length=N:=by rw[d.len];unfold aF.laid;rw[dj];exact p.symm
      exact⟨_,d.width.cell (by rw[List.getElem?_map,List.getElem?_eq_getElem (by rw[z];omega)];rfl)⟩
     obtain⟨u1,G⟩:=G;obtain⟨u2,I⟩:=I;have X:=d.cells.free i;have Y:=d.width.free i;have a1:(i:Int)<a+n:=by omega
     have a2:(i:Int)<N:=by omega
     have B:=Z b;rw[<-b];have a0:f≠c:=fun e=>O e.symm
     have al:c≠m:=fun e=>R e.symm
     have am:f≠m:=fun e=>T e.symm
     clear b d C f2 F;go_wp2
     go_roundw
     case rel=>
      refine⟨k+1,by rw[show a+(k+1)=i+1 from by have:=B.out;omega];go_num,by omega,?_,?_⟩
      ·have K:=B.out
       subst K;exact(l.1.Ci (a+k) 0 (by omega)).lay (a+k) 0 ⟨by omega,by omega⟩
      ·exact(l.2.EE _ _).ED _ _
     case measure=>simp[intOf];omega
    ·have Q:k=n:=by omega
     subst Q;have ab:¬(((a+k:Nat):Int)<a+k):=by omega
     clear d;go_wp2
     go_ret;rw[E];exact⟨⟨_,rfl,rfl⟩,l.1.there _,l.2.EC _ _⟩
def eV(op:Int):Bool×Bool×Bool×Bool:=
 if op=3∨op=4∨op=5∨op=6∨op=7∨op=8∨op=9∨op=10∨op=11∨op=21∨op=32 then(true,true,true,true)
 else if op=24∨op=25∨op=26∨op=27∨op=48 then(true,true,true,false)
 else if op=2∨op=23∨op=49∨op=50∨op=47∨op=39∨op=54 then(true,true,false,false)
 else if op=17∨op=18∨op=19∨op=20∨op=31∨op=43∨op=45 then(true,true,false,true)
 else if op=1∨op=13∨op=14 then(true,false,false,true)
 else if op=12∨op=15∨op=22 then(false,false,false,true)
 else if op=28∨op=29∨op=30∨op=34∨op=35∨op=36∨op=37∨op=38∨op=40∨op=41∨op=42∨op=44∨op=46∨op=51∨op=52∨op=53∨op=57 then(true,false,false,false)
 else(false,false,false,false)
def Ao(p:Bool×Bool×Bool×Bool)(w:World)(e:Ending)(w':World):Prop:=
 e=.returned (.tuple #[.bool p.1,.bool p.2.1,.bool p.2.2.1,.bool p.2.2.2])/\w=w'
theorem Ao.mk{p:Bool×Bool×Bool×Bool}{a b c d:Bool}{w:World}(h:p=(a,b,c,d)):Ao p w (.returned (.tuple #[.bool a,.bool b,.bool c,.bool d])) w:=by subst h;exact⟨rfl,rfl⟩
theorem dk{a:Func}{t u r s:Tmp}(h:a.results=#[.tmp t,.tmp u,.tmp r,.tmp s])(tmps:Array Value)(P:Program)(w:World):
 (results a tmps).run P w=.ok (.tuple #[tmps.getD t undef,tmps.getD u undef,tmps.getD r undef,tmps.getD s undef]) w:=by
 simp[results,h]
set_option maxRecDepth 100000
theorem m0(op:Int)(w:World):Calls prog 175 #[op] w (Ao (eV op) w):=by
 go_enter func175,ntmps175
 go_wp2
 all_goals
  refine bodyPost_ret (dk rfl _ _ _) rfl (Ao.mk ?_);simp only[beq_iff_eq,beq_eq_false_iff_ne,ne_eq]at*;unfold eV
  repeat first
   |rfl
   |rw[if_pos (by omega)]
   |rw[if_neg (by omega)]
def fi(n:Int)(used less:Bool):Bool:=if used then decide (0<=n/\n<32)||(less&&decide (n=-1))else decide (n=0)
theorem m1(n:Int)(used less:Bool)(w:World):Calls prog 176 #[n,.bool used,.bool less] w (j9 (fi n used less) w):=by
 have e:(0<=n/\n<32)∨(0<=n/\¬n<32)∨(¬0<=n/\n≠-1)∨(¬0<=n/\n=-1):=by omega
 cases used
 ·by_cases d:n=0
  ·subst d
   go_enter func176,ntmps176
   go_wp2
   go_ret;exact j9.mk rfl
  ·have hb:(n==0)=false:=by rw[beq_eq_false_iff_ne];exact d
   have c:Hid (fi n false less=false):=by show _=_;unfold fi;simp[d]
   clear d;go_enter func176,ntmps176
   go_wp2
   go_ret;exact j9.mk c
 ·rcases e with⟨a,b⟩|⟨a,b⟩|⟨a,b⟩|⟨a,b⟩
  ·have c:Hid (fi n true less=true):=by show _=_;unfold fi;simp[a,b]
   go_enter func176,ntmps176
   go_wp2
   go_ret;exact j9.mk c
  ·have c:Hid (fi n true less=false):=by show _=_;unfold fi;simp[b];omega
   have hb:(n==-1)=false:=by rw[beq_eq_false_iff_ne];omega
   cases less
   all_goals
    go_enter func176,ntmps176
    go_wp2
    go_ret;exact j9.mk c
  ·have c:Hid (fi n true less=false):=by show _=_;unfold fi;simp[a,b]
   have hb:(n==-1)=false:=by rw[beq_eq_false_iff_ne];exact b
   clear b;cases less
   all_goals
    go_enter func176,ntmps176
    go_wp2
    go_ret;exact j9.mk c
  ·subst b
   cases less
   all_goals
    go_enter func176,ntmps176
    go_wp2
    go_ret;exact j9.mk rfl
def qU(X:aV)(used:Bool)(n:Int):Bool:=
 if X.op=12∨X.op=13∨X.op=14∨X.op=15 then decide (X.v<n)
 else if X.op=22 then decide (X.v<1000)
 else if X.op=3∨X.op=4∨X.op=5∨X.op=6∨X.op=7∨X.op=8∨X.op=9∨X.op=10∨X.op=11 then decide (X.c=-1)||decide (X.v=0)
 else if X.op=43 then decide (X.b=-1)||decide (X.v=0)
 else used||decide (X.v=0)
def dT(b:Bool)(w:World)(e:Ending)(w':World):Prop:=e=.returned (.bool b)/\Below w.heap.size w w'
theorem dT.mk{b c:Bool}{w w':World}(h:b=c)(hb:Below w.heap.size w w'):dT b w (.returned (.bool c)) w':=⟨by rw[h],hb⟩
theorem xR(X:aV)(used:Bool)(n:Nat)(a:n<=1000000)(w:World):Calls prog 177 #[aI X,.bool used,.int .i64 n] w (dT (qU X used n) w):=by
 unfold aI aC;go_enter func177,ntmps177
 go_wp2
 all_goals
  go_ret;refine dT.mk ?_ ((Below.refl _ _).alloc (Nat.le_refl _) _);simp only[beq_iff_eq,beq_eq_false_iff_ne,ne_eq]at*;unfold qU
  repeat first
   |rfl
   |rw[if_pos (by omega)]
   |rw[if_neg (by omega)]
  try first
   |(simp[*];done)
   |(cases used
     ·rfl
     ·simp at*)
def m2(op:Int):Bool:=decide (op=17∨op=18∨op=19∨op=20∨op=21∨op=31∨op=32∨op=43)
def lY(op:Int):Bool:=decide (op=3∨op=4∨op=5∨op=6∨op=7∨op=8∨op=9∨op=10∨op=11)
def lZ(X:aV)(a:Bool):Bool:=decide (1<=X.op/\X.op<=58)&&(if a then decide (X.op≠22)else decide (X.op<=22/\X.m=0))
def jN(X:aV)(n:Int):Bool:=fi X.a (eV X.op).1 false&&fi X.b (eV X.op).2.1 (m2 X.op)&&fi X.c (eV X.op).2.2.1 (lY X.op)&&qU X (eV X.op).2.2.2 n
def gu(X:aV):Bool:=decide (0<=X.m/\X.m<=99/\0<=X.wh/\X.wh<=2)&&(decide (X.wh=0)||(decide (0<X.m)&&(eV X.op).1))
def ep(X:aV)(n:Int)(a:Bool):Bool:=lZ X a&&jN X n&&gu X
theorem Ap(X:aV)(n:Nat)(d:Bool)(w:World)(h:lZ X d=false):Calls prog 148 #[aI X,.int .i64 n,.bool d] w (dT (ep X n d) w):=by
 have f:Hid (ep X n d=false):=by show _=_;unfold ep;rw[h];rfl
 unfold aI aC;unfold lZ at h;have l:X.op<1∨(¬X.op<1/\58<X.op)∨(¬X.op<1/\¬58<X.op/\d=true/\X.op=22)∨(¬X.op<1/\¬58<X.op/\d=false/\22<X.op)∨(¬X.op<1/\¬58<X.op/\d=false/\¬22<X.op/\X.m≠0):=by
  by_cases k1:X.op<1
  ·exact Or.inl k1
  by_cases k2:58<X.op
  ·exact Or.inr (Or.inl ⟨k1,k2⟩)
  have k3:decide (1<=X.op/\X.op<=58)=true:=decide_eq_true (by omega);rw[k3,Bool.true_and]at h;cases d
  ·have i:=of_decide_eq_false (show decide (X.op<=22/\X.m=0)=false from h)
   by_cases j:22<X.op
   ·exact Or.inr (Or.inr (Or.inr (Or.inl ⟨k1,k2,rfl,j⟩)))
   ·exact Or.inr (Or.inr (Or.inr (Or.inr ⟨k1,k2,rfl,j,fun e=>i ⟨by omega,e⟩⟩)))
  ·have i:=of_decide_eq_false (show decide (X.op≠22)=false from h)
   exact Or.inr (Or.inr (Or.inl ⟨k1,k2,rfl,by omega⟩))
 clear h;rcases l with a|⟨a,b⟩|⟨a,b,rfl,c⟩|⟨a,b,rfl,c⟩|⟨a,b,rfl,c,g⟩
 ·go_enter func148,ntmps148
  go_wp2
  go_ret;exact dT.mk f ((Below.refl _ _).alloc (Nat.le_refl _) _)
 ·go_enter func148,ntmps148
  go_wp2
  go_ret;exact dT.mk f ((Below.refl _ _).alloc (Nat.le_refl _) _)
 ·have k:(X.op==22)=true:=by rw[beq_iff_eq];exact c
  clear c;go_enter func148,ntmps148
  go_wp2
  go_ret;exact dT.mk f ((Below.refl _ _).alloc (Nat.le_refl _) _)
 ·go_enter func148,ntmps148
  go_wp2
  go_ret;exact dT.mk f ((Below.refl _ _).alloc (Nat.le_refl _) _)
 ·have k:(X.m !=0)=true:=by rw[bne_iff_ne];exact g
  clear g;go_enter func148,ntmps148
  go_wp2
  go_ret;exact dT.mk f ((Below.refl _ _).alloc (Nat.le_refl _) _)
def Cj(X:aV)(b c:Value):Prop:=b=.bool (m2 X.op)/\c=.bool (lY X.op)
theorem xS(X:aV)(n:Nat)(M:n<=1000000)(j:Bool)(w:World)(h:lZ X j=true):Calls prog 148 #[aI X,.int .i64 n,.bool j] w (dT (ep X n j) w):=by
 have E:Hid (ep X n j=(jN X n&&gu X)):=by show _=_;unfold ep;rw[h];rfl
 have O:Hid (aI X=.agg (aC X)):=rfl;unfold aI aC;unfold lZ at h;rw[Bool.and_eq_true,decide_eq_true_eq]at h;obtain⟨⟨a,b⟩,c⟩:=h;have P:¬X.op<1:=by omega
 have Q:¬58<X.op:=by omega
 have L:(j=true/\(X.op==22)=false)∨(j=false/\¬22<X.op/\(X.m !=0)=false):=by
  cases j
  ·right
   have u:=of_decide_eq_true (show decide (X.op<=22/\X.m=0)=true from c);exact⟨rfl,by omega,by rw[bne_eq_false_iff_eq];exact u.2⟩
  ·left
   have u:=of_decide_eq_true (show decide (X.op≠22)=true from c);exact⟨rfl,by rw[beq_eq_false_iff_ne];exact u⟩
 clear c;obtain⟨m,fb,q,r,hF⟩:∃m fb q r,eV X.op=(m,fb,q,r):=⟨_,_,_,_,rfl⟩;have t:=Z hF;clear hF;obtain⟨A,v⟩:=nm (fi X.a m false);obtain⟨B,x⟩:=nm (fi X.b fb (m2 X.op));obtain⟨C,y⟩:=nm (fi X.c q (lY X.op));obtain⟨D,z⟩:=nm (qU X r n);have H:Hid (∀w,Calls prog 176 #[X.a,.bool m,.bool false] w (j9 A w)):=fun w=>v▸m1 X.a m false w
 have I:Hid (∀w,Calls prog 176 #[X.b,.bool fb,.bool (m2 X.op)] w (j9 B w)):=fun w=>x▸m1 X.b fb _ w
 have J:Hid (∀w,Calls prog 176 #[X.c,.bool q,.bool (lY X.op)] w (j9 C w)):=fun w=>y▸m1 X.c q _ w
 have K:Hid (∀w,Calls prog 177 #[.agg (aC X),.bool r,.int .i64 n] w (dT D w)):=fun w=>z▸xR X r n M w
 have d:Hid (ep X n j=(A&&B&&C&&D&&gu X)):=by
  show _=_;rw[E];unfold jN;rw[t];dsimp only;rw[v,x,y,z]
 clear v x y z E;have F:(¬0<=X.m/\gu X=false)∨(0<=X.m/\¬X.m<=99/\gu X=false)∨(0<=X.m/\X.m<=99/\¬0<=X.wh/\gu X=false)∨(0<=X.m/\X.m<=99/\0<=X.wh/\¬X.wh<=2/\gu X=false)∨
  (0<=X.m/\X.m<=99/\0<=X.wh/\X.wh<=2/\(X.wh==0)=true/\gu X=true)∨(0<=X.m/\X.m<=99/\0<=X.wh/\X.wh<=2/\(X.wh==0)=false/\¬0<X.m/\gu X=false)∨(0<=X.m/\X.m<=99/\0<=X.wh/\X.wh<=2/\(X.wh==0)=false/\0<X.m/\gu X=m):=by
  have e:gu X=(decide (0<=X.m/\X.m<=99/\0<=X.wh/\X.wh<=2)&&(decide (X.wh=0)||(decide (0<X.m)&&m))):=by unfold gu;rw[t]
  rw[e];by_cases k1:0<=X.m
  ·by_cases k2:X.m<=99
   ·by_cases k3:0<=X.wh
    ·by_cases f:X.wh<=2
     ·by_cases g:X.wh=0
      ·right;right;right;right;left;exact⟨k1,k2,k3,f,by rw[beq_iff_eq];exact g,by simp[k1,k2,g]⟩
      ·by_cases o:0<X.m
       ·right;right;right;right;right;right;exact⟨k1,k2,k3,f,by rw[beq_eq_false_iff_ne];exact g,o,by simp[k1,k2,k3,f,g,o]⟩
       ·right;right;right;right;right;left;exact⟨k1,k2,k3,f,by rw[beq_eq_false_iff_ne];exact g,o,by simp[g,o]⟩
     ·right;right;right;left;exact⟨k1,k2,k3,f,by simp[f]⟩
    ·right;right;left;exact⟨k1,k2,k3,by simp[k3]⟩
   ·right;left;exact⟨k1,k2,by simp[k2]⟩
  ·left;exact⟨k1,by simp[k1]⟩
 have G:=Z F;clear F;rcases L with⟨rfl,c⟩|⟨rfl,c,R⟩
 all_goals
  go_enter func148,ntmps148
  go_upto_block 0 with(go_at_call 175;refine(m0 _ _).mono ?_;rintro e w' ⟨rfl,rfl⟩;rw[t])
  go_cut [11,12] (fun b c N=>Cj X b c/\N=w.alloc (.cells #[X.op,X.a,X.b,X.c,.int .u64 X.v,X.m,X.wh] 121))
  case first=>
   go_wp2
   all_goals
    go_meet
    refine⟨⟨?_,?_⟩,rfl⟩
    ·simp only[beq_iff_eq,beq_eq_false_iff_ne,ne_eq]at*
     unfold m2
     first|rw[decide_eq_true (by omega)]|rw[decide_eq_false (by omega)]
    ·simp only[beq_iff_eq,beq_eq_false_iff_ne,ne_eq]at*
     unfold lY
     first|rw[decide_eq_true (by omega)]|rw[decide_eq_false (by omega)]
  case rest=>
   obtain⟨⟨rfl,rfl⟩,rfl⟩:=hcut;have p:Hid (Below w.heap.size w (w.alloc (.cells #[X.op,X.a,X.b,X.c,.int .u64 X.v,X.m,X.wh] 121))):=(Below.refl _ _).alloc (Nat.le_refl _) _;go_wp2_with fail
   refine(H _).mono ?_;rintro e w' ⟨rfl,rfl⟩;cases A
   ·go_wp2
    go_ret;exact dT.mk (by rw[d];rfl) p
   go_wp2_with fail
   refine(I _).mono ?_;rintro e w' ⟨rfl,rfl⟩;cases B
   ·go_wp2
    go_ret;exact dT.mk (by rw[d];rfl) p
   go_wp2_with fail
   refine(J _).mono ?_;rintro e w' ⟨rfl,rfl⟩;cases C
   ·go_wp2
    go_ret;exact dT.mk (by rw[d];rfl) p
   go_wp2_with fail
   refine(K _).mono ?_;rintro e w2 ⟨rfl,s⟩;have i:Hid (Below w.heap.size w w2):=p.trans (s.mono p.size);have S:w2.cell? ⟨w.heap.size,5,none⟩=some (.int .i64 X.m):=(e4 s (by simp)).trans (by simp);have T:w2.cell? ⟨w.heap.size,6,none⟩=some (.int .i64 X.wh):=(e4 s (by simp)).trans (by simp);have U:w.heap.size<w2.heap.size:=by have:=s.size;simp at this;omega
   clear s;cases D
   ·go_wp2
    go_ret;exact dT.mk (by rw[d];rfl) i
   rcases G with⟨k1,k⟩|⟨k1,k2,k⟩|⟨k1,k2,k3,k⟩|⟨k1,k2,k3,f,k⟩|⟨k1,k2,k3,f,g,k⟩|⟨k1,k2,k3,f,g,o,k⟩|⟨k1,k2,k3,f,g,o,k⟩
   all_goals
    have l:=Z k;clear k
   ·go_wp2
    go_ret;exact dT.mk (by rw[d,l];rfl) i
   ·go_wp2
    go_ret;exact dT.mk (by rw[d,l];rfl) i
   ·go_wp2
    go_ret;exact dT.mk (by rw[d,l];rfl) i
   ·go_wp2
    go_ret;exact dT.mk (by rw[d,l];rfl) i
   ·go_wp2
    go_ret;exact dT.mk (by rw[d,l];rfl) i
   ·go_wp2
    go_ret;exact dT.mk (by rw[d,l];rfl) i
   ·go_wp2
    go_ret;exact dT.mk (by rw[d,l];rfl) i
theorem Aq(X:aV)(n:Nat)(b:n<=1000000)(a:Bool)(w:World):Calls prog 148 #[aI X,.int .i64 n,.bool a] w (dT (ep X n a) w):=by
 cases h:lZ X a
 ·exact Ap X n a w h
 ·exact xS X n b a w h
end Go.Proofs.YtfnilkpkogipfaaGreatDoor
