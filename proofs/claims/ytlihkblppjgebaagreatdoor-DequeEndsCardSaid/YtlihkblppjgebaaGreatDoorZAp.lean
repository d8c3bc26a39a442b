import Derived.Test.YtlihkblppjgebaaGreatDoorZAn
set_option linter.all false
set_option maxRecDepth 100000
set_option maxHeartbeats 8000000
namespace Go.Proofs.YtlihkblppjgebaaGreatDoor
open Go.RowKit Go.Proofs.Tryz
theorem kU(qb lb c n k s:Nat)(m:Value)(Q:List Value)(id d mask:Int)(t:1<=n)(u:n<=64)(i:bc d n=k)(z:k<n)(w:World)
 (f:Row w qb 214 [.slice (some ⟨lb,0,none⟩) n c,m]) (a:Row w lb 217 Q) (hlen:Q.length=n*2)
 (b:Row w s 219 [.int .u64 id,.int .u64 d,.int .u64 mask,.pointer none,.pointer none]):
 Calls prog 128 #[.pointer (some ⟨qb,0,none⟩),.pointer (some ⟨s,0,none⟩)] w (fun e w'=>e=.returned (.tuple #[])/\
  Row w' lb 217 ((Q.set (k*2) (.pointer none)).set (k*2+1) (.pointer none))/\Ch (aK lb) w w'):=by
 have g:=Z (fun w h=>iT qb lb m d n c t u w h);rw[i]at g;have r:=Z f;have q:=Z a;have v:lb≠s:=a.ne b (by decide);have A:s≠lb:=fun e=>v e.symm
 have x:=f.c1;have s1:=b.k 1 rfl;have D:=b.k 3 rfl;have E:=b.k 4 rfl;obtain⟨p,l⟩:∃p,Q[k*2+1]?=some p:=⟨_,List.getElem?_eq_getElem (by omega)⟩;have C:=a.cell l;obtain⟨o,j⟩:∃o,Q[k*2]?=some o:=⟨_,List.getElem?_eq_getElem (by omega)⟩;have B:=a.cell j;have k0:=a.free (k*2);have k1:=a.free (k*2+1);have y:(k:Int)<(n:Int):=by omega
 clear f a b i j l hlen;go_enter func128,ntmps128
 go_wp2_with fail
 go_quiet ((go_at_call 92;exact Calls.quiet_of_same (bZ (g.out _ r.out))))
 go_wp2_with fail
 go_end0
 refine⟨rfl,?_,?_⟩
 ·exact((q.out.drewN _).set (k*2) _).set (k*2+1) _
 ·exact(((Ch.refl _ _).drewN _).only _ _).only _ _
theorem kN(qb lb c n k s x:Nat)(u:Value)(Q:List Value)(id i mask A z B:Int)(O C:Value)(J:1<=n)(K:n<=64)(o:bc i n=k)(U:k<n)(w:World)
 (j:Row w qb 214 [.slice (some ⟨lb,0,none⟩) n c,u]) (a:Row w lb 217 Q) (hlen:Q.length=n*2)
 (b:Row w s 219 [.int .u64 id,.int .u64 i,.int .u64 mask,.pointer none,.pointer (some ⟨x,0,none⟩)]) (d:Row w x 219 [.int .u64 A,.int .u64 z,.int .u64 B,O,C]) (V:s≠x):
 Calls prog 128 #[.pointer (some ⟨qb,0,none⟩),.pointer (some ⟨s,0,none⟩)] w (fun e w'=>e=.returned (.tuple #[])/\
  Row w' lb 217 (Q.set (k*2) (.pointer (some ⟨x,0,none⟩)))/\Row w' x 219 [.int .u64 A,.int .u64 z,.int .u64 B,.pointer none,C]/\Ch (di lb x) w w'):=by
 have l:=Z (fun w h=>iT qb lb u i n c J K w h);rw[o]at l;have G:=Z j;have E:=Z a;have L:lb≠s:=a.ne b (by decide);have M:s≠lb:=fun e=>L e.symm
 have q:lb≠x:=a.ne d (by decide);have N:x≠lb:=fun e=>q e.symm
 have H:=Z b;have I:=Z d;have x3:=d.k 3 rfl;have a1:=d.free 3;have P:=j.c1;have s1:=b.k 1 rfl;have Y:=b.k 3 rfl;have a0:=b.k 4 rfl;obtain⟨y,t⟩:∃y,Q[k*2+1]?=some y:=⟨_,List.getElem?_eq_getElem (by omega)⟩;have X:=a.cell t;obtain⟨v,r⟩:∃v,Q[k*2]?=some v:=⟨_,List.getElem?_eq_getElem (by omega)⟩;have W:=a.cell r;have k0:=a.free (k*2);have k1:=a.free (k*2+1);have T:(k:Int)<(n:Int):=by omega
 clear j a b d o r t hlen;go_enter func128,ntmps128
 go_wp2_with fail
 go_quiet ((go_at_call 92;exact Calls.quiet_of_same (bZ (l.out _ G.out))))
 obtain⟨w1,f⟩:=nm ((w.drewN nq).setCell ⟨lb,k*2,none⟩ (.pointer (some ⟨x,0,none⟩)));have F:=Z (f▸(E.out.drewN nq).set (k*2) (.pointer (some ⟨x,0,none⟩)));have m:Hid (Row w1 s 219 _):=Z (f▸(H.out.drewN nq).other (p:=⟨lb,k*2,none⟩) M (.pointer (some ⟨x,0,none⟩)));have g:Hid (Row w1 x 219 _):=Z (f▸(I.out.drewN nq).other (p:=⟨lb,k*2,none⟩) N (.pointer (some ⟨x,0,none⟩)));have D:Hid (Ch (di lb x) w w1):=Z (f▸((Ch.refl _ _).drewN nq).g8 _ _);have d3:=m.out.k 3 rfl;have d4:=m.out.k 4 rfl;have R:=g.out.k 3 rfl;have S:=g.out.free 3;go_wp2_with fail
 go_still_tail 10,(by kernel_rfl)
 go_wp2_with fail
 go_end0
 refine⟨rfl,?_,?_,?_⟩
 ·exact F.out.drew.other q _
 ·exact g.out.drew.set 3 _
 ·exact D.out.drew.jD _ _
theorem kW(qb lb c n k s x:Nat)(v:Value)(Q:List Value)(id l mask B A C:Int)(D T:Value)(L:1<=n)(M:n<=64)(t:bc l n=k)(a1:k<n)(w:World)
 (m:Row w qb 214 [.slice (some ⟨lb,0,none⟩) n c,v]) (a:Row w lb 217 Q) (hlen:Q.length=n*2)
 (b:Row w s 219 [.int .u64 id,.int .u64 l,.int .u64 mask,.pointer (some ⟨x,0,none⟩),.pointer none]) (f:Row w x 219 [.int .u64 B,.int .u64 A,.int .u64 C,D,T]) (P:s≠x):
 Calls prog 128 #[.pointer (some ⟨qb,0,none⟩),.pointer (some ⟨s,0,none⟩)] w (fun e w'=>e=.returned (.tuple #[])/\
  Row w' lb 217 (Q.set (k*2+1) (.pointer (some ⟨x,0,none⟩)))/\Row w' x 219 [.int .u64 B,.int .u64 A,.int .u64 C,D,.pointer none]/\Ch (di lb x) w w'):=by
 have q:=Z (fun w h=>iT qb lb v l n c L M w h);rw[t]at q;have F:=Z m;have E:=Z a;have N:lb≠s:=a.ne b (by decide);have a2:s≠lb:=fun e=>N e.symm
 have u:lb≠x:=a.ne f (by decide);have O:x≠lb:=fun e=>u e.symm
 have I:=Z b;have J:=Z f;have x4:=f.k 4 rfl;have U:=f.free 4;have ab:x≠s:=fun e=>P e.symm
 have K:=m.c1;have s1:=b.k 1 rfl;have R:=b.k 3 rfl;have S:=b.k 4 rfl;obtain⟨z,p⟩:∃z,Q[k*2+1]?=some z:=⟨_,List.getElem?_eq_getElem (by omega)⟩;have al:=a.cell p;have H:=Z p;obtain⟨y,o⟩:∃y,Q[k*2]?=some y:=⟨_,List.getElem?_eq_getElem (by omega)⟩;have ad:=a.cell o;have G:=Z o;have k0:=a.free (k*2);have k1:=a.free (k*2+1);have a0:(k:Int)<(n:Int):=by omega
 clear m a b f t o p hlen;go_enter func128,ntmps128
 go_wp2_with fail
 go_quiet ((go_at_call 92;exact Calls.quiet_of_same (bZ (q.out _ F.out))))
 obtain⟨i,d⟩:=nm (w.drewN nq);have g:=Z (d▸E.out.drewN nq);have r:Hid (Row i s 219 _):=Z (d▸I.out.drewN nq);have j:Hid (Row i x 219 _):=Z (d▸J.out.drewN nq);have C0:Hid (Ch (di lb x) w i):=Z (d▸(Ch.refl _ _).drewN nq);have a3:=r.out.k 3 rfl;have a4:=r.out.k 4 rfl;have V:=j.out.k 4 rfl;have f4:=j.out.free 4;rw[d];clear d K s1 R S x4 U;go_wp2_with fail
 go_still_tail 10,(by kernel_rfl)
 change wpList _ _ _ _ _ i.drew;have W:=g.out.cell G.out;have X:=g.out.cell H.out;have Y:=g.out.free (k*2+1);go_wp2_with fail
 go_end0
 refine⟨rfl,?_,?_,?_⟩
 ·exact(g.out.drew.other u _).set (k*2+1) _
 ·exact(j.out.drew.set 4 _).other O _
 ·exact(C0.out.drew.jD _ _).g8 _ _
theorem lL(qb lb c n k s x y:Nat)(D:Value)(Q:List Value)(id p mask H G I:Int)(J av bw N:Value)(L K M:Int)(a0:1<=n)(a1:n<=64)(z:bc p n=k)(c5:k<n)(w:World)
 (q:Row w qb 214 [.slice (some ⟨lb,0,none⟩) n c,D]) (a:Row w lb 217 Q) (hlen:Q.length=n*2)
 (d:Row w s 219 [.int .u64 id,.int .u64 p,.int .u64 mask,.pointer (some ⟨x,0,none⟩),.pointer (some ⟨y,0,none⟩)]) (i:Row w x 219 [.int .u64 H,.int .u64 G,.int .u64 I,J,av]) (C:Row w y 219 [.int .u64 L,.int .u64 K,.int .u64 M,bw,N]) (A:s≠x) (ad:s≠y) (B:x≠y):
 Calls prog 128 #[.pointer (some ⟨qb,0,none⟩),.pointer (some ⟨s,0,none⟩)] w (fun e w'=>e=.returned (.tuple #[])/\
  Row w' x 219 [.int .u64 H,.int .u64 G,.int .u64 I,J,.pointer (some ⟨y,0,none⟩)]/\Row w' y 219 [.int .u64 L,.int .u64 K,.int .u64 M,.pointer (some ⟨x,0,none⟩),N]/\Ch (di x y) w w'):=by
 have u:=Z (fun w h=>iT qb lb D p n c a0 a1 w h);rw[z]at u;have R:=Z q;have P:=Z a;have a2:lb≠s:=a.ne d (by decide);have c6:s≠lb:=fun e=>a2 e.symm
 have ab:lb≠x:=a.ne i (by decide);have c7:x≠lb:=fun e=>ab e.symm
 have S:=Z d;have T:=Z i;have V:=Z C;have al:y≠x:=fun e=>B e.symm
 have c9:y≠s:=fun e=>ad e.symm
 have x4:=i.k 4 rfl;have bv:=i.free 4;have c8:x≠s:=fun e=>A e.symm
 have X:=q.c1;have s1:=d.k 1 rfl;have am:=d.k 3 rfl;have ap:=d.k 4 rfl;obtain⟨F,t⟩:∃F,Q[k*2+1]?=some F:=⟨_,List.getElem?_eq_getElem (by omega)⟩;have cd:=a.cell t;have c2:=Z t;obtain⟨E,r⟩:∃E,Q[k*2]?=some E:=⟨_,List.getElem?_eq_getElem (by omega)⟩;have cb:=a.cell r;have c1:=Z r;have k0:=a.free (k*2);have k1:=a.free (k*2+1);have c4:(k:Int)<(n:Int):=by omega
 clear q a d i C z r t hlen;go_enter func128,ntmps128
 go_wp2_with fail
 go_quiet ((go_at_call 92;exact Calls.quiet_of_same (bZ (u.out _ R.out))))
 obtain⟨g,b⟩:=nm (w.drewN nq);have c0:=Z (b▸P.out.drewN nq);have j:Hid (Row g s 219 _):=Z (b▸S.out.drewN nq);have l:Hid (Row g x 219 _):=Z (b▸T.out.drewN nq);have C0:Hid (Ch (di x y) w g):=Z (b▸(Ch.refl _ _).drewN nq);have m:Hid (Row g y 219 _):=Z (b▸V.out.drewN nq);have a3:=j.out.k 3 rfl;have a4:=j.out.k 4 rfl;have W:=l.out.k 4 rfl;have f4:=l.out.free 4;have bi:=m.out.k 3 rfl;have Y:=m.out.free 3;rw[b];clear b X s1 am ap x4 bv;go_wp2_with fail
 go_still_tail 10,(by kernel_rfl)
 change wpList _ _ _ _ _ g.drew;obtain⟨w1,f⟩:=nm (g.drew.setCell ⟨x,4,none⟩ (.pointer (some ⟨y,0,none⟩)));have v:Hid (Row w1 s 219 _):=Z (f▸j.out.drew.other A (.pointer (some ⟨y,0,none⟩)));have U:=Z (f▸l.out.drew.set 4 (.pointer (some ⟨y,0,none⟩)));have o:Hid (Row w1 y 219 _):=Z (f▸m.out.drew.other al (.pointer (some ⟨y,0,none⟩)));have O:Hid (Ch (di x y) w w1):=Z (f▸C0.out.drew.g8 _ _);have d3:=v.out.k 3 rfl;have d4:=v.out.k 4 rfl;have ce:=o.out.k 3 rfl;have c3:=o.out.free 3;go_wp2_with fail
 try rw[f]
 clear f a3 a4 W f4 bi Y;go_wp2_with fail
 go_still_tail 10,(by kernel_rfl)
 change wpList _ _ _ _ _ w1.drew;go_wp2_with fail
 go_end0
 refine⟨rfl,?_,?_,?_⟩
 ·exact U.out.drew.other B _
 ·exact o.out.drew.set 3 _
 ·exact O.out.drew.jD _ _
end Go.Proofs.YtlihkblppjgebaaGreatDoor
