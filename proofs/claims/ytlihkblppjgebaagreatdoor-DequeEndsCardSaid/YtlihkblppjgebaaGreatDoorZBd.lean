import Derived.Deep.CutBlock
import Derived.Test.YtlihkblppjgebaaGreatDoorZAy
import Derived.Test.YtlihkblppjgebaaGreatDoorZBa
import Derived.Test.YtlihkblppjgebaaGreatDoorZBb
set_option linter.all false
set_option maxRecDepth 100000
set_option maxHeartbeats 8000000
namespace Go.Proofs.YtlihkblppjgebaaGreatDoor
open Go.RowKit Go.Proofs.Tryz
section
section
variable{w w':World}{χ:Nat->a4}{L:cw}{Y:Var}{C:KC}{K:KS}
theorem Nx.row{χ aW:Nat->a4}(n:Nx χ aW w w'){b:Nat}{t:TypeId}{l:List Value}(h:Row w b t l)(a:χ b=.no):Row w' b t l/\aW b=.no:=⟨h.ch n.ch (by simp[a]),(n.same b h.lt).trans a⟩
end
end
section
section
variable{w:World}{χ:Nat->a4}{L:cw}{Y:Var}{C:KC}{K:KS}
def dG(r:Int×KS)(χ:Nat->a4)(L:cw)(Y:Var)(C:KC)(K:KS)(w:World)(e:Ending)(w':World):Prop:=e=.returned (.int .i64 r.1)/\∃aW Y',ae w' aW L Y' C r.2/\Nx χ aW w w'/\(r.1≠1->Yk K Y Y')
end
end
section
section
variable{w:World}{χ:Nat->a4}{L:cw}{Y:Var}{C:KC}{K:KS}
end
end
section
section
variable{w:World}{χ:Nat->a4}{L:cw}{Y:Var}{C:KC}{K:KS}
theorem wy(D:Value)(v:Option Int)(i:Nat)(c:bK)(b y:Nat)(n a d f j g k:Int)(r:n=31∨n=32){p:Int×KS}(s:bb K i c ⟨n,a,d,f,j,g,k⟩=p)
 (t:∀w,ae w χ L Y C K->Calls prog 165 #[.pointer (some ⟨L.mb,0,none⟩),.pointer (some ⟨L.wb,i*38,none⟩),.pointer (some ⟨b,y,none⟩),aI ⟨n,a,d,f,j,g,k⟩] w (dG p χ L Y C K w)) (h:ae w χ L Y C K):
 Calls prog 133 #[.pointer (some ⟨L.mb,0,none⟩),.pointer (some ⟨L.wb,i*38,none⟩),D,.pointer (some ⟨b,y,none⟩),aI ⟨n,a,d,f,j,g,k⟩] w (dG (ay C K i v c ⟨n,a,d,f,j,g,k⟩) χ L Y C K w):=by
 have m:=Z t;unfold aI aC at m⊢;dsimp only at m⊢;obtain⟨H,u,G,o,A⟩:=h.pre n a d f j g k;obtain⟨t0,t1,t2,t3,t4,t5,t6⟩:=A.out.1.c7;clear h t;have E:Hid (ay C K i v c ⟨n,a,d,f,j,g,k⟩=p):=Z (by rw[<-s];unfold ay;dsimp only;rw[if_neg (by omega),if_pos r]);clear s;rcases r with rfl|rfl
 all_goals
  go_enter func133,ntmps133
  go_wp2_with fail
  try rw[u]
  clear u;refine(m.out _ o.out.at_).mono ?_;rintro e w2 ⟨rfl,F,B,q,x,z⟩;have l:=Z (And.intro q (And.intro x z));clear q x z;go_wp2_with fail
  go_ret;rw[E.out];exact⟨rfl,F,B,l.out.1,o.out.nx.trans l.out.2.1,l.out.2.2⟩
theorem wz(A:Value)(v:Option Int)(i:Nat)(c:bK)(b x:Nat)(n a d f j g k:Int)(r:n=30∨n=33∨n=34∨n=35){p:KS}(s:bU K i c ⟨n,a,d,f,j,g,k⟩=p)
 (t:∀w,ae w χ L Y C K->Calls prog 166 #[.pointer (some ⟨L.mb,0,none⟩),.pointer (some ⟨L.wb,i*38,none⟩),.pointer (some ⟨b,x,none⟩),aI ⟨n,a,d,f,j,g,k⟩] w (de (.tuple #[]) χ L Y C K p w)) (h:ae w χ L Y C K):
 Calls prog 133 #[.pointer (some ⟨L.mb,0,none⟩),.pointer (some ⟨L.wb,i*38,none⟩),A,.pointer (some ⟨b,x,none⟩),aI ⟨n,a,d,f,j,g,k⟩] w (dG (ay C K i v c ⟨n,a,d,f,j,g,k⟩) χ L Y C K w):=by
 have l:=Z t;unfold aI aC at l⊢;dsimp only at l⊢;obtain⟨F,u,D,o,y⟩:=h.pre n a d f j g k;obtain⟨t0,t1,t2,t3,t4,t5,t6⟩:=y.out.1.c7;clear h t;have E:Hid (ay C K i v c ⟨n,a,d,f,j,g,k⟩=(0,p)):=Z (by rw[<-s];unfold ay;dsimp only;rw[if_neg (by omega),if_neg (by omega),if_neg (by omega),if_pos r]);clear s;rcases r with rfl|rfl|rfl|rfl
 all_goals
  go_enter func133,ntmps133
  go_wp2_with fail
  try rw[u]
  clear u;refine(l.out _ o.out.at_).mono ?_;rintro e w2 ⟨rfl,B,z,q⟩;have m:=Z (o.out.trans (Gr.refl _) q);clear q;go_wp2_with fail
  go_ret;rw[E.out];exact⟨rfl,B,z,m.out.at_,m.out.nx,fun _=>m.out.yk⟩
theorem wA(A:Value)(v:Option Int)(i:Nat)(c:bK)(b x:Nat)(n a d f j g k:Int)(r:n=43∨n=44∨n=45∨n=46){p:KS}(s:bd K c ⟨n,a,d,f,j,g,k⟩=p)
 (t:∀w,ae w χ L Y C K->Calls prog 167 #[.pointer (some ⟨L.mb,0,none⟩),.pointer (some ⟨b,x,none⟩),aI ⟨n,a,d,f,j,g,k⟩] w (de (.tuple #[]) χ L Y C K p w)) (h:ae w χ L Y C K):
 Calls prog 133 #[.pointer (some ⟨L.mb,0,none⟩),.pointer (some ⟨L.wb,i*38,none⟩),A,.pointer (some ⟨b,x,none⟩),aI ⟨n,a,d,f,j,g,k⟩] w (dG (ay C K i v c ⟨n,a,d,f,j,g,k⟩) χ L Y C K w):=by
 have l:=Z t;unfold aI aC at l⊢;dsimp only at l⊢;obtain⟨F,u,D,o,y⟩:=h.pre n a d f j g k;obtain⟨t0,t1,t2,t3,t4,t5,t6⟩:=y.out.1.c7;clear h t;have E:Hid (ay C K i v c ⟨n,a,d,f,j,g,k⟩=(0,p)):=Z (by rw[<-s];unfold ay;dsimp only;rw[if_neg (by omega),if_neg (by omega),if_neg (by omega),if_neg (by omega),if_pos r]);clear s;rcases r with rfl|rfl|rfl|rfl
 all_goals
  go_enter func133,ntmps133
  go_wp2_with fail
  try rw[u]
  clear u;refine(l.out _ o.out.at_).mono ?_;rintro e w2 ⟨rfl,B,z,q⟩;have m:=Z (o.out.trans (Gr.refl _) q);clear q;go_wp2_with fail
  go_ret;rw[E.out];exact⟨rfl,B,z,m.out.at_,m.out.nx,fun _=>m.out.yk⟩
theorem wB(A:Value)(v:Option Int)(i:Nat)(c:bK)(b x:Nat)(n a d f j g k:Int)(r:n=48∨n=52∨n=54∨n=49∨n=50){p:KS}(s:bu C K i c ⟨n,a,d,f,j,g,k⟩=p)
 (t:∀w,ae w χ L Y C K->Calls prog 168 #[.pointer (some ⟨L.mb,0,none⟩),.pointer (some ⟨L.wb,i*38,none⟩),.pointer (some ⟨b,x,none⟩),aI ⟨n,a,d,f,j,g,k⟩] w (de (.tuple #[]) χ L Y C K p w)) (h:ae w χ L Y C K):
 Calls prog 133 #[.pointer (some ⟨L.mb,0,none⟩),.pointer (some ⟨L.wb,i*38,none⟩),A,.pointer (some ⟨b,x,none⟩),aI ⟨n,a,d,f,j,g,k⟩] w (dG (ay C K i v c ⟨n,a,d,f,j,g,k⟩) χ L Y C K w):=by
 have l:=Z t;unfold aI aC at l⊢;dsimp only at l⊢;obtain⟨F,u,D,o,y⟩:=h.pre n a d f j g k;obtain⟨t0,t1,t2,t3,t4,t5,t6⟩:=y.out.1.c7;clear h t;have E:Hid (ay C K i v c ⟨n,a,d,f,j,g,k⟩=(0,p)):=Z (by rw[<-s];unfold ay;dsimp only;rw[if_neg (by omega),if_neg (by omega),if_neg (by omega),if_neg (by omega),if_neg (by omega),if_pos r]);clear s;rcases r with rfl|rfl|rfl|rfl|rfl
 all_goals
  go_enter func133,ntmps133
  go_wp2_with fail
  try rw[u]
  clear u;refine(l.out _ o.out.at_).mono ?_;rintro e w2 ⟨rfl,B,z,q⟩;have m:=Z (o.out.trans (Gr.refl _) q);clear q;go_wp2_with fail
  go_ret;rw[E.out];exact⟨rfl,B,z,m.out.at_,m.out.nx,fun _=>m.out.yk⟩
end
end
section
section
variable{w:World}{χ:Nat->a4}{L:cw}{Y:Var}{C:KC}{K:KS}
end
end
section
section
variable{w:World}{χ:Nat->a4}{L:cw}{Y:Var}{C:KC}{K:KS}
theorem wN(i:Nat)(c:bK)(b o:Nat)(t:aj K c)(u:aP L Y c b o)(n a d f j g k:Int)(H:0<=a/\a<32)(I:n=23∨n=41∨n=37∨n=40∨n=42∨n=29∨n=38∨n=39∨n=47)
 (z:∀w,ae w χ L Y C K->Calls prog 170 #[.pointer (some ⟨L.mb,0,none⟩),.pointer (some ⟨L.wb,i*38,none⟩),.int .u64 0,.pointer (some ⟨b,o,none⟩),aI ⟨n,a,d,f,j,g,k⟩] w (mH (hL C K i 0 c ⟨n,a,d,f,j,g,k⟩) w)) (h:ae w χ L Y C K):
 Calls prog 133 #[.pointer (some ⟨L.mb,0,none⟩),.pointer (some ⟨L.wb,i*38,none⟩),.pointer none,.pointer (some ⟨b,o,none⟩),aI ⟨n,a,d,f,j,g,k⟩] w (dG (ay C K i none c ⟨n,a,d,f,j,g,k⟩) χ L Y C K w):=by
 have l:=Z z;have q:=Z t;have r:=Z u;unfold aI aC at l⊢;dsimp only at l⊢;obtain⟨O,B,Q,x,p⟩:=h.pre n a d f j g k;obtain⟨t0,t1,t2,t3,t4,t5,t6⟩:=p.out.1.c7;have E:Hid (ay C K i none c ⟨n,a,d,f,j,g,k⟩=(0,K.au c a.toNat (hL C K i 0 c ⟨n,a,d,f,j,g,k⟩))):=Z (by
  unfold ay;dsimp only;rw[if_neg (by omega),if_neg (by omega),if_neg (by omega),if_neg (by omega),if_neg (by omega),if_neg (by omega),if_neg (by omega),if_neg (by omega)];rfl)
 obtain⟨N,A⟩:=nm (hL C K i 0 c ⟨n,a,d,f,j,g,k⟩);rw[A]at E l;obtain⟨V,W⟩:=H;have J:b≠w.heap.size:=Nat.ne_of_lt (aE (h.az t u a.toNat (by omega)));have T:=J.symm;clear h A t u z;rcases I with rfl|rfl|rfl|rfl|rfl|rfl|rfl|rfl|rfl
 all_goals
  go_enter func133,ntmps133
  go_wp2_with fail
  try rw[B]
  clear B;go_region_held3 (p.out.1.c7) (go_keep) ((go_at_call 170;refine(l.out _ x.out.at_.drew).mono ?_;rintro e w1 ⟨rfl,y⟩;have v:Hid (Ch ag O w1):=Z (Ch.trans (Ch.refl _ _).drew y);have m:=Z (x.out.af v.out);have D:=Z (p.out.1.ch v.out (fun h=>h));clear y t0 t1 t2 t3 t4 t5 t6;(try clear R);obtain⟨t0,t1,t2,t3,t4,t5,t6⟩:=D.out.c7;have U:=m.out.at_.az q.out r.out a.toNat (by omega);have S:=m.out.at_.g1 q.out r.out (o+1+a.toNat);have G:=Z (m.out.at_.a6 q.out r.out a.toNat (by omega) N)))
 all_goals
  go_wp2_with fail
  go_ret;rw[E.out];obtain⟨P,F,M⟩:=G.out;have s:=m.out.trans (Gr.refl _) M;exact⟨rfl,P,F,s.at_,s.nx,fun _=>s.yk⟩
end
end
section
def im(x:Option Int)(χ:Nat->a4)(L:cw)(Y:Var)(C:KC)(K K':KS)(w:World)(e:Ending)(w':World):Prop:=
 (match x with
  |some v=>e=.returned (.tuple #[.int .u64 v,.nilIface])
  |none=>∃n v,e=.returned (.tuple #[.int .u64 n,v])/\aq v)/\(∃aW Y',dB χ L Y C K K' w aW Y' w')/\Ch (fun i=>χ i=.mem∨χ i=.gx∨χ i=.out) w w'
section
variable{w w':World}{χ:Nat->a4}{L:cw}{Y:Var}{C:KC}{K:KS}
theorem im.of{x:Option Int}{K':KS}{e:Ending}{b w':World}(h:im x χ L Y C K K' b e w')(c:Ch ag w b):im x χ L Y C K K' w e w':=by
 obtain⟨d,⟨aW,Y',a⟩,f⟩:=h;exact⟨d,⟨aW,Y',a.at_,(Nx.af c).trans a.nx,a.yk⟩,c.af.trans f⟩
end
end
end Go.Proofs.YtlihkblppjgebaaGreatDoor
