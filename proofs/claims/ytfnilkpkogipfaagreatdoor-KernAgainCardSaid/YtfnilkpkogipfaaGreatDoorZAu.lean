import Derived.Test.YtfnilkpkogipfaaGreatDoorZAp
set_option linter.all false
set_option maxRecDepth 100000
set_option maxHeartbeats 8000000
namespace Go.Proofs.YtfnilkpkogipfaaGreatDoor
open Go.RowKit Go.Proofs.Tryz
section
section
variable{w:World}{χ:Nat->aX}{L:cz}{Y:Var}{C:KC}{K:KS}
theorem xt(id:Int)(i:Nat)(c:bN)(b y:Nat)(n a d f j g k:Int)(r:n=24∨n=28∨n=51∨n=53∨n=55∨n=56∨n=57∨n=58){p:Int×KS}(s:aD C K i id c ⟨n,a,d,f,j,g,k⟩=p)
 (t:∀w,ae w χ L Y C K->Calls prog 162 #[(L.mb,0),(L.wb,i*38),(Y.bH id,0),(b,y),aK ⟨n,a,d,f,j,g,k⟩] w (dM p χ L Y C K w)) (h:ae w χ L Y C K):
 Calls prog 142 #[(L.mb,0),(L.wb,i*38),(Y.bH id,0),(b,y),aK ⟨n,a,d,f,j,g,k⟩] w (dM (aB C K i (some id) c ⟨n,a,d,f,j,g,k⟩) χ L Y C K w):=by
 have l:=Z t;unfold aK aG at l⊢;dsimp only at l⊢;obtain⟨G,v,F,o,A⟩:=h.pre n a d f j g k;obtain⟨t0,t1,t2,t3,t4,t5,t6⟩:=A.1.c7;obtain⟨tb,u⟩:=nm (Y.bH id);rw[u]at l⊢;clear u;clear h t;have E:Hid (aB C K i (some id) c ⟨n,a,d,f,j,g,k⟩=p):=Z (by rw[<-s];unfold aB;dsimp only;rw[if_pos r]);clear s;rcases r with rfl|rfl|rfl|rfl|rfl|rfl|rfl|rfl
 all_goals
  go_in
  go_wp2_with fail
  try rw[v]
  clear v;refine(l _ o.at_).mono ?_;rintro e w2 ⟨rfl,D,B,q,x,z⟩;have m:=Z (And.intro q (And.intro x z));clear q x z;go_wp2
  go_ret;rw[E];exact⟨rfl,D,B,m.1,o.nx.trans m.2.1,m.2.2⟩
theorem xu(B:Value)(idO:Option Int)(i:Nat)(c:bN)(b x:Nat)(n a d f j g k:Int)(r:n=31∨n=32){p:Int×KS}(s:bf K i c ⟨n,a,d,f,j,g,k⟩=p)
 (t:∀w,ae w χ L Y C K->Calls prog 163 #[(L.mb,0),(L.wb,i*38),(b,x),aK ⟨n,a,d,f,j,g,k⟩] w (dM p χ L Y C K w)) (h:ae w χ L Y C K):
 Calls prog 142 #[(L.mb,0),(L.wb,i*38),B,(b,x),aK ⟨n,a,d,f,j,g,k⟩] w (dM (aB C K i idO c ⟨n,a,d,f,j,g,k⟩) χ L Y C K w):=by
 have m:=Z t;unfold aK aG at m⊢;dsimp only at m⊢;obtain⟨G,u,F,o,z⟩:=h.pre n a d f j g k;obtain⟨t0,t1,t2,t3,t4,t5,t6⟩:=z.1.c7;clear h t;have E:Hid (aB C K i idO c ⟨n,a,d,f,j,g,k⟩=p):=Z (by rw[<-s];unfold aB;dsimp only;rw[if_neg (by omega),if_pos r]);clear s;rcases r with rfl|rfl
 all_goals
  go_in
  go_wp2_with fail
  try rw[u]
  clear u;refine(m _ o.at_).mono ?_;rintro e w2 ⟨rfl,D,A,q,v,y⟩;have l:=Z (And.intro q (And.intro v y));clear q v y;go_wp2
  go_ret;rw[E];exact⟨rfl,D,A,l.1,o.nx.trans l.2.1,l.2.2⟩
theorem xv(z:Value)(idO:Option Int)(i:Nat)(c:bN)(b v:Nat)(n a d f j g k:Int)(r:n=30∨n=33∨n=34∨n=35){p:KS}(s:bY K i c ⟨n,a,d,f,j,g,k⟩=p)
 (t:∀w,ae w χ L Y C K->Calls prog 164 #[(L.mb,0),(L.wb,i*38),(b,v),aK ⟨n,a,d,f,j,g,k⟩] w (dj (.tuple #[]) χ L Y C K p w)) (h:ae w χ L Y C K):
 Calls prog 142 #[(L.mb,0),(L.wb,i*38),z,(b,v),aK ⟨n,a,d,f,j,g,k⟩] w (dM (aB C K i idO c ⟨n,a,d,f,j,g,k⟩) χ L Y C K w):=by
 have l:=Z t;unfold aK aG at l⊢;dsimp only at l⊢;obtain⟨D,u,B,o,x⟩:=h.pre n a d f j g k;obtain⟨t0,t1,t2,t3,t4,t5,t6⟩:=x.1.c7;clear h t;have E:Hid (aB C K i idO c ⟨n,a,d,f,j,g,k⟩=(0,p)):=Z (by rw[<-s];unfold aB;dsimp only;rw[if_neg (by omega),if_neg (by omega),if_neg (by omega),if_pos r]);clear s;rcases r with rfl|rfl|rfl|rfl
 all_goals
  go_in
  go_wp2_with fail
  try rw[u]
  clear u;refine(l _ o.at_).mono ?_;rintro e w2 ⟨rfl,A,y,q⟩;have m:=Z (o.trans (Gr.refl _) q);clear q;go_wp2
  go_ret;rw[E];exact⟨rfl,A,y,m.at_,m.nx,fun _=>m.yk⟩
theorem xw(z:Value)(idO:Option Int)(i:Nat)(c:bN)(b v:Nat)(n a d f j g k:Int)(r:n=43∨n=44∨n=45∨n=46){p:KS}(s:bh K c ⟨n,a,d,f,j,g,k⟩=p)
 (t:∀w,ae w χ L Y C K->Calls prog 165 #[(L.mb,0),(b,v),aK ⟨n,a,d,f,j,g,k⟩] w (dj (.tuple #[]) χ L Y C K p w)) (h:ae w χ L Y C K):
 Calls prog 142 #[(L.mb,0),(L.wb,i*38),z,(b,v),aK ⟨n,a,d,f,j,g,k⟩] w (dM (aB C K i idO c ⟨n,a,d,f,j,g,k⟩) χ L Y C K w):=by
 have l:=Z t;unfold aK aG at l⊢;dsimp only at l⊢;obtain⟨D,u,B,o,x⟩:=h.pre n a d f j g k;obtain⟨t0,t1,t2,t3,t4,t5,t6⟩:=x.1.c7;clear h t;have E:Hid (aB C K i idO c ⟨n,a,d,f,j,g,k⟩=(0,p)):=Z (by rw[<-s];unfold aB;dsimp only;rw[if_neg (by omega),if_neg (by omega),if_neg (by omega),if_neg (by omega),if_pos r]);clear s;rcases r with rfl|rfl|rfl|rfl
 all_goals
  go_in
  go_wp2_with fail
  try rw[u]
  clear u;refine(l _ o.at_).mono ?_;rintro e w2 ⟨rfl,A,y,q⟩;have m:=Z (o.trans (Gr.refl _) q);clear q;go_wp2
  go_ret;rw[E];exact⟨rfl,A,y,m.at_,m.nx,fun _=>m.yk⟩
theorem xx(z:Value)(idO:Option Int)(i:Nat)(c:bN)(b v:Nat)(n a d f j g k:Int)(r:n=48∨n=52∨n=54∨n=49∨n=50){p:KS}(s:bA C K i c ⟨n,a,d,f,j,g,k⟩=p)
 (t:∀w,ae w χ L Y C K->Calls prog 166 #[(L.mb,0),(L.wb,i*38),(b,v),aK ⟨n,a,d,f,j,g,k⟩] w (dj (.tuple #[]) χ L Y C K p w)) (h:ae w χ L Y C K):
 Calls prog 142 #[(L.mb,0),(L.wb,i*38),z,(b,v),aK ⟨n,a,d,f,j,g,k⟩] w (dM (aB C K i idO c ⟨n,a,d,f,j,g,k⟩) χ L Y C K w):=by
 have l:=Z t;unfold aK aG at l⊢;dsimp only at l⊢;obtain⟨D,u,B,o,x⟩:=h.pre n a d f j g k;obtain⟨t0,t1,t2,t3,t4,t5,t6⟩:=x.1.c7;clear h t;have E:Hid (aB C K i idO c ⟨n,a,d,f,j,g,k⟩=(0,p)):=Z (by rw[<-s];unfold aB;dsimp only;rw[if_neg (by omega),if_neg (by omega),if_neg (by omega),if_neg (by omega),if_neg (by omega),if_pos r]);clear s;rcases r with rfl|rfl|rfl|rfl|rfl
 all_goals
  go_in
  go_wp2_with fail
  try rw[u]
  clear u;refine(l _ o.at_).mono ?_;rintro e w2 ⟨rfl,A,y,q⟩;have m:=Z (o.trans (Gr.refl _) q);clear q;go_wp2
  go_ret;rw[E];exact⟨rfl,A,y,m.at_,m.nx,fun _=>m.yk⟩
theorem xy(z:Value)(idO:Option Int)(i:Nat)(c:bN)(b v:Nat)(n a d f j g k:Int)(r:n=25∨n=26∨n=27){p:KS}(s:bk K i c ⟨n,a,d,f,j,g,k⟩=p)
 (t:∀w,ae w χ L Y C K->Calls prog 167 #[(L.mb,0),(L.wb,i*38),(b,v),aK ⟨n,a,d,f,j,g,k⟩] w (dj (.tuple #[]) χ L Y C K p w)) (h:ae w χ L Y C K):
 Calls prog 142 #[(L.mb,0),(L.wb,i*38),z,(b,v),aK ⟨n,a,d,f,j,g,k⟩] w (dM (aB C K i idO c ⟨n,a,d,f,j,g,k⟩) χ L Y C K w):=by
 have l:=Z t;unfold aK aG at l⊢;dsimp only at l⊢;obtain⟨D,u,B,o,x⟩:=h.pre n a d f j g k;obtain⟨t0,t1,t2,t3,t4,t5,t6⟩:=x.1.c7;clear h t;have E:Hid (aB C K i idO c ⟨n,a,d,f,j,g,k⟩=(0,p)):=Z (by rw[<-s];unfold aB;dsimp only;rw[if_neg (by omega),if_neg (by omega),if_neg (by omega),if_neg (by omega),if_neg (by omega),if_neg (by omega),if_pos r]);clear s;rcases r with rfl|rfl|rfl
 all_goals
  go_in
  go_wp2_with fail
  try rw[u]
  clear u;refine(l _ o.at_).mono ?_;rintro e w2 ⟨rfl,A,y,q⟩;have m:=Z (o.trans (Gr.refl _) q);clear q;go_wp2
  go_ret;rw[E];exact⟨rfl,A,y,m.at_,m.nx,fun _=>m.yk⟩
theorem xz(i:Nat)(c:bN)(b p:Nat)(n a d e g f j:Int)(l:n=24∨n=28∨n=51∨n=53∨n=55∨n=56∨n=57∨n=58)(h:ae w χ L Y C K):
 Calls prog 142 #[(L.mb,0),(L.wb,i*38),.pointer none,(b,p),aK ⟨n,a,d,e,g,f,j⟩] w (dM (aB C K i none c ⟨n,a,d,e,g,f,j⟩) χ L Y C K w):=by
 unfold aK aG;dsimp only;obtain⟨r,o,q,k,m⟩:=h.pre n a d e g f j;obtain⟨t0,t1,t2,t3,t4,t5,t6⟩:=m.1.c7;have E:Hid (aB C K i none c ⟨n,a,d,e,g,f,j⟩=(0,K)):=Z (by unfold aB;exact if_pos l);clear h t1 t2 t3 t4 t5 t6;rcases l with rfl|rfl|rfl|rfl|rfl|rfl|rfl|rfl
 all_goals
  go_in
  go_wp2
  try rw[o]
  go_ret;rw[E];exact⟨rfl,χ,Y,k.at_,k.nx,fun _=>k.yk⟩
end
end
end Go.Proofs.YtfnilkpkogipfaaGreatDoor
