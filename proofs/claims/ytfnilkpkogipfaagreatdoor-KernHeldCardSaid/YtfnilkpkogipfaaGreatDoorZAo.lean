import Derived.Test.YtfnilkpkogipfaaGreatDoorZAn
set_option linter.all false
set_option maxRecDepth 100000
set_option maxHeartbeats 8000000
namespace Go.Proofs.YtfnilkpkogipfaaGreatDoor
open Go.RowKit Go.Proofs.Tryz
section
section
variable{w w':World}{χ:Nat->a4}{L:cw}{Y:Var}{C:KC}{K:KS}
theorem cG{ov:Value}{nw:Nat}{en at_ wn dr:Int}(a:C.rows.length=1000)(j:Nat)(b:j<14):(cF L ov C nw en at_ wn dr)[1007+j]?=(g0 L ov nw en at_ wn dr)[j]?:=by
 unfold cF;rw[List.getElem?_append_right (by show 7<=_;omega),List.getElem?_append_right (by rw[List.length_map,a];show 1000<=1007+j-7;omega)]
 congr 1
 rw[List.length_map,a];show 1007+j-7-1000=j;omega
theorem ae.fz(h:ae w χ L Y C K)(i:Nat):w.frozen? (L.mb,i)=false:=(h.head (by simp)).row.free i
theorem ae.EN(h:ae w χ L Y C K):L.mb<w.heap.size:=(h.head (by simp)).row.lt
theorem ae.CA(h:ae w χ L Y C K){i:Nat}{r:Int}(a:C.rows[i]?=some r):w.cell? (L.mb,7+i)=some (.int .i64 r):=by
 have b:=h.head (by simp);refine b.row.cell ?_;have c:=(List.getElem?_eq_some_iff.1 a).1;unfold cF;rw[List.getElem?_append_right (by show 7<=_;omega),List.getElem?_append_left (by rw[List.length_map];show 7+i-7<_;omega),List.getElem?_map];rw[show 7+i-(ku C L).length=i from by show 7+i-7=i;omega,a];rfl
theorem ae.c0(h:ae w χ L Y C K):w.cell? (L.mb,0)=some (.slice L.lc C.dx.length L.BT):=(h.head (by simp)).row.cell (by unfold cF;rfl)
theorem ae.c1(h:ae w χ L Y C K):w.cell? (L.mb,1)=some (.int .i64 C.loop):=(h.head (by simp)).row.cell (by unfold cF;rfl)
theorem ae.c2(h:ae w χ L Y C K):w.cell? (L.mb,2)=some (.slice L.ll C.calls.length L.Et):=(h.head (by simp)).row.cell (by unfold cF;rfl)
theorem ae.c3(h:ae w χ L Y C K):w.cell? (L.mb,3)=some (.slice L.pc C.bn.length L.AY):=(h.head (by simp)).row.cell (by unfold cF;rfl)
theorem ae.c4(h:ae w χ L Y C K):w.cell? (L.mb,4)=some (.int .i64 C.entry):=(h.head (by simp)).row.cell (by unfold cF;rfl)
theorem ae.c5(h:ae w χ L Y C K):w.cell? (L.mb,5)=some (.int .i64 C.wide):=(h.head (by simp)).row.cell (by unfold cF;rfl)
theorem ae.c6(h:ae w χ L Y C K):w.cell? (L.mb,6)=some (.int .i64 C.narrow):=(h.head (by simp)).row.cell (by unfold cF;rfl)
theorem ae.cP(h:ae w χ L Y C K):w.cell? (L.mb,1007)=some (.pointer (some (L.m,0))):=(h.head (by simp)).row.cell ((cG (h.head (by simp)).rows 0 (by omega)).trans rfl)
theorem ae.oG(h:ae w χ L Y C K):w.cell? (L.mb,1008)=some (.pointer (some (L.ab,0))):=(h.head (by simp)).row.cell ((cG (h.head (by simp)).rows 1 (by omega)).trans rfl)
theorem ae.jH(h:ae w χ L Y C K):w.cell? (L.mb,1009)=some (.pointer (some (L.cb,0))):=(h.head (by simp)).row.cell ((cG (h.head (by simp)).rows 2 (by omega)).trans rfl)
theorem ae.nr(h:ae w χ L Y C K):w.cell? (L.mb,1010)=some (.pointer (some (L.rb,0))):=(h.head (by simp)).row.cell ((cG (h.head (by simp)).rows 3 (by omega)).trans rfl)
theorem ae.xM(h:ae w χ L Y C K):w.cell? (L.mb,1011)=some (.pointer (some (L.qb,0))):=(h.head (by simp)).row.cell ((cG (h.head (by simp)).rows 4 (by omega)).trans rfl)
theorem ae.eh(h:ae w χ L Y C K):w.cell? (L.mb,1012)=some (.pointer (some (L.tb,0))):=(h.head (by simp)).row.cell ((cG (h.head (by simp)).rows 5 (by omega)).trans rfl)
theorem ae.iF(h:ae w χ L Y C K):w.cell? (L.mb,1013)=some (.pointer (some (L.ob,0))):=(h.head (by simp)).row.cell ((cG (h.head (by simp)).rows 6 (by omega)).trans rfl)
theorem ae.iG(h:ae w χ L Y C K):w.cell? (L.mb,1014)=some (.map (some L.tm)):=(h.head (by simp)).row.cell ((cG (h.head (by simp)).rows 7 (by omega)).trans rfl)
theorem ae.p7(h:ae w χ L Y C K):w.cell? (L.mb,1015)=some (.slice (some (L.wb,0)) K.wk.length K.wk.length):=(h.head (by simp)).row.cell ((cG (h.head (by simp)).rows 8 (by omega)).trans rfl)
theorem ae.DM(h:ae w χ L Y C K):w.cell? (L.mb,1016)=some (.int .i64 K.entries):=(h.head (by simp)).row.cell ((cG (h.head (by simp)).rows 9 (by omega)).trans rfl)
theorem ae.Fg(h:ae w χ L Y C K):w.cell? (L.mb,1017)=some (.int .i64 K.at_):=(h.head (by simp)).row.cell ((cG (h.head (by simp)).rows 10 (by omega)).trans rfl)
theorem ae.Eu(h:ae w χ L Y C K):w.cell? (L.mb,1018)=some (.int .i64 K.w):=(h.head (by simp)).row.cell ((cG (h.head (by simp)).rows 11 (by omega)).trans rfl)
theorem ae.BV(h:ae w χ L Y C K):w.cell? (L.mb,1019)=some (.int .u64 K.draw):=(h.head (by simp)).row.cell ((cG (h.head (by simp)).rows 12 (by omega)).trans rfl)
theorem ae.rr(h:ae w χ L Y C K):w.cell? (L.mb,1020)=some (Y.ov):=(h.head (by simp)).row.cell ((cG (h.head (by simp)).rows 13 (by omega)).trans rfl)
theorem dB.trans{K1 a:KS}{d e:Nat->a4}{b c:Var}{w1 w2:World}(h:dB χ L Y C K K1 w d b w1)(g:Gr K K1)(k:dB d L b C K1 a w1 e c w2):dB χ L Y C K a w e c w2:=⟨k.at_,h.nx.trans k.nx,h.yk.trans g k.yk⟩
theorem dB.refl(h:ae w χ L Y C K):dB χ L Y C K K w χ Y w:=⟨h,Nx.refl _ _,Yk.refl _ _⟩
theorem dB.af{K1:KS}{b:Nat->a4}{a:Var}{w1 w2:World}(h:dB χ L Y C K K1 w b a w1)(c:Ch ag w1 w2):dB χ L Y C K K1 w b a w2:=⟨h.at_.af c,h.nx.trans (Nx.af c),h.yk⟩
theorem p9(id s:Int)(hid:aH id)(h:ae w χ L Y C K):Calls prog 139 #[(L.tb,0),.int .u64 id,s] w (np (jJ K.table id s).1 χ L Y C K {K with table:=(jJ K.table id s).2} w):=
 (vw L.tb L.tg K.table id s hid w (h.cX (by simp)).is).mono fun _ _ ⟨a,b,c⟩=>⟨a,_,_,h.l8 b c⟩
theorem p'(id v:Int)(hid:aH id)(h:ae w χ L Y C K):Calls prog 173 #[(L.tb,0),.int .u64 id,.int .u64 v] w (np (fW K.table id v).1 χ L Y C K {K with table:=(fW K.table id v).2} w):=
 (sR L.tb L.tg K.table id v hid w (h.cX (by simp)).is).mono fun _ _ ⟨a,b,c⟩=>⟨a,_,_,h.l8 b c⟩
theorem yF(id a:Int)(hid:aH id)(h:ae w χ L Y C K):Calls prog 188 #[(L.tb,0),.int .u64 id,.int .u64 a] w (np (g9 K.table id a).1 χ L Y C K {K with table:=(g9 K.table id a).2} w):=
 (qT L.tb L.tg K.table id a hid w (h.cX (by simp)).is).mono fun _ _ ⟨b,c,d⟩=>⟨b,_,_,h.l8 c d⟩
theorem v9(id:Int)(hid:aH id)(h:ae w χ L Y C K):Calls prog 195 #[(L.tb,0),.int .u64 id] w (np (eZ K.table id).1 χ L Y C K {K with table:=(eZ K.table id).2} w):=
 (pV L.tb L.tg K.table id hid w (h.cX (by simp)).is).mono fun _ _ ⟨a,b,c⟩=>⟨a,_,_,h.l8 b c⟩
theorem v'(id:Int)(hid:aH id)(h:ae w χ L Y C K):Calls prog 204 #[(L.tb,0),.int .u64 id] w (np (eF K.table id).1 χ L Y C K {K with table:=(eF K.table id).2} w):=
 (pW L.tb L.tg K.table id hid w (h.cX (by simp)).is).mono fun _ _ ⟨a,b,c⟩=>⟨a,_,_,h.l8 b c⟩
theorem ti(id:Int)(hid:aH id)(h:ae w χ L Y C K):Calls prog 198 #[(L.tb,0),.int .u64 id] w (d' (.int .i64 (dV K.table id)) w):=
 oF L.tb L.tg K.table id hid w (h.cX (by simp)).is
theorem kv(id:Int)(hid:aH id)(h:ae w χ L Y C K):Calls prog 138 #[(L.tb,0),.int .u64 id] w (dt (.tuple #[(fq K.table id).1.val,.bool (fq K.table id).2]) w):=
 q4 L.tb L.tg K.table id hid w (h.cX (by simp)).is
def DN(x:Bool×Int×Int×Bool×List aD)(χ:Nat->a4)(L:cw)(Y:Var)(C:KC)(K:KS)(w:World)(e:Ending)(w':World):Prop:=
 (∃v,e=.returned (.tuple #[.int .u64 x.2.1,.int .u64 x.2.2.1,.bool x.2.2.2.1,v])/\(if x.1 then v=.nilIface else aq v))/\∃aW Y',dB χ L Y C K {K with table:=x.2.2.2.2} w aW Y' w'
theorem yG(id:Int)(hid:aH id)(h:ae w χ L Y C K):Calls prog 197 #[(L.tb,0),.int .u64 id] w (DN (fs K.table id) χ L Y C K w):=
 (q5 L.tb L.tg K.table id hid w (h.cX (by simp)).is).mono fun _ _ ⟨a,b,c⟩=>⟨a,_,_,h.l8 b c⟩
theorem rs(home:Int)(h:ae w χ L Y C K):Calls prog 99 #[(L.tb,0),.int .u64 home] w (v8 (db K.table home).1 χ L Y C K {K with table:=(db K.table home).2} w):=
 (l5 L.tb L.tg K.table home w (h.cX (by simp)).is).mono fun _ _ ⟨a,b,c⟩=>⟨a,_,_,h.l8 b c⟩
theorem yH(v:Int)(h:ae w χ L Y C K):Calls prog 59 #[(L.rb,0),.int .u64 v] w (np (g6 K.ring v).1 χ L Y C K {K with ring:=(g6 K.ring v).2} w):=
 (l6 L.rb L.rg K.ring v w (h.ring (by simp)).is).mono fun _ _ ⟨a,b,c⟩=>⟨a,_,_,h.tf b c⟩
theorem wa(h:ae w χ L Y C K):Calls prog 191 #[(L.rb,0)] w (de (.tuple #[.int .u64 (gG K.ring).1,.bool (gG K.ring).2.1]) χ L Y C K {K with ring:=(gG K.ring).2.2} w):=
 (pX L.rb L.rg K.ring w (h.ring (by simp)).is).mono fun _ _ ⟨a,b,c⟩=>⟨a,_,_,h.tf b c⟩
theorem gN{i:Nat}(h:di L.m L.c i):i=L.m∨i=L.c∨i=L.d:=h.imp id Or.inl
def l9(x:Option Int)(χ:Nat->a4)(L:cw)(Y:Var)(C:KC)(K K':KS)(w:World)(e:Ending)(w':World):Prop:=v8 x χ L Y C K K' w e w'/\Ch (fun i=>χ i=.mem) w w'
theorem ae.A2(h:ae w χ L Y C K)(c:Ch (di L.m L.c) w w'):Ch (fun i=>χ i=.mem) w w':=c.mono fun i b=>by
 have a:=h.mem (by simp);rcases b with rfl|rfl
 ·exact a.k1
 ·exact a.k2
theorem tj(a:Int)(e:aH a)(h:ae w χ L Y C K):Calls prog 30 #[(L.m,0),.int .u64 a] w (l9 (K.mem.acc 0 a 0 0).1 χ L Y C K {K with mem:=(K.mem.acc 0 a 0 0).2} w):=
 (lW L.m L.c L.d K.mem a e w (h.mem (by simp)).is).mono fun _ _ ⟨c,d,b⟩=>⟨⟨c,_,_,h.o3 d b fun _ f=>gN f⟩,h.A2 b⟩
theorem DO(a:Int)(b:aH a)(h:ae w χ L Y C K):Calls prog 30 #[(L.m,0),.int .u64 a] w (v8 (K.mem.acc 0 a 0 0).1 χ L Y C K {K with mem:=(K.mem.acc 0 a 0 0).2} w):=
 (tj a b h).mono fun _ _ h=>h.1
theorem CB(a v:Int)(e:aH a)(g:aH v)(h:ae w χ L Y C K):Calls prog 230 #[(L.m,0),.int .u64 a,.int .u64 v] w (l9 (K.mem.acc 2 a 0 v).1 χ L Y C K {K with mem:=(K.mem.acc 2 a 0 v).2} w):=
 (lX L.m L.c L.d K.mem a v e g w (h.mem (by simp)).is).mono fun _ _ ⟨c,d,b⟩=>⟨⟨c,_,_,h.o3 d b fun _ f=>gN f⟩,h.A2 b⟩
theorem BW(a v:Int)(e:aH a)(g:aH v)(h:ae w χ L Y C K):Calls prog 140 #[(L.m,0),.int .u64 a,.int .u64 v] w (l9 (K.mem.acc 3 a 0 v).1 χ L Y C K {K with mem:=(K.mem.acc 3 a 0 v).2} w):=
 (mY L.m L.c L.d K.mem a v e g w (h.mem (by simp)).is).mono fun _ _ ⟨c,d,b⟩=>⟨⟨c,_,_,h.o3 d b fun _ f=>gN f⟩,h.A2 b⟩
theorem EO(a v:Int)(b:aH a)(c:aH v)(h:ae w χ L Y C K):Calls prog 140 #[(L.m,0),.int .u64 a,.int .u64 v] w (v8 (K.mem.acc 3 a 0 v).1 χ L Y C K {K with mem:=(K.mem.acc 3 a 0 v).2} w):=
 (BW a v b c h).mono fun _ _ h=>h.1
theorem BX(a b v:Int)(f:aH a)(i:aH v)(h:ae w χ L Y C K):Calls prog 189 #[(L.m,0),.int .u64 a,.int .u64 b,.int .u64 v] w (l9 (K.mem.acc 4 a b v).1 χ L Y C K {K with mem:=(K.mem.acc 4 a b v).2} w):=
 (mZ L.m L.c L.d K.mem a b v f i w (h.mem (by simp)).is).mono fun _ _ ⟨d,e,c⟩=>⟨⟨d,_,_,h.o3 e c fun _ g=>gN g⟩,h.A2 c⟩
theorem EP(a b v:Int)(c:aH a)(d:aH v)(h:ae w χ L Y C K):Calls prog 189 #[(L.m,0),.int .u64 a,.int .u64 b,.int .u64 v] w (v8 (K.mem.acc 4 a b v).1 χ L Y C K {K with mem:=(K.mem.acc 4 a b v).2} w):=
 (BX a b v c d h).mono fun _ _ h=>h.1
theorem CC(a v:Int)(e:aH a)(g:aH v)(h:ae w χ L Y C K):Calls prog 95 #[(L.m,0),.int .u64 a,.int .u64 v] w (np (K.mem.acc 1 a 0 v).1.isSome χ L Y C K {K with mem:=(K.mem.acc 1 a 0 v).2} w):=
 (eo L.m L.c L.d K.mem a v e g w (h.mem (by simp)).is).mono fun _ _ ⟨b,c,d⟩=>⟨b,_,_,h.o3 c d fun _ f=>gN f⟩
theorem yI(a:Int)(b:aH a)(h:ae w χ L Y C K):Calls prog 121 #[(L.m,0),.int .u64 a] w (d' (.int .i64 (K.mem.wid a)) w):=
 oQ L.m L.c L.d K.mem a b w (h.mem (by simp)).is
theorem yJ(a k:Int)(h:ae w χ L Y C K):Calls prog 172 #[(L.ob,0),.int .u64 a,k] w (yn (ga K.cV a k) w):=
 q7 L.ob L.og K.cV a k w (h.obj (by simp)).is
theorem DP(k a:Int)(h:ae w χ L Y C K):Calls prog 192 #[(L.ob,0),k,.int .u64 a] w (v8 (fH K.cV k a).1 χ L Y C K {K with cV:=(fH K.cV k a).2} w):=
 (q9 L.ob L.og K.cV k a w (h.obj (by simp)).is).mono fun _ _ ⟨b,c,d⟩=>⟨b,_,_,h.BU c d⟩
theorem DQ(a:Int)(h:ae w χ L Y C K):Calls prog 193 #[(L.ob,0),.int .u64 a] w (np (iC K.cV a).1 χ L Y C K {K with cV:=(iC K.cV a).2} w):=
 (q8 L.ob L.og K.cV a w (h.obj (by simp)).is).mono fun _ _ ⟨b,c,d⟩=>⟨b,_,_,h.BU c d⟩
structure aN.Ok(S:aN):Prop where
 wf:S.heap.WF
 len:S.heap.l.length<=900000
theorem CD(h:ae w χ L Y C K):Calls prog 63 #[(L.cb,0)] w (d' (.int .u64 K.clock.now) w):=
 pM L.cb L.ch L.cm L.cq Y.hv K.clock w (h.bW (by simp)).is
theorem kx(id:Int)(a:K.clock.Ok)(h:ae w χ L Y C K):Calls prog 200 #[(L.cb,0),.int .u64 id] w (de (.bool (K.clock.bl id).1) χ L Y C K {K with clock:=(K.clock.bl id).2} w):=
 (mq L.cb L.ch L.cm L.cq Y.hv K.clock id a.len a.wf w (h.bW (by simp)).is).mono fun _ _ ⟨b,⟨v,c,d⟩,e⟩=>⟨b,_,_,h.yE c d e⟩
theorem ER(id dl:Int)(e:K.clock.Ok)(h:ae w χ L Y C K):Calls prog 187 #[(L.cb,0),.int .u64 id,.int .u64 dl] w (np (K.clock.arm id dl).1 χ L Y C K {K with clock:=(K.clock.arm id dl).2} w):=
 (pN L.cb L.ch L.cm L.cq Y.hv K.clock id dl e.len w (h.bW (by simp)).is).mono fun _ _ ⟨a,⟨v,b,c⟩,d⟩=>⟨a,_,_,h.yE b c d⟩
theorem yK{w:World}{B:Nat}{e:TypeId}{z:Nat}{v:Value}{n:Nat}{c:List Value}(h:w.ownsRow B e z v n c):∀g,v.ownBlock=some g->B<=g:=fun g a=>by
 rcases h.2 with⟨rfl,_⟩|⟨b,cap,cur,rfl,d,_⟩
 ·cases a
 ·have:b=g:=by simpa[Value.ownBlock]using a
  omega
def ES(x:Option Nat)(χ:Nat->a4)(L:cw)(Y:Var)(C:KC)(K K':KS)(w:World)(e:Ending)(w':World):Prop:=
 (match x with
  |some a=>e=.returned (.tuple #[.int .i64 a,.nilIface])
  |none=>∃u,e=.returned (.tuple #[.int .i64 0,u])/\aq u)/\∃aW Y',dB χ L Y C K K' w aW Y' w'
theorem ru(n:Nat)(f:n<=1000000)(g:K.blocks.Ok)(h:ae w χ L Y C K):Calls prog 98 #[(L.ab,0),.int .i64 n,.int .i64 64] w (ES (c' K.blocks K.mem n).1 χ L Y C K {K with blocks:=(c' K.blocks K.mem n).2.1,mem:=(c' K.blocks K.mem n).2.2} w):=
 (kk L.ab L.m L.c L.d Y.av K.blocks K.mem g n f w (h.al (by simp)).is (h.mem (by simp)).is).mono fun _ _ ⟨a,⟨v,b,c⟩,d,e⟩=>⟨a,_,_,h.A1 b c d e⟩
theorem yL(a:Int)(g:K.blocks.Ok)(h:ae w χ L Y C K):Calls prog 100 #[(L.ab,0),a] w (np (mr K.blocks K.mem a).1 χ L Y C K (iS K a) w):=
 (kl L.ab L.m L.c L.d Y.av K.blocks K.mem g a w (h.al (by simp)).is (h.mem (by simp)).is).mono fun _ _ ⟨b,⟨v,c,d⟩,e,f⟩=>⟨b,_,_,h.A1 c d e f⟩
theorem ae.A3{v:Value}{a:List (List hx)}{e:Ending}(h:ae w χ L Y C K)(i:yt v L.qb L.ql L.qm Y.ls a w e w'):de v χ L Y C K {K with q:=a} w e w':=by
 obtain⟨b,j,c,rfl,d,f,_⟩:=i;obtain⟨aW,g⟩:=h.Fw c d f;exact⟨b,aW,_,g⟩
theorem ns(id:Int)(h:ae w χ L Y C K):Calls prog 107 #[(L.qb,0),.int .u64 id] w (de (.bool (dy K.q id).1) χ L Y C K {K with q:=(dy K.q id).2} w):=by
 have a:=h.q (by simp);have:=oZ L.qb L.ql L.qm Y.ls id w a.is;rw[a.b2]at this;exact this.mono fun _ _ b=>h.A3 b
theorem CE(a m:Int)(h:ae w χ L Y C K):Calls prog 199 #[(L.qb,0),.int .u64 a,.int .u64 m] w (de (.tuple #[.int .u64 (ez K.q a m).1,.bool (ez K.q a m).2.1]) χ L Y C K {K with q:=(ez K.q a m).2.2} w):=by
 have b:=h.q (by simp);have:=v3 L.qb L.ql L.qm Y.ls a m w b.is;rw[b.b2]at this;exact this.mono fun _ _ c=>h.A3 c
theorem CF(a m:Int)(h:ae w χ L Y C K):Calls prog 201 #[(L.qb,0),.int .u64 a,.int .u64 m] w (de (.tuple #[.int .u64 (hK K.q a m).1,.bool (hK K.q a m).2.1]) χ L Y C K {K with q:=(hK K.q a m).2.2} w):=by
 have b:=h.q (by simp);have:=v5 L.qb L.ql L.qm Y.ls a m w b.is;rw[b.b2]at this;exact this.mono fun _ _ c=>h.A3 c
theorem DR(a m:Int)(h:ae w χ L Y C K):Calls prog 202 #[(L.qb,0),.int .u64 a,.int .u64 m] w (yv (vR K.q a m) w):=by
 have b:=h.q (by simp);have:=yw L.qb L.ql L.qm Y.ls a m w b.is
 rwa [b.b2]at this
theorem uS(id:Int)(h:ae w χ L Y C K):Calls prog 77 #[(L.qb,0),.int .u64 id] w (rm (hJ K.q id) w):=by
 have a:=h.q (by simp);have:=te L.qb L.ql L.qm Y.ls id w a.is
 rwa [a.b2]at this
end
end
section
theorem jW{l:List ak}{wv:Nat->Value}{i:Nat}{x:ak}(h:l[i]?=some x):(dd l wv)[i]?=some (x,wv i):=by
 unfold dd;rw[List.getElem?_map,List.getElem?_zipIdx,h];simp
theorem nt(l:List ak)(wv:Nat->Value):(dd l wv).length=l.length:=by simp[dd]
theorem tk{l:List ak}{wv:Nat->Value}{i:Nat}{c:ak}{v:Value}(b:i<l.length):(dd l wv).set i (c,v)=dd (l.set i c) (fun j=>if j=i then v else wv j):=by
 apply List.ext_getElem?;intro j;unfold dd;rw[List.getElem?_map,List.getElem?_zipIdx];by_cases a:i=j
 ·subst a
  rw[List.getElem?_set_self (by simpa using b),List.getElem?_set_self b];simp
 ·rw[List.getElem?_set_ne a,List.getElem?_set_ne a,List.getElem?_map,List.getElem?_zipIdx]
  cases l[j]? with
  |none=>rfl
  |some y=>simp[Ne.symm a]
def fv(x:ak×Value):List Value:=x.1.cells x.2
theorem rv{α:Type}{enc:α->List Value}{l:List α}{i:Nat}{x:α}(h:l[i]?=some x):l.flatMap enc=(l.take i).flatMap enc++(enc x++(l.drop (i+1)).flatMap enc):=by
 obtain⟨a,rfl⟩:=List.getElem?_eq_some_iff.1 h
 calc l.flatMap enc=(l.take i++l.drop i).flatMap enc:=by rw[List.take_append_drop]
  _=_:=by rw[List.drop_eq_getElem_cons a,List.flatMap_append,List.flatMap_cons]
section
variable{w w':World}{χ:Nat->a4}{L:cw}{Y:Var}{C:KC}{K:KS}
theorem KS.A4{i:Nat}{x:ak}(h:K.wk[i]?=some x):K.W i=x:=by
 unfold KS.W;rw[List.getD_eq_getElem?_getD,h];rfl
theorem KS.gy{i:Nat}(h:i<K.wk.length):K.wk[i]?=some (K.W i):=by
 unfold KS.W;rw[List.getD_eq_getElem?_getD,List.getElem?_eq_getElem h];rfl
theorem KS.df{id:Int}{t:Thread}(h:aw K.ai id=some t):K.T id=t:=by unfold KS.T;rw[h];rfl
theorem ae.ry(h:ae w χ L Y C K){i:Nat}(a:i<K.wk.length)(j:Nat){v:Value}(b:j<38)(c:((K.W i).cells (Y.wv i))[j]?=some v):w.cell? (L.wb,i*38+j)=some v:=
 (h.wk (by simp)).is.at (enc:=fun x:ak×Value=>x.1.cells x.2) ak.len (jW (KS.gy a)) b c
theorem ae.ky(h:ae w χ L Y C K){i:Nat}(a:i<K.wk.length):w.cell? (L.wb,i*38)=some (.int .u64 (K.W i).slot):=h.ry a 0 (by omega) rfl
theorem ae.e7(h:ae w χ L Y C K){i:Nat}(a:i<K.wk.length):w.cell? (L.wb,i*38+1)=some (.int .u64 (K.W i).hand):=h.ry a 1 (by omega) rfl
theorem ae.qa(h:ae w χ L Y C K){i:Nat}(a:i<K.wk.length):w.cell? (L.wb,i*38+2)=some (.bool (K.W i).parked):=h.ry a 2 (by omega) rfl
theorem ae.yM(h:ae w χ L Y C K){i:Nat}(a:i<K.wk.length):w.cell? (L.wb,i*38+3)=some (.int .i64 (K.W i).left):=h.ry a 3 (by omega) rfl
theorem ae.tn(h:ae w χ L Y C K)(j:Nat):w.frozen? (L.wb,j)=false:=(h.wk (by simp)).is.free j
theorem ae.tp(h:ae w χ L Y C K){i:Nat}(a:i<K.wk.length):∃pre post,aG w L.wb (i*38+4) 148 pre post (Y.wv i) (K.W i).f/\
 pre=((dd K.wk Y.wv).take i).flatMap fv++[.int .u64 (K.W i).slot,.int .u64 (K.W i).hand,.bool (K.W i).parked,.int .i64 (K.W i).left]/\post=((dd K.wk Y.wv).drop (i+1)).flatMap fv:=by
 have b:=h.wk (by simp);refine⟨_,_,⟨?_,?_,b.back i _ (KS.gy a)⟩,rfl,rfl⟩
 ·have:=b.is
  rw[show((dd K.wk Y.wv).flatMap fun x=>x.1.cells x.2)=(dd K.wk Y.wv).flatMap fv from rfl,rv (enc:=fv) (jW (wv:=Y.wv) (KS.gy a))]at this;rw[List.append_assoc];unfold fv ak.cells at this⊢;simpa[List.append_assoc]using this
 ·rw[List.length_append,a7 (enc:=fv) ak.len,List.length_take,nt]
  show min i K.wk.length*38+4=_
  rw[Nat.min_eq_left (by omega)]
theorem ae.BY(h:ae w χ L Y C K){i:Nat}(f:i<K.wk.length){x:ak}{v:Value}{D:Nat->Prop}(o:Row w' L.wb 148 (((dd K.wk Y.wv).set i (x,v)).flatMap fv))(hb:cp w' v x.f.back)(r:aQ w (Y.wv i) v)
 (c:Ch D w w') (n:∀k,D k->k=L.wb):∃aW Y',dB χ L Y C K (K.be i x) w aW Y' w'/\Y'.wv i=v:=by
 have d:=h.wk (by simp);have s:eI [.wk] χ (cJ χ v.ownBlock .back) D w w':=eI.cJ c (fun k _ q=>by rw[n k q];simp[d.k]) h.small r (fun g a=>d.kb i _ (KS.gy f) g a) (fun g a=>cB hb a);refine⟨_,{Y with wv:=fun j=>if j=i then v else Y.wv j},⟨(h.step s (by simp)).Ft (l:=K.wk.set i x) (by simp) ⟨?_,(s.same _ d.is.lt).trans d.k,?_,?_,by rw[List.length_set];exact d.n⟩,Nx.of s (by simp),Yk.refl _ _⟩,by simp⟩
 ·rw[tk f]at o;exact o
 ·intro j y b
  show cp w' (if j=i then v else Y.wv j) y.f.back
  by_cases e:i=j
  ·subst e
   rw[List.getElem?_set_self f]at b;injection b with b
   subst b;rw[if_pos rfl];exact hb
  ·rw[List.getElem?_set_ne e]at b
   rw[if_neg (fun h=>e h.symm)];exact(d.back j y b).ch c (fun g a p=>by
    have m:=d.kb j y b g a;rw[n g p,d.k]at m;cases m)
 ·intro j y b g a
  change(if j=i then v else Y.wv j).ownBlock=some g at a;by_cases e:j=i
  ·rw[if_pos e]at a;exact hN g a
  ·rw[if_neg e]at a
   rw[List.getElem?_set_ne (fun h=>e h.symm)]at b;exact(s.same _ (cB (d.back j y b) a)).trans (d.kb j y b g a)
theorem ae.uT(h:ae w χ L Y C K){i:Nat}(a:i<K.wk.length){x:ak}(j:Nat)(m:j<38){v:Value}(f:x.f=(K.W i).f)(q:((K.W i).cells (Y.wv i)).set j v=x.cells (Y.wv i)):
 ∃aW Y',dB χ L Y C K (K.be i x) w aW Y' (w.setCell (L.wb,i*38+j) v):=by
 have b:=h.wk (by simp);have p:Row (w.setCell (L.wb,i*38+j) v) L.wb 148 (((dd K.wk Y.wv).set i (x,Y.wv i)).flatMap fv):=b.is.put (enc:=fun x:ak×Value=>x.1.cells x.2) ak.len (jW (KS.gy a)) m q;have d:Ch (aK L.wb) w (w.setCell (L.wb,i*38+j) v):=(Ch.refl _ _).only _ _;obtain⟨aW,Y',o,_⟩:=h.BY a p (by
  rw[f];exact(b.back i _ (KS.gy a)).ch d (fun g l e=>by
   have c:=b.kb i _ (KS.gy a) g l;rw[show g=L.wb from e,b.k]at c;cases c)) (aQ.refl _ _) d (fun k n=>n)
 exact⟨aW,Y',o⟩
theorem ae.uU(h:ae w χ L Y C K){i:Nat}(a:i<K.wk.length)(v:Int):∃aW Y',dB χ L Y C K (K.be i {K.W i with slot:=v}) w aW Y' (w.setCell (L.wb,i*38) (.int .u64 v)):=h.uT a 0 (by omega) rfl rfl
theorem ae.jx(h:ae w χ L Y C K){i:Nat}(a:i<K.wk.length)(v:Int):∃aW Y',dB χ L Y C K (K.be i {K.W i with hand:=v}) w aW Y' (w.setCell (L.wb,i*38+1) (.int .u64 v)):=h.uT a 1 (by omega) rfl rfl
theorem ae.o4(h:ae w χ L Y C K){i:Nat}(a:i<K.wk.length)(v:Bool):∃aW Y',dB χ L Y C K (K.be i {K.W i with parked:=v}) w aW Y' (w.setCell (L.wb,i*38+2) (.bool v)):=h.uT a 2 (by omega) rfl rfl
theorem ae.uV(h:ae w χ L Y C K){i:Nat}(a:i<K.wk.length)(v:Int):∃aW Y',dB χ L Y C K (K.be i {K.W i with left:=v}) w aW Y' (w.setCell (L.wb,i*38+3) (.int .i64 v)):=h.uT a 3 (by omega) rfl rfl
def aj(K:KS):bK->Prop
 |.own i=>i<K.wk.length
 |.ai id k=>∃t,aw K.ai id=some t/\k<t.l.length
def qd:bK->TypeId
 |.own _=>148
 |.ai _ _=>179
theorem kz(c:bK):qd c≠3:=by
 cases c with
 |own _=>exact(by decide:(148:TypeId)≠3)
 |ai _ _=>exact(by decide:(179:TypeId)≠3)
def aP(L:cw)(Y:Var):bK->Nat->Nat->Prop
 |.own i,b,a=>b=L.wb/\a=i*38+4
 |.ai id k,b,a=>b=Y.fb id k/\a=0
theorem aP.yk{Y':Var}{c:bK}{b a:Nat}(h:aP L Y c b a)(d:aj K c)(g:Yk K Y Y'):aP L Y' c b a:=by
 cases c with
 |own i=>exact h
 |ai id k=>
  obtain⟨t,f,e⟩:=d;exact⟨h.1.trans ((g id t f).2 k e).symm,h.2⟩
theorem aj.gr{K':KS}{c:bK}(a:aj K c)(b:Gr K K')(f:K'.wk.length=K.wk.length):aj K' c:=by
 cases c with
 |own i=>show i<_;rw[f];exact a
 |ai id k=>
  obtain⟨t,d,h⟩:=a;obtain⟨g,e,j⟩:=b id t d;exact⟨g,e,by omega⟩
theorem ae.cur(h:ae w χ L Y C K){c:bK}(a:aj K c){b g:Nat}(e:aP L Y c b g):∃pre post v,aG w b g (qd c) pre post v (K.F c):=by
 cases c with
 |own i=>
  obtain⟨rfl,rfl⟩:=e;obtain⟨pre,post,j,_⟩:=h.tp a;exact⟨_,_,_,j⟩
 |ai id k=>
  obtain⟨rfl,rfl⟩:=e;obtain⟨t,f,d⟩:=a;have:=h.fr id t k _ f (List.getElem?_eq_getElem d) (by simp);refine⟨[],(t.l[k]).post,Y.bv id k,?_⟩;rw[show K.F (.ai id k)=(t.l[k]).f from by
   show((K.T id).l.getD k default).f=_
   rw[KS.df f,List.getD_eq_getElem?_getD,List.getElem?_eq_getElem d];rfl]
  exact this.is
theorem ae.yN(h:ae w χ L Y C K){c:bK}(p:aj K c){b E:Nat}(I:aP L Y c b E){pre post:List Value}{v e:Value}{f:cE}(o:aG w b E (qd c) pre post v (K.F c))(q:aG w' b E (qd c) pre post e f)(H:aQ w v e)(F:Ch (aK b) w w'):
 ∃aW Y',dB χ L Y C K (K.cH c f) w aW Y' w':=by
 cases c with
 |own i=>
  obtain⟨rfl,rfl⟩:=I;obtain⟨J,S,G,B,Q⟩:=h.tp p;have hlen:pre.length=J.length:=by rw[o.len,G.len]
  have y:pre++((K.W i).f.cells v++post)=J++((K.W i).f.cells (Y.wv i)++S):=by
   have d:=o.row;have a:=G.row;unfold Row at d a;rw[d]at a;injection a with a
   injection a with a _ _
   exact congrArg Array.toList a
  obtain⟨rfl,N⟩:=List.append_inj y hlen;obtain⟨z,rfl⟩:=List.append_inj N (by rw[cE.cU,cE.cU]);have D:v=Y.wv i:=by
   have d:=congrArg (fun l=>l[33]?) z;have n:∀u,((K.W i).f.cells u)[33]?=some u:=fun u=>by
    unfold cE.cells;rw[List.getElem?_cons_succ,List.getElem?_append_right (by rw[bq];omega),bq];rfl
   simp only[n]at d;exact Option.some.inj d
  subst D;have U:=h.wk (by simp);obtain⟨aW,Y',P,_⟩:=h.BY (x:={K.W i with f:=f}) (v:=e) p (by
   have:=q.row;rw[B,Q]at this;change Row w' L.wb 148 _ at this;have R:((dd K.wk Y.wv).set i ({K.W i with f:=f},e)).flatMap fv=((dd K.wk Y.wv).take i).flatMap fv++(fv ({K.W i with f:=f},e)++((dd K.wk Y.wv).drop (i+1)).flatMap fv):=by
    have A:i<(dd K.wk Y.wv).length:=by rw[nt];exact p
    rw[rv (enc:=fv) (l:=(dd K.wk Y.wv).set i ({K.W i with f:=f},e)) (i:=i) (List.getElem?_set_self A)];rw[List.take_set_of_le (Nat.le_refl _),List.drop_set_of_lt (by omega)]
   rw[R];unfold fv ak.cells at this⊢;simpa[List.append_assoc]using this) q.back H F (fun k m=>m)
  exact⟨aW,Y',P⟩
 |ai id k=>
  obtain⟨rfl,rfl⟩:=I;obtain⟨t,r,m⟩:=p;have hF:=h.fr id t k _ r (List.getElem?_eq_getElem m) (by simp);have M:K.F (.ai id k)=(t.l[k]).f:=by
   show((K.T id).l.getD k default).f=_
   rw[KS.df r,List.getD_eq_getElem?_getD,List.getElem?_eq_getElem m];rfl
  rw[M]at o;have B:pre=[]:=List.eq_nil_of_length_eq_zero o.len;subst B;have y:(t.l[k]).f.cells v++post=(t.l[k]).f.cells (Y.bv id k)++(t.l[k]).post:=by
   have d:=o.row;have a:=hF.is.row;unfold Row at d a;rw[d]at a;injection a with a
   injection a with a _ _
   simpa using congrArg Array.toList a
  obtain⟨z,rfl⟩:=List.append_inj y (by rw[cE.cU,cE.cU]);have D:v=Y.bv id k:=by
   have d:=congrArg (fun l=>l[33]?) z;have n:∀u,((t.l[k]).f.cells u)[33]?=some u:=fun u=>by
    unfold cE.cells;rw[List.getElem?_cons_succ,List.getElem?_append_right (by rw[bq];omega),bq];rfl
   simp only[n]at d;exact Option.some.inj d
  subst D;have s:eI [.fr id k] χ (cJ χ e.ownBlock .back) (aK (Y.fb id k)) w w':=eI.cJ F (fun i _ A=>by rw[show i=Y.fb id k from A];simp[hF.kf]) h.small H hF.kb (fun g O=>cB q.back O);refine⟨_,{Y with bv:=fun i j=>if i=id/\j=k then e else Y.bv i j},⟨?_,Nx.of s (by simp),?_⟩⟩
  ·have:=(h.step s (by simp)).Fv (f:={t.l[k]with f:=f}) r m ⟨q,(s.same _ hF.is.row.lt).trans hF.kf,hN⟩
   have n:t.l.getD k default=t.l[k]:=by rw[List.getD_eq_getElem?_getD,List.getElem?_eq_getElem m];rfl
   rw[<-n,<-KS.df r]at this;exact this
  ·intro j u T;exact⟨rfl,fun _ _=>rfl⟩
theorem bm(c:bK)(f:cE):(K.cH c f).wk.length=K.wk.length:=by cases c<;>simp[KS.cH,KS.be,KS.b9]
theorem bs{c:bK}(d:aj K c)(f:cE):Gr K (K.cH c f):=by
 cases c with
 |own i=>exact Gr.of_eq rfl
 |ai id k=>
  obtain⟨t0,b,h⟩:=d;intro j u a;show∃g,aw (b8 K.ai id _) j=some g/\_
  rw[aT];by_cases e:j=id
  ·subst e
   rw[b]at a;injection a with a;subst a
   rw[if_pos rfl];exact⟨_,rfl,by simp[KS.df b]⟩
  ·rw[if_neg e];exact⟨u,a,Nat.le_refl _⟩
theorem CG{c:bK}(a:aj K c)(f:cE):(K.cH c f).F c=f:=by
 cases c with
 |own i=>
  show((K.be i _).W i).f=f
  rw[KS.A4 (x:={K.W i with f:=f}) (by show(K.wk.set i _)[i]?=_;rw[List.getElem?_set_self a])]
 |ai id k=>
  obtain⟨t0,d,b⟩:=a;show(((K.b9 id _).T id).l.getD k default).f=f
  rw[KS.df (K:=K.b9 id _) (t:={K.T id with l:=(K.T id).l.set k {(K.T id).l.getD k default with f:=f}}) (by show aw (b8 _ _ _) _=_;rw[aT,if_pos rfl])];rw[List.getD_eq_getElem?_getD,List.getElem?_set_self (by rw[KS.df d];exact b)];rfl
theorem ae.a6(h:ae w χ L Y C K){c:bK}(a:aj K c){b f:Nat}(e:aP L Y c b f)(k:Nat)(g:k<32)(x:Int):∃aW Y',dB χ L Y C K (K.au c k x) w aW Y' (w.setCell (b,f+1+k) (.int .u64 x)):=by
 obtain⟨pre,post,v,d⟩:=h.cur a e;exact h.yN a e d (d.pR (kz c) k g x) (aQ.refl _ _) ((Ch.refl _ _).only _ _)
theorem ae.qe(h:ae w χ L Y C K){c:bK}(a:aj K c){b f:Nat}(e:aP L Y c b f)(p:Int):∃aW Y',dB χ L Y C K (K.cH c {K.F c with pc:=p}) w aW Y' (w.setCell (b,f) (.int .i64 p)):=by
 obtain⟨pre,post,v,d⟩:=h.cur a e;exact h.yN a e d (d.jF (kz c) p) (aQ.refl _ _) ((Ch.refl _ _).only _ _)
theorem ae.az(h:ae w χ L Y C K){c:bK}(d:aj K c){b a:Nat}(g:aP L Y c b a)(k:Nat)(f:k<32):w.cell? (b,a+1+k)=some (.int .u64 ((K.F c).r k)):=by
 obtain⟨pre,post,v,e⟩:=h.cur d g;exact e.l4 k f
theorem ae.tq(h:ae w χ L Y C K){c:bK}(d:aj K c){b a:Nat}(f:aP L Y c b a):w.cell? (b,a)=some (.int .i64 (K.F c).pc):=by
 obtain⟨pre,post,v,e⟩:=h.cur d f;exact e.mu
theorem ae.g1(h:ae w χ L Y C K){c:bK}(a:aj K c){b f:Nat}(e:aP L Y c b f)(i:Nat):w.frozen? (b,i)=false:=by
 obtain⟨pre,post,v,d⟩:=h.cur a e;exact d.free i
end
end
section
theorem nu{L:cw}{C:KC}{ov:Value}{nw:Nat}{en at_ wn dr:Int}(a:C.rows.length=1000)(j:Nat)(v:Value):(cF L ov C nw en at_ wn dr).set (1007+j) v=ku C L++(C.rows.map (Value.int .i64)++(g0 L ov nw en at_ wn dr).set j v):=by
 unfold cF;rw[List.set_append_right _ _ (by show 7<=_;omega),List.set_append_right _ _ (by rw[List.length_map,a];show 1000<=1007+j-7;omega)]
 congr 3
 rw[List.length_map,a];show 1007+j-7-1000=j;omega
section
variable{w w':World}{χ:Nat->a4}{L:cw}{Y:Var}{C:KC}{K:KS}
theorem ae.uW(h:ae w χ L Y C K){en at_ wn dr:Int}(j:Nat)(v:Value)(b:(g0 L Y.ov K.wk.length K.entries K.at_ K.w K.draw).set j v=g0 L Y.ov K.wk.length en at_ wn dr):
 dB χ L Y C K {K with entries:=en,at_:=at_,w:=wn,draw:=dr} w χ Y (w.setCell (L.mb,1007+j) v):=by
 have a:=h.head (by simp);have c:Ch (aK L.mb) w (w.setCell (L.mb,1007+j) v):=(Ch.refl _ _).only _ _;have s:eI [.gx] χ χ (aK L.mb) w (w.setCell (L.mb,1007+j) v):=eI.one c (fun i d=>by rw[show i=L.mb from d];simp[a.k]) h.small;refine⟨(h.step s (by simp)).DJ ⟨a.row.a' _ _ ?_,a.rows,a.k⟩,Nx.of s (by simp),Yk.refl _ _⟩;rw[nu a.rows,b];rfl
theorem ae.CH(h:ae w χ L Y C K)(v:Int):dB χ L Y C K {K with entries:=v} w χ Y (w.setCell (L.mb,1016) (.int .i64 v)):=h.uW 9 _ rfl
theorem ae.setAt(h:ae w χ L Y C K)(v:Int):dB χ L Y C K {K with at_:=v} w χ Y (w.setCell (L.mb,1017) (.int .i64 v)):=h.uW 10 _ rfl
theorem ae.BZ(h:ae w χ L Y C K)(v:Int):dB χ L Y C K {K with w:=v} w χ Y (w.setCell (L.mb,1018) (.int .i64 v)):=h.uW 11 _ rfl
theorem ae.A5(h:ae w χ L Y C K)(v:Int):dB χ L Y C K {K with draw:=v} w χ Y (w.setCell (L.mb,1019) (.int .u64 v)):=h.uW 12 _ rfl
theorem ae.DS(h:ae w χ L Y C K){e:Ev}{w4:World}{g cap:Nat}(j:w4.ownsRow 0 62 11 (.slice (some (g,0)) (K.out.length+1) cap) (K.out.length+1) (K.out.flatMap Ev.cells++e.cells))
 (y:w.grownBy w4 Y.ov.ownBlock) (u:Y.ov.ownBlock=some g∨w.heap.size<=g):
 ∃aW Y',dB χ L Y C K {K with out:=K.out++[e]} w aW Y' (w4.setCell (L.mb,1020) (.slice (some (g,0)) (K.out.length+1) cap)):=by
 have a:=h.head (by simp);have f:=h.out (by simp);obtain⟨v,l⟩:=mn (Value.slice (some (g,0)) (K.out.length+1) cap);rw[<-l]at j⊢;have m:=Ch.bQ y;have o:=a.row.ch m (aY f.is a.row (by decide));have r:v.ownBlock=some g:=by rw[l];rfl
 have x:L.mb≠g:=fun e=>aY j o (by decide) (by rw[r,e])
 have c:Ch (fun i=>i=L.mb∨Y.ov.ownBlock=some i) w (w4.setCell (L.mb,1020) v):=(m.mono (E:=fun i=>i=L.mb∨Y.ov.ownBlock=some i) fun i b=>Or.inr b).gS (p:=⟨L.mb,1020,none⟩) (Or.inl rfl) _;have n:(w4.setCell (L.mb,1020) v).ownsRow 0 62 11 v (K.out++[e]).length ((K.out++[e]).flatMap Ev.cells):=by
  rw[List.length_append,List.length_cons,List.length_nil,List.flatMap_append,show [e].flatMap Ev.cells=e.cells from by simp];exact ar (D:=aK L.mb) j ((Ch.refl _ _).only _ _) (fun k d t=>by
   rw[r]at d;injection d with d
   exact x ((show k=L.mb from t)▸d.symm▸rfl))
 have s:eI [.gx,.out] χ (cJ χ v.ownBlock .out) (fun i=>i=L.mb∨Y.ov.ownBlock=some i) w (w4.setCell (L.mb,1020) v):=
  eI.cJ c (fun i _ b=>by
   rcases b with rfl|b
   ·simp[a.k]
   ·simp[f.k i b]) h.small (by rw[l];exact aQ.at u) f.k (fun q z=>cB n z)
 refine⟨_,{Y with ov:=v},(h.step s (by simp)).rr ⟨?_,a.rows,(s.same _ a.row.lt).trans a.k⟩ ⟨n,hN⟩,Nx.of s (by simp),Yk.refl _ _⟩;refine o.a' _ _ ?_;have:=nu (L:=L) (C:=C) (ov:=Y.ov) (nw:=K.wk.length) (en:=K.entries) (at_:=K.at_) (wn:=K.w) (dr:=K.draw) a.rows 13 v;rw[this];rfl
theorem ae.gb(h:ae w χ L Y C K){id:Int}{t:Thread}(a:aw K.ai id=some t):w.cell? (Y.bB id,0)=some (.int .u64 t.id):=(h.th id t a (by simp)).is.cell (i:=0) rfl
theorem ae.CI(h:ae w χ L Y C K){id:Int}{t:Thread}(a:aw K.ai id=some t):w.cell? (Y.bB id,1)=some (Y.lv id):=(h.th id t a (by simp)).is.cell (i:=1) rfl
theorem ae.DT(h:ae w χ L Y C K){id:Int}{t:Thread}(a:aw K.ai id=some t):w.cell? (Y.bB id,2)=some (.int .u64 t.eM):=(h.th id t a (by simp)).is.cell (i:=2) rfl
theorem ae.rz(h:ae w χ L Y C K){id:Int}{t:Thread}(a:aw K.ai id=some t)(j:Nat):w.frozen? (Y.bB id,j)=false:=(h.th id t a (by simp)).is.free j
theorem ae.g2(h:ae w χ L Y C K){id:Int}{t:Thread}(b:aw K.ai id=some t)(v:Int):dB χ L Y C K (K.b9 id {t with eM:=v}) w χ Y (w.setCell (Y.bB id,2) (.int .u64 v)):=by
 have a:=h.th id t b (by simp);have c:Ch (aK (Y.bB id)) w (w.setCell (Y.bB id,2) (.int .u64 v)):=(Ch.refl _ _).only _ _;have s:eI [.th id] χ χ (aK (Y.bB id)) w (w.setCell (Y.bB id,2) (.int .u64 v)):=eI.one c (fun i d=>by rw[show i=Y.bB id from d];simp[a.k]) h.small;exact⟨(h.step s (by simp)).Fu b rfl ⟨a.is.a' _ _ rfl,a.k⟩,Nx.of s (by simp),Yk.refl _ _⟩
theorem yO(l:List (Int×Thread))(g:Int->Nat)(id:Int):aw (l.map fun x=>(x.1,g x.1)) id=(aw l id).map fun _=>g id:=by
 induction l with
 |nil=>rfl
 |cons x l ih=>
  rw[List.map_cons,cT,cT];by_cases e:id=x.1
  ·simp[e]
  ·simp only[if_neg e];exact ih
theorem ae.look(h:ae w χ L Y C K)(id:Int):(Instr.lookup 126 (.map (some L.tm)) (.int .u64 id) false).run prog w=.ok (((aw K.ai id).map fun _=>bf (Y.bB id)).getD (.pointer none)) w:=by
 have:=fl (P:=prog) (w:=w) (T:=126) (K:=56) (E:=173) (z:=.pointer none) underlying126 underlying56 (by kernel_rfl) (h.tm (by simp)).is id;rw[yO,Option.map_map]at this;exact this
theorem ae.jX(h:ae w χ L Y C K){id:Int}{t:Thread}(i:aw K.ai id=some t)(f:0<t.l.length):
 ∃g cap,Y.lv id=.slice (some ⟨g,0,none⟩) t.l.length cap/\t.l.length<=cap/\∀k,k<t.l.length->w.cell? ⟨g,k,none⟩=some (.pointer (some ⟨Y.fb id k,0,none⟩)):=by
 have e:=h.tl id t i (by simp);obtain⟨g,cap,j,b,_,c,_,d,_⟩:=aS e.is f;refine⟨g,cap,b,c,fun k a=>d.cell ?_⟩;rw[List.getElem?_append_left (by simpa using a)];simp[a,bf]
theorem ae.uX(h:ae w χ L Y C K){id:Int}{t:Thread}(c:aw K.ai id=some t){k:Nat}{f:Frame}(b:t.l[k]?=some f):w.cell? (Y.fb id k,34)=some (.bool f.ca):=by
 have a:=h.fr id t k f c b (by simp);refine a.is.row.cell ?_;rw[List.nil_append,List.getElem?_append_right (by rw[cE.cU];omega),cE.cU];rfl
theorem ae.DU(h:ae w χ L Y C K){id:Int}{t:Thread}(c:aw K.ai id=some t){k:Nat}{f:Frame}(b:t.l[k]?=some f):w.cell? (Y.fb id k,35)=some (.int .i64 f.num):=by
 have a:=h.fr id t k f c b (by simp);refine a.is.row.cell ?_;rw[List.nil_append,List.getElem?_append_right (by rw[cE.cU];omega),cE.cU];rfl
theorem we{w:World}{B:Nat}{e:TypeId}{g n m cap:Nat}{b:List Value}(h:w.ownsRow B e 1 (.slice (some (g,0)) n cap) n b)(s:m<=n):w.ownsRow B e 1 (.slice (some (g,0)) m cap) m (b.take m):=by
 have t:=h.1;rcases h.2 with⟨a,_⟩|⟨p,o,cur,f,d,i,r,j,k,l⟩
 ·cases a
 ·injection f with a q c
  injection a with a
  injection a with a
  subst a c;refine⟨by rw[List.length_take];omega,Or.inr ⟨g,cap,cur,rfl,d,i,by omega,j,k,?_⟩⟩;rw[<-l,List.take_take]
  congr 1;omega
theorem ae.DV(h:ae w χ L Y C K){id:Int}{t:Thread}(j:aw K.ai id=some t){g cap m:Nat}(r:Y.lv id=.slice (some (g,0)) t.l.length cap)(d:m<=t.l.length):
 ∃Y',dB χ L Y C K (K.b9 id {t with l:=t.l.take m}) w χ Y' (w.setCell (Y.bB id,1) (.slice (some (g,0)) m cap))/\Yk K Y Y':=by
 have a:=h.th id t j (by simp);have b:=h.tl id t j (by simp);obtain⟨v,n⟩:=mn (Value.slice (some (g,0)) m cap);have p:v.ownBlock=(Y.lv id).ownBlock:=by rw[n,r];rfl
 have y:w.ownsRow 0 177 1 v m ((List.range m).map fun k=>bf (Y.fb id k)):=by
  have:=b.is;rw[r]at this;have:=we this d;rw[<-List.map_take,List.take_range,Nat.min_eq_left d,<-n]at this;exact this
 rw[<-n];have c:Ch (aK (Y.bB id)) w (w.setCell (Y.bB id,1) v):=(Ch.refl _ _).only _ _;have s:eI [.th id] χ χ (aK (Y.bB id)) w (w.setCell (Y.bB id,1) v):=eI.one c (fun i x=>by rw[show i=Y.bB id from x];simp[a.k]) h.small;have u:Yk K Y {Y with lv:=fun i=>if i=id then v else Y.lv i}:=fun _ _ _=>⟨rfl,fun _ _=>rfl⟩
 refine⟨{Y with lv:=fun i=>if i=id then v else Y.lv i},⟨(h.step s (by simp)).EL j d ⟨a.is.a' _ _ rfl,a.k⟩ ⟨ar y c (fun q f e=> ?_),fun q f=>b.k q (p▸f)⟩,Nx.of s (by simp),u⟩,u⟩;have o:=b.k q (p▸f);rw[show q=Y.bB id from e,a.k]at o;cases o
theorem ae.B0(h:ae w χ L Y C K){id:Int}{t:Thread}(J:aw K.ai id=some t){f:Frame}{bv:Value}{fb g cap:Nat}{w4:World}
 (T:aG w fb 0 179 [] f.post bv f.f) (B:χ fb=.no) (S:bv.ownBlock=none)
 (O:w4.ownsRow 0 177 1 (.slice (some (g,0)) (t.l.length+1) cap) (t.l.length+1) (((List.range t.l.length).map fun k=>bf (Y.fb id k))++[bf fb]))
 (ab:w.grownBy w4 (Y.lv id).ownBlock) (Z:(Y.lv id).ownBlock=some g∨w.heap.size<=g):
 ∃aW Y',ae (w4.setCell (Y.bB id,1) (.slice (some (g,0)) (t.l.length+1) cap)) aW L Y' C (K.b9 id {t with l:=t.l++[f]})/\
  (∀i,i<w.heap.size->i≠fb->aW i=χ i)/\Yk K Y Y'/\Ch (fun i=>χ i≠ .no) w (w4.setCell (Y.bB id,1) (.slice (some (g,0)) (t.l.length+1) cap)):=by
 have z:=h.th id t J (by simp);have I:=h.tl id t J (by simp);obtain⟨v,Q⟩:=mn (Value.slice (some (g,0)) (t.l.length+1) cap);rw[<-Q]at O⊢;have G:v.ownBlock=some g:=by rw[Q];rfl
 have R:=Ch.bQ ab;have W:=z.is.ch R (aY I.is z.is (by decide));have a0:Y.bB id≠g:=fun e=>aY O W (by decide) (by rw[G,e])
 have a3:fb<w.heap.size:=T.row.lt;have c:Ch (fun i=>i=Y.bB id∨(Y.lv id).ownBlock=some i) w (w4.setCell (Y.bB id,1) v):=(R.mono (E:=fun i=>i=Y.bB id∨(Y.lv id).ownBlock=some i) fun i n=>Or.inr n).gS (p:=⟨Y.bB id,1,none⟩) (Or.inl rfl) _;have P:(w4.setCell (Y.bB id,1) v).ownsRow 0 177 1 v (t.l.length+1) (((List.range t.l.length).map fun k=>bf (Y.fb id k))++[bf fb]):=
  ar (D:=aK (Y.bB id)) O ((Ch.refl _ _).only _ _) (fun k r X=>by
   rw[G]at r;injection r with r
   exact a0 ((show k=Y.bB id from X)▸r.symm▸rfl))
 have s:eI [.th id,.tl id] χ (cJ χ v.ownBlock (.tl id)) (fun i=>i=Y.bB id∨(Y.lv id).ownBlock=some i) w (w4.setCell (Y.bB id,1) v):=
  eI.cJ c (fun i _ n=>by
   rcases n with rfl|n
   ·simp[z.k]
   ·simp[I.k i n]) h.small (by rw[Q];exact aQ.at Z) I.k (fun q m=>cB P m)
 have U:aG (w4.setCell (Y.bB id,1) v) fb 0 179 [] f.post bv f.f:=T.ch c (by
  rintro(e|e)
  ·rw[e,z.k]at B;cases B
  ·rw[I.k fb e]at B;cases B) (fun q m=>by rw[S]at m;cases m)
 have V:g≠fb:=fun e=>aY P U.row (by decide) (by rw[G,e])
 have base:=h.step s (by simp);have a2:cJ χ v.ownBlock (.tl id) fb=.no:=by unfold cJ;rw[G,if_neg (by simpa using V)];exact B
 have ap:eI [.no] (cJ χ v.ownBlock (.tl id)) (fun i=>if i=fb then .fr id t.l.length else cJ χ v.ownBlock (.tl id) i) ag (w4.setCell (Y.bB id,1) v) (w4.setCell (Y.bB id,1) v)->True:=fun _=>trivial
 have ad:∀i,i≠fb->(if i=fb then a4.fr id t.l.length else cJ χ v.ownBlock (.tl id) i)=cJ χ v.ownBlock (.tl id) i:=fun i n=>if_neg n
 have a:∀{i:Nat} {k:a4},cJ χ v.ownBlock (.tl id) i=k->k≠ .no->(if i=fb then a4.fr id t.l.length else cJ χ v.ownBlock (.tl id) i)=k:=fun {i k} y A=>by
  rw[if_neg (fun e=>A (by rw[<-y,e,a2]))];exact y
 have M:MB [.th id,.tl id] (w4.setCell (Y.bB id,1) v) (fun i=>if i=fb then .fr id t.l.length else cJ χ v.ownBlock (.tl id) i) L Y C K:={
  head:=fun d=>⟨(base.head (by simpa using d)).row,(base.head (by simpa using d)).rows,a (base.head (by simpa using d)).k (by simp)⟩
  mem:=fun d=>⟨(base.mem (by simp)).is,a (base.mem (by simp)).k1 (by simp),a (base.mem (by simp)).k2 (by simp),a (base.mem (by simp)).k3 (by simp)⟩
  al:=fun d=>⟨(base.al (by simp)).is,a (base.al (by simp)).k1 (by simp),fun q m=>a ((base.al (by simp)).k2 q m) (by simp)⟩
  bW:=fun d=>⟨(base.bW (by simp)).is,a (base.bW (by simp)).k1 (by simp),a (base.bW (by simp)).k2 (by simp),a (base.bW (by simp)).k3 (by simp),a (base.bW (by simp)).k4 (by simp),fun q m=>a ((base.bW (by simp)).k5 q m) (by simp)⟩
  ring:=fun d=>⟨(base.ring (by simp)).is,a (base.ring (by simp)).k1 (by simp),a (base.ring (by simp)).k2 (by simp)⟩
  q:=fun d=>⟨(base.q (by simp)).is,(base.q (by simp)).b2,fun i n=>a ((base.q (by simp)).k i n) (by simp)⟩
  cX:=fun d=>⟨(base.cX (by simp)).is,a (base.cX (by simp)).k1 (by simp),a (base.cX (by simp)).k2 (by simp)⟩
  obj:=fun d=>⟨(base.obj (by simp)).is,a (base.obj (by simp)).k1 (by simp),a (base.obj (by simp)).k2 (by simp)⟩
  tm:=fun d=>⟨(base.tm (by simp)).is,a (base.tm (by simp)).k (by simp),(base.tm (by simp)).nd⟩
  th:=fun j u o d=>⟨(base.th j u o d).is,a (base.th j u o d).k (by simp)⟩
  tl:=fun j u o d=>⟨(base.tl j u o d).is,fun q m=>a ((base.tl j u o d).k q m) (by simp)⟩
  fr:=fun j u k N o r d=>⟨(base.fr j u k N o r d).is,a (base.fr j u k N o r d).kf (by simp),fun q m=>a ((base.fr j u k N o r d).kb q m) (by simp)⟩
  wk:=fun d=>⟨(base.wk (by simp)).is,a (base.wk (by simp)).k (by simp),(base.wk (by simp)).back,fun i x F q m=>a ((base.wk (by simp)).kb i x F q m) (by simp),(base.wk (by simp)).n⟩
  out:=fun d=>⟨(base.out (by simp)).is,fun q m=>a ((base.out (by simp)).k q m) (by simp)⟩
  code:=fun d=>{
   mx:=(base.code (by simp)).mx
   iU:=(base.code (by simp)).iU
   my:=(base.code (by simp)).my
   ca:=fun F=>by obtain⟨q,y,A,H⟩:=(base.code (by simp)).ca F;exact⟨q,y,A,a H (by simp)⟩
   prog:=fun F=>by obtain⟨q,y,A,H⟩:=(base.code (by simp)).prog F;exact⟨q,y,A,a H (by simp)⟩
   calls:=fun F=>by obtain⟨q,j,y,A,H⟩:=(base.code (by simp)).calls F;exact⟨q,j,y,A,a H (by simp)⟩}
  small:=fun i n=>by
   by_cases e:i=fb
   ·subst e;exact Nat.lt_of_lt_of_le a3 c.size
   ·rw[ad i e]at n;exact base.small i n}
 have a1:Y.bB id≠fb:=fun e=>by rw[<-e,z.k]at B;cases B
 have am:Yk K Y {Y with lv:=fun i=>if i=id then v else Y.lv i,fb:=fun i j=>if i=id/\j=t.l.length then fb else Y.fb i j,bv:=fun i j=>if i=id/\j=t.l.length then bv else Y.bv i j}:=fun j u o=>⟨rfl,fun k r=>by
  show(if j=id/\k=t.l.length then fb else Y.fb j k)=Y.fb j k
  rw[if_neg];rintro⟨rfl,rfl⟩;rw[J]at o;injection o with o;subst o;omega⟩
 refine⟨_,_,M.DK (v:=v) (bv':=bv) (b:=fb) (f:=f) J ⟨?_,?_⟩ ⟨?_,?_⟩ ⟨U,by simp,fun q m=>by rw[S]at m;cases m⟩,?_,am,?_⟩
 ·exact W.a' _ _ rfl
 ·rw[if_neg a1];exact(s.same _ z.is.lt).trans z.k
 ·have:((List.range (t.l.length+1)).map fun k=>bf (if k=t.l.length then fb else Y.fb id k))=((List.range t.l.length).map fun k=>bf (Y.fb id k))++[bf fb]:=by
   rw[List.range_succ,List.map_append]
   congr 1
   ·apply List.map_congr_left
    intro k r;rw[if_neg (by have:=List.mem_range.1 r;omega)]
   ·simp
  rw[this];exact P
 ·intro q m
  rw[G]at m;injection m with m
  subst m;rw[if_neg V];unfold cJ;rw[if_pos G]
 ·intro i n d
  rw[if_neg d];exact s.same i n
 ·refine c.mono fun i n=> ?_
  rcases n with rfl|n
  ·rw[z.k];simp
  ·rw[I.k i n];simp
end
theorem ae.fresh{w:World}{χ:Nat->a4}{L:cw}{Y:Var}{C:KC}{K:KS}(h:ae w χ L Y C K){i:Nat}(b:w.heap.size<=i):χ i=.no:=by
 cases a:χ i with
 |no=>rfl
 |_=>exact absurd (h.small i (by rw[a];simp)) (by omega)
theorem ae.pre{w:World}{χ:Nat->a4}{L:cw}{Y:Var}{C:KC}{K:KS}(h:ae w χ L Y C K)(n b c d f e g:Int):∃a,w.alloc (.cells #[n,b,c,d,.int .u64 f,e,g] 121)=a/\Hid (Ch ag w a)/\Hid (dB χ L Y C K K w χ Y a)/\Hid (Row a w.heap.size 121 [n,b,c,d,.int .u64 f,e,g]/\χ w.heap.size=.no):=
 ⟨_,rfl,(Ch.refl _ _).alloc _,h.hg ((Ch.refl _ _).alloc _),Row.new w _ _,h.fresh (Nat.le_refl _)⟩
theorem ae.rA{w:World}{χ:Nat->a4}{L:cw}{Y:Var}{C:KC}{K:KS}(h:ae w χ L Y C K)(n b c d f e g:Int):∃a,w.alloc (.cells #[n,b,c,d,.int .u64 f,e,g] 121)=a/\Hid (Ch ag w a)/\Hid (dB χ L Y C K K w χ Y a)/\Hid (Row a w.heap.size 121 [n,b,c,d,.int .u64 f,e,g]):=
 ⟨_,rfl,(Ch.refl _ _).alloc _,h.hg ((Ch.refl _ _).alloc _),Row.new w _ _⟩
end
section
section
variable{w:World}{χ:Nat->a4}{L:cw}{Y:Var}{C:KC}{K:KS}
theorem e8(n:Int)(t:TypeId)(x:Value)(w:World):Calls prog 49 #[n,.iface t x] w (fun e w'=>e=.returned (.iface 197 (.pointer (some (w.heap.size,0))))/\w.alloc (.cells #[.string ⟨#[107,101,114,110]⟩,n,.iface t x] 199)=w'):=by
 go_enter func49,ntmps49
 go_wp2
 go_ret;exact⟨rfl,rfl⟩
theorem yP(op:Int)(w:World):Calls prog 169 #[op] w (d' (.bool (iD op)) w):=by
 have f:=Z (m0 op);obtain⟨p,d⟩:=nm (eV op);have E:Hid (iD op=p.1):=Z (by unfold iD;rw[d]);rw[d]at f;clear d;obtain⟨a,b,c,g⟩:=p;go_enter func169,ntmps169
 go_wp2_with (go_at_call 175;refine(f _).mono ?_;rintro e w' ⟨rfl,rfl⟩)
 go_ret;rw[E];exact d'.mk rfl
theorem o5(i:Int)(a:0<=i)(b:i<=100)(p:Value)(w:World):Calls prog 80 #[p,i] w (d' (.int .u64 (gY i)) w):=by
 have E:Hid (gY i=17+3*i):=Z (by unfold gY IntKind.wrap IntKind.bits IntKind.signed;simp;omega);go_enter func80,ntmps80
 go_wp2
 go_ret;rw[E];exact d'.mk rfl
theorem lq(h:ae w χ L Y C K):Calls prog 32 #[(L.mb,0)] w (d' (.int .i64 (gH K)) w):=by
 have c:=h.p7;have a:K.wk.length<=64:=(h.wk (by simp)).n;have b:(K.wk.length:Int)<=64:=by omega
 obtain⟨n,a⟩:=nm K.wk.length;have E:Hid (gH K=17+8*(n:Int)):=Z (by unfold gH;rw[a]);rw[a]at c b;clear h a;go_enter func32,ntmps32
 go_wp2
 go_ret;rw[E];exact d'.mk rfl
theorem nv(h:ae w χ L Y C K)(hb:0<=C.wide/\C.wide<=256/\0<=C.narrow/\C.narrow<=256):Calls prog 97 #[(L.mb,0)] w (fun e w'=>e=.returned (.int .i64 C.cells)/\∃n,w'=w.drewN n):=by
 have a:=h.c5;have b:=h.c6;obtain⟨c,d,f,g⟩:=hb;have i:IntKind.i64.wrap (C.wide+C.narrow)=C.wide+C.narrow:=IntWalk.i64_in _ (by omega);clear h;go_enter func97,ntmps97
 go_wp2_with fail
 go_quiet (fail)
 go_wp2
 go_ret;exact⟨rfl,nq,rfl⟩
theorem yQ(h:ae w χ L Y C K):Calls prog 19 #[(L.mb,0)] w (d' (.int .u64 K.clock.now) w):=by
 have c:=h.jH;have a:=Z (CD h);clear h;go_enter func19,ntmps19
 go_wp2_with (refine a.mono ?_;rintro e w' ⟨rfl,rfl⟩)
 go_ret;exact d'.mk rfl
theorem kA(h:ae w χ L Y C K):Calls prog 20 #[(L.mb,0)] w (d' (.int .i64 K.entries) w):=by
 have c:=h.DM;clear h;go_enter func20,ntmps20
 go_wp2
 go_ret;exact d'.mk rfl
theorem cZ(id:Int)(hid:aH id)(h:ae w χ L Y C K):Calls prog 108 #[(L.mb,0),.int .u64 id] w (dt (.int .i64 (cx K id)) w):=by
 have c:=h.eh;have a:=Z (kv id hid h);obtain⟨t,b⟩:=nm (fq K.table id);rw[b]at a;have E:Hid (cx K id=t.1.state):=Z (by unfold cx;rw[b]);obtain⟨⟨t0,t1,t2,t3,t4,t5,t6⟩,tb⟩:=t;unfold lV.val at a;dsimp only at a E;clear h b;go_enter func108,ntmps108
 go_wp2_with (refine a.mono ?_;rintro e w' ⟨rfl,d⟩;have f:=Z d;clear d)
 go_ret;rw[E];exact⟨rfl,f.alloc _⟩
theorem e9(id:Int)(hid:aH id)(h:ae w χ L Y C K):Calls prog 109 #[(L.mb,0),.int .u64 id] w (de (.tuple #[]) χ L Y C K (cc K id) w):=by
 have c:=h.eh;have H:=Z h;have k:=Z hid;clear h hid;go_enter func109,ntmps109
 go_wp2_with fail
 refine(p9 id 1 k H).mono ?_;rintro e w1 ⟨⟨v,rfl,_⟩,r,o,b⟩;have c:=b.at_.nr;have f:=Z b;clear b;go_wp2_with fail
 refine(yH id f.at_).mono ?_;rintro e w2 ⟨⟨v,rfl,_⟩,s,p,d⟩;have c:=d.at_.cP;have g:=Z (f.trans (Gr.of_eq rfl) d);clear d;go_wp2_with fail
 refine(EO 0 1 ⟨by decide,by decide⟩ ⟨by decide,by decide⟩ g.at_).mono ?_;rintro e q ⟨a,n,l,i⟩;have j:=Z (g.trans (Gr.of_eq rfl) i);clear i;have m:∃v,e=.returned v:=by
  split at a
  ·exact⟨_,a⟩
  ·obtain⟨v,h,_⟩:=a;exact⟨_,h⟩
 obtain⟨v,rfl⟩:=m;clear a;go_wp2_with fail
 go_end0
 exact⟨rfl,n,l,j⟩
def A6(v:Value)(χ:Nat->a4)(L:cw)(Y:Var)(C:KC)(K K':KS)(w:World)(e:Ending)(w':World):Prop:=de v χ L Y C K K' w e w'/\Ch (fun i=>χ i=.mem) w w'
theorem ny(a:Int)(m:aH a)(h:ae w χ L Y C K):Calls prog 81 #[(L.mb,0),.int .u64 a] w (A6 (.int .u64 (hd K a).1) χ L Y C K (hd K a).2 w):=by
 have c:=h.cP;have g:=Z (tj a m h);obtain⟨p,k⟩:=nm (K.mem.acc 0 a 0 0);obtain⟨r,S⟩:=p;rw[k]at g;have E:Hid (hd K a=(r.getD 0,{K with mem:=S})):=Z (by unfold hd;rw[k]);clear h k;cases r with
 |none=>
  go_enter func81,ntmps81
  go_wp2_with (refine g.mono ?_;rintro e w1 ⟨⟨⟨v,rfl,n⟩,l,j,b⟩,d⟩;have f:=Z b;have i:=Z d;clear b n d)
  go_ret;rw[E];exact⟨⟨rfl,l,j,f⟩,i⟩
 |some r=>
  go_enter func81,ntmps81
  go_wp2_with (refine g.mono ?_;rintro e w1 ⟨⟨rfl,l,j,b⟩,d⟩;have f:=Z b;have i:=Z d;clear b d)
  go_ret;rw[E];exact⟨⟨rfl,l,j,f⟩,i⟩
theorem wg(a:Int)(b:aH a)(h:ae w χ L Y C K):Calls prog 81 #[(L.mb,0),.int .u64 a] w (de (.int .u64 (hd K a).1) χ L Y C K (hd K a).2 w):=
 (ny a b h).mono fun _ _ h=>h.1
def ma(K:KS)(a:Int):Int×Bool×KS:=(((K.mem.acc 0 a 0 0).1).getD 0,(K.mem.acc 0 a 0 0).1.isSome,{K with mem:=(K.mem.acc 0 a 0 0).2})
theorem wi(a:Int)(k:aH a)(h:ae w χ L Y C K):Calls prog 31 #[(L.mb,0),.int .u64 a] w (de (.tuple #[.int .u64 (ma K a).1,.bool (ma K a).2.1]) χ L Y C K (ma K a).2.2 w):=by
 have c:=h.cP;have f:=Z (DO a k h);obtain⟨p,i⟩:=nm (K.mem.acc 0 a 0 0);obtain⟨r,S⟩:=p;rw[i]at f;have E:Hid (ma K a=(r.getD 0,r.isSome,{K with mem:=S})):=Z (by unfold ma;rw[i]);clear h i;cases r with
 |none=>
  go_enter func31,ntmps31
  go_wp2_with (refine f.mono ?_;rintro e w1 ⟨⟨v,rfl,l⟩,j,g,b⟩;have d:=Z b;obtain⟨tt,m,rfl⟩:=l;clear b)
  go_quiet (fail)
  go_wp2_with fail
  go_ret2;rw[E];exact⟨rfl,j,g,d.af ((Ch.refl _ _).drewN _)⟩
 |some r=>
  go_enter func31,ntmps31
  go_wp2_with (refine f.mono ?_;rintro e w1 ⟨rfl,j,g,b⟩;have d:=Z b;clear b)
  go_quiet (fail)
  go_wp2_with fail
  go_ret2;rw[E];exact⟨rfl,j,g,d.af ((Ch.refl _ _).drewN _)⟩
end
end
end Go.Proofs.YtfnilkpkogipfaaGreatDoor
