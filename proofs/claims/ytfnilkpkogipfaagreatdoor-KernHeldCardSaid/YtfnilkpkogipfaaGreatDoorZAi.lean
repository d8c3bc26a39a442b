import Derived.Test.YtfnilkpkogipfaaGreatDoorZAh
set_option linter.unusedVariables false
set_option linter.unusedSimpArgs false
set_option maxRecDepth 100000
set_option maxHeartbeats 8000000
namespace Go.Proofs.YtfnilkpkogipfaaGreatDoor
open Go.RowKit Go.Proofs.Tryz
def dw(x:aV)(f:cE):Int×cE:=
 if x.op=16 then
  if f.back.length=0 then(2,f)
  else(0,{f with pc:=(f.back[f.back.length-1]?).getD 0,back:=f.back.take (f.back.length-1)})
 else if x.op=15 then
  if 8<=f.back.length then(3,f)
  else(0,{f with pc:=wrap64 x.v,back:=f.back++[wrap64 (f.pc+1)]})
 else if x.op=12 then(0,{f with pc:=wrap64 x.v})
 else if(f.r x.a.toNat==0)==(x.op==13)then(0,{f with pc:=wrap64 x.v})
 else(0,{f with pc:=wrap64 (f.pc+1)})
def AI(r:Int)(c:cE)(b d:Nat)(t:TypeId)(pre post:List Value)(v:Value)(w:World)(e:Ending)(w':World):Prop:=
 e=.returned (.int .i64 r)/\(∃a,aG w' b d t pre post a c/\aQ w v a)/\Ch (aK b) w w'
theorem cp.cap{w:World}{a:Option Addr}{m c:Nat}{l:List Int}(h:cp w (.slice a m c) l):m<=c:=by
 rcases h.2 with⟨b,_⟩|⟨i,g,cur,f,j,n,k,o,p,q⟩
 ·injection b with b d e;omega
 ·injection f with b d e;omega
theorem yh(b d:Nat)(t:TypeId)(J:t≠3)(pre post:List Value)(v:Value)(f:cE)(x:aV)(K:x.op=16∨x.op=15∨x.op=12∨(x.op=13∨x.op=14)/\0<=x.a/\x.a<32)(cq:f.back.length<=8)(w:World)(h:aG w b d t pre post v f):
 Calls prog 68 #[(b,d),aI x] w (AI (dw x f).1 (dw x f).2 b d t pre post v w):=by
 obtain⟨R,ab,r⟩:=aA h.back;obtain⟨N,ad⟩:=mn f.back.length;rw[<-ad]at r cq;have m:=Z ad;obtain⟨A,c0⟩:=nm (w.alloc (.cells #[x.op,x.a,x.b,x.c,.int .u64 x.v,x.m,x.wh] 121));have s:=Z (Ch.al (D:=ag) c0);have O:aG A b d t pre post v f:=h.ch s (fun h=>h) (fun g Y h=>h);have ap:Row A w.heap.size 121 (aC x).toList:=by rw[<-c0];exact Row.new w _ _
 have H:=Z O;have cb:=O.mu;have bi:=O.yg;have f0:=O.free d;have f33:=O.free (d+33);obtain⟨t0,t1⟩:=ap.c2;have t4:=ap.k 4 rfl;obtain⟨tb,fn⟩:=mn w.heap.size;have eS:b<w.heap.size:=h.row.lt;clear ap O h ad;by_cases l:x.op=16
 ·have c8:(x.op==16)=true:=by simp[l]
  by_cases a0:N=0
  ·subst a0
   have E:Hid (dw x f=(2,f)):=Z (by unfold dw;rw[if_pos l,if_pos m.out.symm]);subst r;clear l K;unfold aI aC;go_enter func68,ntmps68
   go_wp2_with fail
   go_ret;rw[E];exact⟨rfl,⟨_,H,aQ.refl _ _⟩,s.af⟩
  ·obtain⟨M,rfl⟩:∃M,N=M+1:=⟨N-1,by omega⟩
   obtain⟨g,cap,Y,_,_⟩:=H.back.form (by rw[<-m];omega);rw[<-m]at Y;subst Y;injection r with dr ge dC
   subst dr dC;have ch:M<f.back.length:=by rw[<-m];omega
   obtain⟨p,am⟩:∃p,f.back[M]?=some p:=⟨_,List.getElem?_eq_getElem ch⟩;have et:=H.back.get am;have E:Hid (dw x f=(0,{f with pc:=p,back:=f.back.take M})):=Z (by unfold dw;rw[if_pos l,<-m,if_neg (by omega),show M+1-1=M from by omega,am];rfl);have a2:=Z (H.back.pop m.symm);have cC:g≠b:=fun e=>H.apart J (by rw[<-e];rfl)
   have ck:M+1<=cap:=H.back.cap;have eW:M<=cap:=by omega
   clear l K am;unfold aI aC;go_enter func68,ntmps68
   go_wp2_with fail
   go_ret;rw[E];exact⟨rfl,⟨_,(H.jF J p).pS J _ _ (a2.ch (D:=aK b) ((Ch.refl _ _).only _ _) (fun k al e=>by injection al with al;exact cC (al.trans e))),aQ.of_eq rfl⟩,(s.af.only _ _).only _ _⟩
 ·have c8:(x.op==16)=false:=by simpa using l
  have o:∀C B:Int×cE,(if x.op=16 then C else B)=B:=fun C B=>if_neg l
  by_cases n:x.op=15
  ·have c7:(x.op==15)=true:=by simp[n]
   by_cases a0:8<=N
   ·have E:Hid (dw x f=(3,f)):=Z (by unfold dw;rw[o,if_pos n,<-m,if_pos a0])
    subst r;have c9:((8:Int)<=(N:Int)):=by omega
    clear l n K o;unfold aI aC;go_enter func68,ntmps68
    go_wp2_with fail
    go_ret;rw[E];exact⟨rfl,⟨_,H,aQ.refl _ _⟩,s.af⟩
   ·obtain⟨cW,bw,cL,cQ,cS⟩:=info_parts AH
    have c4:=Z bw;have E:Hid (dw x f=(0,{f with pc:=wrap64 x.v,back:=f.back++[wrap64 (f.pc+1)]})):=Z (by unfold dw;rw[o,if_pos n,<-m,if_neg a0]);have bv:b<A.heap.size:=H.row.lt;have fz:w.heap.size<A.heap.size:=aE t0;have ck:N<=ab:=by subst r;exact H.back.cap
    have cA:R=none->N=0/\N=0:=fun e=>by
     rcases H.back.2 with⟨a,P⟩|⟨V,ce,cur,X,_⟩
     ·exact⟨by rw[m];exact P,by rw[m];exact P⟩
     ·rw[r,e]at X;injection X with a;cases a
    have cl:∀q,R=some q->∀j u,(f.back.map (Value.int .i64))[j]?=some u->A.cell? (q.add j)=some u:=fun q I j u z=>by
     subst r;rcases H.back.2 with⟨a,P⟩|⟨V,ce,cur,X,_⟩
     ·injection a with a;rw[a]at I;cases I
     ·injection X with a
      rw[a]at I;injection I with I
      subst I a;rw[show(⟨V,0,none⟩:Addr).add j=⟨V,j,none⟩from by unfold Addr.add;split<;>simp_all];rw[List.getElem?_map]at z;cases hb:f.back[j]? with
      |none=>rw[hb]at z;cases z
      |some y=>
       rw[hb]at z;injection z with z
       rw[<-z];exact H.back.get hb
    have hlen:(f.back.map (Value.int .i64)).length=N*1:=by rw[List.length_map,m];omega
    have c9:((8:Int)<=(N:Int))=False:=by simp;omega
    have gc:¬((8:Int)<=(N:Int)):=by omega
    have en:decide ((8:Int)<=(N:Int))=false:=by simp;omega
    subst r;clear l n K o bw;unfold aI aC;go_enter func68,ntmps68
    go_wp2_with fail
    go_region_law (first|(refine step_append_grows (by rfl) _ _ _ (by rfl) 3 cW _ 1 8 underlying79 c4 cL cQ cS rfl (by decide) R N N (f.back.map (Value.int .i64)) (by rfl) cA hlen (fun q I j u z=>mU (cl q I j u z) _) ⟨A.heap.size,0,none⟩ 1 1 [.int .i64 (IntKind.i64.wrap (f.pc+1))] (by rfl) (by rfl) (World.news_of_block (cs:=#[.int .i64 (IntKind.i64.wrap (f.pc+1))]) (t:=3) (fr:=(0,0)) (heap_alloc_new A _)) (by simp[Value.oneCell']) (by omega) (by unfold maxLen;omega) (by omega) ?_;intro go w4 Q G;obtain⟨W,cap,rfl,fb,_⟩:=Q.form (by omega);have dN:w4.cell? (b,d+33)=_:=(G.cell_far ⟨b,d+33,none⟩ (by simp;omega) (by simp)).trans (by simp[go_sem,World.cell?_alloc_past,bv,bi];rfl);have ec:w4.frozen? (b,d+33)=false:=(G.frozen_far ⟨b,d+33,none⟩ (by simp;omega) (by simp)).trans (by simp[go_sem,World.frozen?_alloc_past,bv,f33])))
    all_goals
     rw[show IntKind.i64.wrap (f.pc+1)=wrap64 (f.pc+1)from IntWalk.i64_left _]at Q;have c5:Hid (aQ w (.slice R N ab) (.slice (some (W,0)) (N+1) cap)):=Z (aQ.at (Or.inr (by
      have fd:=s.size;rcases Q.2 with⟨a,_⟩|⟨V,es,ex,a,P,_⟩
      ·cases a
      ·injection a with a _ _
       injection a with a
       injection a with a
       simp at P;omega)))
     have a3:Hid (Ch ag A w4):=Z ⟨G.os,G.tape,G.output,Nat.le_trans (by simp) G.size,fun i cm _=>(G.block i (by simp;omega) (by simp)).trans (heap_alloc_old A _ cm)⟩;have a2:Hid (cp w4 (.slice (some (W,0)) (N+1) cap) (f.back++[wrap64 (f.pc+1)])):=Z (by
      unfold cp;rw[List.length_append,<-m,List.map_append];exact⟨Q.1,Q.2.imp id (fun⟨g,c,cur,a,P,cf⟩=>⟨g,c,cur,a,Nat.zero_le _,cf⟩)⟩)
     have c3:Hid (aG w4 b d t pre post (.slice R N ab) f):=Z (H.ch a3 (fun h=>h) (fun g Y h=>h));obtain⟨av,S⟩:=nm (w4.setCell (b,d+33) (.slice (some (W,0)) (N+1) cap));have a1:Hid (aG av b d t pre post (.slice (some (W,0)) (N+1) cap) {f with back:=f.back++[wrap64 (f.pc+1)]}):=Z (by rw[<-S];exact c3.pS J _ _ a2);have c2:Hid (Ch (aK b) w av):=Z (by rw[<-S];exact(s.trans a3).af.only _ _);have gk:av.cell? (w.heap.size,4)=some (.int .u64 x.v):=by
      have c1:w4.cell? (w.heap.size,4)=some (.int .u64 x.v):=(a3.cell (p:=⟨w.heap.size,4,none⟩) (by show w.heap.size<_;omega) (fun h=>h)).trans t4;rw[<-S];exact(((Ch.refl (aK b) w4).only (d+33) _).cell (p:=⟨w.heap.size,4,none⟩) (aE c1) (fun e=>by have:w.heap.size=b:=e;omega)).trans c1
     have gf:=a1.mu;have eA:=a1.free d;try rw[S]
     clear S Q G dN ec cb bi f0 f33 t0 t1 t4;go_wp2_with fail
     go_ret;rw[E];exact⟨rfl,⟨_,a1.jF J _,c5⟩,c2.only _ _⟩
  ·have c7:(x.op==15)=false:=by simpa using n
   have L:∀C B:Int×cE,(if x.op=15 then C else B)=B:=fun C B=>if_neg n
   by_cases F:x.op=12
   ·have c6:(x.op==12)=true:=by simp[F]
    have E:Hid (dw x f=(0,{f with pc:=wrap64 x.v})):=Z (by unfold dw;rw[o,L,if_pos F]);subst r;clear l n F K o L;unfold aI aC;go_enter func68,ntmps68
    go_wp2_with fail
    go_ret;rw[E];exact⟨rfl,⟨_,H.jF J _,aQ.refl _ _⟩,s.af.only _ _⟩
   ·have c6:(x.op==12)=false:=by simpa using F
    have U:∀C B:Int×cE,(if x.op=12 then C else B)=B:=fun C B=>if_neg F
    have ci:0<=x.a/\x.a<32:=by
     rcases K with q|q|q|q
     ·exact absurd q l
     ·exact absurd q n
     ·exact absurd q F
     ·exact q.2
    obtain⟨eC,eL⟩:=ci;have cd:=H.l4 x.a.toNat (by omega);obtain⟨y,T⟩:=nm (f.r x.a.toNat);rw[T]at cd;subst r;cases hb:((y==0)==(x.op==13))
    ·have E:Hid (dw x f=(0,{f with pc:=wrap64 (f.pc+1)})):=Z (by unfold dw;rw[o,L,U,T,hb];rfl)
     clear l n F K o L U T;unfold aI aC;go_enter func68,ntmps68
     go_wp2_with fail
     go_quiet (fail)
     go_wp2_with fail
     go_ret;rw[E];exact⟨rfl,⟨_,(H.drewN _).jF J _,aQ.refl _ _⟩,(s.af.drewN _).only _ _⟩
    ·have E:Hid (dw x f=(0,{f with pc:=wrap64 x.v})):=Z (by unfold dw;rw[o,L,U,T,hb];rfl)
     clear l n F K o L U T;unfold aI aC;go_enter func68,ntmps68
     go_wp2_with fail
     go_quiet (fail)
     go_wp2_with fail
     go_ret;rw[E];exact⟨rfl,⟨_,(H.drewN _).jF J _,aQ.refl _ _⟩,(s.af.drewN _).only _ _⟩
def mv(x:Option Int)(post:World->Prop)(e:Ending)(w':World):Prop:=
 (match x with
  |some v=>e=.returned (.tuple #[.int .u64 v,.nilIface])
  |none=>∃n v,e=.returned (.tuple #[.int .u64 n,v])/\aq v)/\post w'
def EG(ok:Bool)(post:World->Prop)(e:Ending)(w':World):Prop:=(∃v,e=.returned v/\(if ok then v=.nilIface else aq v))/\post w'
structure pT(T:TypeId)(X:Value)(σ:Type) where
 At:σ->World->Prop
 uI:σ->World->Prop
 Ok:σ->Prop
 D:Nat->Prop
 acc:σ->Int->Int->Int->Int->Option Int×σ
 FL:FuncId
 FS:FuncId
 FW:FuncId
 FA:FuncId
 FC:FuncId
 mL:∀w,(Go.method 494 T X "Load").run prog w=.ok (FL,X) w
 mS:∀w,(Go.method 494 T X "Store").run prog w=.ok (FS,X) w
 mW:∀w,(Go.method 494 T X "Swap").run prog w=.ok (FW,X) w
 mA:∀w,(Go.method 494 T X "Add").run prog w=.ok (FA,X) w
 mC:∀w,(Go.method 494 T X "Cas").run prog w=.ok (FC,X) w
 nC:∀w,(nilAhead 494 T X "Cas").run prog w=.ok (some false) w
 eL:∀args w,(callFunc FL args).run prog w=.ok (.enter FL args) w
 eS:∀args w,(callFunc FS args).run prog w=.ok (.enter FS args) w
 eW:∀args w,(callFunc FW args).run prog w=.ok (.enter FW args) w
 eA:∀args w,(callFunc FA args).run prog w=.ok (.enter FA args) w
 eC:∀args w,(callFunc FC args).run prog w=.ok (.enter FC args) w
 keep:∀S w w',At S w->Ch ag w w'->At S w'
 BR:∀S w,At S w->uI S w
 yi:∀S w w',uI S w->Ch ag w w'->uI S w'
 cL:∀S a w,Ok S->aH a->At S w->Calls prog FL #[X,.int .u64 a] w (mv (acc S 0 a 0 0).1 (fun w'=>uI (acc S 0 a 0 0).2 w'/\Ch D w w'))
 cS:∀S a v w,Ok S->aH a->aH v->At S w->Calls prog FS #[X,.int .u64 a,.int .u64 v] w (EG (acc S 1 a 0 v).1.isSome (fun w'=>uI (acc S 1 a 0 v).2 w'/\Ch D w w'))
 cW:∀S a v w,Ok S->aH a->aH v->At S w->Calls prog FW #[X,.int .u64 a,.int .u64 v] w (mv (acc S 2 a 0 v).1 (fun w'=>uI (acc S 2 a 0 v).2 w'/\Ch D w w'))
 cA:∀S a v w,Ok S->aH a->aH v->At S w->Calls prog FA #[X,.int .u64 a,.int .u64 v] w (mv (acc S 3 a 0 v).1 (fun w'=>uI (acc S 3 a 0 v).2 w'/\Ch D w w'))
 cC:∀S a o v w,Ok S->aH a->aH o->aH v->At S w->Calls prog FC #[X,.int .u64 a,.int .u64 o,.int .u64 v] w (mv (acc S 4 a o v).1 (fun w'=>uI (acc S 4 a o v).2 w'/\Ch D w w'))
def cK{a:Type}(acc:a->Int->Int->Int->Int->Option Int×a)(S:a)(x:aV)(r:Nat->Int):Option Int×a:=
 let at_:=du r x
 let v:=r x.a.toNat
 if x.op=17 then acc S 0 at_ 0 0
 else if x.op=18 then((acc S 1 at_ 0 v).1.map fun _=>v,(acc S 1 at_ 0 v).2)
 else if x.op=19 then acc S 2 at_ 0 v
 else if x.op=20 then acc S 3 at_ 0 v
 else acc S 4 at_ v (r x.c.toNat)
theorem vI{r:Nat->Int}(a:∀k,k<32->aH (r k))(n:Int):aH (gF r n):=by
 unfold gF;split
 ·exact a _ (by omega)
 ·exact⟨by decide,by decide⟩
theorem lg{r:Nat->Int}(b:∀k,k<32->aH (r k))(x:aV)(a:aH x.v):aH (du r x):=by
 unfold du;split
 ·exact a
 ·exact mD 64 _ _
theorem pU{T:TypeId}{X:Value}{a0:Type}(a:pT T X a0)(S:a0)(ad:Hid (a.Ok S))(b t:Nat)(pc:Int)(r:Nat->Int)(x:aV)(cs:0<=x.a/\x.a<32)(Y:x.op=17∨x.op=18∨x.op=19∨x.op=20∨(x.op=21/\0<=x.c/\x.c<32))(c2:∀k,k<32->aH (r k))(ce:aH x.v)
 (w:World) (h:fj w b t pc r) (cb:a.At S w):
 Calls prog 69 #[(b,t),aI x,.iface T X] w (mv (cK a.acc S x r).1 (fun w'=>a.uI (cK a.acc S x r).2 w'/\Ch a.D w w')):=by
 obtain⟨f,cd⟩:=nm (w.alloc (.cells #[x.op,x.a,x.b,x.c,.int .u64 x.v,x.m,x.wh] 121));have p:=Z (Ch.al (D:=ag) cd);have c6:fj f b t pc r:=h.ch p (fun h=>h);have c7:Row f w.heap.size 121 (aC x).toList:=by rw[<-cd];exact Row.new w _ _
 have H:=Z c6;have a1:=Z cb;have cf:=Z c2;obtain⟨t0,t1,t2,t3,t4,t5,t6⟩:=c7.c7;have a2:=Z c7;have R:=Z (fun w h=>ke b t pc r x w h);have V:=Z (lg c2 x ce);obtain⟨s,A⟩:=nm (du r x);rw[A]at R V;obtain⟨cC,cL⟩:=cs;have cq:=c6.oD x.a.toNat (by omega);have a3:=Z (c2 x.a.toNat (by omega));obtain⟨y,F⟩:=nm (r x.a.toNat);have ab:=Z F;rw[F]at cq a3;clear c2 ce c7 c6 h cb;unfold aI aC at R⊢;by_cases I:x.op=17
 ·have ci:(x.op==17)=true:=by simp[I]
  have E:Hid (cK a.acc S x r=a.acc S 0 s 0 0):=Z (by unfold cK;dsimp only;rw[if_pos I,A]);obtain⟨q,o⟩:=nm (a.acc S 0 s 0 0);obtain⟨N,c4⟩:=q;rw[o]at E;have K:=Z o;clear o I Y A F;cases N
  all_goals
   go_enter func69,ntmps69
   go_wp2_with fail
   go_region_held3 (fun w'=>w'.cell? ⟨w.heap.size,0,none⟩=some (.int .i64 x.op)/\w'.cell? ⟨w.heap.size,1,none⟩=some (.int .i64 x.a)/\w'.cell? ⟨w.heap.size,2,none⟩=some (.int .i64 x.b)/\w'.cell? ⟨w.heap.size,3,none⟩=some (.int .i64 x.c)/\w'.cell? ⟨w.heap.size,4,none⟩=some (.int .u64 x.v)/\w'.cell? ⟨w.heap.size,5,none⟩=some (.int .i64 x.m)/\w'.cell? ⟨w.heap.size,6,none⟩=some (.int .i64 x.wh)/\w'.cell? (b,t+1+x.a.toNat)=some (.int .u64 y)) (go_keep) ((go_at_call 116;refine(R f.drew ⟨H.pc,H.oD⟩).mono ?_;rintro e w2 ⟨rfl,g⟩;have i:=Z g;have L:=Z (Row.ch (w:=f.drew) a2.drew g (fun h=>h));have G:Hid (fj w2 b t pc r):=Z (fj.ch (w:=f.drew) H.drew g (fun h=>h));obtain⟨al,d1,ap,av,bi,bv,bw⟩:=L.c7;have d2:=G.oD x.a.toNat (by omega);rw[ab]at d2;clear g))
   all_goals
    have J:Hid (a.At S w2):=Z (a.keep S f.drew w2 (a.keep S w f.drew a1 p.drew) i);have c1:=a.mL;have c0:=a.eL;have j:=Z (a.cL S s w2 ad V J);rw[K]at j;go_wp2_with (first|(refine j.mono ?_;rintro e O ⟨⟨n,u,rfl,C⟩,c,d⟩;obtain⟨tt,c5,rfl⟩:=C;have m:=Z c;have l:=Z d;clear c d)|(refine j.mono ?_;rintro e O ⟨rfl,c,d⟩;have m:=Z c;have l:=Z d;clear c d))
    go_ret2;rw[E]
    first|exact⟨⟨_,_,rfl,aq.mk _ _⟩,m,((p.drew.trans i).af).trans l⟩|exact⟨rfl,m,((p.drew.trans i).af).trans l⟩
 have ci:(x.op==17)=false:=by simpa using I
 have P:∀v B:Option Int×a0,(if x.op=17 then v else B)=B:=fun v B=>if_neg I
 by_cases M:x.op=18
 ·have ck:(x.op==18)=true:=by simp[M]
  have E:Hid (cK a.acc S x r=((a.acc S 1 s 0 y).1.map fun _=>y,(a.acc S 1 s 0 y).2)):=Z (by unfold cK;dsimp only;rw[P,if_pos M,A,F]);obtain⟨q,o⟩:=nm (a.acc S 1 s 0 y);obtain⟨N,c4⟩:=q;rw[o]at E;have K:=Z o;clear o M Y A F I P;cases N
  all_goals
   go_enter func69,ntmps69
   go_wp2_with fail
   go_region_held3 (fun w'=>w'.cell? ⟨w.heap.size,0,none⟩=some (.int .i64 x.op)/\w'.cell? ⟨w.heap.size,1,none⟩=some (.int .i64 x.a)/\w'.cell? ⟨w.heap.size,2,none⟩=some (.int .i64 x.b)/\w'.cell? ⟨w.heap.size,3,none⟩=some (.int .i64 x.c)/\w'.cell? ⟨w.heap.size,4,none⟩=some (.int .u64 x.v)/\w'.cell? ⟨w.heap.size,5,none⟩=some (.int .i64 x.m)/\w'.cell? ⟨w.heap.size,6,none⟩=some (.int .i64 x.wh)/\w'.cell? (b,t+1+x.a.toNat)=some (.int .u64 y)) (go_keep) ((go_at_call 116;refine(R f.drew ⟨H.pc,H.oD⟩).mono ?_;rintro e w2 ⟨rfl,g⟩;have i:=Z g;have L:=Z (Row.ch (w:=f.drew) a2.drew g (fun h=>h));have G:Hid (fj w2 b t pc r):=Z (fj.ch (w:=f.drew) H.drew g (fun h=>h));obtain⟨al,d1,ap,av,bi,bv,bw⟩:=L.c7;have d2:=G.oD x.a.toNat (by omega);rw[ab]at d2;clear g))
   all_goals
    have J:Hid (a.At S w2):=Z (a.keep S f.drew w2 (a.keep S w f.drew a1 p.drew) i);have c1:=a.mS;have c0:=a.eS;have j:=Z (a.cS S s y w2 ad V a3 J);rw[K]at j;go_wp2_with (first|(refine j.mono ?_;rintro e O ⟨⟨u,rfl,C⟩,c,d⟩;obtain⟨tt,c5,rfl⟩:aq u:=C;have m:=Z c;have l:=Z d;clear c d)|(refine j.mono ?_;rintro e O ⟨⟨u,rfl,C⟩,c,d⟩;obtain rfl:u=.nilIface:=C;have m:=Z c;have l:=Z d;clear c d))
    go_ret2;rw[E]
    first|exact⟨⟨_,_,rfl,aq.mk _ _⟩,m,((p.drew.trans i).af).trans l⟩|exact⟨rfl,m,((p.drew.trans i).af).trans l⟩
 have ck:(x.op==18)=false:=by simpa using M
 have W:∀v B:Option Int×a0,(if x.op=18 then v else B)=B:=fun v B=>if_neg M
 by_cases Q:x.op=19
 ·have cl:(x.op==19)=true:=by simp[Q]
  have E:Hid (cK a.acc S x r=a.acc S 2 s 0 y):=Z (by unfold cK;dsimp only;rw[P,W,if_pos Q,A,F]);obtain⟨q,o⟩:=nm (a.acc S 2 s 0 y);obtain⟨N,c4⟩:=q;rw[o]at E;have K:=Z o;clear o Q Y A F I P M W;cases N
  all_goals
   go_enter func69,ntmps69
   go_wp2_with fail
   go_region_held3 (fun w'=>w'.cell? ⟨w.heap.size,0,none⟩=some (.int .i64 x.op)/\w'.cell? ⟨w.heap.size,1,none⟩=some (.int .i64 x.a)/\w'.cell? ⟨w.heap.size,2,none⟩=some (.int .i64 x.b)/\w'.cell? ⟨w.heap.size,3,none⟩=some (.int .i64 x.c)/\w'.cell? ⟨w.heap.size,4,none⟩=some (.int .u64 x.v)/\w'.cell? ⟨w.heap.size,5,none⟩=some (.int .i64 x.m)/\w'.cell? ⟨w.heap.size,6,none⟩=some (.int .i64 x.wh)/\w'.cell? (b,t+1+x.a.toNat)=some (.int .u64 y)) (go_keep) ((go_at_call 116;refine(R f.drew ⟨H.pc,H.oD⟩).mono ?_;rintro e w2 ⟨rfl,g⟩;have i:=Z g;have L:=Z (Row.ch (w:=f.drew) a2.drew g (fun h=>h));have G:Hid (fj w2 b t pc r):=Z (fj.ch (w:=f.drew) H.drew g (fun h=>h));obtain⟨al,d1,ap,av,bi,bv,bw⟩:=L.c7;have d2:=G.oD x.a.toNat (by omega);rw[ab]at d2;clear g))
   all_goals
    have J:Hid (a.At S w2):=Z (a.keep S f.drew w2 (a.keep S w f.drew a1 p.drew) i);have c1:=a.mW;have c0:=a.eW;have j:=Z (a.cW S s y w2 ad V a3 J);rw[K]at j;go_wp2_with (first|(refine j.mono ?_;rintro e O ⟨⟨n,u,rfl,C⟩,c,d⟩;obtain⟨tt,c5,rfl⟩:=C;have m:=Z c;have l:=Z d;clear c d)|(refine j.mono ?_;rintro e O ⟨rfl,c,d⟩;have m:=Z c;have l:=Z d;clear c d))
    go_ret2;rw[E]
    first|exact⟨⟨_,_,rfl,aq.mk _ _⟩,m,((p.drew.trans i).af).trans l⟩|exact⟨rfl,m,((p.drew.trans i).af).trans l⟩
 have cl:(x.op==19)=false:=by simpa using Q
 have am:∀v B:Option Int×a0,(if x.op=19 then v else B)=B:=fun v B=>if_neg Q
 by_cases U:x.op=20
 ·have cm:(x.op==20)=true:=by simp[U]
  have E:Hid (cK a.acc S x r=a.acc S 3 s 0 y):=Z (by unfold cK;dsimp only;rw[P,W,am,if_pos U,A,F]);obtain⟨q,o⟩:=nm (a.acc S 3 s 0 y);obtain⟨N,c4⟩:=q;rw[o]at E;have K:=Z o;clear o U Y A F I P M W Q am;cases N
  all_goals
   go_enter func69,ntmps69
   go_wp2_with fail
   go_region_held3 (fun w'=>w'.cell? ⟨w.heap.size,0,none⟩=some (.int .i64 x.op)/\w'.cell? ⟨w.heap.size,1,none⟩=some (.int .i64 x.a)/\w'.cell? ⟨w.heap.size,2,none⟩=some (.int .i64 x.b)/\w'.cell? ⟨w.heap.size,3,none⟩=some (.int .i64 x.c)/\w'.cell? ⟨w.heap.size,4,none⟩=some (.int .u64 x.v)/\w'.cell? ⟨w.heap.size,5,none⟩=some (.int .i64 x.m)/\w'.cell? ⟨w.heap.size,6,none⟩=some (.int .i64 x.wh)/\w'.cell? (b,t+1+x.a.toNat)=some (.int .u64 y)) (go_keep) ((go_at_call 116;refine(R f.drew ⟨H.pc,H.oD⟩).mono ?_;rintro e w2 ⟨rfl,g⟩;have i:=Z g;have L:=Z (Row.ch (w:=f.drew) a2.drew g (fun h=>h));have G:Hid (fj w2 b t pc r):=Z (fj.ch (w:=f.drew) H.drew g (fun h=>h));obtain⟨al,d1,ap,av,bi,bv,bw⟩:=L.c7;have d2:=G.oD x.a.toNat (by omega);rw[ab]at d2;clear g))
   all_goals
    have J:Hid (a.At S w2):=Z (a.keep S f.drew w2 (a.keep S w f.drew a1 p.drew) i);have c1:=a.mA;have c0:=a.eA;have j:=Z (a.cA S s y w2 ad V a3 J);rw[K]at j;go_wp2_with (first|(refine j.mono ?_;rintro e O ⟨⟨n,u,rfl,C⟩,c,d⟩;obtain⟨tt,c5,rfl⟩:=C;have m:=Z c;have l:=Z d;clear c d)|(refine j.mono ?_;rintro e O ⟨rfl,c,d⟩;have m:=Z c;have l:=Z d;clear c d))
    go_ret2;rw[E]
    first|exact⟨⟨_,_,rfl,aq.mk _ _⟩,m,((p.drew.trans i).af).trans l⟩|exact⟨rfl,m,((p.drew.trans i).af).trans l⟩
 have cm:(x.op==20)=false:=by simpa using U
 have c9:∀v B:Option Int×a0,(if x.op=20 then v else B)=B:=fun v B=>if_neg U
 have cA:0<=x.c/\x.c<32:=by
  rcases Y with q|q|q|q|q
  ·exact absurd q I
  ·exact absurd q M
  ·exact absurd q Q
  ·exact absurd q U
  ·exact q.2
 obtain⟨cQ,cS⟩:=cA;have c8:=Z (cf x.c.toNat (by omega));obtain⟨z,c3⟩:=nm (r x.c.toNat);have ch:=Z c3;rw[c3]at c8;have E:Hid (cK a.acc S x r=a.acc S 4 s y z):=Z (by unfold cK;dsimp only;rw[P,W,am,c9,A,F,c3]);obtain⟨q,o⟩:=nm (a.acc S 4 s y z);obtain⟨N,c4⟩:=q;rw[o]at E;have K:=Z o;clear o Y A F c3 I M Q U P W am c9;cases N
 all_goals
  go_enter func69,ntmps69
  go_wp2_with fail
  go_region_held3 (fun w'=>w'.cell? ⟨w.heap.size,0,none⟩=some (.int .i64 x.op)/\w'.cell? ⟨w.heap.size,1,none⟩=some (.int .i64 x.a)/\w'.cell? ⟨w.heap.size,2,none⟩=some (.int .i64 x.b)/\w'.cell? ⟨w.heap.size,3,none⟩=some (.int .i64 x.c)/\w'.cell? ⟨w.heap.size,4,none⟩=some (.int .u64 x.v)/\w'.cell? ⟨w.heap.size,5,none⟩=some (.int .i64 x.m)/\w'.cell? ⟨w.heap.size,6,none⟩=some (.int .i64 x.wh)/\w'.cell? (b,t+1+x.a.toNat)=some (.int .u64 y)) (go_keep) ((go_at_call 116;refine(R f.drew ⟨H.pc,H.oD⟩).mono ?_;rintro e w2 ⟨rfl,g⟩;have i:=Z g;have L:=Z (Row.ch (w:=f.drew) a2.drew g (fun h=>h));have G:Hid (fj w2 b t pc r):=Z (fj.ch (w:=f.drew) H.drew g (fun h=>h));obtain⟨al,d1,ap,av,bi,bv,bw⟩:=L.c7;have d2:=G.oD x.a.toNat (by omega);rw[ab]at d2;clear g))
  all_goals
   have J:Hid (a.At S w2):=Z (a.keep S f.drew w2 (a.keep S w f.drew a1 p.drew) i);have c1:=a.mC;have cW:=a.nC;have c0:=a.eC;have j:=Z (a.cC S s y z w2.drew ad V a3 c8 (a.keep S w2 w2.drew J (Ch.refl _ w2).drew));rw[K]at j;have d3:=G.oD x.c.toNat (by omega);rw[ch]at d3;go_wp2_with fail
   go_region_with (first|(refine j.mono ?_;rintro e O ⟨⟨n,u,rfl,C⟩,c,d⟩;obtain⟨tt,c5,rfl⟩:=C;have m:=Z c;have l:=Z d;clear c d)|(refine j.mono ?_;rintro e O ⟨rfl,c,d⟩;have m:=Z c;have l:=Z d;clear c d))
   all_goals
    go_wp2_with fail
    go_ret2;rw[E]
    first|exact⟨⟨_,_,rfl,aq.mk _ _⟩,m,((p.drew.trans i.drew).af).trans l⟩|exact⟨rfl,m,((p.drew.trans i.drew).af).trans l⟩
instance{w:World}{a0:Addr}{v0:Value}:CoeOut (w.cell? a0=some v0) (World->Prop):=⟨fun _ u=>u.cell? a0=some v0⟩
instance{w:World}{a0 a1:Addr}{v0 v1:Value}:CoeOut (w.cell? a0=some v0/\w.cell? a1=some v1) (World->Prop):=⟨fun _ u=>u.cell? a0=some v0/\u.cell? a1=some v1⟩
instance{w:World}{a0 a1 a2:Addr}{v0 v1 v2:Value}:CoeOut (w.cell? a0=some v0/\w.cell? a1=some v1/\w.cell? a2=some v2) (World->Prop):=⟨fun _ u=>u.cell? a0=some v0/\u.cell? a1=some v1/\u.cell? a2=some v2⟩
instance{w:World}{a0 a1 a2 a3:Addr}{v0 v1 v2 v3:Value}:CoeOut (w.cell? a0=some v0/\w.cell? a1=some v1/\w.cell? a2=some v2/\w.cell? a3=some v3) (World->Prop):=⟨fun _ u=>u.cell? a0=some v0/\u.cell? a1=some v1/\u.cell? a2=some v2/\u.cell? a3=some v3⟩
instance{w:World}{a0 a1 a2 a3 a4:Addr}{v0 v1 v2 v3 v4:Value}:CoeOut (w.cell? a0=some v0/\w.cell? a1=some v1/\w.cell? a2=some v2/\w.cell? a3=some v3/\w.cell? a4=some v4) (World->Prop):=⟨fun _ u=>u.cell? a0=some v0/\u.cell? a1=some v1/\u.cell? a2=some v2/\u.cell? a3=some v3/\u.cell? a4=some v4⟩
instance{w:World}{a0 a1 a2 a3 a4 a5:Addr}{v0 v1 v2 v3 v4 v5:Value}:CoeOut (w.cell? a0=some v0/\w.cell? a1=some v1/\w.cell? a2=some v2/\w.cell? a3=some v3/\w.cell? a4=some v4/\w.cell? a5=some v5) (World->Prop):=⟨fun _ u=>u.cell? a0=some v0/\u.cell? a1=some v1/\u.cell? a2=some v2/\u.cell? a3=some v3/\u.cell? a4=some v4/\u.cell? a5=some v5⟩
instance{w:World}{a0 a1 a2 a3 a4 a5 a6:Addr}{v0 v1 v2 v3 v4 v5 v6:Value}:CoeOut (w.cell? a0=some v0/\w.cell? a1=some v1/\w.cell? a2=some v2/\w.cell? a3=some v3/\w.cell? a4=some v4/\w.cell? a5=some v5/\w.cell? a6=some v6) (World->Prop):=⟨fun _ u=>u.cell? a0=some v0/\u.cell? a1=some v1/\u.cell? a2=some v2/\u.cell? a3=some v3/\u.cell? a4=some v4/\u.cell? a5=some v5/\u.cell? a6=some v6⟩
theorem q2(T:TypeId)(X:Value)(b d:Nat)(t:TypeId)(Y:t≠3)(pre post:List Value)(v:Value)(p:Nat)(fr:Nat->Int)(fb:List Int)(g N K:Nat)(eA:N<=K)(c9:N<=100000)(ce:p<N)
 (op a c i k j l:Int) (cb:1<=op/\op<=11) (c7:0<=a/\a<32) (S:bt ⟨op,a,c,i,k,j,l⟩ N=true) (w:World) (h:aG w b d t pre post v ⟨(p:Int),fr,fb⟩)
 (a2:w.cell? ⟨g,p*7,none⟩=some (.int .i64 op)) (a3:w.cell? ⟨g,p*7+1,none⟩=some (.int .i64 a)) (ab:w.cell? ⟨g,p*7+2,none⟩=some (.int .i64 c)) (ad:w.cell? ⟨g,p*7+3,none⟩=some (.int .i64 i)) (al:w.cell? ⟨g,p*7+4,none⟩=some (.int .u64 k)) (am:w.cell? ⟨g,p*7+5,none⟩=some (.int .i64 j)) (ap:w.cell? ⟨g,p*7+6,none⟩=some (.int .i64 l)):
 Calls prog 28 #[(b,d),.slice (some ⟨g,0,none⟩) N K,.iface T X] w
  (fun e w'=>e=.returned (.tuple #[.int .i64 0,.nilIface])/\aG w' b d t pre post v ⟨(p:Int)+1,fO fr a.toNat (ha ⟨op,a,c,i,k,j,l⟩ (gF fr c) (h' fr ⟨op,a,c,i,k,j,l⟩)),fb⟩/\Ch (aK b) w w'):=by
 have H:=Z h;have M:=h.mu;have fd:¬(p:Int)<0:=by omega
 have fn:¬(N:Int)<=(p:Int):=by omega
 have fz:(p:Int)<(N:Int):=by omega
 have r:=Z (fun w=>qV ⟨op,a,c,i,k,j,l⟩ N c9 w);rw[S]at r;have J:=Z (fun w h=>m3 b d (p:Int) fr c w h);have x:=Z (fun w h=>vz b d (p:Int) fr ⟨op,a,c,i,k,j,l⟩ w h);obtain⟨av,V⟩:=nm (gF fr c);obtain⟨bi,a1⟩:=nm (h' fr ⟨op,a,c,i,k,j,l⟩);rw[V]at J⊢;rw[a1]at x⊢;have s:=Z (fun w=>sW ⟨op,a,c,i,k,j,l⟩ av bi w);obtain⟨E,W⟩:=nm (ha ⟨op,a,c,i,k,j,l⟩ av bi);rw[W]at s⊢;unfold aI aC at r x s;dsimp only at r x s;obtain⟨eC,eL⟩:=c7;clear h S V a1 W ce;have cd:op=1∨op=2∨op=3∨op=4∨op=5∨op=6∨op=7∨op=8∨op=9∨op=10∨op=11:=by omega
 clear cb;obtain⟨n,U⟩:=mn op;have c3:=Z U;clear U;rcases cd with rfl|rfl|rfl|rfl|rfl|rfl|rfl|rfl|rfl|rfl|rfl
 all_goals
  go_enter func28,ntmps28
  go_wp2_with fail
  with_reducible refine(r.out _).mono ?_
  rintro e w2 ⟨rfl,Q⟩;have f:=Z Q;have cf:=f.k a2;have ch:=f.k a3;have ci:=f.k ab;have ck:=f.k ad;have cl:=f.k al;have cm:=f.k am;have cq:=f.k ap;have c6:=f.k M;clear Q a2 a3 ab ad al am ap M;obtain⟨o,q⟩:=nm (w2.alloc (.cells #[n,a,c,i,.int .u64 k,j,l] 121));rw[c3]at q;have u:=Z (Row.al q);have F:Hid (Ch ag w o):=Z (by rw[<-q];exact f.alloc _);have m:Hid (aG o b d t pre post v ⟨(p:Int),fr,fb⟩):=Z (H.ch F (fun h=>h) (fun g R h=>h));obtain⟨d0,d1,d2,d3,d4,d5,d6⟩:=u.c7;have c5:=m.l4 a.toNat (by omega);go_wp2_with fail
  try rw[q]
  have c8:b<w2.heap.size:=Nat.lt_of_lt_of_le H.row.lt f.size;obtain⟨tb,a0⟩:=mn w2.heap.size;have eS:¬b=tb:=by omega
  have eW:¬tb=b:=by omega
  clear c8;rw[<-a0]at u d0 d1 d2 d3 d4 d5 d6⊢;clear q a0 cf ch ci ck cl cm cq c6;obtain⟨gc,D⟩:=nm (fr a.toNat);have I:=Z D;rw[D]at c5;clear D;go_region_held3 (u.c7) (go_keep) ((first|(go_at_call 72;refine(J o.drew ⟨m.fr.pc,m.fr.oD⟩).mono ?_;rintro e w' ⟨rfl,rfl⟩)|(go_at_call 73;refine(x o.drew ⟨m.fr.pc,m.fr.oD⟩).mono ?_;rintro e w4 ⟨rfl,y⟩;have c0:=Z y;have L:=Z (Row.ch (w:=o.drew) u.drew y (fun h=>h));have G:Hid (aG w4 b d t pre post v ⟨(p:Int),fr,fb⟩):=Z (aG.ch (w:=o.drew) m.drew y (fun h=>h) (fun g R h=>h));obtain⟨cA,cC,cL,cQ,cS,cW,dr⟩:=L.c7;have O:=G.l4 a.toNat (by omega);dsimp only at O;rw[I]at O;clear y)|(go_at_call 71;refine(s w4).mono ?_;rintro e bv ⟨rfl,z⟩;have c1:=Z z;have c4:=Z (Row.ch (w:=w4) L z (fun h=>h));have B:Hid (aG bv b d t pre post v ⟨(p:Int),fr,fb⟩):=Z (aG.ch (w:=w4) G z (fun h=>h) (fun g R h=>h));obtain⟨dC,dN,ec,en,es,et,ex⟩:=c4.c7;have P:=B.l4 a.toNat (by omega);dsimp only at P;rw[I]at P;have gf:=B.free (d+1+a.toNat);clear z)))
  all_goals
   obtain⟨bw,A⟩:=nm (bv.setCell (b,d+1+a.toNat) (.int .u64 E));have C:Hid (aG bw b d t pre post v ⟨(p:Int),fO fr a.toNat E,fb⟩):=Z (by rw[<-A];exact B.pR Y a.toNat (by omega) E);have c2:Hid (Ch (aK b) w bw):=Z (by rw[<-A];exact(((F.drew.trans c0).trans c1).af).only _ _);have cs:=C.mu;have ge:=C.free d;dsimp only at cs;try rw[A]
   clear A;go_wp2_with fail
   go_ret2;exact⟨rfl,C.jF Y _,c2.only _ _⟩
end Go.Proofs.YtfnilkpkogipfaaGreatDoor
