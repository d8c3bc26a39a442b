import Derived.RangeFuncNested
import Derived.RangeFuncBound
import Derived.RangeFuncCalls
import Derived.RangeFuncLeaves
import Derived.Shelf.Abstract
import Derived.Shelf.RegionOpen
import Derived.OwnWalkIn
import Derived.TacticsInMore
import Derived.LoopNIn
import Derived.LoopIn
import Derived.Test.YtfnilkpkogipfaaGreatDoorCards
import Derived.Test.YtfnilkpkogipfaaGreatDoorTie
import Derived.HandedShaped
import Derived.LaidMore
import Derived.LaidHandle
import Derived.ProofKit
import Derived.OpenShut
import Derived.ChangeSame
import Derived.Stop.Joined
import Derived.WideKeyArgs
import Derived.Test.YtfnilkpkogipfaaGreatDoorZAj
set_option linter.all false
set_option maxRecDepth 100000
set_option maxHeartbeats 8000000
namespace Go.Proofs.YtfnilkpkogipfaaGreatDoor
open Go.RowKit Go.Proofs.Tryz
section
section
variable{w w':World}{χ:Nat->aX}{L:cz}{Y:Var}{C:KC}{K:KS}
theorem ae.vS(h:ae w χ L Y C K){q:Nat}{r:bB}(c:C.calls[q]?=some r):∃g,L.ll=some ⟨g,0,none⟩/\w.cell? ⟨g,q*6,none⟩=some (.int .i64 r.num)/\w.cell? ⟨g,q*6+1,none⟩=some (.int .i64 r.at_)/\w.cell? ⟨g,q*6+2,none⟩=some (.int .i64 r.k0)/\w.cell? ⟨g,q*6+3,none⟩=some (.int .i64 r.k1)/\w.cell? ⟨g,q*6+4,none⟩=some (.int .i64 r.k2)/\w.cell? ⟨g,q*6+5,none⟩=some (.int .i64 r.k3):=by
 obtain⟨g,m,d,f,_⟩:=(h.code (by simp)).calls (by intro e;rw[e]at c;cases c);have l:=(List.getElem?_eq_some_iff.1 c).1;have a:∀j v,j<6->r.cells[j]?=some v->w.cell? ⟨g,q*6+j,none⟩=some v:=fun j v i k=>f.cell (by
  rw[List.getElem?_append_left (by rw[a4 (enc:=bB.cells) bB.len];omega)];exact(bD bB.len c i).trans k)
 exact⟨g,d,a 0 _ (by omega) rfl,a 1 _ (by omega) rfl,a 2 _ (by omega) rfl,a 3 _ (by omega) rfl,a 4 _ (by omega) rfl,a 5 _ (by omega) rfl⟩
theorem gA(k a:Int)(l:List (Int×Int)):cB C K ((k,a)::l)=if k=0 then cB C K l else if k=7 then(if IntKind.u64.wrap C.cells<=a then 22 else cB C K l)else if(gu K.c' a k).isNone then 22 else cB C K l:=rfl
section
variable{k0 k1 k2 k3 a0 a1 a2 a3 kd:Int}{b:Nat}{t:TypeId}
theorem z7(a b c e:Int)(d:World):(Instr.index 47 (.agg #[a,.int .i64 b,c,e]) (.int .i64 0)).run prog d=.ok (.int .i64 a) d:=by kernel_rfl
theorem FJ(hb:Row w b t [.int .u64 a0,.int .u64 a1,.int .u64 a2,.int .u64 a3])(d:cB C K ([(k0,a0),(k1,a1),(k2,a2),(k3,a3)].drop 0)=kd):∃c a l,(Instr.index 47 (.agg #[k0,k1,k2,k3]) (.int .i64 0)).run prog w=.ok (.int .i64 c) w/\w.cell? (b,0)=some (.int .u64 a)/\cB C K ((c,a)::l)=kd/\l=[(k0,a0),(k1,a1),(k2,a2),(k3,a3)].drop (0+1):=⟨k0,a0,_,z7 _ _ _ _ _,hb.cell (i:=0) rfl,d,rfl⟩
theorem z8(a b c e:Int)(d:World):(Instr.index 47 (.agg #[a,.int .i64 b,c,e]) (.int .i64 1)).run prog d=.ok (.int .i64 b) d:=by kernel_rfl
theorem FK(hb:Row w b t [.int .u64 a0,.int .u64 a1,.int .u64 a2,.int .u64 a3])(d:cB C K ([(k0,a0),(k1,a1),(k2,a2),(k3,a3)].drop 1)=kd):∃c a l,(Instr.index 47 (.agg #[k0,k1,k2,k3]) (.int .i64 1)).run prog w=.ok (.int .i64 c) w/\w.cell? (b,1)=some (.int .u64 a)/\cB C K ((c,a)::l)=kd/\l=[(k0,a0),(k1,a1),(k2,a2),(k3,a3)].drop (1+1):=⟨k1,a1,_,z8 _ _ _ _ _,hb.cell (i:=1) rfl,d,rfl⟩
theorem z9(a b c e:Int)(d:World):(Instr.index 47 (.agg #[a,.int .i64 b,c,e]) (.int .i64 2)).run prog d=.ok (.int .i64 c) d:=by kernel_rfl
theorem FM(hb:Row w b t [.int .u64 a0,.int .u64 a1,.int .u64 a2,.int .u64 a3])(d:cB C K ([(k0,a0),(k1,a1),(k2,a2),(k3,a3)].drop 2)=kd):∃c a l,(Instr.index 47 (.agg #[k0,k1,k2,k3]) (.int .i64 2)).run prog w=.ok (.int .i64 c) w/\w.cell? (b,2)=some (.int .u64 a)/\cB C K ((c,a)::l)=kd/\l=[(k0,a0),(k1,a1),(k2,a2),(k3,a3)].drop (2+1):=⟨k2,a2,_,z9 _ _ _ _ _,hb.cell (i:=2) rfl,d,rfl⟩
theorem z'(a b c e:Int)(d:World):(Instr.index 47 (.agg #[a,.int .i64 b,c,e]) (.int .i64 3)).run prog d=.ok (.int .i64 e) d:=by kernel_rfl
theorem FN(hb:Row w b t [.int .u64 a0,.int .u64 a1,.int .u64 a2,.int .u64 a3])(d:cB C K ([(k0,a0),(k1,a1),(k2,a2),(k3,a3)].drop 3)=kd):∃c a l,(Instr.index 47 (.agg #[k0,k1,k2,k3]) (.int .i64 3)).run prog w=.ok (.int .i64 c) w/\w.cell? (b,3)=some (.int .u64 a)/\cB C K ((c,a)::l)=kd/\l=[(k0,a0),(k1,a1),(k2,a2),(k3,a3)].drop (3+1):=⟨k3,a3,_,z' _ _ _ _ _,hb.cell (i:=3) rfl,d,rfl⟩
end
theorem qU(id:Int)(t:Thread)(B:aw K.ai id=some t)(S:0<t.l.length)(fd:t.l.length<=8)(num:Int)(fb:0<=num)(a0 a1 a2 a3:Int)(cr:0<=C.wide/\C.wide<=256/\0<=C.narrow/\C.narrow<=256)(T:∀r∈C.rows,0<=r/\r<=C.calls.length)(eS:C.calls.length<=2048)(h:ae w χ L Y C K):
 Calls prog 171 #[(L.mb,0),(Y.bH id,0),num,.agg #[.int .u64 a0,.int .u64 a1,.int .u64 a2,.int .u64 a3]] w (dc (.int .u64 (cN C K id num a0 a1 a2 a3)) w):=by
 have hlen:=(h.head (by simp)).rows;have cf:Hid (K.T id=t):=Z (KS.dk B);obtain⟨gf,gs,R,al,_⟩:=h.hL B S;have A:=h.Dp B;rw[R]at A;obtain⟨J,H⟩:=nm t.l.length;have ce:=Z H;rw[H]at A fd;obtain⟨tb,U⟩:=nm (Y.bH id);rw[U]at A⊢;obtain⟨W,F⟩:=nm (w.alloc (.cells #[.int .u64 a0,.int .u64 a1,.int .u64 a2,.int .u64 a3] 60));have x:=Z (Ch.al (D:=ag) F);have M:Hid (ae W χ L Y C K):=Z (h.af x);have c8:=Z (Row.al F);have cQ:=x.k A;by_cases ck:1000<=num
 ·have E:Hid (cN C K id num a0 a1 a2 a3=38):=Z (by unfold cN;rw[if_pos (Or.inl ck)])
  clear h B S U R al A cQ H T;go_in
  go_wp2
  try rw[F]
  go_ret;rw[E];exact⟨rfl,x⟩
 ·obtain⟨m,rfl⟩:=Int.eq_ofNat_of_zero_le fb
  have am:m<C.rows.length:=by omega
  obtain⟨r,I⟩:∃r,C.rows[m]?=some r:=⟨_,List.getElem?_eq_getElem am⟩;have c3:=T r (List.mem_of_getElem? I);have bv:Hid (C.rows.getD (m:Int).toNat 0=r):=Z (by rw[Int.toNat_natCast,List.getD_eq_getElem?_getD,I];rfl);have ci:=M.D1 I;have hl:(m:Int)<1000:=by omega
  by_cases c5:r=0
  ·subst c5
   have E:Hid (cN C K id m a0 a1 a2 a3=38):=Z (by unfold cN;rw[if_pos (Or.inr bv.out)]);clear h B S U R al A cQ H T I c3 am hlen;go_in
   go_wp2
   try rw[F]
   go_ret;rw[E];exact⟨rfl,x⟩
  ·have hn:(r==0)=false:=by rw[beq_eq_false_iff_ne];exact c5
   have ap:¬(1000<=(m:Int)∨C.rows.getD (m:Int).toNat 0=0):=(fun e=>e.elim ck (fun e=>c5 (bv.symm.trans e)));by_cases ad:7<=J/\(m:Int)≠2
   ·have E:Hid (cN C K id m a0 a1 a2 a3=11):=Z (by unfold cN;rw[if_neg ap,cf,ce,if_pos ad])
    obtain⟨cl,eC⟩:=ad;clear h B S U R al A H T I c3 am hlen ap;have cm:(7:Int)<=(J:Int):=(by omega);have hd:((m:Int)==2)=false:=(by rw[beq_eq_false_iff_ne];exact eC);go_in
    go_wp2
    try rw[F]
    go_ret;rw[E];exact⟨rfl,x⟩
   ·have eL:J<7∨7<=J/\m=2:=by omega
    obtain⟨q,rfl⟩:∃q:Nat,r=(q:Int)+1:=⟨(r-1).toNat,by omega⟩;obtain⟨c,a⟩:∃c,C.calls[q]?=some c:=⟨_,List.getElem?_eq_getElem (by omega)⟩;have en:Hid (C.calls.getD (C.rows.getD (m:Int).toNat 0-1).toNat default=c):=Z (by rw[bv,show((q:Int)+1-1).toNat=q by omega,List.getD_eq_getElem?_getD,a];rfl);have E:Hid (cN C K id (m:Int) a0 a1 a2 a3=cB C K [(c.k0,a0),(c.k1,a1),(c.k2,a2),(c.k3,a3)]):=Z (by unfold cN;rw[if_neg ap,cf,ce,if_neg ad];dsimp only;rw[en]);obtain⟨hb,c1,cS,cW,dr,dC,dN,ec⟩:=M.vS a;have ge:=Z (And.intro c1 (And.intro dr (And.intro dC (And.intro dN ec))));obtain⟨gt,gr,k0,k1,k2,k3⟩:=c;dsimp only at cS cW dr dC dN ec E;have ch:=M.c2;rw[c1]at ch;obtain⟨et,cq⟩:=nm C.calls.length;have hm:(q:Int)<(et:Int):=(by have:=(List.getElem?_eq_some_iff.1 a).1;omega);rw[cq]at ch eS;have hu:IntKind.i64.wrap ((q:Int)+1-1)=q:=(by rw[show(q:Int)+1-1=q by omega];exact IntWalk.i64_in _ (by omega));have hv:(q:Int)+1-1=q:=(by omega);clear h B S U R al A H T I c3 am hlen ap a c1 cS cW cq ad;have cb:=Z (fun w (h:ae w χ L Y C K)=>nR h cr);have cs:0<=C.cells/\C.cells<=512:=(by unfold KC.cells;omega);obtain⟨bx,c0⟩:=nm C.cells;rw[c0]at cb cs;obtain⟨he,hf⟩:=cs;have ab:Hid (IntKind.u64.wrap bx=bx):=Z (by unfold IntKind.wrap IntKind.bits IntKind.signed;simp;omega);have c9:=Z c0;clear c0 cr;obtain⟨kd,P⟩:=nm (cB C K [(k0,a0),(k1,a1),(k2,a2),(k3,a3)]);rw[P]at E;have es:=Z P;clear P;rcases eL with cl|⟨cl,rfl⟩
    all_goals
     try have ci:W.cell? (L.mb,9)=_:=ci
     try have cm:(J:Int)<7:=by omega
     try have cm:(7:Int)<=(J:Int):=by omega
     go_in
     go_wp2
     try rw[F]
     clear F;go_quiet (fail)
     obtain⟨w1,c4⟩:=nm (W.drewN nq);have av:Hid (Ch ag W w1):=Z (by rw[<-c4];exact(Ch.refl _ _).drewN nq);rw[c4];clear c4;have go:=Z (M.af av);have gc:=Z (c8.ch av (fun h=>h));go_wp2
     go_loopg [49] 5 (fun gk u wr=>∃k:Nat,k<=4/\gk=4-k+1/\u=.int .i64 k/\Hid (Ch ag W wr/\cB C K ([(k0,a0),(k1,a1),(k2,a2),(k3,a3)].drop k)=kd))
     case atStart=>exact⟨0,by omega,by omega,rfl,av,es⟩
     case round=>
      obtain⟨k,hi,rfl,rfl,g⟩:=hrel;have G:=Z (M.af g.1);have X:=Z (c8.ch g.1 (fun h=>h));have cd:=Z (fun n=>cb _ (G.drewN n));have co:=G.iP;obtain⟨c7,cL⟩:=mn (k+1);obtain⟨c6,cC⟩:=mn (4-k);have d:=Z (And.intro cL cC);clear cL cC;obtain rfl|rfl|rfl|rfl|rfl:k=0∨k=1∨k=2∨k=3∨k=4:=by omega
      rotate_right
      ·have P:kd=0:=g.2.symm
       go_wp2
       go_ret;rw[E,P];exact⟨rfl,x.trans g.1⟩
      all_goals
       first
        |obtain⟨f,p,l,c2,s,i,Q⟩:=FJ (k0:=k0) (k1:=k1) (k2:=k2) (k3:=k3) X g.2
        |obtain⟨f,p,l,c2,s,i,Q⟩:=FK (k0:=k0) (k1:=k1) (k2:=k2) (k3:=k3) X g.2
        |obtain⟨f,p,l,c2,s,i,Q⟩:=FM (k0:=k0) (k1:=k1) (k2:=k2) (k3:=k3) X g.2
        |obtain⟨f,p,l,c2,s,i,Q⟩:=FN (k0:=k0) (k1:=k1) (k2:=k2) (k3:=k3) X g.2
       have bi:=Z Q;clear Q;by_cases y:f=0
       ·have a:cB C K l=kd:=by rw[<-i];exact(show cB C K ((f,p)::_)=_ by rw[gA,if_pos y]).symm
        have o:=Z a;clear i a;have fr:(f==0)=true:=(by rw[beq_iff_eq];exact y);clear y;go_wp2
        go_roundg (c6)
        case measure=>have:=d.out;omega
        case rel=>exact⟨c7,by have:=d.out;omega,by have:=d.out;omega,by rw[d.1];rfl,g.1,by rw[d.1];exact bi▸o⟩
       ·have fr:(f==0)=false:=by rw[beq_eq_false_iff_ne];exact y
        by_cases z:f=7
        ·have fz:(f==7)=true:=by rw[beq_iff_eq];exact z
         by_cases cA:bx<=p
         ·have a:kd=22:=by rw[<-i,gA,if_neg y,if_pos z,if_pos (by rw[c9.out,ab];exact cA)]
          have o:=Z a;have eW:=ab.out;clear i a z;go_wp2
          go_quiet ((go_at_call 97;exact Calls.quiet_of (cd _)))
          generalize V:wr.drewN _=w3;have j:=Z (Ch.dN (D:=ag) V);clear V;go_wp2
          go_ret;rw[E,o];exact⟨rfl,(x.trans g.1).trans j⟩
         ·have a:cB C K l=kd:=by rw[<-i];exact(show cB C K ((f,p)::_)=_ by rw[gA,if_neg y,if_pos z,if_neg (by rw[c9.out,ab];exact cA)]).symm
          have o:=Z a;have eW:=ab.out;clear i a z;go_wp2
          go_quiet ((go_at_call 97;exact Calls.quiet_of (cd _)))
          generalize V:wr.drewN _=w3;have j:=Z (Ch.dN (D:=ag) V);clear V;go_wp2
          go_roundg (c6)
          case measure=>have:=d.out;omega
          case rel=>exact⟨c7,by have:=d.out;omega,by have:=d.out;omega,by rw[d.1];rfl,g.1.trans j,by rw[d.1];exact bi▸o⟩
        ·have fz:(f==7)=false:=by rw[beq_eq_false_iff_ne];exact z
         have ax:=Z (fun w h=>zD (K:=K) (w:=w) (χ:=χ) (L:=L) (Y:=Y) (C:=C) p f h);obtain⟨eA,O⟩:=nm (gu K.c' p f);rw[O]at ax;cases eA with
         |none=>
          have a:kd=22:=(by rw[<-i,gA,if_neg y,if_neg z,O];rfl);have o:=Z a;clear i a O;go_wp2
          go_region_held3 (And.intro co s) (go_keep) ((go_at_call 172;refine(ax _ G.drew).mono ?_;rintro e w3 ⟨⟨v,rfl,fn⟩,N⟩;obtain⟨tt,hw,rfl⟩:=fn;have j:Hid (Ch ag wr w3):=Z (Ch.trans (Ch.refl _ _).drew N);have bw:=Z (G.af j);have ex:=j.k s;clear N co s;have co:=bw.iP))
          all_goals
           go_wp2
           go_ret;rw[E,o];exact⟨rfl,(x.trans g.1).trans j⟩
         |some v=>
          have a:cB C K l=kd:=(by rw[<-i];exact(show cB C K ((f,p)::_)=_ by rw[gA,if_neg y,if_neg z,O];rfl).symm);have o:=Z a;clear i a O;go_wp2
          go_region_held3 (And.intro co s) (go_keep) ((go_at_call 172;refine(ax _ G.drew).mono ?_;rintro e w3 ⟨rfl,N⟩;have j:Hid (Ch ag wr w3):=Z (Ch.trans (Ch.refl _ _).drew N);have bw:=Z (G.af j);have ex:=j.k s;clear N co s;have co:=bw.iP))
          all_goals
           go_wp2
           go_roundg (c6)
           case measure=>have:=d.out;omega
           case rel=>exact⟨c7,by have:=d.out;omega,by have:=d.out;omega,by rw[d.1];rfl,g.1.trans j,by rw[d.1];exact bi▸o⟩
end
end
section
open Go.ChangeAt Go.ChangeShapes Go.WideShapes
theorem own:ownKnob prog.godebug=none:=by kernel_rfl
theorem Du{H:Type}{enc:TypeId×Value->H}{a:Assume}{C:Checked}{os:Os}{f:FuncId}{b:Func}{s:ChangeSpec}{conds:List PathCond}{apart fresh handsOn again:Bool}{X:World->Array Value->Prop}
 (n:∀(w w':World) (args:Array Value),w.heap=w'.heap->X w args->X w' args)
 (own:ownKnob C.prog.godebug=none) (started:os.Started) (E:C.prog.inits.idxOf? f=none) (p:C.prog.funcs[f]?=some b)
 (witness:∃(w:World) (tape:Tape) (i:Input),w.os=os/\(w.forCall tape i).Shaped C.prog/\i.vars=[]/\Input.okWide C.prog (w.forCall tape i) .any w.heap.size f i/\
  ((s.pre enc C.prog b conds apart (w.forCall tape i).memory i.args/\X (w.forCall tape i).memory i.args)/\sizedMet enc C.prog b (OpenSpec.ofChange s) apart (w.forCall tape i).memory i.args)/\a.holds C.prog (lone (Frame.enter C.prog f i.args .normal) [] (w.forCall tape i)))
 (l:∀(c:World) (base:Nat) (args:Array Value) (d g:List (DataW H)) (before:List MemPlace),
  (∀(j:Nat) t v,b.params[j]?=some t->args[j]?=some v->Value.okWide C.prog c .any base t v)->
  DataW.Whole enc C.prog b.params.toList s.vars apart c args.toList d g before->
  (DataW.weightsEach C.prog (b.params.toList++s.plain.varTypes C.prog) (d++g)).all (·<=reachBytes)=true->X c args->c.ShapedOpen C.prog->
  Calls C.prog f args c fun e h=>∃v,e=.returned v/\s.post enc C.prog b apart fresh handsOn again c args v h):
 ReturnsInHanded a C os f .any (fun w args=>(s.pre enc C.prog b conds apart w args/\X w args)/\sizedMet enc C.prog b (OpenSpec.ofChange s) apart w args) (s.post enc C.prog b apart fresh handsOn again):=by
 refine returnsInHanded_of_calls own started E witness ?_;intro w tape i _ y _ r x _;obtain⟨_,_,_,m,q,_,_,_,_,z⟩:=r;have e:m=b:=Option.some.inj (q.symm.trans p);subst e;obtain⟨⟨⟨d,g,before,k,F⟩,B⟩,D⟩:=x;have A:=DataW.Whole.of_heap (w':=w.forCall tape i) (by rfl) k;refine(l (w.forCall tape i) w.heap.size i.args d g before z A (D.weights k) (n _ _ _ (by rfl) B) y).mono fun e h ⟨v,o,u⟩=> ?_
 subst o;exact ChangeSpec.post_blind u
theorem pQ{H:Type}{enc:TypeId×Value->H}{P:Program}{f:Func}{s:ChangeSpec}{apart fresh handsOn again:Bool}{d e:World}{args:Array Value}{v:Value}{g h:List (DataW H)}{before pa pv:List MemPlace}
 (k:DataW.Whole enc P f.params.toList s.vars apart d args.toList g h before)
 (o:∀(b:Nat) (c:Nat->Bool) (w:Bool),DataW.TrodAll enc P e b c w f.resultTypes.toList (v.resultList f.resultTypes.size) (s.fn H (g++h)).results [])
 (l:∀c:Nat->Bool,(∀p∈before,c p.block=true)->DataW.TrodAll enc P e 0 c true f.params.toList args.toList (s.fn H (g++h)).args pa)
 (q:∀c:Nat->Bool,(∀p∈before,c p.block=true)->DataW.TrodVars enc P e c s.vars (s.fn H (g++h)).vars pv)
 (i:before=pa++pv) (hb:Below d.heap.size d e)
 (y:∀(j:Nat) (t:TypeId) (r:Value),f.resultTypes[j]?=some t->(v.resultList f.resultTypes.size)[j]?=some r->Value.okWide P e .any 0 t r):
 s.post enc P f apart fresh handsOn again d args v e:=by
 have n:∀p∈before,p.block<d.heap.size:=fun p a=>k.lt p a
 have hold:∀p∈before,(fun b=>decide (b<d.heap.size)) p.block=true:=fun p a=>by simpa using n p a
 refine⟨g,h,before,[],pa,pv,k,o _ _ _,l _ hold,q _ hold,World.keptBut_mono (fun p a=>⟨a,?_⟩) (hb.frame (·∈before)),fun _=> ?_⟩
 ·rw[i,List.mem_append]at a
  exact Or.inr a
 ·obtain⟨_,_,_,_,_,z,x⟩:=k
  refine⟨y,_,_,([]++pa)++pv,⟨[]++pa,pv,trodAll_append (l _ (fun _ _=>rfl)) (o _ _ _),q _ (fun _ _=>rfl),rfl,?_,?_⟩,?_⟩
  ·intro b off a
   have m:MemPlace.cell b off∈before:=(by rw[i];simpa using a);rw[hb.frozen (n _ m)];exact z b off m
  ·intro u
   have:=x u;rw[i]at this;simpa using this
  ·intro p a _
   rw[i];simpa using a
noncomputable def l2 (os:Os):World:=World.doorLaid prog 60 os
theorem EE.et:prog.globalNamed "errors.errorType" =some 0:=by kernel_rfl
theorem EE.rt:(prog.cutTypes.find? (·.1== "internal/reflectlite.rtype")).map (·.2)=some 335:=by kernel_rfl
theorem EE.EF:((List.range 394).filter fun t=>prog.rowNamed t [101,114,114,111,114])=[40]:=by kernel_rfl
theorem EE.size:prog.types.size=394:=by kernel_rfl
def sX:List (String×DataW Unit):=[("errors.errorType",Rows.laid_errors_errorType)]
theorem jo{a:World}(h:laidMetH prog sX a):a.cell? (0,0)=some (.iface 335 (.agg #[(1,40)])):=by
 have i:laidMet prog [] a/\handlesMet prog [("errors.errorType",Rows.laid_errors_errorType)] a:=h;obtain⟨name,u,ty,d,e,f,g,b⟩:=i.2 _ (List.mem_singleton.2 rfl);have en:name=[101,114,114,111,114]:=(Option.some.inj d).symm;subst en;obtain rfl:=Option.some.inj (EE.rt.symm.trans e);have c:ty∈(List.range 394).filter fun t=>prog.rowNamed t [101,114,114,111,114]:=List.mem_filter.2 ⟨List.mem_range.2 (by rw[<-EE.size];exact f),g⟩
 rw[EE.EF]at c;obtain rfl:=List.mem_singleton.1 c;have j:typeHandle prog 40=.pointer (some (1,40)):=by kernel_rfl
 rw[j]at b;simpa using World.var?_cell EE.et b 0
theorem vX(os:Os)(args:Array Value):laidMetH prog sX ((l2 os).forCall (fun _ _=>0) ⟨#[],args,[]⟩).memory:=
 laidMetH_of_parts3 (fuel:=8) (laidMet_of_run' 8 (by kernel_rfl) (by kernel_rfl)) (by kernel_rfl) (by kernel_rfl)
theorem Av:laidOutB prog=true:=by kernel_rfl
theorem g1{H:Type}{enc:TypeId×Value->H}{a c:World}{T:TypeId}{v:Value}{d:DataW H}{b:List MemPlace}(g:prog.readableRec T=true)(i:T<prog.types.size)
 (h:DataW.Trod enc prog a 0 (fun _=>true) true T v d b) (hb:Below a.heap.size a c) (f:∀x∈b,x.block<a.heap.size) {e:Nat->Bool} (j:∀p∈b,e p.block=true):DataW.Trod enc prog c 0 e true T v d b:=
 WideElems.Trod_stays Av g i h (fun x k=>hb.same (f x k)) j
end
end Go.Proofs.YtfnilkpkogipfaaGreatDoor
