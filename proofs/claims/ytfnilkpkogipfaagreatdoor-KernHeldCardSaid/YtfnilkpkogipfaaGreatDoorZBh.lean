import Derived.Test.YtfnilkpkogipfaaGreatDoorCards
import Derived.Test.YtfnilkpkogipfaaGreatDoorTie
import Derived.HandedShaped
import Derived.LaidMore
import Derived.LaidHandle
import Derived.ProofKit
import Derived.OpenShut
import Derived.ChangeSame
import Derived.Stop.Joined
import Derived.WideKeyArgs
import Derived.Test.YtfnilkpkogipfaaGreatDoorZBg
set_option linter.all false
set_option maxRecDepth 100000
set_option maxHeartbeats 8000000
namespace Go.Proofs.YtfnilkpkogipfaaGreatDoor
open Go.RowKit Go.Proofs.Tryz
def Dd(mb:Nat)(pre:List Value)(rows:List Int)(post:List Value)(tt n f d:Nat)(w:World)(e:Ending)(w':World):Prop:=
 e=.returned (.tuple #[])/\∃m c b a,NM w' mb pre rows ((post.set 0 (bf m)).set 1 (bf a))/\aO w' m c b (fQ tt n f d)/\aR w' a m (.slice none 0 0) ⟨17+8*n+f+d,tt,[]⟩/\w.heap.size<=m/\w.heap.size<=c/\w.heap.size<=b/\w.heap.size<=a/\Ch (aK mb) w w'
theorem Ch.qB{D E:Nat->Prop}{w a b:World}(c:Ch D w a)(d:Ch E a b)(h:∀i,i<w.heap.size->E i->D i):Ch D w b:=
 ⟨d.os.trans c.os,d.tape.trans c.tape,d.output.trans c.output,Nat.le_trans c.size d.size,fun j f g=>(d.same j (Nat.lt_of_lt_of_le f c.size) (fun e=>g (h j f e))).trans (c.same j f g)⟩
theorem zw(mb:Nat)(pre:List Value)(rows:List Int)(post:List Value)(eL n d f tt:Nat)(w:World)(h:NM w mb pre rows post)(r:NR pre post eL n d f)(i1:2<=post.length)(i3:1<=tt)(eA:tt<=65536)(i2:17+8*n+d+f<=tt):
 Calls prog 57 #[(mb,0),.int .i64 tt] w (Dd mb pre rows post tt n d f w):=by
 have H:=Z h;have R:=Z r;have k5:=Z eA;have k3:=Z i1;have k4:=Z i2;have fb:=Z (tN tt i3 eA w);have lo:(n:Int)<=64:=by have:=r.E3;omega
 have lv:(d:Int)<=256:=r.E4;have ls:(f:Int)<=256:=r.E5;obtain⟨i4,hF⟩:∃i4,post[0]?=some i4:=⟨_,List.getElem?_eq_getElem (by omega)⟩;obtain⟨p1,i0⟩:∃p1,post[1]?=some p1:=⟨_,List.getElem?_eq_getElem (by omega)⟩;have gs:=Z hF;have gt:=Z i0;clear h r i3 eA i1 i2 hF i0;go_enter func57,ntmps57
 go_wp2_with (first|(go_at_call 25;refine fb.mono ?_;rintro e w1 ⟨m,c,j,rfl,hB,hu,hm,hn,dC⟩;have gr:=Z hB;have eS:=Z dC;have b:Hid (w.heap.size<=m/\w.heap.size<=c/\w.heap.size<=j):=Z ⟨hu,hm,hn⟩;have c5:=Z (H.ch dC (fun h=>h));have z:=c5.fz 1007;have li:=c5.qc gs;clear hB hu hm hn dC))
 obtain⟨w2,c3⟩:=nm (w1.setCell (mb,1007) (.pointer (some (m,0))));have E:Hid (mb<w.heap.size):=Z H.lt;have am:Hid (NM w2 mb pre rows (post.set 0 (bf m))):=Z (by rw[<-c3];exact c5.jZ 0 _);have kd:Hid (aO w2 m c j (aF.new tt)):=Z (by
  have q:∀x,w.heap.size<=x->¬aK mb x:=fun x cd e=>by have u:x=mb:=e;have F:=E.out;omega
  rw[<-c3];exact gr.ch (((Ch.refl (aK mb) w1).only 1007 _)) (q m b.1) (q c b.2.1) (q j b.2.2))
 have T:Hid (Ch (aK mb) w w2):=Z (by rw[<-c3];exact(eS.af).only _ _);have D:Hid (NR pre (post.set 0 (bf m)) eL n d f):=Z ⟨by rw[List.getElem?_set_ne (by decide)];exact R.p8,R.r5,R.r6,R.n0,R.E3,R.Fi,R.E4,R.Fj,R.E5⟩;have bv:Hid ((post.set 0 (bf m))[1]?=some p1):=Z (by rw[List.getElem?_set_ne (by decide)];exact gt);have A:Hid ((post.set 0 (bf m))[0]?=some (bf m)):=Z (by rw[List.getElem?_set_self (by have:=k3.out;omega)]);obtain⟨eC,ex⟩:∃p,post.set 0 (bf m)=p:=⟨_,rfl⟩;rw[c3];rw[ex]at am D bv A;have c8:=Z ex;clear c3 ex z li c5 gr eS fb gs gt;have jp:=Z (fun w (h:NM w mb pre rows eC)=>lG h D);have hl:=am.qc D.p8;go_region_held3 (fun w'=>w'.cell? (mb,1015)=some (.slice (some (eL,0)) n n)) (go_keep) ((go_at_call 32;refine(jp _ am.drew).mono ?_;rintro e l ⟨rfl,rfl⟩))
 all_goals
  have z:w2.cell? (mb,1007)=some (.pointer (some (m,0))):=am.qc A;have es:=fh m c j (aF.new tt) 0 (17+8*n) (by omega) (by omega) w2.drew kd.drew;rw[show((17+8*n:Nat):Int)=17+8*(n:Int)by omega,show((0:Nat):Int)=0 from rfl]at es;obtain⟨bw,hv⟩:=nm (((aF.new tt).map 0 (17+8*n) 64).2);have bi:=Z hv;have k1:=Z es;clear es hv hl;go_wp2_with (go_at_call 26;refine k1.mono ?_;rintro e l' ⟨⟨y,rfl,v⟩,en,dN⟩;rw[bi]at en;have kf:=Z en;have i6:=Z dN;have eW:=Z (am.drew.ch dN (fun e=>by have u:=b.out;have F:=E.out;rcases e with e|e|e<;>omega));have hl:=eW.qc D.p8;clear en dN v z)
  go_loopg [34] (n+1) (fun gk i wr=>∃k:Nat,k<=n/\gk=n-k+1/\i=.int .i64 k/\Hid (aO wr m c j (mh bw n k))/\Hid (NM wr mb pre rows eC)/\Hid (Ch (dE m c j) w2.drew wr))
  case atStart=>exact⟨0,by omega,by omega,rfl,kf,eW,i6⟩
  case round=>
   obtain⟨k,ll,rfl,rfl,W,P,a1⟩:=hrel;by_cases lm:k<n
   ·have lb:(k:Int)<n:=by omega
    obtain⟨S,Y⟩:=nm (mh bw n k);have a2:=Z Y;rw[Y]at W;have z:wr.cell? (mb,1007)=some (.pointer (some (m,0))):=P.qc A;have c7:=Z (fun w=>o5 k (by omega) (by omega) (.pointer (some (mb,0))) w);have dr:aH (gY k):=cj _;obtain⟨a3,ec⟩:=nm (gY k);rw[ec]at c7 dr;have k0:=Z ec;have kb:=Z dr;have hw:Hid (aH (17+3*(n:Int)+5*(k:Int))):=Z ⟨by omega,by omega⟩;have lt:IntKind.i64.wrap (3*(n:Int))=3*n:=IntWalk.i64_in _ (by omega);clear Y ec dr;go_wp2_with fail
    have gc:=Z (eo m c j S a3 1 kb ⟨by decide,by decide⟩ wr.drew W.drew);obtain⟨hb,cL⟩:∃x,(S.acc 1 a3 0 1).2=x:=⟨_,rfl⟩;rw[cL]at gc;have ii:=Z cL;clear cL;refine wp_region_still_tail 7 (by kernel_rfl) (by kernel_rfl) ?_;simp only[List.take_succ_cons,List.take_zero,List.drop_succ_cons,List.drop_zero]
    repeat still_step
    still_call (bZ (c7 _))
    repeat still_step
    try refine wpStill_nil ?_
    change wpList _ _ _ _ _ wr.drew;go_wp2_with (go_at_call 95;(with_reducible refine gc.out.mono ?_);rintro e ch ⟨⟨y,rfl,v⟩,o,a⟩;have kw:=Z o;have i7:Hid (Ch (dE m c j) w2.drew ch):=Z ((a1.out.drew).trans (a.mono (fun i M=>M.elim Or.inl (fun e=>Or.inr (Or.inl e)))));have fd:=Z (NM.ch (P.out.drew) a (fun e=>by have u:=b.out;have F:=E.out;rcases e with e|e<;>omega));have z:ch.cell? (mb,1007)=some (.pointer (some (m,0))):=fd.out.qc A.out;clear o a v)
    have ge:=Z (eo m c j hb (IntKind.u64.wrap (a3+1)) 1 (cj _) ⟨by decide,by decide⟩ ch.drew kw.drew);obtain⟨he,cQ⟩:∃x,(hb.acc 1 (IntKind.u64.wrap (a3+1)) 0 1).2=x:=⟨_,rfl⟩;rw[cQ]at ge;have io:=Z cQ;clear cQ;refine wp_region_still_tail 8 (by kernel_rfl) (by kernel_rfl) ?_;simp only[List.take_succ_cons,List.take_zero,List.drop_succ_cons,List.drop_zero]
    repeat still_step
    still_call (bZ (c7 _))
    repeat still_step
    try refine wpStill_nil ?_
    change wpList _ _ _ _ _ ch.drew;go_wp2_with (go_at_call 95;(with_reducible refine ge.out.mono ?_);rintro e ci ⟨⟨y,rfl,v⟩,o,a⟩;have kT:=Z o;have i8:Hid (Ch (dE m c j) w2.drew ci):=Z ((i7.out.drew).trans (a.mono (fun i M=>M.elim Or.inl (fun e=>Or.inr (Or.inl e)))));have fn:=Z (NM.ch (fd.out.drew) a (fun e=>by have u:=b.out;have F:=E.out;rcases e with e|e<;>omega));have z:ci.cell? (mb,1007)=some (.pointer (some (m,0))):=fn.out.qc A.out;clear o a v)
    have gf:=Z (eo m c j he (IntKind.u64.wrap (a3+2)) (17+3*(n:Int)+5*(k:Int)) (cj _) hw ci.drew kT.drew);obtain⟨hf,cS⟩:∃x,(he.acc 1 (IntKind.u64.wrap (a3+2)) 0 (17+3*(n:Int)+5*(k:Int))).2=x:=⟨_,rfl⟩;rw[cS]at gf;have ip:=Z cS;clear cS;refine wp_region_still_tail 9 (by kernel_rfl) (by kernel_rfl) ?_;simp only[List.take_succ_cons,List.take_zero,List.drop_succ_cons,List.drop_zero]
    repeat still_step
    still_call (bZ (c7 _))
    repeat still_step
    try refine wpStill_nil ?_
    change wpList _ _ _ _ _ ci.drew;go_wp2_with (go_at_call 95;(with_reducible refine gf.out.mono ?_);rintro e wc ⟨⟨y,rfl,v⟩,o,a⟩;have l0:=Z o;have i9:Hid (Ch (dE m c j) w2.drew wc):=Z ((i8.out.drew).trans (a.mono (fun i M=>M.elim Or.inl (fun e=>Or.inr (Or.inl e)))));have fr:=Z (NM.ch (fn.out.drew) a (fun e=>by have u:=b.out;have F:=E.out;rcases e with e|e<;>omega));have z:wc.cell? (mb,1007)=some (.pointer (some (m,0))):=fr.out.qc A.out;clear o a v)
    have go:=Z (eo m c j hf (17+3*(n:Int)+5*(k:Int)) 4 hw ⟨by decide,by decide⟩ wc l0);obtain⟨hi,cW⟩:∃x,(hf.acc 1 (17+3*(n:Int)+5*(k:Int)) 0 4).2=x:=⟨_,rfl⟩;rw[cW]at go;have it:=Z cW;clear cW;go_wp2_with (go_at_call 95;(with_reducible refine go.out.mono ?_);rintro e i5 ⟨⟨y,rfl,v⟩,o,a⟩;have l1:=Z o;have ih:Hid (Ch (dE m c j) w2.drew i5):=Z ((i9.out).trans (a.mono (fun i M=>M.elim Or.inl (fun e=>Or.inr (Or.inl e)))));have fz:=Z (NM.ch (fr.out) a (fun e=>by have u:=b.out;have F:=E.out;rcases e with e|e<;>omega));have z:i5.cell? (mb,1007)=some (.pointer (some (m,0))):=fz.out.qc A.out;clear o a v)
    go_roundg (n-k)
    case measure=>omega
    case rel=>exact⟨k+1,by omega,by omega,by go_num,Z (by
     have e:mh bw n (k+1)=hi:=by
      show nY (mh bw n k) n k=hi
      rw[a2];unfold nY;dsimp only;rw[k0,ii,io,ip,it]
     rw[e];exact l1),fz,ih⟩
   ·have lb:¬(k:Int)<n:=by omega
    have lc:k=n:=by omega
    subst lc;obtain⟨S,Y⟩:=nm (mh bw k k);have a2:=Z Y;rw[Y]at W;clear Y;have z:wr.cell? (mb,1007)=some (.pointer (some (m,0))):=P.qc A;have ce:=P.pc D.r5;have cf:=P.pc D.r6;have c6:=Z (fun w (h:NM w mb pre rows eC)=>tQ h D);have lw:IntKind.i64.wrap (17+8*(k:Int)+((d:Int)+(f:Int)))=17+8*(k:Int)+((d:Int)+(f:Int)):=IntWalk.i64_in _ (by omega);have ap:=Z (qy m (17+8*k+(d+f)) tt (by have:=k4.out;omega) (by have:=k5.out;omega));rw[show((17+8*k+(d+f):Nat):Int)=17+8*(k:Int)+((d:Int)+f)by omega]at ap;by_cases cb:0<d
    ·have le:(0:Int)<(d:Int):=by omega
     by_cases c2:0<f
     ·have et:(0:Int)<(f:Int):=by omega
      have I:=fh m c j S (17+8*k) d (by omega) (by omega) wr.drew W.drew;rw[show((17+8*k:Nat):Int)=17+8*(k:Int)by omega]at I;obtain⟨c9,c1⟩:∃x,(S.map (17+8*k) d 64).2=x:=⟨_,rfl⟩;have al:=Z c1;have av:=Z I;clear c1 I;go_wp2_with fail
      refine wp_region_still_tail 10 (by kernel_rfl) (by kernel_rfl) ?_;simp only[List.take_succ_cons,List.take_zero,List.drop_succ_cons,List.drop_zero]
      repeat still_step
      try refine wpStill_nil ?_
      change wpList _ _ _ _ _ wr.drew;go_wp2_with (go_at_call 26;(with_reducible refine av.out.mono ?_);rintro e O ⟨⟨y,rfl,v⟩,o,a⟩;rw[al.out]at o;have cm:=Z o;have c4:Hid (Ch (dE m c j) w2.drew O):=Z ((a1.out.drew).trans a);have Q:=Z (NM.ch (P.out.drew) a (fun e=>by have u:=b.out;have F:=E.out;rcases e with e|e|e<;>omega));have z:O.cell? (mb,1007)=some (.pointer (some (m,0))):=Q.out.qc A.out;have ce:=Q.out.pc D.out.r5;have cf:=Q.out.pc D.out.r6;clear o a v)
      have ck:=ka m c j c9 (17+8*k+d) f (by omega) (by omega) O.drew cm.drew;rw[show((17+8*k+d:Nat):Int)=17+8*(k:Int)+(d:Int)by omega]at ck;obtain⟨cq,c0⟩:∃x,(c9.map (17+8*k+d) f 32).2=x:=⟨_,rfl⟩;have ad:=Z c0;have k2:=Z ck;clear c0 ck;go_wp2_with fail
      refine wp_region_still_tail 16 (by kernel_rfl) (by kernel_rfl) ?_;simp only[List.take_succ_cons,List.take_zero,List.drop_succ_cons,List.drop_zero]
      repeat still_step
      try refine wpStill_nil ?_
      change wpList _ _ _ _ _ O.drew;go_wp2_with (go_at_call 26;(with_reducible refine k2.out.mono ?_);rintro e wn ⟨⟨y,rfl,v⟩,o,a⟩;rw[ad.out]at o;have cl:=Z o;have ab:Hid (Ch (dE m c j) w2.drew wn):=Z ((c4.out.drew).trans a);have J:=Z (NM.ch (Q.out.drew) a (fun e=>by have u:=b.out;have F:=E.out;rcases e with e|e|e<;>omega));have z:wn.cell? (mb,1007)=some (.pointer (some (m,0))):=J.out.qc A.out;have ce:=J.out.pc D.out.r5;have cf:=J.out.pc D.out.r6;clear o a v)
      have V:=Z (c6 wn.drew J.drew);go_region_held3 (fun w'=>w'.cell? (mb,1007)=some (.pointer (some (m,0)))) (first|go_keep|exact(World.cell?_setCell_other _ _ _ _ (by simp)).trans X) (first|(go_at_call 97;refine V.out.mono ?_;rintro e l ⟨rfl,nq,N⟩;have B:Hid (Ch ag wn l):=Z (by rw[N];exact(Ch.refl _ _).drew.drewN nq);have cs:l.cell? (mb,1007)=some (.pointer (some (m,0))):=B.out.k z;clear N)|(go_at_call 96;(with_reducible refine(ap.out _).mono ?_);rintro e t ⟨rfl,K,L⟩;have U:=Z K;have C:Hid (Ch ag wn t):=Z (B.out.trans L);have s:=Z (J.out.ch C.out (fun h=>h));have X:t.cell? (mb,1007)=some (.pointer (some (m,0))):=s.out.qc A.out;have cA:=s.out.qc bv.out;have cC:=s.out.fz 1008;clear K L))
      all_goals
       go_wp2_with fail
       go_end0
       have q:∀x,w.heap.size<=x->¬aK mb x:=fun x cd e=>by have u:x=mb:=e;have F:=E.out;omega
       have G:w.heap.size<=l.heap.size:=Nat.le_trans T.size (Nat.le_trans (show w2.heap.size<=wn.heap.size from ab.out.size) B.size);have a:Ch (aK mb) t (t.setCell (mb,1008) (.pointer (some (l.heap.size,0)))):=(Ch.refl _ _).only _ _;refine⟨rfl,m,c,j,l.heap.size,?_,?_,?_,b.1,b.2.1,b.2.2,G,?_⟩
       ·have:=s.jZ 1 (bf l.heap.size)
        rw[<-c8]at this;exact this
       ·have e:fQ tt k d f=cq:=by unfold fQ;dsimp only;rw[bi,a2,if_pos cb,if_pos c2,al,ad]
        rw[e];exact(cl.ch C (fun h=>h) (fun h=>h) (fun h=>h)).ch a (q m b.1) (q c b.2.1) (q j b.2.2)
       ·rw[show 17+8*k+d+f=17+8*k+(d+f)by omega]
        exact U.ch a (q _ G) (fun g a0=>by cases a0)
       ·refine((T.drew.qB ((ab)) ?_).trans (C.af)).trans a
        intro i M e;have u:=b.out;rcases e with e|e|e<;>omega
     ·have et:decide ((0:Int)<(f:Int))=false:=decide_eq_false (by omega)
      have I:=fh m c j S (17+8*k) d (by omega) (by omega) wr.drew W.drew;rw[show((17+8*k:Nat):Int)=17+8*(k:Int)by omega]at I;obtain⟨c9,c1⟩:∃x,(S.map (17+8*k) d 64).2=x:=⟨_,rfl⟩;have al:=Z c1;have av:=Z I;clear c1 I;go_wp2_with fail
      refine wp_region_still_tail 10 (by kernel_rfl) (by kernel_rfl) ?_;simp only[List.take_succ_cons,List.take_zero,List.drop_succ_cons,List.drop_zero]
      repeat still_step
      try refine wpStill_nil ?_
      change wpList _ _ _ _ _ wr.drew;go_wp2_with (go_at_call 26;(with_reducible refine av.out.mono ?_);rintro e O ⟨⟨y,rfl,v⟩,o,a⟩;rw[al.out]at o;have cm:=Z o;have c4:Hid (Ch (dE m c j) w2.drew O):=Z ((a1.out.drew).trans a);have Q:=Z (NM.ch (P.out.drew) a (fun e=>by have u:=b.out;have F:=E.out;rcases e with e|e|e<;>omega));have z:O.cell? (mb,1007)=some (.pointer (some (m,0))):=Q.out.qc A.out;have ce:=Q.out.pc D.out.r5;have cf:=Q.out.pc D.out.r6;clear o a v)
      go_wp2_with fail
      try(any_goals (exfalso;omega))
      have V:=Z (c6 O.drew Q.drew);go_region_held3 (fun w'=>w'.cell? (mb,1007)=some (.pointer (some (m,0)))) (first|go_keep|exact(World.cell?_setCell_other _ _ _ _ (by simp)).trans X) (first|(go_at_call 97;refine V.out.mono ?_;rintro e l ⟨rfl,nq,N⟩;have B:Hid (Ch ag O l):=Z (by rw[N];exact(Ch.refl _ _).drew.drewN nq);have cs:l.cell? (mb,1007)=some (.pointer (some (m,0))):=B.out.k z;clear N)|(go_at_call 96;(with_reducible refine(ap.out _).mono ?_);rintro e t ⟨rfl,K,L⟩;have U:=Z K;have C:Hid (Ch ag O t):=Z (B.out.trans L);have s:=Z (Q.out.ch C.out (fun h=>h));have X:t.cell? (mb,1007)=some (.pointer (some (m,0))):=s.out.qc A.out;have cA:=s.out.qc bv.out;have cC:=s.out.fz 1008;clear K L))
      all_goals
       go_wp2_with fail
       go_end0
       have q:∀x,w.heap.size<=x->¬aK mb x:=fun x cd e=>by have u:x=mb:=e;have F:=E.out;omega
       have G:w.heap.size<=l.heap.size:=Nat.le_trans T.size (Nat.le_trans (show w2.heap.size<=O.heap.size from c4.out.size) B.size);have a:Ch (aK mb) t (t.setCell (mb,1008) (.pointer (some (l.heap.size,0)))):=(Ch.refl _ _).only _ _;refine⟨rfl,m,c,j,l.heap.size,?_,?_,?_,b.1,b.2.1,b.2.2,G,?_⟩
       ·have:=s.jZ 1 (bf l.heap.size)
        rw[<-c8]at this;exact this
       ·have e:fQ tt k d f=c9:=by unfold fQ;dsimp only;rw[bi,a2,if_pos cb,if_neg c2,al]
        rw[e];exact(cm.ch C (fun h=>h) (fun h=>h) (fun h=>h)).ch a (q m b.1) (q c b.2.1) (q j b.2.2)
       ·rw[show 17+8*k+d+f=17+8*k+(d+f)by omega]
        exact U.ch a (q _ G) (fun g a0=>by cases a0)
       ·refine((T.drew.qB ((c4)) ?_).trans (C.af)).trans a
        intro i M e;have u:=b.out;rcases e with e|e|e<;>omega
    ·have le:¬0<(d:Int):=by omega
     by_cases c2:0<f
     ·have et:(0:Int)<(f:Int):=by omega
      have I:=ka m c j S (17+8*k+d) f (by omega) (by omega) wr.drew W.drew;rw[show((17+8*k+d:Nat):Int)=17+8*(k:Int)+(d:Int)by omega]at I;obtain⟨cq,c0⟩:∃x,(S.map (17+8*k+d) f 32).2=x:=⟨_,rfl⟩;have ad:=Z c0;have av:=Z I;clear c0 I;go_wp2_with fail
      refine wp_region_still_tail 16 (by kernel_rfl) (by kernel_rfl) ?_;simp only[List.take_succ_cons,List.take_zero,List.drop_succ_cons,List.drop_zero]
      repeat still_step
      try refine wpStill_nil ?_
      change wpList _ _ _ _ _ wr.drew;go_wp2_with (go_at_call 26;(with_reducible refine av.out.mono ?_);rintro e wn ⟨⟨y,rfl,v⟩,o,a⟩;rw[ad.out]at o;have cl:=Z o;have ab:Hid (Ch (dE m c j) w2.drew wn):=Z ((a1.out.drew).trans a);have J:=Z (NM.ch (P.out.drew) a (fun e=>by have u:=b.out;have F:=E.out;rcases e with e|e|e<;>omega));have z:wn.cell? (mb,1007)=some (.pointer (some (m,0))):=J.out.qc A.out;have ce:=J.out.pc D.out.r5;have cf:=J.out.pc D.out.r6;clear o a v)
      have V:=Z (c6 wn.drew J.drew);go_region_held3 (fun w'=>w'.cell? (mb,1007)=some (.pointer (some (m,0)))) (first|go_keep|exact(World.cell?_setCell_other _ _ _ _ (by simp)).trans X) (first|(go_at_call 97;refine V.out.mono ?_;rintro e l ⟨rfl,nq,N⟩;have B:Hid (Ch ag wn l):=Z (by rw[N];exact(Ch.refl _ _).drew.drewN nq);have cs:l.cell? (mb,1007)=some (.pointer (some (m,0))):=B.out.k z;clear N)|(go_at_call 96;(with_reducible refine(ap.out _).mono ?_);rintro e t ⟨rfl,K,L⟩;have U:=Z K;have C:Hid (Ch ag wn t):=Z (B.out.trans L);have s:=Z (J.out.ch C.out (fun h=>h));have X:t.cell? (mb,1007)=some (.pointer (some (m,0))):=s.out.qc A.out;have cA:=s.out.qc bv.out;have cC:=s.out.fz 1008;clear K L))
      all_goals
       go_wp2_with fail
       go_end0
       have q:∀x,w.heap.size<=x->¬aK mb x:=fun x cd e=>by have u:x=mb:=e;have F:=E.out;omega
       have G:w.heap.size<=l.heap.size:=Nat.le_trans T.size (Nat.le_trans (show w2.heap.size<=wn.heap.size from ab.out.size) B.size);have a:Ch (aK mb) t (t.setCell (mb,1008) (.pointer (some (l.heap.size,0)))):=(Ch.refl _ _).only _ _;refine⟨rfl,m,c,j,l.heap.size,?_,?_,?_,b.1,b.2.1,b.2.2,G,?_⟩
       ·have:=s.jZ 1 (bf l.heap.size)
        rw[<-c8]at this;exact this
       ·have e:fQ tt k d f=cq:=by unfold fQ;dsimp only;rw[bi,a2,if_neg cb,if_pos c2,ad]
        rw[e];exact(cl.ch C (fun h=>h) (fun h=>h) (fun h=>h)).ch a (q m b.1) (q c b.2.1) (q j b.2.2)
       ·rw[show 17+8*k+d+f=17+8*k+(d+f)by omega]
        exact U.ch a (q _ G) (fun g a0=>by cases a0)
       ·refine((T.drew.qB ((ab)) ?_).trans (C.af)).trans a
        intro i M e;have u:=b.out;rcases e with e|e|e<;>omega
     ·have et:decide ((0:Int)<(f:Int))=false:=decide_eq_false (by omega)
      go_wp2_with fail
      try(any_goals (exfalso;omega))
      have V:=Z (c6 wr.drew P.drew);go_region_held3 (fun w'=>w'.cell? (mb,1007)=some (.pointer (some (m,0)))) (first|go_keep|exact(World.cell?_setCell_other _ _ _ _ (by simp)).trans X) (first|(go_at_call 97;refine V.out.mono ?_;rintro e l ⟨rfl,nq,N⟩;have B:Hid (Ch ag wr l):=Z (by rw[N];exact(Ch.refl _ _).drew.drewN nq);have cs:l.cell? (mb,1007)=some (.pointer (some (m,0))):=B.out.k z;clear N)|(go_at_call 96;(with_reducible refine(ap.out _).mono ?_);rintro e t ⟨rfl,K,L⟩;have U:=Z K;have C:Hid (Ch ag wr t):=Z (B.out.trans L);have s:=Z (P.out.ch C.out (fun h=>h));have X:t.cell? (mb,1007)=some (.pointer (some (m,0))):=s.out.qc A.out;have cA:=s.out.qc bv.out;have cC:=s.out.fz 1008;clear K L))
      all_goals
       go_wp2_with fail
       go_end0
       have q:∀x,w.heap.size<=x->¬aK mb x:=fun x cd e=>by have u:x=mb:=e;have F:=E.out;omega
       have G:w.heap.size<=l.heap.size:=Nat.le_trans T.size (Nat.le_trans (show w2.heap.size<=wr.heap.size from a1.out.size) B.size);have a:Ch (aK mb) t (t.setCell (mb,1008) (.pointer (some (l.heap.size,0)))):=(Ch.refl _ _).only _ _;refine⟨rfl,m,c,j,l.heap.size,?_,?_,?_,b.1,b.2.1,b.2.2,G,?_⟩
       ·have:=s.jZ 1 (bf l.heap.size)
        rw[<-c8]at this;exact this
       ·have e:fQ tt k d f=S:=by unfold fQ;dsimp only;rw[bi,a2,if_neg cb,if_neg c2]
        rw[e];exact(W.ch C (fun h=>h) (fun h=>h) (fun h=>h)).ch a (q m b.1) (q c b.2.1) (q j b.2.2)
       ·rw[show 17+8*k+d+f=17+8*k+(d+f)by omega]
        exact U.ch a (q _ G) (fun g a0=>by cases a0)
       ·refine((T.drew.qB ((a1)) ?_).trans (C.af)).trans a
        intro i M e;have u:=b.out;rcases e with e|e|e<;>omega
def ak.new(loop:Int):ak:=⟨0,0,false,0,⟨loop,B4,[]⟩⟩
def j2(C:KC)(n tt:Nat):KS where
 mem:=fQ tt n C.wide.toNat C.narrow.toNat
 blocks:=⟨17+8*n+C.wide.toNat+C.narrow.toNat,tt,[]⟩
 clock:=aN.new
 ring:=[]
 q:=List.replicate 8 []
 table:=List.replicate 64 aD.zero
 cV:=List.replicate 64 bC.zero
 ai:=[]
 wk:=List.replicate n (ak.new C.loop)
 entries:=0
 at_:=0
 w:=0
 draw:=0
 out:=[]
def hC(C:KC)(n tt:Nat):KS:=
 let x:=bF (j2 C n tt) C.entry 0
 {x.2 with ring:=(g6 x.2.ring x.1).2}
def Bt(a:Nat)(i:Nat)(t:TypeId):a4:=
 if t=137 then .gx else if t=163 then .mem else if t=56 then(if i=a then .ring else .mem)else if t=5 then .mem else if t=271 then .al
 else if t=207 then .bW else if t=268 then .bW else if t=209 then .ring else if t=214 then .q else if t=254 then .q
 else if t=217 then .cX else if t=251 then .cX else if t=220 then .obj else if t=262 then .obj else if t=148 then .wk
 else if t=121 then .code else if t=49 then .code else .no
def hD(a:World)(B c d b:Nat)(i:Nat):a4:=
 if i<B then .no else match a.heap[i]? with
 |some (.cells _ t _)=>Bt c i t
 |some (.map _ _)=>if i=d then .tm else if i=b then .q else .bW
 |_=> .no
theorem bz{a:World}{B c f e b:Nat}{t:TypeId}{l:List Value}(h:Row a b t l)(hb:B<=b){k:a4}(d:Bt c b t=k):hD a B c f e b=k:=by
 unfold hD;rw[if_neg (by omega),show a.heap[b]?=some (.cells l.toArray t (0,0))from h];exact d
theorem ir{α:Type}{a:World}{B i e d b:Nat}{q:IntKind}{enc:α->Value}{l:List (Int×α)}(h:bH a b q enc l)(hb:B<=b){k:a4}(g:(if b=e then a4.tm else if b=d then a4.q else a4.bW)=k):hD a B i e d b=k:=by
 obtain⟨j,c,f,_⟩:=h;unfold hD;rw[if_neg (by omega),f];exact g
theorem pn{a:World}{B d e c i:Nat}(h:hD a B d e c i≠ .no):B<=i/\i<a.heap.size:=by
 unfold hD at h;split at h
 ·exact absurd rfl h
 ·refine⟨by omega,?_⟩
  rcases Nat.lt_or_ge i a.heap.size with b|b
  ·exact b
  ·rw[Array.getElem?_eq_none b]at h;exact absurd rfl h
theorem Bu{p:Prop} [Decidable p]{a b:a4}(c:a≠ .out)(d:b≠ .out):(if p then a else b)≠ .out:=by
 split
 ·exact c
 ·exact d
theorem zx(a i:Nat)(t:TypeId):Bt a i t≠ .out:=by
 unfold Bt
 repeat' (refine Bu ?_ ?_)
 all_goals(intro h;cases h)
theorem tR{a:World}{B c d b:Nat}(i:Nat):hD a B c d b i≠ .out:=by
 unfold hD;split
 ·intro h;cases h
 ·split
  ·exact zx _ _ _
  ·split
   ·intro h;cases h
   ·split
    ·intro h;cases h
    ·intro h;cases h
  ·intro h;cases h
theorem tS(n:Nat)(x:ak)(v:Value):(dd (List.replicate n x) (fun _=>v)).flatMap (fun y=>y.1.cells y.2)=(List.replicate n x).flatMap fun y=>y.cells v:=by
 unfold dd;rw[List.flatMap_map];have:∀(l:List ak) (k:Nat),(l.zipIdx k).flatMap (fun a=>a.1.cells v)=l.flatMap fun y=>y.cells v:=by
  intro l
  induction l with
  |nil=>intro k;rfl
  |cons a l ih=>intro k;rw[List.zipIdx_cons,List.flatMap_cons,List.flatMap_cons,ih]
 exact this _ 0
def lH(mb m c n a i j k l s t qb q r tb u o p v w b f d g e h:Nat):cw:=
 ⟨mb,m,c,n,a,i,j,k,l,s,t,qb,q,r,tb,u,o,p,v,w,some ⟨b,0,none⟩,f,some ⟨d,0,none⟩,g,some ⟨e,0,none⟩,h⟩
def newVar:Var:=⟨.slice none 0 0,.slice none 0 0,.slice none 0 0,List.replicate 8 [],fun _=>0,fun _=> .slice none 0 0,fun _ _=>0,fun _ _=> .slice none 0 0,fun _=> .slice none 0 0⟩
theorem vc{a:World}{g:Nat}{l:List aV}{t:TypeId}{c:List Value}(h:Row a g t (b' l++c)):eE a g l:=⟨h.lt,fun j u b=>h.cell (by rw[List.getElem?_append_left (List.getElem?_eq_some_iff.1 b).1];exact b)⟩
theorem tT{a:World}{B mb m c E y A D j l J b qb I d tb K G H e w r N u O v P:Nat}{C:KC}{n tt:Nat}{c0 am c1:List Value}(bv:n<=64)
 (T:NM a mb (ku C (lH mb m c E y A D j l J b qb I d tb K G H e w r N u O v P)) C.rows (g0 (lH mb m c E y A D j l J b qb I d tb K G H e w r N u O v P) (.slice none 0 0) n 0 0 0 0))
 (Q:aO a m c E (j2 C n tt).mem) (a0:aR a y m (.slice none 0 0) (j2 C n tt).blocks) (F:aX a A D j l (.slice none 0 0) aN.new) (a2:eH a J b []) (R:ig a qb I d (List.replicate 8 []))
 (W:aU a tb K (List.replicate 64 aD.zero)) (V:bL a G H (List.replicate 64 bC.zero)) (a3:bH (α:=Nat) a e .u64 bf []) (ab:Row a w 148 ((List.replicate n (ak.new C.loop)).flatMap fun x=>x.cells (.slice none 0 0)))
 (X:Row a r 121 (b' C.dx++c0)) (Y:Row a u 49 (C.calls.flatMap br.cells++am)) (Z:Row a v 121 (b' C.bn++c1)) (k1:C.dx.length<=N) (k2:C.calls.length<=O) (k3:C.bn.length<=P)
 (c2:c≠b) (c3:j≠e) (c4:l≠e) (c5:j≠d) (c6:l≠d) (c7:d≠e)
 (ap:B<=mb) (L:B<=m/\B<=c/\B<=E/\B<=y) (M:B<=A/\B<=D/\B<=j/\B<=l) (z:B<=J/\B<=b/\B<=qb/\B<=I/\B<=d) (p:B<=tb/\B<=K/\B<=G/\B<=H/\B<=e/\B<=w) (S:B<=r/\B<=u/\B<=v):
 ae a (hD a B b e d) (lH mb m c E y A D j l J b qb I d tb K G H e w r N u O v P) newVar C (j2 C n tt) where
 head:=fun _=>⟨by
  have:=T.row;show Row a mb _ (cF _ (.slice none 0 0) C (List.replicate n (ak.new C.loop)).length 0 0 0 0)
  rw[List.length_replicate];exact this,T.n2,bz T.row ap rfl⟩
 mem:=fun _=>⟨Q,bz Q.head L.1 rfl,bz Q.cells L.2.1 (by show(if c=b then a4.ring else a4.mem)=_;rw[if_neg c2]),bz Q.width L.2.2.1 rfl⟩
 al:=fun _=>⟨a0,bz a0.head L.2.2.2 rfl,fun g o=>by cases o⟩
 bW:=fun _=>⟨F,bz F.head M.1 rfl,bz F.heap.head M.2.1 rfl,ir F.heap.map M.2.2.1 (by rw[if_neg c3,if_neg c5]),ir F.ff M.2.2.2 (by rw[if_neg c4,if_neg c6]),fun g o=>by cases o⟩
 ring:=fun _=>by
  obtain⟨cs,fr,a1,_⟩:=id a2;exact⟨a2,bz a1.head z.1 rfl,bz a1.rows z.2.1 (by show(if b=b then a4.ring else a4.mem)=_;rw[if_pos rfl])⟩
 q:=fun _=>⟨R,rfl,fun i U=>by
  rcases U with rfl|rfl|rfl|⟨s,bw,_⟩
  ·exact bz R.head z.2.2.1 rfl
  ·exact bz R.ends z.2.2.2.1 rfl
  ·obtain⟨c8,bi,_⟩:=R.map
   exact ir bi z.2.2.2.2 (by rw[if_neg c7,if_pos rfl])
  ·have:s∈(List.replicate 8 ([]:List Sl)).flatten:=bw
   simp at this⟩
 cX:=fun _=>⟨W,bz W.head p.1 rfl,bz W.rows p.2.1 rfl⟩
 obj:=fun _=>⟨V,bz V.head p.2.2.1 rfl,bz V.rows p.2.2.2.1 rfl⟩
 tm:=fun _=>⟨a3,ir a3 p.2.2.2.2.1 (by rw[if_pos rfl]),List.nodup_nil⟩
 th:=fun id t h=>by cases h
 tl:=fun id t h=>by cases h
 fr:=fun id t k f h=>by cases h
 wk:=fun _=>⟨by
  show Row a w _ ((dd (List.replicate n (ak.new C.loop)) fun _=> .slice none 0 0).flatMap fun x=>x.1.cells x.2)
  rw[tS];exact ab,bz ab p.2.2.2.2.2 rfl,fun i x ad=>by
  have av:x∈List.replicate n (ak.new C.loop):=List.mem_of_getElem? ad;rw[(List.mem_replicate.1 av).2];exact cp.nil _,fun i x ad g o=>(by cases o),by show(List.replicate n (ak.new C.loop)).length<=64;rw[List.length_replicate];exact bv⟩
 out:=fun _=>⟨⟨rfl,Or.inl ⟨rfl,rfl⟩⟩,fun g o=>by cases o⟩
 code:=fun _=>{
  mx:=k1
  iU:=k2
  my:=k3
  ca:=fun _=>⟨r,rfl,vc X,bz X S.1 rfl⟩
  prog:=fun _=>⟨v,rfl,vc Z,bz Z S.2.2 rfl⟩
  calls:=fun _=>⟨u,am,rfl,Y,bz Y S.2.1 rfl⟩}
 small:=fun i U=>(pn U).2
theorem zy(K:KS)(p r:Int):(bF K p r).2.out=K.out:=by
 unfold bF;split
 ·rfl
 ·dsimp only
  split
  ·rfl
  ·rfl
theorem tU(C:KC)(n tt:Nat):(hC C n tt).entries=0/\(hC C n tt).clock.now=0/\(hC C n tt).wk.length=n/\(hC C n tt).out=[]:=by
 have f:=p0 (j2 C n tt) C.entry 0;refine⟨f.yo,f.now,?_,zy _ _ _⟩;have h:(j2 C n tt).wk.length=n:=List.length_replicate;exact f.wl.trans h
def zz(w:World)(e:Ending)(w':World):Prop:=e=.returned (.bool true)/\Ch ag w w'
section
open Go.ChangeAt Go.ChangeShapes Go.WideShapes
theorem own:ownKnob prog.godebug=none:=by kernel_rfl
theorem B7{H:Type}{enc:TypeId×Value->H}{a:Assume}{C:Checked}{os:Os}{f:FuncId}{b:Func}{s:ChangeSpec}{conds:List PathCond}{apart fresh handsOn again:Bool}{X:World->Array Value->Prop}
 (n:∀(w w':World) (args:Array Value),w.heap=w'.heap->X w args->X w' args)
 (own:ownKnob C.prog.godebug=none) (started:os.Started) (E:C.prog.inits.idxOf? f=none) (p:C.prog.funcs[f]?=some b)
 (witness:∃(w:World) (tape:Tape) (i:Input),w.os=os/\(w.forCall tape i).Shaped C.prog/\i.vars=[]/\Input.okWide C.prog (w.forCall tape i) .any w.heap.size f i/\
  ((s.pre enc C.prog b conds apart (w.forCall tape i).memory i.args/\X (w.forCall tape i).memory i.args)/\sizedMet enc C.prog b (OpenSpec.ofChange s) apart (w.forCall tape i).memory i.args)/\a.holds C.prog (lone (Frame.enter C.prog f i.args .normal) [] (w.forCall tape i)))
 (l:∀(c:World) (base:Nat) (args:Array Value) (d g:List (DataW H)) (before:List MemPlace),
  (∀(j:Nat) t v,b.params[j]?=some t->args[j]?=some v->Value.okWide C.prog c .any base t v)->
  DataW.Whole enc C.prog b.params.toList s.vars apart c args.toList d g before->
  (DataW.weightsEach C.prog (b.params.toList++s.plain.varTypes C.prog) (d++g)).all (·<=reachBytes)=true->X c args->c.ShapedOpen C.prog->
  Calls C.prog f args c fun e h=>∃v,e=.returned v/\s.post enc C.prog b apart fresh handsOn again c args v h):
 ReturnsInHanded a C os f .any (fun w args=>(s.pre enc C.prog b conds apart w args/\X w args)/\sizedMet enc C.prog b (OpenSpec.ofChange s) apart w args) (s.post enc C.prog b apart fresh handsOn again):=by
 refine returnsInHanded_of_calls own started E witness ?_;intro w tape i _ y _ r x _;obtain⟨_,_,_,m,q,_,_,_,_,z⟩:=r;have e:m=b:=Option.some.inj (q.symm.trans p);subst e;obtain⟨⟨⟨d,g,before,k,F⟩,B⟩,D⟩:=x;have A:=DataW.Whole.of_heap (w':=w.forCall tape i) (by rfl) k;refine(l (w.forCall tape i) w.heap.size i.args d g before z A (D.weights k) (n _ _ _ (by rfl) B) y).mono fun e h ⟨v,o,u⟩=> ?_
 subst o;exact ChangeSpec.post_blind u
theorem po{H:Type}{enc:TypeId×Value->H}{P:Program}{f:Func}{s:ChangeSpec}{apart fresh handsOn again:Bool}{d e:World}{args:Array Value}{v:Value}{g h:List (DataW H)}{before pa pv:List MemPlace}
 (k:DataW.Whole enc P f.params.toList s.vars apart d args.toList g h before)
 (o:∀(b:Nat) (c:Nat->Bool) (w:Bool),DataW.TrodAll enc P e b c w f.resultTypes.toList (v.resultList f.resultTypes.size) (s.fn H (g++h)).results [])
 (l:∀c:Nat->Bool,(∀p∈before,c p.block=true)->DataW.TrodAll enc P e 0 c true f.params.toList args.toList (s.fn H (g++h)).args pa)
 (q:∀c:Nat->Bool,(∀p∈before,c p.block=true)->DataW.TrodVars enc P e c s.vars (s.fn H (g++h)).vars pv)
 (i:before=pa++pv) (hb:Below d.heap.size d e)
 (y:∀(j:Nat) (t:TypeId) (r:Value),f.resultTypes[j]?=some t->(v.resultList f.resultTypes.size)[j]?=some r->Value.okWide P e .any 0 t r):
 s.post enc P f apart fresh handsOn again d args v e:=by
 have n:∀p∈before,p.block<d.heap.size:=fun p a=>k.lt p a
 have hold:∀p∈before,(fun b=>decide (b<d.heap.size)) p.block=true:=fun p a=>by simpa using n p a
 refine⟨g,h,before,[],pa,pv,k,o _ _ _,l _ hold,q _ hold,World.keptBut_mono (fun p a=>⟨a,?_⟩) (hb.frame (·∈before)),fun _=> ?_⟩
 ·rw[i,List.mem_append]at a
  exact Or.inr a
 ·obtain⟨_,_,_,_,_,z,x⟩:=k
  refine⟨y,_,_,([]++pa)++pv,⟨[]++pa,pv,trodAll_append (l _ (fun _ _=>rfl)) (o _ _ _),q _ (fun _ _=>rfl),rfl,?_,?_⟩,?_⟩
  ·intro b off a
   have m:MemPlace.cell b off∈before:=by rw[i];simpa using a
   rw[hb.frozen (n _ m)];exact z b off m
  ·intro u
   have:=x u;rw[i]at this;simpa using this
  ·intro p a _
   rw[i];simpa using a
noncomputable def lI (os:Os):World:=World.doorLaid prog 60 os
theorem De.et:prog.globalNamed "errors.errorType" =some 0:=by kernel_rfl
theorem De.rt:(prog.cutTypes.find? (·.1== "internal/reflectlite.rtype")).map (·.2)=some 335:=by kernel_rfl
theorem De.Df:((List.range 394).filter fun t=>prog.rowNamed t [101,114,114,111,114])=[40]:=by kernel_rfl
theorem De.size:prog.types.size=394:=by kernel_rfl
def sj:List (String×DataW Unit):=[("errors.errorType",Rows.laid_errors_errorType)]
theorem je{a:World}(h:laidMetH prog sj a):a.cell? (0,0)=some (.iface 335 (.agg #[(1,40)])):=by
 have i:laidMet prog [] a/\handlesMet prog [("errors.errorType",Rows.laid_errors_errorType)] a:=h;obtain⟨name,u,ty,d,e,f,g,b⟩:=i.2 _ (List.mem_singleton.2 rfl);have en:name=[101,114,114,111,114]:=(Option.some.inj d).symm;subst en;obtain rfl:=Option.some.inj (De.rt.symm.trans e);have c:ty∈(List.range 394).filter fun t=>prog.rowNamed t [101,114,114,111,114]:=List.mem_filter.2 ⟨List.mem_range.2 (by rw[<-De.size];exact f),g⟩
 rw[De.Df]at c;obtain rfl:=List.mem_singleton.1 c;have j:typeHandle prog 40=.pointer (some (1,40)):=by kernel_rfl
 rw[j]at b;simpa using World.var?_cell De.et b 0
theorem vd(os:Os)(args:Array Value):laidMetH prog sj ((lI os).forCall (fun _ _=>0) ⟨#[],args,[]⟩).memory:=
 laidMetH_of_parts3 (fuel:=8) (laidMet_of_run' 8 (by kernel_rfl) (by kernel_rfl)) (by kernel_rfl) (by kernel_rfl)
theorem zA:laidOutB prog=true:=by kernel_rfl
theorem gQ{H:Type}{enc:TypeId×Value->H}{a c:World}{T:TypeId}{v:Value}{d:DataW H}{b:List MemPlace}(g:prog.readableRec T=true)(i:T<prog.types.size)
 (h:DataW.Trod enc prog a 0 (fun _=>true) true T v d b) (hb:Below a.heap.size a c) (f:∀x∈b,x.block<a.heap.size) {e:Nat->Bool} (j:∀p∈b,e p.block=true):DataW.Trod enc prog c 0 e true T v d b:=
 WideElems.Trod_stays zA g i h (fun x k=>hb.same (f x k)) j
end
end Go.Proofs.YtfnilkpkogipfaaGreatDoor
