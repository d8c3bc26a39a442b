import Derived.Test.YtlihkblppjgebaaGreatDoorZBu
set_option linter.all false
set_option maxRecDepth 100000
set_option maxHeartbeats 8000000
namespace Go.Proofs.YtlihkblppjgebaaGreatDoor
open Go.RowKit Go.Proofs.Tryz
section
section
variable{n j d mb N M f tt q p:Nat}{s s' S:AS}{w w' W:World}{F:kG}{T D:ByteArray}{L:List (ByteArray×Int)}
theorem jX(l:List Nat)(x:Nat):Lf (l++[x])=x:=by
 unfold Lf;rw[List.length_append,List.getD_eq_getElem?_getD];show((l++[x])[l.length+1-1]?).getD 0=x
 rw[Nat.add_sub_cancel,List.getElem?_append_right (Nat.le_refl _),Nat.sub_self];rfl
theorem hp{x:Int}(h:0<=x/\x<65537):IntKind.u64.wrap x=x:=by
 obtain⟨q,rfl⟩:∃q:Nat,x=q:=⟨x.toNat,by omega⟩;exact ey (by omega)
def ids(l:List Nat):List Int:=l.map fun y:Nat=>(y:Int)
structure oO(w:World)(mb i:Nat)(S:AS)(F:kG)(v:Value)(W:World):Prop where
 lw:LW F w mb 2 (1+i*500) S W
 e:Sj S
 nb:S.nb<=i+1
 rl:S.ring.length<=i+1
 wn:jI w.heap.size v (ids (cont S.sh 0)) F
 qs:(cont S.sh 0).length<=16
theorem ik(l:List Nat):(ids l).length=l.length:=List.length_map _
theorem ln(l:List Nat)(x:Nat):ids (l++[x])=ids l++[(x:Int)]:=by unfold ids;rw[List.map_append];rfl
theorem oT(l:List Nat)(x:Nat):ids (x::l)=(x:Int)::ids l:=rfl
theorem nT(X:I4 T D L)(l:List Int)(v:Value)(w:World)(fz:iA w w.heap.size v 1 Pz l)(m:Int)(O:w.cell? ⟨1,0,none⟩=some (.int .i64 m))
 (cl:w.cell? ⟨0,0,none⟩=some (.iface 390 (.agg #[.pointer (some ⟨4,85,none⟩)]))):
 Calls prog 5 #[v] w (dt (.bool true) w):=by
 obtain⟨gf,cm,gb,gc,ge⟩:=info_parts jt;have en:=Z cm;clear cm;obtain⟨a,c,rfl,fd,H⟩:=fz;obtain⟨R,c0⟩:∃N,l.length=N:=⟨_,rfl⟩;have et:=Z c0;have eC:=Z H;rw[c0]at fd⊢;clear c0 H;have eS:Hid (∀x W,∃j:Nat,j<4/\Calls prog 24 #[.int .i64 x,.int .i64 4] W (fun e w'=>e=.returned (.int .i64 j)/\W=w')):=Z (fun x W=>by
  have h:=ot x 4 (by decide) W;have K:=dJ x 4 (by decide);exact⟨(cN x 4).toNat,by omega,by rw[show(((cN x 4).toNat:Nat):Int)=cN x 4 by omega];exact h⟩)
 have es:Hid (Calls prog 25 #[.int .i64 2,.int .i64 500] w (OX w 2 500)):=Z (Of X (n:=2) (tt:=500) (by omega) (by omega) m w O cl);have dC:Hid (∀v wr,Ch ag w wr->Calls prog 26 #[v] wr (dt (.int .i64 90) wr)):=Z (fun v wr c=>I5 X v m wr ((c.cell (aE O) (fun e=>e)).trans O));have eA:Hid (∀mb k F S v W,k<=60->oO w mb k S F v W->Calls prog 27 #[.pointer (some ⟨mb,0,none⟩),.int .i64 0,.int .u64 0] W (Rf F w mb 2 (1+(k+1)*500) (GC 500 S 0 0))):=Z (fun mb k F S v W U h=>by
  rw[show 1+(k+1)*500=1+k*500+500 by omega];exact Nc (ok:=Q0) (j:=0) (d:=0) X h.lw h.e.i (by omega) (Or.inl ⟨rfl,by omega⟩) (by decide) (by omega) m O)
 have ex:Hid (∀mb k F S v W,k<=60->oO w mb k S F v W->Calls prog 27 #[.pointer (some ⟨mb,0,none⟩),.int .i64 0,.int .u64 1] W (Rf F w mb 2 (1+(k+1)*500) (GC 500 S 0 1))):=Z (fun mb k F S v W U h=>by
  rw[show 1+(k+1)*500=1+k*500+500 by omega];exact Nc (ok:=Q0) (j:=0) (d:=1) X h.lw h.e.i (by omega) (Or.inl ⟨rfl,by omega⟩) (by decide) (by omega) m O)
 have eL:Hid (∀mb k F S v W,k<=60->oO w mb k S F v W->Calls prog 27 #[.pointer (some ⟨mb,0,none⟩),.int .i64 1,.int .u64 2] W (Rf F w mb 2 (1+(k+1)*500) (GC 500 S 1 2))):=Z (fun mb k F S v W U h=>by
  rw[show 1+(k+1)*500=1+k*500+500 by omega];exact Nc (ok:=Q0) (j:=1) (d:=2) X h.lw h.e.i (by omega) (Or.inr ⟨rfl,rfl⟩) (by decide) (by omega) m O)
 have ec:Hid (Sj (F9 2 500)):=Z (lP (by omega) (by omega));clear X O cl;go_enter func5,ntmps5
 go_wp2_with fail
 with_reducible refine es.out.mono ?_
 rintro e w1 ⟨mb,rfl,c8⟩;have c6:=Z c8;clear c8;go_wp2_with fail
 with_reducible refine(dC.out _ _ c6.out.c).mono ?_
 rintro e w2 ⟨rfl,cd⟩;have cW:=Z (c6.out.af cd);clear cd;go_wp2_with fail
 go_loopw [4,5,6,7] (fun wv c4 c5 c3 wr=>∃(k:Nat) (S:AS) (F:kG),k<=R/\k<=60/\c3=.int .i64 k/\c4=.int .u64 (64+(S.nb:Int))/\c5=.int .i64 S.ring.length/\oO w mb k S F wv wr) (fun _ _ _ c3 _=>60-(intOf c3).toNat)
 case atStart=>exact⟨0,F9 2 500,[],by omega,by omega,rfl,rfl,rfl,cW.out,ec.out,by decide,by decide,Or.inl ⟨rfl,by rw[(Kx (show 0<2 by omega)).1];rfl,rfl⟩,by rw[(Kx (show 0<2 by omega)).1];decide⟩
 case round=>
  obtain⟨k,S,F,gC,U,rfl,rfl,rfl,E⟩:=hrel;have G:=Z E;by_cases fE:k<R/\k<60
  ·obtain⟨x,cA⟩:∃x,l[k]?=some x:=⟨_,List.getElem?_eq_getElem (by rw[et.out];exact fE.1)⟩
   obtain⟨g,gk,rfl,-,ch⟩:=eC.out _ _ cA;have gr:wr.cell? ⟨g,gk+k,none⟩=some (.int .i64 x):=by
    have:=G.out.lw.cell (ch 0 _ rfl);simpa using this
   obtain⟨j,hj,ce⟩:=eS.out x wr;have cq:(k:Int)<R:=(by omega);have fr:(k:Int)<60:=(by omega);have dN:=Z ce;have fK:=E.nb;have am:=E.rl;have fb:=E.qs;obtain⟨aw,eW,rfl,ci,-⟩:=E.wn.sl;rw[ik]at ci⊢;obtain⟨nb,c1⟩:∃q,S.nb=q:=⟨_,rfl⟩;obtain⟨p,c2⟩:∃q,S.ring.length=q:=⟨_,rfl⟩;obtain⟨q,al⟩:=nm ((cont S.sh 0).length);have i:Hid (S.nb=nb/\S.ring.length=p/\(cont S.sh 0).length=q):=Z ⟨c1,c2,al⟩;rw[c1]at fK⊢;rw[c2]at am⊢;rw[al]at fb ci⊢;have Q:Hid (jI w.heap.size (.slice aw q eW) (ids (cont S.sh 0)) F):=Z (by have:=E.wn;rw[ik,al]at this;exact this);clear ce cA ch E c1 c2 al;go_upto_block 2 with(with_reducible refine dN.out.mono ?_;rintro e hm ⟨rfl,rfl⟩)
   go_cut [4,5,6] (fun wv c4 c5 wc=>∃(S:AS) (F:kG),c4=.int .u64 (64+(S.nb:Int))/\c5=.int .i64 S.ring.length/\oO w mb (k+1) S F wv wc)
   case first=>
    by_cases gt:j<2
    ·have fo:(j:Int)<2:=by omega
     have c9:S.nb<64:=(by rw[i.out.1];omega);have V:=Z (nS G.out.e c9);have gJ:¬(64+(nb:Int))>=128:=(by omega);have gL:IntKind.u64.wrap (64+(nb:Int)+1)=64+((nb+1:Nat):Int):=(by rw[hp (by omega)];omega);clear c9;go_wp2_with fail
     with_reducible refine(eA.out mb k F S _ _ U G.out).mono ?_
     rintro e cC ⟨A,C⟩;have B:=Z C;obtain⟨y,z,Y⟩:=V.out;rcases Y with⟨t,o,u⟩|⟨t,o,u⟩
     ·have b:=Z (And.intro y (And.intro z (And.intro o u)))
      have a0:((q:Int)==16)=false:=(by rw[i.out.2.2]at t;simp;omega);have g2:q<16:=(by rw[i.out.2.2]at t;exact t);rw[o,i.out.2.1]at A;subst A;clear C y z t o u;go_wp2_with (at_builtin;go_loud (refine jG (F:=F) (by rfl) _ _ 29 (by rfl) gf _ underlying29 en.out gb gc ge rfl (by rfl) Q.out (B.out.af ((Ch.refl _ _).alloc _)) (Nat.le_refl _) (Nat.le_trans B.out.c.size (by simp)) (by rw[ik,i.out.2.2];omega) _ _ _ (by rfl) ((Row.new _ _ _).cell rfl) ?_))
      intro gR cL gp I cs ab;have c7:=Z (And.intro I cs);clear I cs ab;go_wp2_with fail
      go_meet
      refine⟨GC 500 S 0 0,cL,by rw[b.out.2.1,i.out.1];rfl,by rw[b.out.2.2.1,i.out.2.1],⟨c7.out.2,b.out.1,by rw[b.out.2.1,i.out.1];omega,by rw[b.out.2.2.1,i.out.2.1];omega,?_,?_⟩⟩
      ·rw[b.out.2.2.2,ln,i.out.1]
       have:=c7.out.1
       rwa [show(64:Int)+(nb:Int)=((64+nb:Nat):Int)by omega]at this
      ·rw[b.out.2.2.2,List.length_append,i.out.2.2]
       exact g2
     ·have b:=Z (And.intro y (And.intro z (And.intro o u)))
      have a0:((q:Int)==16)=true:=(by rw[i.out.2.2]at t;simp;omega);rw[o,jX,List.length_append,i.out.2.1,i.out.1]at A;subst A;clear C y z t o u;go_wp2_with fail
      go_meet
      refine⟨GC 500 S 0 0,F,by rw[b.out.2.1,i.out.1];rfl,by rw[b.out.2.2.1,List.length_append,i.out.2.1];rfl,⟨B.out,b.out.1,by rw[b.out.2.1,i.out.1];omega,by rw[b.out.2.2.1,List.length_append,i.out.2.1];exact Nat.succ_le_succ am,?_,?_⟩⟩
      ·rw[b.out.2.2.2]
       exact Q.out
      ·rw[b.out.2.2.2]
       exact G.out.qs
    ·have fo:¬(j:Int)<2:=by omega
     by_cases fn:j=3
     ·subst fn
      have V:=Z (lQ G.out.e);go_wp2_with fail
      with_reducible refine(eL.out mb k F S _ _ U G.out).mono ?_
      rintro e cC ⟨A,C⟩;have B:=Z C;obtain⟨y,z,Y⟩:=V.out;rcases Y with⟨t,o,u⟩|⟨l',x',t,o,u⟩
      ·have b:=Z (And.intro y (And.intro z (And.intro o (u.trans t.symm))))
       have a0:((q:Int)==0)=true:=(by have:=i.out.2.2;rw[t]at this;rw[<-this];rfl);rw[o,i.out.2.1]at A;subst A;clear C y z t o u;go_wp2_with fail
       go_meet
       refine⟨GC 500 S 1 2,F,by rw[b.out.2.1,i.out.1],by rw[b.out.2.2.1,i.out.2.1],⟨B.out,b.out.1,by rw[b.out.2.1,i.out.1];omega,by rw[b.out.2.2.1,i.out.2.1];omega,?_,?_⟩⟩
       ·rw[b.out.2.2.2]
        exact Q.out
       ·rw[b.out.2.2.2]
        exact G.out.qs
      ·have b:=Z (And.intro y (And.intro z (And.intro o u)))
       have I:=Q.out;rw[t,oT]at I;obtain⟨eY,go,hn,rfl,a1,a3,y0,ad,J,ap⟩:=I.head B.out;rw[ik]at a1 a3 ad J ap;obtain⟨r,H⟩:=nm (l'.length);rw[H]at a1 a3 ad J ap;have bi:=Z J;have eU:=Z ap;have av:=Z H;have fT:(q:Int)-1=r:=(by omega);have g4:r<q:=(by omega);have a0:((q:Int)==0)=false:=(by simp;omega);rw[o,jX,List.length_append,i.out.2.1]at A;subst A;clear C y z t o u I J ap H;go_upto_region 20 with fail
       go_quiet (fail)
       go_wp2_with fail
       all_goals
        go_meet
        refine⟨GC 500 S 1 2,F,by rw[b.out.2.1,i.out.1],by rw[b.out.2.2.1,List.length_append,i.out.2.1];rfl,⟨B.out.af (by repeat(first|exact Ch.refl _ _|with_reducible refine Ch.drewN ?_ _|with_reducible refine Ch.drew ?_)),b.out.1,by rw[b.out.2.1,i.out.1];omega,by rw[b.out.2.2.1,List.length_append,i.out.2.1];exact Nat.succ_le_succ am,?_,?_⟩⟩
        ·rw[b.out.2.2.2]
         first
          |exact bi.out
          |exact eU.out (by omega)
        ·rw[b.out.2.2.2,av.out]
         omega
     ·have gA:((j:Int)==3)=false:=by simp;omega
      have V:=Z (oN G.out.e);go_wp2_with fail
      with_reducible refine(ex.out mb k F S _ _ U G.out).mono ?_
      rintro e cC ⟨A,C⟩;have B:=Z C;obtain⟨y,z,Y⟩:=V.out;rcases Y with⟨t,o,u⟩|⟨l',x',t,o,u⟩
      ·have b:=Z (And.intro y (And.intro z (And.intro o (u.trans t.symm))))
       have a0:((q:Int)==0)=true:=(by have:=i.out.2.2;rw[t]at this;rw[<-this];rfl);rw[o,i.out.2.1]at A;subst A;clear C y z t o u;go_wp2_with fail
       go_meet
       refine⟨GC 500 S 0 1,F,by rw[b.out.2.1,i.out.1],by rw[b.out.2.2.1,i.out.2.1],⟨B.out,b.out.1,by rw[b.out.2.1,i.out.1];omega,by rw[b.out.2.2.1,i.out.2.1];omega,?_,?_⟩⟩
       ·rw[b.out.2.2.2]
        exact Q.out
       ·rw[b.out.2.2.2]
        exact G.out.qs
      ·have b:=Z (And.intro y (And.intro z (And.intro o u)))
       have I:=Q.out;rw[t,ln]at I;obtain⟨eY,go,rfl,a1,a3,ad,J⟩:=I.tail B.out;rw[ik]at a1 a3 ad J;obtain⟨r,H⟩:=nm (l'.length);rw[H]at a1 a3 ad J;have bi:=Z J;have av:=Z H;have fT:(q:Int)-1=r:=(by omega);have g4:r<q:=(by omega);have a0:((q:Int)==0)=false:=(by simp;omega);rw[o,jX,List.length_append,i.out.2.1]at A;subst A;clear C y z t o u I J H;go_wp2_with fail
       go_meet
       refine⟨GC 500 S 0 1,F,by rw[b.out.2.1,i.out.1],by rw[b.out.2.2.1,List.length_append,i.out.2.1];rfl,⟨B.out,b.out.1,by rw[b.out.2.1,i.out.1];omega,by rw[b.out.2.2.1,List.length_append,i.out.2.1];exact Nat.succ_le_succ am,?_,?_⟩⟩
       ·rw[b.out.2.2.2]
        exact bi.out
       ·rw[b.out.2.2.2,av.out]
        omega
   case rest=>
    obtain⟨bv,F2,rfl,rfl,K⟩:=hcut;have P:=Z K;obtain⟨a2,o,rfl,-,-⟩:=K.wn.sl;have e1:Hid (Calls prog 21 #[.pointer (some ⟨mb,0,none⟩),.int .i64 0] wc (ij F2 w mb 2 (1+(k+1)*500) 0 bv wc)):=Z (hk (n:=2) (j:=0) K.lw K.e.i (by omega) (K.e.q 0 (by omega)));clear K;go_wp2_with fail
    with_reducible refine e1.out.mono ?_
    rintro e hi ⟨t1,t2,he,rfl,ct,bw⟩;have eO:=Z (l7 (ids (cont bv.sh 0)) (by rw[ik];exact ct) P.out.wn bw);have dr:=Z bw;clear ct bw;go_wp2_with fail
    with_reducible refine eO.out.mono ?_
    rintro e hf ⟨rfl,cb⟩;have cS:=Z (dr.out.af cb);clear cb;go_wp2_with fail
    go_roundw
    case rel=>exact⟨k+1,bv,F2,by omega,by omega,by go_num,rfl,rfl,⟨cS.out,P.out.e,P.out.nb,P.out.rl,P.out.wn,P.out.qs⟩⟩
    case measure=>simp[intOf];omega
  ·by_cases gs:k<R
   ·have cq:(k:Int)<R:=by omega
    have fr:¬(k:Int)<60:=(by omega);have ab:=E.lw.c;clear E;go_wp2_with fail
    go_ret;exact dt.mk rfl ab
   ·have cq:¬(k:Int)<R:=by omega
    have ab:=E.lw.c;clear E;go_wp2_with fail
    go_ret;exact dt.mk rfl ab
end
end
end Go.Proofs.YtlihkblppjgebaaGreatDoor
