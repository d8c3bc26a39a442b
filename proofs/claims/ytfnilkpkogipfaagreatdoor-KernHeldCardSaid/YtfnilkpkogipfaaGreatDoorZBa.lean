import Derived.Test.YtfnilkpkogipfaaGreatDoorZAy
set_option linter.all false
set_option maxRecDepth 100000
set_option maxHeartbeats 8000000
namespace Go.Proofs.YtfnilkpkogipfaaGreatDoor
open Go.RowKit Go.Proofs.Tryz
section
section
variable{w w':World}{χ:Nat->a4}{L:cw}{Y:Var}{C:KC}{K:KS}
theorem ae.uZ(h:ae w χ L Y C K){q:Nat}{r:br}(c:C.calls[q]?=some r):∃g,L.ll=some ⟨g,0,none⟩/\w.cell? ⟨g,q*6,none⟩=some (.int .i64 r.num)/\w.cell? ⟨g,q*6+1,none⟩=some (.int .i64 r.at_)/\w.cell? ⟨g,q*6+2,none⟩=some (.int .i64 r.k0)/\w.cell? ⟨g,q*6+3,none⟩=some (.int .i64 r.k1)/\w.cell? ⟨g,q*6+4,none⟩=some (.int .i64 r.k2)/\w.cell? ⟨g,q*6+5,none⟩=some (.int .i64 r.k3):=by
 obtain⟨g,m,d,f,_⟩:=(h.code (by simp)).calls (by intro e;rw[e]at c;cases c);have l:=(List.getElem?_eq_some_iff.1 c).1;have a:∀j v,j<6->r.cells[j]?=some v->w.cell? ⟨g,q*6+j,none⟩=some v:=fun j v i k=>f.cell (by
  rw[List.getElem?_append_left (by rw[a7 (enc:=br.cells) br.len];omega)];exact(bP br.len c i).trans k)
 exact⟨g,d,a 0 _ (by omega) rfl,a 1 _ (by omega) rfl,a 2 _ (by omega) rfl,a 3 _ (by omega) rfl,a 4 _ (by omega) rfl,a 5 _ (by omega) rfl⟩
theorem gj(k a:Int)(l:List (Int×Int)):cr C K ((k,a)::l)=if k=0 then cr C K l else if k=7 then(if IntKind.u64.wrap C.cells<=a then 22 else cr C K l)else if(ga K.cV a k).isNone then 22 else cr C K l:=rfl
section
variable{k0 k1 k2 k3 a0 a1 a2 a3 kd:Int}{b:Nat}{t:TypeId}
theorem zf(a b c e:Int)(d:World):(Instr.index 47 (.agg #[a,.int .i64 b,c,e]) (.int .i64 0)).run prog d=.ok (.int .i64 a) d:=by kernel_rfl
theorem D6(hb:Row w b t [.int .u64 a0,.int .u64 a1,.int .u64 a2,.int .u64 a3])(d:cr C K ([(k0,a0),(k1,a1),(k2,a2),(k3,a3)].drop 0)=kd):∃c a l,(Instr.index 47 (.agg #[k0,k1,k2,k3]) (.int .i64 0)).run prog w=.ok (.int .i64 c) w/\w.cell? (b,0)=some (.int .u64 a)/\cr C K ((c,a)::l)=kd/\l=[(k0,a0),(k1,a1),(k2,a2),(k3,a3)].drop (0+1):=⟨k0,a0,_,zf _ _ _ _ _,hb.cell (i:=0) rfl,d,rfl⟩
theorem zg(a b c e:Int)(d:World):(Instr.index 47 (.agg #[a,.int .i64 b,c,e]) (.int .i64 1)).run prog d=.ok (.int .i64 b) d:=by kernel_rfl
theorem D7(hb:Row w b t [.int .u64 a0,.int .u64 a1,.int .u64 a2,.int .u64 a3])(d:cr C K ([(k0,a0),(k1,a1),(k2,a2),(k3,a3)].drop 1)=kd):∃c a l,(Instr.index 47 (.agg #[k0,k1,k2,k3]) (.int .i64 1)).run prog w=.ok (.int .i64 c) w/\w.cell? (b,1)=some (.int .u64 a)/\cr C K ((c,a)::l)=kd/\l=[(k0,a0),(k1,a1),(k2,a2),(k3,a3)].drop (1+1):=⟨k1,a1,_,zg _ _ _ _ _,hb.cell (i:=1) rfl,d,rfl⟩
theorem zh(a b c e:Int)(d:World):(Instr.index 47 (.agg #[a,.int .i64 b,c,e]) (.int .i64 2)).run prog d=.ok (.int .i64 c) d:=by kernel_rfl
theorem D8(hb:Row w b t [.int .u64 a0,.int .u64 a1,.int .u64 a2,.int .u64 a3])(d:cr C K ([(k0,a0),(k1,a1),(k2,a2),(k3,a3)].drop 2)=kd):∃c a l,(Instr.index 47 (.agg #[k0,k1,k2,k3]) (.int .i64 2)).run prog w=.ok (.int .i64 c) w/\w.cell? (b,2)=some (.int .u64 a)/\cr C K ((c,a)::l)=kd/\l=[(k0,a0),(k1,a1),(k2,a2),(k3,a3)].drop (2+1):=⟨k2,a2,_,zh _ _ _ _ _,hb.cell (i:=2) rfl,d,rfl⟩
theorem zi(a b c e:Int)(d:World):(Instr.index 47 (.agg #[a,.int .i64 b,c,e]) (.int .i64 3)).run prog d=.ok (.int .i64 e) d:=by kernel_rfl
theorem D9(hb:Row w b t [.int .u64 a0,.int .u64 a1,.int .u64 a2,.int .u64 a3])(d:cr C K ([(k0,a0),(k1,a1),(k2,a2),(k3,a3)].drop 3)=kd):∃c a l,(Instr.index 47 (.agg #[k0,k1,k2,k3]) (.int .i64 3)).run prog w=.ok (.int .i64 c) w/\w.cell? (b,3)=some (.int .u64 a)/\cr C K ((c,a)::l)=kd/\l=[(k0,a0),(k1,a1),(k2,a2),(k3,a3)].drop (3+1):=⟨k3,a3,_,zi _ _ _ _ _,hb.cell (i:=3) rfl,d,rfl⟩
end
theorem qq(id:Int)(t:Thread)(B:aw K.ai id=some t)(S:0<t.l.length)(gc:t.l.length<=8)(num:Int)(fz:0<=num)(a0 a1 a2 a3:Int)(cL:0<=C.wide/\C.wide<=256/\0<=C.narrow/\C.narrow<=256)(T:∀r∈C.rows,0<=r/\r<=C.calls.length)(fn:C.calls.length<=2048)(h:ae w χ L Y C K):
 Calls prog 171 #[(L.mb,0),(Y.bB id,0),num,.agg #[.int .u64 a0,.int .u64 a1,.int .u64 a2,.int .u64 a3]] w (dt (.int .u64 (cI C K id num a0 a1 a2 a3)) w):=by
 have hlen:=(h.head (by simp)).rows;have ck:Hid (K.T id=t):=Z (KS.df B);obtain⟨gf,hf,R,am,_⟩:=h.jX B S;have A:=h.CI B;rw[R]at A;obtain⟨J,H⟩:=nm t.l.length;have ci:=Z H;rw[H]at A gc;obtain⟨tb,U⟩:=nm (Y.bB id);rw[U]at A⊢;obtain⟨W,F⟩:=nm (w.alloc (.cells #[.int .u64 a0,.int .u64 a1,.int .u64 a2,.int .u64 a3] 60));have x:=Z (Ch.al (D:=ag) F);have M:Hid (ae W χ L Y C K):=Z (h.af x);have cd:=Z (Row.al F);have dC:=x.k A;by_cases cq:1000<=num
 ·have E:Hid (cI C K id num a0 a1 a2 a3=38):=Z (by unfold cI;rw[if_pos (Or.inl cq)])
  clear h B S U R am A dC H T;go_enter func171,ntmps171
  go_wp2_with fail
  try rw[F]
  go_ret;rw[E];exact⟨rfl,x⟩
 ·obtain⟨m,rfl⟩:=Int.eq_ofNat_of_zero_le fz
  have ap:m<C.rows.length:=by omega
  obtain⟨r,I⟩:∃r,C.rows[m]?=some r:=⟨_,List.getElem?_eq_getElem ap⟩;have c6:=T r (List.mem_of_getElem? I);have c0:Hid (C.rows.getD (m:Int).toNat 0=r):=Z (by rw[Int.toNat_natCast,List.getD_eq_getElem?_getD,I];rfl);have cm:=M.CA I;have hw:(m:Int)<1000:=by omega
  by_cases c8:r=0
  ·subst c8
   have E:Hid (cI C K id m a0 a1 a2 a3=38):=Z (by unfold cI;rw[if_pos (Or.inr c0.out)]);clear h B S U R am A dC H T I c6 ap hlen;go_enter func171,ntmps171
   go_wp2_with fail
   try rw[F]
   go_ret;rw[E];exact⟨rfl,x⟩
  ·have hF:(r==0)=false:=by rw[beq_eq_false_iff_ne];exact c8
   have av:¬(1000<=(m:Int)∨C.rows.getD (m:Int).toNat 0=0):=fun e=>e.elim cq (fun e=>c8 (c0.symm.trans e))
   by_cases al:7<=J/\(m:Int)≠2
   ·have E:Hid (cI C K id m a0 a1 a2 a3=11):=Z (by unfold cI;rw[if_neg av,ck,ci,if_pos al])
    obtain⟨cs,fb⟩:=al;clear h B S U R am A H T I c6 ap hlen av;have cA:(7:Int)<=(J:Int):=by omega
    have hm:((m:Int)==2)=false:=by rw[beq_eq_false_iff_ne];exact fb
    go_enter func171,ntmps171
    go_wp2_with fail
    try rw[F]
    go_ret;rw[E];exact⟨rfl,x⟩
   ·have fd:J<7∨7<=J/\m=2:=by omega
    obtain⟨q,rfl⟩:∃q:Nat,r=(q:Int)+1:=⟨(r-1).toNat,by omega⟩;obtain⟨c,a⟩:∃c,C.calls[q]?=some c:=⟨_,List.getElem?_eq_getElem (by omega)⟩;have eA:Hid (C.calls.getD (C.rows.getD (m:Int).toNat 0-1).toNat default=c):=Z (by rw[c0,show((q:Int)+1-1).toNat=q by omega,List.getD_eq_getElem?_getD,a];rfl);have E:Hid (cI C K id (m:Int) a0 a1 a2 a3=cr C K [(c.k0,a0),(c.k1,a1),(c.k2,a2),(c.k3,a3)]):=Z (by unfold cI;rw[if_neg av,ck,ci,if_neg al];dsimp only;rw[eA]);obtain⟨hl,c4,dN,ec,en,es,et,ex⟩:=M.uZ a;have gt:=Z (And.intro c4 (And.intro en (And.intro es (And.intro et ex))));obtain⟨hi,he,k0,k1,k2,k3⟩:=c;dsimp only at dN ec en es et ex E;have cl:=M.c2;rw[c4]at cl;obtain⟨eL,cC⟩:=nm C.calls.length;have hB:(q:Int)<(eL:Int):=by have:=(List.getElem?_eq_some_iff.1 a).1;omega
    rw[cC]at cl fn;have i0:IntKind.i64.wrap ((q:Int)+1-1)=q:=by rw[show(q:Int)+1-1=q by omega];exact IntWalk.i64_in _ (by omega)
    have i1:(q:Int)+1-1=q:=by omega
    clear h B S U R am A H T I c6 ap hlen av a c4 dN ec cC al;have cf:=Z (fun w (h:ae w χ L Y C K)=>nv h cL);have cQ:0<=C.cells/\C.cells<=512:=by unfold KC.cells;omega
    obtain⟨c2,c3⟩:=nm C.cells;rw[c3]at cf cQ;obtain⟨hn,hu⟩:=cQ;have ad:Hid (IntKind.u64.wrap c2=c2):=Z (by unfold IntKind.wrap IntKind.bits IntKind.signed;simp;omega);have ce:=Z c3;clear c3 cL;obtain⟨kd,P⟩:=nm (cr C K [(k0,a0),(k1,a1),(k2,a2),(k3,a3)]);rw[P]at E;have eC:=Z P;clear P;rcases fd with cs|⟨cs,rfl⟩
    all_goals
     try have cm:W.cell? (L.mb,9)=_:=cm
     try have cA:(J:Int)<7:=by omega
     try have cA:(7:Int)<=(J:Int):=by omega
     go_enter func171,ntmps171
     go_wp2_with fail
     try rw[F]
     clear F;go_quiet (fail)
     obtain⟨w1,c7⟩:=nm (W.drewN nq);have bi:Hid (Ch ag W w1):=Z (by rw[<-c7];exact(Ch.refl _ _).drewN nq);rw[c7];clear c7;have hb:=Z (M.af bi);have gs:=Z (cd.ch bi (fun h=>h));go_wp2_with fail
     go_loopg [49] 5 (fun gk u wr=>∃k:Nat,k<=4/\gk=4-k+1/\u=.int .i64 k/\Hid (Ch ag W wr/\cr C K ([(k0,a0),(k1,a1),(k2,a2),(k3,a3)].drop k)=kd))
     case atStart=>exact⟨0,by omega,by omega,rfl,bi,eC⟩
     case round=>
      obtain⟨k,hv,rfl,rfl,g⟩:=hrel;have G:=Z (M.af g.1);have ab:=Z (cd.ch g.1 (fun h=>h));have ch:=Z (fun n=>cf _ (G.drewN n));have co:=G.iF;obtain⟨cb,dr⟩:=mn (k+1);obtain⟨c9,cW⟩:=mn (4-k);have d:=Z (And.intro dr cW);clear dr cW;obtain rfl|rfl|rfl|rfl|rfl:k=0∨k=1∨k=2∨k=3∨k=4:=by omega
      rotate_right
      ·have P:kd=0:=g.2.symm
       go_wp2_with fail
       go_ret;rw[E,P];exact⟨rfl,x.trans g.1⟩
      all_goals
       first
        |obtain⟨f,p,l,c5,s,i,Q⟩:=D6 (k0:=k0) (k1:=k1) (k2:=k2) (k3:=k3) ab g.2
        |obtain⟨f,p,l,c5,s,i,Q⟩:=D7 (k0:=k0) (k1:=k1) (k2:=k2) (k3:=k3) ab g.2
        |obtain⟨f,p,l,c5,s,i,Q⟩:=D8 (k0:=k0) (k1:=k1) (k2:=k2) (k3:=k3) ab g.2
        |obtain⟨f,p,l,c5,s,i,Q⟩:=D9 (k0:=k0) (k1:=k1) (k2:=k2) (k3:=k3) ab g.2
       have bw:=Z Q;clear Q;by_cases y:f=0
       ·have a:cr C K l=kd:=by rw[<-i];exact(show cr C K ((f,p)::_)=_ by rw[gj,if_pos y]).symm
        have o:=Z a;clear i a;have go:(f==0)=true:=by rw[beq_iff_eq];exact y
        clear y;go_wp2_with fail
        go_roundg (c9)
        case measure=>have:=d.out;omega
        case rel=>exact⟨cb,by have:=d.out;omega,by have:=d.out;omega,by rw[d.1];rfl,g.1,by rw[d.1];exact bw▸o⟩
       ·have go:(f==0)=false:=by rw[beq_eq_false_iff_ne];exact y
        by_cases z:f=7
        ·have gr:(f==7)=true:=by rw[beq_iff_eq];exact z
         by_cases cS:c2<=p
         ·have a:kd=22:=by rw[<-i,gj,if_neg y,if_pos z,if_pos (by rw[ce.out,ad];exact cS)]
          have o:=Z a;have fr:=ad.out;clear i a z;go_wp2_with fail
          go_quiet ((go_at_call 97;exact Calls.quiet_of (ch _)))
          generalize V:wr.drewN _=X;have j:=Z (Ch.dN (D:=ag) V);clear V;go_wp2_with fail
          go_ret;rw[E,o];exact⟨rfl,(x.trans g.1).trans j⟩
         ·have a:cr C K l=kd:=by rw[<-i];exact(show cr C K ((f,p)::_)=_ by rw[gj,if_neg y,if_pos z,if_neg (by rw[ce.out,ad];exact cS)]).symm
          have o:=Z a;have fr:=ad.out;clear i a z;go_wp2_with fail
          go_quiet ((go_at_call 97;exact Calls.quiet_of (ch _)))
          generalize V:wr.drewN _=X;have j:=Z (Ch.dN (D:=ag) V);clear V;go_wp2_with fail
          go_roundg (c9)
          case measure=>have:=d.out;omega
          case rel=>exact⟨cb,by have:=d.out;omega,by have:=d.out;omega,by rw[d.1];rfl,g.1.trans j,by rw[d.1];exact bw▸o⟩
        ·have gr:(f==7)=false:=by rw[beq_eq_false_iff_ne];exact z
         have bv:=Z (fun w h=>yJ (K:=K) (w:=w) (χ:=χ) (L:=L) (Y:=Y) (C:=C) p f h);obtain⟨eW,O⟩:=nm (ga K.cV p f);rw[O]at bv;cases eW with
         |none=>
          have a:kd=22:=by rw[<-i,gj,if_neg y,if_neg z,O];rfl
          have o:=Z a;clear i a O;go_wp2_with fail
          go_region_held3 (And.intro co s) (go_keep) ((go_at_call 172;refine(bv _ G.drew).mono ?_;rintro e X ⟨⟨v,rfl,ge⟩,N⟩;obtain⟨tt,i2,rfl⟩:=ge;have j:Hid (Ch ag wr X):=Z (Ch.trans (Ch.refl _ _).drew N);have c1:=Z (G.af j);have eS:=j.k s;clear N co s;have co:=c1.iF))
          all_goals
           go_wp2_with fail
           go_ret;rw[E,o];exact⟨rfl,(x.trans g.1).trans j⟩
         |some v=>
          have a:cr C K l=kd:=by rw[<-i];exact(show cr C K ((f,p)::_)=_ by rw[gj,if_neg y,if_neg z,O];rfl).symm
          have o:=Z a;clear i a O;go_wp2_with fail
          go_region_held3 (And.intro co s) (go_keep) ((go_at_call 172;refine(bv _ G.drew).mono ?_;rintro e X ⟨rfl,N⟩;have j:Hid (Ch ag wr X):=Z (Ch.trans (Ch.refl _ _).drew N);have c1:=Z (G.af j);have eS:=j.k s;clear N co s;have co:=c1.iF))
          all_goals
           go_wp2_with fail
           go_roundg (c9)
           case measure=>have:=d.out;omega
           case rel=>exact⟨cb,by have:=d.out;omega,by have:=d.out;omega,by rw[d.1];rfl,g.1.trans j,by rw[d.1];exact bw▸o⟩
end
end
end Go.Proofs.YtfnilkpkogipfaaGreatDoor
