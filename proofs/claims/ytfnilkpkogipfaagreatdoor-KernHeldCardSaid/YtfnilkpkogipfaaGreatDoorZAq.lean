import Derived.Test.YtfnilkpkogipfaaGreatDoorZAp
set_option linter.all false
set_option maxRecDepth 100000
set_option maxHeartbeats 8000000
namespace Go.Proofs.YtfnilkpkogipfaaGreatDoor
open Go.RowKit Go.Proofs.Tryz
def EU(ok:Bool)(qb lb mb:Nat)(a:List (List Sl))(b:List (List hx))(w:World)(e:Ending)(w':World):Prop:=∃v,(if ok then v=.nilIface else aq v)/\yt v qb lb mb a b w e w'
theorem yT(qb lb mb:Nat)(c:List (List Sl))(id o mask:Int)(w:World)(h:ig w qb lb mb c):
 Calls prog 186 #[(qb,0),.int .u64 id,.int .u64 o,.int .u64 mask] w (EU (kn (b2 c) id o mask).1 qb lb mb c (kn (b2 c) id o mask).2 w):=by
 have H:=Z h;obtain⟨m,N,c0,O⟩:=h.map;have cf:=h.head.k 1 rfl;have C:=fl (P:=prog) (w:=w) (T:=212) (K:=56) (E:=252) (z:=.pointer none) underlying212 underlying56 (by kernel_rfl) N id;rw[O]at C;obtain⟨r,v⟩:=nm (c.flatten.find? (fun s=>s.id==id));rw[v]at C;have J:=Z (iT c id);rw[v]at J;have p:=Z (And.intro N (And.intro c0 O));have cd:=Z v;clear h N c0 O v;cases G:id==0
 ·have cs:(id !=0)=true:=by simpa using G
  cases r with
  |some s=>
   have E:Hid (kn (b2 c) id o mask=(false,b2 c)):=Z (by unfold kn;rw[G,J];rfl);simp only[Option.map_some,Option.getD_some,bf]at C;go_enter func186,ntmps186
   go_wp2_with (go_at_call 92;refine(o0 _ _ _).mono ?_;rintro e w' ⟨rfl,rfl⟩)
   go_ret;rw[E];exact⟨_,aq.mk _ _,rfl,c,H.af ((Ch.refl _ _).alloc _),rfl,(Ch.refl _ _).alloc _,fun s d=>Or.inl ⟨s,d,rfl⟩,fun x a=>(H.af ((Ch.refl _ _).alloc _)).Ai a⟩
  |none=>
   simp only[Option.map_none,Option.getD_none]at C;obtain⟨k,hb,bw,am⟩:=jV o;obtain⟨l,n⟩:∃l,c[k]?=some l:=⟨_,List.getElem?_eq_getElem (by rw[H.len];exact bw)⟩;obtain⟨s,d⟩:∃s:Sl,s=⟨id,o,mask,w.heap.size⟩:=⟨_,rfl⟩;have E:Hid (kn (b2 c) id o mask=(true,b2 (c.set k (l++[s])))):=Z (by
    unfold kn;rw[G,J];simp only[Option.map_none];rw[o1 c k l s n (by rw[d];exact am),d];rfl)
   obtain⟨X,Y,ab,ad⟩:=uQ (s:=s) n;have S:∀x∈c.flatten,x.b≠w.heap.size:=fun x a=>Nat.ne_of_lt (H.apart a).2.2.2
   have c3:∀x∈c.flatten,x.id≠id:=fun x a e=>by
    have:=List.find?_eq_none.1 cd x a;simp[e]at this
   have c2:((l++[s]).map Sl.b).Nodup:=by
    have ch:(l.map Sl.b).Nodup:=by
     refine List.Nodup.sublist ?_ H.nd;rw[(e1 n).1];exact List.Sublist.map _ ((List.sublist_append_right _ _).trans (List.sublist_append_left _ _))
    have:=o2 (X:=l) (Y:=[]) (s:=s) (f:=Sl.b) (by simpa using ch) (fun x a=>by rw[d];exact S x (bo n (by simpa using a)));simpa using this
   have c8:=Z (fun w pv cq cl ck ci v=>rk qb lb k (.map (some mb)) pv cq c l s w cl ck H.len n ci (by rw[d];exact hb) v c2);have b:=Z (And.intro n (And.intro ab (And.intro ad (And.intro S (And.intro c3 (And.intro d hb))))));obtain⟨w1,W⟩:=nm (w.alloc (.cells #[.int .u64 id,.int .u64 o,.int .u64 mask,.pointer none,.pointer none] 256));have I:=Z (Ch.al (D:=ag) W);have cb:=Z (Row.al W);have F:=Z (H.af I);have d1:=F.head.k 1 rfl;obtain⟨w2,c5,a3,a2⟩:=fm (P:=prog) (T:=212) (K:=56) (E:=252) (enc:=bf) underlying212 underlying56 (p.1.ch I (fun h=>h)) id w.heap.size;simp only[bf]at c5;have c9:=Z a3;have A:=Z a2;clear n hb am bw d ab ad S c3 c2 a3 a2;go_enter func186,ntmps186
   go_wp2_with fail
   have B:∀x∈c.flatten,x.b≠qb/\x.b≠lb/\x.b≠mb:=fun x a=>⟨(H.apart a).1,(H.apart a).2.1,(H.apart a).2.2.1⟩
   have c1:mb≠qb:=p.1.ne H.head;have Q:mb≠lb:=p.1.ne H.ends;have V:=F.head.ch A (fun e=>c1 (show mb=qb from Eq.symm e));have av:=F.ends.ch A (fun e=>Q (show mb=lb from Eq.symm e));have L:∀k l,c[k]?=some l->bM w2 none none l:=fun k l n=>(F.chain k l n).ch A (fun x a e=>(B x (bo n a)).2.2 e)
   have R:mb<w.heap.size:=p.1.lt;have c4:=cb.ch A (fun e=>Nat.ne_of_lt R (show w.heap.size=mb from e).symm);have d:=b.2.2.2.2.2.1;have M:=c8 w2 (.pointer none) (.pointer none) V av (L k _ b.1) (by rw[d];exact c4);rw[show s.b=w.heap.size from by rw[d]]at M;refine M.mono ?_;rintro e c6 ⟨rfl,bi,ap,q⟩;rw[show s.b=w.heap.size from by rw[d]]at q;have al:Ch (QD qb lb mb c) w c6:=by
    refine((I.af.trans (A.mono ?_)).join q ?_)
    ·intro i t;exact Or.inr (Or.inr (Or.inl t))
    ·rintro i t (e|e|⟨x,a,e⟩)
     ·exact Or.inr (Or.inl e)
     ·omega
     ·exact Or.inr (Or.inr (Or.inr ⟨x,bo b.1 a,e⟩))
   have U:∀x∈c.flatten,¬(x.b=w.heap.size):=b.2.2.2.1;have a1:Hid (ig c6 qb lb mb (c.set k (l++[s]))):=Z {
    head:=V.ch q (by
     rintro(e|e|⟨x,a,e⟩)
     ·exact H.head.ne H.ends (by decide) e
     ·exact Nat.ne_of_lt H.head.lt e
     ·exact(B x (bo b.1 a)).1 e)
    ends:=bi
    len:=by rw[List.length_set];exact H.len
    chain:=fun j a0 g=>by
     by_cases u:k=j
     ·subst u
      rw[List.getElem?_set_self (List.getElem?_eq_some_iff.1 b.1).1]at g;rw[<-Option.some.inj g];exact ap
     ·rw[List.getElem?_set_ne u]at g
      refine(L j a0 g).ch q (fun x a=> ?_);rintro(e|e|⟨y,cm,e⟩)
      ·exact(B x (bo g a)).2.1 e
      ·exact U x (bo g a) e
      ·exact ks H.nd b.1 g (fun e=>u e.symm) cm a e
    map:=by
     refine⟨_,c9.ch q ?_,p.2.1.put _ _,fun i=> ?_⟩
     ·rintro(e|e|⟨x,a,e⟩)
      ·exact Q e
      ·exact Nat.ne_of_lt R e
      ·exact(B x (bo b.1 a)).2.2 e
     ·rw[aT,b.2.2.1]
      have bv:=p.2.2 i;rw[b.2.1]at bv;by_cases t:i=id
      ·subst t
       rw[if_pos rfl,List.find?_append];have:X.find? (fun x=>x.id==i)=none:=List.find?_eq_none.2 fun x a=>by
        have:=b.2.2.2.2.1 x (by rw[b.2.1];simp[a]);simpa using this
       rw[this];simp[d]
      ·rw[if_neg t,bv,List.find?_append,List.find?_append,List.find?_cons]
       have:(s.id==i)=false:=by rw[d];simpa using fun e:id=i=>t e.symm
       rw[this]
    nd:=by rw[b.2.2.1];exact o2 (b.2.1▸H.nd) (fun x a=>by rw[d];exact U x (by rw[b.2.1];exact a))
    xL:=by rw[b.2.2.1];exact o2 (b.2.1▸H.xL) (fun x a=>by rw[d];exact b.2.2.2.2.1 x (by rw[b.2.1];exact a))
    at_:=fun j a0 g x a=>by
     by_cases u:k=j
     ·subst u
      rw[List.getElem?_set_self (List.getElem?_eq_some_iff.1 b.1).1]at g;rw[<-Option.some.inj g]at a;rcases List.mem_append.1 a with a|a
      ·exact H.at_ k _ b.1 x a
      ·have:x=s:=by simpa using a
       rw[this,d];exact b.2.2.2.2.2.2
     ·rw[List.getElem?_set_ne u]at g
      exact H.at_ j a0 g x a}
   have c7:=Z al;have ce:=Z d;clear B c1 Q V av L R c4 d M bi ap q al U c5 C d1 W cf;go_wp2
   go_ret;rw[E];refine⟨_,rfl,rfl,_,a1,rfl,c7,fun x a=> ?_,fun x a=>a1.Ai ?_⟩
   ·rw[b.2.2.1]at a
    rcases List.mem_append.1 a with a|a
    ·exact Or.inl ⟨x,by rw[b.2.1];simp[a],rfl⟩
    ·rcases List.mem_cons.1 a with rfl|a
     ·exact Or.inr (by rw[ce];exact Nat.le_refl _)
     ·exact Or.inl ⟨x,by rw[b.2.1];simp[a],rfl⟩
   ·rw[b.2.1]at a
    rw[b.2.2.1];simp at a⊢;rcases a with a|a<;>simp[a]
 ·have E:Hid (kn (b2 c) id o mask=(false,b2 c)):=Z (by unfold kn;rw[G];rfl)
  go_enter func186,ntmps186
  go_wp2_with (go_at_call 92;refine(o0 _ _ _).mono ?_;rintro e w' ⟨rfl,rfl⟩)
  go_ret;rw[E];exact⟨_,aq.mk _ _,rfl,c,H.af ((Ch.refl _ _).alloc _),rfl,(Ch.refl _ _).alloc _,fun s d=>Or.inl ⟨s,d,rfl⟩,fun x a=>(H.af ((Ch.refl _ _).alloc _)).Ai a⟩
section
section
variable{w:World}{χ:Nat->a4}{L:cw}{Y:Var}{C:KC}{K:KS}
def dG(r:Int×KS)(χ:Nat->a4)(L:cw)(Y:Var)(C:KC)(K:KS)(w:World)(e:Ending)(w':World):Prop:=e=.returned (.int .i64 r.1)/\∃aW Y',ae w' aW L Y' C r.2/\Nx χ aW w w'/\(r.1≠1->Yk K Y Y')
theorem DW(id a m:Int)(h:ae w χ L Y C K):Calls prog 186 #[(L.qb,0),.int .u64 id,.int .u64 a,.int .u64 m] w (np (kn K.q id a m).1 χ L Y C K {K with q:=(kn K.q id a m).2} w):=by
 have b:=h.q (by simp);have:=yT L.qb L.ql L.qm Y.ls id a m w b.is;rw[b.b2]at this;refine this.mono fun _ _ ⟨v,f,e⟩=> ?_
 obtain⟨c,d⟩:=h.A3 e;exact⟨⟨v,c,f⟩,d⟩
theorem rD(i:Nat)(z:i<K.wk.length)(id:Int)(t:Thread)(D:aw K.ai id=some t)(hid:t.id=id)(X:aH id)(c:bK)(b G:Nat)(x:aj K c)(A:aP L Y c b G)(B:∀k,k<32->aH ((K.F c).r k))(a f g l j m:Int)(R:0<=a/\a<32)(h:ae w χ L Y C K):
 Calls prog 162 #[(L.mb,0),(L.wb,i*38),(Y.bB id,0),(b,G),.agg #[.int .i64 51,a,f,g,.int .u64 l,j,m]] w (dG (aB C K i id c ⟨51,a,f,g,l,j,m⟩) χ L Y C K w):=by
 have H:=Z h;have M:=Z x;have N:=Z A;have W:=Z z;obtain⟨T,F,V,d,J⟩:=h.pre 51 a f g l j m;have r:=Z (And.intro D hid);obtain⟨tb,p⟩:=nm (Y.bB id);have O:=Z p;obtain⟨a2,a3⟩:=R;obtain⟨I,q⟩:∃y,(K.F c).r a.toNat=y:=⟨_,rfl⟩;have s:=Z q;have n:=Z (B a.toNat (by omega));rw[q]at n;obtain⟨a0,a1⟩:=n.out;clear q;have E:Hid (aB C K i id c ⟨51,a,f,g,l,j,m⟩=(0,{K with table:=(g9 K.table I id).2})):=Z (by unfold aB;dsimp only;rw[if_neg (by decide),if_neg (by decide),if_pos rfl,s]);obtain⟨t0,t1,t2,t3,t4,t5,t6⟩:=J.1.c7;have S:=d.at_.az M N a.toNat (by omega);rw[s]at S;have Q:=d.at_.gb r.1;rw[r.2,O]at Q;have k1:=d.at_.eh;rw[p];clear h x A B z D hid p;go_enter func162,ntmps162
 go_wp2_with fail
 try rw[F]
 clear F;go_wp2_with fail
 go_still_tail 15,(by kernel_rfl)
 change wpList _ _ _ _ _ T.drew;go_wp2_with fail
 refine(yF I id n d.at_.drew).mono ?_;rintro e w1 ⟨⟨v,rfl,_⟩,U,P,u⟩;have o:=Z ((d.af (Ch.refl _ _).drew).trans (Gr.of_eq rfl) u);clear u;go_wp2_with fail
 go_ret;rw[E];exact⟨rfl,U,P,o.at_,o.nx,fun _=>o.yk⟩
theorem rE(i:Nat)(z:i<K.wk.length)(id:Int)(t:Thread)(D:aw K.ai id=some t)(hid:t.id=id)(S:aH id)(c:bK)(b G:Nat)(x:aj K c)(A:aP L Y c b G)(B:∀k,k<32->aH ((K.F c).r k))(a f g l j m:Int)(R:0<=a/\a<32)(h:ae w χ L Y C K):
 Calls prog 162 #[(L.mb,0),(L.wb,i*38),(Y.bB id,0),(b,G),.agg #[.int .i64 53,a,f,g,.int .u64 l,j,m]] w (dG (aB C K i id c ⟨53,a,f,g,l,j,m⟩) χ L Y C K w):=by
 have H:=Z h;have M:=Z x;have N:=Z A;have X:=Z z;obtain⟨U,F,W,d,J⟩:=h.pre 53 a f g l j m;have q:=Z (And.intro D hid);obtain⟨tb,o⟩:=nm (Y.bB id);have O:=Z o;obtain⟨a2,a3⟩:=R;obtain⟨I,p⟩:∃y,(K.F c).r a.toNat=y:=⟨_,rfl⟩;have s:=Z p;have r:=Z (B a.toNat (by omega));rw[p]at r;obtain⟨a0,a1⟩:=r.out;clear p;have E:Hid (aB C K i id c ⟨53,a,f,g,l,j,m⟩=(0,{K with table:=(fW K.table id I).2})):=Z (by unfold aB;dsimp only;rw[if_neg (by decide),if_neg (by decide),if_neg (by decide),if_pos rfl,s]);obtain⟨t0,t1,t2,t3,t4,t5,t6⟩:=J.1.c7;have T:=d.at_.az M N a.toNat (by omega);rw[s]at T;have Q:=d.at_.gb q.1;rw[q.2,O]at Q;have k1:=d.at_.eh;rw[o];clear h x A B z D hid o;go_enter func162,ntmps162
 go_wp2_with fail
 try rw[F]
 clear F;go_wp2_with fail
 go_still_tail 15,(by kernel_rfl)
 change wpList _ _ _ _ _ U.drew;go_wp2_with fail
 refine(p' id I S d.at_.drew).mono ?_;rintro e w1 ⟨⟨v,rfl,_⟩,V,P,u⟩;have n:=Z ((d.af (Ch.refl _ _).drew).trans (Gr.of_eq rfl) u);clear u;go_wp2_with fail
 go_ret;rw[E];exact⟨rfl,V,P,n.at_,n.nx,fun _=>n.yk⟩
theorem rF(i:Nat)(m:i<K.wk.length)(id:Int)(t:Thread)(n:aw K.ai id=some t)(hid:t.id=id)(J:aH id)(c:bK)(b z:Nat)(u:aj K c)(v:aP L Y c b z)(I:∀k,k<32->aH ((K.F c).r k))(a d f j g l:Int)(F:K.clock.Ok)(D:K.blocks.Ok)(G:K.out.length<=800000)(h:ae w χ L Y C K):
 Calls prog 162 #[(L.mb,0),(L.wb,i*38),(Y.bB id,0),(b,z),.agg #[.int .i64 55,a,d,f,.int .u64 j,g,l]] w (dG (aB C K i id c ⟨55,a,d,f,j,g,l⟩) χ L Y C K w):=by
 have H:=Z h;have N:=Z u;have Q:=Z v;have P:=Z m;obtain⟨T,x,O,q,A⟩:=h.pre 55 a d f j g l;have R:=Z (And.intro n hid);obtain⟨tb,o⟩:=nm (Y.bB id);have S:=Z o;have E:Hid (aB C K i id c ⟨55,a,d,f,j,g,l⟩=(1,mw C K i id)):=Z (by unfold aB;dsimp only;rw[if_neg (by decide),if_neg (by decide),if_neg (by decide),if_neg (by decide),if_pos rfl]);obtain⟨t0,t1,t2,t3,t4,t5,t6⟩:=A.1.c7;have s:=Z (rC i m id t n hid J F D G q.at_);rw[o]at s⊢;clear h u v I m n hid o;go_enter func162,ntmps162
 go_wp2_with fail
 try rw[x]
 clear x;go_wp2_with fail
 refine s.mono ?_;rintro e w1 ⟨rfl,M,B,r,y⟩;have p:=Z (And.intro r y);clear r y;go_wp2_with fail
 go_ret;rw[E];exact⟨rfl,M,B,p.1,q.nx.trans p.2,fun h=>absurd rfl h⟩
theorem rG(i:Nat)(v:i<K.wk.length)(id:Int)(t:Thread)(y:aw K.ai id=some t)(hid:t.id=id)(M:aH id)(c:bK)(b A:Nat)(u:aj K c)(x:aP L Y c b A)(J:∀k,k<32->aH ((K.F c).r k))(a d f j g l:Int)(h:ae w χ L Y C K):
 Calls prog 162 #[(L.mb,0),(L.wb,i*38),(Y.bB id,0),(b,A),.agg #[.int .i64 56,a,d,f,.int .u64 j,g,l]] w (dG (aB C K i id c ⟨56,a,d,f,j,g,l⟩) χ L Y C K w):=by
 have H:=Z h;have O:=Z u;have Q:=Z x;have D:=Z v;obtain⟨S,z,P,m,B⟩:=h.pre 56 a d f j g l;have p:=Z (And.intro y hid);obtain⟨tb,o⟩:=nm (Y.bB id);have F:=Z o;have E:Hid (aB C K i id c ⟨56,a,d,f,j,g,l⟩=(0,ds C (cc K id) i)):=Z (by unfold aB;dsimp only;rw[if_neg (by decide),if_neg (by decide),if_neg (by decide),if_neg (by decide),if_neg (by decide),if_pos rfl]);obtain⟨t0,t1,t2,t3,t4,t5,t6⟩:=B.1.c7;have I:=m.at_.gb p.1;rw[p.2,F]at I;rw[o];clear h u x J v y hid o;go_enter func162,ntmps162
 go_wp2_with fail
 try rw[z]
 clear z;go_wp2_with fail
 refine(e9 id M m.at_).mono ?_;rintro e w1 ⟨rfl,T,R,r⟩;have q:=Z (m.trans (Gr.refl _) r);clear r;go_wp2_with fail
 refine(ik i (by exact D) q.at_).mono ?_;rintro e w2 ⟨rfl,N,G,s⟩;have n:=Z (q.trans (Gr.of_eq rfl) s);clear s;go_wp2_with fail
 go_ret;rw[E];exact⟨rfl,N,G,n.at_,n.nx,fun _=>n.yk⟩
theorem rH(i:Nat)(A:i<K.wk.length)(id:Int)(t:Thread)(n:aw K.ai id=some t)(hid:t.id=id)(a1:aH id)(c:bK)(b G:Nat)(z:aj K c)(B:aP L Y c b G)(Q:∀k,k<32->aH ((K.F c).r k))(d f g l j m:Int)(O:1<t.l.length)(P:t.l.length<=8)(a0:K.out.length<=800000)(h:ae w χ L Y C K):
 Calls prog 162 #[(L.mb,0),(L.wb,i*38),(Y.bB id,0),(b,G),.agg #[.int .i64 58,d,f,g,.int .u64 l,j,m]] w (dG (aB C K i id c ⟨58,d,f,g,l,j,m⟩) χ L Y C K w):=by
 have H:=Z h;have s:=Z z;have u:=Z B;have V:=Z A;obtain⟨I,D,U,a,M⟩:=h.pre 58 d f g l j m;have W:=Z (And.intro n hid);obtain⟨tb,o⟩:=nm (Y.bB id);have X:=Z o;obtain⟨y0,p⟩:∃y,(K.F c).r 0=y:=⟨_,rfl⟩;obtain⟨J,q⟩:∃y,(K.F c).r 1=y:=⟨_,rfl⟩;have R:=a.at_.az s u 0 (by omega);have S:=a.at_.az s u 1 (by omega);rw[p]at R;rw[q]at S;have E:Hid (aB C K i id c ⟨58,d,f,g,l,j,m⟩=(1,er K id y0 J)):=Z (by unfold aB;dsimp only;rw[if_neg (by decide),if_neg (by decide),if_neg (by decide),if_neg (by decide),if_neg (by decide),if_neg (by decide),if_neg (by decide),if_pos rfl,p,q]);obtain⟨t0,t1,t2,t3,t4,t5,t6⟩:=M.1.c7;have x:=Z (hh (K:=K) id t n hid O P y0 J (by omega) a.at_.drew);rw[o]at x⊢;clear p q;clear h z B Q A n hid o;go_enter func162,ntmps162
 go_wp2_with fail
 try rw[D]
 clear D;go_wp2_with fail
 go_still_tail 12,(by kernel_rfl)
 change wpList _ _ _ _ _ I.drew;go_wp2_with fail
 refine x.mono ?_;rintro e w1 ⟨rfl,T,N,v,F⟩;have r:=Z (And.intro v F);clear v F;go_wp2_with fail
 go_ret;rw[E];exact⟨rfl,T,N,r.1,a.nx.trans ((Nx.af (Ch.refl _ I).drew).trans r.2),fun h=>absurd rfl h⟩
theorem rI(i:Nat)(ap:i<K.wk.length)(id:Int)(t:Thread)(bi:aw K.ai id=some t)(hid:t.id=id)(ce:aH id)(c:bK)(b bv:Nat)(am:aj K c)(av:aP L Y c b bv)(z:∀k,k<32->aH ((K.F c).r k))(a f g o n r:Int)(c6:0<=a/\a<32)(hb:0<=f/\f<32)(c7:0<=g/\g<32)(c8:K.clock.Ok)(h:ae w χ L Y C K):
 Calls prog 162 #[(L.mb,0),(L.wb,i*38),(Y.bB id,0),(b,bv),.agg #[.int .i64 24,a,f,g,.int .u64 o,n,r]] w (dG (aB C K i id c ⟨24,a,f,g,o,n,r⟩) χ L Y C K w):=by
 have H:=Z h;have s:=Z am;have u:=Z av;have cd:=Z ap;obtain⟨W,A,cb,j,D⟩:=h.pre 24 a f g o n r;have m:=Z (And.intro bi hid);obtain⟨tb,Q⟩:=nm (Y.bB id);have a1:=Z Q;obtain⟨cq,cs⟩:=c6;obtain⟨X,S⟩:∃y,(K.F c).r a.toNat=y:=⟨_,rfl⟩;have F:=Z S;have a2:=Z (z a.toNat (by omega));rw[S]at a2;obtain⟨cf,ch⟩:=a2.out;clear S;obtain⟨cA,cC⟩:=hb;obtain⟨c1,T⟩:∃y,(K.F c).r f.toNat=y:=⟨_,rfl⟩;have G:=Z T;have a3:=Z (z f.toNat (by omega));rw[T]at a3;obtain⟨ci,ck⟩:=a3.out;clear T;obtain⟨cL,cQ⟩:=c7;obtain⟨c2,U⟩:∃y,(K.F c).r g.toNat=y:=⟨_,rfl⟩;have I:=Z U;have ab:=Z (z g.toNat (by omega));rw[U]at ab;obtain⟨cl,cm⟩:=ab.out;clear U;obtain⟨p,O⟩:=nm (kn K.q id c1 c2);obtain⟨ok,V⟩:=p;have a0:=Z O;obtain⟨t0,t1,t2,t3,t4,t5,t6⟩:=D.1.c7;have B:=j.at_.az s u a.toNat (by omega);rw[F]at B;have bw:=j.at_.az s u f.toNat (by omega);rw[G]at bw;have c0:=j.at_.az s u g.toNat (by omega);rw[I]at c0;have x:=j.at_.gb m.1;rw[m.2,a1]at x;have k1:=j.at_.xM;have P:=Z (DW (K:=K) id c1 c2 j.at_.drew);rw[O]at P;clear O;rw[Q];clear h am av z ap bi hid Q;cases ok
 ·have E:Hid (aB C K i id c ⟨24,a,f,g,o,n,r⟩=(0,{K with q:=V})):=Z (by unfold aB;dsimp only;rw[if_pos rfl,G,I,a0];rfl)
  go_enter func162,ntmps162
  go_wp2_with fail
  try rw[A]
  clear A;go_wp2_with fail
  go_still_tail 22,(by kernel_rfl)
  change wpList _ _ _ _ _ W.drew;go_wp2_with fail
  refine P.out.mono ?_;rintro e w1 ⟨⟨v,rfl,R⟩,c3,M,l⟩;obtain⟨tt,cS,rfl⟩:=R;have d:=Z ((j.af (Ch.refl _ _).drew).trans (Gr.of_eq rfl) l);clear l;go_wp2_with fail
  go_ret;rw[E];exact⟨rfl,c3,M,d.at_,d.nx,fun _=>d.yk⟩
 ·have E:Hid (aB C K i id c ⟨24,a,f,g,o,n,r⟩=(0,{K with q:=V,clock:=(K.clock.arm id X).2})):=Z (by unfold aB;dsimp only;rw[if_pos rfl,G,I,a0,F];rfl)
  go_enter func162,ntmps162
  go_wp2_with fail
  try rw[A]
  clear A;go_wp2_with fail
  go_still_tail 22,(by kernel_rfl)
  change wpList _ _ _ _ _ W.drew;go_wp2_with fail
  refine P.out.mono ?_;rintro e w1 ⟨⟨v,rfl,R⟩,c3,M,l⟩;obtain rfl:v=.nilIface:=R;have d:=Z ((j.af (Ch.refl _ _).drew).trans (Gr.of_eq rfl) l);have c4:=Z (((Nx.af (Ch.refl _ W).drew).trans l.nx).row D.1 D.2);have N:=d.cur s u (Gr.of_eq rfl) rfl;have al:M.bB id=tb:=((d.yk id t m.1).1).trans a1;clear l t0 t1 t2 t3 t4 t5 t6 B bw c0 k1 x;have B:=d.at_.az N.1 N.2 a.toNat (by omega);rw[show(({K with q:=V}:KS).F c).r a.toNat=X from F.out]at B;have x:=d.at_.gb m.1;rw[m.2,al]at x;have k2:=d.at_.jH;obtain⟨t0,t1,t2,t3,t4,t5,t6⟩:=c4.1.c7;clear N al;go_wp2_with fail
  go_still_tail 15,(by kernel_rfl)
  change wpList _ _ _ _ _ w1.drew;go_wp2_with fail
  refine(ER id X (by exact c8) d.at_.drew).mono ?_;rintro e w2 ⟨⟨v,rfl,_⟩,c9,c5,ad⟩;have J:=Z ((d.af (Ch.refl _ _).drew).trans (Gr.of_eq rfl) ad);clear ad;go_wp2_with fail
  go_ret;rw[E];exact⟨rfl,c9,c5,J.at_,J.nx,fun _=>J.yk⟩
end
end
section
theorem yU:(prog.info? 177).map (fun i=>(i.zero,i.size,i.bytes))=some (some (.pointer none),1,8):=by kernel_rfl
def Ew(p:Int):Frame:=⟨⟨p,fun _=>0,[]⟩,false,0⟩
theorem qf{w:World}{χ:Nat->a4}{L:cw}{Y:Var}{C:KC}{K:KS}(id:Int){s:hx}(a:hJ K.q id=some s)(h:ae w χ L Y C K):Calls prog 77 #[(L.qb,0),.int .u64 id] w (fun e w'=>e=.returned (.tuple #[.int .u64 s.ad,.int .u64 s.mask,.int .i64 (bc s.ad (8:Nat)),.bool true])/\∃n,w'=w.drewN n):=by
 have:=uS id h;rw[a]at this;exact this
theorem qg{w:World}{χ:Nat->a4}{L:cw}{Y:Var}{C:KC}{K:KS}(id:Int)(a:hJ K.q id=none)(h:ae w χ L Y C K):Calls prog 77 #[(L.qb,0),.int .u64 id] w (fun e w'=>e=.returned (.tuple #[.int .u64 0,.int .u64 0,.int .i64 0,.bool false])/\∃n,w'=w.drewN n):=by
 have:=uS id h;rw[a]at this;exact this
section
variable{w:World}{χ:Nat->a4}{L:cw}{Y:Var}{C:KC}{K:KS}
theorem rJ(i:Nat)(a0:i<K.wk.length)(id:Int)(t:Thread)(ab:aw K.ai id=some t)(hid:t.id=id)(bw:aH id)(c:bK)(b Q:Nat)(X:aj K c)(a1:aP L Y c b Q)(a3:∀k,k<32->aH ((K.F c).r k))(a m o r p u:Int)(bv:0<=a/\a<32)(h:ae w χ L Y C K):
 Calls prog 162 #[(L.mb,0),(L.wb,i*38),(Y.bB id,0),(b,Q),.agg #[.int .i64 28,a,m,o,.int .u64 r,p,u]] w (dG (aB C K i id c ⟨28,a,m,o,r,p,u⟩) χ L Y C K w):=by
 have H:=Z h;have G:=Z X;have I:=Z a1;have am:=Z a0;obtain⟨D,B,c1,d,F⟩:=h.pre 28 a m o r p u;have z:=Z (And.intro ab hid);obtain⟨tb,O⟩:=nm (Y.bB id);have S:=Z O;obtain⟨c6,c7⟩:=bv;obtain⟨c8,P⟩:∃y,(K.F c).r a.toNat=y:=⟨_,rfl⟩;have ap:=Z P;have T:=Z (a3 a.toNat (by omega));rw[P]at T;obtain⟨c3,c4⟩:=T.out;clear P;obtain⟨q,a2⟩:=nm (hJ K.q id);have x:=Z a2;obtain⟨t0,t1,t2,t3,t4,t5,t6⟩:=F.1.c7;have R:=d.at_.az G I a.toNat (by omega);rw[ap]at R;have M:=d.at_.gb z.1;rw[z.2,S]at M;have N:=d.at_.DT z.1;rw[S]at N;have k1:=d.at_.xM;clear a2;rw[O];clear h X a1 a3 a0 ab hid O;cases q with
 |some s=>
  have J:=Z (fun n=>qf (K:=K) id x (d.at_.drewN n));have E:Hid (aB C K i id c ⟨28,a,m,o,r,p,u⟩=(1,ds C {K with table:=(jJ K.table id 3).2} i)):=Z (by unfold aB;dsimp only;rw[if_neg (by decide),if_pos rfl,x]);go_enter func162,ntmps162
  go_wp2_with fail
  try rw[B]
  clear B;go_wp2_with fail
  go_quiet ((go_at_call 77;exact Calls.quiet_of (J _)))
  obtain⟨w1,j⟩:=nm (D.drewN nq);have f:Hid (Ch ag D w1):=Z (by rw[<-j];exact(Ch.refl _ _).drewN nq);rw[j];clear j;have g:=Z (d.af f);have M:=f.k M;have k2:=g.at_.eh;go_wp2_with fail
  go_still_tail 8,(by kernel_rfl)
  change wpList _ _ _ _ _ w1.drew;go_wp2_with fail
  refine(p9 id 3 bw g.at_.drew).mono ?_;rintro e w2 ⟨⟨v,rfl,_⟩,ad,V,A⟩;have l:=Z ((g.af (Ch.refl _ _).drew).trans (Gr.of_eq rfl) A);clear A;go_wp2_with fail
  refine(ik i (by exact am) l.at_).mono ?_;rintro e c5 ⟨rfl,c0,av,W⟩;have U:=Z (l.trans (Gr.of_eq rfl) W);clear W;go_wp2_with fail
  go_ret;rw[E];exact⟨rfl,c0,av,U.at_,U.nx,fun h=>absurd rfl h⟩
 |none=>
  have J:=Z (fun n=>qg (K:=K) id x (d.at_.drewN n));have E:Hid (aB C K i id c ⟨28,a,m,o,r,p,u⟩=(0,K.au c a.toNat t.eM)):=Z (by unfold aB;dsimp only;rw[if_neg (by decide),if_pos rfl,x];show(0,K.au c a.toNat (K.T id).eM)=_;rw[KS.df z.1]);go_enter func162,ntmps162
  go_wp2_with fail
  try rw[B]
  clear B;go_wp2_with fail
  go_quiet ((go_at_call 77;exact Calls.quiet_of (J _)))
  obtain⟨w1,j⟩:=nm (D.drewN nq);have f:Hid (Ch ag D w1):=Z (by rw[<-j];exact(Ch.refl _ _).drewN nq);rw[j];clear j;have g:=Z (d.af f);have al:=Z ((Nx.af f).row F.1 F.2);have N:=f.k N;have R:=f.k R;have c2:=g.at_.g1 G I (Q+1+a.toNat);have t1:=al.1.k 1 rfl;have bi:=Z (g.at_.drew.a6 G I a.toNat (by omega) t.eM);go_wp2_with fail
  go_still_tail 9,(by kernel_rfl)
  change wpList _ _ _ _ _ w1.drew;go_wp2_with fail
  go_ret;rw[E];obtain⟨ad,V,A⟩:=bi.out;have l:=(g.af (Ch.refl _ _).drew).trans (Gr.refl _) A;exact⟨rfl,ad,V,l.at_,l.nx,fun _=>l.yk⟩
theorem rK(i:Nat)(S:i<K.wk.length)(id:Int)(t:Thread)(a1:aw K.ai id=some t)(hid:t.id=id)(fz:aH id)(c:bK)(b c8:Nat)(bv:aj K c)(c4:aP L Y c b c8)(I:∀k,k<32->aH ((K.F c).r k))(m z A F B G:Int)(cq:0<=m/\m<32)(c1:0<t.l.length)(dr:t.l.length<=8)(cL:C.bn.length<=2048)(h:ae w χ L Y C K):
 Calls prog 162 #[(L.mb,0),.pointer (some ⟨L.wb,i*38,none⟩),(Y.bB id,0),(b,c8),.agg #[.int .i64 57,m,z,A,.int .u64 F,B,G]] w (dG (aB C K i id c ⟨57,m,z,A,F,B,G⟩) χ L Y C K w):=by
 have H:=Z h;have cb:=Z bv;have ch:=Z c4;have eC:=Z S;obtain⟨x,v,eA,q,c9⟩:=h.pre 57 m z A F B G;have o:=Z (And.intro a1 hid);obtain⟨tb,a2⟩:=nm (Y.bB id);have O:=Z a2;obtain⟨go,gr⟩:=cq;obtain⟨n,a3⟩:∃y,(K.F c).r m.toNat=y:=⟨_,rfl⟩;have P:=Z a3;have am:=Z (I m.toNat (by omega));rw[a3]at am;obtain⟨gf,gk⟩:=am.out;clear a3;obtain⟨et,bw,ec,en,es⟩:=info_parts yU;have ce:=Z bw;obtain⟨N,V⟩:=mn t.l.length;have u:=Z V;obtain⟨ab,a0⟩:=nm C.bn.length;have U:=Z a0;obtain⟨g,cap,T,cA,_⟩:=q.at_.jX a1 c1;rw[<-V]at T cA dr c1;have M:=Z T;obtain⟨t0,t1,t2,t3,t4,t5,t6⟩:=c9.1.c7;have ex:=q.at_.az cb ch m.toNat (by omega);rw[P]at ex;have k3:=q.at_.c3;have e:=q.at_.CI o.1;rw[O,T]at e;rw[a0]at k3 cL;have eS:(ab:Int)<=2048:=by omega
 have fd:(N:Int)<=8:=by omega
 clear V a0 T;rw[a2];clear h bv c4 I S a1 hid a2 bw;by_cases c0:n<(ab:Int)
 ·by_cases eL:N<8
  ·have eW:(N:Int)<8:=by omega
   have c7:wrap64 n=n:=by unfold wrap64;omega
   have E:Hid (aB C K i id c ⟨57,m,z,A,F,B,G⟩=(0,K.b9 id {t with l:=t.l++[Ew n]})):=Z (by unfold aB;dsimp only;rw[if_neg (by decide),if_neg (by decide),if_neg (by decide),if_neg (by decide),if_neg (by decide),if_neg (by decide),if_pos rfl,P,U,KS.df o.1,<-u,if_pos ⟨c0,by omega⟩,c7];rfl);clear c7;go_enter func162,ntmps162
   go_wp2_with fail
   try rw[v]
   clear v;go_wp2_with fail
   go_quiet (fail)
   obtain⟨w1,j⟩:=nm (x.drewN nq);have a:Hid (Ch ag x w1):=Z (by rw[<-j];exact(Ch.refl _ _).drewN nq);rw[j];clear j;have d:=Z (q.af a);have k3:=a.k k3;have e:=a.k e;go_upto_region 27 with fail
   obtain⟨s,J⟩:=nm (w1.alloc (.cells #[n,.int .u64 0,.int .u64 0,.int .u64 0,.int .u64 0,.int .u64 0,.int .u64 0,.int .u64 0,.int .u64 0,.int .u64 0,.int .u64 0,.int .u64 0,.int .u64 0,.int .u64 0,.int .u64 0,.int .u64 0,.int .u64 0,.int .u64 0,.int .u64 0,.int .u64 0,.int .u64 0,.int .u64 0,.int .u64 0,.int .u64 0,.int .u64 0,.int .u64 0,.int .u64 0,.int .u64 0,.int .u64 0,.int .u64 0,.int .u64 0,.int .u64 0,.int .u64 0,.slice none 0 0,.bool false,.int .i64 0] 179));have ad:=Z (Ch.al (D:=ag) J);have al:Hid (aG s w1.heap.size 0 179 [] (Ew n).post (.slice none 0 0) (Ew n).f):=Z ⟨by
    have I:=Row.new w1 #[n,.int .u64 0,.int .u64 0,.int .u64 0,.int .u64 0,.int .u64 0,.int .u64 0,.int .u64 0,.int .u64 0,.int .u64 0,.int .u64 0,.int .u64 0,.int .u64 0,.int .u64 0,.int .u64 0,.int .u64 0,.int .u64 0,.int .u64 0,.int .u64 0,.int .u64 0,.int .u64 0,.int .u64 0,.int .u64 0,.int .u64 0,.int .u64 0,.int .u64 0,.int .u64 0,.int .u64 0,.int .u64 0,.int .u64 0,.int .u64 0,.int .u64 0,.int .u64 0,.slice none 0 0,.bool false,.int .i64 0] 179;rw[J]at I;exact I,rfl,cp.nil _⟩
   have ck:Hid (s.heap.size=w1.heap.size+1):=Z (by rw[<-J];simp);rw[J];clear J;have r:=Z (d.af ad);have e:=ad.k e;have ap:=r.at_.rz o.1 1;rw[O]at ap;obtain⟨fb,Q⟩:=mn w1.heap.size;have cf:Hid (χ fb=.no):=Z (d.at_.fresh (by rw[Q];exact Nat.le_refl _));rw[<-Q]at al ck⊢;have cd:=Z Q;have X:=(r.at_.tl id t o.1 (by simp)).is;rw[M,<-u]at X;have c5:tb<s.heap.size:=aE e;have c6:(Value.slice (some (g,0)) N cap).ownBlock≠some tb:=by
    have:=aY (r.at_.tl id t o.1 (by simp)).is (r.at_.th id t o.1 (by simp)).is (by decide);rw[M,O]at this;exact this
   clear Q;go_wp2_with (at_builtin;refine wpList_append_lies _ rfl _ _ _ rfl 0 177 et _ 1 8 underlying174 ce ec en es rfl (by omega) _ N ((List.range N).map fun k=>bf (Y.fb id k)) rfl (X.alloc _) ⟨s.heap.size,0,none⟩ 1 1 [(fb,0)] rfl rfl (World.news_of_block (cs:=#[(fb,0)]) (t:=177) (fr:=(0,0)) (heap_alloc_new s _)) (by simp[Value.oneCell']) (by omega) (by unfold maxLen;omega) (by omega) (by simp) (s.heap.size+1) (by simp) ?_)
   intro cm cl w4 c3 R bi cS;have W:=r.at_.B0 o.1 (f:=Ew n) al cf rfl (g:=cm) (cap:=cl) (w4:=w4) (by rw[<-u];exact c3) (by rw[M];exact ax R) (by
    rw[M];rcases bi with av|av
    ·exact Or.inl (by rw[av])
    ·exact Or.inr (by omega))
   rw[O,<-u]at W;have ci:=Z W;have gc:w4.cell? (tb,1)=some (.slice (some (g,0)) N cap):=((Ch.bQ (ax R)).cell (p:=⟨tb,1,none⟩) c5 c6).trans e;have ge:w4.frozen? (tb,1)=false:=((Ch.bQ (ax R)).frozen (p:=⟨tb,1,none⟩) c5 c6).trans ap;clear W c3 R bi cS X;go_wp2_with fail
   go_ret;rw[E];obtain⟨aW,Y',cW,dC,dN,cC⟩:=ci.out;have c2:Nx χ χ w s:=r.nx;have fn:w.heap.size<=w1.heap.size:=d.nx.ch.size;refine⟨rfl,aW,Y',cW,⟨c2.ch.join cC (fun i _ h=>h),fun i S=>dC i (Nat.lt_of_lt_of_le S c2.ch.size) (by rw[cd];omega)⟩,fun _=>r.yk.trans (Gr.refl _) dN⟩
  ·have cQ:decide ((N:Int)<8)=false:=by simp;omega
   have E:Hid (aB C K i id c ⟨57,m,z,A,F,B,G⟩=(0,K)):=Z (by unfold aB;dsimp only;rw[if_neg (by decide),if_neg (by decide),if_neg (by decide),if_neg (by decide),if_neg (by decide),if_neg (by decide),if_pos rfl,P,U,KS.df o.1,<-u,if_neg (by omega)]);go_enter func162,ntmps162
   go_wp2_with fail
   try rw[v]
   clear v;go_wp2_with fail
   go_quiet (fail)
   obtain⟨w1,j⟩:=nm (x.drewN nq);have a:Hid (Ch ag x w1):=Z (by rw[<-j];exact(Ch.refl _ _).drewN nq);rw[j];clear j;have d:=Z (q.af a);have k3:=a.k k3;have e:=a.k e;go_wp2_with fail
   go_ret;rw[E];exact⟨rfl,χ,Y,d.at_,d.nx,fun _=>d.yk⟩
 ·have cQ:decide (n<(ab:Int))=false:=by simpa using c0
  have E:Hid (aB C K i id c ⟨57,m,z,A,F,B,G⟩=(0,K)):=Z (by unfold aB;dsimp only;rw[if_neg (by decide),if_neg (by decide),if_neg (by decide),if_neg (by decide),if_neg (by decide),if_neg (by decide),if_pos rfl,P,U,KS.df o.1,<-u,if_neg (by omega)]);go_enter func162,ntmps162
  go_wp2_with fail
  try rw[v]
  clear v;go_wp2_with fail
  go_quiet (fail)
  obtain⟨w1,j⟩:=nm (x.drewN nq);have a:Hid (Ch ag x w1):=Z (by rw[<-j];exact(Ch.refl _ _).drewN nq);rw[j];clear j;have d:=Z (q.af a);have k3:=a.k k3;have e:=a.k e;go_wp2_with fail
  go_ret;rw[E];exact⟨rfl,χ,Y,d.at_,d.nx,fun _=>d.yk⟩
end
end
section
theorem rL(l:List (Int×Thread))(k:Int)(v:Thread)(g:Int->Nat)(b:Nat)(h:aw l k=none):b8 (l.map fun x=>(x.1,g x.1)) k b=(b8 l k v).map fun x=>(x.1,if x.1=k then b else g x.1):=by
 induction l with
 |nil=>simp[kh]
 |cons x l ih=>
  rw[cT]at h;have a:k≠x.1:=fun e=>by rw[if_pos e]at h;cases h
  rw[if_neg a]at h;rw[List.map_cons,dR,dR,if_neg a,if_neg a,ih h,List.map_cons,if_neg (fun e=>a e.symm)]
def B4:Nat->Int:=fun _=>0
section
variable{w w':World}{χ:Nat->a4}{L:cw}{Y:Var}{C:KC}{K:KS}
theorem ae.EV(h:ae w χ L Y C K){id:Int}(E:aw K.ai id=none){f:Frame}{bv:Value}{fb g tb:Nat}(H:aG w fb 0 179 [] f.post bv f.f)(G:bv.ownBlock=none)
 (I:w.ownsRow 0 177 1 (.slice (some (g,0)) 1 1) 1 [bf fb]) (J:Row w tb 176 [.int .u64 id,.slice (some (g,0)) 1 1,.int .u64 0]) (o:χ fb=.no) (p:χ g=.no) (r:χ tb=.no) (P:g≠fb) (T:tb≠fb) (Q:g≠tb)
 (R:bH w' L.tm .u64 bf (b8 (K.ai.map fun x=>(x.1,Y.bB x.1)) id tb)) (c:Ch (aK L.tm) w w'):
 ∃aW Y',ae w' aW L Y' C {K with ai:=b8 K.ai id ⟨id,[f],0⟩}/\(∀i,i<w.heap.size->χ i≠ .no->aW i=χ i)/\(∀i,aW i≠ .no->χ i≠ .no∨i=fb∨i=g∨i=tb)/\Yk K Y Y':=by
 have B:=h.tm (by simp);have s:eI [.tm] χ χ (aK L.tm) w w':=eI.one c (fun i d=>by rw[show i=L.tm from d];simp[B.k]) h.small;have base:=h.step s (by simp);obtain⟨aW,A⟩:∃aW:Nat->a4,aW=fun i=>if i=fb then .fr id 0 else if i=g then .tl id else if i=tb then .th id else χ i:=⟨_,rfl⟩
 have a:∀{i:Nat} {k:a4},χ i=k->k≠ .no->aW i=k:=fun {i k} d y=>by
  rw[A];dsimp only;rw[if_neg (fun e=>y (by rw[<-d,e,o])),if_neg (fun e=>y (by rw[<-d,e,p])),if_neg (fun e=>y (by rw[<-d,e,r]))];exact d
 have F:∀{i},χ i=.no->i≠L.tm:=fun {i} d e=>by rw[e,B.k]at d;cases d
 have M:MB [.tm] w' aW L Y C K:={
  head:=fun m=>⟨(base.head (by simp)).row,(base.head (by simp)).rows,a (base.head (by simp)).k (by simp)⟩
  mem:=fun m=>⟨(base.mem (by simp)).is,a (base.mem (by simp)).k1 (by simp),a (base.mem (by simp)).k2 (by simp),a (base.mem (by simp)).k3 (by simp)⟩
  al:=fun m=>⟨(base.al (by simp)).is,a (base.al (by simp)).k1 (by simp),fun q l=>a ((base.al (by simp)).k2 q l) (by simp)⟩
  bW:=fun m=>⟨(base.bW (by simp)).is,a (base.bW (by simp)).k1 (by simp),a (base.bW (by simp)).k2 (by simp),a (base.bW (by simp)).k3 (by simp),a (base.bW (by simp)).k4 (by simp),fun q l=>a ((base.bW (by simp)).k5 q l) (by simp)⟩
  ring:=fun m=>⟨(base.ring (by simp)).is,a (base.ring (by simp)).k1 (by simp),a (base.ring (by simp)).k2 (by simp)⟩
  q:=fun m=>⟨(base.q (by simp)).is,(base.q (by simp)).b2,fun i d=>a ((base.q (by simp)).k i d) (by simp)⟩
  cX:=fun m=>⟨(base.cX (by simp)).is,a (base.cX (by simp)).k1 (by simp),a (base.cX (by simp)).k2 (by simp)⟩
  obj:=fun m=>⟨(base.obj (by simp)).is,a (base.obj (by simp)).k1 (by simp),a (base.obj (by simp)).k2 (by simp)⟩
  tm:=fun m=>absurd (by simp) m
  th:=fun j u n m=>⟨(base.th j u n (by simp)).is,a (base.th j u n (by simp)).k (by simp)⟩
  tl:=fun j u n m=>⟨(base.tl j u n (by simp)).is,fun q l=>a ((base.tl j u n (by simp)).k q l) (by simp)⟩
  fr:=fun j u k D n y m=>⟨(base.fr j u k D n y (by simp)).is,a (base.fr j u k D n y (by simp)).kf (by simp),fun q l=>a ((base.fr j u k D n y (by simp)).kb q l) (by simp)⟩
  wk:=fun m=>⟨(base.wk (by simp)).is,a (base.wk (by simp)).k (by simp),(base.wk (by simp)).back,fun i x z q l=>a ((base.wk (by simp)).kb i x z q l) (by simp),(base.wk (by simp)).n⟩
  out:=fun m=>⟨(base.out (by simp)).is,fun q l=>a ((base.out (by simp)).k q l) (by simp)⟩
  code:=fun m=>{
   mx:=(base.code (by simp)).mx
   iU:=(base.code (by simp)).iU
   my:=(base.code (by simp)).my
   ca:=fun z=>by obtain⟨q,o,p,r⟩:=(base.code (by simp)).ca z;exact⟨q,o,p,a r (by simp)⟩
   prog:=fun z=>by obtain⟨q,o,p,r⟩:=(base.code (by simp)).prog z;exact⟨q,o,p,a r (by simp)⟩
   calls:=fun z=>by obtain⟨q,j,o,p,r⟩:=(base.code (by simp)).calls z;exact⟨q,j,o,p,a r (by simp)⟩}
  small:=fun i d=>by
   rw[A]at d;dsimp only at d;split at d
   ·rename_i e;rw[e];exact Nat.lt_of_lt_of_le H.row.lt c.size
   ·split at d
    ·rename_i e;rw[e];exact Nat.lt_of_lt_of_le (cB I (g:=g) rfl) c.size
    ·split at d
     ·rename_i e;rw[e];exact Nat.lt_of_lt_of_le J.lt c.size
     ·exact base.small i d}
 have N:=H.ch c (fun e=>F o e) (fun q l=>by rw[G]at l;cases l);have O:=ar I c (fun q l e=>F p (by
  have:g=q:=by simpa[Value.ownBlock]using l
  rw[this];exact e))
 have S:=J.ch c (fun e=>F r e);refine⟨aW,_,M.DL (t:=⟨id,[f],0⟩) (f:=f) (v:=.slice (some (g,0)) 1 1) (bv':=bv) (b:=tb) (fbk:=fb) E rfl ⟨?_,a B.k (by simp),B.nd.put _ _⟩ ⟨S,?_⟩ ⟨by simpa using O,?_⟩ ⟨N,?_,fun q l=>by rw[G]at l;cases l⟩,fun i d m=>a rfl m,?_,?_⟩
 ·rw[<-rL _ _ _ _ _ E];exact R
 ·rw[A];dsimp only;rw[if_neg T,if_neg (fun e=>Q e.symm),if_pos rfl]
 ·intro q l
  have:g=q:=by simpa[Value.ownBlock]using l
  rw[<-this,A];dsimp only;rw[if_neg P,if_pos rfl]
 ·rw[A];dsimp only;rw[if_pos rfl]
 ·intro i d
  rw[A]at d;dsimp only at d;split at d
  ·rename_i e;exact Or.inr (Or.inl e)
  ·split at d
   ·rename_i e;exact Or.inr (Or.inr (Or.inl e))
   ·split at d
    ·rename_i e;exact Or.inr (Or.inr (Or.inr e))
    ·exact Or.inl d
 ·intro j u n
  have e:j≠id:=fun e=>by rw[e,E]at n;cases n
  exact⟨if_neg e,fun k _=>if_neg e⟩
theorem mG{S:aZ}{M:aF}{n a:Nat}(b:S.Ok)(h:(c' S M n).1=some a):a<=140000:=by
 unfold c' at h;split at h
 ·cases h
 ·split at h
  ·cases h
  ·rename_i i d
   split at h
   ·have:S.ee i=a:=by simpa using h
    rw[<-this];unfold aZ.ee;split
    ·have:=b.from_;omega
    ·split
     ·rename_i x c;have:=b.l x (List.mem_of_getElem? c);omega
     ·omega
   ·cases h
def iH(place a:Int):Frame:=⟨⟨place,fun j=>if j=0 then a else 0,[]⟩,false,0⟩
theorem wj(place c:Int)(a0:K.blocks.Ok)(a1:(c' K.blocks K.mem 1).2.1.Ok)(c1:∀M id,(db K.table M).1=some id->aw K.ai id=none)(h:ae w χ L Y C K):
 Calls prog 58 #[(L.mb,0),place,.int .u64 c] w (de (.int .u64 (bF K place c).1) χ L Y C K (bF K place c).2 w):=by
 have H:=Z h;have A:=h.oG;have J:=Z (ru 1 (by omega) a0 h);obtain⟨p,N⟩:=nm (c' K.blocks K.mem 1);have hle:∀a,p.1=some a->a<=140000:=fun a c0=>mG a0 (by rw[N];exact c0)
 rw[N]at J a1;obtain⟨cA,B1,ap⟩:=p;have R:=Z N;have cb:=Z a1;have ch:=Z c1;clear h N a0 a1 c1;cases cA with
 |none=>
  have E:Hid (bF K place c=(0,{K with blocks:=B1,mem:=ap})):=Z (by unfold bF;rw[R]);clear hle;go_enter func58,ntmps58
  go_wp2_with fail
  refine J.mono ?_;rintro e w1 ⟨⟨u,rfl,a3⟩,ab,S,b⟩;obtain⟨tt,dC,rfl⟩:=a3;have y:=Z b;clear b A;go_wp2_with fail
  go_ret;rw[E];exact⟨rfl,ab,S,y⟩
 |some a=>
  have c0:=hle a rfl;have es:IntKind.u64.wrap (a:Int)=a:=by unfold IntKind.wrap IntKind.bits IntKind.signed;simp;omega
  obtain⟨K1,X⟩:=mn (({K with blocks:=B1,mem:=ap}:KS));have j:=Z X;have en:(a:Int)<=140000:=by omega
  obtain⟨q,c3⟩:=nm (db K1.table (a:Int));obtain⟨cs,r⟩:=q;have z:=Z c3;have cd:Hid (K1.blocks.Ok):=Z (by rw[X];exact cb);clear hle X c3;cases cs with
  |none=>
   have E:Hid (bF K place c=(0,iS {K1 with table:=r} a)):=Z (by
    have:=z.out;rw[j]at this⊢;unfold bF;rw[R];dsimp only;rw[show db K.table (a:Int)=(none,r)from this])
   go_enter func58,ntmps58
   go_wp2_with fail
   refine J.mono ?_;rintro e w1 ⟨rfl,ab,S,b⟩;rw[<-j]at b;have y:=Z b;have U:=b.at_.eh;have n:=rs (a:Int) b.at_;rw[z]at n;have O:=Z n;clear b A n;go_wp2_with fail
   refine O.mono ?_;rintro e w2 ⟨⟨u,rfl,a3⟩,x,av,m⟩;obtain⟨tt,dC,rfl⟩:=a3;have k:=Z (y.trans (Gr.of_eq (by rw[j])) m);have A:=m.at_.oG;clear m U;go_wp2_with fail
   refine(yL (a:Int) (by exact cd) k.at_).mono ?_;rintro e ex ⟨⟨v,rfl,_⟩,dN,cq,bi⟩;have c9:=Z (k.trans (Gr.of_eq (by rw[j])) bi);clear bi A;go_wp2_with fail
   go_ret;rw[E];exact⟨rfl,dN,cq,c9⟩
  |some id=>
   have c2:aw K.ai id=none:=ch (a:Int) id (by have:=z.out;rw[j]at this;rw[show db K.table (a:Int)=(some id,r)from this]);have ci:=Z c2;have E:Hid (bF K place c=(id,{K1 with table:=r,ai:=b8 K.ai id ⟨id,[iH place c],0⟩})):=Z (by
    have:=z.out;rw[j]at this⊢;unfold bF;rw[R];dsimp only;rw[show db K.table (a:Int)=(some id,r)from this];rfl)
   clear c2;go_enter func58,ntmps58
   go_wp2_with fail
   refine J.mono ?_;rintro e w1 ⟨rfl,ab,S,b⟩;rw[<-j]at b;have y:=Z b;have U:=b.at_.eh;have n:=rs (a:Int) b.at_;rw[z]at n;have O:=Z n;clear b A n;go_wp2_with fail
   refine O.mono ?_;rintro e w2 ⟨rfl,x,av,m⟩;have k:=Z (y.trans (Gr.of_eq (by rw[j])) m);have V:=m.at_.iG;have c8:=Z V;clear V;go_upto_region 11 with fail
   obtain⟨d,I⟩:=nm (w2.alloc (.cells #[place,.int .u64 c,.int .u64 0,.int .u64 0,.int .u64 0,.int .u64 0,.int .u64 0,.int .u64 0,.int .u64 0,.int .u64 0,.int .u64 0,.int .u64 0,.int .u64 0,.int .u64 0,.int .u64 0,.int .u64 0,.int .u64 0,.int .u64 0,.int .u64 0,.int .u64 0,.int .u64 0,.int .u64 0,.int .u64 0,.int .u64 0,.int .u64 0,.int .u64 0,.int .u64 0,.int .u64 0,.int .u64 0,.int .u64 0,.int .u64 0,.int .u64 0,.int .u64 0,.slice none 0 0,.bool false,.int .i64 0] 179));have al:=Z (Ch.al (D:=ag) I);have am:Hid (aG d w2.heap.size 0 179 [] (iH place c).post (.slice none 0 0) (iH place c).f):=Z ⟨by
    have c4:=Row.new w2 #[place,.int .u64 c,.int .u64 0,.int .u64 0,.int .u64 0,.int .u64 0,.int .u64 0,.int .u64 0,.int .u64 0,.int .u64 0,.int .u64 0,.int .u64 0,.int .u64 0,.int .u64 0,.int .u64 0,.int .u64 0,.int .u64 0,.int .u64 0,.int .u64 0,.int .u64 0,.int .u64 0,.int .u64 0,.int .u64 0,.int .u64 0,.int .u64 0,.int .u64 0,.int .u64 0,.int .u64 0,.int .u64 0,.int .u64 0,.int .u64 0,.int .u64 0,.int .u64 0,.slice none 0 0,.bool false,.int .i64 0] 179;rw[I]at c4;exact c4,rfl,cp.nil _⟩
   have l:Hid (d.heap.size=w2.heap.size+1):=Z (by rw[<-I];simp);rw[I];clear I m U;have V:=(al.cell (aE c8.out) (fun h=>h)).trans c8.out;obtain⟨fb,a2⟩:=mn w2.heap.size;rw[<-a2]at am l⊢;have o:=Z a2;clear a2;obtain⟨w4,t⟩:=nm ((d.alloc (.cells #[(fb,0)] 177)).alloc (.cells #[.int .u64 id,.slice (some (d.heap.size,0)) 1 1,.int .u64 0] 176));have ad:Hid (Ch ag w2 w4):=Z (by rw[<-t];exact(al.alloc _).alloc _);have Q:Hid (ae w4 x L av C {K1 with table:=r}):=Z (k.at_.af ad);have ck:Hid (Row w4 d.heap.size 177 [bf fb]):=Z (by rw[<-t];exact(Row.new d _ _).alloc _);have cl:Hid (Row w4 (d.heap.size+1) 176 [.int .u64 id,.slice (some (d.heap.size,0)) 1 1,.int .u64 0]):=Z (by
    rw[<-t];have:=Row.new (d.alloc (.cells #[(fb,0)] 177)) #[.int .u64 id,.slice (some (d.heap.size,0)) 1 1,.int .u64 0] 176;rw[World.size_alloc]at this;exact this)
   have cf:Hid (aG w4 fb 0 179 [] (iH place c).post (.slice none 0 0) (iH place c).f):=Z (by
    rw[<-t];exact am.ch (((Ch.refl ag _).alloc _).alloc _) (fun h=>h) (fun _ _ h=>h))
   obtain⟨dr,c6,bw,W⟩:=fm (P:=prog) (T:=126) (K:=56) (E:=173) (enc:=bf) underlying126 underlying56 (Q.tm (by simp)).is id (d.heap.size+1);have G:∀i,w2.heap.size<=i->x i=.no:=fun i s=>by
    cases B:x i with
    |no=>rfl
    |_=>exact absurd (k.at_.small i (by rw[B];simp)) (by omega)
   have ec:=Z G;have c5:=Q.EV (id:=id) (f:=iH place c) (bv:=.slice none 0 0) (fb:=fb) (g:=d.heap.size) (tb:=d.heap.size+1) (w':=dr) (by rw[j];exact ci) cf rfl
    ⟨rfl,Or.inr ⟨d.heap.size,1,#[bf fb],rfl,Nat.zero_le _,ck,Nat.le_refl _,by unfold maxLen;omega,rfl,rfl⟩⟩ cl (G _ (by rw[o];exact Nat.le_refl _)) (G _ (by rw[l,o];omega)) (G _ (by rw[l,o];omega)) (by rw[l];omega) (by rw[l];omega) (by omega) bw W
   have cm:=Z c5;have ce:=Z W;simp only[bf]at c6;rw[<-t]at c6;clear c5 bw W t G;go_wp2_with fail
   go_ret;rw[E];obtain⟨aW,Y',M,cS,cQ,cW⟩:=cm.out;have c7:K1.ai=K.ai:=by rw[j]
   simp only[c7]at M;refine⟨rfl,aW,Y',M,?_,?_⟩
   ·have F:Nx χ x w w4:=k.nx.trans (Nx.af ad)
    have cC:=(Q.tm (by simp)).k;have et:w.heap.size<=w2.heap.size:=k.nx.ch.size;refine⟨F.ch.join ce (fun i s e=>by rw[<-F.same i s,show i=L.tm from e,cC];simp),fun i s=> ?_⟩;cases B:x i with
    |no=>
     rw[<-F.same i s,B];cases cL:aW i with
     |no=>rfl
     |_=>
      exfalso;rcases cQ i (by rw[cL];simp)with e|e|e|e
      ·exact e B
      ·rw[o]at e;omega
      ·rw[l,o]at e;omega
      ·rw[l,o]at e;omega
    |_=>rw[cS i (Nat.lt_of_lt_of_le s F.ch.size) (by rw[B];simp),F.same i s]
   ·exact k.yk.trans (Gr.of_eq c7) cW
end
end
end Go.Proofs.YtfnilkpkogipfaaGreatDoor
