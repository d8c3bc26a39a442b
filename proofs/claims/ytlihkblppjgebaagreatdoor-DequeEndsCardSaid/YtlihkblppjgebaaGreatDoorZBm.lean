import Derived.Test.YtlihkblppjgebaaGreatDoorZBl
set_option linter.all false
set_option maxRecDepth 100000
set_option maxHeartbeats 8000000
namespace Go.Proofs.YtlihkblppjgebaaGreatDoor
open Go.RowKit Go.Proofs.Tryz
section
section
variable{w w':World}{χ:Nat->a4}{L:cw}{Y:Var}{C:KC}{K:KS}
end
end
section
def iq(χ:Nat->a4):Nat->a4:=fun i=>if χ i=.out then .no else χ i
theorem xb(χ:Nat->a4)(i:Nat):iq χ i≠ .out:=by
 unfold iq;split
 ·decide
 ·assumption
theorem xc{χ:Nat->a4}{i:Nat}{k:a4}(h:χ i=k)(a:k≠ .out):iq χ i=k:=by
 unfold iq;rw[if_neg (by rw[h];exact a),h]
section
variable{w w':World}{χ:Nat->a4}{L:cw}{Y:Var}{C:KC}{K:KS}
theorem ae.Bq(h:ae w χ L Y C K):ae (w.setCell ⟨L.mb,1020,none⟩ (.slice none 0 0)) (iq χ) L {Y with ov:=.slice none 0 0} C {K with out:=[]}/\
 (w.setCell ⟨L.mb,1020,none⟩ (.slice none 0 0)).ownsRow 0 82 11 Y.ov K.out.length (K.out.flatMap Ev.cells):=by
 have m:=h.head (by simp);have t:=h.out (by simp);have c:Ch (aK L.mb) w (w.setCell ⟨L.mb,1020,none⟩ (.slice none 0 0)):=(Ch.refl _ _).only _ _;have s:eI [.gx] χ χ (aK L.mb) w (w.setCell ⟨L.mb,1020,none⟩ (.slice none 0 0)):=eI.one c (fun i o=>by rw[show i=L.mb from o];simp[m.k]) h.small;have base:=h.step s (by simp);have nb:∀{i:Nat} {k:a4},χ i=k->k≠ .out->iq χ i=k:=fun d f=>xc d f
 refine⟨{
  head:=fun a=>⟨m.row.a' _ _ ?_,m.rows,nb m.k (by simp)⟩
  mem:=fun a=>⟨(base.mem (by simp)).is,nb (base.mem (by simp)).k1 (by simp),nb (base.mem (by simp)).k2 (by simp),nb (base.mem (by simp)).k3 (by simp)⟩
  al:=fun a=>⟨(base.al (by simp)).is,nb (base.al (by simp)).k1 (by simp),fun q b=>nb ((base.al (by simp)).k2 q b) (by simp)⟩
  bW:=fun a=>⟨(base.bW (by simp)).is,nb (base.bW (by simp)).k1 (by simp),nb (base.bW (by simp)).k2 (by simp),nb (base.bW (by simp)).k3 (by simp),nb (base.bW (by simp)).k4 (by simp),fun q b=>nb ((base.bW (by simp)).k5 q b) (by simp)⟩
  ring:=fun a=>⟨(base.ring (by simp)).is,nb (base.ring (by simp)).k1 (by simp),nb (base.ring (by simp)).k2 (by simp)⟩
  q:=fun a=>⟨(base.q (by simp)).is,(base.q (by simp)).b2,fun i o=>nb ((base.q (by simp)).k i o) (by simp)⟩
  tab:=fun a=>⟨(base.tab (by simp)).is,nb (base.tab (by simp)).k1 (by simp),nb (base.tab (by simp)).k2 (by simp)⟩
  obj:=fun a=>⟨(base.obj (by simp)).is,nb (base.obj (by simp)).k1 (by simp),nb (base.obj (by simp)).k2 (by simp)⟩
  tm:=fun a=>⟨(base.tm (by simp)).is,nb (base.tm (by simp)).k (by simp),(base.tm (by simp)).nd⟩
  th:=fun j u hj a=>⟨(base.th j u hj (by simp)).is,nb (base.th j u hj (by simp)).k (by simp)⟩
  tl:=fun j u hj a=>⟨(base.tl j u hj (by simp)).is,fun q b=>nb ((base.tl j u hj (by simp)).k q b) (by simp)⟩
  fr:=fun j u k p hj r a=>⟨(base.fr j u k p hj r (by simp)).is,nb (base.fr j u k p hj r (by simp)).kf (by simp),fun q b=>nb ((base.fr j u k p hj r (by simp)).kb q b) (by simp)⟩
  wk:=fun a=>⟨(base.wk (by simp)).is,nb (base.wk (by simp)).k (by simp),(base.wk (by simp)).back,fun i x l q b=>nb ((base.wk (by simp)).kb i x l q b) (by simp),(base.wk (by simp)).n⟩
  out:=fun a=>⟨⟨rfl,Or.inl ⟨rfl,rfl⟩⟩,fun q b=>by cases b⟩
  code:=fun a=>{
   mx:=(base.code (by simp)).mx
   iU:=(base.code (by simp)).iU
   my:=(base.code (by simp)).my
   ca:=fun l=>by obtain⟨q,d,f,n⟩:=(base.code (by simp)).ca l;exact⟨q,d,f,nb n (by simp)⟩
   prog:=fun l=>by obtain⟨q,d,f,n⟩:=(base.code (by simp)).prog l;exact⟨q,d,f,nb n (by simp)⟩
   calls:=fun l=>by obtain⟨q,j,d,f,n⟩:=(base.code (by simp)).calls l;exact⟨q,j,d,f,nb n (by simp)⟩}
  small:=fun i o=>base.small i (fun e=>o (by unfold iq;rw[e];rfl))},?_⟩
 ·have:=nu (L:=L) (C:=C) (ov:=Y.ov) (nw:=K.wk.length) (en:=K.entries) (at_:=K.at_) (wn:=K.w) (dr:=K.draw) m.rows 13 (.slice none 0 0)
  rw[this];rfl
 ·exact ar t.is c (fun g v e=>by
   have d:=t.k g v;rw[show g=L.mb from e,m.k]at d;cases d)
def B6(x:List Ev×KS)(χ:Nat->a4)(L:cw)(C:KC)(w:World)(e:Ending)(w':World):Prop:=
 ∃v aW Y',e=.returned v/\w'.ownsRow w.heap.size 82 11 v x.1.length (x.1.flatMap Ev.cells)/\(∀g,v.ownBlock=some g->aW g=.no)/\ae w' aW L Y' C x.2/\Nx χ aW w w'/\∀i,aW i≠ .out
theorem xd{w:World}{e:TypeId}{z:Nat}{v:Value}{n B:Nat}{b:List Value}(h:w.ownsRow 0 e z v n b)(f:∀g,v.ownBlock=some g->B<=g):w.ownsRow B e z v n b:=by
 refine⟨h.1,?_⟩;rcases h.2 with c|⟨g,cap,cur,a,_,d⟩
 ·exact Or.inl c
 ·exact Or.inr ⟨g,cap,cur,a,f g (by rw[a];rfl),d⟩
theorem ae.sf(h:ae w' χ L Y C K){d:Nat->a4}(n:Nx d χ w w')(k:∀i,d i≠ .out):B6 (K.out,{K with out:=[]}) d L C w (.returned Y.ov) (w'.setCell ⟨L.mb,1020,none⟩ (.slice none 0 0)):=by
 obtain⟨l,m⟩:=h.Bq;have j:=h.out (by simp);have o:∀g,Y.ov.ownBlock=some g->w.heap.size<=g:=fun g b=>by
  rcases Nat.lt_or_ge g w.heap.size with a|a
  ·have f:=n.same g a
   rw[j.k g b]at f;exact absurd f.symm (k g)
  ·exact a
 refine⟨Y.ov,_,_,rfl,xd m o,fun g b=>by unfold iq;rw[if_pos (j.k g b)],l,?_,xb χ⟩;have p:=h.head (by simp);refine⟨n.ch.join (E:=aK L.mb) ((Ch.refl _ _).only _ _) (fun i c e=> ?_),fun i c=> ?_⟩
 ·have:i=L.mb:=e
  subst this;rw[<-n.same _ c,p.k];decide
 ·unfold iq
  rw[n.same i c,if_neg (k i)]
end
end
section
structure NM(w:World)(mb:Nat)(pre:List Value)(rows:List Int)(post:List Value):Prop where
 row:Row w mb 113 (pre++(rows.map (Value.int .i64)++post))
 n1:pre.length=7
 n2:rows.length=1000
section
variable{w w':World}{mb:Nat}{pre:List Value}{rows:List Int}{post:List Value}
theorem NM.pc(h:NM w mb pre rows post){i:Nat}{v:Value}(a:pre[i]?=some v):w.cell? ⟨mb,i,none⟩=some v:=h.row.cell (by
 rw[List.getElem?_append_left (List.getElem?_eq_some_iff.1 a).1];exact a)
theorem NM.rc(h:NM w mb pre rows post){i:Nat}{v:Int}(a:rows[i]?=some v):w.cell? ⟨mb,7+i,none⟩=some (.int .i64 v):=h.row.cell (by
 have b:=(List.getElem?_eq_some_iff.1 a).1;rw[List.getElem?_append_right (by rw[h.n1];omega),h.n1,List.getElem?_append_left (by rw[List.length_map];omega),List.getElem?_map,show 7+i-7=i by omega,a];rfl)
theorem NM.qc(h:NM w mb pre rows post){j:Nat}{v:Value}(a:post[j]?=some v):w.cell? ⟨mb,1007+j,none⟩=some v:=h.row.cell (by
 rw[List.getElem?_append_right (by rw[h.n1];omega),h.n1,List.getElem?_append_right (by rw[List.length_map,h.n2];omega),List.length_map,h.n2,show 1007+j-7-1000=j by omega,a])
theorem NM.fz(h:NM w mb pre rows post)(i:Nat):w.frozen? ⟨mb,i,none⟩=false:=h.row.free i
theorem NM.lt(h:NM w mb pre rows post):mb<w.heap.size:=h.row.lt
theorem NM.ch{D:Nat->Prop}(h:NM w mb pre rows post)(c:Ch D w w')(a:¬D mb):NM w' mb pre rows post:=⟨h.row.ch c a,h.n1,h.n2⟩
theorem NM.alloc(h:NM w mb pre rows post)(a:Obj):NM (w.alloc a) mb pre rows post:=⟨h.row.alloc a,h.n1,h.n2⟩
theorem NM.drew(h:NM w mb pre rows post):NM w.drew mb pre rows post:=⟨h.row.drew,h.n1,h.n2⟩
theorem NM.tP(h:NM w mb pre rows post){i:Nat}(a:i<7)(v:Value):NM (w.setCell ⟨mb,i,none⟩ v) mb (pre.set i v) rows post:=
 ⟨h.row.a' i v (by rw[List.set_append_left _ _ (by rw[h.n1];exact a)]),by rw[List.length_set];exact h.n1,h.n2⟩
theorem NM.au(h:NM w mb pre rows post){i:Nat}(a:i<1000)(v:Int):NM (w.setCell ⟨mb,7+i,none⟩ (.int .i64 v)) mb pre (rows.set i v) post:=
 ⟨h.row.a' (7+i) _ (by rw[List.set_append_right _ _ (by rw[h.n1];omega),h.n1,List.set_append_left _ _ (by rw[List.length_map,h.n2];omega),show 7+i-7=i by omega,List.map_set]),h.n1,by rw[List.length_set];exact h.n2⟩
theorem NM.jZ(h:NM w mb pre rows post)(j:Nat)(v:Value):NM (w.setCell ⟨mb,1007+j,none⟩ v) mb pre rows (post.set j v):=
 ⟨h.row.a' (1007+j) _ (by rw[List.set_append_right _ _ (by rw[h.n1];omega),h.n1,List.set_append_right _ _ (by rw[List.length_map,h.n2];omega),List.length_map,h.n2,show 1007+j-7-1000=j by omega]),h.n1,h.n2⟩
structure NR(pre post:List Value)(wb n:Nat)(wi na:Int):Prop where
 p8:post[8]?=some (.slice (some ⟨wb,0,none⟩) n n)
 r5:pre[5]?=some (.int .i64 wi)
 r6:pre[6]?=some (.int .i64 na)
 n0:1<=n
 E3:n<=64
 Fi:0<=wi
 E4:wi<=256
 Fj:0<=na
 E5:na<=256
theorem lG{b n:Nat}{d a:Int}(h:NM w mb pre rows post)(r:NR pre post b n d a):Calls prog 40 #[.pointer (some ⟨mb,0,none⟩)] w (d' (.int .i64 (17+8*(n:Int))) w):=by
 have c:=h.qc r.p8;have e:(n:Int)<=64:=by have:=r.E3;omega
 clear h r;go_enter func40,ntmps40
 go_wp2
 go_ret;exact d'.mk rfl
theorem tQ{c n:Nat}{b a:Int}(h:NM w mb pre rows post)(r:NR pre post c n b a):Calls prog 112 #[.pointer (some ⟨mb,0,none⟩)] w (fun e w'=>e=.returned (.int .i64 (b+a))/\∃n,w'=w.drewN n):=by
 have d:=h.pc r.r5;have f:=h.pc r.r6;have g:IntKind.i64.wrap (b+a)=b+a:=IntWalk.i64_in _ (by have:=r.Fi;have:=r.E4;have:=r.Fj;have:=r.E5;omega);clear h r;go_enter func112,ntmps112
 go_wp2_with fail
 go_quiet (fail)
 go_wp2
 go_ret;exact⟨rfl,nq,rfl⟩
end
def nY(S:aF)(n i:Nat):aF:=
 let a:=(S.acc 1 (gY i) 0 1).2
 let b:=(a.acc 1 (IntKind.u64.wrap (gY i+1)) 0 1).2
 let c:=(b.acc 1 (IntKind.u64.wrap (gY i+2)) 0 (17+3*n+5*i)).2
 (c.acc 1 (17+3*n+5*i) 0 4).2
def mh(S:aF)(n:Nat):Nat->aF
 |0=>S
 |k+1=>nY (mh S n k) n k
def fQ(tt n a d:Nat):aF:=
 let e:=((aF.new tt).map 0 (17+8*n) 64).2
 let b:=mh e n n
 let c:=if 0<a then(b.map (17+8*n) a 64).2 else b
 if 0<d then(c.map (17+8*n+a) d 32).2 else c
theorem xe{S:aF}(h:bX S)(n i:Nat)(e:n<=64)(d:i<=64):bX (nY S n i):=by
 unfold nY;have a:=(h.acc 1 (gY i) 0 1 ⟨by decide,by decide⟩).1;have b:=(a.acc 1 (IntKind.u64.wrap (gY i+1)) 0 1 ⟨by decide,by decide⟩).1;have c:=(b.acc 1 (IntKind.u64.wrap (gY i+2)) 0 (17+3*n+5*i) ⟨by omega,by omega⟩).1;exact(c.acc 1 (17+3*n+5*i) 0 4 ⟨by decide,by decide⟩).1
theorem si{S:aF}(h:bX S)(n:Nat)(a:n<=64):∀k,k<=64->bX (mh S n k)
 |0,_=>h
 |k+1,b=>xe (si h n a k (by omega)) n k a (by omega)
theorem bX.new{tt:Nat}(h:tt<=65536):bX (aF.new tt):=⟨fun x a=>by
 have:x=0:=(List.mem_replicate.1 a).2;rw[this];exact bx,by show(List.replicate tt (0:Int)).length<=_;rw[List.length_replicate];exact h⟩
theorem xf(tt n f d:Nat)(c:tt<=65536)(b:n<=64):bX (fQ tt n f d):=by
 unfold fQ;have e:=(bX.new c).map 0 (17+8*n) 64;have a:=si e n b n b;dsimp only;split
 ·split
  ·exact(a.map _ _ _).map _ _ _
  ·exact a.map _ _ _
 ·split
  ·exact a.map _ _ _
  ·exact a
end
def Dd(mb:Nat)(pre:List Value)(rows:List Int)(post:List Value)(tt n f b:Nat)(w:World)(e:Ending)(w':World):Prop:=
 e=.returned (.tuple #[])/\∃m c d a,NM w' mb pre rows ((post.set 0 (bf m)).set 1 (bf a))/\aO w' m c d (fQ tt n f b)/\aR w' a m (.slice none 0 0) ⟨17+8*n+f+b,tt,[]⟩/\w.heap.size<=m/\w.heap.size<=c/\w.heap.size<=d/\w.heap.size<=a/\Ch (aK mb) w w'
theorem Ch.qB{D E:Nat->Prop}{w a b:World}(c:Ch D w a)(d:Ch E a b)(g:∀i,i<w.heap.size->E i->D i):Ch D w b:=
 ⟨d.os.trans c.os,d.tape.trans c.tape,d.output.trans c.output,Nat.le_trans c.size d.size,fun j hj f=>(d.same j (Nat.lt_of_lt_of_le hj c.size) (fun e=>f (g j hj e))).trans (c.same j hj f)⟩
theorem zw(mb:Nat)(pre:List Value)(rows:List Int)(post:List Value)(eO n f j tt:Nat)(w:World)(h:NM w mb pre rows post)(r:NR pre post eO n f j)(gL:2<=post.length)(he:1<=tt)(eA:tt<=65536)(gR:17+8*n+f+j<=tt):
 Calls prog 67 #[.pointer (some ⟨mb,0,none⟩),.int .i64 tt] w (Dd mb pre rows post tt n f j w):=by
 have H:=Z h;have R:=Z r;have i3:=Z eA;have i1:=Z gL;have i2:=Z gR;have eW:=Z (tN tt he eA w);have k0:(n:Int)<=64:=by have:=r.E3;omega
 have k3:(f:Int)<=256:=r.E4;have k1:(j:Int)<=256:=r.E5;obtain⟨hf,gC⟩:∃hf,post[0]?=some hf:=⟨_,List.getElem?_eq_getElem (by omega)⟩;obtain⟨eC,gJ⟩:∃eC,post[1]?=some eC:=⟨_,List.getElem?_eq_getElem (by omega)⟩;have fT:=Z gC;have g2:=Z gJ;clear h r he eA gL gR gC gJ;go_enter func67,ntmps67
 go_wp2_with (first|(go_at_call 108;refine eW.out.mono ?_;rintro e w1 ⟨m,c,d,rfl,gA,gr,go,gp,dN⟩;have fK:=Z gA;have eS:=Z dN;have b:Hid (w.heap.size<=m/\w.heap.size<=c/\w.heap.size<=d):=Z ⟨gr,go,gp⟩;have c4:=Z (H.out.ch dN (fun h=>h));have z:=c4.out.fz 1007;have it:=c4.out.qc fT.out;clear gA gr go gp dN))
 obtain⟨w2,c2⟩:=nm (w1.setCell ⟨mb,1007,none⟩ (.pointer (some ⟨m,0,none⟩)));have E:Hid (mb<w.heap.size):=Z H.out.lt;have al:Hid (NM w2 mb pre rows (post.set 0 (bf m))):=Z (by rw[<-c2];exact c4.out.jZ 0 _);have i5:Hid (aO w2 m c d (aF.new tt)):=Z (by
  have q:∀x,w.heap.size<=x->¬aK mb x:=fun x cb e=>by have u:x=mb:=e;have F:=E.out;omega
  rw[<-c2];exact fK.out.ch (((Ch.refl (aK mb) w1).only 1007 _)) (q m b.out.1) (q c b.out.2.1) (q d b.out.2.2))
 have T:Hid (Ch (aK mb) w w2):=Z (by rw[<-c2];exact(eS.out.af).only _ _);have D:Hid (NR pre (post.set 0 (bf m)) eO n f j):=Z ⟨by rw[List.getElem?_set_ne (by decide)];exact R.out.p8,R.out.r5,R.out.r6,R.out.n0,R.out.E3,R.out.Fi,R.out.E4,R.out.Fj,R.out.E5⟩;have bi:Hid ((post.set 0 (bf m))[1]?=some eC):=Z (by rw[List.getElem?_set_ne (by decide)];exact g2.out);have A:Hid ((post.set 0 (bf m))[0]?=some (bf m)):=Z (by rw[List.getElem?_set_self (by have:=i1.out;omega)]);obtain⟨eL,ex⟩:∃p,post.set 0 (bf m)=p:=⟨_,rfl⟩;rw[c2];rw[ex]at al D bi A;have c7:=Z ex;clear c2 ex z it c4 fK eS eW fT g2;have hw:=Z (fun w (h:NM w mb pre rows eL)=>lG h D.out);have gf:=al.out.qc D.out.p8;go_region_held3 (fun w'=>w'.cell? ⟨mb,1015,none⟩=some (.slice (some ⟨eO,0,none⟩) n n)) (go_keep) ((go_at_call 40;refine(hw.out _ al.out.drew).mono ?_;rintro e l ⟨rfl,rfl⟩))
 all_goals
  have z:w2.cell? ⟨mb,1007,none⟩=some (.pointer (some ⟨m,0,none⟩)):=al.out.qc A.out;have es:=fh m c d (aF.new tt) 0 (17+8*n) (by omega) (by omega) w2.drew i5.out.drew;rw[show((17+8*n:Nat):Int)=17+8*(n:Int)by omega,show((0:Nat):Int)=0 from rfl]at es;obtain⟨bv,gs⟩:=nm (((aF.new tt).map 0 (17+8*n) 64).2);have av:=Z gs;have hF:=Z es;clear es gs gf;go_wp2_with (go_at_call 109;refine hF.out.mono ?_;rintro e k5 ⟨⟨y,rfl,v⟩,en,e1⟩;rw[av.out]at en;have i6:=Z en;have hi:=Z e1;have eU:=Z (al.out.drew.ch e1 (fun e=>by have u:=b.out;have F:=E.out;rcases e with e|e|e<;>omega));have gf:=eU.out.qc D.out.p8;clear en e1 v z)
  go_loopg [34] (n+1) (fun gk i wr=>∃k:Nat,k<=n/\gk=n-k+1/\i=.int .i64 k/\Hid (aO wr m c d (mh bv n k))/\Hid (NM wr mb pre rows eL)/\Hid (Ch (dE m c d) w2.drew wr))
  case atStart=>exact⟨0,by omega,by omega,rfl,i6,eU,hi⟩
  case round=>
   obtain⟨k,iv,rfl,rfl,V,P,a0⟩:=hrel;by_cases jp:k<n
   ·have ii:(k:Int)<n:=by omega
    obtain⟨S,X⟩:=nm (mh bv n k);have a1:=Z X;rw[X]at V;have z:wr.cell? ⟨mb,1007,none⟩=some (.pointer (some ⟨m,0,none⟩)):=P.out.qc A.out;have c6:=Z (fun w=>o5 k (by omega) (by omega) (.pointer (some ⟨mb,0,none⟩)) w);have dC:aH (gY k):=cj _;obtain⟨a2,ec⟩:=nm (gY k);rw[ec]at c6 dC;have hB:=Z ec;have i4:=Z dC;have gt:Hid (aH (17+3*(n:Int)+5*(k:Int))):=Z ⟨by omega,by omega⟩;have k2:IntKind.i64.wrap (3*(n:Int))=3*n:=IntWalk.i64_in _ (by omega);clear X ec dC;go_wp2_with fail
    have fo:=Z (eo m c d S a2 1 i4.out ⟨by decide,by decide⟩ wr.drew V.out.drew);obtain⟨g4,cL⟩:∃x,(S.acc 1 a2 0 1).2=x:=⟨_,rfl⟩;rw[cL]at fo;have hq:=Z cL;clear cL;refine wp_region_still_tail 7 (by kernel_rfl) (by kernel_rfl) ?_;simp only[List.take_succ_cons,List.take_zero,List.drop_succ_cons,List.drop_zero]
    repeat still_step
    still_call (bZ (c6.out _))
    repeat still_step
    try refine wpStill_nil ?_
    change wpList _ _ _ _ _ wr.drew;go_wp2_with (go_at_call 110;(with_reducible refine fo.out.mono ?_);rintro e ch ⟨⟨y,rfl,v⟩,o,a⟩;have i7:=Z o;have hj:Hid (Ch (dE m c d) w2.drew ch):=Z ((a0.out.drew).trans (a.mono (fun i M=>M.elim Or.inl (fun e=>Or.inr (Or.inl e)))));have eY:=Z (NM.ch (P.out.drew) a (fun e=>by have u:=b.out;have F:=E.out;rcases e with e|e<;>omega));have z:ch.cell? ⟨mb,1007,none⟩=some (.pointer (some ⟨m,0,none⟩)):=eY.out.qc A.out;clear o a v)
    have fr:=Z (eo m c d g4 (IntKind.u64.wrap (a2+1)) 1 (cj _) ⟨by decide,by decide⟩ ch.drew i7.out.drew);obtain⟨gb,cS⟩:∃x,(g4.acc 1 (IntKind.u64.wrap (a2+1)) 0 1).2=x:=⟨_,rfl⟩;rw[cS]at fr;have hr:=Z cS;clear cS;refine wp_region_still_tail 8 (by kernel_rfl) (by kernel_rfl) ?_;simp only[List.take_succ_cons,List.take_zero,List.drop_succ_cons,List.drop_zero]
    repeat still_step
    still_call (bZ (c6.out _))
    repeat still_step
    try refine wpStill_nil ?_
    change wpList _ _ _ _ _ ch.drew;go_wp2_with (go_at_call 110;(with_reducible refine fr.out.mono ?_);rintro e ci ⟨⟨y,rfl,v⟩,o,a⟩;have i8:=Z o;have hm:Hid (Ch (dE m c d) w2.drew ci):=Z ((hj.out.drew).trans (a.mono (fun i M=>M.elim Or.inl (fun e=>Or.inr (Or.inl e)))));have fb:=Z (NM.ch (eY.out.drew) a (fun e=>by have u:=b.out;have F:=E.out;rcases e with e|e<;>omega));have z:ci.cell? ⟨mb,1007,none⟩=some (.pointer (some ⟨m,0,none⟩)):=fb.out.qc A.out;clear o a v)
    have fz:=Z (eo m c d gb (IntKind.u64.wrap (a2+2)) (17+3*(n:Int)+5*(k:Int)) (cj _) gt.out ci.drew i8.out.drew);obtain⟨gc,cW⟩:∃x,(gb.acc 1 (IntKind.u64.wrap (a2+2)) 0 (17+3*(n:Int)+5*(k:Int))).2=x:=⟨_,rfl⟩;rw[cW]at fz;have hu:=Z cW;clear cW;refine wp_region_still_tail 9 (by kernel_rfl) (by kernel_rfl) ?_;simp only[List.take_succ_cons,List.take_zero,List.drop_succ_cons,List.drop_zero]
    repeat still_step
    still_call (bZ (c6.out _))
    repeat still_step
    try refine wpStill_nil ?_
    change wpList _ _ _ _ _ ci.drew;go_wp2_with (go_at_call 110;(with_reducible refine fz.out.mono ?_);rintro e wc ⟨⟨y,rfl,v⟩,o,a⟩;have i9:=Z o;have hn:Hid (Ch (dE m c d) w2.drew wc):=Z ((hm.out.drew).trans (a.mono (fun i M=>M.elim Or.inl (fun e=>Or.inr (Or.inl e)))));have fd:=Z (NM.ch (fb.out.drew) a (fun e=>by have u:=b.out;have F:=E.out;rcases e with e|e<;>omega));have z:wc.cell? ⟨mb,1007,none⟩=some (.pointer (some ⟨m,0,none⟩)):=fd.out.qc A.out;clear o a v)
    have fE:=Z (eo m c d gc (17+3*(n:Int)+5*(k:Int)) 4 gt.out ⟨by decide,by decide⟩ wc i9.out);obtain⟨ge,dr⟩:∃x,(gc.acc 1 (17+3*(n:Int)+5*(k:Int)) 0 4).2=x:=⟨_,rfl⟩;rw[dr]at fE;have hv:=Z dr;clear dr;go_wp2_with (go_at_call 110;(with_reducible refine fE.out.mono ?_);rintro e wd ⟨⟨y,rfl,v⟩,o,a⟩;have ih:=Z o;have ho:Hid (Ch (dE m c d) w2.drew wd):=Z ((hn.out).trans (a.mono (fun i M=>M.elim Or.inl (fun e=>Or.inr (Or.inl e)))));have fn:=Z (NM.ch (fd.out) a (fun e=>by have u:=b.out;have F:=E.out;rcases e with e|e<;>omega));have z:wd.cell? ⟨mb,1007,none⟩=some (.pointer (some ⟨m,0,none⟩)):=fn.out.qc A.out;clear o a v)
    go_roundg (n-k)
    case measure=>omega
    case rel=>exact⟨k+1,by omega,by omega,by go_num,Z (by
     have e:mh bv n (k+1)=ge:=by
      show nY (mh bv n k) n k=ge
      rw[a1.out];unfold nY;dsimp only;rw[hB.out,hq.out,hr.out,hu.out,hv.out]
     rw[e];exact ih.out),fn,ho⟩
   ·have ii:¬(k:Int)<n:=by omega
    have io:k=n:=(by omega);subst io;obtain⟨S,X⟩:=nm (mh bv k k);have a1:=Z X;rw[X]at V;clear X;have z:wr.cell? ⟨mb,1007,none⟩=some (.pointer (some ⟨m,0,none⟩)):=P.out.qc A.out;have cd:=P.out.pc D.out.r5;have ce:=P.out.pc D.out.r6;have c5:=Z (fun w (h:NM w mb pre rows eL)=>tQ h D.out);have k4:IntKind.i64.wrap (17+8*(k:Int)+((f:Int)+(j:Int)))=17+8*(k:Int)+((f:Int)+(j:Int)):=IntWalk.i64_in _ (by omega);have am:=Z (qy m (17+8*k+(f+j)) tt (by have:=i2.out;omega) (by have:=i3.out;omega));rw[show((17+8*k+(f+j):Nat):Int)=17+8*(k:Int)+((f:Int)+j)by omega]at am;by_cases c9:0<f
    ·have ip:(0:Int)<(f:Int):=by omega
     by_cases c1:0<j
     ·have et:(0:Int)<(j:Int):=by omega
      have I:=fh m c d S (17+8*k) f (by omega) (by omega) wr.drew V.out.drew;rw[show((17+8*k:Nat):Int)=17+8*(k:Int)by omega]at I;obtain⟨c8,c0⟩:∃x,(S.map (17+8*k) f 64).2=x:=⟨_,rfl⟩;have ad:=Z c0;have ap:=Z I;clear c0 I;go_wp2_with fail
      refine wp_region_still_tail 10 (by kernel_rfl) (by kernel_rfl) ?_;simp only[List.take_succ_cons,List.take_zero,List.drop_succ_cons,List.drop_zero]
      repeat still_step
      try refine wpStill_nil ?_
      change wpList _ _ _ _ _ wr.drew;go_wp2_with (go_at_call 109;(with_reducible refine ap.out.mono ?_);rintro e O ⟨⟨y,rfl,v⟩,o,a⟩;rw[ad.out]at o;have cq:=Z o;have c3:Hid (Ch (dE m c d) w2.drew O):=Z ((a0.out.drew).trans a);have Q:=Z (NM.ch (P.out.drew) a (fun e=>by have u:=b.out;have F:=E.out;rcases e with e|e|e<;>omega));have z:O.cell? ⟨mb,1007,none⟩=some (.pointer (some ⟨m,0,none⟩)):=Q.out.qc A.out;have cd:=Q.out.pc D.out.r5;have ce:=Q.out.pc D.out.r6;clear o a v)
      have cl:=ka m c d c8 (17+8*k+f) j (by omega) (by omega) O.drew cq.out.drew;rw[show((17+8*k+f:Nat):Int)=17+8*(k:Int)+(f:Int)by omega]at cl;obtain⟨cs,bw⟩:∃x,(c8.map (17+8*k+f) j 32).2=x:=⟨_,rfl⟩;have ab:=Z bw;have i0:=Z cl;clear bw cl;go_wp2_with fail
      refine wp_region_still_tail 16 (by kernel_rfl) (by kernel_rfl) ?_;simp only[List.take_succ_cons,List.take_zero,List.drop_succ_cons,List.drop_zero]
      repeat still_step
      try refine wpStill_nil ?_
      change wpList _ _ _ _ _ O.drew;go_wp2_with (go_at_call 109;(with_reducible refine i0.out.mono ?_);rintro e wn ⟨⟨y,rfl,v⟩,o,a⟩;rw[ab.out]at o;have cm:=Z o;have a3:Hid (Ch (dE m c d) w2.drew wn):=Z ((c3.out.drew).trans a);have J:=Z (NM.ch (Q.out.drew) a (fun e=>by have u:=b.out;have F:=E.out;rcases e with e|e|e<;>omega));have z:wn.cell? ⟨mb,1007,none⟩=some (.pointer (some ⟨m,0,none⟩)):=J.out.qc A.out;have cd:=J.out.pc D.out.r5;have ce:=J.out.pc D.out.r6;clear o a v)
      have U:=Z (c5.out wn.drew J.out.drew);go_region_held3 (fun w'=>w'.cell? ⟨mb,1007,none⟩=some (.pointer (some ⟨m,0,none⟩))) (first|go_keep|exact(World.cell?_setCell_other _ _ _ _ (by simp)).trans W) (first|(go_at_call 112;refine U.out.mono ?_;rintro e l ⟨rfl,nq,N⟩;have B:Hid (Ch ag wn l):=Z (by rw[N];exact(Ch.refl _ _).drew.drewN nq);have ct:l.cell? ⟨mb,1007,none⟩=some (.pointer (some ⟨m,0,none⟩)):=B.out.k z;clear N)|(go_at_call 111;(with_reducible refine(am.out _).mono ?_);rintro e t ⟨rfl,K,L⟩;have HA:=Z K;have C:Hid (Ch ag wn t):=Z (B.out.trans L);have s:=Z (J.out.ch C.out (fun h=>h));have W:t.cell? ⟨mb,1007,none⟩=some (.pointer (some ⟨m,0,none⟩)):=s.out.qc A.out;have cA:=s.out.qc bi.out;have cC:=s.out.fz 1008;clear K L))
      all_goals
       go_wp2_with fail
       go_end0
       have q:∀x,w.heap.size<=x->¬aK mb x:=(fun x cb e=>by have u:x=mb:=e;have F:=E.out;omega);have G:w.heap.size<=l.heap.size:=Nat.le_trans T.out.size (Nat.le_trans (show w2.heap.size<=wn.heap.size from a3.out.size) B.out.size);have a:Ch (aK mb) t (t.setCell ⟨mb,1008,none⟩ (.pointer (some ⟨l.heap.size,0,none⟩))):=(Ch.refl _ _).only _ _;refine⟨rfl,m,c,d,l.heap.size,?_,?_,?_,b.out.1,b.out.2.1,b.out.2.2,G,?_⟩
       ·have:=s.out.jZ 1 (bf l.heap.size)
        rw[<-c7.out]at this;exact this
       ·have e:fQ tt k f j=cs:=by unfold fQ;dsimp only;rw[av.out,a1.out,if_pos c9,if_pos c1,ad.out,ab.out]
        rw[e];exact(cm.out.ch C.out (fun h=>h) (fun h=>h) (fun h=>h)).ch a (q m b.out.1) (q c b.out.2.1) (q d b.out.2.2)
       ·rw[show 17+8*k+f+j=17+8*k+(f+j)by omega]
        exact HA.out.ch a (q _ G) (fun g Y=>by cases Y)
       ·refine((T.out.drew.qB ((a3.out)) ?_).trans (C.out.af)).trans a
        intro i M e;have u:=b.out;rcases e with e|e|e<;>omega
     ·have et:decide ((0:Int)<(j:Int))=false:=decide_eq_false (by omega)
      have I:=fh m c d S (17+8*k) f (by omega) (by omega) wr.drew V.out.drew;rw[show((17+8*k:Nat):Int)=17+8*(k:Int)by omega]at I;obtain⟨c8,c0⟩:∃x,(S.map (17+8*k) f 64).2=x:=⟨_,rfl⟩;have ad:=Z c0;have ap:=Z I;clear c0 I;go_wp2_with fail
      refine wp_region_still_tail 10 (by kernel_rfl) (by kernel_rfl) ?_;simp only[List.take_succ_cons,List.take_zero,List.drop_succ_cons,List.drop_zero]
      repeat still_step
      try refine wpStill_nil ?_
      change wpList _ _ _ _ _ wr.drew;go_wp2_with (go_at_call 109;(with_reducible refine ap.out.mono ?_);rintro e O ⟨⟨y,rfl,v⟩,o,a⟩;rw[ad.out]at o;have cq:=Z o;have c3:Hid (Ch (dE m c d) w2.drew O):=Z ((a0.out.drew).trans a);have Q:=Z (NM.ch (P.out.drew) a (fun e=>by have u:=b.out;have F:=E.out;rcases e with e|e|e<;>omega));have z:O.cell? ⟨mb,1007,none⟩=some (.pointer (some ⟨m,0,none⟩)):=Q.out.qc A.out;have cd:=Q.out.pc D.out.r5;have ce:=Q.out.pc D.out.r6;clear o a v)
      go_wp2_with fail
      try(any_goals (exfalso;omega))
      have U:=Z (c5.out O.drew Q.out.drew);go_region_held3 (fun w'=>w'.cell? ⟨mb,1007,none⟩=some (.pointer (some ⟨m,0,none⟩))) (first|go_keep|exact(World.cell?_setCell_other _ _ _ _ (by simp)).trans W) (first|(go_at_call 112;refine U.out.mono ?_;rintro e l ⟨rfl,nq,N⟩;have B:Hid (Ch ag O l):=Z (by rw[N];exact(Ch.refl _ _).drew.drewN nq);have ct:l.cell? ⟨mb,1007,none⟩=some (.pointer (some ⟨m,0,none⟩)):=B.out.k z;clear N)|(go_at_call 111;(with_reducible refine(am.out _).mono ?_);rintro e t ⟨rfl,K,L⟩;have HA:=Z K;have C:Hid (Ch ag O t):=Z (B.out.trans L);have s:=Z (Q.out.ch C.out (fun h=>h));have W:t.cell? ⟨mb,1007,none⟩=some (.pointer (some ⟨m,0,none⟩)):=s.out.qc A.out;have cA:=s.out.qc bi.out;have cC:=s.out.fz 1008;clear K L))
      all_goals
       go_wp2_with fail
       go_end0
       have q:∀x,w.heap.size<=x->¬aK mb x:=(fun x cb e=>by have u:x=mb:=e;have F:=E.out;omega);have G:w.heap.size<=l.heap.size:=Nat.le_trans T.out.size (Nat.le_trans (show w2.heap.size<=O.heap.size from c3.out.size) B.out.size);have a:Ch (aK mb) t (t.setCell ⟨mb,1008,none⟩ (.pointer (some ⟨l.heap.size,0,none⟩))):=(Ch.refl _ _).only _ _;refine⟨rfl,m,c,d,l.heap.size,?_,?_,?_,b.out.1,b.out.2.1,b.out.2.2,G,?_⟩
       ·have:=s.out.jZ 1 (bf l.heap.size)
        rw[<-c7.out]at this;exact this
       ·have e:fQ tt k f j=c8:=by unfold fQ;dsimp only;rw[av.out,a1.out,if_pos c9,if_neg c1,ad.out]
        rw[e];exact(cq.out.ch C.out (fun h=>h) (fun h=>h) (fun h=>h)).ch a (q m b.out.1) (q c b.out.2.1) (q d b.out.2.2)
       ·rw[show 17+8*k+f+j=17+8*k+(f+j)by omega]
        exact HA.out.ch a (q _ G) (fun g Y=>by cases Y)
       ·refine((T.out.drew.qB ((c3.out)) ?_).trans (C.out.af)).trans a
        intro i M e;have u:=b.out;rcases e with e|e|e<;>omega
    ·have ip:¬0<(f:Int):=by omega
     by_cases c1:0<j
     ·have et:(0:Int)<(j:Int):=by omega
      have I:=ka m c d S (17+8*k+f) j (by omega) (by omega) wr.drew V.out.drew;rw[show((17+8*k+f:Nat):Int)=17+8*(k:Int)+(f:Int)by omega]at I;obtain⟨cs,bw⟩:∃x,(S.map (17+8*k+f) j 32).2=x:=⟨_,rfl⟩;have ab:=Z bw;have ap:=Z I;clear bw I;go_wp2_with fail
      refine wp_region_still_tail 16 (by kernel_rfl) (by kernel_rfl) ?_;simp only[List.take_succ_cons,List.take_zero,List.drop_succ_cons,List.drop_zero]
      repeat still_step
      try refine wpStill_nil ?_
      change wpList _ _ _ _ _ wr.drew;go_wp2_with (go_at_call 109;(with_reducible refine ap.out.mono ?_);rintro e wn ⟨⟨y,rfl,v⟩,o,a⟩;rw[ab.out]at o;have cm:=Z o;have a3:Hid (Ch (dE m c d) w2.drew wn):=Z ((a0.out.drew).trans a);have J:=Z (NM.ch (P.out.drew) a (fun e=>by have u:=b.out;have F:=E.out;rcases e with e|e|e<;>omega));have z:wn.cell? ⟨mb,1007,none⟩=some (.pointer (some ⟨m,0,none⟩)):=J.out.qc A.out;have cd:=J.out.pc D.out.r5;have ce:=J.out.pc D.out.r6;clear o a v)
      have U:=Z (c5.out wn.drew J.out.drew);go_region_held3 (fun w'=>w'.cell? ⟨mb,1007,none⟩=some (.pointer (some ⟨m,0,none⟩))) (first|go_keep|exact(World.cell?_setCell_other _ _ _ _ (by simp)).trans W) (first|(go_at_call 112;refine U.out.mono ?_;rintro e l ⟨rfl,nq,N⟩;have B:Hid (Ch ag wn l):=Z (by rw[N];exact(Ch.refl _ _).drew.drewN nq);have ct:l.cell? ⟨mb,1007,none⟩=some (.pointer (some ⟨m,0,none⟩)):=B.out.k z;clear N)|(go_at_call 111;(with_reducible refine(am.out _).mono ?_);rintro e t ⟨rfl,K,L⟩;have HA:=Z K;have C:Hid (Ch ag wn t):=Z (B.out.trans L);have s:=Z (J.out.ch C.out (fun h=>h));have W:t.cell? ⟨mb,1007,none⟩=some (.pointer (some ⟨m,0,none⟩)):=s.out.qc A.out;have cA:=s.out.qc bi.out;have cC:=s.out.fz 1008;clear K L))
      all_goals
       go_wp2_with fail
       go_end0
       have q:∀x,w.heap.size<=x->¬aK mb x:=(fun x cb e=>by have u:x=mb:=e;have F:=E.out;omega);have G:w.heap.size<=l.heap.size:=Nat.le_trans T.out.size (Nat.le_trans (show w2.heap.size<=wn.heap.size from a3.out.size) B.out.size);have a:Ch (aK mb) t (t.setCell ⟨mb,1008,none⟩ (.pointer (some ⟨l.heap.size,0,none⟩))):=(Ch.refl _ _).only _ _;refine⟨rfl,m,c,d,l.heap.size,?_,?_,?_,b.out.1,b.out.2.1,b.out.2.2,G,?_⟩
       ·have:=s.out.jZ 1 (bf l.heap.size)
        rw[<-c7.out]at this;exact this
       ·have e:fQ tt k f j=cs:=by unfold fQ;dsimp only;rw[av.out,a1.out,if_neg c9,if_pos c1,ab.out]
        rw[e];exact(cm.out.ch C.out (fun h=>h) (fun h=>h) (fun h=>h)).ch a (q m b.out.1) (q c b.out.2.1) (q d b.out.2.2)
       ·rw[show 17+8*k+f+j=17+8*k+(f+j)by omega]
        exact HA.out.ch a (q _ G) (fun g Y=>by cases Y)
       ·refine((T.out.drew.qB ((a3.out)) ?_).trans (C.out.af)).trans a
        intro i M e;have u:=b.out;rcases e with e|e|e<;>omega
     ·have et:decide ((0:Int)<(j:Int))=false:=decide_eq_false (by omega)
      go_wp2_with fail
      try(any_goals (exfalso;omega))
      have U:=Z (c5.out wr.drew P.out.drew);go_region_held3 (fun w'=>w'.cell? ⟨mb,1007,none⟩=some (.pointer (some ⟨m,0,none⟩))) (first|go_keep|exact(World.cell?_setCell_other _ _ _ _ (by simp)).trans W) (first|(go_at_call 112;refine U.out.mono ?_;rintro e l ⟨rfl,nq,N⟩;have B:Hid (Ch ag wr l):=Z (by rw[N];exact(Ch.refl _ _).drew.drewN nq);have ct:l.cell? ⟨mb,1007,none⟩=some (.pointer (some ⟨m,0,none⟩)):=B.out.k z;clear N)|(go_at_call 111;(with_reducible refine(am.out _).mono ?_);rintro e t ⟨rfl,K,L⟩;have HA:=Z K;have C:Hid (Ch ag wr t):=Z (B.out.trans L);have s:=Z (P.out.ch C.out (fun h=>h));have W:t.cell? ⟨mb,1007,none⟩=some (.pointer (some ⟨m,0,none⟩)):=s.out.qc A.out;have cA:=s.out.qc bi.out;have cC:=s.out.fz 1008;clear K L))
      all_goals
       go_wp2_with fail
       go_end0
       have q:∀x,w.heap.size<=x->¬aK mb x:=(fun x cb e=>by have u:x=mb:=e;have F:=E.out;omega);have G:w.heap.size<=l.heap.size:=Nat.le_trans T.out.size (Nat.le_trans (show w2.heap.size<=wr.heap.size from a0.out.size) B.out.size);have a:Ch (aK mb) t (t.setCell ⟨mb,1008,none⟩ (.pointer (some ⟨l.heap.size,0,none⟩))):=(Ch.refl _ _).only _ _;refine⟨rfl,m,c,d,l.heap.size,?_,?_,?_,b.out.1,b.out.2.1,b.out.2.2,G,?_⟩
       ·have:=s.out.jZ 1 (bf l.heap.size)
        rw[<-c7.out]at this;exact this
       ·have e:fQ tt k f j=S:=by unfold fQ;dsimp only;rw[av.out,a1.out,if_neg c9,if_neg c1]
        rw[e];exact(V.out.ch C.out (fun h=>h) (fun h=>h) (fun h=>h)).ch a (q m b.out.1) (q c b.out.2.1) (q d b.out.2.2)
       ·rw[show 17+8*k+f+j=17+8*k+(f+j)by omega]
        exact HA.out.ch a (q _ G) (fun g Y=>by cases Y)
       ·refine((T.out.drew.qB ((a0.out)) ?_).trans (C.out.af)).trans a
        intro i M e;have u:=b.out;rcases e with e|e|e<;>omega
def ak.new(loop:Int):ak:=⟨0,0,false,0,⟨loop,B4,[]⟩⟩
def j2(C:KC)(n tt:Nat):KS where
 mem:=fQ tt n C.wide.toNat C.narrow.toNat
 blocks:=⟨17+8*n+C.wide.toNat+C.narrow.toNat,tt,[]⟩
 clock:=aN.new
 ring:=[]
 q:=List.replicate 8 []
 table:=List.replicate 64 aD.zero
 cV:=List.replicate 64 bC.zero
 ai:=[]
 wk:=List.replicate n (ak.new C.loop)
 entries:=0
 at_:=0
 w:=0
 draw:=0
 out:=[]
def hC(C:KC)(n tt:Nat):KS:=
 let x:=bF (j2 C n tt) C.entry 0
 {x.2 with ring:=(g6 x.2.ring x.1).2}
def Bt(a:Nat)(i:Nat)(t:TypeId):a4:=
 if t=113 then .gx else if t=310 then .mem else if t=39 then(if i=a then .ring else .mem)else if t=5 then .mem else if t=314 then .al
 else if t=226 then .bW else if t=307 then .bW else if t=229 then .ring else if t=214 then .q else if t=217 then .q
 else if t=208 then .tab else if t=210 then .tab else if t=235 then .obj else if t=237 then .obj else if t=120 then .wk
 else if t=184 then .code else if t=158 then .code else .no
def hD(W:World)(B b c a:Nat)(i:Nat):a4:=
 if i<B then .no else match W.heap[i]? with
 |some (.cells _ t _)=>Bt b i t
 |some (.map _ _)=>if i=c then .tm else if i=a then .q else .bW
 |_=> .no
theorem bz{W:World}{B a e d b:Nat}{t:TypeId}{l:List Value}(h:Row W b t l)(hb:B<=b){k:a4}(c:Bt a b t=k):hD W B a e d b=k:=by
 unfold hD;rw[if_neg (by omega),show W.heap[b]?=some (.cells l.toArray t (0,0))from h];exact c
theorem ir{α:Type}{W:World}{B g d a b:Nat}{q:IntKind}{enc:α->Value}{l:List (Int×α)}(h:bH W b q enc l)(hb:B<=b){k:a4}(f:(if b=d then a4.tm else if b=a then a4.q else a4.bW)=k):hD W B g d a b=k:=by
 obtain⟨i,c,e,_⟩:=h;unfold hD;rw[if_neg (by omega),e];exact f
theorem pn{W:World}{B c d b i:Nat}(h:hD W B c d b i≠ .no):B<=i/\i<W.heap.size:=by
 unfold hD at h;split at h
 ·exact absurd rfl h
 ·refine⟨by omega,?_⟩
  rcases Nat.lt_or_ge i W.heap.size with a|a
  ·exact a
  ·rw[Array.getElem?_eq_none a]at h;exact absurd rfl h
theorem Bu{p:Prop} [Decidable p]{a b:a4}(c:a≠ .out)(d:b≠ .out):(if p then a else b)≠ .out:=by
 split
 ·exact c
 ·exact d
theorem zx(a i:Nat)(t:TypeId):Bt a i t≠ .out:=by
 unfold Bt
 repeat' (refine Bu ?_ ?_)
 all_goals(intro h;cases h)
theorem tR{W:World}{B b c a:Nat}(i:Nat):hD W B b c a i≠ .out:=by
 unfold hD;split
 ·intro h;cases h
 ·split
  ·exact zx _ _ _
  ·split
   ·intro h;cases h
   ·split
    ·intro h;cases h
    ·intro h;cases h
  ·intro h;cases h
theorem tS(n:Nat)(x:ak)(v:Value):(dd (List.replicate n x) (fun _=>v)).flatMap (fun y=>y.1.cells y.2)=(List.replicate n x).flatMap fun y=>y.cells v:=by
 unfold dd;rw[List.flatMap_map];have:∀(l:List ak) (k:Nat),(l.zipIdx k).flatMap (fun a=>a.1.cells v)=l.flatMap fun y=>y.cells v:=by
  intro l
  induction l with
  |nil=>intro k;rfl
  |cons a l ih=>intro k;rw[List.zipIdx_cons,List.flatMap_cons,List.flatMap_cons,ih]
 exact this _ 0
def lH(mb m c d a j k l n s t qb q r tb u o p v w b g e h f i:Nat):cw:=
 ⟨mb,m,c,d,a,j,k,l,n,s,t,qb,q,r,tb,u,o,p,v,w,some ⟨b,0,none⟩,g,some ⟨e,0,none⟩,h,some ⟨f,0,none⟩,i⟩
def newVar:Var:=⟨.slice none 0 0,.slice none 0 0,.slice none 0 0,List.replicate 8 [],fun _=>0,fun _=> .slice none 0 0,fun _ _=>0,fun _ _=> .slice none 0 0,fun _=> .slice none 0 0⟩
theorem vc{W:World}{g:Nat}{l:List aV}{t:TypeId}{a:List Value}(h:Row W g t (b' l++a)):eE W g l:=⟨h.lt,fun j u hj=>h.cell (by rw[List.getElem?_append_left (List.getElem?_eq_some_iff.1 hj).1];exact hj)⟩
theorem tT{W:World}{B mb m c d y A D j l I a qb H b tb J F G e w r M u N v O:Nat}{C:KC}{n tt:Nat}{c0 am c1:List Value}(bv:n<=64)
 (S:NM W mb (ku C (lH mb m c d y A D j l I a qb H b tb J F G e w r M u N v O)) C.rows (g0 (lH mb m c d y A D j l I a qb H b tb J F G e w r M u N v O) (.slice none 0 0) n 0 0 0 0))
 (P:aO W m c d (j2 C n tt).mem) (a0:aR W y m (.slice none 0 0) (j2 C n tt).blocks) (E:aX W A D j l (.slice none 0 0) aN.new) (a2:eH W I a []) (Q:ig W qb H b (List.replicate 8 []))
 (V:aU W tb J (List.replicate 64 aD.zero)) (U:bL W F G (List.replicate 64 bC.zero)) (a3:bH (α:=Nat) W e .u64 bf []) (ab:Row W w 120 ((List.replicate n (ak.new C.loop)).flatMap fun x=>x.cells (.slice none 0 0)))
 (X:Row W r 184 (b' C.dx++c0)) (Y:Row W u 158 (C.calls.flatMap br.cells++am)) (Z:Row W v 184 (b' C.bn++c1)) (k1:C.dx.length<=M) (k2:C.calls.length<=N) (k3:C.bn.length<=O)
 (c2:c≠a) (c3:j≠e) (c4:l≠e) (c5:j≠b) (c6:l≠b) (c7:b≠e)
 (ap:B<=mb) (K:B<=m/\B<=c/\B<=d/\B<=y) (L:B<=A/\B<=D/\B<=j/\B<=l) (z:B<=I/\B<=a/\B<=qb/\B<=H/\B<=b) (p:B<=tb/\B<=J/\B<=F/\B<=G/\B<=e/\B<=w) (R:B<=r/\B<=u/\B<=v):
 ae W (hD W B a e b) (lH mb m c d y A D j l I a qb H b tb J F G e w r M u N v O) newVar C (j2 C n tt) where
 head:=fun _=>⟨by
  have:=S.row;show Row W mb _ (cF _ (.slice none 0 0) C (List.replicate n (ak.new C.loop)).length 0 0 0 0)
  rw[List.length_replicate];exact this,S.n2,bz S.row ap rfl⟩
 mem:=fun _=>⟨P,bz P.head K.1 rfl,bz P.cells K.2.1 (by show(if c=a then a4.ring else a4.mem)=_;rw[if_neg c2]),bz P.width K.2.2.1 rfl⟩
 al:=fun _=>⟨a0,bz a0.head K.2.2.2 rfl,fun g o=>by cases o⟩
 bW:=fun _=>⟨E,bz E.head L.1 rfl,bz E.heap.head L.2.1 rfl,ir E.heap.map L.2.2.1 (by rw[if_neg c3,if_neg c5]),ir E.ff L.2.2.2 (by rw[if_neg c4,if_neg c6]),fun g o=>by cases o⟩
 ring:=fun _=>by
  obtain⟨cs,fr,a1,_⟩:=id a2;exact⟨a2,bz a1.head z.1 rfl,bz a1.rows z.2.1 (by show(if a=a then a4.ring else a4.mem)=_;rw[if_pos rfl])⟩
 q:=fun _=>⟨Q,rfl,fun i T=>by
  rcases T with rfl|rfl|rfl|⟨s,bw,_⟩
  ·exact bz Q.head z.2.2.1 rfl
  ·exact bz Q.ends z.2.2.2.1 rfl
  ·obtain⟨m',bi,_⟩:=Q.map
   exact ir bi z.2.2.2.2 (by rw[if_neg c7,if_pos rfl])
  ·have:s∈(List.replicate 8 ([]:List Sl)).flatten:=bw
   simp at this⟩
 tab:=fun _=>⟨V,bz V.head p.1 rfl,bz V.rows p.2.1 rfl⟩
 obj:=fun _=>⟨U,bz U.head p.2.2.1 rfl,bz U.rows p.2.2.2.1 rfl⟩
 tm:=fun _=>⟨a3,ir a3 p.2.2.2.2.1 (by rw[if_pos rfl]),List.nodup_nil⟩
 th:=fun id t h=>by cases h
 tl:=fun id t h=>by cases h
 fr:=fun id t k f h=>by cases h
 wk:=fun _=>⟨by
  show Row W w _ ((dd (List.replicate n (ak.new C.loop)) fun _=> .slice none 0 0).flatMap fun x=>x.1.cells x.2)
  rw[tS];exact ab,bz ab p.2.2.2.2.2 rfl,fun i x ad=>by
  have av:x∈List.replicate n (ak.new C.loop):=List.mem_of_getElem? ad;rw[(List.mem_replicate.1 av).2];exact cp.nil _,fun i x ad g o=>(by cases o),by show(List.replicate n (ak.new C.loop)).length<=64;rw[List.length_replicate];exact bv⟩
 out:=fun _=>⟨⟨rfl,Or.inl ⟨rfl,rfl⟩⟩,fun g o=>by cases o⟩
 code:=fun _=>{
  mx:=k1
  iU:=k2
  my:=k3
  ca:=fun _=>⟨r,rfl,vc X,bz X R.1 rfl⟩
  prog:=fun _=>⟨v,rfl,vc Z,bz Z R.2.2 rfl⟩
  calls:=fun _=>⟨u,am,rfl,Y,bz Y R.2.1 rfl⟩}
 small:=fun i T=>(pn T).2
theorem BE(id:Int):ew (List.replicate 64 aD.zero) id=none:=by
 unfold ew;rw[List.getElem?_replicate];split
 ·rfl
 ·rename_i r h
  split at h
  ·cases h;rfl
  ·cases h
theorem sw(n:Nat)(loop:Int)(id:Int)(h:id≠0):hz (List.replicate n (ak.new loop)) id=0:=by
 unfold hz;rw[List.countP_eq_zero];intro x a;rw[(List.mem_replicate.1 a).2];show¬((0:Int)==id)=true
 rw[beq_iff_eq];exact fun e=>h e.symm
theorem zJ(n:Nat)(loop:Int)(id:Int)(h:id≠0):nH (List.replicate n (ak.new loop)) id=0:=by
 unfold nH;rw[List.countP_eq_zero];intro x a;rw[(List.mem_replicate.1 a).2];show¬((0:Int)==id)=true
 rw[beq_iff_eq];exact fun e=>h e.symm
theorem vo(n:Nat)(loop:Int)(id:Int)(h:id≠0):ea (List.replicate n (ak.new loop)) [] id=0:=by
 unfold ea;rw[sw n loop id h,zJ n loop id h];rfl
theorem vp(C:KC)(n tt:Nat)(g:1<=n)(f:n<=64)(c:tt<=65536)(b:17+8*n+C.wide.toNat+C.narrow.toNat<=tt):Inv 0 0 (j2 C n tt) where
 core:={
  tab:=⟨List.length_replicate,fun p r a=>by
   have k:r∈List.replicate 64 aD.zero:=List.mem_of_getElem? a;rw[(List.mem_replicate.1 k).2];exact⟨by decide,by decide,fun e=>(by cases e),⟨by decide,by decide⟩,⟨by decide,by decide⟩⟩⟩
  al:=fun id r b=>by
   have:=BE id;rw[show ew (j2 C n tt).table id=none from this]at b;cases b
  ai:=fun id t h=>by cases h
  one:=fun id h=>by show ea (List.replicate n (ak.new C.loop)) [] id<=1;rw[vo n _ id h];omega
  rV:=fun id h a=>by
   have:ea (List.replicate n (ak.new C.loop)) [] id=0:=vo n _ id h;have i:0<ea (List.replicate n (ak.new C.loop)) [] id:=a;omega
  slt:=fun id h a=>by
   have:hz (List.replicate n (ak.new C.loop)) id=0:=sw n _ id h;have i:0<hz (List.replicate n (ak.new C.loop)) id:=a;omega
  wk:=fun x d=>by
   rw[(List.mem_replicate.1 (show x∈List.replicate n (ak.new C.loop)from d)).2];exact⟨⟨fun j _=>bx,by show([]:List Int).length<=8;decide⟩,Int.le_refl 0,show(0:Int)<=24 by decide⟩}
 nd:=List.nodup_nil
 q:=⟨fun s l=>by
  have:s∈(List.replicate 8 ([]:List hx)).flatten:=l;simp at this,Nat.le_refl _⟩
 bW:=⟨ah.Cq,Nat.le_refl _,fun t c=>(by cases c),bx⟩
 bB:=⟨by show 17+8*n+C.wide.toNat+C.narrow.toNat<=70000;omega,by show tt<=70000;omega,fun x d=>(by cases d),Nat.le_refl _⟩
 mem:=xf tt n _ _ c f
 obj:=fun r b=>by
  rw[(List.mem_replicate.1 (show r∈List.replicate 64 bC.zero from b)).2];exact bx
 draw:=bx
 w0:=by show 1<=(List.replicate n (ak.new C.loop)).length;rw[List.length_replicate];exact g
 w1:=by show(List.replicate n (ak.new C.loop)).length<=64;rw[List.length_replicate];exact f
 out:=Nat.le_refl _
def z2(w:World)(e:Ending)(w':World):Prop:=(∃v,e=.returned (.tuple #[.pointer none,v])/\aq v)/\Ch ag w w'
end Go.Proofs.YtlihkblppjgebaaGreatDoor
