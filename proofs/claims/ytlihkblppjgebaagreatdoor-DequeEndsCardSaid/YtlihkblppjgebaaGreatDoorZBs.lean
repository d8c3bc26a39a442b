import Derived.Test.YtlihkblppjgebaaGreatDoorZAv
import Derived.Test.YtlihkblppjgebaaGreatDoorZBo
set_option linter.all false
set_option maxRecDepth 100000
set_option maxHeartbeats 8000000
namespace Go.Proofs.YtlihkblppjgebaaGreatDoor
open Go.RowKit Go.Proofs.Tryz
section
theorem Ju(n:Nat):∀k q,k<=n->17+8*n<=q->HS n k q=0
 |0,_,_,_=>rfl
 |k+1,q,c,b=>by
  unfold HS cf;rw[if_neg (by omega),if_neg (by omega),if_neg (by omega),if_neg (by omega)];exact Ju n k q (by omega) b
section
variable{C:KC}{n tt lp wd base:Nat}{s:DS}{a:AS}
theorem IE(n j:Nat)(h:j<n):(List.replicate n (0:Int))[j]?=some 0:=by
 rw[List.getElem?_replicate,if_pos h]
theorem Nv(h:cR base s a){j v:Nat}(hj:j<a.hl)(b:v<qO):cR base {s with mem:=(s.mem.acc 1 (j:Int) 0 (v:Int)).2} {a with c:=cf a.c j v}:=by
 rw[h.acc hj];exact h.set j b
theorem Lm(h:cR base s a){n k:Nat}(q:n<=64)(p:k<n)(o:a.hl=17+8*n)(g:a.c=HS n k):cR base {s with mem:=nY s.mem n k} {a with c:=HS n (k+1)}:=by
 have b:gY (k:Int)=((17+3*k:Nat):Int):=L6 k (by omega);have d:IntKind.u64.wrap (gY (k:Int)+1)=((17+3*k+1:Nat):Int):=by rw[b,IntWalk.u64_in _ (by omega)];omega
 have e:IntKind.u64.wrap (gY (k:Int)+2)=((17+3*k+2:Nat):Int):=by rw[b,IntWalk.u64_in _ (by omega)];omega
 have f:(17+3*(n:Int)+5*(k:Int))=((17+3*n+5*k:Nat):Int):=by omega
 have m:qO=18446744073709551616:=rfl;have s1:=Nv h (j:=17+3*k) (v:=1) (by omega) (by omega);have s2:=Nv s1 (j:=17+3*k+1) (v:=1) (by show _<a.hl;omega) (by omega);have i:=Nv s2 (j:=17+3*k+2) (v:=17+3*n+5*k) (by show _<a.hl;omega) (by omega);have l:=Nv i (j:=17+3*n+5*k) (v:=4) (by show _<a.hl;omega) (by omega);unfold nY;dsimp only;rw[d,e,b,f];unfold HS;rw[<-g];exact l
theorem JS(h:cR base s a){n:Nat}(e:n<=64)(b:a.hl=17+8*n)(d:a.c=HS n 0):∀k,k<=n->cR base {s with mem:=mh s.mem n k} {a with c:=HS n k}
 |0,_=>by rw[<-d];exact h
 |k+1,f=>Lm (JS h e b d k (by omega)) e (by omega) b rfl
theorem Nw{k:Nat}(l:1<=k)(b:k<=tt)(hb:tt<=65536){tab:List aD}{wk:List ak}{aw:List AW}(d:HF 0 tab)(f:wk.length=aw.length)(h:∀(i:Nat) (x:AW),aw[i]?=some x->∃w,wk[i]?=some w/\WR w x):
 cR k ⟨((aF.new tt).map 0 k 64).2,⟨k,tt,[]⟩,[],tab,wk⟩ ⟨fun _=>0,k,tt,[],0,aw⟩:=by
 have m:(aF.new tt).iO 0 k false=true:=An (by show 0+k<=(List.replicate tt (0:Int)).length;rw[List.length_replicate];omega) (fun i o=>by
  show((List.replicate tt (0:Int)).getD (0+i) 0 !=0)=false
  rw[List.getD_eq_getElem?_getD,IE _ _ (by omega)];rfl)
 have e:((aF.new tt).map 0 k 64).2=(aF.new tt).laid 0 k 64:=by
  unfold aF.map;rw[if_pos ⟨by omega,m⟩]
 rw[e];exact {
  cl:=by show(au _ _ _ _).length=_;rw[dj];exact List.length_replicate
  wl:=by show(au _ _ _ _).length=_;rw[dj];exact List.length_replicate
  Gx:=hb
  nl:=b
  n0:=l
  c:=fun j hj=>by
   have hj:j<tt:=Nat.lt_of_lt_of_le hj b;show(au (List.replicate tt (0:Int)) 0 0 k)[j]?=some 0
   rw[Iv,IE _ _ hj]
   split<;>rfl
  u:=fun _=>by show(0:Nat)<qO;decide
  w:=fun j hj=>by
   have hj:j<tt:=hj;show(au (List.replicate tt (0:Int)) 0 64 k)[j]?=some (if j<k then 64 else 0)
   rw[Iv,IE _ _ hj,List.length_replicate];by_cases g:j<k
   ·rw[if_pos (by omega),if_pos g]
   ·rw[if_neg (by omega),if_neg g]
  bf:=rfl
  bt:=rfl
  bl:=rfl
  ring:=rfl
  tab:=d
  wn:=f
  wk:=h}
theorem Ny(h:cR base s a){k:Nat}(f:1<=k)(d:k<=4096)(c:a.hl+k<=a.Gx)(l:∀q,a.hl<=q->a.c q=0):
 cR (a.hl+k) {s with mem:=(s.mem.map a.hl k 64).2,bB:=⟨a.hl+k,a.Gx,[]⟩} {a with hl:=a.hl+k}:=by
 have j:s.mem.iO a.hl k false=true:=An (by rw[h.cl];exact c) (fun i m=>by
  rw[List.getD_eq_getElem?_getD,h.w _ (by omega),if_neg (by omega)];rfl)
 have e:(s.mem.map a.hl k 64).2=s.mem.laid a.hl k 64:=by
  unfold aF.map;rw[if_pos ⟨by omega,j⟩]
 rw[e];have b:=(Jt h f d c).2;have ec:(fun q=>if a.hl<=q/\q<a.hl+k then 0 else a.c q)=a.c:=by
  funext q
  split
  ·rename_i g;exact(l q g.1).symm
  ·rfl
 rw[ec]at b;exact {b with bf:=rfl,bt:=rfl,bl:=rfl}
theorem Nz(o:n<=64)(w:tt<=65536)(hw:C.wide.toNat=wd)(t:wd<=4096)(f:C.narrow.toNat=0)(d:17+8*n+wd<=tt)(u:C.loop=(lp:Int)):cR (17+8*n+wd) (j2 C n tt).ds (Kr n tt lp wd):=by
 have y:HF 0 (List.replicate 64 aD.zero):=⟨List.length_replicate,by omega,fun p r d=>by
  have e:aD.zero=r:=by
   have b:=d;rw[List.getElem?_replicate]at b;split at b
   ·exact Option.some.inj b
   ·cases b
  rw[<-e];exact⟨fun q=>absurd q (by omega),fun _=>⟨rfl,rfl⟩⟩⟩
 have z:=Nw (tt:=tt) (k:=17+8*n) (by omega) (by omega) w (tab:=List.replicate 64 aD.zero) (wk:=List.replicate n (ak.new C.loop)) (aw:=List.replicate n ⟨lp,fun _=>0,[],0⟩) y (by rw[List.length_replicate,List.length_replicate]) (fun i x c=>by
  rw[List.getElem?_replicate]at c;split at c
  ·rename_i g
   rw[<-Option.some.inj c];exact⟨_,by rw[List.getElem?_replicate,if_pos g],rfl,rfl,u,rfl,rfl,fun _=>by show(0:Nat)<qO;decide⟩
  ·cases c)
 have h:=JS z o rfl rfl n (Nat.le_refl n);have m:(j2 C n tt).mem=fQ tt n wd 0:=by show fQ tt n C.wide.toNat C.narrow.toNat=_;rw[hw,f]
 have j:(j2 C n tt).blocks=⟨17+8*n+wd,tt,[]⟩:=by show(⟨17+8*n+C.wide.toNat+C.narrow.toNat,tt,[]⟩:aZ)=_;rw[hw,f];rfl
 have l:(j2 C n tt).ds=⟨fQ tt n wd 0,⟨17+8*n+wd,tt,[]⟩,[],List.replicate 64 aD.zero,List.replicate n (ak.new C.loop)⟩:=by unfold KS.ds;rw[m,j];rfl
 rw[l];unfold fQ Kr;dsimp only;rw[if_neg (Nat.lt_irrefl 0)];by_cases g:0<wd
 ·rw[if_pos g]
  exact Ny h g t d (fun q v=>Ju n n q (Nat.le_refl n) v)
 ·obtain rfl:wd=0:=by omega
  rw[if_neg g];exact h
theorem NB(m:1<=n)(d:n<=64)(k:tt<=65536)(hw:C.wide.toNat=wd)(e:wd<=4096)(h:C.narrow.toNat=0)(i:17+8*n+wd+1<=tt)(f:C.loop=(lp:Int)):cR (17+8*n+wd) (hC C n tt).ds {Kr n tt lp wd with hl:=17+8*n+wd+1,nb:=1,ring:=[64]}:=by
 obtain⟨K2,c,l,b⟩:=JR (Nz d k hw e h (by omega) f) i (show 0<64 by decide) C.entry 0;unfold hC;dsimp only;rw[c];dsimp only;have ec:cf (Kr n tt lp wd).c (Kr n tt lp wd).hl 0=(Kr n tt lp wd).c:=by
  funext q
  unfold cf;split
  ·rename_i g
   rw[g];exact(Ju n n _ (Nat.le_refl n) (by show 17+8*n<=17+8*n+wd;omega)).symm
  ·rfl
 rw[ec]at b;have j:K2.ring=[]:=b.ring;exact {b with ring:=by show(g6 K2.ring ((64+0:Nat):Int)).2=_;rw[j];rfl}
end
end
def O3(x:aV):Bool:=decide (0<=x.a)&&decide (x.b=-1/\(x.op=17∨x.op=18∨x.op=20∨x.op=31∨x.op=32)∨0<=x.b/\x.b<32)&&decide (x.c=-1∨0<=x.c/\x.c<32)&&decide (0<=x.v/\x.v<1000000)
def Mc(x:aV)(a:AS)(w:AW)(b:Nat):Prop:=
 (x.op=1∨x.op=2∨x.op=3∨x.op=4∨x.op=5∨x.op=9/\dH x w.r<64∨x.op=10∨x.op=11)∨
 (x.op=12∨x.op=13∨x.op=14∨x.op=15/\w.back.length<8∨x.op=16/\w.back≠[])∨
 ((x.op=17∨x.op=18∨x.op=20∨x.op=31∨x.op=32)/\GK x w.r<a.hl)∨
 (x.op=29∨x.op=38∨x.op=39∨x.op=42)∨x.op=30∨(x.op=33/\(w.hand≠0->a.ring.length<64))∨x.op=43∨
 (x.op=48/\w.hand=0/\cX x w.r<b)
theorem NC{base:Nat}{C:KC}{K:KS}{a:AS}{i d:Nat}{w:AW}{x:aV}(h:cR base K.ds a)(e:a.wk[i]?=some w)(b:C.dx[w.pc]?=some x)(c:bt x C.dx.length=true)(g:C.dx.length<1000000)(m:O3 x=true)(t:Mc x a w C.bn.length)(p:d<qO)(s:a.wk.length<=64)(r:w.hand<qO):
 JN base C K i d (ck x a i d w):=by
 have k:w.pc<1000000:=Nat.lt_trans (List.getElem?_eq_some_iff.1 b).1 g;simp only[O3,Bool.and_eq_true,decide_eq_true_eq]at m;obtain⟨⟨⟨n,y⟩,o⟩,j,u⟩:=m;have l:x.b=-1∨0<=x.b/\x.b<32:=by omega
 rcases t with q|q|⟨q,f⟩|q|q|⟨q,f⟩|q|⟨q,f,v⟩
 ·exact Lk h e b c k ⟨n,by omega,by omega,o,j,by omega⟩ q
 ·exact L3 h e b c k ⟨n,by omega,by omega,o,j,by omega⟩ u q
 ·rcases q with q|q|q|q|q
  ·exact IC h e b c k l j f (Or.inl q)
  ·exact IC h e b c k l j f (Or.inr (Or.inl q))
  ·exact IC h e b c k l j f (Or.inr (Or.inr q))
  ·exact Nn h e b c g l j f q
  ·exact Nq h e b c g l j f q
 ·exact L7 h e b c g (by omega) s r p q
 ·exact Nk h e b c g q
 ·exact Nl h e b c g f q
 ·exact Ns h e b c g (by omega) q
 ·exact Nu h e b c g (by omega) f v q
theorem P0:(dF.all fun x=>O3 x&&bt x 107)=true:=by decide
section
section
variable{w:World}{χ:Nat->a4}{L:cw}{Y:Var}{C:KC}{K:KS}
theorem sP(i:Nat)(f:i<K.wk.length)(h:ae w χ L Y C K):
 Calls prog 55 #[.pointer (some ⟨L.mb,0,none⟩),.int .i64 i] w (dt (.tuple #[.agg #[.int .u64 (K.W i).slot,.int .u64 (K.W i).hand,.bool (K.W i).parked,.int .i64 (K.W i).f.pc,.int .i64 (K.W i).left],.bool true]) w):=by
 have H:=Z h;have m:=h.p7;have l:=h.ky f;have s1:=h.e7 f;have A:(i:Int)<K.wk.length:=by omega
 have s2:=h.qa f;have n:=h.yM f;have o:=h.ry f 4 (by omega) rfl;have s:L.mb<w.heap.size:=aE m;have l2:L.wb<w.heap.size:=aE l;clear h;go_enter func55,ntmps55
 go_wp2_with fail
 obtain⟨w1,g⟩:=nm (w.alloc (.cells #[.int .u64 0,.int .u64 0,.bool false,.int .i64 0,.int .i64 0] 144));obtain⟨a,k⟩:=nm w.heap.size;have c:Hid (Row w1 a 144 [.int .u64 0,.int .u64 0,.bool false,.int .i64 0,.int .i64 0]):=Z (by rw[<-g,<-k];exact Row.new _ _ _);have d:=Z (Ch.al (D:=ag) g);have r:=Z k;have t0:=d.out.k l;have t1:=d.out.k s1;have t2:=d.out.k s2;have t3:=d.out.k n;have t4:=d.out.k o;rw[g,k];clear g k l s1 s2 n o m s l2;obtain⟨x0,x1,x2,x3,x4⟩:=c.out.c5;have f0:=c.out.free 0;have f1:=c.out.free 1;have f2:=c.out.free 2;have f3:=c.out.free 3;have f4:=c.out.free 4;refine wp_region_still_tail 22 (by kernel_rfl) (by kernel_rfl) ?_;simp only[List.take_succ_cons,List.take_zero,List.drop_succ_cons,List.drop_zero]
 repeat still_step
 try refine wpStill_nil ?_
 change wpList _ _ _ _ _ w1.drew;go_wp2_with fail
 obtain⟨w4,j⟩:=nm ((((((w1.setCell ⟨a,0,none⟩ (.int .u64 (K.W i).slot)).setCell ⟨a,1,none⟩ (.int .u64 (K.W i).hand)).setCell ⟨a,2,none⟩ (.bool (K.W i).parked)).setCell ⟨a,3,none⟩ (.int .i64 (K.W i).f.pc)).setCell ⟨a,4,none⟩ (.int .i64 (K.W i).left)).drew);have q:Hid (Row w4 a 144 [.int .u64 (K.W i).slot,.int .u64 (K.W i).hand,.bool (K.W i).parked,.int .i64 (K.W i).f.pc,.int .i64 (K.W i).left]):=Z (by rw[<-j];exact(((((c.out.set 0 _).set 1 _).set 2 _).set 3 _).set 4 _).drew);have p:Hid (Ch (aK a) w1 w4):=Z (by rw[<-j];exact((((((Ch.refl _ _).only _ _).only _ _).only _ _).only _ _).only _ _).drew);rw[j];clear j;obtain⟨y0,t,u,x,y⟩:=q.out.c5;refine bodyPost_ret (v:=.tuple #[.agg #[.int .u64 (K.W i).slot,.int .u64 (K.W i).hand,.bool (K.W i).parked,.int .i64 (K.W i).f.pc,.int .i64 (K.W i).left],.bool true]) ?_ rfl ?_
 ·simp[results,Tryz.f55,go_sem,y0,t,u,x,y]
 ·exact⟨rfl,d.out.fresh p.out (fun b hb e=>by have z:b=a:=e;have:=r.out;omega)⟩
end
end
end Go.Proofs.YtlihkblppjgebaaGreatDoor
