import Derived.Test.YtfnilkpkogipfaaGreatDoorZBc
import Derived.Test.YtfnilkpkogipfaaGreatDoorZBd
set_option linter.all false
set_option maxRecDepth 100000
set_option maxHeartbeats 8000000
namespace Go.Proofs.YtfnilkpkogipfaaGreatDoor
open Go.RowKit Go.Proofs.Tryz
section
theorem aG.same{w:World}{b o:Nat}{t:TypeId}{c e d g:List Value}{h i:Value}{f1 f2:cE}(j:aG w b o t c e h f1)(k:aG w b o t d g i f2):c=d/\e=g/\h=i:=by
 have hlen:c.length=d.length:=by rw[j.len,k.len]
 have s:c++(f1.cells h++e)=d++(f2.cells i++g):=by
  have m:=j.row;have a:=k.row;unfold Row at m a;rw[m]at a;injection a with a
  injection a with a _ _
  exact congrArg Array.toList a
 obtain⟨p,v⟩:=List.append_inj s hlen;obtain⟨x,q⟩:=List.append_inj v (by rw[cE.cU,cE.cU]);have n:=congrArg (fun l=>l[33]?) x;have r:∀(f:cE) u,(f.cells u)[33]?=some u:=fun f u=>by
  unfold cE.cells;rw[List.getElem?_cons_succ,List.getElem?_append_right (by rw[bq];omega),bq];rfl
 simp only[r]at n;exact⟨p,q,Option.some.inj n⟩
theorem zt{α:Type}(l:List (Int×α))(k:Int)(x y:α):b8 (b8 l k x) k y=b8 l k y:=by
 induction l with
 |nil=>rw[kh,kh,dR,if_pos rfl]
 |cons z l ih=>
  rw[dR,dR];by_cases e:k=z.1
  ·rw[if_pos e,if_pos e,dR,if_pos rfl]
  ·rw[if_neg e,if_neg e,dR,if_neg e,ih]
section
variable{w w':World}{χ:Nat->a4}{L:cw}{Y:Var}{C:KC}{K:KS}
theorem w9{id:Int}{k:Nat}{t:Thread}(c:aw K.ai id=some t)(b:k<t.l.length)(f g:cE):(K.cH (.ai id k) f).cH (.ai id k) g=K.cH (.ai id k) g:=by
 have a:(K.cH (.ai id k) f).T id={K.T id with l:=(K.T id).l.set k {(K.T id).l.getD k default with f:=f}}:=KS.df (by show aw (b8 _ _ _) _=_;rw[aT,if_pos rfl]);show(K.cH (.ai id k) f).b9 id _=K.b9 id _
 rw[a];unfold KS.cH KS.b9;dsimp only;rw[zt]
 congr 2
 rw[KS.df c,List.set_set,List.getD_eq_getElem?_getD,List.getElem?_set_self b];rfl
def Ey(a:KS)(c:bK)(S:aF×List Ev)(K':KS):Prop:=K'={a with mem:=S.1,out:=S.2}∨∃f,K'=({a with mem:=S.1,out:=S.2}:KS).cH c f
theorem CW(X:Array Value)(w:World):(Go.method 494 294 (.agg X) "Load").run prog w=.ok (243,.agg X) w:=by kernel_rfl
theorem CX(X:Array Value)(w:World):(Go.method 494 294 (.agg X) "Store").run prog w=.ok (244,.agg X) w:=by kernel_rfl
theorem CY(X:Array Value)(w:World):(Go.method 494 294 (.agg X) "Swap").run prog w=.ok (245,.agg X) w:=by kernel_rfl
theorem CZ(X:Array Value)(w:World):(Go.method 494 294 (.agg X) "Add").run prog w=.ok (241,.agg X) w:=by kernel_rfl
theorem C0(X:Array Value)(w:World):(Go.method 494 294 (.agg X) "Cas").run prog w=.ok (242,.agg X) w:=by kernel_rfl
theorem C1(X:Array Value)(w:World):(nilAhead 494 294 (.agg X) "Cas").run prog w=.ok (some false) w:=by kernel_rfl
theorem C2(args:Array Value)(w:World):(callFunc 243 args).run prog w=.ok (.enter 243 args) w:=by kernel_rfl
theorem C3(args:Array Value)(w:World):(callFunc 244 args).run prog w=.ok (.enter 244 args) w:=by kernel_rfl
theorem C4(args:Array Value)(w:World):(callFunc 245 args).run prog w=.ok (.enter 245 args) w:=by kernel_rfl
theorem C5(args:Array Value)(w:World):(callFunc 241 args).run prog w=.ok (.enter 241 args) w:=by kernel_rfl
theorem C6(args:Array Value)(w:World):(callFunc 242 args).run prog w=.ok (.enter 242 args) w:=by kernel_rfl
theorem Bo{j:World}{c:bK}{id op kind a b v:Int}(l:Ch ag j w){e:Ending}{w':World}(h:im (bG C K id op (K.mem,K.out) kind a b v).1 χ L Y C K (oI C K id op kind a b v) w e w'):
 mv (bG C K id op (K.mem,K.out) kind a b v).1 (fun w'=>(∃K' aW Y',Ey K c (bG C K id op (K.mem,K.out) kind a b v).2 K'/\dB χ L Y C K K' j aW Y' w')/\Ch (fun i=>χ i=.mem∨χ i=.gx∨χ i=.out) w w') e w':=by
 obtain⟨d,⟨aW,Y',f⟩,k⟩:=h;refine⟨?_,⟨_,aW,Y',Or.inl rfl,f.at_,(Nx.af l).trans f.nx,f.yk⟩,k⟩;cases g:(bG C K id op (K.mem,K.out) kind a b v).1 with
 |none=>rw[g]at d;exact d
 |some x=>rw[g]at d;exact d
def Bp(m:World)(χ:Nat->a4)(L:cw)(Y:Var)(C:KC)(K:KS)(c:bK)(id op:Int)(g:0<=C.wide/\C.wide<=256/\0<=C.narrow/\C.narrow<=256)(j:K.out.length<=900000):pT 294 (.agg #[(L.mb,0),.int .u64 id,op]) (aF×List Ev) where
 At:=fun S w=>S=(K.mem,K.out)/\ae w χ L Y C K/\Ch ag m w
 uI:=fun S w=>∃K' aW Y',Ey K c S K'/\dB χ L Y C K K' m aW Y' w
 Ok:=fun _=>True
 D:=fun i=>χ i=.mem∨χ i=.gx∨χ i=.out
 acc:=bG C K id op
 FL:=243
 FS:=244
 FW:=245
 FA:=241
 FC:=242
 mL:=CW _
 mS:=CX _
 mW:=CY _
 mA:=CZ _
 mC:=C0 _
 nC:=C1 _
 eL:=C2
 eS:=C3
 eW:=C4
 eA:=C5
 eC:=C6
 keep:=fun _ _ _ h k=>⟨h.1,h.2.1.af k,h.2.2.trans k⟩
 BR:=fun S w h=>⟨K,χ,Y,Or.inl (by rw[h.1]),h.2.1,Nx.af h.2.2,Yk.refl _ _⟩
 yi:=fun S w w' ⟨K',aW,Y',b,d⟩ k=>⟨K',aW,Y',b,d.af k⟩
 cL:=fun S a w _ e h=>by
  obtain⟨rfl,b,d⟩:=h;exact(tM g j id op a e b).mono fun _ _ h=>Bo d h
 cS:=fun S a v w _ e f h=>by
  obtain⟨rfl,b,d⟩:=h;refine(sd g j id op a v e f b).mono fun _ _ h=> ?_
  obtain⟨n,⟨aW,Y',l⟩,o⟩:=h;exact⟨n,⟨_,aW,Y',Or.inl rfl,l.at_,(Nx.af d).trans l.nx,l.yk⟩,o⟩
 cW:=fun S a v w _ e f h=>by
  obtain⟨rfl,b,d⟩:=h;exact(nV g j id op a v e f b).mono fun _ _ h=>Bo d h
 cA:=fun S a v w _ e f h=>by
  obtain⟨rfl,b,d⟩:=h;exact(w7 g j id op a v e f b).mono fun _ _ h=>Bo d h
 cC:=fun S a q v w _ e p f h=>by
  obtain⟨rfl,b,d⟩:=h;exact(w8 g j id op a q v e p f b).mono fun _ _ h=>Bo d h
def va(C:KC)(K:KS)(id op:Int)(k:Nat):Int×KS:=
 let s:=bD (bG C K id op) C.bn (K.F (.ai id k)) (K.mem,K.out)
 (s.1,({K with mem:=s.2.2.1,out:=s.2.2.2}:KS).cH (.ai id k) s.2.1)
theorem Ey.next{c:bK}{a K':KS}{S:aF×List Ev}{id:Int}{k:Nat}{t:Thread}(h:Ey a (.ai id k) S K')(e:aw a.ai id=some t)(d:k<t.l.length):aj K' (.ai id k)/\Gr a K'/\∀g,K'.cH (.ai id k) g=({a with mem:=S.1,out:=S.2}:KS).cH (.ai id k) g:=by
 have b:aj ({a with mem:=S.1,out:=S.2}:KS) (.ai id k):=⟨t,e,d⟩;rcases h with rfl|⟨f,rfl⟩
 ·exact⟨b,Gr.of_eq rfl,fun _=>rfl⟩
 ·exact⟨b.gr (bs b f) (bm _ _),(Gr.of_eq (K':=({a with mem:=S.1,out:=S.2}:KS)) rfl).trans (bs b f),fun g=>w9 (K:=({a with mem:=S.1,out:=S.2}:KS)) e d f g⟩
theorem dB.Fh{K1:KS}{v:Nat->a4}{e:Var}{w1 w2:World}{id:Int}{k:Nat}{b:Nat}{t:Thread}(m:dB χ L Y C K K1 w v e w1)(s:aw K.ai id=some t)(p:k<t.l.length)(r:aP L Y (.ai id k) b 0)(h:aj K1 (.ai id k))(g:Gr K K1){pre post:List Value}{j l:Value}{f1 f2:cE}(n:aG w1 b 0 179 pre post j f1)(o:aG w2 b 0 179 pre post l f2)(q:aQ w1 j l)(c:Ch (aK b) w1 w2):
 ∃d a,dB χ L Y C K (K1.cH (.ai id k) f2) w d a w2:=by
 have i:aP L e (.ai id k) b 0:=r.yk ⟨t,s,p⟩ m.yk;obtain⟨y,x,z,f⟩:=m.at_.cur h i;obtain⟨rfl,rfl,rfl⟩:=aG.same (t:=179) n f;obtain⟨d,a,u⟩:=m.at_.yN h i f o q c;exact⟨d,a,m.trans g u⟩
theorem C7(id op:Int)(k:Nat){t:Thread}(m:aw K.ai id=some t)(l:k<t.l.length)(b:Nat)(r:aP L Y (.ai id k) b 0)(O:∀j,j<32->aH ((K.F (.ai id k)).r j))(D:(K.F (.ai id k)).back.length<=8)(Q:∀x∈C.bn,aH x.v)(U:C.bn.length<=2048)(E:0<=C.wide/\C.wide<=256/\0<=C.narrow/\C.narrow<=256)(N:K.out.length<=900000)(h:ae w χ L Y C K):
 Calls prog 28 #[(b,0),.slice L.pc C.bn.length L.AY,.iface 294 (.agg #[(L.mb,0),.int .u64 id,op])] w
  (yj (va C K id op k).1 (fun w'=>∃aW Y',dB χ L Y C K (va C K id op k).2 w aW Y' w')):=by
 have F:aj K (.ai id k):=⟨t,m,l⟩;obtain⟨pre,post,v,H,M,R⟩:=h.DZ F r;have u:=h.code (by simp);have P:=q3 (Bp w χ L Y C K (.ai id k) id op E N) (K.mem,K.out) (Z trivial) b 0 179 (by decide) pre post v (K.F (.ai id k)) C.bn L.pc C.bn.length L.AY rfl u.my (by omega) D O Q w H
  (fun A=>by obtain⟨g,a,d,_⟩:=u.prog (by intro e;rw[e]at A;exact absurd A (by simp));exact⟨g,a,d⟩) ⟨rfl,h,Ch.refl _ _⟩
  (fun S w1 w2 X f1 a0 f2 ⟨K',aW,Y',a,d⟩ I J z G=>by
   obtain⟨p,f,q⟩:=a.next (c:=.ai id k) m l;obtain⟨s,o,n⟩:=d.Fh m l r p f I J z G;exact⟨_,s,o,Or.inr ⟨f2,q f2⟩,n⟩)
  (fun e=>by
   rcases M with a|⟨_,_,a⟩<;>rcases e with e|e|e<;>rw[a]at e<;>cases e)
  (fun i V e=>by
   have:=h.small i (by rcases e with e|e|e<;>rw[e]<;>simp);omega)
  (fun g f e=>by
   have a:=R g f;rcases e with e|e|e<;>rw[a]at e<;>cases e)
 refine P.mono ?_;rintro e w' ⟨a,⟨W,y,z⟩,⟨K',aW,Y',d,B⟩,T⟩;refine⟨a,?_⟩;obtain⟨p,f,q⟩:=d.next (c:=.ai id k) m l;obtain⟨s,o,n⟩:=B.Fh m l r p f y y (aQ.refl _ _) (Ch.refl _ _);refine⟨s,o,?_⟩;rw[q]at n;exact n
end
end
section
section
variable{w w':World}{χ:Nat->a4}{L:cw}{Y:Var}{C:KC}{K:KS}
theorem se{N M:Nat}(I:oC C)(U:Inv N M K)(wh:N<=500000)(wd:M<=500000)(i:Nat)(eS:i<K.wk.length)(id:Int)(t:Thread)(Q:aw K.ai id=some t)(k:Nat)(fb:k+1=t.l.length)(hf:t.l.length%2=1)(h:ae w χ L Y C K):
 Calls prog 113 #[(L.mb,0),(L.wb,i*38),(Y.bB id,0),(Y.fb id k,0)] w (rB (.tuple #[]) χ L C (cu C K i id k) w):=by
 have a3:k<t.l.length:=by omega
 have c2:aj K (.ai id k):=⟨t,Q,a3⟩;obtain⟨b,hb⟩:=nm (Y.fb id k);obtain⟨tb,en⟩:=nm (Y.bB id);have ce:aP L Y (.ai id k) b 0:=⟨hb.symm,rfl⟩;rw[hb,en];have hid:=(U.dc Q).id;obtain⟨x,c5⟩:=nm (fu C.bn (K.F (.ai id k)).pc);have J:=fun w (h:ae w χ L Y C K)=>C7 id x.op k Q a3 b ce (U.lz c2).r (U.lz c2).back I.pv I.pl I.bw (by have:=U.out;omega) h
 have kw:=pk I U Q (k:=k) a3 x.op;rw[c5]at kw;obtain⟨s,c3⟩:=nm (bD (bG C K id x.op) C.bn (K.F (.ai id k)) (K.mem,K.out));obtain⟨K1,V⟩:=nm (({K with mem:=s.2.2.1,out:=s.2.2.2}:KS).cH (.ai id k) s.2.1);have eC:va C K id x.op k=(s.1,K1):=by unfold va;rw[c3];dsimp only;rw[V]
 rw[c3,V]at kw;obtain⟨P,lm,ch⟩:=kw;have eL:Gr K K1:=by rw[<-V];exact(Gr.of_eq (K':=({K with mem:=s.2.2.1,out:=s.2.2.2}:KS)) rfl).trans (bs (c:=.ai id k) ⟨t,Q,a3⟩ _)
 have B:K1.wk.length=K.wk.length:=by rw[<-V];exact bm _ _
 obtain⟨t1,O,fd,_⟩:∃lw,aw K1.ai id=some lw/\lw.l.length=t.l.length/\lw.id=t.id:=by rw[<-V];exact dH (K:=({K with mem:=s.2.2.1,out:=s.2.2.2}:KS)) Q _
 rw[eC]at J;have c8:Hid (cu C K i id k=if s.1=1 then gX C (K1.ft (.ai id k)) id k (wrap64 x.v)else if s.1=2 then(if 0<K1.top id then K1.b9 id {K1.T id with l:=(K1.T id).l.take (K1.top id)}else eN C K1 i id k ((K1.F (.ai id k)).r 0))else if s.1=3 then eN C (tell K1 ⟨4,0,0,id,x.op,0,0,0,0,if x.op≠15/\x.op≠0 then du (K1.F (.ai id k)).r x else 0,0⟩) i id k 18446744073709551615 else K1):=Z (by unfold cu;dsimp only;rw[c5,c3,V]);have c4:(K.F (.ai id k)).pc<0∨(C.bn.length:Int)<=(K.F (.ai id k)).pc->s.1=3:=fun e=>by
  rw[<-c3];unfold bD;rcases e with e|e
  ·rw[if_pos e]
  ·split
   ·rfl
   ·rw[List.getElem?_eq_none (by omega)]
 have eA:=h.code (by simp);have eW:=(P.dc O).id;have cd:i<K1.wk.length:=by rw[B];exact eS
 have cb:aj K1 (.ai id k):=⟨t1,O,by omega⟩;obtain⟨r,fn⟩:=nm s.1;rw[fn]at J lm ch c8 c4;dsimp only at J;have o:=Z (And.intro Q (And.intro en (And.intro hb (And.intro hid a3))));have d:=Z (And.intro O (And.intro eW (And.intro fd (And.intro eL (And.intro B cb)))));have et:=Z (And.intro c2 ce);have i1:=Z (dB.refl h);obtain⟨pc,cf⟩:=nm ((K.F (.ai id k)).pc);have k0:=Z cf;rw[cf]at c5 c4;obtain⟨am,W⟩:=nm C.bn.length;have cm:=Z W;have ws:am<=2048:=by rw[<-W];exact I.pl
 rw[W]at J c4;have G:=h.tq c2 ce;rw[cf]at G;have k3:=h.c3;rw[W]at k3;have p8:=Z eA.prog;have dN:=c5;by_cases n0:pc<0∨(am:Int)<=pc
 ·have s2:(¬0<=pc/\decide (0<=pc)=false)∨(0<=pc/\decide (0<=pc)=true/\decide (pc<(am:Int))=false):=by
   by_cases e:pc<0
   ·exact Or.inl ⟨by omega,by simpa using e⟩
   ·exact Or.inr ⟨by omega,by simpa using e,by simpa using n0.resolve_left e⟩
  have s1:r=3:=c4 n0;subst s1;have st:x=⟨0,0,0,0,0,0,0⟩:=by rw[<-dN];exact ly (by rw[W];omega)
  subst st;try dsimp only at J
  try dsimp only at c8
  have k2:Hid (∀w,ae w χ L Y C K->Calls prog 28 #[(b,0),.slice L.pc am L.AY,.iface 294 (.agg #[(L.mb,0),.int .u64 id,.int .i64 0])] w (yj 3 (fun w'=>∃aW Y',dB χ L Y C K K1 w aW Y' w'))):=Z J;have cl:=Z (fun(w:World) (χ:Nat->a4) (Y:Var) (v:Int) (h:ae w χ L Y C (tell K1 ⟨4,0,0,id,0,0,0,0,0,v,0⟩))=>lE I (P.tell ⟨4,0,0,id,0,0,0,0,0,v,0⟩) (by omega) (by omega) i cd id t1 O k (by omega) (by omega) 18446744073709551615 ⟨by decide,by decide⟩ h);have gr:=Z (fun(w:World) (χ:Nat->a4) (Y:Var) (v:Int) (h:ae w χ L Y C K1)=>dz 4 0 0 id 0 0 0 0 0 v 0 (by have:=P.out;omega) h);have c6:Hid (cu C K i id k=eN C (tell K1 ⟨4,0,0,id,0,0,0,0,0,if 0≠15/\0≠0 then du (K1.F (.ai id k)).r ⟨0,0,0,0,0,0,0⟩else 0,0⟩) i id k 18446744073709551615):=Z (by rw[c8,if_neg (by decide),if_neg (by decide),if_pos rfl];try rfl);clear h U I Q en hb hid a3 c2 ce c5 J c3 V eC P lm ch eL B O fd c4 eA eW cd cb fn cf W fb hf eS dN;rcases s2 with⟨s3,mS⟩|⟨s3,mS,s4⟩
  all_goals
   go_enter func113,ntmps113
   go_wp2_with fail
   obtain⟨w1,B⟩:=nm (w.alloc (.cells #[.int .i64 0,.int .i64 0,.int .i64 0,.int .i64 0,.int .u64 0,.int .i64 0,.int .i64 0] 121));have hB:=Z (Ch.al (D:=ag) B);have go:Hid (Row w1 w.heap.size 121 [.int .i64 0,.int .i64 0,.int .i64 0,.int .i64 0,.int .u64 0,.int .i64 0,.int .i64 0]/\χ w.heap.size=.no):=Z ⟨by rw[<-B];exact Row.new w _ _,i1.at_.fresh (Nat.le_refl _)⟩;rw[B];clear B G k3;have cC:=Z (i1.af hB);have G:=cC.at_.tq et.1 et.2;rw[k0]at G;have k3:=cC.at_.c3;rw[cm]at k3;go_quiet (fail)
   generalize hi:w1.drewN _=hv;have hF:=Z (Ch.dN (D:=ag) hi);clear hi G k3;have al:=Z (cC.af hF);have ck:=Z ((Nx.af hF).row go.1 go.2);have G:=al.at_.c3;rw[cm]at G;have kd:=al.at_.gb o.1;rw[o.2.2.2.1,o.2.1]at kd;have x0:=ck.1.c1;go_wp2_with fail
   go_region_held3 (fun w'=>w'.cell? (L.mb,3)=some (.slice L.pc am L.AY)/\w'.cell? (tb,0)=some (.int .u64 id)/\w'.cell? ⟨w.heap.size,0,none⟩=some (.int .i64 0)) (go_keep) ((go_at_call 28;refine(k2 _ al.at_.drew).mono ?_;rintro e w4 ⟨⟨u,rfl,ls⟩,gk,ex,dC⟩;have f:=Z ((al.af (Ch.refl _ _).drew).trans (Gr.refl _) dC);have R:=Z (((Nx.af (Ch.refl _ hv).drew).trans dC.nx).row ck.1 ck.2);have hm:=((f.yk id t o.1).1).trans o.2.1;have hn:=((f.yk id t o.1).2 k o.2.2.2.2).trans o.2.2.1;have q:=Z (And.intro hm hn);clear dC ls hm hn;have es:=f.at_.c3;rw[cm]at es;have T:=f.at_.gb d.1;rw[d.2.1,q.1]at T;have x4:=R.1.c1))
   all_goals
    clear es;go_wp2_with fail
    go_cut [12] (fun p wc=>tJ 62 [.int .i64 4,.int .i64 0,.int .i64 0,.int .u64 id,.int .i64 0,.int .u64 0,.int .u64 0,.int .u64 0,.int .u64 0,.int .u64 0,.int .u64 0] w4 p wc)
    case first=>
     have sz:=World.new_ne w4 ⟨tb,0,none⟩ T;have sC:=World.new_ne w4 ⟨w.heap.size,0,none⟩ x4;have tg:tb≠w4.heap.size:=Nat.ne_of_lt (aE T);have th:w.heap.size≠w4.heap.size:=Nat.ne_of_lt (aE x4);go_region_held3 (fun w'=>w'.cell? (tb,0)=some (.int .u64 id)/\w'.cell? ⟨w.heap.size,0,none⟩=some (.int .i64 0)) (go_keep) (fail)
     all_goals(go_wp2_with fail;go_meet)
     all_goals exact⟨w4.heap.size,rfl,(Row.new w4 _ _).drew,((Ch.refl _ _).alloc _).drew,Nat.le_refl _⟩
    case rest=>
     obtain⟨c9,rfl,ci,ec,hle⟩:=hcut;have cq:=Z ci;have mk:=Z hle;have H:=Z (f.af ec);have c7:=Z ((Nx.af ec).row R.1 R.2);have md:Hid (gk c9=.no):=Z (f.at_.fresh hle);have le:c9≠w.heap.size:=fun e=>by have s0:=R.1.lt;omega
     have s8:=le.symm;clear ci ec hle T x4;have x5:=c7.1.c1;have E:Hid (cu C K i id k=eN C (tell K1 ⟨4,0,0,id,0,0,0,0,0,0,0⟩) i id k 18446744073709551615):=Z (by rw[c6,if_neg (by decide)]);obtain⟨ap,av,bi,bv,bw,c0,c1,cS,cW,dr,cQ⟩:=cq.Am;go_wp2_with fail
     with_reducible refine(gr.out _ _ _ 0 H.out.at_).mono ?_
     rintro e mb ⟨rfl,mc,kb,n⟩;have cL:=Z n;have X:=((n.yk id t1 d.1).1).trans q.1;have a1:=((n.yk id t1 d.1).2 k (by rw[d.2.2.1];exact o.2.2.2.2)).trans q.2;have hex:=cl _ _ _ 0 n.at_;rw[X,a1]at hex;have ad:=Z hex;clear hex n X a1 ap av bi bv bw c0 c1 cS cW dr cQ;go_wp2_with fail
     with_reducible refine ad.out.mono ?_
     rintro e hw ⟨rfl,a2,S,A,F⟩;have z:=Z (And.intro A ((H.nx.trans cL.nx).trans F));clear A F;go_wp2_with fail
     go_end0
     rw[E];exact⟨rfl,a2,S,z.1,z.2⟩
 ·have ll:0<=pc:=by omega
  have mA:pc<(am:Int):=by omega
  have mS:decide (0<=pc)=true:=by simpa using ll
  have s4:decide (pc<(am:Int))=true:=by simpa using mA
  have hl:C.bn[pc.toNat]?=some x:=by rw[<-dN];exact nF ll (by rw[W];exact mA)
  obtain⟨g,l1,ci,_⟩:=p8 (by intro e;rw[e]at hl;cases hl);have pu:=Z ci;have i0:=Z l1;rw[l1]at k3 J;obtain⟨m,rfl⟩:=Int.eq_ofNat_of_zero_le ll;rw[Int.toNat_natCast]at hl;obtain⟨i6,i7,i8,i9,ih,ii,io⟩:=eJ C.bn m x hl;have cA:=Z (And.intro i6 (And.intro i7 (And.intro i8 (And.intro i9 (And.intro ih (And.intro ii io))))));obtain⟨j,fr,fz,gc,ab,ge,gf⟩:=x;try dsimp only at J
  try dsimp only at c8
  try dsimp only at ch
  have p3:Hid (k<=7):=Z (by have:=(U.dc Q).l.n8;omega);have k2:Hid (∀w,ae w χ L Y C K->Calls prog 28 #[(b,0),.slice (some (g,0)) am L.AY,.iface 294 (.agg #[(L.mb,0),.int .u64 id,j])] w (yj r (fun w'=>∃aW Y',dB χ L Y C K K1 w aW Y' w'))):=Z J;clear hl i6 i7 i8 i9 ih ii io ci l1;rcases lm with rfl|rfl|rfl|rfl
  have E:Hid (cu C K i id k=K1):=Z (by rw[c8,if_neg (by decide),if_neg (by decide),if_neg (by decide)]);clear h U I Q en hb hid a3 c2 ce c5 J c3 V eC P ch eL B O fd c4 eA eW cd cb fn cf W fb hf eS dN;have qc:=True.intro
  rotate_left
  obtain⟨s9,sl,wv⟩:=ch rfl;obtain⟨t2,n1,s7,_⟩:=dH (K:=K1) (k:=k) O {K1.F (.ai id k)with pc:=wrap64 ((K1.F (.ai id k)).pc+1)};have ms:=kJ P cb;have ov:=Z (fun(w:World) (χ:Nat->a4) (Y:Var) (h:ae w χ L Y C (K1.ft (.ai id k)))=>pj I ms (by omega) (by omega) id t2 n1 k (by omega) (by omega) ab sl (by omega) h);have nd:wrap64 ab=ab:=by unfold wrap64;omega
  have E:Hid (cu C K i id k=gX C (K1.ft (.ai id k)) id k ab):=Z (by rw[c8,if_pos rfl,nd]);clear n1 s7 ms nd s9;clear h U I Q en hb hid a3 c2 ce c5 J c3 V eC P ch eL B O fd c4 eA eW cd cb fn cf W fb hf eS dN;have ql:=True.intro
  rotate_left
  have lt:aH ((K1.F (.ai id k)).r 0):=(P.lz cb).r 0 (by omega);obtain⟨a0,i2⟩:∃a,(K1.F (.ai id k)).r 0=a:=⟨_,rfl⟩;rw[i2]at lt;have ok:=Z i2;have cl:=Z (fun(w:World) (χ:Nat->a4) (Y:Var) (h:ae w χ L Y C K1)=>lE I P (by omega) (by omega) i cd id t1 O k (by omega) (by omega) a0 lt h);have n2:K1.top id=k:=by unfold KS.top;rw[KS.df O];omega
  have c6:Hid (cu C K i id k=if 0<k then K1.b9 id {t1 with l:=t1.l.take k}else eN C K1 i id k a0):=Z (by rw[c8,if_neg (by decide),if_pos rfl,n2,KS.df O,i2]);have p2:=Z fb;clear i2 lt n2;clear h U I Q en hb hid a3 c2 ce c5 J c3 V eC P ch eL B O fd c4 eA eW cd cb fn cf W fb hf eS dN;have qm:=True.intro
  rotate_left
  have cl:=Z (fun(w:World) (χ:Nat->a4) (Y:Var) (v:Int) (h:ae w χ L Y C (tell K1 ⟨4,0,0,id,j,0,0,0,0,v,0⟩))=>lE I (P.tell ⟨4,0,0,id,j,0,0,0,0,v,0⟩) (by omega) (by omega) i cd id t1 O k (by omega) (by omega) 18446744073709551615 ⟨by decide,by decide⟩ h);have gr:=Z (fun(w:World) (χ:Nat->a4) (Y:Var) (v:Int) (h:ae w χ L Y C K1)=>dz 4 0 0 id j 0 0 0 0 v 0 (by have:=P.out;omega) h);have c6:Hid (cu C K i id k=eN C (tell K1 ⟨4,0,0,id,j,0,0,0,0,if j≠15/\j≠0 then du (K1.F (.ai id k)).r ⟨j,fr,fz,gc,ab,ge,gf⟩else 0,0⟩) i id k 18446744073709551615):=Z (by rw[c8,if_neg (by decide),if_neg (by decide),if_pos rfl];try rfl);clear h U I Q en hb hid a3 c2 ce c5 J c3 V eC P ch eL B O fd c4 eA eW cd cb fn cf W fb hf eS dN;have qr:=True.intro
  rotate_left
  all_goals
   go_enter func113,ntmps113
   go_wp2_with fail
   obtain⟨w1,B⟩:=nm (w.alloc (.cells #[.int .i64 0,.int .i64 0,.int .i64 0,.int .i64 0,.int .u64 0,.int .i64 0,.int .i64 0] 121));have hB:=Z (Ch.al (D:=ag) B);have go:Hid (Row w1 w.heap.size 121 [.int .i64 0,.int .i64 0,.int .i64 0,.int .i64 0,.int .u64 0,.int .i64 0,.int .i64 0]/\χ w.heap.size=.no):=Z ⟨by rw[<-B];exact Row.new w _ _,i1.at_.fresh (Nat.le_refl _)⟩;rw[B];clear B G k3;have cC:=Z (i1.af hB);have G:=cC.at_.tq et.1 et.2;rw[k0]at G;have k3:=cC.at_.c3;rw[cm,i0]at k3;go_quiet (fail)
   generalize hi:w1.drewN _=w2;have it:=Z (Ch.dN (D:=ag) hi);clear hi G k3;have k4:=Z (cC.af it);have y:=Z ((Nx.af it).row go.1 go.2);have G:=k4.at_.tq et.1 et.2;rw[k0]at G;have k3:=k4.at_.c3;rw[cm,i0]at k3;have cs:=Z (pu.ch (hB.trans it) (fun h=>h));have ni:=cs.cell _ _ cA.1;have no:=cs.cell _ _ cA.2.1;have nq:=cs.cell _ _ cA.2.2.1;have nw:=cs.cell _ _ cA.2.2.2.1;have nx:=cs.cell _ _ cA.2.2.2.2.1;have nC:=cs.cell _ _ cA.2.2.2.2.2.1;have ob:=cs.cell _ _ cA.2.2.2.2.2.2;have r5:=y.1.c1;have ap:=y.1.free 0;have r6:=y.1.k 1 rfl;have av:=y.1.free 1;have rb:=y.1.k 2 rfl;have bi:=y.1.free 2;have rc:=y.1.k 3 rfl;have bv:=y.1.free 3;have rd:=y.1.k 4 rfl;have bw:=y.1.free 4;have re:=y.1.k 5 rfl;have c0:=y.1.free 5;have rg:=y.1.k 6 rfl;have c1:=y.1.free 6;try dsimp only at ni no nq nw nx nC ob
   go_wp2_with fail
   go_still_tail 12,(by kernel_rfl)
   change wpList _ _ _ _ _ w2.drew;go_upto_region 3 with fail
   obtain⟨hv,i4⟩:=nm (((((((((w2.setCell ⟨w.heap.size,0,none⟩ (.int .i64 j)).setCell ⟨w.heap.size,1,none⟩ (.int .i64 fr)).setCell ⟨w.heap.size,2,none⟩ (.int .i64 fz)).setCell ⟨w.heap.size,3,none⟩ (.int .i64 gc)).setCell ⟨w.heap.size,4,none⟩ (.int .u64 ab)).setCell ⟨w.heap.size,5,none⟩ (.int .i64 ge)).setCell ⟨w.heap.size,6,none⟩ (.int .i64 gf))).drew);have hF:Hid (Ch (aK w.heap.size) w2 hv):=Z (by rw[<-i4];exact(((((((((Ch.refl _ _).only _ _).only _ _).only _ _).only _ _).only _ _).only _ _).only _ _)).drew);have ck:Hid (Row hv w.heap.size 121 [j,fr,fz,gc,.int .u64 ab,ge,gf]/\χ w.heap.size=.no):=Z ⟨by rw[<-i4];exact((((((((y.1.set 0 _).set 1 _).set 2 _).set 3 _).set 4 _).set 5 _).set 6 _)).drew,y.2⟩;rw[i4];have al:=Z (k4.plain y.2 (Nat.le_refl _) hF);clear i4 G k3 ni no nq nw nx nC ob r5 r6 rb rc rd re rg ap av bi bv bw c0 c1;have G:=al.at_.c3;rw[cm,i0]at G;have kd:=al.at_.gb o.1;rw[o.2.2.2.1,o.2.1]at kd;have x0:=ck.1.c1;go_wp2_with fail
   go_region_held3 (fun w'=>w'.cell? (L.mb,3)=some (.slice (some (g,0)) am L.AY)/\w'.cell? (tb,0)=some (.int .u64 id)/\w'.cell? ⟨w.heap.size,0,none⟩=some (.int .i64 j)) (go_keep) ((go_at_call 28;refine(k2 _ al.at_.drew).mono ?_;rintro e w4 ⟨⟨u,rfl,ls⟩,gk,ex,dC⟩;have f:=Z ((al.af (Ch.refl _ _).drew).trans (Gr.refl _) dC);have R:=Z (((Nx.af (Ch.refl _ hv).drew).trans dC.nx).row ck.1 ck.2);have hm:=((f.yk id t o.1).1).trans o.2.1;have hn:=((f.yk id t o.1).2 k o.2.2.2.2).trans o.2.2.1;have q:=Z (And.intro hm hn);clear dC ls hm hn;have es:=f.at_.c3;rw[cm,i0]at es;have T:=f.at_.gb d.1;rw[d.2.1,q.1]at T;have x4:=R.1.c1))
  all_goals
   first
    |(clear qc
      go_wp2_with fail
      go_end0
      rw[E];exact⟨rfl,gk,ex,f.at_,f.nx⟩)
    |(clear ql
      clear es T x4;have x4:=R.1.k 4 rfl;have gs:Hid (aP L ex (.ai id k) b 0):=Z ⟨q.2.symm,rfl⟩;have lv:=f.at_.tq d.2.2.2.2.2 gs;have f0:=f.at_.g1 d.2.2.2.2.2 gs 0;obtain⟨tl,i3⟩:=nm ((K1.F (.ai id k)).pc);rw[i3]at lv;have lo:=f.at_.qe d.2.2.2.2.2 gs (wrap64 ((K1.F (.ai id k)).pc+1));rw[i3]at lo;have pv:=Z lo;have pl:=Z i3;clear lo i3;go_upto_region 7 with fail
      obtain⟨v1,k5,kf⟩:=pv.out;obtain⟨tt,n8⟩:=nm (w4.setCell (b,0) (.int .i64 (wrap64 (tl+1))));rw[n8]at kf⊢;have H:Hid (dB gk L ex C K1 (K1.ft (.ai id k)) w4 v1 k5 tt):=Z (by unfold KS.ft;rw[pl];exact kf);clear kf n8 lv f0 x4;have c7:=Z (H.nx.row R.1 R.2);have x4:=c7.1.k 4 rfl;have kT:=ov _ _ _ H.at_;rw[(H.yk id t1 d.1).1,q.1,(H.yk id t1 d.1).2 k (by rw[d.2.2.1];exact o.2.2.2.2),q.2]at kT;have p1:=Z kT;clear kT;go_wp2_with fail
      with_reducible refine p1.out.mono ?_
      rintro e hw ⟨rfl,a2,S,A,F⟩;have z:=Z (And.intro A ((f.nx.trans H.nx).trans F));clear A F;go_wp2_with fail
      go_end0
      rw[E];exact⟨rfl,a2,S,z.1,z.2⟩)
    |(clear qm
      clear es T x4;obtain⟨wb,ro,lc,mL,_⟩:=f.at_.jX d.1 (by rw[d.2.2.1];exact Nat.lt_of_le_of_lt (Nat.zero_le _) o.2.2.2.2);have mp:=f.at_.CI d.1;have r':=f.at_.rz d.1 1;rw[q.1]at mp r';have pi:=Z lc;have hlen:t1.l.length=k+1:=by rw[d.2.2.1,<-p2]
      rw[lc,hlen]at mp;have pa:=Z hlen;rw[hlen]at mL;have wr:k<=ro:=by omega
      have wl:(k:Int)+1-1=(k:Int):=by omega
      have wn:(k:Int)<=8:=by have:=p3.out;omega
      have wk:k<=k+1:=by omega
      clear lc hlen mL;by_cases lb:0<k
      ·have s5:decide (0<(k:Int))=true:=by simpa using lb
       have s6:(0:Int)<(k:Int):=by omega
       have li:=f.at_.DV (m:=k) d.1 pi (by rw[pa];omega);rw[q.1]at li;have pm:=Z li;have E:Hid (cu C K i id k=K1.b9 id {t1 with l:=t1.l.take k}):=Z (by rw[c6,if_pos lb]);clear li;go_wp2_with fail
       go_end0
       rw[E];obtain⟨k5,ne,_⟩:=pm.out;exact⟨rfl,gk,k5,ne.at_,f.nx.trans ne.nx⟩
      ·have s5:decide (0<(k:Int))=false:=by simp;omega
       have s6:¬(0:Int)<(k:Int):=by omega
       have gs:Hid (aP L ex (.ai id k) b 0):=Z ⟨q.2.symm,rfl⟩;have lv:w4.cell? (b,1)=some (.int .u64 a0):=by have:=f.at_.az d.2.2.2.2.2 gs 0 (by omega);rw[ok]at this;exact this
       have E:Hid (cu C K i id k=eN C K1 i id k a0):=Z (by rw[c6,if_neg lb]);have hex:=cl _ _ _ f.at_;rw[q.1,q.2]at hex;have ad:=Z hex;clear hex;go_wp2_with fail
       with_reducible refine ad.out.mono ?_
       rintro e hw ⟨rfl,a2,S,A,F⟩;have z:=Z (And.intro A (f.nx.trans F));clear A F;go_wp2_with fail
       go_end0
       rw[E];exact⟨rfl,a2,S,z.1,z.2⟩)
    |(clear qr
      clear es;go_wp2_with fail
      go_cut [12] (fun p wc=>tJ 62 [.int .i64 4,.int .i64 0,.int .i64 0,.int .u64 id,j,.int .u64 0,.int .u64 0,.int .u64 0,.int .u64 0,.int .u64 0,.int .u64 0] w4 p wc)
      case first=>
       have sz:=World.new_ne w4 ⟨tb,0,none⟩ T;have sC:=World.new_ne w4 ⟨w.heap.size,0,none⟩ x4;have tg:tb≠w4.heap.size:=Nat.ne_of_lt (aE T);have th:w.heap.size≠w4.heap.size:=Nat.ne_of_lt (aE x4);go_region_held3 (fun w'=>w'.cell? (tb,0)=some (.int .u64 id)/\w'.cell? ⟨w.heap.size,0,none⟩=some (.int .i64 j)) (go_keep) (fail)
       all_goals(go_wp2_with fail;go_meet)
       all_goals exact⟨w4.heap.size,rfl,(Row.new w4 _ _).drew,((Ch.refl _ _).alloc _).drew,Nat.le_refl _⟩
      case rest=>
       obtain⟨c9,rfl,ci,ec,hle⟩:=hcut;have cq:=Z ci;have mk:=Z hle;have H:=Z (f.af ec);have c7:=Z ((Nx.af ec).row R.1 R.2);have md:Hid (gk c9=.no):=Z (f.at_.fresh hle);have le:c9≠w.heap.size:=fun e=>by have s0:=R.1.lt;omega
       have s8:=le.symm;clear ci ec hle T x4;have x5:=c7.1.c1;by_cases he:j=15
       ·subst he
        have E:Hid (cu C K i id k=eN C (tell K1 ⟨4,0,0,id,15,0,0,0,0,0,0⟩) i id k 18446744073709551615):=Z (by rw[c6,if_neg (by decide)]);go_upto_region 17 with fail
        obtain⟨ap,av,bi,bv,bw,c0,c1,cS,cW,dr,cQ⟩:=cq.Am;go_wp2_with fail
        with_reducible refine(gr.out _ _ _ 0 H.out.at_).mono ?_
        rintro e mb ⟨rfl,mc,kb,n⟩;have cL:=Z n;have X:=((n.yk id t1 d.1).1).trans q.1;have a1:=((n.yk id t1 d.1).2 k (by rw[d.2.2.1];exact o.2.2.2.2)).trans q.2;have hex:=cl _ _ _ 0 n.at_;rw[X,a1]at hex;have ad:=Z hex;clear hex n X a1 ap av bi bv bw c0 c1 cS cW dr cQ;go_wp2_with fail
        with_reducible refine ad.out.mono ?_
        rintro e hw ⟨rfl,a2,S,A,F⟩;have z:=Z (And.intro A ((H.nx.trans cL.nx).trans F));clear A F;go_wp2_with fail
        go_end0
        rw[E];exact⟨rfl,a2,S,z.1,z.2⟩
       ·by_cases hu:j=0
        ·subst hu
         have E:Hid (cu C K i id k=eN C (tell K1 ⟨4,0,0,id,0,0,0,0,0,0,0⟩) i id k 18446744073709551615):=Z (by rw[c6,if_neg (by decide)]);go_upto_region 17 with fail
         obtain⟨ap,av,bi,bv,bw,c0,c1,cS,cW,dr,cQ⟩:=cq.Am;go_wp2_with fail
         with_reducible refine(gr.out _ _ _ 0 H.out.at_).mono ?_
         rintro e mb ⟨rfl,mc,kb,n⟩;have cL:=Z n;have X:=((n.yk id t1 d.1).1).trans q.1;have a1:=((n.yk id t1 d.1).2 k (by rw[d.2.2.1];exact o.2.2.2.2)).trans q.2;have hex:=cl _ _ _ 0 n.at_;rw[X,a1]at hex;have ad:=Z hex;clear hex n X a1 ap av bi bv bw c0 c1 cS cW dr cQ;go_wp2_with fail
         with_reducible refine ad.out.mono ?_
         rintro e hw ⟨rfl,a2,S,A,F⟩;have z:=Z (And.intro A ((H.nx.trans cL.nx).trans F));clear A F;go_wp2_with fail
         go_end0
         rw[E];exact⟨rfl,a2,S,z.1,z.2⟩
        ·have v2:(j==15)=false:=by rw[beq_eq_false_iff_ne];exact he
         have v4:(j !=15)=true:=by simpa using he
         have v6:(j==0)=false:=by rw[beq_eq_false_iff_ne];exact hu
         have w0:(j !=0)=true:=by simpa using hu
         obtain⟨gt,l0⟩:∃v,du (K1.F (.ai id k)).r ⟨j,fr,fz,gc,ab,ge,gf⟩=v:=⟨_,rfl⟩;have E:Hid (cu C K i id k=eN C (tell K1 ⟨4,0,0,id,j,0,0,0,0,gt,0⟩) i id k 18446744073709551615):=Z (by rw[c6,if_pos ⟨he,hu⟩,l0]);have qb:Hid (aP L ex (.ai id k) b 0):=Z ⟨q.2.symm,rfl⟩;obtain⟨x1,ww,x2,mW⟩:=H.at_.cur d.2.2.2.2.2 qb;have ip:=Z (ke b 0 (K1.F (.ai id k)).pc (K1.F (.ai id k)).r ⟨j,fr,fz,gc,ab,ge,gf⟩ wc.drew mW.fr.drew);rw[l0,wu]at ip;dsimp only at ip;clear mW l0 he hu;obtain⟨y0,ty,un,up,us,ut,v0⟩:=c7.1.c7;have rx:=cq.k 9 rfl;have rt:=cq.free 9;go_wp2_with fail
         go_region_held3 (fun w'=>w'.cell? ⟨w.heap.size,0,none⟩=some (.int .i64 j)/\w'.cell? ⟨w.heap.size,1,none⟩=some (.int .i64 fr)/\w'.cell? ⟨w.heap.size,2,none⟩=some (.int .i64 fz)/\w'.cell? ⟨w.heap.size,3,none⟩=some (.int .i64 gc)/\w'.cell? ⟨w.heap.size,4,none⟩=some (.int .u64 ab)/\w'.cell? ⟨w.heap.size,5,none⟩=some (.int .i64 ge)/\w'.cell? ⟨w.heap.size,6,none⟩=some (.int .i64 gf)) (go_keep) ((go_at_call 116;refine ip.mono ?_;rintro e l' ⟨rfl,mC⟩;have jp:Hid (Ch ag wc l'):=Z (Ch.trans (Ch.refl _ _).drew mC);have on:=Z ((Nx.af jp).row c7.1 c7.2);have k1:=Z (cq.ch jp (fun h=>h));clear mC;obtain⟨i6,i7,i8,i9,ih,ii,io⟩:=on.1.c7;have tm:=k1.k 9 rfl;have tr:=k1.free 9))
         all_goals
          go_upto_region 17 with fail
          obtain⟨og,i5⟩:=nm (l'.setCell (c9,9) (.int .u64 gt));have os:Hid (Ch (aK c9) l' og):=Z (by rw[<-i5];exact(Ch.refl _ _).only _ _);have pp:Hid (Row og c9 62 [.int .i64 4,.int .i64 0,.int .i64 0,.int .u64 id,j,.int .u64 0,.int .u64 0,.int .u64 0,.int .u64 0,.int .u64 gt,.int .u64 0]):=Z (by rw[<-i5];exact k1.set 9 _);rw[i5];clear i5 i6 i7 i8 i9 ih ii io tm tr y0 ty un up us ut v0 rx rt;have mn:=Z ((H.af jp).plain md (Nat.le_trans f.nx.ch.size mk) os);obtain⟨ap,av,bi,bv,bw,c0,c1,cS,cW,dr,cQ⟩:=pp.Am;go_wp2_with fail
          with_reducible refine(gr.out _ _ _ gt mn.out.at_).mono ?_
          rintro e mb ⟨rfl,mc,kb,n⟩;have cL:=Z n;have X:=((n.yk id t1 d.1).1).trans q.1;have a1:=((n.yk id t1 d.1).2 k (by rw[d.2.2.1];exact o.2.2.2.2)).trans q.2;have hex:=cl _ _ _ gt n.at_;rw[X,a1]at hex;have ad:=Z hex;clear hex n X a1 ap av bi bv bw c0 c1 cS cW dr cQ;go_wp2_with fail
          with_reducible refine ad.out.mono ?_
          rintro e hw ⟨rfl,a2,S,A,F⟩;have z:=Z (And.intro A ((mn.nx.trans cL.nx).trans F));clear A F;go_wp2_with fail
          go_end0
          rw[E];exact⟨rfl,a2,S,z.1,z.2⟩)
end
end
end Go.Proofs.YtfnilkpkogipfaaGreatDoor
