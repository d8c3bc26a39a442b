import Derived.Test.YtlihkblppjgebaaGreatDoorCards
import Derived.Test.YtlihkblppjgebaaGreatDoorTie
import Derived.HandedShaped
import Derived.LaidMore
import Derived.LaidHandle
import Derived.ProofKit
import Derived.OpenShut
import Derived.ChangeSame
import Derived.Stop.Joined
import Derived.WideKeyArgs
import Derived.Test.YtlihkblppjgebaaGreatDoorZAl
import Derived.Test.YtlihkblppjgebaaGreatDoorZAm
import Derived.Test.YtlihkblppjgebaaGreatDoorZAn
set_option linter.all false
set_option maxRecDepth 100000
set_option maxHeartbeats 0
namespace Go.Proofs.YtlihkblppjgebaaGreatDoor
open Go.RowKit Go.Proofs.Tryz
variable{w:World}{χ:Nat->a'}{L:cU}{Y:Var}{C:KC}{K:KS}
theorem En{i:Nat}(a:i<K.wk.length)(c:cJ)(v:Bool):(K.bj i {K.W i with parked:=v}).F c=K.F c:=by
 cases c with
 |own j=>
  show((K.bj i _).W j).f=(K.W j).f
  by_cases e:i=j
  ·subst e;rw[gM a]
  ·have:(K.bj i {K.W i with parked:=v}).W j=K.W j:=by
    unfold KS.W KS.bj;simp only[List.getD_eq_getElem?_getD,List.getElem?_set_ne e]
   rw[this]
 |ai id k=>rfl
theorem uA(n:Value)(idO:Option Int)(i:Nat)(c:cJ)(b o:Nat)(a d e g f j:Int)(h:ae w χ L Y C K):
 Calls prog 133 #[(L.mb,0),(L.wb,i*38),n,(b,o),.agg #[.int .i64 22,a,d,e,.int .u64 g,f,j]] w (dO (az C K i idO c ⟨22,a,d,e,g,f,j⟩) χ L Y C K w):=by
 obtain⟨w0,m,p,k,l⟩:=h.sh 22 a d e g f j;have t0:=l.c1;have E:Hid (az C K i idO c ⟨22,a,d,e,g,f,j⟩=(2,K)):=Z (by unfold az;dsimp only;rw[if_neg (by decide),if_neg (by decide),if_neg (by decide),if_neg (by decide),if_neg (by decide),if_neg (by decide),if_neg (by decide),if_pos rfl]);go_in
 go_wp2
 try rw[m]
 go_ret;rw[E];exact⟨rfl,χ,Y,k.at_,k.nx,fun _=>k.yk⟩
theorem uB(a1:Value)(idO:Option Int)(i:Nat)(V:i<K.wk.length)(c:cJ)(b o:Nat)(U:aj K c)(X:aR L Y c b o)(a l m p n r:Int)(T:0<=a/\a<32)(h:ae w χ L Y C K):
 Calls prog 133 #[(L.mb,0),(L.wb,i*38),a1,(b,o),.agg #[.int .i64 36,a,l,m,.int .u64 p,n,r]] w (dO (az C K i idO c ⟨36,a,l,m,p,n,r⟩) χ L Y C K w):=by
 have F:=Z U;have G:=Z X;have u:=Z V;obtain⟨w0,P,a2,z,t⟩:=h.pre 36 a l m p n r;obtain⟨t0,t1⟩:=t.1.c2;obtain⟨al,am⟩:=T;have W:L.wb≠w.heap.size:=Nat.ne_of_lt (h.wk (by simp)).is.lt;have ab:=W.symm;obtain⟨q,d⟩:=nm (gu K 0);have H:=Z (fun w h=>xF (K:=K) (w:=w) (χ:=χ) (L:=L) (Y:=Y) (C:=C) 0 ⟨by omega,by omega⟩ h);have M:q.2.ai=K.ai/\q.2.wk=K.wk:=by rw[<-d];exact⟨rfl,rfl⟩
 have hF:(q.2.F c)=K.F c:=by rw[<-d];cases c<;>rfl
 rw[d]at H;have S:=Z d;obtain⟨pv,K1⟩:=q;dsimp only at M hF;have f:=Z M;obtain⟨s,B⟩:∃y,(K.F c).r a.toNat=y:=⟨_,rfl⟩;have a3:=Z B;have x:Hid ((K1.F c).r a.toNat=s):=Z (by rw[hF];exact B);have D:=z.at_.aA F G a.toNat (by omega);rw[B]at D;obtain⟨pk,a0⟩:=nm ((pv==s));have E:Hid (az C K i idO c ⟨36,a,l,m,p,n,r⟩=((if pk then 1 else 0),K1.bj i {K1.W i with parked:=pk})):=Z (by unfold az;dsimp only;rw[if_neg (by decide),if_neg (by decide),if_pos rfl,S];dsimp only;rw[x,a0];cases pk<;>rfl);cases pk
 all_goals
  go_in
  go_wp2
  try rw[P]
  try clear P
  go_region_held3 (fun w'=>w'.cell? ⟨w.heap.size,1,none⟩=some (.int .i64 a)/\w'.cell? (b,o+1+a.toNat)=some (.int .u64 s)) (go_keep) ((go_at_call 51;refine(H _ z.at_.drew).mono ?_;rintro e w1 ⟨rfl,dZ,Y1,J⟩;have g:=Z ((z.af ay).trans (Gr.refl _) J);have R:=Z (((Nx.af (Ch.refl _ w0).drew).trans J.nx).row t.1 t.2);have j:=Z (g.cur F G (Gr.of_eq f.1) (by rw[f.2]));have t1:=R.1.k 1 rfl;have D:=g.at_.aA j.1 j.2 a.toNat (by omega);rw[x]at D;have ad:=g.at_.we (i:=i) (by rw[f.2];exact u);have a4:=g.at_.uq (i*38+2);have N:=Z (fun v=>g.at_.pH (i:=i) (by rw[f.2];exact u) v);have O:∀v,(w1.setCell (L.wb,i*38+2) (.bool v)).cell? (b,o+1+a.toNat)=some (.int .u64 s):=(fun v=>by obtain⟨Q,I,k⟩:=N v;have d:=k.cur j.1 j.2 (Gr.of_eq rfl) (bG _ _);have:=k.at_.aA d.1 d.2 a.toNat (by omega);rw[En (by rw[f.2];exact u) c v,x]at this;exact this);have a5:=O false;have a9:=O true))
  all_goals
   go_wp2
   go_ret;rw[E];obtain⟨Q,I,k⟩:=N _;have A:=g.trans (Gr.of_eq f.1) k;exact⟨rfl,Q,I,A.at_,A.nx,fun _=>A.yk⟩
section
variable{l:List aF}{id:Int}{r:aF}{i p:Nat}{t:Thread}{x y:aC}
structure fF(f:cP):Prop where
 r:∀k,k<32->aK (f.r k)
 back:f.back.length<=8
structure e6(l:List Frame):Prop where
 n0:0<l.length
 n8:l.length<=8
 cg:∀k f,l[k]?=some f->f.cg=(k%2==1)
 lY:∀f∈l,fF f.f
structure od(id:Int)(t:Thread):Prop where
 id:t.id=id
 eY:aK t.eY
 l:e6 t.l
structure hW(x:aC):Prop where
 f:fF x.f
 l0:0<=x.left
 l1:x.left<=24
def eH(l:List aF)(id:Int):Option aF:=match l[(id%64).toNat]? with|none=>none|some r=>if r.taken&&r.t.id==id then some r else none
def st(l:List aF)(id:Int):Int:=match eH l id with|none=>0|some r=>r.t.state
theorem fi:(d' l id=none/\eH l id=none)∨∃r,d' l id=some (id%64).toNat/\l[(id%64).toNat]?=some r/\eH l id=some r:=by
 unfold d' eH;cases h:l[(id%64).toNat]? with
 |none=>exact Or.inl ⟨rfl,rfl⟩
 |some r=>
  dsimp only;by_cases a:(r.taken&&r.t.id==id)=true
  ·rw[if_pos a,if_pos a];exact Or.inr ⟨r,rfl,rfl,rfl⟩
  ·rw[if_neg a,if_neg a];exact Or.inl ⟨rfl,rfl⟩
theorem uD(h:eH l id=some r):l[(id%64).toNat]?=some r/\r.taken=true/\r.t.id=id:=by
 unfold eH at h;split at h
 ·cases h
 ·rename_i r' b
  split at h
  ·rename_i a
   rw[Bool.and_eq_true,beq_iff_eq]at a;have:r'=r:=Option.some.inj h;subst this;exact⟨b,a.1,a.2⟩
  ·cases h
theorem nj(a:p<l.length)(r':aF)(id:Int):eH (l.set p r') id=if(id%64).toNat=p then(if r'.taken&&r'.t.id==id then some r' else none)else eH l id:=by
 unfold eH;by_cases e:(id%64).toNat=p
 ·rw[if_pos e,e,List.getElem?_set_self a]
 ·rw[if_neg e,List.getElem?_set_ne (fun h=>e h.symm)]
theorem Cy(h:eH l id=some r)(r':aF)(b:r'.taken=true->r'.t.id=id):
 (∀j,j≠id->eH (l.set (id%64).toNat r') j=eH l j)/\eH (l.set (id%64).toNat r') id=if r'.taken then some r' else none:=by
 obtain⟨c,m,g⟩:=uD h;have f:=(List.getElem?_eq_some_iff.1 c).1;refine⟨fun j d=> ?_,?_⟩
 ·rw[nj f]
  split
  ·rename_i e
   rw[if_neg]
   ·unfold eH;rw[e,c];dsimp only;rw[if_neg]
    rw[Bool.and_eq_true,beq_iff_eq];exact fun a=>d (by rw[<-a.2,g])
   ·rw[Bool.and_eq_true,beq_iff_eq]
    exact fun a=>d (by rw[<-a.2,b a.1])
  ·rfl
 ·rw[nj f,if_pos rfl]
  cases k:r'.taken with
  |false=>rfl
  |true=>simp[b k]
theorem lZ(K:KS)(id:Int):cz K id=st K.table id:=by
 unfold cz fx st;rcases fi (l:=K.table) (id:=id)with⟨a,b⟩|⟨r,a,b,c⟩
 ·rw[a,b];rfl
 ·rw[a,c];dsimp only;rw[b]
structure pM(N p:Nat)(r:aF):Prop where
 t0:0<=r.times
 t1:r.times<=N
 id:r.taken=true->r.t.id%64=p/\64<=r.t.id/\r.t.id<=64*N+63
 home:aK r.t.home
 value:aK r.t.value
structure e0(N:Nat)(l:List aF):Prop where
 len:l.length=64
 row:∀p r,l[p]?=some r->pM N p r
theorem pM.more{N N':Nat}(h:pM N p r)(b:N<=N'):pM N' p r:=⟨h.t0,by have:=h.t1;omega,fun a=>by have:=h.id a;omega,h.home,h.value⟩
theorem e0.more{N N':Nat}(h:e0 N l)(a:N<=N'):e0 N' l:=⟨h.len,fun p r b=>(h.row p r b).more a⟩
theorem e0.set{N:Nat}(h:e0 N l)(c:pM N p r):e0 N (l.set p r):=by
 refine⟨by rw[List.length_set,h.len],fun q x a=> ?_⟩;by_cases e:p=q
 ·subst e
  have b:p<l.length:=by have:=(List.getElem?_eq_some_iff.1 a).1;simpa using this
  rw[List.getElem?_set_self b]at a;rw[<-Option.some.inj a];exact c
 ·rw[List.getElem?_set_ne e]at a;exact h.row q x a
theorem e0.at{N:Nat}(h:e0 N l)(d:eH l id=some r):pM N (id%64).toNat r/\r.taken=true/\r.t.id=id/\64<=id/\id<=64*N+63:=by
 obtain⟨b,a,c⟩:=uD d;have:=h.row _ _ b;have e:=this.id a;exact⟨this,a,c,by omega,by omega⟩
def iO(wk:List aC)(id:Int):Nat:=wk.countP fun x=>x.slot==id
def qR(wk:List aC)(id:Int):Nat:=wk.countP fun x=>x.hand==id
def oe(ring:List Int)(id:Int):Nat:=ring.countP fun x=>x==id
def ev(wk:List aC)(ring:List Int)(id:Int):Nat:=iO wk id+qR wk id+oe ring id
theorem mO{α:Type}(p:α->Bool)(l:List α)(i:Nat)(x y:α)(h:l[i]?=some x):(l.set i y).countP p+(if p x then 1 else 0)=l.countP p+(if p y then 1 else 0):=by
 induction l generalizing i with
 |nil=>cases h
 |cons z l ih=>
  cases i with
  |zero=>
   have:z=x:=Option.some.inj h;subst this;rw[List.set_cons_zero,List.countP_cons,List.countP_cons];omega
  |succ i=>
   rw[List.set_cons_succ,List.countP_cons,List.countP_cons];have:=ih i h;omega
structure Core(N:Nat)(tb:List aF)(th:List (Int×Thread))(ws:List aC)(ring:List Int):Prop where
 cZ:e0 N tb
 al:∀id r,eH tb id=some r->fU r.t.state=true->(aw th id).isSome=true
 ai:∀id t,aw th id=some t->od id t/\∃r,eH tb id=some r/\(r.t.state=4->r.t.aG=true)
 one:∀id,id≠0->ev ws ring id<=1
 sH:∀id,id≠0->0<ev ws ring id->(aw th id).isSome=true/\st tb id≠3
 slt:∀id,id≠0->0<iO ws id->st tb id≠1
 wk:∀x∈ws,hW x
section
variable{N N':Nat}{tb lC:List aF}{ai yf:List (Int×Thread)}{wk uE:List aC}{ring k8:List Int}
theorem DF{l':List aF}(h:eH l' id=eH l id):st l' id=st l id:=by unfold st;rw[h]
theorem Core.fW(c:Core N tb ai wk ring)(id:Int)(o:e0 N' lC)
 (b:∀j,j≠id->eH lC j=eH tb j) (g:∀j,j≠id->aw yf j=aw ai j)
 (d:∀j,j≠id->j≠0->iO uE j<=iO wk j/\ev uE k8 j<=ev wk ring j)
 (w:∀x∈uE,hW x)
 (q:∀r,eH lC id=some r->fU r.t.state=true->(aw yf id).isSome=true)
 (v:∀t,aw yf id=some t->od id t/\∃r,eH lC id=some r/\(r.t.state=4->r.t.aG=true))
 (n:id≠0->ev uE k8 id<=1)
 (s:id≠0->0<ev uE k8 id->(aw yf id).isSome=true/\st lC id≠3)
 (u:id≠0->0<iO uE id->st lC id≠1):Core N' lC yf uE k8 where
 cZ:=o
 al:=fun j r k m=>by
  by_cases e:j=id
  ·subst e;exact q r k m
  ·rw[b j e]at k;rw[g j e];exact c.al j r k m
 ai:=fun j t h=>by
  by_cases e:j=id
  ·subst e;exact v t h
  ·rw[g j e]at h;rw[b j e];exact c.ai j t h
 one:=fun j a=>by
  by_cases e:j=id
  ·subst e;exact n a
  ·have:=(d j e a).2;have:=c.one j a;omega
 sH:=fun j a f=>by
  by_cases e:j=id
  ·subst e;exact s a f
  ·rw[g j e,DF (b j e)];exact c.sH j a (by have:=(d j e a).2;omega)
 slt:=fun j a f=>by
  by_cases e:j=id
  ·subst e;exact u a f
  ·rw[DF (b j e)];exact c.slt j a (by have:=(d j e a).1;omega)
 wk:=w
theorem Core.more(c:Core N tb ai wk ring)(a:N<=N'):Core N' tb ai wk ring:=⟨c.cZ.more a,c.al,c.ai,c.one,c.sH,c.slt,c.wk⟩
theorem Core.row(c:Core N tb ai wk ring)(h:aw ai id=some t):∃r,eH tb id=some r/\(r.t.state=4->r.t.aG=true)/\64<=id/\id<=64*N+63:=by
 obtain⟨_,r,a,b⟩:=c.ai id t h;have:=c.cZ.at a;exact⟨r,a,b,this.2.2.2⟩
theorem Core.cp(c:Core N tb ai wk ring){b:Thread}(h:aw ai id=some t)(d:od id b):Core N tb (cn ai id b) wk ring:=
 c.fW id c.cZ (fun _ _=>rfl) (fun j f=>by rw[aV,if_neg f]) (fun _ _ _=>⟨Nat.le_refl _,Nat.le_refl _⟩) c.wk
  (fun r m k=>by rw[aV,if_pos rfl];rfl)
  (fun u a=>by rw[aV,if_pos rfl]at a;rw[<-Option.some.inj a];exact⟨d,(c.ai id t h).2⟩)
  (c.one id) (fun e g=>⟨by rw[aV,if_pos rfl];rfl,(c.sH id e g).2⟩) (c.slt id)
theorem e1(h:wk[i]?=some x)(id:Int):iO (wk.set i y) id+(if x.slot==id then 1 else 0)=iO wk id+(if y.slot==id then 1 else 0):=mO _ _ _ _ _ h
theorem e2(h:wk[i]?=some x)(id:Int):qR (wk.set i y) id+(if x.hand==id then 1 else 0)=qR wk id+(if y.hand==id then 1 else 0):=mO _ _ _ _ _ h
theorem hX{P:aC->Prop}(h:∀x∈wk,P x)(c:P y):∀x∈wk.set i y,P x:=fun x b=>by
 rcases List.mem_or_eq_of_mem_set b with a|rfl
 ·exact h x a
 ·exact c
theorem Core.bj(c:Core N tb ai wk ring)(h:wk[i]?=some x)(k:y.slot=x.slot)(g:y.hand=x.hand)(m:hW y):Core N tb ai (wk.set i y) ring:=by
 have d:∀j,iO (wk.set i y) j=iO wk j:=fun j=>by have:=e1 (y:=y) h j;rw[k]at this;omega
 have f:∀j,qR (wk.set i y) j=qR wk j:=fun j=>by have:=e2 (y:=y) h j;rw[g]at this;omega
 have e:∀j,ev (wk.set i y) ring j=ev wk ring j:=fun j=>by unfold ev;rw[d,f]
 exact⟨c.cZ,c.al,c.ai,fun id a=>by rw[e];exact c.one id a,fun id a b=>c.sH id a (by rwa [e]at b),fun id a b=>c.slt id a (by rwa [d]at b),hX c.wk m⟩
theorem Er(l:List aF)(id s:Int):(j4 l id s).2=match eH l id with|none=>l|some r=>if fU s=true/\r.t.state≠4 then l.set (id%64).toNat {r with t:={r.t with state:=s}}else l:=by
 unfold j4;rcases fi (l:=l) (id:=id)with⟨a,b⟩|⟨r,a,b,e⟩
 ·rw[a,b]
 ·rw[a,e];dsimp only;rw[b];dsimp only
  by_cases c:fU s=true
  ·by_cases d:r.t.state=4
   ·simp[c,d]
   ·simp[c,d]
  ·simp[c]
theorem Cz(l:List aF)(id v:Int):(gi l id v).2=match eH l id with|none=>l|some r=>if r.t.state≠4 then l.set (id%64).toNat {r with t:={r.t with state:=4,value:=v,aG:=true}}else l:=by
 unfold gi;rcases fi (l:=l) (id:=id)with⟨a,b⟩|⟨r,a,b,d⟩
 ·rw[a,b]
 ·rw[a,d];dsimp only;rw[b];dsimp only
  by_cases c:r.t.state=4
  ·simp[c]
  ·simp[c]
theorem Aj(l:List aF)(id a:Int):(hJ l id a).2=match eH l id with|none=>l|some r=>if a≠0/\r.t.bH=0/\r.t.loose=false then l.set (id%64).toNat {r with t:={r.t with bH:=a}}else l:=by
 unfold hJ;rcases fi (l:=l) (id:=id)with⟨b,c⟩|⟨r,b,c,e⟩
 ·rw[b,c]
 ·rw[b,e];dsimp only;rw[c];dsimp only
  by_cases d:a=0
  ·simp[d]
  ·by_cases f:r.t.bH=0<;>cases g:r.t.loose<;>simp[d,f,g]
theorem yg(l:List aF)(id:Int):(e8 l id).2=match eH l id with|none=>l|some r=>if r.t.bH=0/\r.t.loose=false then(if r.t.state=4/\r.t.aG=false then l.set (id%64).toNat r.gone else l.set (id%64).toNat {r with t:={r.t with loose:=true}})else l:=by
 unfold e8;rcases fi (l:=l) (id:=id)with⟨a,b⟩|⟨r,a,b,c⟩
 ·rw[a,b]
 ·rw[a,c];dsimp only;rw[b];dsimp only
  by_cases e:r.t.bH=0<;>cases f:r.t.loose<;>by_cases d:r.t.state=4<;>cases g:r.t.aG<;>simp[e,f,d,g]
theorem yh(l:List aF)(id:Int):(eN l id).2=match eH l id with|none=>l|some r=>if r.t.aG=true then(if r.t.loose=true∨r.bL=true then l.set (id%64).toNat r.gone else l.set (id%64).toNat {r with t:={r.t with aG:=false}})else l:=by
 unfold eN;rcases fi (l:=l) (id:=id)with⟨a,b⟩|⟨r,a,b,c⟩
 ·rw[a,b]
 ·rw[a,c];dsimp only;rw[b];dsimp only
  cases e:r.t.loose<;>cases d:r.bL<;>cases f:r.t.aG<;>simp[e,d,f]
theorem Ak(l:List aF)(id:Int):(fy l id).2.2.2.2=(match eH l id with|none=>l|some r=>if r.t.state=4/\r.t.loose=false/\r.bL=false then(if r.t.aG=true then l.set (id%64).toNat {r with bL:=true}else l.set (id%64).toNat r.gone)else l)/\
 ((fy l id).2.1=0∨∃r,eH l id=some r/\(fy l id).2.1=r.t.value)/\((fy l id).2.2.1=0∨∃r,eH l id=some r/\(fy l id).2.2.1=r.t.home):=by
 unfold fy;rcases fi (l:=l) (id:=id)with⟨a,b⟩|⟨r,a,b,c⟩
 ·rw[a,b];exact⟨rfl,Or.inl rfl,Or.inl rfl⟩
 ·rw[a,c];dsimp only;rw[b];dsimp only
  by_cases d:r.t.state=4<;>cases e:r.t.loose<;>cases f:r.bL<;>cases g:r.t.aG<;>simp[d,e,f,g]
structure eh(N:Nat)(tb lC:List aF)(id:Int):Prop where
 ok:e0 N lC
 Ft:∀j,j≠id->eH lC j=eH tb j
theorem eh.refl(h:e0 N tb)(id:Int):eh N tb tb id:=⟨h,fun _ _=>rfl⟩
theorem eh.set(h:e0 N tb)(c:eH tb id=some r){r':aF}(d:r'.times=r.times)(b:r'.taken=true->r'.t.id=id)(k:aK r'.t.home)(m:aK r'.t.value):eh N tb (tb.set (id%64).toNat r') id/\eH (tb.set (id%64).toNat r') id=if r'.taken then some r' else none:=by
 obtain⟨a,n,o,g,j⟩:=h.at c;have f:=Cy c r' b;refine⟨⟨h.set ⟨by rw[d];exact a.t0,by rw[d];exact a.t1,fun e=> ?_,k,m⟩,f.1⟩,f.2⟩;rw[b e];exact⟨by omega,g,j⟩
theorem eh.trans{b:List aF}(h:eh N tb lC id)(k:eh N lC b id):eh N tb b id:=⟨k.ok,fun j a=>(k.Ft j a).trans (h.Ft j a)⟩
theorem bE:aK (0:Int):=⟨by decide,by decide⟩
theorem CA(h:e0 N tb)(id s:Int)(f:fU s=true):eh N tb (j4 tb id s).2 id/\(eH tb id=none->eH (j4 tb id s).2 id=none)/\
 ∀r,eH tb id=some r->∃r',eH (j4 tb id s).2 id=some r'/\((r.t.state=4/\r'=r)∨(r.t.state≠4/\r'.t.state=s)):=by
 rw[Er];cases c:eH tb id with
 |none=>dsimp only;exact⟨eh.refl h id,fun _=>c,fun r e=>by cases e⟩
 |some r=>
  dsimp only;by_cases b:r.t.state=4
  ·rw[if_neg (by rintro⟨_,e⟩;exact e b)]
   refine⟨eh.refl h id,(fun e=>by cases e),fun x d=> ?_⟩;have:r=x:=Option.some.inj d;subst this;exact⟨r,c,Or.inl ⟨b,rfl⟩⟩
  ·rw[if_pos ⟨f,b⟩]
   have a:=h.at c;have:=eh.set h c (r':={r with t:={r.t with state:=s}}) rfl (fun _=>a.2.2.1) a.1.home a.1.value;refine⟨this.1,(fun e=>by cases e),fun x d=> ?_⟩;have e:r=x:=Option.some.inj d;subst e;refine⟨_,by rw[this.2,if_pos a.2.1],Or.inr ⟨b,rfl⟩⟩
theorem sI(h:e0 N tb)(id v:Int)(g:aK v):eh N tb (gi tb id v).2 id/\(eH tb id=none->eH (gi tb id v).2 id=none)/\
 ∀r,eH tb id=some r->(r.t.state=4->r.t.aG=true)->∃r',eH (gi tb id v).2 id=some r'/\r'.t.state=4/\r'.t.aG=true:=by
 rw[Cz];cases b:eH tb id with
 |none=>dsimp only;exact⟨eh.refl h id,fun _=>b,fun r e=>by cases e⟩
 |some r=>
  dsimp only;by_cases a:r.t.state=4
  ·rw[if_neg (by intro e;exact e a)]
   refine⟨eh.refl h id,(fun e=>by cases e),fun x d f=> ?_⟩;have:r=x:=Option.some.inj d;subst this;exact⟨r,b,a,f a⟩
  ·rw[if_pos a]
   have c:=h.at b;have:=eh.set h b (r':={r with t:={r.t with state:=4,value:=v,aG:=true}}) rfl (fun _=>c.2.2.1) c.1.home g;refine⟨this.1,(fun e=>by cases e),fun x d _=> ?_⟩;exact⟨_,by rw[this.2,if_pos c.2.1],rfl,rfl⟩
theorem uF(h:e0 N tb)(id:Int):eh N tb (eN tb id).2 id/\
 ∀r,eH tb id=some r->r.t.state=4->∀r',eH (eN tb id).2 id=some r'->r'.t.state=4:=by
 rw[yh];cases d:eH tb id with
 |none=>dsimp only;exact⟨eh.refl h id,fun r e=>by cases e⟩
 |some r=>
  dsimp only;have b:=h.at d;split
  ·split
   ·have:=eh.set h d (r':=r.gone) rfl (fun e=>by cases e) bE bE
    refine⟨this.1,fun x f c r' a=> ?_⟩;rw[this.2,if_neg (by simp[aF.gone])]at a;cases a
   ·have:=eh.set h d (r':={r with t:={r.t with aG:=false}}) rfl (fun _=>b.2.2.1) b.1.home b.1.value
    refine⟨this.1,fun x f c r' a=> ?_⟩;rw[this.2,if_pos b.2.1]at a;rw[<-Option.some.inj a,Option.some.inj f];exact c
  ·refine⟨eh.refl h id,fun x f c r' a=> ?_⟩
   rw[d]at a;rw[<-Option.some.inj a,Option.some.inj f];exact c
def wq(tb lC:List aF)(id:Int):Prop:=(eH tb id=none->eH lC id=none)/\∀r,eH tb id=some r->(∃r',eH lC id=some r'/\r'.t.state=r.t.state/\r'.t.aG=r.t.aG)∨(eH lC id=none/\r.t.state=4/\r.t.aG=false)
theorem yi(h:e0 N tb)(id d:Int):eh N tb (hJ tb id d).2 id/\wq tb (hJ tb id d).2 id:=by
 rw[Aj];cases a:eH tb id with
 |none=>dsimp only;exact⟨eh.refl h id,fun _=>a,fun r e=>by rw[a]at e;cases e⟩
 |some r=>
  dsimp only;have c:=h.at a;split
  ·have:=eh.set h a (r':={r with t:={r.t with bH:=d}}) rfl (fun _=>c.2.2.1) c.1.home c.1.value
   refine⟨this.1,(fun e=>by rw[a]at e;cases e),fun x b=>Or.inl ?_⟩;rw[a]at b;exact⟨_,by rw[this.2,if_pos c.2.1],by rw[<-Option.some.inj b],by rw[<-Option.some.inj b]⟩
  ·exact⟨eh.refl h id,fun e=>e,fun x b=>Or.inl ⟨x,b,rfl,rfl⟩⟩
theorem uG(h:e0 N tb)(id:Int):eh N tb (e8 tb id).2 id/\wq tb (e8 tb id).2 id:=by
 rw[yg];cases a:eH tb id with
 |none=>dsimp only;exact⟨eh.refl h id,fun _=>a,fun r e=>by rw[a]at e;cases e⟩
 |some r=>
  dsimp only;have c:=h.at a;split
  ·split
   ·rename_i d
    have:=eh.set h a (r':=r.gone) rfl (fun e=>by cases e) bE bE;refine⟨this.1,(fun e=>by rw[a]at e;cases e),fun x b=>Or.inr ?_⟩;rw[a]at b;rw[<-Option.some.inj b];exact⟨by rw[this.2,if_neg (by simp[aF.gone])],d.1,d.2⟩
   ·have:=eh.set h a (r':={r with t:={r.t with loose:=true}}) rfl (fun _=>c.2.2.1) c.1.home c.1.value
    refine⟨this.1,(fun e=>by rw[a]at e;cases e),fun x b=>Or.inl ?_⟩;rw[a]at b;exact⟨_,by rw[this.2,if_pos c.2.1],by rw[<-Option.some.inj b],by rw[<-Option.some.inj b]⟩
  ·exact⟨eh.refl h id,fun e=>e,fun x b=>Or.inl ⟨x,b,rfl,rfl⟩⟩
theorem yj(h:e0 N tb)(id:Int):eh N tb (fy tb id).2.2.2.2 id/\wq tb (fy tb id).2.2.2.2 id/\aK (fy tb id).2.1:=by
 obtain⟨g,c,_⟩:=Ak tb id;have f:aK (fy tb id).2.1:=by
  rcases c with c|⟨r,a,c⟩
  ·rw[c];exact bE
  ·rw[c];exact(h.at a).1.value
 rw[g];cases a:eH tb id with
 |none=>dsimp only;exact⟨eh.refl h id,⟨fun _=>a,fun r e=>by rw[a]at e;cases e⟩,f⟩
 |some r=>
  dsimp only;have d:=h.at a;split
  ·rename_i j
   split
   ·have:=eh.set h a (r':={r with bL:=true}) rfl (fun _=>d.2.2.1) d.1.home d.1.value
    refine⟨this.1,⟨(fun e=>by rw[a]at e;cases e),fun x b=>Or.inl ?_⟩,f⟩;rw[a]at b;exact⟨_,by rw[this.2,if_pos d.2.1],by rw[<-Option.some.inj b],by rw[<-Option.some.inj b]⟩
   ·rename_i k
    have:=eh.set h a (r':=r.gone) rfl (fun e=>by cases e) bE bE;refine⟨this.1,⟨(fun e=>by rw[a]at e;cases e),fun x b=>Or.inr ?_⟩,f⟩;rw[a]at b;rw[<-Option.some.inj b];exact⟨by rw[this.2,if_neg (by simp[aF.gone])],j.1,by simpa using k⟩
  ·exact⟨eh.refl h id,⟨fun e=>e,fun x b=>Or.inl ⟨x,b,rfl,rfl⟩⟩,f⟩
theorem sJ{s:Int}:fU s=true↔s=1∨s=2∨s=3:=by unfold fU;simp[or_assoc]
theorem Core.same(c:Core N tb ai wk ring)(s:eh N tb lC id)(m:wq tb lC id):Core N lC ai wk ring:=by
 have q:(aw ai id).isSome=true->st lC id=st tb id:=fun u=>by
  obtain⟨t,n⟩:=Option.isSome_iff_exists.1 u;obtain⟨_,r,b,k⟩:=c.ai id t n;rcases m.2 r b with⟨r',d,a,_⟩|⟨_,a,f⟩
  ·unfold st;rw[d,b];exact a
  ·rw[k a]at f;cases f
 refine c.fW id s.ok s.Ft (fun _ _=>rfl) (fun _ _ _=>⟨Nat.le_refl _,Nat.le_refl _⟩) c.wk (fun r' h o=> ?_) (fun t n=>⟨(c.ai id t n).1,?_⟩) (c.one id) (fun g j=>⟨(c.sH id g j).1,?_⟩) (fun g j=> ?_)
 ·cases b:eH tb id with
  |none=>rw[m.1 b]at h;cases h
  |some r=>
   rcases m.2 r b with⟨v,d,a,_⟩|⟨d,_⟩
   ·rw[d]at h
    rw[<-Option.some.inj h,a]at o;exact c.al id r b o
   ·rw[d]at h;cases h
 ·obtain⟨_,r,b,k⟩:=c.ai id t n
  rcases m.2 r b with⟨r',d,a,f⟩|⟨_,a,f⟩
  ·exact⟨r',d,fun e=>by rw[f];exact k (by rw[<-a];exact e)⟩
  ·rw[k a]at f;cases f
 ·rw[q (c.sH id g j).1];exact(c.sH id g j).2
 ·rw[q (c.sH id g (by unfold ev;omega)).1];exact c.slt id g j
theorem Core.ended(c:Core N tb ai wk ring)(a:aw ai id=some t)(v:Int)(n:aK v):Core N (gi tb id v).2 ai wk ring:=by
 obtain⟨r,k,g,_⟩:=c.row a;obtain⟨b,_,f⟩:=sI c.cZ id v n;obtain⟨r',d,h,j⟩:=f r k g;have e:st (gi tb id v).2 id=4:=by unfold st;rw[d];exact h
 exact c.fW id b.ok b.Ft (fun _ _=>rfl) (fun _ _ _=>⟨Nat.le_refl _,Nat.le_refl _⟩) c.wk (fun _ _ _=>by rw[a];rfl) (fun u m=>⟨(c.ai id u m).1,r',d,fun _=>j⟩) (c.one id)
  (fun o q=>⟨by rw[a];rfl,by rw[e];decide⟩) (fun _ _=>by rw[e];decide)
theorem CB(h:wk[i]?=some x)(a:x.slot=id):0<iO wk id:=List.countP_pos_iff.2 ⟨x,List.mem_of_getElem? h,by simp[a]⟩
theorem CC(h:wk[i]?=some x)(a:x.hand=id):0<qR wk id:=List.countP_pos_iff.2 ⟨x,List.mem_of_getElem? h,by simp[a]⟩
theorem Core.k9(c:Core N tb ai wk ring)(h:wk[i]?=some x)(a:x.slot≠0):∃t,aw ai x.slot=some t:=Option.isSome_iff_exists.1 (c.sH _ a (by have:=CB h (id:=x.slot) rfl;unfold ev;omega)).1
theorem Core.qS(c:Core N tb ai wk ring)(h:wk[i]?=some x)(a:x.hand≠0):∃t,aw ai x.hand=some t:=Option.isSome_iff_exists.1 (c.sH _ a (by have:=CC h (id:=x.hand) rfl;unfold ev;omega)).1
theorem gz(ring:List Int)(id j:Int):oe (hG ring id).2 j<=oe ring j+(if id=j then 1 else 0)/\(j≠id->oe (hG ring id).2 j=oe ring j):=by
 unfold hG;split
 ·exact⟨Nat.le_add_right _ _,fun _=>rfl⟩
 ·unfold oe
  dsimp only;rw[List.countP_append,List.countP_cons,List.countP_nil];by_cases e:id=j
  ·subst e;simp
  ·have a:(id==j)=false:=by simpa using e
   simp[e,a]
theorem Core.move(c:Core N tb ai wk ring)(d:aw ai id=some t)(s:Int)(b:fU s=true)(C:∀x∈uE,hW x)
 (q:∀j,j≠id->j≠0->iO uE j<=iO wk j/\ev uE k8 j<=ev wk ring j) (m:ev uE k8 id<=1)
 (v:s=3->ev uE k8 id=0) (A:s=1->iO uE id=0):Core N (j4 tb id s).2 ai uE k8:=by
 obtain⟨r,z,o,_⟩:=c.row d;obtain⟨k,_,n⟩:=CA c.cZ id s b;obtain⟨r',f,a⟩:=n r z;have g:st (j4 tb id s).2 id=4∨st (j4 tb id s).2 id=s:=by
  unfold st;rw[f];rcases a with⟨a,rfl⟩|⟨_,a⟩
  ·exact Or.inl a
  ·exact Or.inr a
 refine c.fW id k.ok k.Ft (fun _ _=>rfl) q C (fun _ _ _=>by rw[d];rfl) (fun u B=>⟨(c.ai id u B).1,r',f,fun e=> ?_⟩) (fun _=>m) (fun _ w=>⟨by rw[d];rfl,?_⟩) (fun _ w=> ?_)
 ·rcases a with⟨a,rfl⟩|⟨_,a⟩
  ·exact o a
  ·rw[a]at e;rw[e]at b;exact absurd b (by decide)
 ·rcases g with h|h<;>rw[h]
  ·decide
  ·intro e;have:=v e;omega
 ·rcases g with h|h<;>rw[h]
  ·decide
  ·intro e;have:=A e;omega
end
end
section
variable{id:Int}{t:Thread}{i:Nat}{x y:aC}
section
variable{N N':Nat}{tb lC:List aF}{ai yf:List (Int×Thread)}{wk uE:List aC}{ring k8:List Int}
theorem Core.GF(c:Core N tb ai wk ring)(a:aw ai id=some t):id≠0:=by
 obtain⟨_,_,_,h,_⟩:=c.row a;omega
theorem iP{a b:Int}:(if(a==b)=true then 1 else 0:Nat)=if a=b then 1 else 0:=by simp
theorem Core.k'(c:Core N tb ai wk ring)(k:wk[i]?=some x)(f:x.slot≠0)(r:hW y)(p:y.slot=0)(n:y.hand=x.hand):
 Core N (j4 tb x.slot 1).2 ai (wk.set i y) (hG ring x.slot).2:=by
 obtain⟨t,q⟩:=c.k9 k f;have l:=c.one _ f;have g:=fun j=>e1 (y:=y) k j
 have h:=fun j=>e2 (y:=y) k j
 simp only[iP,p,n]at g h;refine c.move q 1 (by decide) (hX c.wk r) (fun j m o=> ?_) ?_ (fun e=>absurd e (by decide)) (fun _=> ?_)
 ·have a:=g j;have b:=h j;have d:=(gz ring x.slot j).2 m
  rw[if_neg (Ne.symm m),if_neg (Ne.symm o)]at a;unfold ev;omega
 ·have a:=g x.slot;have b:=h x.slot;have d:=(gz ring x.slot x.slot).1
  rw[if_pos rfl,if_neg (Ne.symm f)]at a;rw[if_pos rfl]at d;unfold ev at l⊢;omega
 ·have a:=g x.slot
  rw[if_pos rfl,if_neg (Ne.symm f)]at a;unfold ev at l;omega
theorem Core.l2(c:Core N tb ai wk ring)(h:wk[i]?=some x)(d:x.slot≠0)(q:hW y)(o:y.slot=0)(l:y.hand=x.hand):
 Core N (j4 tb x.slot 3).2 ai (wk.set i y) ring:=by
 obtain⟨t,p⟩:=c.k9 h d;have k:=c.one _ d;have g:=fun j=>e1 (y:=y) h j
 have f:=fun j=>e2 (y:=y) h j
 simp only[iP,o,l]at g f;have r:ev (wk.set i y) ring x.slot=0:=by
  have a:=g x.slot;have b:=f x.slot;rw[if_pos rfl,if_neg (Ne.symm d)]at a;unfold ev at k⊢;omega
 refine c.move p 3 (by decide) (hX c.wk q) (fun j m n=> ?_) (by omega) (fun _=>r) (fun e=>absurd e (by decide));have a:=g j;have b:=f j;rw[if_neg (Ne.symm m),if_neg (Ne.symm n)]at a;unfold ev;omega
theorem Core.oh(c:Core N tb ai wk ring)(k:wk[i]?=some x)(f:x.hand≠0)(r:hW y)(p:y.slot=x.slot)(n:y.hand=0):
 Core N (j4 tb x.hand 1).2 ai (wk.set i y) (hG ring x.hand).2:=by
 obtain⟨t,q⟩:=c.qS k f;have l:=c.one _ f;have h:=fun j=>e1 (y:=y) k j
 have g:=fun j=>e2 (y:=y) k j
 simp only[iP,p,n]at h g;refine c.move q 1 (by decide) (hX c.wk r) (fun j m o=> ?_) ?_ (fun e=>absurd e (by decide)) (fun _=> ?_)
 ·have a:=h j;have b:=g j;have d:=(gz ring x.hand j).2 m
  rw[if_neg (Ne.symm m),if_neg (Ne.symm o)]at b;unfold ev;omega
 ·have a:=h x.hand;have b:=g x.hand;have d:=(gz ring x.hand x.hand).1
  rw[if_pos rfl,if_neg (Ne.symm f)]at b;rw[if_pos rfl]at d;unfold ev at l⊢;omega
 ·have a:=h x.hand;have b:=g x.hand
  rw[if_pos rfl,if_neg (Ne.symm f)]at b;unfold ev at l;omega
theorem Core.Al(c:Core N tb ai wk ring)(h:wk[i]?=some x)(d:x.hand≠0)(q:x.slot=0)(r:hW y)(o:y.slot=x.hand)(n:y.hand=0):
 Core N (j4 tb x.hand 2).2 ai (wk.set i y) ring:=by
 obtain⟨t,p⟩:=c.qS h d;have m:=c.one _ d;have g:=fun j=>e1 (y:=y) h j
 have f:=fun j=>e2 (y:=y) h j
 simp only[iP,o,n,q]at g f;refine c.move p 2 (by decide) (hX c.wk r) (fun j k l=> ?_) ?_ (fun e=>absurd e (by decide)) (fun e=>absurd e (by decide))
 ·have a:=g j;have b:=f j
  rw[if_neg (Ne.symm k),if_neg (Ne.symm l)]at a;rw[if_neg (Ne.symm k),if_neg (Ne.symm l)]at b;unfold ev;omega
 ·have a:=g x.hand;have b:=f x.hand
  rw[if_pos rfl,if_neg (Ne.symm d)]at a;rw[if_pos rfl,if_neg (Ne.symm d)]at b;unfold ev at m⊢;omega
theorem Core.Es(c:Core N tb ai wk ring)(g:aw ai id=some t)(k:ev wk ring id=0)(h:wk[i]?=some x)(l:x.hand=0)(r:hW y)(q:y.slot=x.slot)(m:y.hand=id):
 Core N (j4 tb id 1).2 ai (wk.set i y) ring:=by
 have d:=fun j=>e1 (y:=y) h j
 have f:=fun j=>e2 (y:=y) h j
 simp only[iP,q,m,l]at d f;have n:=c.GF g;refine c.move g 1 (by decide) (hX c.wk r) (fun j o p=> ?_) ?_ (fun e=>absurd e (by decide)) (fun _=> ?_)
 ·have a:=d j;have b:=f j
  rw[if_neg (Ne.symm o),if_neg (Ne.symm p)]at b;unfold ev;omega
 ·have a:=d id;have b:=f id
  rw[if_pos rfl,if_neg (Ne.symm n)]at b;unfold ev at k⊢;omega
 ·have a:=d id
  unfold ev at k;omega
theorem Core.toRing(c:Core N tb ai wk ring)(f:aw ai id=some t)(a:ev wk ring id=0):Core N (j4 tb id 1).2 ai wk (hG ring id).2:=by
 refine c.move f 1 (by decide) c.wk (fun j b g=> ?_) ?_ (fun e=>absurd e (by decide)) (fun _=> ?_)
 ·have d:=(gz ring id j).2 b
  unfold ev;omega
 ·have d:=(gz ring id id).1
  rw[if_pos rfl]at d;unfold ev at a⊢;omega
 ·unfold ev at a;omega
theorem Core.Am(c:Core N tb ai wk ring)(h:st tb id=3):(∃t,aw ai id=some t)/\ev wk ring id=0:=by
 have d:(aw ai id).isSome=true:=by
  unfold st at h;cases a:eH tb id with
  |none=>rw[a]at h;cases h
  |some r=>rw[a]at h;exact c.al id r a (sJ.2 (Or.inr (Or.inr h)))
 obtain⟨t,b⟩:=Option.isSome_iff_exists.1 d;refine⟨⟨t,b⟩,?_⟩;exact Nat.eq_zero_of_not_pos fun e=>(c.sH id (c.GF b) e).2 h
theorem Core.CD(c:Core N tb ai wk ring)(h:st tb id=1)(l:∀x∈wk,x.hand≠id)(m:id∉ring):(∃t,aw ai id=some t)/\ev wk ring id=0:=by
 have n:(aw ai id).isSome=true:=by
  unfold st at h;cases f:eH tb id with
  |none=>rw[f]at h;cases h
  |some r=>rw[f]at h;exact c.al id r f (sJ.2 (Or.inl h))
 obtain⟨t,j⟩:=Option.isSome_iff_exists.1 n;refine⟨⟨t,j⟩,?_⟩;have a:iO wk id=0:=Nat.eq_zero_of_not_pos fun o=>c.slt id (c.GF j) o h
 have b:qR wk id=0:=List.countP_eq_zero.2 fun x g=>by simpa using l x g
 have d:oe ring id=0:=List.countP_eq_zero.2 fun x g e=>m (by
  have k:x=id:=by simpa using e
  rw[<-k];exact g)
 unfold ev;omega
theorem Core.take(c:Core N tb ai wk ring)(h:st tb id=1)(m:∀x∈wk,x.hand≠id)(n:id∉ring)(g:wk[i]?=some x)(l:x.hand=0)(u:hW y)(s:y.slot=x.slot)(o:y.hand=id):
 Core N tb ai (wk.set i y) ring:=by
 obtain⟨⟨t,f⟩,k⟩:=c.CD h m n;have d:=fun j=>e1 (y:=y) g j
 have e:=fun j=>e2 (y:=y) g j
 simp only[iP,s,o,l]at d e;have p:=c.GF f;refine c.fW id c.cZ (fun _ _=>rfl) (fun _ _=>rfl) (fun j q r=> ?_) (hX c.wk u) (fun _ _ _=>by rw[f];rfl) (c.ai id) (fun _=> ?_) (fun _ _=>⟨by rw[f];rfl,by rw[h];decide⟩) (fun _ v=> ?_)
 ·have a:=d j;have b:=e j
  rw[if_neg (Ne.symm q),if_neg (Ne.symm r)]at b;unfold ev;omega
 ·have a:=d id;have b:=e id
  rw[if_pos rfl,if_neg (Ne.symm p)]at b;unfold ev at k⊢;omega
 ·have a:=d id
  unfold ev at k;omega
theorem Core.An(c:Core N tb ai wk ring)(m:wk[i]?=some x)(n:x.hand=0)(q:hW y)(p:y.slot=x.slot)(l:y.hand=(gS ring).1):
 Core N tb ai (wk.set i y) (gS ring).2.2:=by
 cases ring with
 |nil=>exact c.bj m p (by rw[l,n];rfl) q
 |cons id ring=>
  change y.hand=id at l;show Core N tb ai (wk.set i y) ring
  have g:=fun j=>e1 (y:=y) m j
  have h:=fun j=>e2 (y:=y) m j
  simp only[iP,p,l,n]at g h;have k:∀j,oe (id::ring) j=oe ring j+if id=j then 1 else 0:=fun j=>by
   unfold oe;rw[List.countP_cons];simp
  refine c.fW id c.cZ (fun _ _=>rfl) (fun _ _=>rfl) (fun j o r=> ?_) (hX c.wk q) (c.al id) (c.ai id) (fun f=> ?_) (fun f s=>c.sH id f ?_) (fun f s=>c.slt id f ?_)
  ·have a:=g j;have b:=h j;have d:=k j
   rw[if_neg (Ne.symm o),if_neg (Ne.symm r)]at b;rw[if_neg (Ne.symm o)]at d;unfold ev;omega
  ·have a:=g id;have b:=h id;have d:=k id;have e:=c.one id f
   rw[if_pos rfl,if_neg (Ne.symm f)]at b;rw[if_pos rfl]at d;unfold ev at e⊢;omega
  ·have d:=k id
   rw[if_pos rfl]at d;unfold ev;omega
  ·have a:=g id
   omega
theorem Core.gone(c:Core N tb ai wk ring)(k:wk[i]?=some x)(e:x.slot≠0)(B:hW y)(A:y.slot=0)(q:y.hand=x.hand)(iX:gn ai):
 Core N (eN (gi tb x.slot 0).2 x.slot).2 (fs ai x.slot) (wk.set i y) ring:=by
 obtain⟨t,d⟩:=c.k9 k e;obtain⟨r,v,p,_⟩:=c.row d;obtain⟨u1,_,u3⟩:=sI c.cZ x.slot 0 bE;obtain⟨D,z,n,E⟩:=u3 r v p;obtain⟨u4,u5⟩:=uF u1.ok x.slot;have g:=fun j=>e1 (y:=y) k j
 have f:=fun j=>e2 (y:=y) k j
 simp only[iP,A,q]at g f;have o:=c.one _ e;have C:ev (wk.set i y) ring x.slot=0:=by
  have a:=g x.slot;have b:=f x.slot;rw[if_pos rfl,if_neg (Ne.symm e)]at a;unfold ev at o⊢;omega
 have hd:=(iX.del x.slot).2;have m:=u1.trans u4;refine c.fW x.slot m.ok m.Ft (fun j h=>gm _ _ _ h) (fun j h s=> ?_) (hX c.wk B) (fun r' w l=> ?_) (fun t d=>by rw[hd]at d;cases d) (fun _=>by omega) (fun _ u=>by omega) (fun _ u=>by unfold ev at C;omega)
 ·have a:=g j;have b:=f j
  rw[if_neg (Ne.symm h),if_neg (Ne.symm s)]at a;unfold ev;omega
 ·rw[u5 D z n r' w]at l;exact absurd l (by decide)
theorem oi:∀(l:List aF) (k p:Nat),iY l k=some p->k<=p/\∃r,l[p-k]?=some r/\r.taken=false
 |[],_,_,h=>by cases h
 |r::l,k,p,h=>by
  unfold iY at h;split at h
  ·obtain⟨d,r',a,b⟩:=oi l (k+1) p h
   refine⟨by omega,r',?_,b⟩;rw[show p-k=(p-(k+1))+1 by omega,List.getElem?_cons_succ];exact a
  ·rename_i c
   have:k=p:=Option.some.inj h;subst this;exact⟨Nat.le_refl _,r,by rw[Nat.sub_self];rfl,by simpa using c⟩
theorem Core.born(c:Core N tb ai wk ring)(H:N<=1000000)(home:Int)(B:aK home){lC:List aF}(hb:dh tb home=(some id,lC))(G:od id t):
 aw ai id=none/\Core (N+1) lC (cn ai id t) wk ring/\ev wk ring id=0/\64<=id/\id<=64*(N+1)+63/\st lC id=1:=by
 unfold dh at hb;cases g:iY tb 0 with
 |none=>rw[g]at hb;cases hb
 |some p=>
  obtain⟨_,r,a,v⟩:=oi tb 0 p g;rw[Nat.sub_zero]at a;rw[g]at hb;dsimp only at hb;rw[a]at hb;dsimp only at hb;have q:=c.cZ.row p r a;have b:p<64:=by have:=(List.getElem?_eq_some_iff.1 a).1;rw[c.cZ.len]at this;exact this
  have m:p<tb.length:=(List.getElem?_eq_some_iff.1 a).1;have t0:=q.t0;have t1:=q.t1;have w1:IntKind.u64.wrap (r.times+1)=r.times+1:=by unfold IntKind.wrap IntKind.bits IntKind.signed;simp;omega
  have w2:IntKind.u64.wrap (64*(r.times+1))=64*(r.times+1):=by unfold IntKind.wrap IntKind.bits IntKind.signed;simp;omega
  have w3:IntKind.u64.wrap ((p:Int)+64*(r.times+1))=(p:Int)+64*(r.times+1):=by unfold IntKind.wrap IntKind.bits IntKind.signed;simp;omega
  rw[w1,w2,w3]at hb;injection hb with d f
  injection d with d
  have hid:id%64=p:=by omega
  have l:(id%64).toNat=p:=by omega
  have D:eH tb id=none:=by
   unfold eH;rw[l,a];simp[v]
  have n:aw ai id=none:=by
   cases C:aw ai id with
   |none=>rfl
   |some u=>obtain⟨_,r',k,_⟩:=c.ai id u C;rw[D]at k;cases k
  have z:ev wk ring id=0:=by
   have:=(fun b=>(c.sH id (by omega) b).1);rw[n]at this;have:¬0<ev wk ring id:=(fun b=>by cases this b);omega
  have A:e0 (N+1) lC:=by
   rw[<-f];refine e0.set (c.cZ.more (Nat.le_succ _)) ⟨?_,?_,fun _=> ?_,B,bE⟩
   ·show 0<=r.times+1;omega
   ·show r.times+1<=((N+1:Nat):Int);omega
   ·show((p:Int)+64*(r.times+1))%64=p/\64<=(p:Int)+64*(r.times+1)/\(p:Int)+64*(r.times+1)<=64*((N+1:Nat):Int)+63
    omega
  have E:∃r',eH lC id=some r'/\r'.t.state=1:=by
   rw[<-f,nj m,if_pos l];exact⟨_,if_pos (by simp[d]),rfl⟩
  have F:∀j,j≠id->eH lC j=eH tb j:=fun j h=>by
   rw[<-f,nj m];split
   ·rename_i e
    rw[if_neg (by simp[d,Ne.symm h])];unfold eH;rw[e,a];simp[v]
   ·rfl
  obtain⟨r',o,s⟩:=E;refine⟨n,?_,z,by omega,by omega,by unfold st;rw[o];exact s⟩;refine c.fW id A F (fun j h=>by rw[aV,if_neg h]) (fun _ _ _=>⟨Nat.le_refl _,Nat.le_refl _⟩) c.wk (fun _ _ _=>by rw[aV,if_pos rfl];rfl)
   (fun u w=>by
    rw[aV,if_pos rfl]at w;rw[<-Option.some.inj w];exact⟨G,r',o,fun e=>by rw[s]at e;cases e⟩)
   (fun _=>by omega) (fun _ b=>by omega) (fun _ b=>by unfold ev at z;omega)
end
end
section
variable{N' i:Nat}{id:Int}{s:fQ}{S:ah}{f:cP}{t:Thread}{c:cJ}
def oj(N:Nat)(q:List (List fQ)):Prop:=(∀s∈q.flatten,aK s.id)/\q.flatten.length<=N
section
variable{N:Nat}{q:List (List fQ)}
theorem oj.more(h:oj N q)(a:N<=N'):oj N' q:=⟨h.1,Nat.le_trans h.2 a⟩
theorem oj.find(h:oj N q)(a:gq q id=some s):aK s.id:=h.1 s (List.mem_of_find?_eq_some a)
theorem kl(q:List (List fQ))(id:Int):(dw q id).2.flatten=q.flatten.filter fun s=>s.id !=id:=by
 unfold dw;split
 ·rename_i a
  rw[List.filter_eq_self.2];intro s b;have:=List.find?_eq_none.1 a s b;simpa using this
 ·rw[List.filter_flatten]
theorem oj.drop(h:oj N q)(id:Int):oj N (dw q id).2:=
 ⟨fun s a=>h.1 s (by rw[kl]at a;exact(List.mem_filter.1 a).1),by rw[kl];exact Nat.le_trans (List.length_filter_le _ _) h.2⟩
theorem om(s:fQ):∀(q:List (List fQ)) (k:Nat),(q.modify k (·++[s])).flatten.length<=q.flatten.length+1
 |[],k=>by cases k<;>simp
 |l::q,0=>by simp;omega
 |l::q,k+1=>by
  have:=om s q k;rw[List.modify_succ_cons,List.flatten_cons,List.flatten_cons,List.length_append,List.length_append];omega
theorem oj.link(h:oj N q)(s:fQ)(o:aK s.id):oj (N+1) (pB q s):=by
 refine⟨?_,Nat.le_trans (om _ _ _) (Nat.succ_le_succ h.2)⟩;intro x p;obtain⟨l,n,b⟩:=List.mem_flatten.1 p;obtain⟨k,a⟩:=List.getElem?_of_mem n;unfold pB at a;rw[List.getElem?_modify]at a;cases g:q[k]? with
 |none=>rw[g]at a;cases a
 |some d=>
  rw[g]at a;have m:(if(bg s.ad 8).toNat=k then d++[s]else d)=l:=by simpa using a
  have j:∀y∈d,aK y.id:=fun y r=>h.1 y (List.mem_flatten.2 ⟨d,List.mem_of_getElem? g,r⟩)
  rw[<-m]at b;split at b
  ·rcases List.mem_append.1 b with e|e
   ·exact j x e
   ·rw[List.mem_singleton.1 e];exact o
  ·exact j x b
theorem oo{d mask:Int}{each:Bool}(e:lN q d mask each=some s):s∈q.flatten:=by
 have a:=List.mem_of_find?_eq_some e;rw[List.getD_eq_getElem?_getD]at a;cases b:q[(bg d 8).toNat]? with
 |none=>rw[b]at a;cases a
 |some l=>rw[b]at a;exact List.mem_flatten.2 ⟨l,List.mem_of_getElem? b,a⟩
theorem oj.put(h:oj N q)(id a mask:Int)(hid:aK id):oj (N+1) (kM q id a mask).2:=by
 unfold kM;split
 ·exact h.more (Nat.le_succ _)
 ·split
  ·exact h.more (Nat.le_succ _)
  ·exact h.link _ hid
theorem oj.take(h:oj N q)(a mask:Int):oj N (eJ q a mask).2.2/\aK (eJ q a mask).1:=by
 unfold eJ;split
 ·exact⟨h,bE⟩
 ·rename_i s b;exact⟨h.drop _,h.1 s (oo b)⟩
theorem oj.move(h:oj N q)(fr tt:Int):oj N (ij q fr tt).2.2/\aK (ij q fr tt).1:=by
 unfold ij;split
 ·exact⟨h,bE⟩
 ·rename_i s b
  have a:=oo b;have d:(q.flatten.filter fun x=>x.id !=s.id).length<q.flatten.length:=by
   rw[List.length_filter_lt_length_iff_exists];exact⟨s,a,by simp⟩
  have hd:oj (N-1) (dw q s.id).2:=⟨(h.drop _).1,by rw[kl];have:=h.2;omega⟩;exact⟨(hd.link {s with ad:=tt} (h.1 s a)).more (by have:=h.2;omega),h.1 s a⟩
end
section
variable{P:ba->Prop}
theorem la(h:∀x∈S.l,P x)(i:Nat){t:ba}(b:P t):∀x∈(S.lay i t).l,P x:=fun x d=>by
 rcases List.mem_or_eq_of_mem_set (show x∈S.l.set i t from d)with a|rfl
 ·exact h x a
 ·exact b
theorem sK:∀(f:Nat) (S:ah) (i:Nat) (t:ba),(∀x∈S.l,P x)->(∀x∈(gZ f S i t).1.l,P x)/\(gZ f S i t).1.l.length=S.l.length
 |0,S,i,t,h=>⟨h,rfl⟩
 |f+1,S,i,t,h=>by
  unfold gZ;split
  ·exact⟨h,rfl⟩
  ·split
   ·exact⟨h,rfl⟩
   ·rename_i p a
    split
    ·have:=sK f (S.lay i p) ((i-1)/2) t (la h i (h p (List.mem_of_getElem? a)))
     exact⟨this.1,this.2.trans (S.b7 i p)⟩
    ·exact⟨h,rfl⟩
theorem oq:∀(f:Nat) (S:ah) (i:Nat) (t:ba),(∀x∈S.l,P x)->(∀x∈(bU f S i t).1.l,P x)/\(bU f S i t).1.l.length=S.l.length
 |0,S,i,t,h=>⟨h,rfl⟩
 |f+1,S,i,t,h=>by
  unfold bU;split
  ·exact⟨h,rfl⟩
  ·split
   ·exact⟨h,rfl⟩
   ·rename_i c _ _ x a
    split
    ·have:=oq f (S.lay i x) (jZ S i c) t (la h i (h x (List.mem_of_getElem? a)))
     exact⟨this.1,this.2.trans (S.b7 i x)⟩
    ·exact⟨h,rfl⟩
theorem Ao(h:∀x∈S.l,P x)(i:Nat):(∀x∈(S.up i).l,P x)/\(S.up i).l.length=S.l.length:=by
 unfold ah.up;split
 ·exact⟨h,rfl⟩
 ·rename_i t a
  have:=sK (i+1) S i t h;exact⟨la this.1 _ (h t (List.mem_of_getElem? a)),((gZ (i+1) S i t).1.b7 _ t).trans this.2⟩
theorem Ap(h:∀x∈S.l,P x)(i:Nat):(∀x∈(S.down i).l,P x)/\(S.down i).l.length=S.l.length:=by
 unfold ah.down;split
 ·exact⟨h,rfl⟩
 ·rename_i t a
  have:=oq (S.l.length+1) S i t h;exact⟨la this.1 _ (h t (List.mem_of_getElem? a)),((bU (S.l.length+1) S i t).1.b7 _ t).trans this.2⟩
theorem CE(h:∀x∈S.l,P x)(d a:Int)(e:∀n,P ⟨d,a,n⟩):(∀x∈(S.put d a).2.l,P x)/\(S.put d a).2.l.length=S.l.length+1:=by
 unfold ah.put;have:=Ao (P:=P) (S:={S with last:=wrap64 (S.last+1),l:=S.l++[⟨d,a,wrap64 (S.last+1)⟩]}) (fun x g=>by
  rcases List.mem_append.1 g with b|b
  ·exact h x b
  ·rw[List.mem_singleton.1 b];exact e _) S.l.length
 exact⟨this.1,this.2.trans (by simp)⟩
theorem CF(h:∀x∈S.l,P x)(k:Int):(∀x∈(S.cut k).l,P x)/\(S.cut k).l.length<=S.l.length:=⟨fun x a=>h x (List.mem_of_mem_take a),by unfold ah.cut;simp⟩
theorem sL(h:∀x∈S.l,P x)(k:Int):(∀x∈(S.drop k).2.2.l,P x)/\(S.drop k).2.2.l.length<=S.l.length/\((S.drop k).2.1=true->∃x∈S.l,(S.drop k).1=x.bY):=by
 unfold ah.drop;cases j:aw S.at_ k with
 |none=>exact⟨h,Nat.le_refl _,fun e=>by cases e⟩
 |some i=>
  dsimp only;cases a:S.l[i.toNat]? with
  |none=>exact⟨h,Nat.le_refl _,fun e=>by cases e⟩
  |some t=>
   cases b:S.l[S.l.length-1]? with
   |none=>exact⟨h,Nat.le_refl _,fun e=>by cases e⟩
   |some last=>
    dsimp only;have c:=CF h k;split
    ·have g:=la c.1 i.toNat (h last (List.mem_of_getElem? b))
     have u:=Ao g i.toNat;have d:=Ap u.1 ((aw (((S.cut k).lay i.toNat last).up i.toNat).at_ last.h).getD 0).toNat;refine⟨d.1,?_,fun _=>⟨t,List.mem_of_getElem? a,rfl⟩⟩;dsimp only;rw[d.2,u.2,ah.b7];exact c.2
    ·exact⟨c.1,c.2,fun _=>⟨t,List.mem_of_getElem? a,rfl⟩⟩
theorem CG(h:∀x∈S.l,P x)(now:Int):(∀x∈(S.pop now).2.2.l,P x)/\(S.pop now).2.2.l.length<=S.l.length/\((S.pop now).2.1=true->∃x∈S.l,(S.pop now).1=x.bY):=by
 unfold ah.pop;split
 ·rename_i b;exact⟨fun x a=>h x a,Nat.le_refl _,fun e=>by cases e⟩
 ·split
  ·exact⟨fun x a=>h x a,Nat.le_refl _,fun e=>by cases e⟩
  ·exact sL h _
end
structure fS(N:Nat)(S:aN):Prop where
 wf:S.heap.WF
 len:S.heap.l.length<=N
 bY:∀t∈S.heap.l,aK t.bY
 now:aK S.now
theorem fS.more{N:Nat}{S:aN}(h:fS N S)(a:N<=N'):fS N' S:=⟨h.wf,Nat.le_trans h.len a,h.bY,h.now⟩
theorem fS.ok{N:Nat}{S:aN}(h:fS N S)(a:N<=900000):S.Ok:=⟨h.wf,Nat.le_trans h.len a⟩
theorem fS.bp{N:Nat}{S:aN}(h:fS N S)(id:Int):fS N (S.bp id).2:=by
 unfold aN.bp;split
 ·exact h
 ·rename_i x _
  have:=sL h.bY x.1;exact⟨h.wf.drop _,Nat.le_trans this.2.1 h.len,this.1,h.now⟩
theorem fS.arm{N:Nat}{S:aN}(h:fS N S)(id dl:Int)(hid:aK id):fS (N+1) (S.arm id dl).2:=by
 unfold aN.arm;split
 ·exact h.more (Nat.le_succ _)
 ·split
  ·exact h.more (Nat.le_succ _)
  ·split
   ·have:=CE h.bY dl id (fun _=>hid)
    exact⟨h.wf.put _ _,by rw[this.2];have:=h.len;omega,this.1,h.now⟩
   ·exact h.more (Nat.le_succ _)
theorem pN{N:Nat}:∀(f:Nat) (S:aN) (acc:List Int),fS N S->(∀x∈acc,aK x)->fS N (ej f S acc).1/\(∀x∈(ej f S acc).2,aK x)/\(ej f S acc).2.length<=acc.length+f
 |0,S,acc,h,a=>⟨h,a,Nat.le_refl _⟩
 |f+1,S,acc,h,a=>by
  unfold ej;split
  ·rename_i g
   have p:=CG h.bY S.now;have j:aK (S.heap.pop S.now).1:=(by obtain⟨x,d,e⟩:=p.2.2 g;rw[e];exact h.bY x d);have:=pN (N:=N) f {S with heap:=(S.heap.pop S.now).2.2,fl:=fs S.fl (S.heap.pop S.now).1} (acc++[(S.heap.pop S.now).1]) ⟨h.wf.pop _,Nat.le_trans p.2.1 h.len,p.1,h.now⟩ (fun x d=>by
    rcases List.mem_append.1 d with b|b
    ·exact a x b
    ·rw[List.mem_singleton.1 b];exact j)
   refine⟨this.1,this.2.1,Nat.le_trans this.2.2 ?_⟩;rw[List.length_append,List.length_singleton];omega
  ·exact⟨h,a,by show acc.length<=acc.length+(f+1);omega⟩
theorem fS.tick{N:Nat}{S:aN}(h:fS N S):fS N S.tick.1/\(∀x∈S.tick.2,aK x)/\S.tick.2.length<=N+1:=by
 unfold aN.tick;have:=pN (N:=N) (S.heap.l.length+1) {S with now:=IntKind.u64.wrap (S.now+1)} [] ⟨h.wf,h.len,h.bY,bO _⟩ (fun x a=>by cases a);refine⟨this.1,this.2.1,Nat.le_trans this.2.2 ?_⟩;have:=h.len
 simp;omega
structure b8(M:aI):Prop where
 u:∀x∈M.cells,aK x
 qg:M.cells.length<=65536
theorem b8.set{M:aI}(h:b8 M)(i:Nat)(v:Int)(b:aK v):b8 {M with cells:=M.cells.set i v}:=
 ⟨fun x d=>by
  rcases List.mem_or_eq_of_mem_set (show x∈M.cells.set i v from d)with a|rfl
  ·exact h.u x a
  ·exact b,by show(M.cells.set i v).length<=65536;rw[List.length_set];exact h.qg⟩
theorem b8.get{M:aI}(h:b8 M)(i:Nat):aK (M.cells.getD i 0):=by
 rw[List.getD_eq_getElem?_getD];cases a:M.cells[i]? with
 |none=>exact bE
 |some x=>exact h.u x (List.mem_of_getElem? a)
theorem b8.acc{M:aI}(h:b8 M)(kind a d v:Int)(b:aK v):b8 (M.acc kind a d v).2/\∀x,(M.acc kind a d v).1=some x->aK x:=by
 unfold aI.acc;dsimp only;have g:∀x,some (M.cells.getD a.toNat 0)=some x->aK x:=fun x e=>by rw[<-Option.some.inj e];exact h.get _
 split
 ·exact⟨h,fun x e=>by cases e⟩
 ·split
  ·exact⟨h.set _ _ (m9 _ _ _),g⟩
  ·split
   ·split
    ·exact⟨h.set _ _ (iF _ _ b),g⟩
    ·exact⟨h,g⟩
   ·split
    ·exact⟨h.set _ _ (iF _ _ b),g⟩
    ·exact⟨h,g⟩
theorem sM{P:Int->Prop}{l:List Int}(h:∀x∈l,P x)(a:Nat){v:Int}(b:P v):∀k,∀x∈ax l a v k,P x
 |0=>h
 |k+1=>fun x e=>by
  rcases List.mem_or_eq_of_mem_set (show x∈(ax l a v k).set (a+k) v from e)with d|rfl
  ·exact sM h a b k x d
  ·exact b
theorem b8.laid{M:aI}(h:b8 M)(a n:Nat)(b:Int):b8 (M.laid a n b):=
 ⟨sM h.u a bE n,by show(ax M.cells a 0 n).length<=65536;rw[dt];exact h.qg⟩
theorem b8.map{M:aI}(h:b8 M)(a n:Nat)(b:Int):b8 (M.map a n b).2:=by
 unfold aI.map;split
 ·exact h.laid _ _ _
 ·exact h
theorem b8.gj{M:aI}(h:b8 M)(a n:Nat):b8 (M.gj a n).2:=by
 unfold aI.gj;split
 ·exact h.laid _ _ _
 ·exact h
structure js(N:Nat)(S:a8):Prop where
 from_:S.from_<=70000
 y9:S.y9<=70000
 l:∀x∈S.l,x.at_+x.n<=65536
 len:S.l.length<=N
theorem js.more{N:Nat}{S:a8}(h:js N S)(a:N<=N'):js N' S:=⟨h.from_,h.y9,h.l,Nat.le_trans h.len a⟩
theorem js.ok{N:Nat}{S:a8}(h:js N S)(a:N<=900000):S.Ok:=⟨h.from_,h.y9,fun x b=>by have:=h.l x b;omega,Nat.le_trans h.len a⟩
theorem nk{N:Nat}{S:a8}{M:aI}(h:js N S)(d:b8 M)(n:Nat):js (N+1) (df S M n).2.1/\b8 (df S M n).2.2/\∀a,(df S M n).1=some a->aK (a:Int):=by
 unfold df;split
 ·exact⟨h.more (Nat.le_succ _),d,fun a e=>by cases e⟩
 ·split
  ·exact⟨h.more (Nat.le_succ _),d,fun a e=>by cases e⟩
  ·rename_i i k
   split
   ·rename_i g
    have l:S.ek i+n<=M.cells.length:=by
     unfold aI.map at g;split at g
     ·rename_i j;exact(jN j.2).1
     ·cases g
    have hb:=d.qg;refine⟨⟨h.from_,h.y9,fun x b=> ?_,?_⟩,d.map _ _ _,fun a e=> ?_⟩
    ·rcases List.mem_append.1 b with b|b
     ·rcases List.mem_append.1 b with b|b
      ·exact h.l x (List.mem_of_mem_take b)
      ·rw[List.mem_singleton.1 b];show S.ek i+n<=65536;omega
     ·exact h.l x (List.mem_of_mem_drop b)
    ·have:=h.len
     simp only[List.length_append,List.length_take,List.length_drop,List.length_singleton];omega
    ·have:S.ek i=a:=Option.some.inj e
     exact⟨by omega,by omega⟩
   ·exact⟨h.more (Nat.le_succ _),d,fun a e=>by cases e⟩
theorem CH{N:Nat}{S:a8}{M:aI}(h:js N S)(b:b8 M)(a:Int):js N (m1 S M a).2.1/\b8 (m1 S M a).2.2:=by
 unfold m1;split
 ·exact⟨h,b⟩
 ·split
  ·exact⟨h,b⟩
  ·refine⟨⟨h.from_,h.y9,fun x d=>h.l x (List.mem_of_mem_eraseIdx d),?_⟩,b.gj _ _⟩
   exact Nat.le_trans (List.length_eraseIdx_le _ _) h.len
def ir(l:List bq):Prop:=∀r∈l,aK r.addr
theorem ir.set{l:List bq}(h:ir l)(p:Nat)(r:bq)(b:aK r.addr):ir (l.set p r):=fun x d=>by
 rcases List.mem_or_eq_of_mem_set d with a|rfl
 ·exact h x a
 ·exact b
theorem ir.find{l:List bq}(h:ir l)(a k:Int):∀x,gp l a k=some x->aK x:=fun x b=>by
 unfold gp at b;split at b
 ·cases b
 ·split at b
  ·cases b
  ·rename_i r d
   split at b
   ·cases b
   ·rw[<-Option.some.inj b];exact h r (List.mem_of_getElem? d)
theorem ir.make{l:List bq}(h:ir l)(k a:Int)(b:aK a):ir (fP l k a).2/\∀x,(fP l k a).1=some x->aK x:=by
 unfold fP;split
 ·exact⟨h,fun x e=>by cases e⟩
 ·split
  ·exact⟨h,fun x e=>by cases e⟩
  ·split
   ·exact⟨h,fun x e=>by cases e⟩
   ·exact⟨h.set _ _ b,fun x e=>by rw[<-Option.some.inj e];exact bO _⟩
theorem ir.gone{l:List bq}(h:ir l)(a:Int):ir (iZ l a).2:=by
 unfold iZ;split
 ·exact h
 ·split
  ·exact h
  ·exact h.set _ _ bE
structure Inv(N M:Nat)(K:KS):Prop where
 core:Core N K.table K.ai K.wk K.ring
 nd:gn K.ai
 q:oj N K.q
 b2:fS N K.clock
 bI:js N K.blocks
 mem:b8 K.mem
 obj:ir K.cT
 draw:aK K.draw
 w0:1<=K.wk.length
 w1:K.wk.length<=64
 out:K.out.length<=M
theorem Inv.more{N M b:Nat}{K:KS}(h:Inv N M K)(a:N<=N')(d:M<=b):Inv N' b K:=⟨h.core.more a,h.nd,h.q.more a,h.b2.more a,h.bI.more a,h.mem,h.obj,h.draw,h.w0,h.w1,Nat.le_trans h.out d⟩
section
variable{N M:Nat}{K:KS}
theorem fF.ax(h:fF f)(k:Nat)(x:Int)(b:aK x):fF {f with r:=fW f.r k x}:=⟨fun j a=>by
 show aK (fW f.r k x j)
 unfold fW;split
 ·exact b
 ·exact h.r j a,h.back⟩
theorem fF.pc(h:fF f)(p:Int):fF {f with pc:=p}:=⟨h.r,h.back⟩
theorem e6.get{l:List Frame}(h:e6 l){k:Nat}{f:Frame}(a:l[k]?=some f):fF f.f:=h.lY f (List.mem_of_getElem? a)
theorem e6.cI{l:List Frame}(h:e6 l)(k:Nat)(f:cP)(m:fF f):e6 (l.set k {l.getD k default with f:=f}):=by
 refine⟨by rw[List.length_set];exact h.n0,by rw[List.length_set];exact h.n8,fun j g a=> ?_,fun g n=> ?_⟩
 ·by_cases e:k=j
  ·subst e
   have b:k<l.length:=(by have:=(List.getElem?_eq_some_iff.1 a).1;simpa using this);rw[List.getElem?_set_self b]at a;rw[<-Option.some.inj a];show(l.getD k default).cg=_
   rw[List.getD_eq_getElem?_getD,List.getElem?_eq_getElem b];exact h.cg k _ (List.getElem?_eq_getElem b)
  ·rw[List.getElem?_set_ne e]at a;exact h.cg j g a
 ·rcases List.mem_or_eq_of_mem_set n with d|rfl
  ·exact h.lY g d
  ·exact m
theorem e6.take{l:List Frame}(h:e6 l)(n:Nat)(d:0<n):e6 (l.take n):=by
 refine⟨by rw[List.length_take];have:=h.n0;omega,by rw[List.length_take];have:=h.n8;omega,fun k f a=> ?_,fun f b=>h.lY f (List.mem_of_mem_take b)⟩;rw[List.getElem?_take]at a;split at a
 ·exact h.cg k f a
 ·cases a
theorem e6.push{l:List Frame}(h:e6 l)(f:Frame)(n:l.length<8)(d:fF f.f)(hb:f.cg=(l.length%2==1)):e6 (l++[f]):=by
 refine⟨by simp,by simp;omega,fun k g a=> ?_,fun g j=> ?_⟩
 ·by_cases e:k<l.length
  ·rw[List.getElem?_append_left e]at a;exact h.cg k g a
  ·have m:k=l.length:=by
    have:=(List.getElem?_eq_some_iff.1 a).1;simp at this;omega
   subst m;rw[List.getElem?_concat_length]at a;rw[<-Option.some.inj a];exact hb
 ·rcases List.mem_append.1 j with b|b
  ·exact h.lY g b
  ·rw[List.mem_singleton.1 b];exact d
theorem Inv.gA(h:Inv N M K)(a:i<K.wk.length):hW (K.W i):=h.core.wk _ (List.mem_of_getElem? (KS.ha a))
theorem Inv.de(h:Inv N M K)(a:aw K.ai id=some t):od id t:=(h.core.ai id t a).1
theorem Inv.lY(h:Inv N M K)(a:aj K c):fF (K.F c):=by
 cases c with
 |own i=>exact(h.gA a).f
 |ai id k=>
  obtain⟨t,d,b⟩:=a;show fF ((K.T id).l.getD k default).f
  rw[KS.dm d,List.getD_eq_getElem?_getD,List.getElem?_eq_getElem b];exact(h.de d).l.get (List.getElem?_eq_getElem b)
theorem Inv.o9(h:Inv N M K)(a:aj K c){x:Int}(b:0<=x/\x<32):aK ((K.F c).r x.toNat):=(h.lY a).r _ (by omega)
theorem Inv.cp(h:Inv N M K){a:Thread}(d:aw K.ai id=some t)(b:od id a):Inv N M (K.cp id a):=
 ⟨h.core.cp d b,h.nd.put _ _,h.q,h.b2,h.bI,h.mem,h.obj,h.draw,h.w0,h.w1,h.out⟩
theorem Inv.bj(h:Inv N M K)(b:i<K.wk.length){y:aC}(d:y.slot=(K.W i).slot)(a:y.hand=(K.W i).hand)(e:hW y):Inv N M (K.bj i y):=
 ⟨h.core.bj (KS.ha b) d a e,h.nd,h.q,h.b2,h.bI,h.mem,h.obj,h.draw,by show 1<=(K.wk.set i y).length;rw[List.length_set];exact h.w0,by show(K.wk.set i y).length<=64;rw[List.length_set];exact h.w1,h.out⟩
theorem Inv.cI(h:Inv N M K)(a:aj K c)(d:fF f):Inv N M (K.cI c f):=by
 cases c with
 |own i=>exact h.bj a rfl rfl ⟨d,(h.gA a).l0,(h.gA a).l1⟩
 |ai id k=>
  obtain⟨t,b,e⟩:=a;have:=h.de b;refine h.cp b ?_;rw[KS.dm b];exact⟨this.id,this.eY,this.l.cI k f d⟩
theorem Inv.ax(h:Inv N M K)(a:aj K c)(k:Nat)(x:Int)(b:aK x):Inv N M (K.ax c k x):=h.cI a ((h.lY a).ax k x b)
theorem Inv.tell(h:Inv N M K)(e:Ev):Inv N (M+1) (tell K e):=
 ⟨h.core,h.nd,h.q,h.b2,h.bI,h.mem,h.obj,h.draw,h.w0,h.w1,by show(K.out++[_]).length<=M+1;rw[List.length_append];have:=h.out;simp;omega⟩
theorem Inv.qT(h:Inv N M K){S:aI}(a:b8 S):Inv N M {K with mem:=S}:=⟨h.core,h.nd,h.q,h.b2,h.bI,a,h.obj,h.draw,h.w0,h.w1,h.out⟩
theorem Inv.km(h:Inv N M K){q:List (List fQ)}(a:oj N q):Inv N M {K with q:=q}:=⟨h.core,h.nd,a,h.b2,h.bI,h.mem,h.obj,h.draw,h.w0,h.w1,h.out⟩
theorem Inv.uH(h:Inv N M K){S:aN}(a:fS N S):Inv N M {K with clock:=S}:=⟨h.core,h.nd,h.q,a,h.bI,h.mem,h.obj,h.draw,h.w0,h.w1,h.out⟩
theorem Inv.setObj(h:Inv N M K){l:List bq}(a:ir l):Inv N M {K with cT:=l}:=⟨h.core,h.nd,h.q,h.b2,h.bI,h.mem,a,h.draw,h.w0,h.w1,h.out⟩
theorem Inv.uI(h:Inv N M K){A:a8}{S:aI}(a:js N A)(b:b8 S):Inv N M {K with blocks:=A,mem:=S}:=⟨h.core,h.nd,h.q,h.b2,a,b,h.obj,h.draw,h.w0,h.w1,h.out⟩
theorem Inv.ot(h:Inv N M K){l:List aF}(a:Core N l K.ai K.wk K.ring):Inv N M {K with table:=l}:=⟨a,h.nd,h.q,h.b2,h.bI,h.mem,h.obj,h.draw,h.w0,h.w1,h.out⟩
theorem Inv.jm(h:Inv N M K)(a:Int):Inv N M (jm K a):=by
 have:=CH h.bI h.mem a;exact h.uI this.1 this.2
theorem Inv.home(h:Inv N M K)(id a:Int):Inv N M (eo K id a):=by
 unfold eo;split
 ·exact h.jm _
 ·exact h
theorem l3(C:KC)(a:i<K.wk.length):dB C K i={K with wk:=K.wk.set i {K.W i with slot:=0,f:={(K.W i).f with pc:=C.loop,back:=[]}}}:=by
 unfold dB gJ;rw[gM a];unfold KS.bj;simp only[List.set_set]
theorem hW.left{x:aC}(h:hW x)(s:Int)(p:Int):hW {x with slot:=s,f:={x.f with pc:=p,back:=[]}}:=⟨⟨h.f.r,by simp⟩,h.l0,h.l1⟩
end
end
section
variable{id v:Int}{t:Thread}{i:Nat}{x:be}{c:cJ}
section
variable{N M:Nat}{K:KS}{C:KC}
theorem Aq:aK (1:Int):=⟨by decide,by decide⟩
theorem pO{x:Int}(a:0<=x)(b:x<=100000000):aK x:=⟨a,by omega⟩
theorem Inv.Et(h:Inv N M K)(e:N<=900000)(a:aw K.ai id=some t):aK id/\id≠0:=by
 obtain⟨_,_,_,b,d⟩:=h.core.row a;exact⟨pO (by omega) (by omega),by omega⟩
theorem Inv.Ar(h:Inv N M K)(b:N<=900000)(d:i<K.wk.length):aK (K.W i).hand:=by
 by_cases a:(K.W i).hand=0
 ·rw[a];exact bE
 ·obtain⟨t,e⟩:=h.core.qS (KS.ha d) a
  exact(h.Et b e).1
theorem Inv.F1(h:Inv N M K)(b:N<=900000)(d:id∈K.ring):aK id:=by
 by_cases a:id=0
 ·rw[a];exact bE
 ·have:0<oe K.ring id:=List.countP_pos_iff.2 ⟨id,d,by simp⟩
  obtain⟨t,e⟩:=Option.isSome_iff_exists.1 (h.core.sH id a (by unfold ev;omega)).1;exact(h.Et b e).1
theorem Inv.F2(h:Inv N M K)(a:N<=900000):aK (gS K.ring).1:=by
 cases b:K.ring with
 |nil=>exact bE
 |cons x l=>exact h.F1 a (by rw[b];exact List.mem_cons_self)
theorem kn(h:Inv N M K):b8 (K.mem.acc 3 0 0 1).2:=(h.mem.acc 3 0 0 1 Aq).1
theorem Inv.toRing(h:Inv N M K)(a:aw K.ai id=some t)(b:ev K.wk K.ring id=0):Inv N M (cr K id):=
 ⟨h.core.toRing a b,h.nd,h.q,h.b2,h.bI,kn h,h.obj,h.draw,h.w0,h.w1,h.out⟩
theorem Inv.k'(h:Inv N M K)(a:i<K.wk.length)(b:(K.W i).slot≠0):Inv N M (dB C (cr K (K.W i).slot) i):=by
 rw[l3 C (K:=cr K (K.W i).slot) a];exact⟨h.core.k' (KS.ha a) b ((h.gA a).left 0 C.loop) rfl rfl,h.nd,h.q,h.b2,h.bI,kn h,h.obj,h.draw,by show 1<=(K.wk.set i _).length;rw[List.length_set];exact h.w0,by show(K.wk.set i _).length<=64;rw[List.length_set];exact h.w1,h.out⟩
theorem Inv.l2(h:Inv N M K)(a:i<K.wk.length)(b:(K.W i).slot≠0):Inv N M (dB C {K with table:=(j4 K.table (K.W i).slot 3).2} i):=by
 rw[l3 C (K:={K with table:=(j4 K.table (K.W i).slot 3).2}) a];exact⟨h.core.l2 (KS.ha a) b ((h.gA a).left 0 C.loop) rfl rfl,h.nd,h.q,h.b2,h.bI,h.mem,h.obj,h.draw,by show 1<=(K.wk.set i _).length;rw[List.length_set];exact h.w0,by show(K.wk.set i _).length<=64;rw[List.length_set];exact h.w1,h.out⟩
theorem hW.jt{x:aC}(h:hW x)(v:Int):hW {x with hand:=v}:=⟨h.f,h.l0,h.l1⟩
theorem Inv.oh(h:Inv N M K)(a:i<K.wk.length)(b:(K.W i).hand≠0):Inv N M ((cr K (K.W i).hand).bj i {(cr K (K.W i).hand).W i with hand:=0}):=
 ⟨h.core.oh (KS.ha a) b ((h.gA a).jt 0) rfl rfl,h.nd,h.q,h.b2,h.bI,kn h,h.obj,h.draw,by show 1<=(K.wk.set i _).length;rw[List.length_set];exact h.w0,by show(K.wk.set i _).length<=64;rw[List.length_set];exact h.w1,h.out⟩
theorem Inv.F3(h:Inv N M K)(b:i<K.wk.length)(d:aw K.ai id=some t)(e:ev K.wk K.ring id=0):Inv N M (ep K i id):=by
 unfold ep;split
 ·exact h.toRing d e
 ·rename_i a
  have a:(K.W i).hand=0:=Classical.not_not.1 a;exact⟨h.core.Es d e (KS.ha b) a ((h.gA b).jt id) rfl rfl,h.nd,h.q,h.b2,h.bI,h.mem,h.obj,h.draw,by show 1<=(K.wk.set i _).length;rw[List.length_set];exact h.w0,by show(K.wk.set i _).length<=64;rw[List.length_set];exact h.w1,h.out⟩
theorem Inv.take(h:Inv N M K)(b:i<K.wk.length)(id:Int):Inv N M (eK K i id):=by
 unfold eK;split
 ·exact h
 ·rename_i a
  split
  ·exact h
  ·rename_i d
   split
   ·exact h
   ·rename_i f
    have g:(K.W i).hand=0:=(Classical.not_not.1 fun e=>a (Or.inl e));have j:st K.table id=1:=(by rw[<-lZ];exact Classical.not_not.1 fun e=>a (Or.inr e));have k:∀x∈K.wk,x.hand≠id:=(fun x n e=>d (List.any_eq_true.2 ⟨x,n,by simp[e]⟩));have l:id∉K.ring:=(fun m=>f (List.any_eq_true.2 ⟨id,m,by simp⟩));exact⟨h.core.take j k l (KS.ha b) g ((h.gA b).jt id) rfl rfl,h.nd,h.q,h.b2,h.bI,h.mem,h.obj,h.draw,by show 1<=(K.wk.set i _).length;rw[List.length_set];exact h.w0,by show(K.wk.set i _).length<=64;rw[List.length_set];exact h.w1,h.out⟩
theorem Core.qU{tb:List aF}{ai:List (Int×Thread)}{wk:List aC}{ring:List Int}(c:Core N tb ai wk ring){x y:aC}(h:wk[i]?=some x)(o:hW y)(n:y.slot=x.slot)(k:y.hand=0):Core N tb ai (wk.set i y) ring:=by
 have f:=fun j=>e1 (y:=y) h j
 have g:=fun j=>e2 (y:=y) h j
 simp only[iP,n,k]at f g;have e:∀j,j≠0->ev (wk.set i y) ring j<=ev wk ring j:=fun j l=>by
  have a:=f j;have b:=g j;rw[if_neg (Ne.symm l)]at b;unfold ev;omega
 exact⟨c.cZ,c.al,c.ai,fun id d=>by have:=e id d;have:=c.one id d;omega,fun id d m=>c.sH id d (by have:=e id d;omega),fun id d m=>c.slt id d (by have:=f id;omega),hX c.wk o⟩
theorem Inv.qU(h:Inv N M K)(a:i<K.wk.length):Inv N M (K.bj i {K.W i with hand:=0}):=
 ⟨h.core.qU (KS.ha a) ((h.gA a).jt 0) rfl rfl,h.nd,h.q,h.b2,h.bI,h.mem,h.obj,h.draw,by show 1<=(K.wk.set i _).length;rw[List.length_set];exact h.w0,by show(K.wk.set i _).length<=64;rw[List.length_set];exact h.w1,h.out⟩
theorem Inv.born(h:Inv N M K)(G:N<=900000)(place a:Int)(A:aK a):Inv (N+1) M (bQ K place a).2/\aK (bQ K place a).1/\
 ((bQ K place a).1≠0->∃t,aw (bQ K place a).2.ai (bQ K place a).1=some t/\ev (bQ K place a).2.wk (bQ K place a).2.ring (bQ K place a).1=0):=by
 unfold bQ;have d:=nk h.bI h.mem 1;cases z:df K.blocks K.mem 1 with
 |mk o p=>
  obtain⟨b,m⟩:=p;rw[z]at d;have l:Inv (N+1) M {K with blocks:=b,mem:=m}:=(h.more (Nat.le_succ _) (Nat.le_refl _)).uI d.1 d.2.1;cases o with
  |none=>exact⟨l,bE,fun e=>absurd rfl e⟩
  |some g=>
   dsimp only;cases hb:dh K.table g with
   |mk B t2=>
    cases B with
    |none=>
     dsimp only;have s:t2=K.table:=by
      unfold dh at hb;split at hb
      ·injection hb with _ e;exact e.symm
      ·split at hb
       ·injection hb with _ e;exact e.symm
       ·injection hb with e;cases e
     subst s;exact⟨(show Inv (N+1) M ({K with blocks:=b,mem:=m}:KS)from l).jm _,bE,fun e=>absurd rfl e⟩
    |some id=>
     dsimp only;have u:od id ⟨id,[⟨⟨place,fun j=>if j=0 then a else 0,[]⟩,false,0⟩],0⟩:=⟨rfl,bE,by simp,by simp,fun k f n=>by
      have y:k=0:=(by have:=(List.getElem?_eq_some_iff.1 n).1;simpa using this);subst y;rw[<-Option.some.inj n];rfl,fun f w=>by
      rw[List.mem_singleton.1 w];exact⟨fun k _=>by
       show aK (if k=0 then a else 0)
       split
       ·exact A
       ·exact bE,by simp⟩⟩
     obtain⟨D,q,r,E,F,_⟩:=h.core.born (by omega) g (d.2.2 g rfl) hb u;refine⟨⟨q,h.nd.put _ _,h.q.more (Nat.le_succ _),h.b2.more (Nat.le_succ _),d.1,d.2.1,h.obj,h.draw,h.w0,h.w1,h.out⟩,pO (by omega) (by omega),fun _=>⟨_,by show aw (cn K.ai id _) id=_;rw[aV,if_pos rfl],r⟩⟩
theorem Inv.hz(h:Inv N M K)(v:Int)(d:aK v):Inv N M (b3 K id v):=by
 unfold b3;split
 ·rename_i b
  obtain⟨t,a⟩:=Option.isSome_iff_exists.1 b;have:=h.de a;rw[KS.dm a];exact h.cp a ⟨this.id,d,this.l⟩
 ·exact h
theorem Inv.ended(h:Inv N M K)(d:N<=900000)(a:i<K.wk.length)(b:(K.W i).slot≠0):Inv N (M+1) (m3 C K i (K.W i).slot):=by
 unfold m3;dsimp only;refine Inv.home ?_ _ _;rw[l3 C (by exact a)];exact⟨h.core.gone (KS.ha a) b ((h.gA a).left 0 C.loop) rfl rfl h.nd,(h.nd.del _).1,h.q.drop _,h.b2.bp _,h.bI,h.mem,h.obj,h.draw,by show 1<=(K.wk.set i _).length;rw[List.length_set];exact h.w0,by show(K.wk.set i _).length<=64;rw[List.length_set];exact h.w1,by show(K.out++[_]).length<=M+1;rw[List.length_append];have:=h.out;simp;omega⟩
theorem Inv.returned(h:Inv N M K)(b:aw K.ai id=some t)(num:Int){code:Int}(e:aK code)(k:aK v):Inv N (M+1) (dq K id num code v):=by
 unfold dq;dsimp only;have a:aj K (.ai id (K.top id)):=⟨t,b,by unfold KS.top;rw[KS.dm b];have:=(h.de b).l.n0;omega⟩;have d:=h.ax a 0 code e;have j:∀n,(K.ax (.ai id n) 0 code).top id=K.top id:=fun n=>by
  unfold KS.top
  congr 1
  have:aw (K.ax (.ai id n) 0 code).ai id=some {K.T id with l:=(K.T id).l.set n {(K.T id).l.getD n default with f:={K.F (.ai id n)with r:=fW (K.F (.ai id n)).r 0 code}}}:=by
   show aw (cn K.ai id _) id=_
   rw[aV,if_pos rfl]
  rw[KS.dm this,List.length_set]
 have g:aj (K.ax (.ai id (K.top id)) 0 code) (.ai id (K.top id)):=a.gr (bA a _) (br _ _);rw[j];exact(d.ax g 1 v k).tell _
theorem Inv.answer(h:Inv N M K)(a:aw K.ai id=some t)(g:1<t.l.length){code:Int}(d:aK code)(f:aK v):Inv N (M+1) (eE K id code v):=by
 unfold eE;dsimp only;have b:=h.de a;have e:K.top id=t.l.length-1:=by unfold KS.top;rw[KS.dm a]
 refine Inv.returned (t:={K.T id with l:=(K.T id).l.take (K.top id)}) (h.cp a ?_) (by show aw (cn K.ai id _) id=_;rw[aV,if_pos rfl]) _ d f;rw[KS.dm a,e];exact⟨b.id,b.eY,b.l.take _ (by omega)⟩
structure jc(x:be):Prop where
 a:x.a.toNat<32
 b:x.b.toNat<32
 c:x.c.toNat<32
 v:aK x.v
theorem qV(h:Inv N M K)(k:N<=900000)(f:i<K.wk.length)(g:(K.W i).slot=id)(e:id≠0)(a:aw K.ai id=some t)(q:t.l.length%2=0)(l:aj K c)(j:jc x):
 Inv (N+1) (M+1) (aB C K i id c x).2:=by
 have d:=h.lY l;have o:=d.r _ j.a;have hb:=d.r _ j.b;have r:=d.r _ j.c;have hid:=(h.Et k a).1;have b:=h.de a;have up:∀{K':KS},Inv N M K'->Inv (N+1) (M+1) K':=fun h=>h.more (Nat.le_succ _) (Nat.le_succ _)
 have n:∀{K':KS},Inv N (M+1) K'->Inv (N+1) (M+1) K':=fun h=>h.more (Nat.le_succ _) (Nat.le_refl _)
 have s:t.l.length≠1:=by omega
 have p:1<t.l.length:=by have:=b.l.n0;omega
 unfold aB;dsimp only;split
 ·split
  ·exact((up h).km (h.q.put _ _ _ hid)).uH (h.b2.arm _ _ hid)
  ·exact(up h).km (h.q.put _ _ _ hid)
 split
 ·split
  ·subst g;exact up (h.l2 f e)
  ·rw[KS.dm a];exact up (h.ax l _ _ b.eY)
 split
 ·have:=yi h.core.cZ ((K.F c).r x.a.toNat) id
  exact up (h.ot (h.core.same this.1 this.2))
 split
 ·exact up (h.ot (h.core.ended a _ o))
 split
 ·subst g;exact n (h.ended k f e)
 split
 ·subst g;exact up (h.k' f e)
 split
 ·split
  ·rename_i m
   rw[KS.dm a]at m⊢;refine up (h.cp a ⟨b.id,b.eY,b.l.push _ m.2 ⟨fun _ _=>bE,by simp⟩ ?_⟩);simp[q]
  ·exact up h
 split
 ·exact n (h.answer a p (d.r 0 (by omega)) (d.r 1 (by omega)))
 ·exact up h
theorem qW(h:Inv N M K)(g:i<K.wk.length)(e:aj K c)(j:jc x):Inv N M (bf K i c x).2:=by
 have f:=h.lY e;have k:=f.r _ j.a;have m:=f.r _ j.c;unfold bf;dsimp only;split
 ·have a:=h.qT (h.mem.acc 1 (dE (K.F c).r x) 0 _ k).1
  split
  ·exact a
  ·exact a.qU g
 ·have b:=h.mem.acc 4 (dE (K.F c).r x) ((K.F c).r x.a.toNat) _ m
  have a:=h.qT b.1;split
  ·exact a
  ·rename_i held n
   have l:aj ({K with mem:=(K.mem.acc 4 (dE (K.F c).r x) ((K.F c).r x.a.toNat) ((K.F c).r x.c.toNat)).2}:KS) c:=(by cases c<;>exact e);have d:=a.ax l x.a.toNat held (b.2 held n);split
   ·exact d.take (Nat.lt_of_lt_of_eq (show i<({K with mem:=(K.mem.acc 4 (dE (K.F c).r x) ((K.F c).r x.a.toNat) ((K.F c).r x.c.toNat)).2}:KS).wk.length from g) (br _ _).symm) _
   ·exact d
theorem yl(h:Inv N M K)(m:N<=900000)(d:i<K.wk.length)(f:aj K c)(o:jc x):Inv N M (b0 K i c x):=by
 unfold b0;dsimp only;split
 ·exact h.take d _
 split
 ·split
  ·rename_i b;exact h.oh d b
  ·exact h
 split
 ·have a:=h.ax f x.a.toNat 0 bE
  have hlen:(K.ax c x.a.toNat 0).wk.length=K.wk.length:=br _ _;have g:i<(K.ax c x.a.toNat 0).wk.length:=by rw[hlen];exact d
  have k:aj (K.ax c x.a.toNat 0) c:=f.gr (bA f _) hlen;split
  ·rename_i b
   have n:=a.F2 m;have l:Inv N M (({K.ax c x.a.toNat 0 with ring:=(gS (K.ax c x.a.toNat 0).ring).2.2}:KS).bj i {(({K.ax c x.a.toNat 0 with ring:=(gS (K.ax c x.a.toNat 0).ring).2.2}:KS).W i)with hand:=(gS (K.ax c x.a.toNat 0).ring).1}):=
    ⟨a.core.An (KS.ha g) b ((a.gA g).jt _) rfl rfl,a.nd,a.q,a.b2,a.bI,a.mem,a.obj,a.draw,by show 1<=(List.set _ i _).length;rw[List.length_set];exact a.w0,by show(List.set _ i _).length<=64;rw[List.length_set];exact a.w1,a.out⟩
   refine l.ax ?_ _ _ ?_
   ·cases c with
    |own j=>show j<(List.set _ i _).length;rw[List.length_set];exact k
    |ai _ _=>exact k
   ·rw[gM (by exact g)];exact n
  ·exact a
 split
 ·split
  ·rename_i b
   have e:((K.bj i {K.W i with slot:=(K.W i).hand,hand:=0,left:=24}).W i).slot=(K.W i).hand:=(by rw[gM d]);rw[e];exact⟨h.core.Al (KS.ha d) b.1 b.2.2 ⟨(h.gA d).f,show(0:Int)<=24 by decide,show(24:Int)<=24 by decide⟩ rfl rfl,h.nd,h.q,h.b2,h.bI,h.mem,h.obj,h.draw,by show 1<=(K.wk.set i _).length;rw[List.length_set];exact h.w0,by show(K.wk.set i _).length<=64;rw[List.length_set];exact h.w1,h.out⟩
  ·exact h
 ·exact h
theorem dy{K':KS}(a:aj K c)(e:K'.ai=K.ai)(f:K'.wk=K.wk):aj K' c:=by
 cases c with
 |own i=>show i<_;rw[f];exact a
 |ai id k=>obtain⟨t,b,d⟩:=a;exact⟨t,by rw[e];exact b,d⟩
theorem uJ(h:Inv N M K)(b:aj K c)(k:jc x):Inv (N+1) M (bh K c x):=by
 have g:=h.lY b;have o:=g.r _ k.a;have hb:=g.r _ k.b;have up:∀{K':KS},Inv N M K'->Inv (N+1) M K':=fun h=>h.more (Nat.le_succ _) (Nat.le_refl _)
 unfold bh;dsimp only;split
 ·have d:=h.ax b x.a.toNat 0 bE
  have hlen:(K.ax c x.a.toNat 0).wk.length=K.wk.length:=br _ _;have l:aj (K.ax c x.a.toNat 0) c:=b.gr (bA b _) hlen;have key:∀n:Int,Inv (N+1) M (if n<=4096 then({K.ax c x.a.toNat 0 with blocks:=(df (K.ax c x.a.toNat 0).blocks (K.ax c x.a.toNat 0).mem n.toNat).2.1,mem:=(df (K.ax c x.a.toNat 0).blocks (K.ax c x.a.toNat 0).mem n.toNat).2.2}:KS).ax c x.a.toNat (match(df (K.ax c x.a.toNat 0).blocks (K.ax c x.a.toNat 0).mem n.toNat).1 with|some h=>(h:Int)|none=>0)else K.ax c x.a.toNat 0):=fun n=>by
   split
   ·have f:=nk d.bI d.mem n.toNat
    refine((up d).uI f.1 f.2.1).ax (dy l rfl rfl) _ _ ?_;split
    ·rename_i a e;exact f.2.2 a e
    ·exact bE
   ·exact up d
  exact key _
 split
 ·split
  ·exact up (h.jm _)
  ·exact up h
 split
 ·split
  ·have j:=h.obj.make x.v ((K.F c).r x.b.toNat) hb
   refine up ((h.setObj j.1).ax (dy b rfl rfl) _ _ ?_);cases m:(fP K.cT x.v ((K.F c).r x.b.toNat)).1 with
   |none=>exact bE
   |some y=>exact j.2 y m
  ·exact up (h.ax b _ _ bE)
 split
 ·exact up (h.setObj (h.obj.gone _))
 ·exact up h
theorem Inv.fresh(h:Inv N M K)(q:N<=900000):∀f id,(dh K.table f).1=some id->aw K.ai id=none:=fun f id hb=>by
 cases m:aw K.ai id with
 |none=>rfl
 |some t=>
  cases a:dh K.table f with
  |mk o t2=>
   rw[a]at hb;have hb:o=some id:=hb;subst hb;unfold dh at a;cases d:iY K.table 0 with
   |none=>rw[d]at a;cases a
   |some p=>
    obtain⟨_,r,b,n⟩:=oi K.table 0 p d;rw[Nat.sub_zero]at b;rw[d]at a;dsimp only at a;rw[b]at a;dsimp only at a;injection a with g _
    injection g with g
    obtain⟨_,r',l,_⟩:=h.core.ai id t m;have k:=h.core.cZ.row p r b;have s:p<64:=(by have:=(List.getElem?_eq_some_iff.1 b).1;rw[h.core.cZ.len]at this;exact this);have t0:=k.t0;have t1:=k.t1;have w1:IntKind.u64.wrap (r.times+1)=r.times+1:=(by unfold IntKind.wrap IntKind.bits IntKind.signed;simp;omega);have w2:IntKind.u64.wrap (64*(r.times+1))=64*(r.times+1):=(by unfold IntKind.wrap IntKind.bits IntKind.signed;simp;omega);have w3:IntKind.u64.wrap ((p:Int)+64*(r.times+1))=(p:Int)+64*(r.times+1):=(by unfold IntKind.wrap IntKind.bits IntKind.signed;simp;omega);rw[w1,w2,w3]at g;have:=(uD l);have e:(id%64).toNat=p:=(by omega);rw[e,b]at this;have j:=this.2.1;rw[<-Option.some.inj this.1,n]at j;cases j
theorem pP(b:aj K c)(id a:Int):aj (eo K id a) c:=dy b (hg K id a) (kZ K id a)
theorem uK(h:Inv N M K)(m:N<=900000)(z:i<K.wk.length)(a:aj K c)(g:jc x):Inv (N+1) M (bD C K i c x):=by
 have f:=h.lY a;have e:=f.r _ g.a;have hb:=f.r _ g.b;have w:=f.r _ g.c;have up:∀{K':KS},Inv N M K'->Inv (N+1) M K':=fun h=>h.more (Nat.le_succ _) (Nat.le_refl _)
 unfold bD;dsimp only;split
 ·split
  ·obtain⟨j,k,p⟩:=h.born m (wrap64 ((K.F c).r x.b.toNat)) ((K.F c).r x.c.toNat) w
   have y:=k6 (K:=K) (wrap64 ((K.F c).r x.b.toNat)) ((K.F c).r x.c.toNat) (h.fresh m);have o:(bQ K (wrap64 ((K.F c).r x.b.toNat)) ((K.F c).r x.c.toNat)).2.wk=K.wk:=n9 _ _;have n:aj (bQ K (wrap64 ((K.F c).r x.b.toNat)) ((K.F c).r x.c.toNat)).2 c:=a.gr y (by rw[o]);split
   ·rename_i q
    obtain⟨t,B,D⟩:=p q;have A:i<(bQ K (wrap64 ((K.F c).r x.b.toNat)) ((K.F c).r x.c.toNat)).2.wk.length:=(by rw[o];exact z);exact(j.F3 A B D).ax (n.gr (dV _ _ _) (fE _ _ _)) _ _ k
   ·exact j.ax n _ _ k
  ·exact up (h.ax a _ _ bE)
 split
 ·have d:=uG h.core.cZ ((K.F c).r x.a.toNat)
  have b:=h.ot (h.core.same d.1 d.2);split
  ·exact up ((b.home _ _).ax (pP (K:=({K with table:=(e8 K.table ((K.F c).r x.a.toNat)).2}:KS)) (dy a rfl rfl) _ _) _ _ e)
  ·exact up (b.ax (dy a rfl rfl) _ _ e)
 split
 ·have d:=yj h.core.cZ ((K.F c).r x.b.toNat)
  have b:=h.ot (h.core.same d.1 d.2.1);split
  ·exact up ((b.home _ _).ax (pP (K:=({K with table:=(fy K.table ((K.F c).r x.b.toNat)).2.2.2.2}:KS)) (dy a rfl rfl) _ _) _ _ d.2.2)
  ·exact up (b.ax (dy a rfl rfl) _ _ d.2.2)
 split
 ·exact up (h.ax a _ _ (bO _))
 split
 ·refine up (h.ax a _ _ ?_)
  unfold fx;rcases fi (l:=K.table) (id:=(K.F c).r x.b.toNat)with⟨b,_⟩|⟨r,b,s,u⟩
  ·rw[b];exact bE
  ·rw[b];dsimp only;rw[s];exact(h.core.cZ.at u).1.home
 ·exact up (h.ax a _ _ e)
theorem pQ(K:KS)(pid v:Int):(b3 K pid v).wk=K.wk/\(b3 K pid v).ring=K.ring/\(b3 K pid v).table=K.table:=by unfold b3;split<;>exact⟨rfl,rfl,rfl⟩
theorem qX(h:Inv N M K)(o:i<K.wk.length)(d:aj K c)(w:jc x):Inv N M (bl K i c x):=by
 unfold bl;dsimp only;split
 ·have a:=h.q.take ((K.F c).r x.b.toNat) ((K.F c).r x.c.toNat)
  obtain⟨p,r⟩:=nm (eJ K.q ((K.F c).r x.b.toNat) ((K.F c).r x.c.toNat));rw[r]at a⊢;have g:=h.km a.1;split
  ·have m:=g.uH (g.b2.bp p.1)
   have b:=m.hz (id:=p.1) 0 bE;obtain⟨e,f⟩:=nm (b3 ({K with q:=p.2.2,clock:=(K.clock.bp p.1).2}:KS) p.1 0);have n:Gr K e:=(by rw[<-f];exact(Gr.of_eq (K':=({K with q:=p.2.2,clock:=(K.clock.bp p.1).2}:KS)) rfl).trans (jU _ _ _));have l:e.wk=K.wk:=(by rw[<-f];exact(pQ _ _ _).1);have b:Inv N M e:=(by rw[<-f];exact b);show Inv N M (KS.ax (if cz (b3 ({K with q:=p.2.2,clock:=(K.clock.bp p.1).2}:KS) p.1 0) p.1=3 then ep (b3 ({K with q:=p.2.2,clock:=(K.clock.bp p.1).2}:KS) p.1 0) i p.1 else b3 ({K with q:=p.2.2,clock:=(K.clock.bp p.1).2}:KS) p.1 0) c x.a.toNat p.1)
   rw[f];have j:aj e c:=d.gr n (by rw[l]);split
   ·rename_i k
    rw[lZ]at k;obtain⟨⟨t,s⟩,u⟩:=b.core.Am k;exact(b.F3 (by rw[l];exact o) s u).ax (j.gr (dV _ _ _) (fE _ _ _)) _ _ a.2
   ·exact b.ax j _ _ a.2
  ·exact g.ax (dy d rfl rfl) _ _ bE
 split
 ·have a:=h.q.move ((K.F c).r x.b.toNat) ((K.F c).r x.c.toNat)
  exact(h.km a.1).ax (dy d rfl rfl) _ _ a.2
 split
 ·refine h.ax d _ _ ?_
  split
  ·exact Aq
  ·exact bE
 ·exact h.ax d _ _ bE
theorem As(h:Inv N M K)(a:N<=900000)(b:i<K.wk.length)(hid:aK id)(c:cJ)(x:be):aK (ik C K i id c x):=by
 unfold ik;dsimp only
 repeat' split
 all_goals first|exact bO _|exact h.b2.now|exact hid|exact h.draw|exact h.Ar a b|exact Aq|exact bE
theorem ju(h:Inv N M K)(g:N<=900000)(a:i<K.wk.length){idO:Option Int}(d:aj K c)(f:jc x)
 (l:∀id,idO=some id->(K.W i).slot=id/\id≠0/\∃t,aw K.ai id=some t/\t.l.length%2=0):Inv (N+1) (M+1) (az C K i idO c x).2:=by
 have up:∀{K':KS},Inv N M K'->Inv (N+1) (M+1) K':=fun h=>h.more (Nat.le_succ _) (Nat.le_succ _)
 have m:∀{K':KS},Inv (N+1) M K'->Inv (N+1) (M+1) K':=fun h=>h.more (Nat.le_refl _) (Nat.le_succ _)
 unfold az;dsimp only;split
 ·cases idO with
  |none=>exact up h
  |some id=>
   obtain⟨e,j,t,k,n⟩:=l id rfl;exact qV h g a e j k n d f
 split
 ·exact up (qW h a d f)
 split
 ·have e:Inv N M (gu K 0).2:=h.qT (h.mem.acc 0 0 0 0 bE).1
  have j:∀b,Inv N M ((gu K 0).2.bj i {(gu K 0).2.W i with parked:=b}):=fun b=>e.bj (by exact a) rfl rfl ⟨(e.gA (by exact a)).f,(e.gA (by exact a)).l0,(e.gA (by exact a)).l1⟩
  split
  ·exact up (j _)
  ·exact up (j _)
 split
 ·exact up (yl h g a d f)
 split
 ·exact m (uJ h d f)
 split
 ·exact m (uK h g a d f)
 split
 ·exact up (qX h a d f)
 split
 ·exact up h
 ·refine up (h.ax d _ _ (As h g a ?_ c x))
  cases idO with
  |none=>exact bE
  |some id=>
   obtain⟨_,_,t,k,_⟩:=l id rfl;exact(h.Et g k).1
end
theorem ou{n:Int}{used less:Bool}(h:fp n used less=true):(0<=n/\n<32)∨(n=-1/\less=true):=by
 unfold fp at h;split at h
 ·rw[Bool.or_eq_true,Bool.and_eq_true]at h
  rcases h with h|⟨a,b⟩
  ·exact Or.inl (by simpa using h)
  ·exact Or.inr ⟨by simpa using b,a⟩
 ·have:n=0:=by simpa using h
  subst this;exact Or.inl ⟨by decide,by decide⟩
theorem dz{n:Nat}(h:bC x n=true):(0<=x.a/\x.a<32)/\((0<=x.b/\x.b<32)∨(x.b=-1/\nE x.op=true))/\((0<=x.c/\x.c<32)∨(x.c=-1/\mx x.op=true))/\1<=x.op/\x.op<=58:=by
 obtain⟨y,d,e,f,g,b⟩:=jk h;unfold eD j8 my at b;simp only[Bool.and_eq_true]at b;obtain⟨⟨⟨a,_⟩,⟨⟨j,k⟩,l⟩,_⟩,_⟩:=b;have a:1<=y.op/\y.op<=58:=by simpa using a
 rw[<-d,<-e,<-f,<-g];refine⟨?_,ou k,ou l,a⟩;rcases ou j with h|⟨_,h⟩
 ·exact h
 ·cases h
end
def G7(Y:Var):Option Int->Value
 |none=> .pointer none
 |some id=> .pointer (some (Y.bI id,0))
theorem mP{N M:Nat}(s:Inv N M K)(a0:N<=800000)(I:M<=800000)(i:Nat)(r:i<K.wk.length)(idO:Option Int)
 (J:∀id,idO=some id->(K.W i).slot=id/\id≠0/\∃t,aw K.ai id=some t/\t.l.length%2=0) (c:cJ) (b o:Nat) (l:aj K c) (m:aR L Y c b o)
 (x:be) (n:Nat) (U:bC x n=true) (V:22<=x.op) (B:aK x.v) (Z:0<=K.w/\K.w<K.wk.length) (E:C.bs.length<=2048) (h:ae w χ L Y C K):
 Calls prog 133 #[(L.mb,0),(L.wb,i*38),G7 Y idO,(b,o),aL x] w (dO (az C K i idO c x) χ L Y C K w):=by
 obtain⟨q,D,O,_,R⟩:=dz U;obtain⟨op,f,d,a,j,g,k⟩:=x;dsimp only at q D O R V B;have z:0<=a/\a<32:=O.elim id fun e=>by have:=e.2;unfold mx at this;simp at this;omega
 have A:(op≠31/\op≠32/\op≠43)->0<=d/\d<32:=fun a1=>D.elim id fun e=>by have:=e.2;unfold nE at this;simp at this;omega
 have S:=(nk s.bI s.mem 1).1;have p:=(s.lY l).r;have W:(op=22∨op=36)∨(op=24∨op=28∨op=51∨op=53∨op=55∨op=56∨op=57∨op=58)∨(op=31∨op=32)∨(op=30∨op=33∨op=34∨op=35)∨(op=43∨op=44∨op=45∨op=46)∨(op=48∨op=52∨op=54∨op=49∨op=50)∨(op=25∨op=26∨op=27)∨(op=23∨op=41∨op=37∨op=40∨op=42∨op=29∨op=38∨op=39∨op=47):=by omega
 rcases W with(rfl|rfl)|e|e|e|e|e|e|e
 ·exact uA _ _ i c b o f d a j g k h
 ·exact uB _ _ i r c b o l m f d a j g k q h
 ·cases idO with
  |none=>exact xS i c b o op f d a j g k e h
  |some id=>
   obtain⟨X,Q,t,u,T⟩:=J id rfl;have v:=(s.de u).id;have G:=(s.de u).l;have F:=G.n8;have P:1<t.l.length:=(by have:=G.n0;omega);have y:=(s.Et (by omega) u).1;have hb:=A (by omega);refine xM id i c b o op f d a j g k e rfl (fun w h=> ?_) h;rcases e with rfl|rfl|rfl|rfl|rfl|rfl|rfl|rfl
   ·exact sq i r id t u v y c b o l m p f d a j g k q hb z (s.b2.ok (by omega)) h
   ·exact sr i r id t u v y c b o l m p f d a j g k q h
   ·exact sk i r id t u v y c b o l m p f d a j g k q h
   ·exact sm i r id t u v y c b o l m p f d a j g k q h
   ·exact sn i r id t u v y c b o l m p f d a j g k (s.b2.ok (by omega)) (s.bI.ok (by omega)) (Nat.le_trans s.out I) h
   ·exact so i r id t u v y c b o l m p f d a j g k h
   ·exact ss i r id t u v y c b o l m p f d a j g k q (by omega) F E h
   ·exact sp i r id t u v y c b o l m p f d a j g k P F (Nat.le_trans s.out I) h
 ·refine xN _ _ i c b o op f d a j g k e rfl (fun w h=> ?_) h
  rcases e with rfl|rfl
  ·exact sE i r c b o l m p f d a j g k q B h
  ·exact sF i r c b o l m p f d a j g k q z B (s.mem.acc 4 _ _ _ (p _ (by omega))).2 h
 ·refine xO _ _ i c b o op f d a j g k e rfl (fun w h=> ?_) h
  rcases e with rfl|rfl|rfl|rfl
  ·exact Ad i r c b o l m p f d a j g k q h
  ·exact Ae i r c b o l m p f d a j g k q (s.Ar (by omega) r) h
  ·exact Af i r c b o l m p f d a j g k q h
  ·exact Ag i r c b o l m p f d a j g k q (s.Ar (by omega) r) h
 ·refine xP _ _ i c b o op f d a j g k e rfl (fun w h=> ?_) h
  have B1:=s.bI.ok (by omega);rcases e with rfl|rfl|rfl|rfl
  ·rcases D with hb|⟨rfl,_⟩
   ·exact ux c b o l m p f d a j g k q hb B1 h
   ·exact uy c b o l m p f a j g k q B B1 h
  ·exact xT c b o l m p f d a j g k q B1 h
  ·exact xV c b o l m p f d a j g k q (A (by decide)) B h
  ·exact xU c b o l m p f d a j g k q h
 ·refine xQ _ _ i c b o op f d a j g k e rfl (fun w h=> ?_) h
  have B1:=s.bI.ok (by omega);have hb:=A (by omega);rcases e with rfl|rfl|rfl|rfl|rfl
  ·exact x' i r c b o l m p f d a j g k q hb z E B1 (S.ok (by omega)) (s.fresh (by omega)) (s.born (by omega) _ _ (p _ (by omega))).2.1 h
  ·exact xZ i r c b o l m p f d a j g k q hb B1 h
  ·exact xY i r c b o l m p f d a j g k q hb B1 h
  ·exact xW i r c b o l m p f d a j g k q hb h
  ·exact xX i r c b o l m p f d a j g k q hb h
 ·refine xR _ _ i c b o op f d a j g k e rfl (fun w h=> ?_) h
  have hb:=A (by omega);rcases e with rfl|rfl|rfl
  ·exact sA i r c b o l m p f d a j g k q hb z (s.b2.ok (by omega)) (s.q.take _ _).2 h
  ·exact sD i r c b o l m p f d a j g k q hb z h
  ·exact sB i r c b o l m p f d a j g k q hb z h
 ·have hb:=A (by omega)
  have H:∀id w,ae w χ L Y C K->Calls prog 170 #[(L.mb,0),(L.wb,i*38),.int .u64 id,(b,o),aL ⟨op,f,d,a,j,g,k⟩] w (nh (ik C K i id c ⟨op,f,d,a,j,g,k⟩) w):=fun id w h=>Ai i r id c b o l m p op f d a j g k e hb Z E h
  cases idO with
  |none=>exact yb i c b o l m op f d a j g k q e (H 0) h
  |some id=>
   obtain⟨X,Q,t,u,T⟩:=J id rfl;exact yc id t u (s.de u).id i c b o l m op f d a j g k q e (H id) h
section
variable{x:be}{f:cP}{c:cJ}{id:Int}{t:Thread}{i:Nat}
theorem Au(h:fF f):fF (dG x f).2/\((dG x f).1=0∨(dG x f).1=2∨(dG x f).1=3):=by
 unfold dG;split
 ·split
  ·exact⟨h,Or.inr (Or.inl rfl)⟩
  ·exact⟨⟨h.r,by show(f.back.take _).length<=8;rw[List.length_take];have:=h.back;omega⟩,Or.inl rfl⟩
 ·split
  ·split
   ·exact⟨h,Or.inr (Or.inr rfl)⟩
   ·exact⟨⟨h.r,by show(f.back++[_]).length<=8;rw[List.length_append,List.length_singleton];omega⟩,Or.inl rfl⟩
  ·split
   ·exact⟨h.pc _,Or.inl rfl⟩
   ·split
    ·exact⟨h.pc _,Or.inl rfl⟩
    ·exact⟨h.pc _,Or.inl rfl⟩
theorem CI(h:fF f)(n:Int):aK (gR f.r n):=xd h.r n
theorem sN{o:Type}{Q Q':o->Prop}(acc:o->Int->Int->Int->Int->Option Int×o)(m:∀S kind a u v,Q S->aK v->Q' (acc S kind a u v).2/\∀x,(acc S kind a u v).1=some x->aK x)(h:∀S,Q S->Q' S)
 (l:List be) (B:∀x∈l,aK x.v) (f:cP) (d:fF f) (S:o) (b:Q S):fF (bM acc l f S).2.1/\Q' (bM acc l f S).2.2/\
 ((bM acc l f S).1=0∨(bM acc l f S).1=1∨(bM acc l f S).1=2∨(bM acc l f S).1=3)/\
 ((bM acc l f S).1=0∨(bM acc l f S).1=1->bC (fB l f.pc) l.length=true/\fB l f.pc∈l)/\
 ((bM acc l f S).1=1->22<=(fB l f.pc).op/\(bM acc l f S).2.1=f/\(bM acc l f S).2.2=S):=by
 unfold bM;split
 ·exact⟨d,h _ b,Or.inr (Or.inr (Or.inr rfl)),(fun e=>by rcases e with e|e<;>cases e),fun e=>by cases e⟩
 ·rename_i G
  split
  ·exact⟨d,h _ b,Or.inr (Or.inr (Or.inr rfl)),(fun e=>by rcases e with e|e<;>cases e),fun e=>by cases e⟩
  ·rename_i x s
   have F:=(List.getElem?_eq_some_iff.1 s).1;have z:fB l f.pc=x:=by
    have:=oc (l:=l) (pc:=f.pc) (by omega) (by omega);rw[s]at this;exact(Option.some.inj this).symm
   have j:x∈l:=List.mem_of_getElem? s;rw[z];split
   ·exact⟨d,h _ b,Or.inr (Or.inr (Or.inr rfl)),(fun e=>by rcases e with e|e<;>cases e),fun e=>by cases e⟩
   ·rename_i g
    have g:bC x l.length=true:=(by simpa using g);split
    ·have:=Au (x:=x) d
     refine⟨this.1,h _ b,?_,fun _=>⟨g,j⟩,fun e=> ?_⟩
     ·rcases this.2 with e|e|e
      ·exact Or.inl e
      ·exact Or.inr (Or.inr (Or.inl e))
      ·exact Or.inr (Or.inr (Or.inr e))
     ·exfalso
      have e:(dG x f).1=1:=e;rcases this.2 with p|p|p<;>rw[p]at e<;>cases e
    ·split
     ·have k:Q' (cR acc S x f.r).2/\∀v,(cR acc S x f.r).1=some v->aK v:=by
       have n:aK (f.r x.a.toNat):=by
        have:=(dz g).1;exact d.r _ (by omega)
       have A:aK (f.r x.c.toNat):=by
        have:=(dz g).2.2.1;exact d.r _ (by omega)
       unfold cR;dsimp only;split
       ·exact m _ _ _ _ _ b bE
       ·split
        ·have:=m S 1 (dE f.r x) 0 _ b n
         refine⟨this.1,fun v e=> ?_⟩;cases q:(acc S 1 (dE f.r x) 0 (f.r x.a.toNat)).1 with
         |none=>rw[q]at e;cases e
         |some y=>rw[q]at e;rw[<-Option.some.inj e];exact n
        ·split
         ·exact m _ _ _ _ _ b n
         ·split
          ·exact m _ _ _ _ _ b n
          ·exact m _ _ _ _ _ b A
      split
      ·rename_i w r
       rw[r]at k;exact⟨d,k.1,Or.inr (Or.inr (Or.inr rfl)),fun _=>⟨g,j⟩,fun e=>by cases e⟩
      ·rename_i v w r
       rw[r]at k;exact⟨(d.ax x.a.toNat v (k.2 v rfl)).pc _,k.1,Or.inl rfl,fun _=>⟨g,j⟩,fun e=>by cases e⟩
     ·split
      ·exact⟨(d.ax x.a.toNat _ (t' x _ _ (B x j) (CI d _))).pc _,h _ b,Or.inl rfl,fun _=>⟨g,j⟩,fun e=>by cases e⟩
      ·rename_i q D E
       refine⟨d,h _ b,Or.inr (Or.inl rfl),fun _=>⟨g,j⟩,fun _=>⟨?_,rfl,rfl⟩⟩;have:=(dz g).2.2.2;omega
structure ow(C:KC):Prop where
 ll:C.dH.length<=2048
 pl:C.bs.length<=2048
 cl:C.calls.length<=2048
 lv:∀x∈C.dH,aK x.v
 pv:∀x∈C.bs,aK x.v
 F4:∀x∈C.bs,eD x C.bs.length false=true
 bw:0<=C.wide/\C.wide<=256/\0<=C.narrow/\C.narrow<=256
 Eu:C.rows.length=1000
 rows:∀r∈C.rows,0<=r/\r<=C.calls.length
section
variable{N M:Nat}{K:KS}{C:KC}
theorem jc.of{n:Nat}(h:bC x n=true)(a:aK x.v):jc x:=by
 obtain⟨b,d,e,_⟩:=dz h;exact⟨by omega,by omega,by omega,a⟩
theorem l4(d:ow C)(h:Inv N M K)(g:aj K c):Inv N M (cB C K c).2.2/\((cB C K c).2.1=0∨(cB C K c).2.1=1∨(cB C K c).2.1=2∨(cB C K c).2.1=3)/\
 ((cB C K c).2.1=0∨(cB C K c).2.1=1->bC (cB C K c).1 C.dH.length=true/\aK (cB C K c).1.v)/\((cB C K c).2.1=1->22<=(cB C K c).1.op):=by
 have b:=sN (Q:=b8) (Q':=b8) aI.acc (fun S kind a l v j k=>j.acc kind a l v k) (fun _ h=>h) C.dH d.lv (K.F c) (h.lY g) K.mem h.mem;unfold cB;dsimp only;exact⟨(h.qT b.2.1).cI (dy g rfl rfl) b.1,b.2.2.1,fun e=>⟨(b.2.2.2.1 e).1,d.lv _ (b.2.2.2.1 e).2⟩,fun e=>(b.2.2.2.2 e).1⟩
theorem nl{K1:KS}(d:aj K c)(a:K1.ai=K.ai)(b:K1.wk=K.wk)(f:cP):Gr K (K1.cI c f)/\(K1.cI c f).wk.length=K.wk.length:=
 ⟨(Gr.of_eq a).trans (bA (dy d a b) f),(br c f).trans (by rw[b])⟩
theorem ox(C:KC)(a:aj K c):Gr K (cB C K c).2.2/\(cB C K c).2.2.wk.length=K.wk.length:=by
 unfold cB;dsimp only;exact nl (K1:=({K with mem:=(bM aI.acc C.dH (K.F c) K.mem).2.2}:KS)) a rfl rfl _
theorem oy(C:KC)(i:Nat)(a:i<K.wk.length):((cB C K c).2.2.W i).slot=(K.W i).slot/\(cB C K c).2.2.w=K.w:=by
 unfold cB;dsimp only;cases c with
 |own j=>
  refine⟨?_,rfl⟩;show((KS.bj _ j _).W i).slot=_
  by_cases e:i=j
  ·subst e;rw[gM (by exact a)];rfl
  ·unfold KS.W KS.bj
   dsimp only;rw[List.getD_eq_getElem?_getD,List.getElem?_set_ne (fun h=>e h.symm),List.getD_eq_getElem?_getD]
 |ai id k=>exact⟨rfl,rfl⟩
theorem pR(C:KC){k:Nat}(b:aw K.ai id=some t):∃a,aw (cB C K (.ai id k)).2.2.ai id=some a/\a.l.length=t.l.length/\a.id=t.id:=by
 unfold cB;dsimp only;refine⟨_,by show aw (cn K.ai id _) id=_;rw[aV,if_pos rfl],?_,?_⟩
 ·show(List.set (K.T id).l k _).length=_
  rw[List.length_set,KS.dm b]
 ·show(K.T id).id=_
  rw[KS.dm b]
theorem ef(a:aj K c)(k:Nat)(x:Int):Gr K (K.ax c k x):=bA a _
theorem ym(C:KC)(i:Nat):Gr K (dB C K i):=Gr.of_eq rfl
theorem oz(i:Nat)(id:Int):Gr K (eK K i id)/\(eK K i id).wk.length=K.wk.length:=by
 unfold eK
 repeat' split
 all_goals first|exact⟨Gr.refl _,rfl⟩|exact⟨Gr.of_eq rfl,bG _ _⟩
theorem yn(C:KC)(i:Nat):(dB C K i).wk.length=K.wk.length:=by unfold dB gJ;rw[bG,bG]
theorem sO(i:Nat)(a:aw K.ai id=some t)(b:aj K c)(x:be):(aB C K i id c x).1=0->Gr K (aB C K i id c x).2/\(aB C K i id c x).2.wk.length=K.wk.length:=by
 unfold aB;dsimp only;split
 ·split
  ·exact fun _=>⟨Gr.of_eq rfl,rfl⟩
  ·exact fun _=>⟨Gr.of_eq rfl,rfl⟩
 split
 ·split
  ·intro e;cases e
  ·exact fun _=>⟨ef b _ _,br _ _⟩
 split
 ·exact fun _=>⟨Gr.of_eq rfl,rfl⟩
 split
 ·exact fun _=>⟨Gr.of_eq rfl,rfl⟩
 split
 ·intro e;cases e
 split
 ·exact fun _=>⟨(Gr.of_eq (sy K id)).trans (ym C i),yn C i⟩
 split
 ·split
  ·exact fun _=>⟨by rw[KS.dm a];exact qQ a (by simp),rfl⟩
  ·exact fun _=>⟨Gr.refl _,rfl⟩
 split
 ·intro e;cases e
 ·exact fun _=>⟨Gr.refl _,rfl⟩
theorem sP(a:aj K c)(x:be):(bf K i c x).1=0->Gr K (bf K i c x).2/\(bf K i c x).2.wk.length=K.wk.length:=by
 unfold bf;dsimp only;split
 ·split
  ·intro e;cases e
  ·exact fun _=>⟨Gr.of_eq rfl,bG _ _⟩
 ·split
  ·intro e;cases e
  ·rename_i held b
   have g:=nl (K1:=({K with mem:=(K.mem.acc 4 (dE (K.F c).r x) ((K.F c).r x.a.toNat) ((K.F c).r x.c.toNat)).2}:KS)) a rfl rfl {({K with mem:=(K.mem.acc 4 (dE (K.F c).r x) ((K.F c).r x.a.toNat) ((K.F c).r x.c.toNat)).2}:KS).F c with r:=fW (({K with mem:=(K.mem.acc 4 (dE (K.F c).r x) ((K.F c).r x.a.toNat) ((K.F c).r x.c.toNat)).2}:KS).F c).r x.a.toNat held};split
   ·exact fun _=>⟨g.1.trans (oz _ _).1,(oz _ _).2.trans g.2⟩
   ·exact fun _=>g
theorem Av(i:Nat)(a:aj K c)(x:be):Gr K (b0 K i c x)/\(b0 K i c x).wk.length=K.wk.length:=by
 unfold b0;dsimp only;split
 ·exact oz _ _
 split
 ·split
  ·exact⟨Gr.of_eq rfl,bG _ _⟩
  ·exact⟨Gr.refl _,rfl⟩
 split
 ·have hlen:(K.ax c x.a.toNat 0).wk.length=K.wk.length:=br _ _
  have g:=ef a x.a.toNat 0;split
  ·have b:aj ((({K.ax c x.a.toNat 0 with ring:=(gS (K.ax c x.a.toNat 0).ring).2.2}:KS)).bj i {(({K.ax c x.a.toNat 0 with ring:=(gS (K.ax c x.a.toNat 0).ring).2.2}:KS)).W i with hand:=(gS (K.ax c x.a.toNat 0).ring).1}) c:=
    (a.gr g hlen).gr (Gr.of_eq rfl) (bG _ _)
   exact⟨(g.trans (Gr.of_eq rfl)).trans (ef b _ _),(br _ _).trans ((bG _ _).trans hlen)⟩
  ·exact⟨g,hlen⟩
 split
 ·split
  ·exact⟨Gr.of_eq rfl,bG _ _⟩
  ·exact⟨Gr.refl _,rfl⟩
 ·exact⟨Gr.refl _,rfl⟩
theorem yo(a:aj K c)(x:be):Gr K (bh K c x)/\(bh K c x).wk.length=K.wk.length:=by
 unfold bh;dsimp only;split
 ·have hlen:(K.ax c x.a.toNat 0).wk.length=K.wk.length:=br _ _
  have g:=ef a x.a.toNat 0;have key:∀n:Int,Gr K (if n<=4096 then({K.ax c x.a.toNat 0 with blocks:=(df (K.ax c x.a.toNat 0).blocks (K.ax c x.a.toNat 0).mem n.toNat).2.1,mem:=(df (K.ax c x.a.toNat 0).blocks (K.ax c x.a.toNat 0).mem n.toNat).2.2}:KS).ax c x.a.toNat (match(df (K.ax c x.a.toNat 0).blocks (K.ax c x.a.toNat 0).mem n.toNat).1 with|some h=>(h:Int)|none=>0)else K.ax c x.a.toNat 0)/\(if n<=4096 then({K.ax c x.a.toNat 0 with blocks:=(df (K.ax c x.a.toNat 0).blocks (K.ax c x.a.toNat 0).mem n.toNat).2.1,mem:=(df (K.ax c x.a.toNat 0).blocks (K.ax c x.a.toNat 0).mem n.toNat).2.2}:KS).ax c x.a.toNat (match(df (K.ax c x.a.toNat 0).blocks (K.ax c x.a.toNat 0).mem n.toNat).1 with|some h=>(h:Int)|none=>0)else K.ax c x.a.toNat 0).wk.length=K.wk.length:=fun n=>by
   split
   ·have q:=nl (K:=K.ax c x.a.toNat 0) (K1:=({K.ax c x.a.toNat 0 with blocks:=(df (K.ax c x.a.toNat 0).blocks (K.ax c x.a.toNat 0).mem n.toNat).2.1,mem:=(df (K.ax c x.a.toNat 0).blocks (K.ax c x.a.toNat 0).mem n.toNat).2.2}:KS)) (a.gr g hlen) rfl rfl
    exact⟨g.trans (q _).1,(q _).2.trans hlen⟩
   ·exact⟨g,hlen⟩
  exact key _
 split
 ·split
  ·exact⟨Gr.of_eq rfl,rfl⟩
  ·exact⟨Gr.refl _,rfl⟩
 split
 ·split
  ·exact nl (K1:=({K with cT:=(fP K.cT x.v ((K.F c).r x.b.toNat)).2}:KS)) a rfl rfl _
  ·exact⟨ef a _ _,br _ _⟩
 split
 ·exact⟨Gr.of_eq rfl,rfl⟩
 ·exact⟨Gr.refl _,rfl⟩
theorem yp(h:Inv N M K)(p:N<=900000)(g:aj K c)(x:be):Gr K (bD C K i c x)/\(bD C K i c x).wk.length=K.wk.length:=by
 unfold bD;dsimp only;split
 ·split
  ·have j:=k6 (K:=K) (wrap64 ((K.F c).r x.b.toNat)) ((K.F c).r x.c.toNat) (h.fresh p)
   have k:(bQ K (wrap64 ((K.F c).r x.b.toNat)) ((K.F c).r x.c.toNat)).2.wk=K.wk:=n9 _ _;have n:aj (bQ K (wrap64 ((K.F c).r x.b.toNat)) ((K.F c).r x.c.toNat)).2 c:=g.gr j (by rw[k]);split
   ·exact⟨(j.trans (dV _ _ _)).trans (ef (n.gr (dV _ _ _) (fE _ _ _)) _ _),(br _ _).trans ((fE _ _ _).trans (by rw[k]))⟩
   ·exact⟨j.trans (ef n _ _),(br _ _).trans (by rw[k])⟩
  ·exact⟨ef g _ _,br _ _⟩
 have o:∀(K1:KS) (id a:Int) (y:Nat) (v:Int),K1.ai=K.ai->K1.wk=K.wk->Gr K ((eo K1 id a).ax c y v)/\((eo K1 id a).ax c y v).wk.length=K.wk.length:=fun K1 id a y v d e=>by
  have l:(eo K1 id a).ai=K.ai:=(hg K1 id a).trans d;have m:(eo K1 id a).wk=K.wk:=(kZ K1 id a).trans e;exact⟨(Gr.of_eq l).trans (ef (dy g l m) _ _),(br _ _).trans (by rw[m])⟩
 have b:∀(K1:KS) (y:Nat) (v:Int),K1.ai=K.ai->K1.wk=K.wk->Gr K (K1.ax c y v)/\(K1.ax c y v).wk.length=K.wk.length:=fun K1 y v d e=>
  ⟨(Gr.of_eq d).trans (ef (dy g d e) _ _),(br _ _).trans (by rw[e])⟩
 split
 ·split
  ·exact o _ _ _ _ _ rfl rfl
  ·exact b _ _ _ rfl rfl
 split
 ·split
  ·exact o _ _ _ _ _ rfl rfl
  ·exact b _ _ _ rfl rfl
 split
 ·exact b _ _ _ rfl rfl
 split
 ·exact b _ _ _ rfl rfl
 ·exact b _ _ _ rfl rfl
theorem sQ(k:aj K c)(x:be):Gr K (bl K i c x)/\(bl K i c x).wk.length=K.wk.length:=by
 have a:∀(K1:KS) (y:Nat) (v:Int),K1.ai=K.ai->K1.wk=K.wk->Gr K (K1.ax c y v)/\(K1.ax c y v).wk.length=K.wk.length:=fun K1 y v h j=>
  ⟨(Gr.of_eq h).trans (ef (dy k h j) _ _),(br _ _).trans (by rw[j])⟩
 unfold bl;dsimp only;split
 ·split
  ·obtain⟨p,m⟩:=nm (eJ K.q ((K.F c).r x.b.toNat) ((K.F c).r x.c.toNat))
   rw[m];obtain⟨b,d⟩:=nm (b3 ({K with q:=p.2.2,clock:=(K.clock.bp p.1).2}:KS) p.1 0);have e:Gr K b:=(by rw[<-d];exact(Gr.of_eq (K':=({K with q:=p.2.2,clock:=(K.clock.bp p.1).2}:KS)) rfl).trans (jU _ _ _));have g:b.wk=K.wk:=(by rw[<-d];exact(pQ _ _ _).1);have l:aj b c:=k.gr e (by rw[g]);show Gr K (KS.ax (if cz (b3 ({K with q:=p.2.2,clock:=(K.clock.bp p.1).2}:KS) p.1 0) p.1=3 then ep (b3 ({K with q:=p.2.2,clock:=(K.clock.bp p.1).2}:KS) p.1 0) i p.1 else b3 ({K with q:=p.2.2,clock:=(K.clock.bp p.1).2}:KS) p.1 0) c x.a.toNat p.1)/\(KS.ax (if cz (b3 ({K with q:=p.2.2,clock:=(K.clock.bp p.1).2}:KS) p.1 0) p.1=3 then ep (b3 ({K with q:=p.2.2,clock:=(K.clock.bp p.1).2}:KS) p.1 0) i p.1 else b3 ({K with q:=p.2.2,clock:=(K.clock.bp p.1).2}:KS) p.1 0) c x.a.toNat p.1).wk.length=_
   rw[d];split
   ·exact⟨(e.trans (dV _ _ _)).trans (ef (l.gr (dV _ _ _) (fE _ _ _)) _ _),(br _ _).trans ((fE _ _ _).trans (by rw[g]))⟩
   ·exact⟨e.trans (ef l _ _),(br _ _).trans (by rw[g])⟩
  ·exact a _ _ _ rfl rfl
 split
 ·exact a _ _ _ rfl rfl
 split
 ·exact a _ _ _ rfl rfl
 ·exact a _ _ _ rfl rfl
theorem ko(h:Inv N M K)(b:N<=900000){idO:Option Int}(a:aj K c)(x:be)(d:∀id,idO=some id->∃t,aw K.ai id=some t):
 (az C K i idO c x).1=0->Gr K (az C K i idO c x).2/\(az C K i idO c x).2.wk.length=K.wk.length:=by
 unfold az;dsimp only;split
 ·cases idO with
  |none=>exact fun _=>⟨Gr.refl _,rfl⟩
  |some id=>obtain⟨t,g⟩:=d id rfl;exact sO i g a x
 split
 ·exact sP a x
 split
 ·split
  ·intro e;cases e
  ·exact fun _=>⟨Gr.of_eq rfl,bG _ _⟩
 split
 ·exact fun _=>Av i a x
 split
 ·exact fun _=>yo a x
 split
 ·exact fun _=>yp h b a x
 split
 ·exact fun _=>sQ a x
 split
 ·intro e;cases e
 ·exact fun _=>⟨ef a _ _,br _ _⟩
theorem oA(K:KS)(i:Nat)(idO:Option Int)(c:cJ)(x:be):(az C K i idO c x).1=0∨(az C K i idO c x).1=1∨(az C K i idO c x).1=2:=by
 have b:∀id,(aB C K i id c x).1=0∨(aB C K i id c x).1=1∨(aB C K i id c x).1=2:=fun id=>by
  unfold aB;dsimp only
  repeat' split
  all_goals first|exact Or.inl rfl|exact Or.inr (Or.inl rfl)
 have a:(bf K i c x).1=0∨(bf K i c x).1=1∨(bf K i c x).1=2:=by
  unfold bf;dsimp only
  repeat' split
  all_goals first|exact Or.inl rfl|exact Or.inr (Or.inr rfl)
 unfold az;dsimp only;split
 ·cases idO with
  |none=>exact Or.inl rfl
  |some id=>exact b id
 split
 ·exact a
 repeat' split
 all_goals first|exact Or.inl rfl|exact Or.inr (Or.inl rfl)|exact Or.inr (Or.inr rfl)
theorem jv(K:KS)(i:Nat)(idO:Option Int)(c:cJ)(x:be):(az C K i idO c x).1=2->(az C K i idO c x).2.ai=K.ai/\(az C K i idO c x).2.wk=K.wk:=by
 have a:∀id,(aB C K i id c x).1≠2:=fun id=>by
  unfold aB;dsimp only
  repeat' split
  all_goals(intro e;cases e)
 unfold az;dsimp only;split
 ·cases idO with
  |none=>intro e;cases e
  |some id=>exact fun e=>absurd e (a id)
 split
 ·unfold bf
  dsimp only;split
  ·split
   ·exact fun _=>⟨rfl,rfl⟩
   ·intro e;cases e
  ·split
   ·exact fun _=>⟨rfl,rfl⟩
   ·split
    ·intro e;cases e
    ·intro e;cases e
 repeat' split
 all_goals first|exact fun _=>⟨rfl,rfl⟩|(intro e;cases e)
end
end
variable{M N:Nat}
theorem Aw(c5:ow C)(c6:Inv N M K)(gs:N<=700000)(gr:M<=700000)(i:Nat)(U:i<K.wk.length)(g7:0<=K.w/\K.w<K.wk.length)(h:ae w χ L Y C K):
 Calls prog 88 #[(L.mb,0),(L.wb,i*38)] w (si (.tuple #[]) χ L C (kg C K i) w):=by
 obtain⟨dZ,Y1,fd⟩:=h.pH U false;have hb:=h.we U;have hd:=h.uq (i*38+2);have c7:Inv N M (K.bj i {K.W i with parked:=false}):=c6.bj U rfl rfl ⟨(c6.gA U).f,(c6.gA U).l0,(c6.gA U).l1⟩;obtain⟨K1,c8⟩:=nm (K.bj i {K.W i with parked:=false});have cW:i<K1.wk.length:=by rw[<-c8,bG];exact U
 have g8:0<=K1.w/\K1.w<K1.wk.length:=by rw[<-c8,bG];exact g7
 have a0:Hid (kg C K i=if(eF C K1 i none (.own i)).2.1=0 then dc (eF C K1 i none (.own i)).2.2 0 (.own i) (eF C K1 i none (.own i)).1 else if(eF C K1 i none (.own i)).2.1=3∨(eF C K1 i none (.own i)).2.1=2 then gJ C (eF C K1 i none (.own i)).2.2 i else(eF C K1 i none (.own i)).2.2):=Z (by unfold kg;rw[c8]);rw[c8]at fd c7;have F:=Z fd;have T:aj K1 (.own i):=cW;have eS:aR L Y1 (.own i) L.wb (i*38+4):=⟨rfl,rfl⟩;have cQ:=fun w (h:ae w dZ L Y1 C K1)=>pL (.own i) L.wb (i*38+4) T eS (c7.lY T).r (c7.lY T).back c5.lv c5.ll h
 have dr:=l4 c5 c7 T;have V:=ox C T;have dC:=oy C (c:=.own i) i cW;obtain⟨s,bi⟩:=nm (cB C K1 (.own i));rw[bi]at cQ dr V dC;obtain⟨x,r,m⟩:=s;dsimp only at cQ dr V dC;obtain⟨a1,g5,eL,g3⟩:=dr;have a3:i<m.wk.length:=by rw[V.2];exact cW
 have g9:0<=m.w/\m.w<m.wk.length:=by rw[dC.2,V.2];exact g8
 have a2:aj m (.own i):=T.gr V.1 V.2;obtain⟨b,a,d,f,k,g,l⟩:=x;have X:Hid (∀w,ae w dZ L Y1 C K1->Calls prog 132 #[(L.mb,0),(L.wb,i*38+4)] w (dk (.tuple #[.agg #[b,a,d,f,.int .u64 k,g,l],r]) dZ L Y1 C K1 m w)):=Z cQ;have gk:=Z V;have B:=Z (And.intro T eS);rcases g5 with rfl|rfl|rfl|rfl
 ·obtain⟨av,ex⟩:=eL (Or.inl rfl)
  have cC:Hid (i' b=true->0<=a/\a<32):=Z (fun _=>(dz av).1);have W:Hid (m.out.length<=900000):=Z (by have:=a1.out;omega);have cq:=Z a2;have E:Hid (kg C K i=dc m 0 (.own i) ⟨b,a,d,f,k,g,l⟩):=Z (by rw[a0];unfold eF;rw[bi];rfl);go_in
  go_wp2_with fail
  with_reducible refine(X.out _ F.out.at_).mono ?_
  rintro e w2 ⟨rfl,O,H,o⟩;have v:=Z o;have G:=Z (F.nx.trans o.nx);have I:Hid (aR L H (.own i) L.wb (i*38+4)):=Z (B.2.yk B.1 o.yk);go_wp2
  obtain⟨w3,q⟩:=nm (w2.alloc (.cells #[b,a,d,f,.int .u64 k,g,l] 184));have t:=Z (Ch.al (D:=ag) q);have A:Hid (Row w3 w2.heap.size 184 [b,a,d,f,.int .u64 k,g,l]/\O w2.heap.size=.no):=Z ⟨by rw[<-q];exact Row.new w2 _ _,v.at_.fresh (Nat.le_refl _)⟩;rw[q];have S:=Z (v.af t);have ab:=Z S.at_;have cs:=Z (jV 0 (.own i) L.wb (i*38+4) cq I b a d f k g l cC W ab.drew);obtain⟨cb,cd,ce,cf,ch,ci,ck⟩:=A.1.c7;go_still_tail 5,(by kernel_rfl)
  change wpList _ _ _ _ _ w3.drew;go_wp2_with fail
  with_reducible refine cs.out.mono ?_
  rintro e cl ⟨rfl,P,J,z⟩;have y:=Z (And.intro z.at_ ((G.trans (Nx.af t)).trans ((Nx.af (Ch.refl _ w3).drew).trans z.nx)));go_wp2
  go_end0
  rw[E];exact⟨rfl,P,J,y.1,y.2⟩
 ·obtain⟨av,ex⟩:=eL (Or.inr rfl)
  have g4:=g3 rfl;have cC:Hid (i' b=true->0<=a/\a<32):=Z (fun _=>(dz av).1);have eW:=fun(w:World) (χ:Nat->a') (Y:Var) (dN:aR L Y (.own i) L.wb (i*38+4)) (h:ae w χ L Y C m)=>mP a1 (by omega) (by omega) i a3 none (fun j ap=>by cases ap) (.own i) L.wb (i*38+4) a2 dN ⟨b,a,d,f,k,g,l⟩ _ av g4 ex g9 c5.pl h
  have bv:=ju (C:=C) a1 (by omega) a3 (idO:=none) a2 (jc.of av ex) (fun j ap=>by cases ap);have et:=ko (C:=C) a1 (by omega) (i:=i) (idO:=none) a2 ⟨b,a,d,f,k,g,l⟩ (fun j ap=>by cases ap);have en:=jv (C:=C) m i none (.own i) ⟨b,a,d,f,k,g,l⟩;have es:=oA (C:=C) m i none (.own i) ⟨b,a,d,f,k,g,l⟩;have c1:Hid (eF C K1 i none (.own i)=if(az C m i none (.own i) ⟨b,a,d,f,k,g,l⟩).1=0 then(⟨b,a,d,f,k,g,l⟩,0,(az C m i none (.own i) ⟨b,a,d,f,k,g,l⟩).2.fA (.own i))else if(az C m i none (.own i) ⟨b,a,d,f,k,g,l⟩).1=2 then(⟨b,a,d,f,k,g,l⟩,3,(az C m i none (.own i) ⟨b,a,d,f,k,g,l⟩).2)else(⟨b,a,d,f,k,g,l⟩,1,(az C m i none (.own i) ⟨b,a,d,f,k,g,l⟩).2)):=Z (by unfold eF;rw[bi];rfl);obtain⟨p,dN⟩:=nm (az C m i none (.own i) ⟨b,a,d,f,k,g,l⟩);rw[dN]at eW bv et en es c1;obtain⟨n,u⟩:=p;dsimp only at bv et en es;have cA:Hid (∀(w:World) (χ:Nat->a') (Y:Var),aR L Y (.own i) L.wb (i*38+4)->ae w χ L Y C m->Calls prog 133 #[(L.mb,0),(L.wb,i*38),.pointer none,(L.wb,i*38+4),.agg #[b,a,d,f,.int .u64 k,g,l]] w (dO (n,u) χ L Y C m w)):=Z eW;rcases es with rfl|rfl|rfl
  ·have c9:=et rfl
   have gt:i<u.wk.length:=(by rw[c9.2];exact a3);have cS:aj u (.own i):=a2.gr c9.1 c9.2;have a5:=Z (And.intro cS (And.intro a2 c9));have cq:Hid (aj (u.fA (.own i)) (.own i)):=Z (cS.gr (bA cS _) (br _ _));have go:=Z bv;have W:Hid ((u.fA (.own i)).out.length<=900000):=Z (by have:(u.fA (.own i)).out=u.out:=sx _ _;rw[this];have:=bv.out;omega);have E:Hid (kg C K i=dc (u.fA (.own i)) 0 (.own i) ⟨b,a,d,f,k,g,l⟩):=Z (by rw[a0,c1];rfl);go_in
   go_wp2_with fail
   with_reducible refine(X.out _ F.out.at_).mono ?_
   rintro e w2 ⟨rfl,O,H,o⟩;have v:=Z o;have G:=Z (F.nx.trans o.nx);have I:Hid (aR L H (.own i) L.wb (i*38+4)):=Z (B.2.yk B.1 o.yk);go_wp2
   obtain⟨w3,q⟩:=nm (w2.alloc (.cells #[b,a,d,f,.int .u64 k,g,l] 184));have t:=Z (Ch.al (D:=ag) q);have A:Hid (Row w3 w2.heap.size 184 [b,a,d,f,.int .u64 k,g,l]/\O w2.heap.size=.no):=Z ⟨by rw[<-q];exact Row.new w2 _ _,v.at_.fresh (Nat.le_refl _)⟩;rw[q];have S:=Z (v.af t);obtain⟨cb,cd,ce,cf,ch,ci,ck⟩:=A.1.c7;go_still_tail 6,(by kernel_rfl)
   change wpList _ _ _ _ _ w3.drew;go_wp2_with fail
   have am:=cA _ _ _ I S.at_.drew;with_reducible refine am.mono ?_
   rintro e w4 ⟨rfl,cm,c4,al,bw,bx⟩;have R:=Z al;have Q:=Z ((Nx.af (Ch.refl _ w3).drew).trans bw);have ad:=Z ((G.trans (Nx.af t)).trans Q);have cL:=Z bx;have c0:=Z (Q.row A.1 A.2);have c3:=Z (I.yk a5.2.1 (cL (by intro e;cases e)));have ge:=R.uu a5.1 c3;have f0:=R.hy a5.1 c3 (i*38+4);obtain⟨pc,ec⟩:=nm ((u.F (.own i)).pc);rw[ec]at ge;have fb:=R.qM a5.1 c3 (wrap64 ((u.F (.own i)).pc+1));rw[ec]at fb;have g0:=Z fb;have fz:=Z ec;go_wp2
   obtain⟨gf,g2,eC⟩:=g0.out;obtain⟨eA,gc⟩:=nm (w4.setCell (L.wb,i*38+4) (.int .i64 (wrap64 (pc+1))));rw[gc]at eC⊢;have c2:Hid (dD cm L c4 C u (u.fA (.own i)) w4 gf g2 eA):=Z (by unfold KS.fA;rw[fz];exact eC);have fr:=Z c2.at_;have g1:=Z (c3.yk a5.1 c2.yk);have fn:=Z (c2.nx.row c0.1 c0.2);have cs:=Z (jV 0 (.own i) L.wb (i*38+4) cq g1 b a d f k g l cC W fr.drew);obtain⟨cb,cd,ce,cf,ch,ci,ck⟩:=fn.1.c7;go_still_tail 5,(by kernel_rfl)
   change wpList _ _ _ _ _ eA.drew;go_wp2_with fail
   with_reducible refine cs.out.mono ?_
   rintro e cl ⟨rfl,P,J,z⟩;have y:=Z (And.intro z.at_ ((ad.trans c2.nx).trans ((Nx.af (Ch.refl _ eA).drew).trans z.nx)));go_wp2
   go_end0
   rw[E];exact⟨rfl,P,J,y.1,y.2⟩
  ·have E:Hid (kg C K i=u):=Z (by rw[a0,c1];rfl)
   go_in
   go_wp2_with fail
   with_reducible refine(X.out _ F.out.at_).mono ?_
   rintro e w2 ⟨rfl,O,H,o⟩;have v:=Z o;have G:=Z (F.nx.trans o.nx);have I:Hid (aR L H (.own i) L.wb (i*38+4)):=Z (B.2.yk B.1 o.yk);go_wp2
   obtain⟨w3,q⟩:=nm (w2.alloc (.cells #[b,a,d,f,.int .u64 k,g,l] 184));have t:=Z (Ch.al (D:=ag) q);have A:Hid (Row w3 w2.heap.size 184 [b,a,d,f,.int .u64 k,g,l]/\O w2.heap.size=.no):=Z ⟨by rw[<-q];exact Row.new w2 _ _,v.at_.fresh (Nat.le_refl _)⟩;rw[q];have S:=Z (v.af t);obtain⟨cb,cd,ce,cf,ch,ci,ck⟩:=A.1.c7;go_still_tail 6,(by kernel_rfl)
   change wpList _ _ _ _ _ w3.drew;go_wp2_with fail
   have am:=cA _ _ _ I S.at_.drew;with_reducible refine am.mono ?_
   rintro e w4 ⟨rfl,cm,c4,al,bw,bx⟩;have R:=Z al;have Q:=Z ((Nx.af (Ch.refl _ w3).drew).trans bw);have ad:=Z ((G.trans (Nx.af t)).trans Q);have cL:=Z bx;have c0:=Z (Q.row A.1 A.2);go_wp2
   go_end0
   rw[E];exact⟨rfl,cm,c4,R,ad⟩
  ·have g6:=en rfl
   have W:Hid (u.out.length<=900000):=Z (by have:=bv.out;omega);have a9:Hid (i<u.wk.length):=Z (by rw[g6.2];exact a3);have E:Hid (kg C K i=gJ C u i):=Z (by rw[a0,c1];rfl);go_in
   go_wp2_with fail
   with_reducible refine(X.out _ F.out.at_).mono ?_
   rintro e w2 ⟨rfl,O,H,o⟩;have v:=Z o;have G:=Z (F.nx.trans o.nx);have I:Hid (aR L H (.own i) L.wb (i*38+4)):=Z (B.2.yk B.1 o.yk);go_wp2
   obtain⟨w3,q⟩:=nm (w2.alloc (.cells #[b,a,d,f,.int .u64 k,g,l] 184));have t:=Z (Ch.al (D:=ag) q);have A:Hid (Row w3 w2.heap.size 184 [b,a,d,f,.int .u64 k,g,l]/\O w2.heap.size=.no):=Z ⟨by rw[<-q];exact Row.new w2 _ _,v.at_.fresh (Nat.le_refl _)⟩;rw[q];have S:=Z (v.af t);obtain⟨cb,cd,ce,cf,ch,ci,ck⟩:=A.1.c7;go_still_tail 6,(by kernel_rfl)
   change wpList _ _ _ _ _ w3.drew;go_wp2_with fail
   have am:=cA _ _ _ I S.at_.drew;with_reducible refine am.mono ?_
   rintro e w4 ⟨rfl,cm,c4,al,bw,bx⟩;have R:=Z al;have Q:=Z ((Nx.af (Ch.refl _ w3).drew).trans bw);have ad:=Z ((G.trans (Nx.af t)).trans Q);have cL:=Z bx;have c0:=Z (Q.row A.1 A.2);have a4:=Z (iM i a9 R);go_wp2_with fail
   with_reducible refine a4.out.mono ?_
   rintro e cl ⟨rfl,P,J,z⟩;have y:=Z (And.intro z.at_ ((ad).trans z.nx));go_wp2
   go_end0
   rw[E];exact⟨rfl,P,J,y.1,y.2⟩
 ·have W:Hid (m.out.length<=900000):=Z (by have:=a1.out;omega)
  have a9:=Z a3;have E:Hid (kg C K i=gJ C m i):=Z (by rw[a0];unfold eF;rw[bi];rfl);go_in
  go_wp2_with fail
  with_reducible refine(X.out _ F.out.at_).mono ?_
  rintro e w2 ⟨rfl,O,H,o⟩;have v:=Z o;have G:=Z (F.nx.trans o.nx);have I:Hid (aR L H (.own i) L.wb (i*38+4)):=Z (B.2.yk B.1 o.yk);go_wp2_with fail
  generalize q:w2.alloc _=w3;have t:=Z (Ch.al (D:=ag) q);have ab:=Z (v.af t).at_;have a4:=Z (iM i a9 ab);go_wp2_with fail
  with_reducible refine a4.out.mono ?_
  rintro e cl ⟨rfl,P,J,z⟩;have y:=Z (And.intro z.at_ ((G.trans (Nx.af t)).trans z.nx));go_wp2
  go_end0
  rw[E];exact⟨rfl,P,J,y.1,y.2⟩
 ·have W:Hid (m.out.length<=900000):=Z (by have:=a1.out;omega)
  have a9:=Z a3;have E:Hid (kg C K i=gJ C m i):=Z (by rw[a0];unfold eF;rw[bi];rfl);go_in
  go_wp2_with fail
  with_reducible refine(X.out _ F.out.at_).mono ?_
  rintro e w2 ⟨rfl,O,H,o⟩;have v:=Z o;have G:=Z (F.nx.trans o.nx);have I:Hid (aR L H (.own i) L.wb (i*38+4)):=Z (B.2.yk B.1 o.yk);go_wp2_with fail
  generalize q:w2.alloc _=w3;have t:=Z (Ch.al (D:=ag) q);have ab:=Z (v.af t).at_;have a4:=Z (iM i a9 ab);go_wp2_with fail
  with_reducible refine a4.out.mono ?_
  rintro e cl ⟨rfl,P,J,z⟩;have y:=Z (And.intro z.at_ ((G.trans (Nx.af t)).trans z.nx));go_wp2
  go_end0
  rw[E];exact⟨rfl,P,J,y.1,y.2⟩
theorem ld(cA:ow C)(hu:Inv N M K)(io:N<=700000)(ii:M<=700000)(i:Nat)(hv:i<K.wk.length)(id:Int)(t:Thread)(c2:aw K.ai id=some t)(i1:(K.W i).slot=id)(g9:id≠0)(gf:t.l.length%2=0)(k:Nat)(it:k+1=t.l.length)(i3:0<=K.w/\K.w<K.wk.length)(h:ae w χ L Y C K):
 Calls prog 90 #[(L.mb,0),(L.wb,i*38),(Y.bI id,0),(Y.fb id k,0)] w (si (.tuple #[]) χ L C (cD C K i id k) w):=by
 have eW:=hu;have ge:=hv;have i4:=i3;have T:=Z (dD.refl h);have bx:Hid (cD C K i id k=if(eF C K i (some id) (.ai id k)).2.1=0 then dc (eF C K i (some id) (.ai id k)).2.2 id (.ai id k) (eF C K i (some id) (.ai id k)).1 else if(eF C K i (some id) (.ai id k)).2.1=3∨(eF C K i (some id) (.ai id k)).2.1=2 then eE (eF C K i (some id) (.ai id k)).2.2 id 22 0 else(eF C K i (some id) (.ai id k)).2.2):=Z (by unfold cD;rfl);have am:aj K (.ai id k):=⟨t,c2,by omega⟩;obtain⟨b,hb⟩:=nm (Y.fb id k);obtain⟨tb,cd⟩:=nm (Y.bI id);have gr:aR L Y (.ai id k) b 0:=⟨hb.symm,rfl⟩;rw[hb,cd];have g3:=pR C (K:=K) (k:=k) c2;have fb:=fun w (h:ae w χ L Y C K)=>pL (.ai id k) b 0 am gr (eW.lY am).r (eW.lY am).back cA.lv cA.ll h
 have fn:=l4 cA eW am;have ap:=ox C am;have cL:=oy C (c:=.ai id k) i ge;obtain⟨s,cb⟩:=nm (cB C K (.ai id k));rw[cb]at fb fn ap cL g3;obtain⟨x,r,g⟩:=s;dsimp only at fb fn ap cL g3;obtain⟨O,hF,go,hw⟩:=fn;have fd:i<g.wk.length:=by rw[ap.2];exact ge
 have i5:0<=g.w/\g.w<g.wk.length:=by rw[cL.2,ap.2];exact i4
 have c0:aj g (.ai id k):=am.gr ap.1 ap.2;obtain⟨t2,B,gk,_⟩:=g3;have cC:=(O.de B).id;have gs:(g.W i).slot=id:=cL.1.trans i1;obtain⟨f,a,l,m,q,o,y⟩:=x;have bw:Hid (∀w,ae w χ L Y C K->Calls prog 132 #[(L.mb,0),(b,0)] w (dk (.tuple #[.agg #[f,a,l,m,.int .u64 q,o,y],r]) χ L Y C K g w)):=Z fb;have i9:=Z ap;have S:=Z (And.intro am gr);rcases hF with rfl|rfl|rfl|rfl
 ·have I:=Z (And.intro c2 cd)
  have G:Hid (aw g.ai id=some t2/\t2.id=id/\1<t2.l.length/\t2.l.length<=8):=Z ⟨B,cC,by have:=(O.de B).l.n0;omega,(O.de B).l.n8⟩;obtain⟨c9,g5⟩:=go (Or.inl rfl);have eC:Hid (i' f=true->0<=a/\a<32):=Z (fun _=>(dz c9).1);have a1:Hid (g.out.length<=900000):=Z (by have:=O.out;omega);have et:=Z c0;have E:Hid (cD C K i id k=dc g id (.ai id k) ⟨f,a,l,m,q,o,y⟩):=Z (by rw[bx];unfold eF;rw[cb];rfl);go_in
  go_wp2_with fail
  with_reducible refine(bw.out _ T.out.at_).mono ?_
  rintro e w2 ⟨rfl,a3,V,d⟩;have J:=Z d;have U:=Z (T.nx.trans d.nx);have a0:Hid (aR L V (.ai id k) b 0):=Z (S.2.yk S.1 d.yk);have H:=(d.yk id t I.1).1;rw[I.2]at H;have R:=Z H;go_wp2
  obtain⟨w3,A⟩:=nm (w2.alloc (.cells #[f,a,l,m,.int .u64 q,o,y] 184));have F:=Z (Ch.al (D:=ag) A);have Q:Hid (Row w3 w2.heap.size 184 [f,a,l,m,.int .u64 q,o,y]/\a3 w2.heap.size=.no):=Z ⟨by rw[<-A];exact Row.new w2 _ _,J.at_.fresh (Nat.le_refl _)⟩;rw[A];have al:=Z (J.af F);have bv:=Z al.at_;have ex:=Z (jV id (.ai id k) b 0 et a0 f a l m q o y eC a1 bv.drew);obtain⟨cQ,cS,cW,dr,dC,dN,ec⟩:=Q.1.c7;have eS:=bv.gw G.1;rw[G.2.1,R]at eS;go_still_tail 9,(by kernel_rfl)
  change wpList _ _ _ _ _ w3.drew;go_wp2_with fail
  with_reducible refine ex.out.mono ?_
  rintro e en ⟨rfl,a4,a2,W⟩;have P:=Z (And.intro W.at_ ((U.trans (Nx.af F)).trans ((Nx.af (Ch.refl _ w3).drew).trans W.nx)));go_wp2
  go_end0
  rw[E];exact⟨rfl,a4,a2,P.1,P.2⟩
 ·have I:=Z (And.intro c2 cd)
  have G:Hid (aw g.ai id=some t2/\t2.id=id/\1<t2.l.length/\t2.l.length<=8):=Z ⟨B,cC,by have:=(O.de B).l.n0;omega,(O.de B).l.n8⟩;obtain⟨c9,g5⟩:=go (Or.inr rfl);have hB:=hw rfl;have eC:Hid (i' f=true->0<=a/\a<32):=Z (fun _=>(dz c9).1);have gt:=fun(w:World) (χ:Nat->a') (Y:Var) (fr:aR L Y (.ai id k) b 0) (h:ae w χ L Y C g)=>mP O (by omega) (by omega) i fd (some id) (fun j X=>by injection X with X;subst X;exact⟨gs,g9,t2,B,by rw[gk];exact gf⟩) (.ai id k) b 0 c0 fr ⟨f,a,l,m,q,o,y⟩ _ c9 hB g5 i5 cA.pl h
  have av:=ju (C:=C) O (by omega) fd (idO:=(some id)) c0 (jc.of c9 g5) (fun j X=>by injection X with X;subst X;exact⟨gs,g9,t2,B,by rw[gk];exact gf⟩);have g2:=ko (C:=C) O (by omega) (i:=i) (idO:=(some id)) c0 ⟨f,a,l,m,q,o,y⟩ (fun j X=>by injection X with X;subst X;exact⟨t2,B⟩);have g0:=jv (C:=C) g i (some id) (.ai id k) ⟨f,a,l,m,q,o,y⟩;have g1:=oA (C:=C) g i (some id) (.ai id k) ⟨f,a,l,m,q,o,y⟩;have cl:Hid (eF C K i (some id) (.ai id k)=if(az C g i (some id) (.ai id k) ⟨f,a,l,m,q,o,y⟩).1=0 then(⟨f,a,l,m,q,o,y⟩,0,(az C g i (some id) (.ai id k) ⟨f,a,l,m,q,o,y⟩).2.fA (.ai id k))else if(az C g i (some id) (.ai id k) ⟨f,a,l,m,q,o,y⟩).1=2 then(⟨f,a,l,m,q,o,y⟩,3,(az C g i (some id) (.ai id k) ⟨f,a,l,m,q,o,y⟩).2)else(⟨f,a,l,m,q,o,y⟩,1,(az C g i (some id) (.ai id k) ⟨f,a,l,m,q,o,y⟩).2)):=Z (by unfold eF;rw[cb];rfl);obtain⟨p,fr⟩:=nm (az C g i (some id) (.ai id k) ⟨f,a,l,m,q,o,y⟩);rw[fr]at gt av g2 g0 g1 cl;obtain⟨n,z⟩:=p;dsimp only at av g2 g0 g1;have eA:Hid (∀(w:World) (χ:Nat->a') (Y:Var),aR L Y (.ai id k) b 0->ae w χ L Y C g->Calls prog 133 #[(L.mb,0),(L.wb,i*38),(Y.bI id,0),(b,0),.agg #[f,a,l,m,.int .u64 q,o,y]] w (dO (n,z) χ L Y C g w)):=Z gt;rcases g1 with rfl|rfl|rfl
  ·have c8:=g2 rfl
   have ip:i<z.wk.length:=(by rw[c8.2];exact fd);have c1:aj z (.ai id k):=c0.gr c8.1 c8.2;have bi:=Z (And.intro c1 (And.intro c0 c8));have et:Hid (aj (z.fA (.ai id k)) (.ai id k)):=Z (c1.gr (bA c1 _) (br _ _));have ih:=Z av;have a1:Hid ((z.fA (.ai id k)).out.length<=900000):=Z (by have:(z.fA (.ai id k)).out=z.out:=sx _ _;rw[this];have:=av.out;omega);have E:Hid (cD C K i id k=dc (z.fA (.ai id k)) id (.ai id k) ⟨f,a,l,m,q,o,y⟩):=Z (by rw[bx,cl];rfl);obtain⟨t4,he⟩:∃t4,aw (z.fA (.ai id k)).ai id=some t4:=by obtain⟨u,g4,_⟩:=c8.1 id t2 B;obtain⟨v,i2,_⟩:=bA c1 {z.F (.ai id k)with pc:=wrap64 ((z.F (.ai id k)).pc+1)} id u g4;exact⟨v,i2⟩
   have g8:Hid (aw (z.fA (.ai id k)).ai id=some t4/\t4.id=id):=Z ⟨he,((av.cI c1 ((av.lY c1).pc _)).de he).id⟩;go_in
   go_wp2_with fail
   with_reducible refine(bw.out _ T.out.at_).mono ?_
   rintro e w2 ⟨rfl,a3,V,d⟩;have J:=Z d;have U:=Z (T.nx.trans d.nx);have a0:Hid (aR L V (.ai id k) b 0):=Z (S.2.yk S.1 d.yk);have H:=(d.yk id t I.1).1;rw[I.2]at H;have R:=Z H;go_wp2
   obtain⟨w3,A⟩:=nm (w2.alloc (.cells #[f,a,l,m,.int .u64 q,o,y] 184));have F:=Z (Ch.al (D:=ag) A);have Q:Hid (Row w3 w2.heap.size 184 [f,a,l,m,.int .u64 q,o,y]/\a3 w2.heap.size=.no):=Z ⟨by rw[<-A];exact Row.new w2 _ _,J.at_.fresh (Nat.le_refl _)⟩;rw[A];have al:=Z (J.af F);obtain⟨cQ,cS,cW,dr,dC,dN,ec⟩:=Q.1.c7;go_still_tail 7,(by kernel_rfl)
   change wpList _ _ _ _ _ w3.drew;go_wp2_with fail
   have ab:=eA _ _ _ a0 al.at_.drew;rw[R]at ab;with_reducible refine ab.mono ?_
   rintro e w4 ⟨rfl,es,cs,c7,cf,ci⟩;have ad:=Z c7;have a5:=Z ((Nx.af (Ch.refl _ w3).drew).trans cf);have c5:=Z ((U.trans (Nx.af F)).trans a5);have c6:=Z ci;have ck:=Z (a5.row Q.1 Q.2);have cq:=Z (a0.yk bi.2.1 (c6 (by intro e;cases e)));have i7:=ad.uu bi.1 cq;have f0:=ad.hy bi.1 cq 0;obtain⟨pc,fz⟩:=nm ((z.F (.ai id k)).pc);rw[fz]at i7;have hd:=ad.qM bi.1 cq (wrap64 ((z.F (.ai id k)).pc+1));rw[fz]at hd;have hl:=Z hd;have hi:=Z fz;have ce:=(c6 (by intro e;cases e) id t2 G.1).1;rw[R]at ce;have eL:=Z ce;go_wp2
   obtain⟨i8,hn,gc⟩:=hl.out;obtain⟨g6,i6⟩:=nm (w4.setCell (b,0) (.int .i64 (wrap64 (pc+1))));rw[i6]at gc⊢;have c4:Hid (dD es L cs C z (z.fA (.ai id k)) w4 i8 hn g6):=Z (by unfold KS.fA;rw[hi];exact gc);have g7:=Z c4.at_;have hm:=Z (cq.yk bi.1 c4.yk);have hf:=Z (c4.nx.row ck.1 ck.2);have ex:=Z (jV id (.ai id k) b 0 et hm f a l m q o y eC a1 g7.drew);obtain⟨cQ,cS,cW,dr,dC,dN,ec⟩:=hf.1.c7;have eS:=g7.gw g8.1;obtain⟨u,g4,_⟩:=bi.2.2.1 id t2 G.1;rw[g8.2,(c4.yk id u g4).1,eL]at eS;go_still_tail 9,(by kernel_rfl)
   change wpList _ _ _ _ _ g6.drew;go_wp2_with fail
   with_reducible refine ex.out.mono ?_
   rintro e en ⟨rfl,a4,a2,W⟩;have P:=Z (And.intro W.at_ ((c5.trans c4.nx).trans ((Nx.af (Ch.refl _ g6).drew).trans W.nx)));go_wp2
   go_end0
   rw[E];exact⟨rfl,a4,a2,P.1,P.2⟩
  ·have E:Hid (cD C K i id k=z):=Z (by rw[bx,cl];rfl)
   go_in
   go_wp2_with fail
   with_reducible refine(bw.out _ T.out.at_).mono ?_
   rintro e w2 ⟨rfl,a3,V,d⟩;have J:=Z d;have U:=Z (T.nx.trans d.nx);have a0:Hid (aR L V (.ai id k) b 0):=Z (S.2.yk S.1 d.yk);have H:=(d.yk id t I.1).1;rw[I.2]at H;have R:=Z H;go_wp2
   obtain⟨w3,A⟩:=nm (w2.alloc (.cells #[f,a,l,m,.int .u64 q,o,y] 184));have F:=Z (Ch.al (D:=ag) A);have Q:Hid (Row w3 w2.heap.size 184 [f,a,l,m,.int .u64 q,o,y]/\a3 w2.heap.size=.no):=Z ⟨by rw[<-A];exact Row.new w2 _ _,J.at_.fresh (Nat.le_refl _)⟩;rw[A];have al:=Z (J.af F);obtain⟨cQ,cS,cW,dr,dC,dN,ec⟩:=Q.1.c7;go_still_tail 7,(by kernel_rfl)
   change wpList _ _ _ _ _ w3.drew;go_wp2_with fail
   have ab:=eA _ _ _ a0 al.at_.drew;rw[R]at ab;with_reducible refine ab.mono ?_
   rintro e w4 ⟨rfl,es,cs,c7,cf,ci⟩;have ad:=Z c7;have a5:=Z ((Nx.af (Ch.refl _ w3).drew).trans cf);have c5:=Z ((U.trans (Nx.af F)).trans a5);have c6:=Z ci;have ck:=Z (a5.row Q.1 Q.2);go_wp2
   go_end0
   rw[E];exact⟨rfl,es,cs,ad,c5⟩
  ·have i0:=g0 rfl
   have a1:Hid (z.out.length<=900000):=Z (by have:=av.out;omega);have cm:Hid (aw z.ai id=some t2/\t2.id=id/\1<t2.l.length/\t2.l.length<=8):=Z ⟨by rw[i0.1];exact B,G.2⟩;have E:Hid (cD C K i id k=eE z id 22 0):=Z (by rw[bx,cl];rfl);go_in
   go_wp2_with fail
   with_reducible refine(bw.out _ T.out.at_).mono ?_
   rintro e w2 ⟨rfl,a3,V,d⟩;have J:=Z d;have U:=Z (T.nx.trans d.nx);have a0:Hid (aR L V (.ai id k) b 0):=Z (S.2.yk S.1 d.yk);have H:=(d.yk id t I.1).1;rw[I.2]at H;have R:=Z H;go_wp2
   obtain⟨w3,A⟩:=nm (w2.alloc (.cells #[f,a,l,m,.int .u64 q,o,y] 184));have F:=Z (Ch.al (D:=ag) A);have Q:Hid (Row w3 w2.heap.size 184 [f,a,l,m,.int .u64 q,o,y]/\a3 w2.heap.size=.no):=Z ⟨by rw[<-A];exact Row.new w2 _ _,J.at_.fresh (Nat.le_refl _)⟩;rw[A];have al:=Z (J.af F);obtain⟨cQ,cS,cW,dr,dC,dN,ec⟩:=Q.1.c7;go_still_tail 7,(by kernel_rfl)
   change wpList _ _ _ _ _ w3.drew;go_wp2_with fail
   have ab:=eA _ _ _ a0 al.at_.drew;rw[R]at ab;with_reducible refine ab.mono ?_
   rintro e w4 ⟨rfl,es,cs,c7,cf,ci⟩;have ad:=Z c7;have a5:=Z ((Nx.af (Ch.refl _ w3).drew).trans cf);have c5:=Z ((U.trans (Nx.af F)).trans a5);have c6:=Z ci;have ck:=Z (a5.row Q.1 Q.2);have ce:=(c6 (by intro e;cases e) id t2 G.1).1;rw[R]at ce;have eL:=Z ce;have a9:=hO id t2 cm.1 cm.2.1 cm.2.2.1 cm.2.2.2 22 0 a1 ad;rw[eL]at a9;have c3:=Z a9;go_wp2_with fail
   with_reducible refine c3.out.mono ?_
   rintro e en ⟨rfl,a4,a2,W,ch⟩;have P:=Z (And.intro W ((c5).trans ch));go_wp2
   go_end0
   rw[E];exact⟨rfl,a4,a2,P.1,P.2⟩
 ·have I:=Z (And.intro c2 cd)
  have G:Hid (aw g.ai id=some t2/\t2.id=id/\1<t2.l.length/\t2.l.length<=8):=Z ⟨B,cC,by have:=(O.de B).l.n0;omega,(O.de B).l.n8⟩;have a1:Hid (g.out.length<=900000):=Z (by have:=O.out;omega);have E:Hid (cD C K i id k=eE g id 22 0):=Z (by rw[bx];unfold eF;rw[cb];rfl);go_in
  go_wp2_with fail
  with_reducible refine(bw.out _ T.out.at_).mono ?_
  rintro e w2 ⟨rfl,a3,V,d⟩;have J:=Z d;have U:=Z (T.nx.trans d.nx);have a0:Hid (aR L V (.ai id k) b 0):=Z (S.2.yk S.1 d.yk);have H:=(d.yk id t I.1).1;rw[I.2]at H;have R:=Z H;go_wp2_with fail
  generalize A:w2.alloc _=w3;have F:=Z (Ch.al (D:=ag) A);have bv:=Z (J.af F).at_;have a9:=hO id t2 G.1 G.2.1 G.2.2.1 G.2.2.2 22 0 a1 bv;rw[R]at a9;have c3:=Z a9;go_wp2_with fail
  with_reducible refine c3.out.mono ?_
  rintro e en ⟨rfl,a4,a2,W,ch⟩;have P:=Z (And.intro W ((U.trans (Nx.af F)).trans ch));go_wp2
  go_end0
  rw[E];exact⟨rfl,a4,a2,P.1,P.2⟩
 ·have I:=Z (And.intro c2 cd)
  have G:Hid (aw g.ai id=some t2/\t2.id=id/\1<t2.l.length/\t2.l.length<=8):=Z ⟨B,cC,by have:=(O.de B).l.n0;omega,(O.de B).l.n8⟩;have a1:Hid (g.out.length<=900000):=Z (by have:=O.out;omega);have E:Hid (cD C K i id k=eE g id 22 0):=Z (by rw[bx];unfold eF;rw[cb];rfl);go_in
  go_wp2_with fail
  with_reducible refine(bw.out _ T.out.at_).mono ?_
  rintro e w2 ⟨rfl,a3,V,d⟩;have J:=Z d;have U:=Z (T.nx.trans d.nx);have a0:Hid (aR L V (.ai id k) b 0):=Z (S.2.yk S.1 d.yk);have H:=(d.yk id t I.1).1;rw[I.2]at H;have R:=Z H;go_wp2_with fail
  generalize A:w2.alloc _=w3;have F:=Z (Ch.al (D:=ag) A);have bv:=Z (J.af F).at_;have a9:=hO id t2 G.1 G.2.1 G.2.2.1 G.2.2.2 22 0 a1 bv;rw[R]at a9;have c3:=Z a9;go_wp2_with fail
  with_reducible refine c3.out.mono ?_
  rintro e en ⟨rfl,a4,a2,W,ch⟩;have P:=Z (And.intro W ((U.trans (Nx.af F)).trans ch));go_wp2
  go_end0
  rw[E];exact⟨rfl,a4,a2,P.1,P.2⟩
variable{b:Nat}{t:TypeId}{pre:List Value}{v:Value}{f:cP}
def uL(T:TypeId)(l:List Value)(w:World)(p:Value)(wc:World):Prop:=∃a,p=.pointer (some ⟨a,0,none⟩)/\Row wc a T l/\Ch ag w wc/\w.heap.size<=a
theorem hR{w:World}{post:List Value}(h:aJ w b 0 t pre post v f)(k:Nat)(a:k<32):w.cell? (b,1+k)=some (.int .u64 (f.r k)):=by
 have:=h.mD k a
 rwa [show 0+1+k=1+k by omega]at this
theorem e3{w:World}{post:List Value}(h:aJ w b 0 t pre post v f)(c:t≠3)(k:Nat)(a:k<32)(x:Int):aJ (w.setCell (b,1+k) (.int .u64 x)) b 0 t pre post v {f with r:=fW f.r k x}:=by
 have:=h.qu c k a x
 rwa [show 0+1+k=1+k by omega]at this
theorem CJ{f:FuncId}{args:Array Value}{w:World}(h:Calls prog f args w (ez v w)):Calls prog f args w (ds v w):=h.mono fun _ _ h=>⟨h.1,by rw[h.2];exact Ch.refl _ _⟩
def bn(K:KS)(k0 k1 k2 k3 a0 a1 a2 a3:Int)(k:Nat):Nat->Int:=fun j=>
 if j=0 then(if k<=0 then a0 else dg K k0 a0)else if j=1 then(if k<=1 then a1 else dg K k1 a1)else if j=2 then(if k<=2 then a2 else dg K k2 a2)else if j=3 then(if k<=3 then a3 else dg K k3 a3)else 0
variable{k0 k1 k2 k3 a0 a1 a2 a3:Int}
theorem qZ(x:Int)(h:x=dg K k0 a0):fW (bn K k0 k1 k2 k3 a0 a1 a2 a3 0) 0 x=bn K k0 k1 k2 k3 a0 a1 a2 a3 1:=by
 funext j;unfold fW bn
 by_cases a:j=0
 ·subst a;simp[h]
 ·by_cases c:j=1<;>by_cases d:j=2<;>by_cases e:j=3<;>simp[a,c,d,e]
theorem q0(x:Int)(h:x=dg K k1 a1):fW (bn K k0 k1 k2 k3 a0 a1 a2 a3 1) 1 x=bn K k0 k1 k2 k3 a0 a1 a2 a3 2:=by
 funext j;unfold fW bn
 by_cases a:j=1
 ·subst a;simp[h]
 ·by_cases c:j=0<;>by_cases d:j=2<;>by_cases e:j=3<;>simp[c,a,d,e]
theorem q1(x:Int)(h:x=dg K k2 a2):fW (bn K k0 k1 k2 k3 a0 a1 a2 a3 2) 2 x=bn K k0 k1 k2 k3 a0 a1 a2 a3 3:=by
 funext j;unfold fW bn
 by_cases a:j=2
 ·subst a;simp[h]
 ·by_cases c:j=0<;>by_cases d:j=1<;>by_cases e:j=3<;>simp[c,d,a,e]
theorem q2(x:Int)(h:x=dg K k3 a3):fW (bn K k0 k1 k2 k3 a0 a1 a2 a3 3) 3 x=bn K k0 k1 k2 k3 a0 a1 a2 a3 4:=by
 funext j;unfold fW bn
 by_cases a:j=3
 ·subst a;simp[h]
 ·by_cases c:j=0<;>by_cases d:j=1<;>by_cases e:j=2<;>simp[c,d,e,a]
theorem AB(h:a0=dg K k0 a0):bn K k0 k1 k2 k3 a0 a1 a2 a3 1=bn K k0 k1 k2 k3 a0 a1 a2 a3 0:=by rw[<-qZ a0 h];funext j;unfold fW bn;by_cases e:j=0<;>simp[e]
theorem AD(h:a1=dg K k1 a1):bn K k0 k1 k2 k3 a0 a1 a2 a3 2=bn K k0 k1 k2 k3 a0 a1 a2 a3 1:=by rw[<-q0 a1 h];funext j;unfold fW bn;by_cases e:j=1<;>simp[e]
theorem AE(h:a2=dg K k2 a2):bn K k0 k1 k2 k3 a0 a1 a2 a3 3=bn K k0 k1 k2 k3 a0 a1 a2 a3 2:=by rw[<-q1 a2 h];funext j;unfold fW bn;by_cases e:j=2<;>simp[e]
theorem AF(h:a3=dg K k3 a3):bn K k0 k1 k2 k3 a0 a1 a2 a3 4=bn K k0 k1 k2 k3 a0 a1 a2 a3 3:=by rw[<-q2 a3 h];funext j;unfold fW bn;by_cases e:j=3<;>simp[e]
def pS(K:KS)(k0 k1 k2 k3 a0 a1 a2 a3 n:Int):Nat->Int:=fun j=>if j=0 then dg K k0 a0 else if j=1 then dg K k1 a1 else if j=2 then dg K k2 a2 else if j=3 then dg K k3 a3 else if j=30 then a0 else if j=31 then n else 0
theorem yq(n:Int):fW (fW (bn K k0 k1 k2 k3 a0 a1 a2 a3 4) 30 a0) 31 n=pS K k0 k1 k2 k3 a0 a1 a2 a3 n:=by
 funext j;unfold fW bn pS
 by_cases a:j=31
 ·subst a;simp
 ·by_cases c:j=30
  ·subst c;simp
  ·simp[a,c]
variable{w':World}
theorem pT{N M:Nat}(a9:ow C)(cf:Inv N M K)(r':N<=700000)(rx:M<=700000)(id:Int)(t:Thread)(bv:aw K.ai id=some t)(k:Nat)(md:k+1=t.l.length)(mk:t.l.length%2=1)(num:Int)(ms:0<=num)(fb:num<=1000000)(h:ae w χ L Y C K):
 Calls prog 138 #[(L.mb,0),(Y.bI id,0),.pointer (some ⟨Y.fb id k,0,none⟩),num] w (si (.tuple #[]) χ L C (hr C K id k num) w):=by
 have ch:aj K (.ai id k):=⟨t,bv,by omega⟩;have hid:=(cf.de bv).id;have hf:=(cf.de bv).l;have mL:=(cf.lY ch).r;obtain⟨b,hb⟩:=nm (Y.fb id k);obtain⟨tb,fn⟩:=nm (Y.bI id);have dC:aR L Y (.ai id k) b 0:=⟨hb.symm,rfl⟩;rw[hb,fn];obtain⟨a0,gc⟩:∃a,(K.F (.ai id k)).r 0=a:=⟨_,rfl⟩;obtain⟨a1,ge⟩:∃a,(K.F (.ai id k)).r 1=a:=⟨_,rfl⟩;obtain⟨a2,gf⟩:∃a,(K.F (.ai id k)).r 2=a:=⟨_,rfl⟩;obtain⟨a3,go⟩:∃a,(K.F (.ai id k)).r 3=a:=⟨_,rfl⟩;have n8:w.cell? (b,1)=some (.int .u64 a0):=by have:=h.aA ch dC 0 (by omega);rw[gc]at this;exact this
 have na:w.cell? (b,2)=some (.int .u64 a1):=by have:=h.aA ch dC 1 (by omega);rw[ge]at this;exact this
 have nb:w.cell? (b,3)=some (.int .u64 a2):=by have:=h.aA ch dC 2 (by omega);rw[gf]at this;exact this
 have nd:w.cell? (b,4)=some (.int .u64 a3):=by have:=h.aA ch dC 3 (by omega);rw[go]at this;exact this
 have cb:=h.gw bv;rw[hid,fn]at cb;have s0:∀w,(Instr.arrayAt 80 (.slice (some (b,1)) 4 32)).run prog w=.ok (.pointer (some (b,1))) w:=fun w=>by kernel_rfl
 obtain⟨K1,cW⟩:=nm (tell K ⟨1,0,0,id,num,a0,a1,a2,a3,0,0⟩);have g9:Inv N (M+1) K1:=by rw[<-cW];exact cf.tell _
 have dN:aw K1.ai id=some t:=by rw[<-cW];exact bv
 have hB:=Z (fun w (h:ae w χ L Y C K)=>dI 1 0 0 id num a0 a1 a2 a3 0 0 (by have:=cf.out;omega) h);rw[cW]at hB;have gt:=hf.n8;have fd:=hf.n0;have hw:=Z (fun(w:World) (χ:Nat->a') (Y:Var) (h:ae w χ L Y C K1)=>qY id t dN fd gt num ms a0 a1 a2 a3 a9.bw a9.rows a9.cl h);have eC:Hid (hr C K id k num=if cM C K1 id num a0 a1 a2 a3≠0 then dq K1 id num (cM C K1 id num a0 a1 a2 a3) 0 else
  K1.cp id {K1.T id with l:=(K1.T id).l++[⟨⟨(C.calls.getD (C.rows.getD num.toNat 0-1).toNat default).at_,fun j=>if j=0 then dg K1 (C.calls.getD (C.rows.getD num.toNat 0-1).toNat default).k0 a0 else if j=1 then dg K1 (C.calls.getD (C.rows.getD num.toNat 0-1).toNat default).k1 a1 else if j=2 then dg K1 (C.calls.getD (C.rows.getD num.toNat 0-1).toNat default).k2 a2 else if j=3 then dg K1 (C.calls.getD (C.rows.getD num.toNat 0-1).toNat default).k3 a3 else if j=30 then a0 else if j=31 then IntKind.u64.wrap num else 0,[]⟩,true,num⟩]}):=Z (by unfold hr;dsimp only;rw[gc,ge,gf,go,cW])
 obtain⟨hl,hd⟩:=nm (cM C K1 id num a0 a1 a2 a3);rw[hd]at hw eC;have J:=Z (And.intro bv (And.intro fn (And.intro dN hid)));have g7:=Z (dD.refl h);have on:Hid (K1.out.length<=900000):=Z (by have:=g9.out;omega);by_cases ii:hl=0
 ·subst ii
  have p2:=Z hd;have mv:num<1000/\C.rows.getD num.toNat 0≠0/\(t.l.length<7∨num=2):=by
   have:=p2.out;unfold cM at this;split at this
   ·cases this
   ·rename_i I
    split at this
    ·cases this
    ·rename_i G
     rw[KS.dm dN]at G;refine⟨by omega,fun e=>I (Or.inr e),?_⟩;by_cases e:num=2
     ·exact Or.inr e
     ·exact Or.inl (by omega)
  obtain⟨m,rfl⟩:=Int.eq_ofNat_of_zero_le ms;have gs:m<C.rows.length:=by rw[a9.Eu];omega
  obtain⟨r,he⟩:∃r,C.rows[m]?=some r:=⟨_,List.getElem?_eq_getElem gs⟩;have ql:=a9.rows r (List.mem_of_getElem? he);have ih:C.rows.getD (m:Int).toNat 0=r:=by rw[Int.toNat_natCast,List.getD_eq_getElem?_getD,he];rfl
  obtain⟨q,rfl⟩:∃q:Nat,r=(q:Int)+1:=⟨(r-1).toNat,by have:=mv.2.1;rw[ih]at this;omega⟩;obtain⟨cd,O⟩:∃cd,C.calls[q]?=some cd:=⟨_,List.getElem?_eq_getElem (by omega)⟩;have lv:C.calls.getD (C.rows.getD (m:Int).toNat 0-1).toNat default=cd:=by rw[ih,show((q:Int)+1-1).toNat=q by omega,List.getD_eq_getElem?_getD,O];rfl
  rw[lv]at eC;obtain⟨le,cat,k0,k1,k2,k3⟩:=cd;dsimp only at eC;have k5:=Z (And.intro he O);have s5:(m:Int)<1000:=by omega
  have s4:(0:Int)<=(m:Int):=by omega
  have s6:(0:Int)<=(q:Int):=by omega
  have st:IntKind.i64.wrap (q:Int)=q:=IntWalk.i64_in _ (by have:=a9.cl;have:=(List.getElem?_eq_some_iff.1 O).1;omega);obtain⟨lb,ll⟩:=nm C.calls.length;have s8:(q:Int)<(lb:Int):=by have:=(List.getElem?_eq_some_iff.1 O).1;omega
  have og:=Z ll;have qr:IntKind.i64.wrap ((q:Int)+1-1)=q:=by rw[show(q:Int)+1-1=q by omega];exact IntWalk.i64_in _ (by have:=a9.cl;omega)
  have r5:(q:Int)+1-1=q:=by omega
  have s7:(q:Int)<=2048:=by have:=a9.cl;omega
  have mp:t.l.length<8:=by omega
  obtain⟨eL,lm⟩:=mn t.l.length;have eA:=Z (And.intro lm (And.intro mp fd));have sl:eL<8:=by omega
  have ls:0<=gT K1/\gT K1<=600:=by have:=g9.w1;unfold gT;omega
  have es:=Z (fun(w:World) (χ:Nat->a') (Y:Var) (h:ae w χ L Y C K1)=>lT h);obtain⟨V,i4⟩:=nm (gT K1);rw[i4]at es ls;have g2:=Z i4;have g4:=Z (fun(w:World) (χ:Nat->a') (Y:Var) (a k:Int) (h:ae w χ L Y C K1)=>zX (K:=K1) a k h);obtain⟨s1,s2⟩:=ls;have ec:IntKind.u64.wrap V=V:=by unfold IntKind.wrap IntKind.bits IntKind.signed;simp;omega
  have av:=Z ec;obtain⟨rb,mc,d,n1,n2⟩:=info_parts Ab;have g5:=Z (And.intro mc (And.intro d (And.intro n1 n2)));clear mc d n1 n2 mv gs ql ih lv he O ll mp lm i4 ec;clear h ch dC bv hb fn cf gc ge gf go mL hid hf a9 md mk gt fd g9 dN cW hd;go_in
  go_wp2
  obtain⟨w1,al⟩:=nm (w.alloc (.cells #[.int .u64 a0,.int .u64 a1,.int .u64 a2,.int .u64 a3] 80));have hu:=Z (Ch.al (D:=ag) al);have bw:Hid (Row w1 w.heap.size 80 [.int .u64 a0,.int .u64 a1,.int .u64 a2,.int .u64 a3]/\χ w.heap.size=.no):=Z ⟨by rw[<-al];exact Row.new w _ _,g7.at_.fresh (Nat.le_refl _)⟩;rw[al];clear al n8 na nb nd;have c5:=Z (g7.af hu);obtain⟨am,cA,cC,cL⟩:=bw.1.c4;have cb:=c5.at_.gw J.1;rw[J.2.2.2,J.2.1]at cb;go_still_tail 8,(by kernel_rfl)
  change wpList _ _ _ _ _ w1.drew;go_wp2_with fail
  with_reducible refine(hB.out _ c5.out.at_.drew).mono ?_
  rintro e w2 ⟨rfl,re,lc,G⟩;have c6:=Z ((c5.af (Ch.refl _ w1).drew).trans (Gr.refl _) G);have bx:=Z (((Nx.af (Ch.refl _ w1).drew).trans G.nx).row bw.1 bw.2);have cl:=(c6.yk id t J.1).1;rw[J.2.1]at cl;have c4:=Z cl;clear G cl am cA cC cL cb;obtain⟨am,cA,cC,cL⟩:=bx.1.c4;go_wp2_with fail
  have ck:=hw _ _ _ c6.at_;rw[c4]at ck;with_reducible refine ck.mono ?_
  clear ck;rintro e w3 ⟨rfl,ci⟩;have c7:=Z (c6.af ci);have g1:=Z ((Nx.af ci).row bx.1 bx.2);clear ci am cA cC cL;have am:=g1.1.c1;obtain⟨ad,mb,hn,ni,no,nq,nw,nx⟩:=c7.at_.wu k5.2;dsimp only at hn ni no nq nw nx;have a4:=c7.at_.c2;rw[mb,og]at a4;have cd:=c7.at_.Ec k5.1;clear mb;go_wp2
  go_cut [10] (fun p wc=>uL 158 [le,cat,k0,k1,k2,k3] w3 p wc)
  case first=>
   have tg:=World.new_ne w3 ⟨L.mb,2,none⟩ a4;have th:=World.new_ne w3 ⟨L.mb,7+m,none⟩ cd;have tl:=World.new_ne w3 ⟨ad,q*6,none⟩ hn;have sz:L.mb≠w3.heap.size:=Nat.ne_of_lt (aQ a4);have sC:ad≠w3.heap.size:=Nat.ne_of_lt (aQ hn);go_region_held3 (fun w'=>w'.cell? (L.mb,2)=some (.slice (some (ad,0)) lb L.GB)/\w'.cell? (L.mb,7+m)=some (.int .i64 ((q:Int)+1))/\w'.cell? (ad,q*6)=some (.int .i64 le)/\w'.cell? (ad,q*6+1)=some (.int .i64 cat)/\w'.cell? (ad,q*6+2)=some (.int .i64 k0)/\w'.cell? (ad,q*6+3)=some (.int .i64 k1)/\w'.cell? (ad,q*6+4)=some (.int .i64 k2)/\w'.cell? (ad,q*6+5)=some (.int .i64 k3)) (go_keep) (fail)
   all_goals(go_wp2_with fail;go_meet)
   all_goals exact⟨w3.heap.size,rfl,(Row.new w3 _ _).drew,ay,Nat.le_refl _⟩
  case rest=>
   obtain⟨rt,rfl,mS,i5,hle⟩:=hcut;obtain⟨w4,r6⟩:=nm wc;subst r6;have ap:=Z mS;have cS:=Z (c7.af i5);have c0:=Z ((Nx.af i5).row g1.1 g1.2);clear mS i5 am hn ni no nq nw nx a4 cd qr r5 hle;have x1:=ap.k 1 rfl;have x2:=ap.k 2 rfl;have x3:=ap.k 3 rfl;have x4:=ap.k 4 rfl;have x5:=ap.k 5 rfl;go_upto_region 7 with fail
   obtain⟨ne,fz⟩:=nm (wc.alloc (.cells #[.int .i64 0,.int .u64 0,.int .u64 0,.int .u64 0,.int .u64 0,.int .u64 0,.int .u64 0,.int .u64 0,.int .u64 0,.int .u64 0,.int .u64 0,.int .u64 0,.int .u64 0,.int .u64 0,.int .u64 0,.int .u64 0,.int .u64 0,.int .u64 0,.int .u64 0,.int .u64 0,.int .u64 0,.int .u64 0,.int .u64 0,.int .u64 0,.int .u64 0,.int .u64 0,.int .u64 0,.int .u64 0,.int .u64 0,.int .u64 0,.int .u64 0,.int .u64 0,.int .u64 0,.slice none 0 0,.bool true,.int .i64 (m:Int)] 127));have et:=Z (Ch.al (D:=ag) fz);have ex:=Z (Row.al fz);have l0:Hid (ne.heap.size=wc.heap.size+1):=Z (by rw[<-fz];simp);rw[fz];clear fz;obtain⟨F,hF⟩:=mn wc.heap.size;have ok:=Z (cS.at_.fresh (i:=F) (by rw[hF];exact Nat.le_refl _));have R:=Z hF;rw[<-hF]at ex l0⊢;clear hF;have p8:=Z (cS.af et);have nC:=Z ((Nx.af et).row c0.1 c0.2);have kT:=Z (ap.ch et (fun h=>h));clear x1 x2 x3 x4 x5;have x1:=kT.k 1 rfl;have f0:=ex.c1;have eS:=ex.free 0;go_upto_region 8 with fail
   obtain⟨cQ,g0⟩:=nm (ne.setCell (F,0) (.int .i64 cat));have g3:Hid (Ch ag wc cQ):=Z (by rw[<-g0];exact et.set (p:=⟨F,0,none⟩) (Or.inr (by rw[R];exact Nat.le_refl _)) _);have hv:Hid (Row cQ F 127 [cat,.int .u64 0,.int .u64 0,.int .u64 0,.int .u64 0,.int .u64 0,.int .u64 0,.int .u64 0,.int .u64 0,.int .u64 0,.int .u64 0,.int .u64 0,.int .u64 0,.int .u64 0,.int .u64 0,.int .u64 0,.int .u64 0,.int .u64 0,.int .u64 0,.int .u64 0,.int .u64 0,.int .u64 0,.int .u64 0,.int .u64 0,.int .u64 0,.int .u64 0,.int .u64 0,.int .u64 0,.int .u64 0,.int .u64 0,.int .u64 0,.int .u64 0,.int .u64 0,.slice none 0 0,.bool true,.int .i64 (m:Int)]):=Z (by rw[<-g0];exact ex.set 0 _);rw[g0];have ro:Hid (cQ.heap.size=F+1):=Z (by rw[<-g0];simpa using l0.out);clear g0 x1 f0 eS;have jp:=Z ((Nx.af g3).row c0.1 c0.2);have ov:=Z (ap.ch g3 (fun h=>h));have lt:=nN (P:=prog) cQ.drew 29 29 3 39 1 F 1 32 32 ⟨w.heap.size,0,none⟩ 4 4 _ 127 [.int .u64 a0,.int .u64 a1,.int .u64 a2,.int .u64 a3] underlying29 (by kernel_rfl) hv.drew (by rfl) (fun j v z=>by
    have:=jp.1.drew.cell (i:=j) z;by_cases e:j=0
    ·subst e;simpa[Addr.add]using this
    ·simpa[Addr.add,e]using this) (by simp) (by simp[Value.oneCell'])
   generalize io:World.setRow cQ.drew F _=hm at lt;have k4:Hid (Ch (aH F) cQ.drew hm):=Z (by rw[<-io];exact pz _ _ _);have kd:Hid (Row hm F 127 [cat,.int .u64 a0,.int .u64 a1,.int .u64 a2,.int .u64 a3,.int .u64 0,.int .u64 0,.int .u64 0,.int .u64 0,.int .u64 0,.int .u64 0,.int .u64 0,.int .u64 0,.int .u64 0,.int .u64 0,.int .u64 0,.int .u64 0,.int .u64 0,.int .u64 0,.int .u64 0,.int .u64 0,.int .u64 0,.int .u64 0,.int .u64 0,.int .u64 0,.int .u64 0,.int .u64 0,.int .u64 0,.int .u64 0,.int .u64 0,.int .u64 0,.int .u64 0,.int .u64 0,.slice none 0 0,.bool true,.int .i64 (m:Int)]):=Z (by
    rw[<-io];unfold Row;rw[setRow_heap _ _ _ _ _ _ hv.drew]
    rfl)
   clear io;go_still_tail 6,(by kernel_rfl)
   change wpList _ _ _ _ _ cQ.drew;go_upto_region 9 with fail
   have kb:Hid (Ch ag wc hm):=Z (g3.drew.join k4 (fun i eW i6=>by have e:i=F:=i6;have:=R.out;omega));have ob:Hid (aJ hm F 0 127 [] [.bool true,.int .i64 (m:Int)] (.slice none 0 0) ⟨cat,bn K1 k0 k1 k2 k3 a0 a1 a2 a3 0,[]⟩):=Z ⟨kd,rfl,cv.nil _⟩;have g6:=Z (ap.ch kb (fun h=>h));clear lt;have x2:=g6.k 2 rfl;have x3:=g6.k 3 rfl;have x4:=g6.k 4 rfl;have x5:=g6.k 5 rfl;clear ex hv kd et g3 k4 nC jp kT ov p8;go_wp2
   clear x2 x3 x4 x5;go_loopg [74] 5 (fun gk u wr=>∃ab:Nat,ab<=4/\gk=4-ab+1/\u=.int .i64 ab/\Hid (Ch ag wc wr/\aJ wr F 0 127 [] [.bool true,.int .i64 (m:Int)] (.slice none 0 0) ⟨cat,bn K1 k0 k1 k2 k3 a0 a1 a2 a3 ab,[]⟩))
   case atStart=>exact⟨0,by omega,by omega,rfl,kb,ob⟩
   case round=>
    obtain⟨ab,s3,rfl,rfl,c⟩:=hrel;have X:=Z (cS.af c.1);have en:=Z ((Nx.af c.1).row c0.1 c0.2);have rc:L.mb≠F:=(fun e=>by have I:=cS.at_.GY;rw[e,R]at I;exact absurd I (Nat.lt_irrefl _));have rd:w.heap.size≠F:=(fun e=>by have I:=c0.1.lt;rw[e,R]at I;exact absurd I (Nat.lt_irrefl _));have tm:=rc.symm;have tr:=rd.symm;obtain rfl|rfl|rfl|rfl|rfl:ab=0∨ab=1∨ab=2∨ab=3∨ab=4:=by omega
    ·have W:=en.1.c1
     have eS:wr.cell? (F,1)=_:=hR c.2 0 (by omega);have i1:=c.2.free 1;have i7:=Ax k0 k1 k2 k3;by_cases d:k0=0
     ·have O:bn K1 k0 k1 k2 k3 a0 a1 a2 a3 1=bn K1 k0 k1 k2 k3 a0 a1 a2 a3 0:=AB (by unfold dg;rw[if_pos d])
      have c3:=Z O;have cq:(k0==0)=true:=(by simpa using d);clear O d;go_wp2
      go_roundg (4)
      case measure=>omega
      case rel=>exact⟨1,by omega,rfl,rfl,c.1,by rw[c3];exact c.2⟩
     ·have cq:(k0==0)=false:=by rw[beq_eq_false_iff_ne];exact d
      by_cases x:k0=7
      ·have z:IntKind.u64.wrap (V+a0)=dg K1 k0 a0:=by unfold dg;rw[if_neg d,if_pos x,g2,av]
       have cm:(k0==7)=true:=(by simpa using x);have S:=Z z;have c1:=Z (CJ (es wr.drew _ _ X.at_.drew));have ec:=av.out;clear z d x;go_wp2
       go_region_held3 (fun w'=>w'.cell? ⟨w.heap.size,0,none⟩=some (.int .u64 a0)) (go_keep) ((go_at_call 40;refine c1.mono ?_;rintro e s ⟨rfl,A⟩;have n:Hid (Ch ag wr s):=Z (Ch.trans ay A);have o:=Z (aJ.ch c.2 n (fun h=>h) (fun _ _ h=>h));have c8:=n.k W;have c9:s.cell? (F,1)=_:=hR o 0 (by omega);have a4:=o.free 1;clear A))
       all_goals
        go_wp2
        go_roundg (4)
        case measure=>omega
        case rel=>
         have B:=e3 o (by decide) 0 (by omega) (IntKind.u64.wrap (V+a0));rw[show({({pc:=cat,r:=bn K1 k0 k1 k2 k3 a0 a1 a2 a3 0,back:=[]}:cP)with r:=fW (bn K1 k0 k1 k2 k3 a0 a1 a2 a3 0) 0 (IntKind.u64.wrap (V+a0))}:cP)=⟨cat,bn K1 k0 k1 k2 k3 a0 a1 a2 a3 1,[]⟩from by rw[qZ _ S]]at B;exact⟨1,by omega,rfl,rfl,(c.1.trans n).set (p:=⟨F,1,none⟩) (Or.inr (by rw[R];exact Nat.le_refl _)) _,B⟩
      ·have cm:(k0==7)=false:=by rw[beq_eq_false_iff_ne];exact x
       have Q:=Z (g4 wr.drew _ _ a0 k0 X.at_.drew);have co:=X.at_.iq;obtain⟨a5,T⟩:=nm (gp K1.cT a0 k0);rw[T]at Q;obtain⟨H,U⟩:∃v,a5.getD 0=v:=⟨_,rfl⟩;have z:H=dg K1 k0 a0:=(by unfold dg;rw[if_neg d,if_neg x,T,U]);have S:=Z z;have c2:Hid (Calls prog 181 #[(L.ob,0),.int .u64 a0,k0] wr.drew (fun e w'=>(∃v,e=.returned (.tuple #[.int .u64 H,v]))/\Ch ag wr.drew w')):=Z (Q.mono fun e w' h=>by
        obtain⟨I,G⟩:=h;refine⟨?_,G⟩;rw[<-U];cases a5 with
        |none=>obtain⟨v,ce,_⟩:=I;exact⟨v,ce⟩
        |some y=>exact⟨_,I⟩)
       clear z d x T U Q;go_wp2
       go_region_held3 (fun w'=>w'.cell? (L.mb,1013)=some (.pointer (some (L.ob,0)))/\w'.cell? ⟨w.heap.size,0,none⟩=some (.int .u64 a0)) (go_keep) ((go_at_call 181;refine c2.mono ?_;rintro e s ⟨⟨ip,rfl⟩,A⟩;have n:Hid (Ch ag wr s):=Z (Ch.trans ay A);have o:=Z (aJ.ch c.2 n (fun h=>h) (fun _ _ h=>h));have c8:=n.k W;have i0:=n.k co;have c9:s.cell? (F,1)=_:=hR o 0 (by omega);have a4:=o.free 1;clear A))
       all_goals
        go_wp2
        go_roundg (4)
        case measure=>omega
        case rel=>
         have B:=e3 o (by decide) 0 (by omega) H;rw[show({({pc:=cat,r:=bn K1 k0 k1 k2 k3 a0 a1 a2 a3 0,back:=[]}:cP)with r:=fW (bn K1 k0 k1 k2 k3 a0 a1 a2 a3 0) 0 H}:cP)=⟨cat,bn K1 k0 k1 k2 k3 a0 a1 a2 a3 1,[]⟩from by rw[qZ _ S]]at B;exact⟨1,by omega,rfl,rfl,(c.1.trans n).set (p:=⟨F,1,none⟩) (Or.inr (by rw[R];exact Nat.le_refl _)) _,B⟩
    ·have W:=en.1.k 1 rfl
     have eS:wr.cell? (F,2)=_:=hR c.2 1 (by omega);have i1:=c.2.free 2;have i7:=Ay k0 k1 k2 k3;by_cases d:k1=0
     ·have O:bn K1 k0 k1 k2 k3 a0 a1 a2 a3 2=bn K1 k0 k1 k2 k3 a0 a1 a2 a3 1:=AD (by unfold dg;rw[if_pos d])
      have c3:=Z O;have cq:(k1==0)=true:=(by simpa using d);clear O d;go_wp2
      go_roundg (3)
      case measure=>omega
      case rel=>exact⟨2,by omega,rfl,rfl,c.1,by rw[c3];exact c.2⟩
     ·have cq:(k1==0)=false:=by rw[beq_eq_false_iff_ne];exact d
      by_cases x:k1=7
      ·have z:IntKind.u64.wrap (V+a1)=dg K1 k1 a1:=by unfold dg;rw[if_neg d,if_pos x,g2,av]
       have cm:(k1==7)=true:=(by simpa using x);have S:=Z z;have c1:=Z (CJ (es wr.drew _ _ X.at_.drew));have ec:=av.out;clear z d x;go_wp2
       go_region_held3 (fun w'=>w'.cell? ⟨w.heap.size,1,none⟩=some (.int .u64 a1)) (go_keep) ((go_at_call 40;refine c1.mono ?_;rintro e s ⟨rfl,A⟩;have n:Hid (Ch ag wr s):=Z (Ch.trans ay A);have o:=Z (aJ.ch c.2 n (fun h=>h) (fun _ _ h=>h));have c8:=n.k W;have c9:s.cell? (F,2)=_:=hR o 1 (by omega);have a4:=o.free 2;clear A))
       all_goals
        go_wp2
        go_roundg (3)
        case measure=>omega
        case rel=>
         have B:=e3 o (by decide) 1 (by omega) (IntKind.u64.wrap (V+a1));rw[show({({pc:=cat,r:=bn K1 k0 k1 k2 k3 a0 a1 a2 a3 1,back:=[]}:cP)with r:=fW (bn K1 k0 k1 k2 k3 a0 a1 a2 a3 1) 1 (IntKind.u64.wrap (V+a1))}:cP)=⟨cat,bn K1 k0 k1 k2 k3 a0 a1 a2 a3 2,[]⟩from by rw[q0 _ S]]at B;exact⟨2,by omega,rfl,rfl,(c.1.trans n).set (p:=⟨F,2,none⟩) (Or.inr (by rw[R];exact Nat.le_refl _)) _,B⟩
      ·have cm:(k1==7)=false:=by rw[beq_eq_false_iff_ne];exact x
       have Q:=Z (g4 wr.drew _ _ a1 k1 X.at_.drew);have co:=X.at_.iq;obtain⟨a5,T⟩:=nm (gp K1.cT a1 k1);rw[T]at Q;obtain⟨H,U⟩:∃v,a5.getD 0=v:=⟨_,rfl⟩;have z:H=dg K1 k1 a1:=(by unfold dg;rw[if_neg d,if_neg x,T,U]);have S:=Z z;have c2:Hid (Calls prog 181 #[(L.ob,0),.int .u64 a1,k1] wr.drew (fun e w'=>(∃v,e=.returned (.tuple #[.int .u64 H,v]))/\Ch ag wr.drew w')):=Z (Q.mono fun e w' h=>by
        obtain⟨I,G⟩:=h;refine⟨?_,G⟩;rw[<-U];cases a5 with
        |none=>obtain⟨v,ce,_⟩:=I;exact⟨v,ce⟩
        |some y=>exact⟨_,I⟩)
       clear z d x T U Q;go_wp2
       go_region_held3 (fun w'=>w'.cell? (L.mb,1013)=some (.pointer (some (L.ob,0)))/\w'.cell? ⟨w.heap.size,1,none⟩=some (.int .u64 a1)) (go_keep) ((go_at_call 181;refine c2.mono ?_;rintro e s ⟨⟨ip,rfl⟩,A⟩;have n:Hid (Ch ag wr s):=Z (Ch.trans ay A);have o:=Z (aJ.ch c.2 n (fun h=>h) (fun _ _ h=>h));have c8:=n.k W;have i0:=n.k co;have c9:s.cell? (F,2)=_:=hR o 1 (by omega);have a4:=o.free 2;clear A))
       all_goals
        go_wp2
        go_roundg (3)
        case measure=>omega
        case rel=>
         have B:=e3 o (by decide) 1 (by omega) H;rw[show({({pc:=cat,r:=bn K1 k0 k1 k2 k3 a0 a1 a2 a3 1,back:=[]}:cP)with r:=fW (bn K1 k0 k1 k2 k3 a0 a1 a2 a3 1) 1 H}:cP)=⟨cat,bn K1 k0 k1 k2 k3 a0 a1 a2 a3 2,[]⟩from by rw[q0 _ S]]at B;exact⟨2,by omega,rfl,rfl,(c.1.trans n).set (p:=⟨F,2,none⟩) (Or.inr (by rw[R];exact Nat.le_refl _)) _,B⟩
    ·have W:=en.1.k 2 rfl
     have eS:wr.cell? (F,3)=_:=hR c.2 2 (by omega);have i1:=c.2.free 3;have i7:=Az k0 k1 k2 k3;by_cases d:k2=0
     ·have O:bn K1 k0 k1 k2 k3 a0 a1 a2 a3 3=bn K1 k0 k1 k2 k3 a0 a1 a2 a3 2:=AE (by unfold dg;rw[if_pos d])
      have c3:=Z O;have cq:(k2==0)=true:=(by simpa using d);clear O d;go_wp2
      go_roundg (2)
      case measure=>omega
      case rel=>exact⟨3,by omega,rfl,rfl,c.1,by rw[c3];exact c.2⟩
     ·have cq:(k2==0)=false:=by rw[beq_eq_false_iff_ne];exact d
      by_cases x:k2=7
      ·have z:IntKind.u64.wrap (V+a2)=dg K1 k2 a2:=by unfold dg;rw[if_neg d,if_pos x,g2,av]
       have cm:(k2==7)=true:=(by simpa using x);have S:=Z z;have c1:=Z (CJ (es wr.drew _ _ X.at_.drew));have ec:=av.out;clear z d x;go_wp2
       go_region_held3 (fun w'=>w'.cell? ⟨w.heap.size,2,none⟩=some (.int .u64 a2)) (go_keep) ((go_at_call 40;refine c1.mono ?_;rintro e s ⟨rfl,A⟩;have n:Hid (Ch ag wr s):=Z (Ch.trans ay A);have o:=Z (aJ.ch c.2 n (fun h=>h) (fun _ _ h=>h));have c8:=n.k W;have c9:s.cell? (F,3)=_:=hR o 2 (by omega);have a4:=o.free 3;clear A))
       all_goals
        go_wp2
        go_roundg (2)
        case measure=>omega
        case rel=>
         have B:=e3 o (by decide) 2 (by omega) (IntKind.u64.wrap (V+a2));rw[show({({pc:=cat,r:=bn K1 k0 k1 k2 k3 a0 a1 a2 a3 2,back:=[]}:cP)with r:=fW (bn K1 k0 k1 k2 k3 a0 a1 a2 a3 2) 2 (IntKind.u64.wrap (V+a2))}:cP)=⟨cat,bn K1 k0 k1 k2 k3 a0 a1 a2 a3 3,[]⟩from by rw[q1 _ S]]at B;exact⟨3,by omega,rfl,rfl,(c.1.trans n).set (p:=⟨F,3,none⟩) (Or.inr (by rw[R];exact Nat.le_refl _)) _,B⟩
      ·have cm:(k2==7)=false:=by rw[beq_eq_false_iff_ne];exact x
       have Q:=Z (g4 wr.drew _ _ a2 k2 X.at_.drew);have co:=X.at_.iq;obtain⟨a5,T⟩:=nm (gp K1.cT a2 k2);rw[T]at Q;obtain⟨H,U⟩:∃v,a5.getD 0=v:=⟨_,rfl⟩;have z:H=dg K1 k2 a2:=(by unfold dg;rw[if_neg d,if_neg x,T,U]);have S:=Z z;have c2:Hid (Calls prog 181 #[(L.ob,0),.int .u64 a2,k2] wr.drew (fun e w'=>(∃v,e=.returned (.tuple #[.int .u64 H,v]))/\Ch ag wr.drew w')):=Z (Q.mono fun e w' h=>by
        obtain⟨I,G⟩:=h;refine⟨?_,G⟩;rw[<-U];cases a5 with
        |none=>obtain⟨v,ce,_⟩:=I;exact⟨v,ce⟩
        |some y=>exact⟨_,I⟩)
       clear z d x T U Q;go_wp2
       go_region_held3 (fun w'=>w'.cell? (L.mb,1013)=some (.pointer (some (L.ob,0)))/\w'.cell? ⟨w.heap.size,2,none⟩=some (.int .u64 a2)) (go_keep) ((go_at_call 181;refine c2.mono ?_;rintro e s ⟨⟨ip,rfl⟩,A⟩;have n:Hid (Ch ag wr s):=Z (Ch.trans ay A);have o:=Z (aJ.ch c.2 n (fun h=>h) (fun _ _ h=>h));have c8:=n.k W;have i0:=n.k co;have c9:s.cell? (F,3)=_:=hR o 2 (by omega);have a4:=o.free 3;clear A))
       all_goals
        go_wp2
        go_roundg (2)
        case measure=>omega
        case rel=>
         have B:=e3 o (by decide) 2 (by omega) H;rw[show({({pc:=cat,r:=bn K1 k0 k1 k2 k3 a0 a1 a2 a3 2,back:=[]}:cP)with r:=fW (bn K1 k0 k1 k2 k3 a0 a1 a2 a3 2) 2 H}:cP)=⟨cat,bn K1 k0 k1 k2 k3 a0 a1 a2 a3 3,[]⟩from by rw[q1 _ S]]at B;exact⟨3,by omega,rfl,rfl,(c.1.trans n).set (p:=⟨F,3,none⟩) (Or.inr (by rw[R];exact Nat.le_refl _)) _,B⟩
    ·have W:=en.1.k 3 rfl
     have eS:wr.cell? (F,4)=_:=hR c.2 3 (by omega);have i1:=c.2.free 4;have i7:=AA k0 k1 k2 k3;by_cases d:k3=0
     ·have O:bn K1 k0 k1 k2 k3 a0 a1 a2 a3 4=bn K1 k0 k1 k2 k3 a0 a1 a2 a3 3:=AF (by unfold dg;rw[if_pos d])
      have c3:=Z O;have cq:(k3==0)=true:=(by simpa using d);clear O d;go_wp2
      go_roundg (1)
      case measure=>omega
      case rel=>exact⟨4,by omega,rfl,rfl,c.1,by rw[c3];exact c.2⟩
     ·have cq:(k3==0)=false:=by rw[beq_eq_false_iff_ne];exact d
      by_cases x:k3=7
      ·have z:IntKind.u64.wrap (V+a3)=dg K1 k3 a3:=by unfold dg;rw[if_neg d,if_pos x,g2,av]
       have cm:(k3==7)=true:=(by simpa using x);have S:=Z z;have c1:=Z (CJ (es wr.drew _ _ X.at_.drew));have ec:=av.out;clear z d x;go_wp2
       go_region_held3 (fun w'=>w'.cell? ⟨w.heap.size,3,none⟩=some (.int .u64 a3)) (go_keep) ((go_at_call 40;refine c1.mono ?_;rintro e s ⟨rfl,A⟩;have n:Hid (Ch ag wr s):=Z (Ch.trans ay A);have o:=Z (aJ.ch c.2 n (fun h=>h) (fun _ _ h=>h));have c8:=n.k W;have c9:s.cell? (F,4)=_:=hR o 3 (by omega);have a4:=o.free 4;clear A))
       all_goals
        go_wp2
        go_roundg (1)
        case measure=>omega
        case rel=>
         have B:=e3 o (by decide) 3 (by omega) (IntKind.u64.wrap (V+a3));rw[show({({pc:=cat,r:=bn K1 k0 k1 k2 k3 a0 a1 a2 a3 3,back:=[]}:cP)with r:=fW (bn K1 k0 k1 k2 k3 a0 a1 a2 a3 3) 3 (IntKind.u64.wrap (V+a3))}:cP)=⟨cat,bn K1 k0 k1 k2 k3 a0 a1 a2 a3 4,[]⟩from by rw[q2 _ S]]at B;exact⟨4,by omega,rfl,rfl,(c.1.trans n).set (p:=⟨F,4,none⟩) (Or.inr (by rw[R];exact Nat.le_refl _)) _,B⟩
      ·have cm:(k3==7)=false:=by rw[beq_eq_false_iff_ne];exact x
       have Q:=Z (g4 wr.drew _ _ a3 k3 X.at_.drew);have co:=X.at_.iq;obtain⟨a5,T⟩:=nm (gp K1.cT a3 k3);rw[T]at Q;obtain⟨H,U⟩:∃v,a5.getD 0=v:=⟨_,rfl⟩;have z:H=dg K1 k3 a3:=(by unfold dg;rw[if_neg d,if_neg x,T,U]);have S:=Z z;have c2:Hid (Calls prog 181 #[(L.ob,0),.int .u64 a3,k3] wr.drew (fun e w'=>(∃v,e=.returned (.tuple #[.int .u64 H,v]))/\Ch ag wr.drew w')):=Z (Q.mono fun e w' h=>by
        obtain⟨I,G⟩:=h;refine⟨?_,G⟩;rw[<-U];cases a5 with
        |none=>obtain⟨v,ce,_⟩:=I;exact⟨v,ce⟩
        |some y=>exact⟨_,I⟩)
       clear z d x T U Q;go_wp2
       go_region_held3 (fun w'=>w'.cell? (L.mb,1013)=some (.pointer (some (L.ob,0)))/\w'.cell? ⟨w.heap.size,3,none⟩=some (.int .u64 a3)) (go_keep) ((go_at_call 181;refine c2.mono ?_;rintro e s ⟨⟨ip,rfl⟩,A⟩;have n:Hid (Ch ag wr s):=Z (Ch.trans ay A);have o:=Z (aJ.ch c.2 n (fun h=>h) (fun _ _ h=>h));have c8:=n.k W;have i0:=n.k co;have c9:s.cell? (F,4)=_:=hR o 3 (by omega);have a4:=o.free 4;clear A))
       all_goals
        go_wp2
        go_roundg (1)
        case measure=>omega
        case rel=>
         have B:=e3 o (by decide) 3 (by omega) H;rw[show({({pc:=cat,r:=bn K1 k0 k1 k2 k3 a0 a1 a2 a3 3,back:=[]}:cP)with r:=fW (bn K1 k0 k1 k2 k3 a0 a1 a2 a3 3) 3 H}:cP)=⟨cat,bn K1 k0 k1 k2 k3 a0 a1 a2 a3 4,[]⟩from by rw[q2 _ S]]at B;exact⟨4,by omega,rfl,rfl,(c.1.trans n).set (p:=⟨F,4,none⟩) (Or.inr (by rw[R];exact Nat.le_refl _)) _,B⟩
    ·have W:=en.1.c1
     have pk:wr.cell? (F,31)=_:=hR c.2 30 (by omega);have pl:wr.cell? (F,32)=_:=hR c.2 31 (by omega);have f30:=c.2.free 31;have f31:=c.2.free 32;have mW:IntKind.u64.wrap (m:Int)=m:=(by unfold IntKind.wrap IntKind.bits IntKind.signed;simp;omega);have p3:=Z mW;have pp:(⟨F,31,none⟩:Addr)≠⟨F,32,none⟩:=(by simp);have pu:(⟨F,32,none⟩:Addr)≠⟨F,31,none⟩:=(by simp);have l':=aJ.drew (e3 (e3 c.2 (by decide) 30 (by omega) a0) (by decide) 31 (by omega) (m:Int));have lw:Ch ag wc (((wr.setCell (F,1+30) (.int .u64 a0)).setCell (F,1+31) (.int .u64 (m:Int))).drew):=((c.1.set (p:=⟨F,1+30,none⟩) (Or.inr (by rw[R];exact Nat.le_refl _)) _).set (p:=⟨F,1+31,none⟩) (Or.inr (by rw[R];exact Nat.le_refl _)) _).drew;have kf:=Z (And.intro l' lw);clear l' lw;go_wp2
     go_region
     go_upto_region 19 with fail
     obtain⟨s,hi⟩:=nm (((wr.setCell (F,31) (.int .u64 a0)).setCell (F,32) (.int .u64 (m:Int))).drew);have o:Hid (aJ s F 0 127 [] [.bool true,.int .i64 (m:Int)] (.slice none 0 0) ⟨cat,pS K1 k0 k1 k2 k3 a0 a1 a2 a3 (m:Int),[]⟩):=Z (by rw[<-hi,<-yq];exact kf.1);have n:Hid (Ch ag wc s):=Z (by rw[<-hi];exact kf.2);rw[hi];clear hi pk pl f30 f31 W pp pu mW;have bi:=Z (cS.af n);obtain⟨g,cap,dr,pv,_⟩:=bi.at_.hV J.2.2.1 eA.2.2;rw[<-eA.1]at dr pv;have kw:=Z dr;have g8:=bi.at_.DB J.2.2.1;have li:=bi.at_.sf J.2.2.1 1;rw[c4]at g8 li;rw[dr]at g8;have i8:=(bi.at_.tl id t J.2.2.1 (by simp)).is;rw[dr,<-eA.1]at i8;have mC:tb<s.heap.size:=aQ g8;have n0:(Value.slice (some (g,0)) eL cap).ownBlock≠some tb:=by
      have:=aZ (bi.at_.tl id t J.2.2.1 (by simp)).is (bi.at_.th id t J.2.2.1 (by simp)).is (by decide);rw[dr,c4]at this;exact this
     have E:Hid (hr C K id k (m:Int)=K1.cp id {t with l:=t.l++[⟨⟨cat,pS K1 k0 k1 k2 k3 a0 a1 a2 a3 (m:Int),[]⟩,true,(m:Int)⟩]}):=Z (by
      rw[eC,if_neg (by decide),KS.dm J.2.2.1];unfold pS;rw[p3])
     clear dr;go_wp2_with (at_builtin;refine wpList_append_lies _ rfl _ _ _ rfl 0 125 rb _ 1 8 underlying122 g5.1 g5.2.1 g5.2.2.1 g5.2.2.2 rfl (by omega) _ eL ((List.range eL).map fun k=>bk (lc.fb id k)) rfl (i8.alloc _) ⟨s.heap.size,0,none⟩ 1 1 [(F,0)] rfl rfl (World.news_of_block (cs:=#[(F,0)]) (t:=125) (fr:=(0,0)) (heap_alloc_new s _)) (by simp[Value.oneCell']) (by omega) (by unfold maxLen;omega) (by omega) (by simp) (s.heap.size+1) (by simp) ?_)
     intro pm pi it mA gr lo qc;have i3:=bi.at_.DC J.2.2.1 (f:=⟨⟨cat,pS K1 k0 k1 k2 k3 a0 a1 a2 a3 (m:Int),[]⟩,true,(m:Int)⟩) o ok rfl (g:=pm) (cap:=pi) (w4:=it) (by rw[<-eA.1];exact mA) (by rw[kw];exact ao gr) (by
      rw[kw];rcases lo with G|G
      ·exact Or.inl (by rw[G])
      ·exact Or.inr (by omega))
     rw[c4,<-eA.1]at i3;have os:=Z i3;have tt:it.cell? (tb,1)=some (.slice (some (g,0)) eL cap):=((Ch.bK (ao gr)).cell (p:=⟨tb,1,none⟩) mC n0).trans g8;have tw:it.frozen? (tb,1)=false:=((Ch.bK (ao gr)).frozen (p:=⟨tb,1,none⟩) mC n0).trans li;clear i3 mA gr lo qc i8;go_wp2
     go_end0
     rw[E];obtain⟨aY,Y',gs,qm,sv,qb⟩:=os.out;have fb:=bi.nx;have sb:w.heap.size<=wc.heap.size:=cS.nx.ch.size;exact⟨rfl,aY,Y',gs,⟨fb.ch.join qb (fun i eW i6=>by rw[<-fb.same i eW];exact i6),fun i eW=>(qm i (Nat.lt_of_lt_of_le eW fb.ch.size) (by rw[R];omega)).trans (fb.same i eW)⟩⟩
 ·have s9:(hl==0)=false:=by rw[beq_eq_false_iff_ne];exact ii
  have E:Hid (hr C K id k num=dq K1 id num hl 0):=Z (by rw[eC,if_pos ii]);have p1:=Z (fun(w:World) (χ:Nat->a') (Y:Var) (h:ae w χ L Y C K1)=>j3 id t dN hid fd gt num hl 0 on h);clear h ch dC bv hb fn cf gc ge gf go mL hid hf a9 md mk gt fd g9 dN cW hd;go_in
  go_wp2
  obtain⟨w1,al⟩:=nm (w.alloc (.cells #[.int .u64 a0,.int .u64 a1,.int .u64 a2,.int .u64 a3] 80));have hu:=Z (Ch.al (D:=ag) al);have bw:Hid (Row w1 w.heap.size 80 [.int .u64 a0,.int .u64 a1,.int .u64 a2,.int .u64 a3]/\χ w.heap.size=.no):=Z ⟨by rw[<-al];exact Row.new w _ _,g7.at_.fresh (Nat.le_refl _)⟩;rw[al];clear al n8 na nb nd;have c5:=Z (g7.af hu);obtain⟨am,cA,cC,cL⟩:=bw.1.c4;have cb:=c5.at_.gw J.1;rw[J.2.2.2,J.2.1]at cb;go_still_tail 8,(by kernel_rfl)
  change wpList _ _ _ _ _ w1.drew;go_wp2_with fail
  with_reducible refine(hB.out _ c5.out.at_.drew).mono ?_
  rintro e w2 ⟨rfl,re,lc,G⟩;have c6:=Z ((c5.af (Ch.refl _ w1).drew).trans (Gr.refl _) G);have bx:=Z (((Nx.af (Ch.refl _ w1).drew).trans G.nx).row bw.1 bw.2);have cl:=(c6.yk id t J.1).1;rw[J.2.1]at cl;have c4:=Z cl;clear G cl am cA cC cL cb;obtain⟨am,cA,cC,cL⟩:=bx.1.c4;go_wp2_with fail
  have ck:=hw _ _ _ c6.at_;rw[c4]at ck;with_reducible refine ck.mono ?_
  clear ck;rintro e w3 ⟨rfl,ci⟩;have c7:=Z (c6.af ci);have g1:=Z ((Nx.af ci).row bx.1 bx.2);clear ci am cA cC cL;go_wp2_with fail
  have i9:=p1 _ _ _ c7.at_;rw[c4]at i9;with_reducible refine i9.mono ?_
  clear i9;rintro e w4 ⟨rfl,rg,pa,i2⟩;have l1:=Z (And.intro i2.at_ (c7.nx.trans i2.nx));clear i2;go_wp2
  go_end0
  rw[E];exact⟨rfl,rg,pa,l1.1,l1.2⟩
section
variable{id:Int}{i k:Nat}{t:Thread}{c:cJ}
section
variable{N M:Nat}{K:KS}{C:KC}
theorem dP(b:aw K.ai id=some t)(f:cP):∃a,aw (K.cI (.ai id k) f).ai id=some a/\a.l.length=t.l.length/\a.id=t.id:=by
 refine⟨_,by show aw (cn K.ai id _) id=_;rw[aV,if_pos rfl],?_,?_⟩
 ·show(List.set (K.T id).l k _).length=_
  rw[List.length_set,KS.dm b]
 ·show(K.T id).id=_
  rw[KS.dm b]
theorem yr(h:Inv N M K)(a:i<K.wk.length):Inv N M (gJ C K i):=
 h.bj a rfl rfl ⟨⟨(h.gA a).f.r,by simp⟩,(h.gA a).l0,(h.gA a).l1⟩
theorem sR(h:Inv N M K)(id:Int)(c:cJ)(x:be):Inv N (M+1) (dc K id c x):=by
 unfold dc;split
 ·exact h.more (Nat.le_refl _) (Nat.le_succ _)
 ·dsimp only
  repeat' split
  all_goals first|exact h.tell _|exact h.more (Nat.le_refl _) (Nat.le_succ _)
theorem lf(h:Inv N M K)(a:aj K c):Inv N M (K.fA c):=h.cI a ((h.lY a).pc _)
theorem wx(A:ow C)(h:Inv N M K)(I:N<=800000)(u:i<K.wk.length){idO:Option Int}(m:aj K c)
 (v:∀id,idO=some id->(K.W i).slot=id/\id≠0/\c=.ai id (K.top id)/\∃t,aw K.ai id=some t/\t.l.length%2=0):
 Inv (N+1) (M+1) (eF C K i idO c).2.2/\((eF C K i idO c).2.1=2∨(eF C K i idO c).2.1=3->(eF C K i idO c).2.2.wk.length=K.wk.length/\∀id t,idO=some id->aw K.ai id=some t->∃a,aw (eF C K i idO c).2.2.ai id=some a/\a.l.length=t.l.length):=by
 obtain⟨k1,k2,k3,G⟩:=l4 A h m;have f:=ox C m;have w:=oy C (c:=c) i u;unfold eF;obtain⟨s,o⟩:=nm (cB C K c);have p:∀id t,idO=some id->aw K.ai id=some t->∃a,aw s.2.2.ai id=some a/\a.l.length=t.l.length:=fun id t e d=>by
  obtain⟨_,_,j,_⟩:=v id e;obtain⟨a,b,g,_⟩:=pR C (k:=K.top id) d;rw[j]at o;rw[o]at b;exact⟨a,b,g⟩
 rw[o]at k1 k2 k3 G f w⊢;dsimp only;split
 ·rename_i b
  obtain⟨E,F⟩:=k3 (Or.inr b);have B:i<s.2.2.wk.length:=by rw[f.2];exact u
  have n:aj s.2.2 c:=m.gr f.1 f.2;have q:∀id,idO=some id->(s.2.2.W i).slot=id/\id≠0/\∃t,aw s.2.2.ai id=some t/\t.l.length%2=0:=fun id e=>by
   obtain⟨x,j,H,t,d,D⟩:=v id e;obtain⟨a,b,g⟩:=p id t e d;exact⟨w.1.trans x,j,a,b,by rw[g];exact D⟩
  have l:=ju (C:=C) k1 (by omega) B n (jc.of E F) q;split
  ·rename_i y
   have r:=ko (C:=C) k1 (by omega) (i:=i) (idO:=idO) n s.1 (fun id e=>by obtain⟨_,_,t,d,_⟩:=q id e;exact⟨t,d⟩) y;exact⟨lf l (n.gr r.1 r.2),(fun e=>by rcases e with e|e<;>cases e)⟩
  ·split
   ·rename_i g
    have:=jv (C:=C) s.2.2 i idO c s.1 g;refine⟨l,fun _=>⟨by rw[show _=_ from this.2];exact f.2,fun id t e d=> ?_⟩⟩;obtain⟨a,b,z⟩:=p id t e d;exact⟨a,by rw[show _=_ from this.1];exact b,z⟩
   ·exact⟨l,(fun e=>by rcases e with e|e<;>cases e)⟩
 ·exact⟨k1.more (Nat.le_succ _) (Nat.le_succ _),fun _=>⟨f.2,p⟩⟩
theorem CK(j:ow C)(h:Inv N M K)(l:N<=800000)(a:i<K.wk.length):Inv (N+1) (M+2) (kg C K i):=by
 unfold kg;dsimp only;have f:Inv N M (K.bj i {K.W i with parked:=false}):=h.bj a rfl rfl ⟨(h.gA a).f,(h.gA a).l0,(h.gA a).l1⟩;have d:i<(K.bj i {K.W i with parked:=false}).wk.length:=by rw[bG];exact a
 have b:=wx j f l d (idO:=none) (c:=.own i) d (fun id e=>by cases e);split
 ·exact sR b.1 _ _ _
 ·split
  ·rename_i g
   exact(yr b.1 (by rw[(b.2 g.symm).1];exact d)).more (Nat.le_refl _) (Nat.le_succ _)
  ·exact b.1.more (Nat.le_refl _) (Nat.le_succ _)
theorem sS(l:ow C)(h:Inv N M K)(m:N<=800000)(n:i<K.wk.length)(a:aw K.ai id=some t)(p:(K.W i).slot=id)(d:id≠0)(o:t.l.length%2=0)(s:k+1=t.l.length):Inv (N+1) (M+2) (cD C K i id k):=by
 unfold cD;dsimp only;have q:K.top id=k:=by unfold KS.top;rw[KS.dm a];omega
 have b:=wx l h m n (idO:=some id) (c:=.ai id k) ⟨t,a,by omega⟩ (fun j e=>by injection e with e;subst e;exact⟨p,d,by rw[q],t,a,o⟩);split
 ·exact sR b.1 _ _ _
 ·split
  ·rename_i g
   obtain⟨u,f,r⟩:=(b.2 g.symm).2 id t rfl a;exact b.1.answer f (by have:=(h.de a).l.n0;omega) ⟨by decide,by decide⟩ bE
  ·exact b.1.more (Nat.le_refl _) (Nat.le_succ _)
theorem AG(h:Inv N M K)(k a:Int)(b:aK a):aK (dg K k a):=by
 unfold dg;split
 ·exact b
 ·split
  ·exact bO _
  ·cases d:gp K.cT a k with
   |none=>exact bE
   |some x=>exact h.obj.find a k x d
theorem oB(C:KC)(K:KS):∀l,aK (cw C K l)
 |[]=>bE
 |(k,a)::l=>by
  unfold cw;have b:aK (22:Int):=⟨by decide,by decide⟩
  repeat' split
  all_goals first|exact b|exact oB C K l
theorem q3(C:KC)(K:KS)(id num a0 a1 a2 a3:Int):aK (cM C K id num a0 a1 a2 a3):=by
 unfold cM;have b:aK (38:Int):=⟨by decide,by decide⟩;have a:aK (11:Int):=⟨by decide,by decide⟩
 repeat' split
 all_goals first|exact b|exact a|exact oB C K _
theorem sT(h:Inv N M K)(g:aw K.ai id=some t)(m:t.l.length%2=1)(p:k+1=t.l.length)(num:Int):Inv N (M+2) (hr C K id k num):=by
 have l:aj K (.ai id k):=⟨t,g,by omega⟩;have f:=(h.lY l).r;unfold hr;dsimp only;obtain⟨K1,e⟩:=nm (tell K ⟨1,0,0,id,num,(K.F (.ai id k)).r 0,(K.F (.ai id k)).r 1,(K.F (.ai id k)).r 2,(K.F (.ai id k)).r 3,0,0⟩);have a:Inv N (M+1) K1:=by rw[<-e];exact h.tell _
 have d:aw K1.ai id=some t:=by rw[<-e];exact g
 rw[e];split
 ·exact a.returned d _ (q3 _ _ _ _ _ _ _ _) bE
 ·have b:=a.de d
  have n:=b.l.n8;rw[KS.dm d];refine Inv.more (N:=N) (M:=M+1) (a.cp d ⟨b.id,b.eY,?_⟩) (Nat.le_refl _) (Nat.le_succ _);refine b.l.push _ (by omega) ⟨fun j o=> ?_,by simp⟩ (by simp[m]);dsimp only;have a0:=AG a
  repeat' split
  all_goals first|exact a0 _ _ (f _ (by omega))|exact f _ (by omega)|exact bO _|exact bE
theorem sU(h:Inv N M K)(u:N<=800000)(p:i<K.wk.length)(f:aw K.ai id=some t)(q:(K.W i).slot=id)(l:id≠0)(y:t.l.length%2=1)(w:k+1=t.l.length)(v:Int)(j:aK v):Inv N (M+2) (eZ C K i id k v):=by
 have b:aj K (.ai id k):=⟨t,f,by omega⟩;have m:=h.ax b 0 v j;have o:aj (K.ax (.ai id k) 0 v) (.ai id k):=b.gr (bA b _) (br _ _);have a:=lf m o;obtain⟨t1,s,x,_⟩:=dP (K:=K) (k:=k) f {K.F (.ai id k)with r:=fW (K.F (.ai id k)).r 0 v};obtain⟨t2,g,z,_⟩:=dP (K:=K.ax (.ai id k) 0 v) (k:=k) s {(K.ax (.ai id k) 0 v).F (.ai id k)with pc:=wrap64 (((K.ax (.ai id k) 0 v).F (.ai id k)).pc+1)};unfold eZ;dsimp only;split
 ·exact sT a g (by omega) (by omega) 2
 ·have n:=a.ot (a.core.ended g v j)
  have e:((({(K.ax (.ai id k) 0 v).fA (.ai id k)with table:=(gi ((K.ax (.ai id k) 0 v).fA (.ai id k)).table id v).2}:KS)).W i).slot=id:=q;have d:=Inv.ended (C:=C) n (by omega) (i:=i) p (by rw[e];exact l);rw[e]at d;exact d.more (Nat.le_refl _) (Nat.le_succ _)
theorem AH(id op:Int)(S:aI×List Ev)(kind a d v:Int)(b:b8 S.1/\S.2.length<=M)(h:aK v):(b8 (bR C K id op S kind a d v).2.1/\(bR C K id op S kind a d v).2.2.length<=M+1)/\∀x,(bR C K id op S kind a d v).1=some x->aK x:=by
 unfold bR;split
 ·exact⟨⟨b.1,Nat.le_succ_of_le b.2⟩,fun x e=>by cases e⟩
 ·dsimp only
  have f:=b.1.acc kind (IntKind.u64.wrap (IntKind.u64.wrap (gT K)+a)) d v h;split
  ·exact⟨⟨f.1,Nat.le_succ_of_le b.2⟩,fun x e=>by cases e⟩
  ·rename_i held g
   refine⟨⟨(f.1.acc 0 _ 0 0 bE).1,?_⟩,fun x e=>by rw[<-Option.some.inj e];exact f.2 held g⟩;rw[List.length_append];have:=b.2;simp;omega
theorem uM{x:be}{n:Int}(h:eD x n false=true):x.op<=22/\(x.op=22->x.v<1000):=by
 unfold eD my j8 at h;simp only[Bool.and_eq_true]at h;obtain⟨⟨⟨_,b⟩,⟨_,a⟩⟩,_⟩:=h;refine⟨?_,fun e=> ?_⟩
 ·have:x.op<=22/\x.m=0:=by simpa using b
  exact this.1
 ·unfold rH at a
  rw[if_neg (by omega),if_pos e]at a;simpa using a
theorem pU(d:ow C)(h:Inv N M K)(n:aw K.ai id=some t)(j:k<t.l.length)(op:Int):Inv N (M+1) (({K with mem:=(bM (bR C K id op) C.bs (K.F (.ai id k)) (K.mem,K.out)).2.2.1,out:=(bM (bR C K id op) C.bs (K.F (.ai id k)) (K.mem,K.out)).2.2.2}:KS).cI (.ai id k) (bM (bR C K id op) C.bs (K.F (.ai id k)) (K.mem,K.out)).2.1)/\
 ((bM (bR C K id op) C.bs (K.F (.ai id k)) (K.mem,K.out)).1=0∨(bM (bR C K id op) C.bs (K.F (.ai id k)) (K.mem,K.out)).1=1∨(bM (bR C K id op) C.bs (K.F (.ai id k)) (K.mem,K.out)).1=2∨(bM (bR C K id op) C.bs (K.F (.ai id k)) (K.mem,K.out)).1=3)/\
 ((bM (bR C K id op) C.bs (K.F (.ai id k)) (K.mem,K.out)).1=1->(fB C.bs (K.F (.ai id k)).pc).op=22/\0<=(fB C.bs (K.F (.ai id k)).pc).v/\(fB C.bs (K.F (.ai id k)).pc).v<1000):=by
 have w:aj K (.ai id k):=⟨t,n,j⟩;have m:=sN (Q:=fun S:aI×List Ev=>b8 S.1/\S.2.length<=M) (Q':=fun S:aI×List Ev=>b8 S.1/\S.2.length<=M+1) (bR C K id op) (fun S kind a A v b z=>AH id op S kind a A v b z) (fun S b=>⟨b.1,Nat.le_succ_of_le b.2⟩) C.bs d.pv (K.F (.ai id k)) (h.lY w) (K.mem,K.out) ⟨h.mem,h.out⟩;obtain⟨s,y⟩:=nm (bM (bR C K id op) C.bs (K.F (.ai id k)) (K.mem,K.out));rw[y]at m⊢;obtain⟨o,g,p,q,r⟩:=m;refine⟨?_,p,fun e=> ?_⟩
 ·have u:Inv N (M+1) ({K with mem:=s.2.2.1,out:=s.2.2.2}:KS):=⟨h.core,h.nd,h.q,h.b2,h.bI,g.1,h.obj,h.draw,h.w0,h.w1,g.2⟩
  exact u.cI (c:=.ai id k) ⟨t,n,j⟩ o
 ·have l:=(q (Or.inr e)).2
  have x:=uM (d.F4 _ l);have B:=(r e).1;have f:(fB C.bs (K.F (.ai id k)).pc).op=22:=by omega
  exact⟨f,(d.pv _ l).1,x.2 f⟩
theorem uN(p:ow C)(h:Inv N M K)(g:N<=800000)(q:i<K.wk.length)(o:aw K.ai id=some t)(v:(K.W i).slot=id)(f:id≠0)(z:t.l.length%2=1)(x:k+1=t.l.length):Inv N (M+4) (cx C K i id k):=by
 unfold cx;dsimp only;have m:=pU p h o (k:=k) (by omega) (fB C.bs (K.F (.ai id k)).pc).op;obtain⟨s,u⟩:=nm (bM (bR C K id (fB C.bs (K.F (.ai id k)).pc).op) C.bs (K.F (.ai id k)) (K.mem,K.out));rw[u]at m⊢;obtain⟨a,_,_⟩:=m;obtain⟨t1,b,y,_⟩:=dP (K:=({K with mem:=s.2.2.1,out:=s.2.2.2}:KS)) (k:=k) (id:=id) o s.2.1;obtain⟨K1,d⟩:=nm (({K with mem:=s.2.2.1,out:=s.2.2.2}:KS).cI (.ai id k) s.2.1);have l:i<K1.wk.length:=by rw[<-d];exact q
 have n:(K1.W i).slot=id:=by rw[<-d];exact v
 rw[d]at a b⊢;have j:aj K1 (.ai id k):=⟨t1,b,by omega⟩;split
 ·obtain⟨t2,w,A,_⟩:=dP (K:=K1) (k:=k) b {K1.F (.ai id k)with pc:=wrap64 ((K1.F (.ai id k)).pc+1)}
  exact(sT (lf a j) w (by omega) (by omega) _).more (Nat.le_refl _) (by omega)
 ·split
  ·split
   ·rename_i r
    have e:=a.de b;rw[KS.dm b];exact Inv.more (N:=N) (M:=M+1) (a.cp b ⟨e.id,e.eY,e.l.take _ r⟩) (Nat.le_refl _) (by omega)
   ·exact(sU a g l b n f (by omega) (by omega) _ ((a.lY j).r 0 (by omega))).more (Nat.le_refl _) (by omega)
  ·split
   ·exact sU (a.tell _) g (K:=tell K1 _) l b n f (by omega) (by omega) _ ⟨by decide,by decide⟩
   ·exact a.more (Nat.le_refl _) (by omega)
theorem AI(j:ow C)(h:Inv N M K)(l:N<=800000)(a:i<K.wk.length):Inv (N+1) (M+4) (fR C K i):=by
 unfold fR;split
 ·exact(CK j h l a).more (Nat.le_refl _) (by omega)
 ·rename_i e
  dsimp only;obtain⟨t,d⟩:=h.core.k9 (KS.ha a) e;have o:=h.de d;have m:K.top (K.W i).slot=t.l.length-1:=by unfold KS.top;rw[KS.dm d]
  have v:=o.l.n0;obtain⟨f,p⟩:∃f,t.l[t.l.length-1]?=some f:=⟨_,List.getElem?_eq_getElem (by omega)⟩;have u:(K.T (K.W i).slot).l.getD (K.top (K.W i).slot) default=f:=by rw[KS.dm d,m,List.getD_eq_getElem?_getD,p];rfl
  have g:=o.l.cg _ f p;rw[u];split
  ·exact(h.k' a e).more (Nat.le_succ _) (by omega)
  ·have s:=h.gA a
   have n:Inv N M (K.bj i {K.W i with left:=max ((K.W i).left-1) 0}):=h.bj a rfl rfl ⟨s.f,by show 0<=max ((K.W i).left-1) 0;omega,by have:=s.l1;show max ((K.W i).left-1) 0<=24;omega⟩;have q:i<(K.bj i {K.W i with left:=max ((K.W i).left-1) 0}).wk.length:=(by rw[bG];exact a);have r:((K.bj i {K.W i with left:=max ((K.W i).left-1) 0}).W i).slot=(K.W i).slot:=(by rw[gM a]);split
   ·rename_i b
    rw[b]at g;have:(t.l.length-1)%2=1:=(by simpa using g.symm);exact(sS j n l q d r e (by omega) (by rw[m];omega)).more (Nat.le_refl _) (by omega)
   ·rename_i b
    have b:f.cg=false:=(by simpa using b);rw[b]at g;have:(t.l.length-1)%2≠1:=(by simpa using g.symm);exact(uN j n l q d r e (by omega) (by rw[m];omega)).more (Nat.le_succ _) (Nat.le_refl _)
theorem sV(h:Inv N M K)(id:Int):Inv N M (cy K id):=by
 rw[kk];have a:=(h.km (h.q.drop id)).hz (id:=id) 110 ⟨by decide,by decide⟩;split
 ·rename_i b
  rw[lZ]at b;obtain⟨⟨t,d⟩,e⟩:=a.core.Am b;exact a.toRing d e
 ·exact a
theorem oC:∀(l:List Int) (K:KS),Inv N M K->Inv N M (l.foldl cy K)
 |[],_,h=>h
 |x::l,K,h=>oC l _ (sV h x)
theorem AJ(h:Inv N M K):Inv N (M+1) (hs K):=by
 unfold hs;dsimp only;exact oC _ _ ((h.uH h.b2.tick.1).tell _)
theorem q4(d:ow C)(h:Inv N 0 K)(e:N<=800000)(kind wk draw:Int)(hd:aK draw):Inv (N+1) 0 (ht C K kind wk draw).2:=by
 have a:∀w,Inv N 0 ({K with at_:=K.entries,w:=w,draw:=draw,entries:=wrap64 (K.entries+1)}:KS):=fun w=>⟨h.core,h.nd,h.q,h.b2,h.bI,h.mem,h.obj,hd,h.w0,h.w1,h.out⟩
 have b:∀{M:Nat} {K':KS},Inv (N+1) M K'->Inv (N+1) 0 ({K' with out:=[]}:KS):=fun h=>⟨h.core,h.nd,h.q,h.b2,h.bI,h.mem,h.obj,h.draw,h.w0,h.w1,Nat.le_refl _⟩
 unfold ht;dsimp only;split
 ·exact b ((AJ (a (-1))).more (Nat.le_succ _) (Nat.le_refl _))
 ·split
  ·split
   ·rename_i f
    exact b (AI d (a wk) e (i:=wk.toNat) (by have:=f.2;show wk.toNat<K.wk.length;omega))
   ·exact b ((a (-1)).more (Nat.le_succ _) (Nat.le_refl _))
  ·exact b ((a (-1)).more (Nat.le_succ _) (Nat.le_refl _))
end
end
theorem l5{N M:Nat}(T:ow C)(bv:Inv N M K)(ce:N<=600000)(cd:M<=600000)(i:Nat)(c0:i<K.wk.length)(id:Int)(t:Thread)(y:aw K.ai id=some t)(k:Nat)(ch:k+1=t.l.length)(ci:t.l.length%2=1)(v:Int)(c5:aK v)(h:ae w χ L Y C K):
 Calls prog 139 #[(L.mb,0),(L.wb,i*38),(Y.bI id,0),(Y.fb id k,0),.int .u64 v] w (si (.tuple #[]) χ L C (eZ C K i id k v) w):=by
 have l:aj K (.ai id k):=⟨t,y,by omega⟩;obtain⟨b,hb⟩:=nm (Y.fb id k);obtain⟨tb,a1⟩:=nm (Y.bI id);have s:aR L Y (.ai id k) b 0:=⟨hb.symm,rfl⟩;rw[hb,a1];obtain⟨dZ,Y1,n⟩:=h.a7 l s 0 (by omega) v;obtain⟨K1,g⟩:=nm (K.ax (.ai id k) 0 v);have U:Inv N M K1:=by rw[<-g];exact bv.ax l 0 v c5
 have W:Gr K K1:=by rw[<-g];exact bA l _
 have a2:K1.wk.length=K.wk.length:=by rw[<-g];exact br _ _
 obtain⟨t1,c4,ck,_⟩:∃d,aw K1.ai id=some d/\d.l.length=t.l.length/\d.id=t.id:=by rw[<-g];exact dP y _
 rw[g]at n;obtain⟨m,D⟩:=n.cur l s W a2;obtain⟨I,o,H⟩:=n.at_.qM m D (wrap64 ((K1.F (.ai id k)).pc+1));obtain⟨a,j⟩:=nm (K1.fA (.ai id k));have f:Inv N M a:=by rw[<-j];exact U.cI m ((U.lY m).pc _)
 have cf:Gr K1 a:=by rw[<-j];exact bA m _
 have G:a.wk.length=K1.wk.length:=by rw[<-j];exact br _ _
 obtain⟨t2,p,cl,_⟩:∃d,aw a.ai id=some d/\d.l.length=t1.l.length/\d.id=t1.id:=by rw[<-j];exact dP c4 _
 have bw:K1.cI (.ai id k) {K1.F (.ai id k)with pc:=wrap64 ((K1.F (.ai id k)).pc+1)}=a:=j;rw[bw]at H;have cm:w.cell? (b,1)=some (.int .u64 ((K.F (.ai id k)).r 0)):=h.aA l s 0 (by omega);have f0:=h.hy l s 1;have a5:=n.at_.uu m D;have f1:=n.at_.hy m D 0;obtain⟨pc,c2⟩:=nm ((K1.F (.ai id k)).pc);rw[c2]at a5 H;have z:=n.trans W H;have a3:o.bI id=tb:=((z.yk id t y).1).trans a1;have a4:o.fb id k=b:=((z.yk id t y).2 k (by omega)).trans hb;have c:Hid (dD χ L Y C K a w I o ((w.setCell (b,1) (.int .u64 v)).setCell (b,0) (.int .i64 (wrap64 (pc+1))))):=Z z;have p1:(w.setCell (b,1) (.int .u64 v)).cell? (b,0)=some (.int .i64 pc):=a5;have f2:(w.setCell (b,1) (.int .u64 v)).frozen? (b,0)=false:=f1;obtain⟨r,a0⟩:∃r,C.rows[2]?=some r:=⟨_,List.getElem?_eq_getElem (by rw[T.Eu];omega)⟩;have av:((w.setCell (b,1) (.int .u64 v)).setCell (b,0) (.int .i64 (wrap64 (pc+1)))).cell? (L.mb,9)=some (.int .i64 r):=z.at_.Ec a0;have c3:C.rows.getD 2 0=r:=by rw[List.getD_eq_getElem?_getD,a0];rfl
 have P:Hid (eZ C K i id k v=if 0<r then hr C a id k 2 else m3 C {a with table:=(gi a.table id v).2} i id):=Z (by unfold eZ;dsimp only;rw[g,j,c3]);have X:=(f.de p).id;have F:=(f.Et (by omega) p).1;have c1:i<a.wk.length:=by rw[G,a2];exact c0
 have Q:=Z (And.intro a3 a4);by_cases x:0<r
 ·have bx:decide (0<r)=true:=by simpa using x
  have E:Hid (eZ C K i id k v=hr C a id k 2):=Z (by rw[P,if_pos x]);have O:=Z (fun w (h:ae w I L o C a)=>pT T f (by omega) (by omega) id t2 p k (by omega) (by omega) 2 (by decide) (by decide) h);rw[a3,a4]at O;go_in
  go_wp2_with fail
  with_reducible refine(O.out _ c.out.at_).mono ?_
  rintro e w3 ⟨rfl,a9,B,q,c7⟩;have R:=Z (And.intro q (c.nx.trans c7));go_wp2
  go_end0
  rw[E];exact⟨rfl,a9,B,R.1,R.2⟩
 ·have bx:decide (0<r)=false:=by simpa using x
  have E:Hid (eZ C K i id k v=m3 C {a with table:=(gi a.table id v).2} i id):=Z (by rw[P,if_neg x]);have ad:=Z (fun w (h:ae w I L o C a)=>qJ id v F h);have ab:=Z (fun(w:World) (χ:Nat->a') (Y:Var) (h:ae w χ L Y C ({a with table:=(gi a.table id v).2}:KS))=>sj (K:=({a with table:=(gi a.table id v).2}:KS)) i c1 id t2 p X F (f.b2.ok (by omega)) (f.bI.ok (by omega)) (by show a.out.length<=800000;have:=f.out;omega) h);have A:=Z (And.intro p X);go_in
  go_wp2
  obtain⟨w2,G⟩:=nm (((w.setCell (b,1) (.int .u64 v)).setCell (b,0) (.int .i64 (wrap64 (pc+1)))));rw[G]at c av⊢;have ap:=c.at_.gw A.1;rw[Q.1,A.2]at ap;have cb:=c.at_.ee;go_still_tail 9,(by kernel_rfl)
  change wpList _ _ _ _ _ w2.drew;go_wp2_with fail
  with_reducible refine(ad.out _ c.out.at_.drew).mono ?_
  rintro e w3 ⟨⟨u,rfl,F⟩,a9,B,q⟩;have J:=Z q;have c6:B.bI id=tb:=((q.yk id t2 A.1).1).trans Q.1;have al:=Z c6;go_wp2_with fail
  have V:=ab _ _ _ J.at_;rw[al]at V;with_reducible refine V.mono ?_
  rintro e w4 ⟨rfl,c9,am,bi,c8⟩;have S:=Z (And.intro bi ((c.nx.trans ((Nx.af (Ch.refl _ w2).drew).trans J.nx)).trans c8));go_wp2
  go_end0
  rw[E];exact⟨rfl,c9,am,S.1,S.2⟩
theorem aJ.same{w:World}{b o:Nat}{t:TypeId}{c e d g:List Value}{v1 v2:Value}{f1 f2:cP}(h:aJ w b o t c e v1 f1)(i:aJ w b o t d g v2 f2):c=d/\e=g/\v1=v2:=by
 have hlen:c.length=d.length:=by rw[h.len,i.len]
 have q:c++(f1.cells v1++e)=d++(f2.cells v2++g):=by
  have j:=h.row;have a:=i.row;unfold Row at j a;rw[j]at a;injection a with a
  injection a with a _ _
  exact congrArg Array.toList a
 obtain⟨m,r⟩:=List.append_inj q hlen;obtain⟨s,n⟩:=List.append_inj r (by rw[cP.db,cP.db]);have k:=congrArg (fun l=>l[33]?) s;have p:∀(f:cP) u,(f.cells u)[33]?=some u:=fun f u=>by
  unfold cP.cells;rw[List.getElem?_cons_succ,List.getElem?_append_right (by rw[bz];omega),bz];rfl
 simp only[p]at k;exact⟨m,n,Option.some.inj k⟩
theorem AM{α:Type}(l:List (Int×α))(k:Int)(x y:α):cn (cn l k x) k y=cn l k y:=by
 induction l with
 |nil=>rw[kF,kF,dY,if_pos rfl]
 |cons z l ih=>
  rw[dY,dY];by_cases e:k=z.1
  ·rw[if_pos e,if_pos e,dY,if_pos rfl]
  ·rw[if_neg e,if_neg e,dY,if_neg e,ih]
theorem yu{id:Int}{k:Nat}{t:Thread}(c:aw K.ai id=some t)(b:k<t.l.length)(f g:cP):(K.cI (.ai id k) f).cI (.ai id k) g=K.cI (.ai id k) g:=by
 have a:(K.cI (.ai id k) f).T id={K.T id with l:=(K.T id).l.set k {(K.T id).l.getD k default with f:=f}}:=KS.dm (by show aw (cn _ _ _) _=_;rw[aV,if_pos rfl]);show(K.cI (.ai id k) f).cp id _=K.cp id _
 rw[a];unfold KS.cI KS.cp;dsimp only;rw[AM]
 congr 2
 rw[KS.dm c,List.set_set,List.getD_eq_getElem?_getD,List.getElem?_set_self b];rfl
def GG(a:KS)(c:cJ)(S:aI×List Ev)(K':KS):Prop:=K'={a with mem:=S.1,out:=S.2}∨∃f,K'=({a with mem:=S.1,out:=S.2}:KS).cI c f
theorem Ey(X:Array Value)(w:World):(Go.method 546 287 (.agg X) "Load").run prog w=.ok (290,.agg X) w:=by kernel_rfl
theorem Ez(X:Array Value)(w:World):(Go.method 546 287 (.agg X) "Store").run prog w=.ok (291,.agg X) w:=by kernel_rfl
theorem EA(X:Array Value)(w:World):(Go.method 546 287 (.agg X) "Swap").run prog w=.ok (292,.agg X) w:=by kernel_rfl
theorem EB(X:Array Value)(w:World):(Go.method 546 287 (.agg X) "Add").run prog w=.ok (288,.agg X) w:=by kernel_rfl
theorem EC(X:Array Value)(w:World):(Go.method 546 287 (.agg X) "Cas").run prog w=.ok (289,.agg X) w:=by kernel_rfl
theorem ED(X:Array Value)(w:World):(nilAhead 546 287 (.agg X) "Cas").run prog w=.ok (some false) w:=by kernel_rfl
theorem EE(args:Array Value)(w:World):(callFunc 290 args).run prog w=.ok (.enter 290 args) w:=by kernel_rfl
theorem EF(args:Array Value)(w:World):(callFunc 291 args).run prog w=.ok (.enter 291 args) w:=by kernel_rfl
theorem EG(args:Array Value)(w:World):(callFunc 292 args).run prog w=.ok (.enter 292 args) w:=by kernel_rfl
theorem EH(args:Array Value)(w:World):(callFunc 288 args).run prog w=.ok (.enter 288 args) w:=by kernel_rfl
theorem EI(args:Array Value)(w:World):(callFunc 289 args).run prog w=.ok (.enter 289 args) w:=by kernel_rfl
theorem CM{w0:World}{c:cJ}{id op kind a b v:Int}(k:Ch ag w0 w){e:Ending}{w':World}(h:iQ (bR C K id op (K.mem,K.out) kind a b v).1 χ L Y C K (pe C K id op kind a b v) w e w'):
 m2 (bR C K id op (K.mem,K.out) kind a b v).1 (fun w'=>(∃K' aY Y',GG K c (bR C K id op (K.mem,K.out) kind a b v).2 K'/\dD χ L Y C K K' w0 aY Y' w')/\Ch (fun i=>χ i=.mem∨χ i=.gL∨χ i=.out) w w') e w':=by
 obtain⟨d,⟨aY,Y',f⟩,j⟩:=h;refine⟨?_,⟨_,aY,Y',Or.inl rfl,f.at_,(Nx.af k).trans f.nx,f.yk⟩,j⟩;cases g:(bR C K id op (K.mem,K.out) kind a b v).1 with
 |none=>rw[g]at d;exact d
 |some x=>rw[g]at d;exact d
def CN(w0:World)(χ:Nat->a')(L:cU)(Y:Var)(C:KC)(K:KS)(c:cJ)(id op:Int)(g:0<=C.wide/\C.wide<=256/\0<=C.narrow/\C.narrow<=256)(j:K.out.length<=900000):qw 287 (.agg #[(L.mb,0),.int .u64 id,op]) (aI×List Ev) where
 At:=fun S w=>S=(K.mem,K.out)/\ae w χ L Y C K/\Ch ag w0 w
 vS:=fun S w=>∃K' aY Y',GG K c S K'/\dD χ L Y C K K' w0 aY Y' w
 Ok:=fun _=>True
 D:=fun i=>χ i=.mem∨χ i=.gL∨χ i=.out
 acc:=bR C K id op
 FL:=290
 FS:=291
 FW:=292
 FA:=288
 FC:=289
 mL:=Ey _
 mS:=Ez _
 mW:=EA _
 mA:=EB _
 mC:=EC _
 nC:=ED _
 eL:=EE
 eS:=EF
 eW:=EG
 eA:=EH
 eC:=EI
 keep:=fun _ _ _ h k=>⟨h.1,h.2.1.af k,h.2.2.trans k⟩
 Ds:=fun S w h=>⟨K,χ,Y,Or.inl (by rw[h.1]),h.2.1,Nx.af h.2.2,Yk.refl _ _⟩
 zy:=fun S w w' ⟨K',aY,Y',b,d⟩ k=>⟨K',aY,Y',b,d.af k⟩
 cL:=fun S a w _ e h=>by
  obtain⟨rfl,b,d⟩:=h;exact(uO g j id op a e b).mono fun _ _ h=>CM d h
 cS:=fun S a v w _ e f h=>by
  obtain⟨rfl,b,d⟩:=h;refine(sX g j id op a v e f b).mono fun _ _ h=> ?_
  obtain⟨m,⟨aY,Y',l⟩,n⟩:=h;exact⟨m,⟨_,aY,Y',Or.inl rfl,l.at_,(Nx.af d).trans l.nx,l.yk⟩,n⟩
 cW:=fun S a v w _ e f h=>by
  obtain⟨rfl,b,d⟩:=h;exact(oD g j id op a v e f b).mono fun _ _ h=>CM d h
 cA:=fun S a v w _ e f h=>by
  obtain⟨rfl,b,d⟩:=h;exact(ys g j id op a v e f b).mono fun _ _ h=>CM d h
 cC:=fun S a o v w _ e p f h=>by
  obtain⟨rfl,b,d⟩:=h;exact(yt g j id op a o v e p f b).mono fun _ _ h=>CM d h
def wy(C:KC)(K:KS)(id op:Int)(k:Nat):Int×KS:=
 let s:=bM (bR C K id op) C.bs (K.F (.ai id k)) (K.mem,K.out)
 (s.1,({K with mem:=s.2.2.1,out:=s.2.2.2}:KS).cI (.ai id k) s.2.1)
theorem GG.next{c:cJ}{a K':KS}{S:aI×List Ev}{id:Int}{k:Nat}{t:Thread}(h:GG a (.ai id k) S K')(e:aw a.ai id=some t)(d:k<t.l.length):aj K' (.ai id k)/\Gr a K'/\∀g,K'.cI (.ai id k) g=({a with mem:=S.1,out:=S.2}:KS).cI (.ai id k) g:=by
 have b:aj ({a with mem:=S.1,out:=S.2}:KS) (.ai id k):=⟨t,e,d⟩;rcases h with rfl|⟨f,rfl⟩
 ·exact⟨b,Gr.of_eq rfl,fun _=>rfl⟩
 ·exact⟨b.gr (bA b f) (br _ _),(Gr.of_eq (K':=({a with mem:=S.1,out:=S.2}:KS)) rfl).trans (bA b f),fun g=>yu (K:=({a with mem:=S.1,out:=S.2}:KS)) e d f g⟩
theorem dD.Hv{K1:KS}{dZ:Nat->a'}{Y1:Var}{w1 w2:World}{id:Int}{k:Nat}{b:Nat}{t:Thread}(m:dD χ L Y C K K1 w dZ Y1 w1)(p:aw K.ai id=some t)(l:k<t.l.length)(o:aR L Y (.ai id k) b 0)(f:aj K1 (.ai id k))(g:Gr K K1){pre post:List Value}{v1 v2:Value}{f1 f2:cP}(i:aJ w1 b 0 127 pre post v1 f1)(j:aJ w2 b 0 127 pre post v2 f2)(n:aS w1 v1 v2)(c:Ch (aH b) w1 w2):
 ∃d a,dD χ L Y C K (K1.cI (.ai id k) f2) w d a w2:=by
 have h:aR L Y1 (.ai id k) b 0:=o.yk ⟨t,p,l⟩ m.yk;obtain⟨s,r,u,e⟩:=m.at_.cur f h;obtain⟨rfl,rfl,rfl⟩:=aJ.same (t:=127) i e;obtain⟨d,a,q⟩:=m.at_.z1 f h e j n c;exact⟨d,a,m.trans g q⟩
theorem EJ(id op:Int)(k:Nat){t:Thread}(m:aw K.ai id=some t)(l:k<t.l.length)(b:Nat)(r:aR L Y (.ai id k) b 0)(Q:∀j,j<32->aK ((K.F (.ai id k)).r j))(E:(K.F (.ai id k)).back.length<=8)(T:∀x∈C.bs,aK x.v)(W:C.bs.length<=2048)(F:0<=C.wide/\C.wide<=256/\0<=C.narrow/\C.narrow<=256)(P:K.out.length<=900000)(h:ae w χ L Y C K):
 Calls prog 137 #[(b,0),.slice L.pc C.bs.length L.Cm,.iface 287 (.agg #[(L.mb,0),.int .u64 id,op])] w
  (zz (wy C K id op k).1 (fun w'=>∃aY Y',dD χ L Y C K (wy C K id op k).2 w aY Y' w')):=by
 have G:aj K (.ai id k):=⟨t,m,l⟩;obtain⟨pre,post,v,I,O,U⟩:=h.FZ G r;have y:=h.code (by simp);have R:=rQ (CN w χ L Y C K (.ai id k) id op F P) (K.mem,K.out) (Z trivial) b 0 127 (by decide) pre post v (K.F (.ai id k)) C.bs L.pc C.bs.length L.Cm rfl y.m5 (by omega) E Q T w I
  (fun B=>by obtain⟨g,a,d,_⟩:=y.prog (by intro e;rw[e]at B;exact absurd B (by simp));exact⟨g,0,a,fun j u N=>by rw[Nat.zero_add];exact d.cell j u N⟩) ⟨rfl,h,Ch.refl _ _⟩
  (fun S w1 w2 v1 f1 v2 f2 ⟨K',aY,Y',a,d⟩ J M A H=>by
   obtain⟨p,f,q⟩:=a.next (c:=.ai id k) m l;obtain⟨s,o,n⟩:=d.Hv m l r p f J M A H;exact⟨_,s,o,Or.inr ⟨f2,q f2⟩,n⟩)
  (fun e=>by
   rcases O with a|⟨_,_,a⟩<;>rcases e with e|e|e<;>rw[a]at e<;>cases e)
  (fun i X e=>by
   have:=h.small i (by rcases e with e|e|e<;>rw[e]<;>simp);omega)
  (fun g f e=>by
   have a:=U g f;rcases e with e|e|e<;>rw[a]at e<;>cases e)
 refine R.mono ?_;rintro e w' ⟨a,⟨v',z,A⟩,⟨K',aY,Y',d,D⟩,V⟩;refine⟨a,?_⟩;obtain⟨p,f,q⟩:=d.next (c:=.ai id k) m l;obtain⟨s,o,n⟩:=D.Hv m l r p f z z (aS.refl _ _) ay;refine⟨s,o,?_⟩;rw[q]at n;exact n
theorem sY{N M:Nat}(I:ow C)(U:Inv N M K)(sv:N<=500000)(st:M<=500000)(i:Nat)(ex:i<K.wk.length)(id:Int)(t:Thread)(Q:aw K.ai id=some t)(k:Nat)(eC:k+1=t.l.length)(g5:t.l.length%2=1)(h:ae w χ L Y C K):
 Calls prog 91 #[(L.mb,0),(L.wb,i*38),(Y.bI id,0),(Y.fb id k,0)] w (si (.tuple #[]) χ L C (cx C K i id k) w):=by
 have a3:k<t.l.length:=by omega
 have bw:aj K (.ai id k):=⟨t,Q,a3⟩;obtain⟨b,hb⟩:=nm (Y.fb id k);obtain⟨tb,dr⟩:=nm (Y.bI id);have c8:aR L Y (.ai id k) b 0:=⟨hb.symm,rfl⟩;rw[hb,dr];have hid:=(U.de Q).id;obtain⟨x,c1⟩:=nm (fB C.bs (K.F (.ai id k)).pc);have J:=fun w (h:ae w χ L Y C K)=>EJ id x.op k Q a3 b c8 (U.lY bw).r (U.lY bw).back I.pv I.pl I.bw (by have:=U.out;omega) h
 have i9:=pU I U Q (k:=k) a3 x.op;rw[c1]at i9;obtain⟨s,bx⟩:=nm (bM (bR C K id x.op) C.bs (K.F (.ai id k)) (K.mem,K.out));obtain⟨K1,V⟩:=nm (({K with mem:=s.2.2.1,out:=s.2.2.2}:KS).cI (.ai id k) s.2.1);have es:wy C K id x.op k=(s.1,K1):=by unfold wy;rw[bx];dsimp only;rw[V]
 rw[bx,V]at i9;obtain⟨P,k2,cb⟩:=i9;have et:Gr K K1:=by rw[<-V];exact(Gr.of_eq (K':=({K with mem:=s.2.2.1,out:=s.2.2.2}:KS)) rfl).trans (bA (c:=.ai id k) ⟨t,Q,a3⟩ _)
 have B:K1.wk.length=K.wk.length:=by rw[<-V];exact br _ _
 obtain⟨t1,O,eL,_⟩:∃kf,aw K1.ai id=some kf/\kf.l.length=t.l.length/\kf.id=t.id:=by rw[<-V];exact dP (K:=({K with mem:=s.2.2.1,out:=s.2.2.2}:KS)) Q _
 rw[es]at J;have c4:Hid (cx C K i id k=if s.1=1 then hr C (K1.fA (.ai id k)) id k (wrap64 x.v)else if s.1=2 then(if 0<K1.top id then K1.cp id {K1.T id with l:=(K1.T id).l.take (K1.top id)}else eZ C K1 i id k ((K1.F (.ai id k)).r 0))else if s.1=3 then eZ C (tell K1 ⟨4,0,0,id,x.op,0,0,0,0,if x.op≠15/\x.op≠0 then dE (K1.F (.ai id k)).r x else 0,0⟩) i id k 18446744073709551615 else K1):=Z (by unfold cx;dsimp only;rw[c1,bx,V]);have c0:(K.F (.ai id k)).pc<0∨(C.bs.length:Int)<=(K.F (.ai id k)).pc->s.1=3:=fun e=>by
  rw[<-bx];unfold bM;rcases e with e|e
  ·rw[if_pos e]
  ·split
   ·rfl
   ·rw[List.getElem?_eq_none (by omega)]
 have en:=h.code (by simp);have eA:=(P.de O).id;have c7:i<K1.wk.length:=by rw[B];exact ex
 have c6:aj K1 (.ai id k):=⟨t1,O,by omega⟩;obtain⟨r,eS⟩:=nm s.1;rw[eS]at J k2 cb c4 c0;dsimp only at J;have o:=Z (And.intro Q (And.intro dr (And.intro hb (And.intro hid a3))));have d:=Z (And.intro O (And.intro eA (And.intro eL (And.intro et (And.intro B c6)))));have dN:=Z (And.intro bw c8);have gr:=Z (dD.refl h);obtain⟨pc,c9⟩:=nm ((K.F (.ai id k)).pc);have i1:=Z c9;rw[c9]at c1 c0;obtain⟨ab,W⟩:=nm C.bs.length;have ch:=Z W;have tl:ab<=2048:=by rw[<-W];exact I.pl
 rw[W]at J c0;have G:=h.uu bw c8;rw[c9]at G;have k3:=h.c3;rw[W]at k3;have nb:=Z en.prog;have cS:=c1;by_cases lv:pc<0∨(ab:Int)<=pc
 ·have hd:(¬0<=pc/\decide (0<=pc)=false)∨(0<=pc/\decide (0<=pc)=true/\decide (pc<(ab:Int))=false):=by
   by_cases e:pc<0
   ·exact Or.inl ⟨by omega,by simpa using e⟩
   ·exact Or.inr ⟨by omega,by simpa using e,by simpa using lv.resolve_left e⟩
  have pu:r=3:=c0 lv;subst pu;have rb:x=⟨0,0,0,0,0,0,0⟩:=by rw[<-cS];exact lX (by rw[W];omega)
  subst rb;try dsimp only at J
  try dsimp only at c4
  have i3:Hid (∀w,ae w χ L Y C K->Calls prog 137 #[(b,0),.slice L.pc ab L.Cm,.iface 287 (.agg #[(L.mb,0),.int .u64 id,.int .i64 0])] w (zz 3 (fun w'=>∃aY Y',dD χ L Y C K K1 w aY Y' w'))):=Z J;have cf:=Z (fun(w:World) (χ:Nat->a') (Y:Var) (v:Int) (h:ae w χ L Y C (tell K1 ⟨4,0,0,id,0,0,0,0,0,v,0⟩))=>l5 I (P.tell ⟨4,0,0,id,0,0,0,0,0,v,0⟩) (by omega) (by omega) i c7 id t1 O k (by omega) (by omega) 18446744073709551615 ⟨by decide,by decide⟩ h);have g1:=Z (fun(w:World) (χ:Nat->a') (Y:Var) (v:Int) (h:ae w χ L Y C K1)=>dI 4 0 0 id 0 0 0 0 0 v 0 (by have:=P.out;omega) h);have c2:Hid (cx C K i id k=eZ C (tell K1 ⟨4,0,0,id,0,0,0,0,0,if 0≠15/\0≠0 then dE (K1.F (.ai id k)).r ⟨0,0,0,0,0,0,0⟩else 0,0⟩) i id k 18446744073709551615):=Z (by rw[c4,if_neg (by decide),if_neg (by decide),if_pos rfl];try rfl);clear h U I Q dr hb hid a3 bw c8 c1 J bx V es P k2 cb et B O eL c0 en eA c7 c6 eS c9 W eC g5 ex cS;rcases hd with⟨pv,ls⟩|⟨pv,ls,qb⟩
  all_goals
   go_in
   go_wp2
   obtain⟨w1,B⟩:=nm (w.alloc (.cells #[.int .i64 0,.int .i64 0,.int .i64 0,.int .i64 0,.int .u64 0,.int .i64 0,.int .i64 0] 184));have gf:=Z (Ch.al (D:=ag) B);have g0:Hid (Row w1 w.heap.size 184 [.int .i64 0,.int .i64 0,.int .i64 0,.int .i64 0,.int .u64 0,.int .i64 0,.int .i64 0]/\χ w.heap.size=.no):=Z ⟨by rw[<-B];exact Row.new w _ _,gr.at_.fresh (Nat.le_refl _)⟩;rw[B];clear B G k3;have cm:=Z (gr.af gf);have G:=cm.at_.uu dN.1 dN.2;rw[i1]at G;have k3:=cm.at_.c3;rw[ch]at k3;go_quiet (fail)
   generalize g6:w1.drewN _=w3;have gk:=Z (Ch.dN (D:=ag) g6);clear g6 G k3;have a9:=Z (cm.af gk);have ce:=Z ((Nx.af gk).row g0.1 g0.2);have G:=a9.at_.c3;rw[ch]at G;have i7:=a9.at_.gw o.1;rw[o.2.2.2.1,o.2.1]at i7;have x0:=ce.1.c1;go_wp2
   go_region_held3 (fun w'=>w'.cell? (L.mb,3)=some (.slice L.pc ab L.Cm)/\w'.cell? (tb,0)=some (.int .u64 id)/\w'.cell? ⟨w.heap.size,0,none⟩=some (.int .i64 0)) (go_keep) ((go_at_call 137;refine(i3 _ a9.at_.drew).mono ?_;rintro e w4 ⟨⟨u,rfl,k5⟩,fz,ec,cQ⟩;have f:=Z ((a9.af ay).trans (Gr.refl _) cQ);have R:=Z (((Nx.af (Ch.refl _ w3).drew).trans cQ.nx).row ce.1 ce.2);have g8:=((f.yk id t o.1).1).trans o.2.1;have g9:=((f.yk id t o.1).2 k o.2.2.2.2).trans o.2.2.1;have q:=Z (And.intro g8 g9);clear cQ k5 g8 g9;have dC:=f.at_.c3;rw[ch]at dC;have T:=f.at_.gw d.1;rw[d.2.1,q.1]at T;have x4:=R.1.c1))
   all_goals
    clear dC;go_wp2
    go_cut [12] (fun p wc=>uL 82 [.int .i64 4,.int .i64 0,.int .i64 0,.int .u64 id,.int .i64 0,.int .u64 0,.int .u64 0,.int .u64 0,.int .u64 0,.int .u64 0,.int .u64 0] w4 p wc)
    case first=>
     have rc:=World.new_ne w4 ⟨tb,0,none⟩ T;have rd:=World.new_ne w4 ⟨w.heap.size,0,none⟩ x4;have re:tb≠w4.heap.size:=Nat.ne_of_lt (aQ T);have rg:w.heap.size≠w4.heap.size:=Nat.ne_of_lt (aQ x4);go_region_held3 (fun w'=>w'.cell? (tb,0)=some (.int .u64 id)/\w'.cell? ⟨w.heap.size,0,none⟩=some (.int .i64 0)) (go_keep) (fail)
     all_goals(go_wp2_with fail;go_meet)
     all_goals exact⟨w4.heap.size,rfl,(Row.new w4 _ _).drew,ay,Nat.le_refl _⟩
    case rest=>
     obtain⟨c5,rfl,cd,cW,hle⟩:=hcut;have ci:=Z cd;have lb:=Z hle;have H:=Z (f.af cW);have c3:=Z ((Nx.af cW).row R.1 R.2);have l1:Hid (fz c5=.no):=Z (f.at_.fresh hle);have jp:c5≠w.heap.size:=(fun e=>by have pp:=R.1.lt;omega);have qr:=jp.symm;clear cd cW hle T x4;have x5:=c3.1.c1;have E:Hid (cx C K i id k=eZ C (tell K1 ⟨4,0,0,id,0,0,0,0,0,0,0⟩) i id k 18446744073709551615):=Z (by rw[c2,if_neg (by decide)]);obtain⟨ad,al,am,ap,av,bi,bv,cA,cC,cL,cs⟩:=ci.BJ;go_wp2_with fail
     with_reducible refine(g1.out _ _ _ 0 H.out.at_).mono ?_
     rintro e kT ⟨rfl,l0,i6,n⟩;have cq:=Z n;have X:=((n.yk id t1 d.1).1).trans q.1;have a1:=((n.yk id t1 d.1).2 k (by rw[d.2.2.1];exact o.2.2.2.2)).trans q.2;have hex:=cf _ _ _ 0 n.at_;rw[X,a1]at hex;have a5:=Z hex;clear hex n X a1 ad al am ap av bi bv cA cC cL cs;go_wp2_with fail
     with_reducible refine a5.out.mono ?_
     rintro e ge ⟨rfl,a2,S,A,F⟩;have z:=Z (And.intro A ((H.nx.trans cq.nx).trans F));clear A F;go_wp2
     go_end0
     rw[E];exact⟨rfl,a2,S,z.1,z.2⟩
 ·have k1:0<=pc:=by omega
  have ll:pc<(ab:Int):=by omega
  have ls:decide (0<=pc)=true:=by simpa using k1
  have qb:decide (pc<(ab:Int))=true:=by simpa using ll
  have g7:C.bs[pc.toNat]?=some x:=by rw[<-cS];exact oc k1 (by rw[W];exact ll)
  obtain⟨g,io,cd,_⟩:=nb (by intro e;rw[e]at g7;cases g7);have nw:=Z cd;have go:=Z io;rw[io]at k3 J;obtain⟨m,rfl⟩:=Int.eq_ofNat_of_zero_le k1;rw[Int.toNat_natCast]at g7;obtain⟨hi,hl,hm,hn,hu,hv,hw⟩:=eU C.bs m x g7;have cl:=Z (And.intro hi (And.intro hl (And.intro hm (And.intro hn (And.intro hu (And.intro hv hw))))));obtain⟨j,eW,fb,fd,a4,fn,fr⟩:=x;try dsimp only at J
  try dsimp only at c4
  try dsimp only at cb
  have na:Hid (k<=7):=Z (by have:=(U.de Q).l.n8;omega);have i3:Hid (∀w,ae w χ L Y C K->Calls prog 137 #[(b,0),.slice (some (g,0)) ab L.Cm,.iface 287 (.agg #[(L.mb,0),.int .u64 id,j])] w (zz r (fun w'=>∃aY Y',dD χ L Y C K K1 w aY Y' w'))):=Z J;clear g7 hi hl hm hn hu hv hw cd io;rcases k2 with rfl|rfl|rfl|rfl
  have E:Hid (cx C K i id k=K1):=Z (by rw[c4,if_neg (by decide),if_neg (by decide),if_neg (by decide)]);clear h U I Q dr hb hid a3 bw c8 c1 J bx V es P cb et B O eL c0 en eA c7 c6 eS c9 W eC g5 ex cS;have ob:=True.intro
  rotate_left
  obtain⟨r5,r6,tm⟩:=cb rfl;obtain⟨t2,lw,qm,_⟩:=dP (K:=K1) (k:=k) O {K1.F (.ai id k)with pc:=wrap64 ((K1.F (.ai id k)).pc+1)};have li:=lf P c6;have n1:=Z (fun(w:World) (χ:Nat->a') (Y:Var) (h:ae w χ L Y C (K1.fA (.ai id k)))=>pT I li (by omega) (by omega) id t2 lw k (by omega) (by omega) a4 r6 (by omega) h);have mc:wrap64 a4=a4:=by unfold wrap64;omega
  have E:Hid (cx C K i id k=hr C (K1.fA (.ai id k)) id k a4):=Z (by rw[c4,if_pos rfl,mc]);clear lw qm li mc r5;clear h U I Q dr hb hid a3 bw c8 c1 J bx V es P cb et B O eL c0 en eA c7 c6 eS c9 W eC g5 ex cS;have og:=True.intro
  rotate_left
  have kb:aK ((K1.F (.ai id k)).r 0):=(P.lY c6).r 0 (by omega);obtain⟨a0,gs⟩:∃a,(K1.F (.ai id k)).r 0=a:=⟨_,rfl⟩;rw[gs]at kb;have mS:=Z gs;have cf:=Z (fun(w:World) (χ:Nat->a') (Y:Var) (h:ae w χ L Y C K1)=>l5 I P (by omega) (by omega) i c7 id t1 O k (by omega) (by omega) a0 kb h);have l':K1.top id=k:=by unfold KS.top;rw[KS.dm O];omega
  have c2:Hid (cx C K i id k=if 0<k then K1.cp id {t1 with l:=t1.l.take k}else eZ C K1 i id k a0):=Z (by rw[c4,if_neg (by decide),if_pos rfl,l',KS.dm O,gs]);have n8:=Z eC;clear gs kb l';clear h U I Q dr hb hid a3 bw c8 c1 J bx V es P cb et B O eL c0 en eA c7 c6 eS c9 W eC g5 ex cS;have ok:=True.intro
  rotate_left
  have cf:=Z (fun(w:World) (χ:Nat->a') (Y:Var) (v:Int) (h:ae w χ L Y C (tell K1 ⟨4,0,0,id,j,0,0,0,0,v,0⟩))=>l5 I (P.tell ⟨4,0,0,id,j,0,0,0,0,v,0⟩) (by omega) (by omega) i c7 id t1 O k (by omega) (by omega) 18446744073709551615 ⟨by decide,by decide⟩ h);have g1:=Z (fun(w:World) (χ:Nat->a') (Y:Var) (v:Int) (h:ae w χ L Y C K1)=>dI 4 0 0 id j 0 0 0 0 v 0 (by have:=P.out;omega) h);have c2:Hid (cx C K i id k=eZ C (tell K1 ⟨4,0,0,id,j,0,0,0,0,if j≠15/\j≠0 then dE (K1.F (.ai id k)).r ⟨j,eW,fb,fd,a4,fn,fr⟩else 0,0⟩) i id k 18446744073709551615):=Z (by rw[c4,if_neg (by decide),if_neg (by decide),if_pos rfl];try rfl);clear h U I Q dr hb hid a3 bw c8 c1 J bx V es P cb et B O eL c0 en eA c7 c6 eS c9 W eC g5 ex cS;have on:=True.intro
  rotate_left
  all_goals
   go_in
   go_wp2
   obtain⟨w1,B⟩:=nm (w.alloc (.cells #[.int .i64 0,.int .i64 0,.int .i64 0,.int .i64 0,.int .u64 0,.int .i64 0,.int .i64 0] 184));have gf:=Z (Ch.al (D:=ag) B);have g0:Hid (Row w1 w.heap.size 184 [.int .i64 0,.int .i64 0,.int .i64 0,.int .i64 0,.int .u64 0,.int .i64 0,.int .i64 0]/\χ w.heap.size=.no):=Z ⟨by rw[<-B];exact Row.new w _ _,gr.at_.fresh (Nat.le_refl _)⟩;rw[B];clear B G k3;have cm:=Z (gr.af gf);have G:=cm.at_.uu dN.1 dN.2;rw[i1]at G;have k3:=cm.at_.c3;rw[ch,go]at k3;go_quiet (fail)
   generalize g6:w1.drewN _=w2;have hF:=Z (Ch.dN (D:=ag) g6);clear g6 G k3;have i4:=Z (cm.af hF);have y:=Z ((Nx.af hF).row g0.1 g0.2);have G:=i4.at_.uu dN.1 dN.2;rw[i1]at G;have k3:=i4.at_.c3;rw[ch,go]at k3;have ck:=Z (nw.ch (gf.trans hF) (fun h=>h));have mk:=ck.cell _ _ cl.1;have mn:=ck.cell _ _ cl.2.1;have mp:=ck.cell _ _ cl.2.2.1;have ms:=ck.cell _ _ cl.2.2.2.1;have mv:=ck.cell _ _ cl.2.2.2.2.1;have mA:=ck.cell _ _ cl.2.2.2.2.2.1;have mC:=ck.cell _ _ cl.2.2.2.2.2.2;have os:=y.1.c1;have ad:=y.1.free 0;have ov:=y.1.k 1 rfl;have al:=y.1.free 1;have p1:=y.1.k 2 rfl;have am:=y.1.free 2;have p2:=y.1.k 3 rfl;have ap:=y.1.free 3;have p3:=y.1.k 4 rfl;have av:=y.1.free 4;have p8:=y.1.k 5 rfl;have bi:=y.1.free 5;have pa:=y.1.k 6 rfl;have bv:=y.1.free 6;try dsimp only at mk mn mp ms mv mA mC
   go_wp2
   go_still_tail 12,(by kernel_rfl)
   change wpList _ _ _ _ _ w2.drew;go_upto_region 3 with fail
   obtain⟨w3,he⟩:=nm (((((((((w2.setCell ⟨w.heap.size,0,none⟩ (.int .i64 j)).setCell ⟨w.heap.size,1,none⟩ (.int .i64 eW)).setCell ⟨w.heap.size,2,none⟩ (.int .i64 fb)).setCell ⟨w.heap.size,3,none⟩ (.int .i64 fd)).setCell ⟨w.heap.size,4,none⟩ (.int .u64 a4)).setCell ⟨w.heap.size,5,none⟩ (.int .i64 fn)).setCell ⟨w.heap.size,6,none⟩ (.int .i64 fr))).drew);have gk:Hid (Ch (aH w.heap.size) w2 w3):=Z (by rw[<-he];exact ay);have ce:Hid (Row w3 w.heap.size 184 [j,eW,fb,fd,.int .u64 a4,fn,fr]/\χ w.heap.size=.no):=Z ⟨by rw[<-he];exact((((((((y.1.set 0 _).set 1 _).set 2 _).set 3 _).set 4 _).set 5 _).set 6 _)).drew,y.2⟩;rw[he];have a9:=Z (i4.plain y.2 (Nat.le_refl _) gk);clear he G k3 mk mn mp ms mv mA mC os ov p1 p2 p3 p8 pa ad al am ap av bi bv;have G:=a9.at_.c3;rw[ch,go]at G;have i7:=a9.at_.gw o.1;rw[o.2.2.2.1,o.2.1]at i7;have x0:=ce.1.c1;go_wp2
   go_region_held3 (fun w'=>w'.cell? (L.mb,3)=some (.slice (some (g,0)) ab L.Cm)/\w'.cell? (tb,0)=some (.int .u64 id)/\w'.cell? ⟨w.heap.size,0,none⟩=some (.int .i64 j)) (go_keep) ((go_at_call 137;refine(i3 _ a9.at_.drew).mono ?_;rintro e w4 ⟨⟨u,rfl,k5⟩,fz,ec,cQ⟩;have f:=Z ((a9.af ay).trans (Gr.refl _) cQ);have R:=Z (((Nx.af (Ch.refl _ w3).drew).trans cQ.nx).row ce.1 ce.2);have g8:=((f.yk id t o.1).1).trans o.2.1;have g9:=((f.yk id t o.1).2 k o.2.2.2.2).trans o.2.2.1;have q:=Z (And.intro g8 g9);clear cQ k5 g8 g9;have dC:=f.at_.c3;rw[ch,go]at dC;have T:=f.at_.gw d.1;rw[d.2.1,q.1]at T;have x4:=R.1.c1))
  all_goals
   first
    |(clear ob
      go_wp2
      go_end0
      rw[E];exact⟨rfl,fz,ec,f.at_,f.nx⟩)
    |(clear og
      clear dC T x4;have x4:=R.1.k 4 rfl;have g2:Hid (aR L ec (.ai id k) b 0):=Z ⟨q.2.symm,rfl⟩;have kd:=f.at_.uu d.2.2.2.2.2 g2;have f0:=f.at_.hy d.2.2.2.2.2 g2 0;obtain⟨ro,gt⟩:=nm ((K1.F (.ai id k)).pc);rw[gt]at kd;have k4:=f.at_.qM d.2.2.2.2.2 g2 (wrap64 ((K1.F (.ai id k)).pc+1));rw[gt]at k4;have nx:=Z k4;have ni:=Z gt;clear k4 gt;go_upto_region 7 with fail
      obtain⟨s6,i5,i8⟩:=nx.out;obtain⟨r',mb⟩:=nm (w4.setCell (b,0) (.int .i64 (wrap64 (ro+1))));rw[mb]at i8⊢;have H:Hid (dD fz L ec C K1 (K1.fA (.ai id k)) w4 s6 i5 r'):=Z (by unfold KS.fA;rw[ni];exact i8);clear i8 mb kd f0 x4;have c3:=Z (H.nx.row R.1 R.2);have x4:=c3.1.k 4 rfl;have ih:=n1 _ _ _ H.at_;rw[(H.yk id t1 d.1).1,q.1,(H.yk id t1 d.1).2 k (by rw[d.2.2.1];exact o.2.2.2.2),q.2]at ih;have n2:=Z ih;clear ih;go_wp2_with fail
      with_reducible refine n2.out.mono ?_
      rintro e ge ⟨rfl,a2,S,A,F⟩;have z:=Z (And.intro A ((f.nx.trans H.nx).trans F));clear A F;go_wp2
      go_end0
      rw[E];exact⟨rfl,a2,S,z.1,z.2⟩)
    |(clear ok
      clear dC T x4;obtain⟨sl,pi,it,lo,_⟩:=f.at_.hV d.1 (by rw[d.2.2.1];exact Nat.lt_of_le_of_lt (Nat.zero_le _) o.2.2.2.2);have le:=f.at_.DB d.1;have pm:=f.at_.sf d.1 1;rw[q.1]at le pm;have ne:=Z it;have hlen:t1.l.length=k+1:=(by rw[d.2.2.1,<-n8]);rw[it,hlen]at le;have nd:=Z hlen;rw[hlen]at lo;have th:k<=pi:=(by omega);have sC:(k:Int)+1-1=(k:Int):=(by omega);have tg:(k:Int)<=8:=(by have:=na.out;omega);have sz:k<=k+1:=(by omega);clear it hlen lo;by_cases ip:0<k
      ·have qc:decide (0<(k:Int))=true:=by simpa using ip
       have ql:(0:Int)<(k:Int):=(by omega);have k0:=f.at_.FU (m:=k) d.1 ne (by rw[nd];omega);rw[q.1]at k0;have no:=Z k0;have E:Hid (cx C K i id k=K1.cp id {t1 with l:=t1.l.take k}):=Z (by rw[c2,if_pos ip]);clear k0;go_wp2
       go_end0
       rw[E];obtain⟨i5,md,_⟩:=no.out;exact⟨rfl,fz,i5,md.at_,f.nx.trans md.nx⟩
      ·have qc:decide (0<(k:Int))=false:=by simp;omega
       have ql:¬(0:Int)<(k:Int):=(by omega);have g2:Hid (aR L ec (.ai id k) b 0):=Z ⟨q.2.symm,rfl⟩;have kd:w4.cell? (b,1)=some (.int .u64 a0):=(by have:=f.at_.aA d.2.2.2.2.2 g2 0 (by omega);rw[mS]at this;exact this);have E:Hid (cx C K i id k=eZ C K1 i id k a0):=Z (by rw[c2,if_neg ip]);have hex:=cf _ _ _ f.at_;rw[q.1,q.2]at hex;have a5:=Z hex;clear hex;go_wp2_with fail
       with_reducible refine a5.out.mono ?_
       rintro e ge ⟨rfl,a2,S,A,F⟩;have z:=Z (And.intro A (f.nx.trans F));clear A F;go_wp2
       go_end0
       rw[E];exact⟨rfl,a2,S,z.1,z.2⟩)
    |(clear on
      clear dC;go_wp2
      go_cut [12] (fun p wc=>uL 82 [.int .i64 4,.int .i64 0,.int .i64 0,.int .u64 id,j,.int .u64 0,.int .u64 0,.int .u64 0,.int .u64 0,.int .u64 0,.int .u64 0] w4 p wc)
      case first=>
       have rc:=World.new_ne w4 ⟨tb,0,none⟩ T;have rd:=World.new_ne w4 ⟨w.heap.size,0,none⟩ x4;have re:tb≠w4.heap.size:=Nat.ne_of_lt (aQ T);have rg:w.heap.size≠w4.heap.size:=Nat.ne_of_lt (aQ x4);go_region_held3 (fun w'=>w'.cell? (tb,0)=some (.int .u64 id)/\w'.cell? ⟨w.heap.size,0,none⟩=some (.int .i64 j)) (go_keep) (fail)
       all_goals(go_wp2_with fail;go_meet)
       all_goals exact⟨w4.heap.size,rfl,(Row.new w4 _ _).drew,ay,Nat.le_refl _⟩
      case rest=>
       obtain⟨c5,rfl,cd,cW,hle⟩:=hcut;have ci:=Z cd;have lb:=Z hle;have H:=Z (f.af cW);have c3:=Z ((Nx.af cW).row R.1 R.2);have l1:Hid (fz c5=.no):=Z (f.at_.fresh hle);have jp:c5≠w.heap.size:=(fun e=>by have pp:=R.1.lt;omega);have qr:=jp.symm;clear cd cW hle T x4;have x5:=c3.1.c1;by_cases g4:j=15
       ·subst g4
        have E:Hid (cx C K i id k=eZ C (tell K1 ⟨4,0,0,id,15,0,0,0,0,0,0⟩) i id k 18446744073709551615):=Z (by rw[c2,if_neg (by decide)]);go_upto_region 17 with fail
        obtain⟨ad,al,am,ap,av,bi,bv,cA,cC,cL,cs⟩:=ci.BJ;go_wp2_with fail
        with_reducible refine(g1.out _ _ _ 0 H.out.at_).mono ?_
        rintro e kT ⟨rfl,l0,i6,n⟩;have cq:=Z n;have X:=((n.yk id t1 d.1).1).trans q.1;have a1:=((n.yk id t1 d.1).2 k (by rw[d.2.2.1];exact o.2.2.2.2)).trans q.2;have hex:=cf _ _ _ 0 n.at_;rw[X,a1]at hex;have a5:=Z hex;clear hex n X a1 ad al am ap av bi bv cA cC cL cs;go_wp2_with fail
        with_reducible refine a5.out.mono ?_
        rintro e ge ⟨rfl,a2,S,A,F⟩;have z:=Z (And.intro A ((H.nx.trans cq.nx).trans F));clear A F;go_wp2
        go_end0
        rw[E];exact⟨rfl,a2,S,z.1,z.2⟩
       ·by_cases gc:j=0
        ·subst gc
         have E:Hid (cx C K i id k=eZ C (tell K1 ⟨4,0,0,id,0,0,0,0,0,0,0⟩) i id k 18446744073709551615):=Z (by rw[c2,if_neg (by decide)]);go_upto_region 17 with fail
         obtain⟨ad,al,am,ap,av,bi,bv,cA,cC,cL,cs⟩:=ci.BJ;go_wp2_with fail
         with_reducible refine(g1.out _ _ _ 0 H.out.at_).mono ?_
         rintro e kT ⟨rfl,l0,i6,n⟩;have cq:=Z n;have X:=((n.yk id t1 d.1).1).trans q.1;have a1:=((n.yk id t1 d.1).2 k (by rw[d.2.2.1];exact o.2.2.2.2)).trans q.2;have hex:=cf _ _ _ 0 n.at_;rw[X,a1]at hex;have a5:=Z hex;clear hex n X a1 ad al am ap av bi bv cA cC cL cs;go_wp2_with fail
         with_reducible refine a5.out.mono ?_
         rintro e ge ⟨rfl,a2,S,A,F⟩;have z:=Z (And.intro A ((H.nx.trans cq.nx).trans F));clear A F;go_wp2
         go_end0
         rw[E];exact⟨rfl,a2,S,z.1,z.2⟩
        ·have s7:(j==15)=false:=by rw[beq_eq_false_iff_ne];exact g4
         have s8:(j !=15)=true:=(by simpa using g4);have s9:(j==0)=false:=(by rw[beq_eq_false_iff_ne];exact gc);have sb:(j !=0)=true:=(by simpa using gc);obtain⟨g3,ii⟩:∃v,dE (K1.F (.ai id k)).r ⟨j,eW,fb,fd,a4,fn,fr⟩=v:=⟨_,rfl⟩;have E:Hid (cx C K i id k=eZ C (tell K1 ⟨4,0,0,id,j,0,0,0,0,g3,0⟩) i id k 18446744073709551615):=Z (by rw[c2,if_pos ⟨g4,gc⟩,ii]);have nC:Hid (aR L ec (.ai id k) b 0):=Z ⟨q.2.symm,rfl⟩;obtain⟨tt,tr,tw,lt⟩:=H.at_.cur d.2.2.2.2.2 nC;have hB:=Z (kD b 0 (K1.F (.ai id k)).pc (K1.F (.ai id k)).r ⟨j,eW,fb,fd,a4,fn,fr⟩ wc.drew lt.fr.drew);rw[ii,xL]at hB;dsimp only at hB;clear lt ii g4 gc;obtain⟨y0,s0,s1,s2,s3,s4,s5⟩:=c3.1.c7;have pl:=ci.k 9 rfl;have pk:=ci.free 9;go_wp2
         go_region_held3 (fun w'=>w'.cell? ⟨w.heap.size,0,none⟩=some (.int .i64 j)/\w'.cell? ⟨w.heap.size,1,none⟩=some (.int .i64 eW)/\w'.cell? ⟨w.heap.size,2,none⟩=some (.int .i64 fb)/\w'.cell? ⟨w.heap.size,3,none⟩=some (.int .i64 fd)/\w'.cell? ⟨w.heap.size,4,none⟩=some (.int .u64 a4)/\w'.cell? ⟨w.heap.size,5,none⟩=some (.int .i64 fn)/\w'.cell? ⟨w.heap.size,6,none⟩=some (.int .i64 fr)) (go_keep) ((go_at_call 140;refine hB.mono ?_;rintro e kw ⟨rfl,lm⟩;have i0:Hid (Ch ag wc kw):=Z (Ch.trans ay lm);have mW:=Z ((Nx.af i0).row c3.1 c3.2);have i2:=Z (ci.ch i0 (fun h=>h));clear lm;obtain⟨hi,hl,hm,hn,hu,hv,hw⟩:=mW.1.c7;have rt:=i2.k 9 rfl;have rx:=i2.free 9))
         all_goals
          go_upto_region 17 with fail
          obtain⟨mL,hf⟩:=nm (kw.setCell (c5,9) (.int .u64 g3));have n0:Hid (Ch (aH c5) kw mL):=Z (by rw[<-hf];exact ay);have nq:Hid (Row mL c5 82 [.int .i64 4,.int .i64 0,.int .i64 0,.int .u64 id,j,.int .u64 0,.int .u64 0,.int .u64 0,.int .u64 0,.int .u64 g3,.int .u64 0]):=Z (by rw[<-hf];exact i2.set 9 _);rw[hf];clear hf hi hl hm hn hu hv hw rt rx y0 s0 s1 s2 s3 s4 s5 pl pk;have lc:=Z ((H.af i0).plain l1 (Nat.le_trans f.nx.ch.size lb) n0);obtain⟨ad,al,am,ap,av,bi,bv,cA,cC,cL,cs⟩:=nq.BJ;go_wp2_with fail
          with_reducible refine(g1.out _ _ _ g3 lc.out.at_).mono ?_
          rintro e kT ⟨rfl,l0,i6,n⟩;have cq:=Z n;have X:=((n.yk id t1 d.1).1).trans q.1;have a1:=((n.yk id t1 d.1).2 k (by rw[d.2.2.1];exact o.2.2.2.2)).trans q.2;have hex:=cf _ _ _ g3 n.at_;rw[X,a1]at hex;have a5:=Z hex;clear hex n X a1 ad al am ap av bi bv cA cC cL cs;go_wp2_with fail
          with_reducible refine a5.out.mono ?_
          rintro e ge ⟨rfl,a2,S,A,F⟩;have z:=Z (And.intro A ((lc.nx.trans cq.nx).trans F));clear A F;go_wp2
          go_end0
          rw[E];exact⟨rfl,a2,S,z.1,z.2⟩)
theorem yv{N M:Nat}(O:ow C)(A:Inv N M K)(es:N<=400000)(en:M<=400000)(i:Nat)(x:i<K.wk.length)(R:0<=K.w/\K.w<K.wk.length)(h:ae w χ L Y C K):
 Calls prog 43 #[(L.mb,0),(L.wb,i*38)] w (si (.tuple #[]) χ L C (fR C K i) w):=by
 have dN:=h.mK x;obtain⟨id,hid⟩:=nm ((K.W i).slot);rw[hid]at dN;by_cases I:id=0
 ·subst I
  have cL:=Z (Aw O A (by omega) (by omega) i x R h);have E:Hid (fR C K i=kg C K i):=Z (by unfold fR;rw[if_pos hid]);clear h A O x R hid;go_in
  go_wp2_with fail
  with_reducible refine cL.out.mono ?_
  rintro e cm ⟨rfl,a9,a0,z,G⟩;have y:=Z (And.intro z G);clear z G;go_wp2
  go_end0
  rw[E];exact⟨rfl,a9,a0,y.1,y.2⟩
 ·have et:(id==0)=false:=by rw[beq_eq_false_iff_ne];exact I
  obtain⟨t,v⟩:=A.core.k9 (KS.ha x) (by rw[hid];exact I);rw[hid]at v;have P:=A.de v;have c7:=P.l.n0;have ce:=P.l.n8;obtain⟨m,c6⟩:∃m,t.l.length=m+1:=⟨t.l.length-1,by omega⟩;have c8:K.top id=m:=by unfold KS.top;rw[KS.dm v];omega
  obtain⟨f,J⟩:∃f,t.l[m]?=some f:=⟨_,List.getElem?_eq_getElem (by omega)⟩;have U:=P.l.cg _ f J;have c2:(K.T id).l.getD m default=f:=by rw[KS.dm v,List.getD_eq_getElem?_getD,J];rfl
  have a5:=A.gA x;obtain⟨a,a3⟩:=nm ((K.W i).left);have c4:=a5.l0;have cl:=a5.l1;rw[a3]at c4 cl;have ab:Hid (fR C K i=if f.cg=false/\a=0 then dB C (cr K id) i else if f.cg then cD C (K.bj i {K.W i with left:=max (a-1) 0}) i id m else cx C (K.bj i {K.W i with left:=max (a-1) 0}) i id m):=Z (by unfold fR;rw[hid,if_neg I];dsimp only;rw[c8,c2,a3]);obtain⟨g,cap,c5,cd,c3⟩:=h.hV v c7;obtain⟨b,hb⟩:=nm (Y.fb id m);obtain⟨tb,V⟩:=nm (Y.bI id);have r:=h.DB v;have s:=c3 m (by omega);have l:=h.sg v J;have cf:=h.hN;have u:=h.Dy x;have av:=h.uq (i*38+3);have q:=h.gw v;rw[V]at r q;obtain⟨T,c1⟩:=nm t.l.length;rw[c5,c1]at r;rw[hb]at s l;rw[a3]at u;rw[P.id]at q;have ad:=fun n=>(h.drewN n).look id
  rw[v,V]at ad;dsimp only[Option.map,Option.getD,bk]at ad;have al:=h.look id;rw[v,V]at al;dsimp only[Option.map,Option.getD,bk]at al;have cb:=Z h;have k:=Z (And.intro v (And.intro V (And.intro hb (And.intro c6 P.id))));have eL:IntKind.i64.wrap ((T:Int)-1)=m:=by rw[show(T:Int)-1=m by omega];exact IntWalk.i64_in _ (by omega)
  have eA:(0:Int)<=(m:Int):=by omega
  have eC:(m:Int)<(T:Int):=by omega
  have eS:IntKind.i64.wrap (m:Int)=m:=IntWalk.i64_in _ (by omega);have ex:T<=cap:=by omega
  have c9:=(A.Et (by omega) v).1;have a1:Inv N M (K.bj i {K.W i with left:=max (a-1) 0}):=A.bj x rfl rfl ⟨a5.f,by show 0<=max (a-1) 0;omega,by show max (a-1) 0<=24;omega⟩;have a2:i<(K.bj i {K.W i with left:=max (a-1) 0}).wk.length:=by rw[bG];exact x
  have am:((K.bj i {K.W i with left:=max (a-1) 0}).W i).slot=id:=by rw[gM x];exact hid
  have ch:=Z (fun w (h:ae w χ L Y C K)=>h.wm x (max (a-1) 0));cases Q:f.cg with
  |false=>
   rw[Q]at l U ab;have dr:m%2≠1:=(by simpa using U.symm);by_cases ap:a=0
   ·subst ap
    have E:Hid (fR C K i=dB C (cr K id) i):=Z (by rw[ab,if_pos ⟨rfl,rfl⟩]);have cA:=Z (fun w (h:ae w χ L Y C K)=>fh id c9 h);have cC:=Z (fun(w:World) (χ:Nat->a') (Y:Var) (h:ae w χ L Y C (cr K id))=>iN i (by exact x) h);clear h A O x R hid v P c7 ce c6 c1 c8 J U c2 a5 a3 c5 cd c3 hb V c9 a1 a2 am Q c4 cl I;go_wp2
    go_quiet (fail)
    generalize p:World.drewN _ _=w1;have c:=Z (Ch.dN (D:=ag) p);clear p;have r:=c.k r;have s:=c.k s;have l:=c.k l;have u:=c.k u;have q:=c.k q;go_wp2
    go_region_held3 (fun w'=>w'.cell? (tb,1)=some (.slice (some (g,0)) T cap)/\w'.cell? ⟨g,m,none⟩=some (.pointer (some (b,0)))) (go_keep) (fail)
    generalize p:World.drew w1=w2;have d:Hid (Ch ag w1 w2):=Z (by rw[<-p];exact ay);clear p;have r:=d.k r;have s:=d.k s;have l:=d.k l;have u:=d.k u;have q:=d.k q;have H:=Z (cb.af (c.trans d));have X:=Z (Nx.af (χ:=χ) (c.trans d));clear ad al s cf;go_wp2_with fail
    with_reducible refine(cA.out _ H.out).mono ?_
    rintro e w3 ⟨rfl,cq,ci,j⟩;have S:=Z j;clear j r l u q;go_wp2_with fail
    with_reducible refine(cC.out _ _ _ S.out.at_).mono ?_
    rintro e w4 ⟨rfl,ec,cQ,ck⟩;have cs:=Z (And.intro ck.at_ ((X.trans S.nx).trans ck.nx));clear ck;go_wp2
    go_end0
    rw[E];exact⟨rfl,ec,cQ,cs.1,cs.2⟩
   ·have B:max (a-1) 0=a-1:=by omega
    have dC:(a==0)=false:=(by rw[beq_eq_false_iff_ne];exact ap);have cW:1<=a:=(by omega);have cS:(0:Int)<=a-1:=(by omega);have E:Hid (fR C K i=cx C (K.bj i {K.W i with left:=a-1}) i id m):=Z (by rw[ab,if_neg (by rintro⟨_,e⟩;exact ap e),if_neg (by decide),B]);have bi:=Z J;have bv:=Z Q;have a4:0<=(K.bj i {K.W i with left:=max (a-1) 0}).w/\(K.bj i {K.W i with left:=max (a-1) 0}).w<(K.bj i {K.W i with left:=max (a-1) 0}).wk.length:=(by rw[bG];exact R);have o:=(fun(w:World) (χ:Nat->a') (Y:Var) (h:ae w χ L Y C (K.bj i {K.W i with left:=max (a-1) 0}))=>sY O a1 (by omega) (by omega) i a2 id t v m (by omega) (by omega) h);rw[B]at o;have bw:=Z o;clear o a4;clear h A O x R hid v P c7 ce c6 c1 c8 J U c2 a5 a3 c5 cd c3 hb V c9 a1 a2 am Q c4 I;go_wp2
    go_quiet (fail)
    generalize p:World.drewN _ _=w1;have c:=Z (Ch.dN (D:=ag) p);clear p;have r:=c.k r;have s:=c.k s;have l:=c.k l;have u:=c.k u;have q:=c.k q;go_wp2
    go_region_held3 (fun w'=>w'.cell? (tb,1)=some (.slice (some (g,0)) T cap)/\w'.cell? ⟨g,m,none⟩=some (.pointer (some (b,0)))) (go_keep) (fail)
    generalize p:World.drew w1=w2;have d:Hid (Ch ag w1 w2):=Z (by rw[<-p];exact ay);clear p;have r:=d.k r;have s:=d.k s;have l:=d.k l;have u:=d.k u;have q:=d.k q;have H:=Z (cb.af (c.trans d));have X:=Z (Nx.af (χ:=χ) (c.trans d));clear ad al s cf;have av:=H.uq (i*38+3);have F:=ch _ H;rw[B]at F;have c0:=Z F;clear F;go_wp2_with fail
    obtain⟨cq,ci,j⟩:=c0.out;obtain⟨w3,W⟩:=nm (w2.setCell (L.wb,i*38+3) (.int .i64 (a-1)));rw[W]at j⊢;have S:=Z j;have o:=bw _ _ _ j.at_;rw[(j.yk id t k.1).1,k.2.1,(j.yk id t k.1).2 m (by rw[k.2.2.2.1];exact Nat.lt_succ_self m),k.2.2.1]at o;have bx:=Z o;have l:=j.at_.sg k.1 bi;rw[(j.yk id t k.1).2 m (by rw[k.2.2.2.1];exact Nat.lt_succ_self m),k.2.2.1,bv]at l;clear j W o r u q av;go_wp2_with fail
    with_reducible refine bx.out.mono ?_
    rintro e cm ⟨rfl,a9,a0,z,G⟩;have y:=Z (And.intro z ((X.trans S.nx).trans G));clear z G;go_wp2
    go_end0
    rw[E];exact⟨rfl,a9,a0,y.1,y.2⟩
  |true=>
   rw[Q]at l U ab;have dr:m%2=1:=(by simpa using U.symm);by_cases ap:a=0
   ·subst ap
    have B:max ((0:Int)-1) 0=0:=(by decide);have E:Hid (fR C K i=cD C (K.bj i {K.W i with left:=0}) i id m):=Z (by rw[ab,if_neg (by rintro⟨e,_⟩;cases e),if_pos rfl,B]);have bi:=Z J;have bv:=Z Q;have a4:0<=(K.bj i {K.W i with left:=max ((0:Int)-1) 0}).w/\(K.bj i {K.W i with left:=max ((0:Int)-1) 0}).w<(K.bj i {K.W i with left:=max ((0:Int)-1) 0}).wk.length:=(by rw[bG];exact R);have o:=(fun(w:World) (χ:Nat->a') (Y:Var) (h:ae w χ L Y C (K.bj i {K.W i with left:=max ((0:Int)-1) 0}))=>ld O a1 (by omega) (by omega) i a2 id t v am I (by omega) m (by omega) (by exact a4) h);rw[B]at o;have bw:=Z o;clear o a4;clear h A O x R hid v P c7 ce c6 c1 c8 J U c2 a5 a3 c5 cd c3 hb V c9 a1 a2 am Q c4 cl I;go_wp2
    go_quiet (fail)
    generalize p:World.drewN _ _=w1;have c:=Z (Ch.dN (D:=ag) p);clear p;have r:=c.k r;have s:=c.k s;have l:=c.k l;have u:=c.k u;have q:=c.k q;go_wp2
    go_region_held3 (fun w'=>w'.cell? (tb,1)=some (.slice (some (g,0)) T cap)/\w'.cell? ⟨g,m,none⟩=some (.pointer (some (b,0)))) (go_keep) (fail)
    generalize p:World.drew w1=w2;have d:Hid (Ch ag w1 w2):=Z (by rw[<-p];exact ay);clear p;have r:=d.k r;have s:=d.k s;have l:=d.k l;have u:=d.k u;have q:=d.k q;have H:=Z (cb.af (c.trans d));have X:=Z (Nx.af (χ:=χ) (c.trans d));clear ad al s cf;have av:=H.uq (i*38+3);have F:=ch _ H;rw[B]at F;have c0:=Z F;clear F;go_wp2_with fail
    obtain⟨cq,ci,j⟩:=c0.out;obtain⟨w3,W⟩:=nm (w2.setCell (L.wb,i*38+3) (.int .i64 (0)));rw[W]at j⊢;have S:=Z j;have o:=bw _ _ _ j.at_;rw[(j.yk id t k.1).1,k.2.1,(j.yk id t k.1).2 m (by rw[k.2.2.2.1];exact Nat.lt_succ_self m),k.2.2.1]at o;have bx:=Z o;have l:=j.at_.sg k.1 bi;rw[(j.yk id t k.1).2 m (by rw[k.2.2.2.1];exact Nat.lt_succ_self m),k.2.2.1,bv]at l;clear j W o r u q av;go_wp2_with fail
    with_reducible refine bx.out.mono ?_
    rintro e cm ⟨rfl,a9,a0,z,G⟩;have y:=Z (And.intro z ((X.trans S.nx).trans G));clear z G;go_wp2
    go_end0
    rw[E];exact⟨rfl,a9,a0,y.1,y.2⟩
   ·have B:max (a-1) 0=a-1:=by omega
    have dC:(a==0)=false:=(by rw[beq_eq_false_iff_ne];exact ap);have cW:1<=a:=(by omega);have cS:(0:Int)<=a-1:=(by omega);have E:Hid (fR C K i=cD C (K.bj i {K.W i with left:=a-1}) i id m):=Z (by rw[ab,if_neg (by rintro⟨e,_⟩;cases e),if_pos rfl,B]);have bi:=Z J;have bv:=Z Q;have a4:0<=(K.bj i {K.W i with left:=max (a-1) 0}).w/\(K.bj i {K.W i with left:=max (a-1) 0}).w<(K.bj i {K.W i with left:=max (a-1) 0}).wk.length:=(by rw[bG];exact R);have o:=(fun(w:World) (χ:Nat->a') (Y:Var) (h:ae w χ L Y C (K.bj i {K.W i with left:=max (a-1) 0}))=>ld O a1 (by omega) (by omega) i a2 id t v am I (by omega) m (by omega) (by exact a4) h);rw[B]at o;have bw:=Z o;clear o a4;clear h A O x R hid v P c7 ce c6 c1 c8 J U c2 a5 a3 c5 cd c3 hb V c9 a1 a2 am Q c4 I;go_wp2
    go_quiet (fail)
    generalize p:World.drewN _ _=w1;have c:=Z (Ch.dN (D:=ag) p);clear p;have r:=c.k r;have s:=c.k s;have l:=c.k l;have u:=c.k u;have q:=c.k q;go_wp2
    go_region_held3 (fun w'=>w'.cell? (tb,1)=some (.slice (some (g,0)) T cap)/\w'.cell? ⟨g,m,none⟩=some (.pointer (some (b,0)))) (go_keep) (fail)
    generalize p:World.drew w1=w2;have d:Hid (Ch ag w1 w2):=Z (by rw[<-p];exact ay);clear p;have r:=d.k r;have s:=d.k s;have l:=d.k l;have u:=d.k u;have q:=d.k q;have H:=Z (cb.af (c.trans d));have X:=Z (Nx.af (χ:=χ) (c.trans d));clear ad al s cf;have av:=H.uq (i*38+3);have F:=ch _ H;rw[B]at F;have c0:=Z F;clear F;go_wp2_with fail
    obtain⟨cq,ci,j⟩:=c0.out;obtain⟨w3,W⟩:=nm (w2.setCell (L.wb,i*38+3) (.int .i64 (a-1)));rw[W]at j⊢;have S:=Z j;have o:=bw _ _ _ j.at_;rw[(j.yk id t k.1).1,k.2.1,(j.yk id t k.1).2 m (by rw[k.2.2.2.1];exact Nat.lt_succ_self m),k.2.2.1]at o;have bx:=Z o;have l:=j.at_.sg k.1 bi;rw[(j.yk id t k.1).2 m (by rw[k.2.2.2.1];exact Nat.lt_succ_self m),k.2.2.1,bv]at l;clear j W o r u q av;go_wp2_with fail
    with_reducible refine bx.out.mono ?_
    rintro e cm ⟨rfl,a9,a0,z,G⟩;have y:=Z (And.intro z ((X.trans S.nx).trans G));clear z G;go_wp2
    go_end0
    rw[E];exact⟨rfl,a9,a0,y.1,y.2⟩
def iR(χ:Nat->a'):Nat->a':=fun i=>if χ i=.out then .no else χ i
theorem yw(χ:Nat->a')(i:Nat):iR χ i≠ .out:=by
 unfold iR;split
 ·decide
 ·assumption
theorem yx{χ:Nat->a'}{i:Nat}{k:a'}(h:χ i=k)(a:k≠ .out):iR χ i=k:=by
 unfold iR;rw[if_neg (by rw[h];exact a),h]
theorem ae.CO(h:ae w χ L Y C K):ae (w.setCell (L.mb,1020) (.slice none 0 0)) (iR χ) L {Y with ov:=.slice none 0 0} C {K with out:=[]}/\
 (w.setCell (L.mb,1020) (.slice none 0 0)).ownsRow 0 82 11 Y.ov K.out.length (K.out.flatMap Ev.cells):=by
 have n:=h.head (by simp);have v:=h.out (by simp);have c:Ch (aH L.mb) w (w.setCell (L.mb,1020) (.slice none 0 0)):=ay;have s:eT [.gL] χ χ (aH L.mb) w (w.setCell (L.mb,1020) (.slice none 0 0)):=eT.one c (fun i p=>by rw[show i=L.mb from p];simp[n.k]) h.small;have base:=h.step s (by simp);have nb:∀{i:Nat} {k:a'},χ i=k->k≠ .out->iR χ i=k:=fun d l=>yx d l
 refine⟨{
  head:=fun a=>⟨n.row.bc _ _ ?_,n.rows,nb n.k (by simp)⟩
  mem:=fun a=>⟨(base.mem (by simp)).is,nb (base.mem (by simp)).k1 (by simp),nb (base.mem (by simp)).k2 (by simp),nb (base.mem (by simp)).k3 (by simp)⟩
  al:=fun a=>⟨(base.al (by simp)).is,nb (base.al (by simp)).k1 (by simp),fun q b=>nb ((base.al (by simp)).k2 q b) (by simp)⟩
  b2:=fun a=>⟨(base.b2 (by simp)).is,nb (base.b2 (by simp)).k1 (by simp),nb (base.b2 (by simp)).k2 (by simp),nb (base.b2 (by simp)).k3 (by simp),nb (base.b2 (by simp)).k4 (by simp),fun q b=>nb ((base.b2 (by simp)).k5 q b) (by simp)⟩
  ring:=fun a=>⟨(base.ring (by simp)).is,nb (base.ring (by simp)).k1 (by simp),nb (base.ring (by simp)).k2 (by simp)⟩
  q:=fun a=>⟨(base.q (by simp)).is,(base.q (by simp)).b1,fun i p=>nb ((base.q (by simp)).k i p) (by simp)⟩
  cZ:=fun a=>⟨(base.cZ (by simp)).is,nb (base.cZ (by simp)).k1 (by simp),nb (base.cZ (by simp)).k2 (by simp)⟩
  obj:=fun a=>⟨(base.obj (by simp)).is,nb (base.obj (by simp)).k1 (by simp),nb (base.obj (by simp)).k2 (by simp)⟩
  tm:=fun a=>⟨(base.tm (by simp)).is,nb (base.tm (by simp)).k (by simp),(base.tm (by simp)).nd⟩
  th:=fun j u f a=>⟨(base.th j u f (by simp)).is,nb (base.th j u f (by simp)).k (by simp)⟩
  tl:=fun j u f a=>⟨(base.tl j u f (by simp)).is,fun q b=>nb ((base.tl j u f (by simp)).k q b) (by simp)⟩
  fr:=fun j u k r f t a=>⟨(base.fr j u k r f t (by simp)).is,nb (base.fr j u k r f t (by simp)).kf (by simp),fun q b=>nb ((base.fr j u k r f t (by simp)).kb q b) (by simp)⟩
  wk:=fun a=>⟨(base.wk (by simp)).is,nb (base.wk (by simp)).k (by simp),(base.wk (by simp)).back,fun i x m q b=>nb ((base.wk (by simp)).kb i x m q b) (by simp),(base.wk (by simp)).n⟩
  out:=fun a=>⟨⟨rfl,Or.inl ⟨rfl,rfl⟩⟩,fun q b=>by cases b⟩
  code:=fun a=>{
   m4:=(base.code (by simp)).m4
   jo:=(base.code (by simp)).jo
   m5:=(base.code (by simp)).m5
   cg:=fun m=>by obtain⟨q,d,l,o⟩:=(base.code (by simp)).cg m;exact⟨q,d,l,nb o (by simp)⟩
   prog:=fun m=>by obtain⟨q,d,l,o⟩:=(base.code (by simp)).prog m;exact⟨q,d,l,nb o (by simp)⟩
   calls:=fun m=>by obtain⟨q,j,d,l,o⟩:=(base.code (by simp)).calls m;exact⟨q,j,d,l,nb o (by simp)⟩}
  small:=fun i p=>base.small i (fun e=>p (by unfold iR;rw[e];rfl))},?_⟩
 ·have:=n3 (L:=L) (C:=C) (ov:=Y.ov) (nw:=K.wk.length) (en:=K.entries) (at_:=K.at_) (wn:=K.w) (dr:=K.draw) n.rows 13 (.slice none 0 0)
  rw[this];rfl
 ·exact ak v.is c (fun g y e=>by
   have d:=v.k g y;rw[show g=L.mb from e,n.k]at d;cases d)
def DG(x:List Ev×KS)(χ:Nat->a')(L:cU)(C:KC)(w:World)(e:Ending)(w':World):Prop:=
 ∃v aY Y',e=.returned v/\w'.ownsRow w.heap.size 82 11 v x.1.length (x.1.flatMap Ev.cells)/\(∀g,v.ownBlock=some g->aY g=.no)/\ae w' aY L Y' C x.2/\Nx χ aY w w'/\∀i,aY i≠ .out
theorem yy{w:World}{e:TypeId}{z:Nat}{v:Value}{n B:Nat}{xs:List Value}(h:w.ownsRow 0 e z v n xs)(d:∀g,v.ownBlock=some g->B<=g):w.ownsRow B e z v n xs:=by
 refine⟨h.1,?_⟩;rcases h.2 with b|⟨g,cap,cur,a,_,c⟩
 ·exact Or.inl b
 ·exact Or.inr ⟨g,cap,cur,a,d g (by rw[a];rfl),c⟩
theorem ae.sZ(h:ae w' χ L Y C K){d:Nat->a'}(n:Nx d χ w w')(k:∀i,d i≠ .out):DG (K.out,{K with out:=[]}) d L C w (.returned Y.ov) (w'.setCell (L.mb,1020) (.slice none 0 0)):=by
 obtain⟨l,m⟩:=h.CO;have j:=h.out (by simp);have o:∀g,Y.ov.ownBlock=some g->w.heap.size<=g:=fun g b=>by
  rcases Nat.lt_or_ge g w.heap.size with a|a
  ·have f:=n.same g a
   rw[j.k g b]at f;exact absurd f.symm (k g)
  ·exact a
 refine⟨Y.ov,_,_,rfl,yy m o,fun g b=>by unfold iR;rw[if_pos (j.k g b)],l,?_,yw χ⟩;have p:=h.head (by simp);refine⟨n.ch.join (E:=aH L.mb) ay (fun i c e=> ?_),fun i c=> ?_⟩
 ·have:i=L.mb:=e
  subst this;rw[<-n.same _ c,p.k];decide
 ·unfold iR
  rw[n.same i c,if_neg (k i)]
theorem CP{N:Nat}(a5:ow C)(f:Inv N 0 K)(c6:N<=300000)(kind wk draw:Int)(hd:aK draw)(ab:∀i,χ i≠ .out)(h:ae w χ L Y C K):
 Calls prog 13 #[(L.mb,0),.agg #[kind,wk,.int .u64 draw]] w (DG (ht C K kind wk draw) χ L C w):=by
 obtain⟨w0,o⟩:=nm (w.alloc (.cells #[kind,wk,.int .u64 draw] 41));have p:=Z (Ch.al (D:=ag) o);have j:=Z (h.gU p);have d:Hid (Row w0 w.heap.size 41 [kind,wk,.int .u64 draw]/\χ w.heap.size=.no):=Z ⟨by rw[<-o];exact Row.new w _ _,h.fresh (Nat.le_refl _)⟩;obtain⟨t0,t1,t2⟩:=d.1.c3;obtain⟨en,S⟩:=nm K.entries;have T:=j.at_.setAt en;have U:=T.at_.DA (-1);have bi:=U.at_.Ct draw;have V:=(T.trans (Gr.of_eq rfl) U).trans (Gr.of_eq rfl) bi;have bv:=V.at_.Ei (wrap64 (en+1));have bw:=dD.af (V.trans (Gr.of_eq rfl) bv) (Ch.refl _ _).drew;obtain⟨K1,z⟩:=nm (({K with at_:=en,w:=-1,draw:=draw,entries:=wrap64 (en+1)}:KS));have c:Inv N 0 K1:=by rw[<-z];exact⟨f.core,f.nd,f.q,f.b2,f.bI,f.mem,f.obj,hd,f.w0,f.w1,f.out⟩
 have a:Hid (dD χ L Y C K K1 w0 χ Y (((((w0.setCell (L.mb,1017) (.int .i64 en)).setCell (L.mb,1018) (.int .i64 (-1))).setCell (L.mb,1019) (.int .u64 draw)).setCell (L.mb,1016) (.int .i64 (wrap64 (en+1)))).drew)):=Z (by rw[<-z];exact bw);have a2:=j.at_.FI;rw[S]at a2;have c2:=j.at_.Hu;have c3:=j.at_.GC;have c4:=j.at_.Dv;have f1:=j.at_.fz 1016;have f2:=j.at_.fz 1017;have f3:=j.at_.fz 1018;have f4:=j.at_.fz 1019;have am:L.mb≠w.heap.size:=Nat.ne_of_lt h.GY;have c9:=am.symm;have M:K1.wk.length=K.wk.length:=by rw[<-z]
 have r:Hid (ht C K kind wk draw=((if kind=2 then hs K1 else if kind=1 then(if 0<=wk/\wk<K.wk.length then fR C {K1 with w:=wk} wk.toNat else K1)else K1).out,{(if kind=2 then hs K1 else if kind=1 then(if 0<=wk/\wk<K.wk.length then fR C {K1 with w:=wk} wk.toNat else K1)else K1)with out:=[]})):=Z (by rw[<-z,<-S];rfl);have q:=Z ab;obtain⟨s,Q⟩:=nm K.wk.length;rw[Q]at r M;have cb:s<=64:=by rw[<-Q];exact f.w1
 have u:=Z M;by_cases J:kind=2
 ·subst J
  have a1:=Z (fun w (h:ae w χ L Y C K1)=>ye (c.b2.ok (by omega)) c.b2.tick.2.1 (by have:=c.b2.tick.2.2;omega) (by have:=c.out;omega) h);have E:Hid (ht C K 2 wk draw=((hs K1).out,{hs K1 with out:=[]})):=Z (by rw[r,if_pos rfl]);go_in
  go_wp2
  try rw[o]
  go_region
  go_wp2_with fail
  obtain⟨B,k⟩:=nm ((((((w0.setCell (L.mb,1017) (.int .i64 en)).setCell (L.mb,1018) (.int .i64 (-1))).setCell (L.mb,1019) (.int .u64 draw)).setCell (L.mb,1016) (.int .i64 (wrap64 (en+1)))).drew));rw[k]at a⊢;have g:=Z (a.nx.row d.1 d.2);with_reducible refine(a1.out _ a.out.at_).mono ?_
  rintro e F ⟨rfl,ce,c0,a3⟩;have b:=Z a3;have co:=b.at_.sa;have y:=b.at_.fz 1020;go_wp2
  go_ret;rw[E];exact ae.sZ b.at_ (((Nx.af p).trans a.nx).trans b.nx) q
 ·have c8:(kind==2)=false:=by rw[beq_eq_false_iff_ne];exact J
  by_cases I:kind=1
  ·subst I
   by_cases O:0<=wk/\wk<s
   ·obtain⟨m,A⟩:=O
    obtain⟨i,rfl⟩:=Int.eq_ofNat_of_zero_le m;have al:i<K1.wk.length:=(by rw[M];omega);have a9:Inv N 0 ({K1 with w:=(i:Int)}:KS):=⟨c.core,c.nd,c.q,c.b2,c.bI,c.mem,c.obj,c.draw,c.w0,c.w1,c.out⟩;have a0:=Z (fun(w:World) (χ:Nat->a') (Y:Var) (h:ae w χ L Y C ({K1 with w:=(i:Int)}:KS))=>yv a5 a9 (by omega) (by omega) i al ⟨m,by show(i:Int)<K1.wk.length;omega⟩ h);have E:Hid (ht C K 1 i draw=((fR C {K1 with w:=(i:Int)} i).out,{fR C {K1 with w:=(i:Int)} i with out:=[]})):=Z (by rw[r,if_neg (by decide),if_pos rfl,if_pos ⟨m,A⟩];rfl);have R:decide (0<=(i:Int))=true:=(by simpa using m);have ad:decide ((i:Int)<(s:Int))=true:=(by simpa using A);go_in
    go_wp2
    try rw[o]
    go_region
    go_upto_region 7 with fail
    obtain⟨B,k⟩:=nm ((((((w0.setCell (L.mb,1017) (.int .i64 en)).setCell (L.mb,1018) (.int .i64 (-1))).setCell (L.mb,1019) (.int .u64 draw)).setCell (L.mb,1016) (.int .i64 (wrap64 (en+1)))).drew));rw[k]at a⊢;have g:=Z (a.nx.row d.1 d.2);have G:=g.1.k 1 rfl;have l:=a.at_.qH;rw[u]at l;go_quiet (fail)
    generalize t:World.drewN _ _=F;have n:=Z (Ch.dN (D:=ag) t);have b:=Z (a.af n);have H:=Z ((Nx.af n).row g.1 g.2);have G:=H.1.k 1 rfl;have l:=b.at_.GC;have c5:=b.at_.fz 1018;have ap:=b.at_.DA (i:Int);have P:=Z ap;go_upto_region 9 with fail
    obtain⟨W,av⟩:=nm (F.setCell (L.mb,1018) (.int .i64 (i:Int)));rw[av]at P⊢;have v:=P;have X:=Z (v.nx.row H.1 H.2);have G:=X.1.k 1 rfl;have l:=v.at_.qH;dsimp only at l;rw[u]at l;go_still_tail 8,(by kernel_rfl)
    change wpList _ _ _ _ _ W.drew;go_wp2_with fail
    with_reducible refine(a0.out _ _ _ v.out.at_.drew).mono ?_
    rintro e cd ⟨rfl,cf,c1,a4,bx⟩;have x:=Z (And.intro a4 ((((((Nx.af p).trans a.nx).trans (Nx.af n)).trans v.nx).trans (Nx.af (Ch.refl _ W).drew)).trans bx));have co:=x.1.sa;have y:=x.1.fz 1020;go_wp2
    go_ret;rw[E];exact ae.sZ x.1 x.2 q
   ·have E:Hid (ht C K 1 wk draw=(K1.out,{K1 with out:=[]})):=Z (by rw[r,if_neg (by decide),if_pos rfl,if_neg O])
    by_cases m:0<=wk
    ·have R:decide (0<=wk)=true:=by simpa using m
     have A:¬wk<(s:Int):=(fun e=>O ⟨m,e⟩);have ad:decide (wk<(s:Int))=false:=(by simpa using A);go_in
     go_wp2
     try rw[o]
     go_region
     go_upto_region 7 with fail
     obtain⟨B,k⟩:=nm ((((((w0.setCell (L.mb,1017) (.int .i64 en)).setCell (L.mb,1018) (.int .i64 (-1))).setCell (L.mb,1019) (.int .u64 draw)).setCell (L.mb,1016) (.int .i64 (wrap64 (en+1)))).drew));rw[k]at a⊢;have g:=Z (a.nx.row d.1 d.2);have G:=g.1.k 1 rfl;have l:=a.at_.qH;rw[u]at l;go_quiet (fail)
     generalize t:World.drewN _ _=F;have n:=Z (Ch.dN (D:=ag) t);have b:=Z (a.af n);have co:=b.at_.sa;have y:=b.at_.fz 1020;go_wp2
     go_ret;rw[E];exact ae.sZ b.at_ ((Nx.af p).trans b.nx) q
    ·have R:decide (0<=wk)=false:=by simpa using m
     go_in
     go_wp2
     try rw[o]
     go_region
     go_upto_region 7 with fail
     obtain⟨B,k⟩:=nm ((((((w0.setCell (L.mb,1017) (.int .i64 en)).setCell (L.mb,1018) (.int .i64 (-1))).setCell (L.mb,1019) (.int .u64 draw)).setCell (L.mb,1016) (.int .i64 (wrap64 (en+1)))).drew));rw[k]at a⊢;have g:=Z (a.nx.row d.1 d.2);have G:=g.1.k 1 rfl;have l:=a.at_.qH;rw[u]at l;go_quiet (fail)
     generalize t:World.drewN _ _=F;have n:=Z (Ch.dN (D:=ag) t);have b:=Z (a.af n);have co:=b.at_.sa;have y:=b.at_.fz 1020;go_wp2
     go_ret;rw[E];exact ae.sZ b.at_ ((Nx.af p).trans b.nx) q
  ·have c7:(kind==1)=false:=by rw[beq_eq_false_iff_ne];exact I
   have E:Hid (ht C K kind wk draw=(K1.out,{K1 with out:=[]})):=Z (by rw[r,if_neg J,if_neg I]);go_in
   go_wp2
   try rw[o]
   go_region
   go_upto_region 10 with fail
   obtain⟨B,k⟩:=nm ((((((w0.setCell (L.mb,1017) (.int .i64 en)).setCell (L.mb,1018) (.int .i64 (-1))).setCell (L.mb,1019) (.int .u64 draw)).setCell (L.mb,1016) (.int .i64 (wrap64 (en+1)))).drew));rw[k]at a⊢;have g:=Z (a.nx.row d.1 d.2);have co:=a.at_.sa;have y:=a.at_.fz 1020;go_wp2
   go_ret;rw[E];exact ae.sZ a.at_ ((Nx.af p).trans a.nx) q
section
variable{i n wb:Nat}{v:Value}{na wi:Int}{S:aI}
structure NM(w:World)(mb:Nat)(pre:List Value)(rows:List Int)(post:List Value):Prop where
 row:Row w mb 113 (pre++(rows.map (Value.int .i64)++post))
 n1:pre.length=7
 n2:rows.length=1000
section
variable{w w':World}{mb:Nat}{pre:List Value}{rows:List Int}{post:List Value}
theorem NM.pc(h:NM w mb pre rows post)(a:pre[i]?=some v):w.cell? (mb,i)=some v:=h.row.cell (by
 rw[List.getElem?_append_left (List.getElem?_eq_some_iff.1 a).1];exact a)
theorem NM.rc(h:NM w mb pre rows post){v:Int}(a:rows[i]?=some v):w.cell? (mb,7+i)=some (.int .i64 v):=h.row.cell (by
 have b:=(List.getElem?_eq_some_iff.1 a).1;rw[List.getElem?_append_right (by rw[h.n1];omega),h.n1,List.getElem?_append_left (by rw[List.length_map];omega),List.getElem?_map,show 7+i-7=i by omega,a];rfl)
theorem NM.qc(h:NM w mb pre rows post){j:Nat}(a:post[j]?=some v):w.cell? (mb,1007+j)=some v:=h.row.cell (by
 rw[List.getElem?_append_right (by rw[h.n1];omega),h.n1,List.getElem?_append_right (by rw[List.length_map,h.n2];omega),List.length_map,h.n2,show 1007+j-7-1000=j by omega,a])
theorem NM.fz(h:NM w mb pre rows post)(i:Nat):w.frozen? (mb,i)=false:=h.row.free i
theorem NM.lt(h:NM w mb pre rows post):mb<w.heap.size:=h.row.lt
theorem NM.ch{D:Nat->Prop}(h:NM w mb pre rows post)(c:Ch D w w')(hd:¬D mb):NM w' mb pre rows post:=⟨h.row.ch c hd,h.n1,h.n2⟩
theorem NM.alloc(h:NM w mb pre rows post)(o:Obj):NM (w.alloc o) mb pre rows post:=⟨h.row.alloc o,h.n1,h.n2⟩
theorem NM.drew(h:NM w mb pre rows post):NM w.drew mb pre rows post:=⟨h.row.drew,h.n1,h.n2⟩
theorem NM.pg(h:NM w mb pre rows post)(a:i<7)(v:Value):NM (w.setCell (mb,i) v) mb (pre.set i v) rows post:=
 ⟨h.row.bc i v (by rw[List.set_append_left _ _ (by rw[h.n1];exact a)]),by rw[List.length_set];exact h.n1,h.n2⟩
theorem NM.ax(h:NM w mb pre rows post)(a:i<1000)(v:Int):NM (w.setCell (mb,7+i) (.int .i64 v)) mb pre (rows.set i v) post:=
 ⟨h.row.bc (7+i) _ (by rw[List.set_append_right _ _ (by rw[h.n1];omega),h.n1,List.set_append_left _ _ (by rw[List.length_map,h.n2];omega),show 7+i-7=i by omega,List.map_set]),h.n1,by rw[List.length_set];exact h.n2⟩
theorem NM.km(h:NM w mb pre rows post)(j:Nat)(v:Value):NM (w.setCell (mb,1007+j) v) mb pre rows (post.set j v):=
 ⟨h.row.bc (1007+j) _ (by rw[List.set_append_right _ _ (by rw[h.n1];omega),h.n1,List.set_append_right _ _ (by rw[List.length_map,h.n2];omega),List.length_map,h.n2,show 1007+j-7-1000=j by omega]),h.n1,h.n2⟩
structure NR(pre post:List Value)(wb n:Nat)(wi na:Int):Prop where
 p8:post[8]?=some (.slice (some (wb,0)) n n)
 r5:pre[5]?=some (.int .i64 wi)
 r6:pre[6]?=some (.int .i64 na)
 n0:1<=n
 Hc:n<=64
 Hw:0<=wi
 Hd:wi<=256
 Hx:0<=na
 He:na<=256
theorem pV(h:NM w mb pre rows post)(r:NR pre post wb n wi na):Calls prog 40 #[(mb,0)] w (ez (.int .i64 (17+8*(n:Int))) w):=by
 have c:=h.qc r.p8;have a:(n:Int)<=64:=by have:=r.Hc;omega
 go_wp2
 go_ret;exact ez.mk rfl
theorem uR(h:NM w mb pre rows post)(r:NR pre post wb n wi na):Calls prog 112 #[(mb,0)] w (fun e w'=>e=.returned (.int .i64 (wi+na))/\∃n,w'=w.drewN n):=by
 have a:=h.pc r.r5;have b:=h.pc r.r6;have c:IntKind.i64.wrap (wi+na)=wi+na:=IntWalk.i64_in _ (by have:=r.Hw;have:=r.Hd;have:=r.Hx;have:=r.He;omega);go_wp2
 go_quiet (fail)
 go_wp2
 go_ret;exact⟨rfl,nq,rfl⟩
end
def oG(S:aI)(n i:Nat):aI:=
 let a:=(S.acc 1 (gv i) 0 1).2
 let b:=(a.acc 1 (IntKind.u64.wrap (gv i+1)) 0 1).2
 let c:=(b.acc 1 (IntKind.u64.wrap (gv i+2)) 0 (17+3*n+5*i)).2
 (c.acc 1 (17+3*n+5*i) 0 4).2
def mT(S:aI)(n:Nat):Nat->aI
 |0=>S
 |k+1=>oG (mT S n k) n k
def fY(tt n wi na:Nat):aI:=
 let c:=((aI.new tt).map 0 (17+8*n) 64).2
 let a:=mT c n n
 let b:=if 0<wi then(a.map (17+8*n) wi 64).2 else a
 if 0<na then(b.map (17+8*n+wi) na 32).2 else b
theorem yz(h:b8 S)(n i:Nat)(e:n<=64)(d:i<=64):b8 (oG S n i):=by
 unfold oG;have a:=(h.acc 1 (gv i) 0 1 ⟨by decide,by decide⟩).1;have b:=(a.acc 1 (IntKind.u64.wrap (gv i+1)) 0 1 ⟨by decide,by decide⟩).1;have c:=(b.acc 1 (IntKind.u64.wrap (gv i+2)) 0 (17+3*n+5*i) ⟨by omega,by omega⟩).1;exact(c.acc 1 (17+3*n+5*i) 0 4 ⟨by decide,by decide⟩).1
theorem te(h:b8 S)(n:Nat)(a:n<=64):∀k,k<=64->b8 (mT S n k)
 |0,_=>h
 |k+1,b=>yz (te h n a k (by omega)) n k a (by omega)
theorem b8.new{tt:Nat}(h:tt<=65536):b8 (aI.new tt):=⟨fun x a=>by
 have:x=0:=(List.mem_replicate.1 a).2;rw[this];exact bE,by show(List.replicate tt (0:Int)).length<=_;rw[List.length_replicate];exact h⟩
theorem yA(tt n wi na:Nat)(c:tt<=65536)(b:n<=64):b8 (fY tt n wi na):=by
 unfold fY;have d:=(b8.new c).map 0 (17+8*n) 64;have a:=te d n b n b;dsimp only;split
 ·split
  ·exact(a.map _ _ _).map _ _ _
  ·exact a.map _ _ _
 ·split
  ·exact a.map _ _ _
  ·exact a
end
def ER(mb:Nat)(pre:List Value)(rows:List Int)(post:List Value)(tt n wi na:Nat)(w:World)(e:Ending)(w':World):Prop:=
 e=.returned (.tuple #[])/\∃m c d a,NM w' mb pre rows ((post.set 0 (bk m)).set 1 (bk a))/\aO w' m c d (fY tt n wi na)/\aT w' a m (.slice none 0 0) ⟨17+8*n+wi+na,tt,[]⟩/\w.heap.size<=m/\w.heap.size<=c/\w.heap.size<=d/\w.heap.size<=a/\Ch (aH mb) w w'
theorem Ch.q8{D E:Nat->Prop}{w a b:World}(c:Ch D w a)(d:Ch E a b)(g:∀i,i<w.heap.size->E i->D i):Ch D w b:=
 ⟨d.os.trans c.os,d.tape.trans c.tape,d.output.trans c.output,Nat.le_trans c.size d.size,fun j f hd=>(d.same j (Nat.lt_of_lt_of_le f c.size) (fun e=>hd (g j f e))).trans (c.same j f hd)⟩
theorem AO(mb:Nat)(pre:List Value)(rows:List Int)(post:List Value)(wb n wi na tt:Nat)(w:World)(h:NM w mb pre rows post)(r:NR pre post wb n wi na)(go:2<=post.length)(gs:1<=tt)(dN:tt<=65536)(gr:17+8*n+wi+na<=tt):
 Calls prog 67 #[(mb,0),.int .i64 tt] w (ER mb pre rows post tt n wi na w):=by
 have H:=Z h;have P:=Z r;have i3:=Z dN;have i1:=Z go;have i2:=Z gr;have et:=Z (uP tt gs dN w);have k1:(n:Int)<=64:=by have:=r.Hc;omega
 have k4:(wi:Int)<=256:=r.Hd;have k2:(na:Int)<=256:=r.He;obtain⟨gt,ge⟩:∃gt,post[0]?=some gt:=⟨_,List.getElem?_eq_getElem (by omega)⟩;obtain⟨p1,gf⟩:∃p1,post[1]?=some p1:=⟨_,List.getElem?_eq_getElem (by omega)⟩;have fr:=Z ge;have fz:=Z gf;clear h r gs dN go gr ge gf;go_in
 go_wp2_with (first|(go_at_call 108;refine et.mono ?_;rintro e w1 ⟨m,c,d,rfl,gc,g7,g5,g6,cC⟩;have fn:=Z gc;have en:=Z cC;have b:Hid (w.heap.size<=m/\w.heap.size<=c/\w.heap.size<=d):=Z ⟨g7,g5,g6⟩;have bx:=Z (H.ch cC id);have u:=bx.fz 1007;have it:=bx.qc fr;clear gc g7 g5 g6 cC))
 obtain⟨w2,bv⟩:=nm (w1.setCell (mb,1007) (.pointer (some (m,0))));have C:Hid (mb<w.heap.size):=Z H.lt;have a5:Hid (NM w2 mb pre rows (post.set 0 (bk m))):=Z (by rw[<-bv];exact bx.km 0 _);have i5:Hid (aO w2 m c d (aI.new tt)):=Z (by
  have l:∀x,w.heap.size<=x->¬aH mb x:=fun x c5 e=>by have s:x=mb:=e;have D:=C.out;omega
  rw[<-bv];exact fn.ch (((Ch.refl (aH mb) w1).only 1007 _)) (l m b.1) (l c b.2.1) (l d b.2.2))
 have Q:Hid (Ch (aH mb) w w2):=Z (by rw[<-bv];exact(en.af).only _ _);have B:Hid (NR pre (post.set 0 (bk m)) wb n wi na):=Z ⟨by rw[List.getElem?_set_ne (by decide)];exact P.p8,P.r5,P.r6,P.n0,P.Hc,P.Hw,P.Hd,P.Hx,P.He⟩;have al:Hid ((post.set 0 (bk m))[1]?=some p1):=Z (by rw[List.getElem?_set_ne (by decide)];exact fz);have v:Hid ((post.set 0 (bk m))[0]?=some (bk m)):=Z (by rw[List.getElem?_set_self (by have:=i1.out;omega)]);obtain⟨ec,dC⟩:∃p,post.set 0 (bk m)=p:=⟨_,rfl⟩;rw[bv];rw[dC]at a5 B al v;have c2:=Z dC;clear bv dC u it bx fn en et fr fz;have hw:=Z (fun w (h:NM w mb pre rows ec)=>pV h B);have g4:=a5.qc B.p8;go_region_held3 (fun w'=>w'.cell? (mb,1015)=some (.slice (some (wb,0)) n n)) (go_keep) ((go_at_call 40;refine(hw _ a5.drew).mono ?_;rintro e f ⟨rfl,rfl⟩))
 all_goals
  have u:w2.cell? (mb,1007)=some (.pointer (some (m,0))):=a5.qc v;have cW:=fo m c d (aI.new tt) 0 (17+8*n) (by omega) (by omega) w2.drew i5.drew;rw[show((17+8*n:Nat):Int)=17+8*(n:Int)by omega,show((0:Nat):Int)=0 from rfl]at cW;obtain⟨am,g8⟩:=nm (((aI.new tt).map 0 (17+8*n) 64).2);have ad:=Z g8;have hF:=Z cW;clear cW g8 g4;go_wp2_with (go_at_call 109;refine hF.mono ?_;rintro e w3 ⟨⟨y,rfl,t⟩,cS,cL⟩;rw[ad]at cS;have i6:=Z cS;have hd:=Z cL;have es:=Z (a5.drew.ch cL (fun e=>by have s:=b.out;have D:=C.out;rcases e with e|e|e<;>omega));have g4:=es.qc B.p8;clear cS cL t u)
  go_loopg [34] (n+1) (fun gk i wr=>∃k:Nat,k<=n/\gk=n-k+1/\i=.int .i64 k/\Hid (aO wr m c d (mT am n k))/\Hid (NM wr mb pre rows ec)/\Hid (Ch (dL m c d) w2.drew wr))
  case atStart=>exact⟨0,by omega,by omega,rfl,i6,es,hd⟩
  case round=>
   obtain⟨k,jp,rfl,rfl,U,N,Y⟩:=hrel;by_cases k0:k<n
   ·have ii:(k:Int)<n:=by omega
    obtain⟨S,W⟩:=nm (mT am n k);have a0:=Z W;rw[W]at U;have u:wr.cell? (mb,1007)=some (.pointer (some (m,0))):=N.qc v;have c1:=Z (fun w=>lS k (by omega) (by omega) (.pointer (some (mb,0))) w);have cA:aK (gv k):=bO _;obtain⟨a1,cQ⟩:=nm (gv k);rw[cQ]at c1 cA;have hB:=Z cQ;have i4:=Z cA;have g9:Hid (aK (17+3*(n:Int)+5*(k:Int))):=Z ⟨by omega,by omega⟩;have k3:IntKind.i64.wrap (3*(n:Int))=3*n:=IntWalk.i64_in _ (by omega);clear W cQ cA;go_wp2_with fail
    have eS:=Z (eB m c d S a1 1 i4 ⟨by decide,by decide⟩ wr.drew U.drew);obtain⟨g0,cl⟩:∃x,(S.acc 1 a1 0 1).2=x:=⟨_,rfl⟩;rw[cl]at eS;have hm:=Z cl;clear cl;refine wp_region_still_tail 7 (by kernel_rfl) (by kernel_rfl) ?_;simp only[List.take_succ_cons,List.take_zero,List.drop_succ_cons,List.drop_zero]
    repeat still_step
    still_call (b5 (c1 _))
    repeat still_step
    try refine wpStill_nil ?_
    change wpList _ _ _ _ _ wr.drew;go_wp2_with (go_at_call 110;(with_reducible refine eS.out.mono ?_);rintro e c8 ⟨⟨y,rfl,t⟩,j,a⟩;have i7:=Z j;have he:Hid (Ch (dL m c d) w2.drew c8):=Z ((Y.out.drew).trans (a.mono (fun i K=>K.elim Or.inl (fun e=>Or.inr (Or.inl e)))));have ex:=Z (NM.ch (N.out.drew) a (fun e=>by have s:=b.out;have D:=C.out;rcases e with e|e<;>omega));have u:c8.cell? (mb,1007)=some (.pointer (some (m,0))):=ex.out.qc v.out;clear j a t)
    have eW:=Z (eB m c d g0 (IntKind.u64.wrap (a1+1)) 1 (bO _) ⟨by decide,by decide⟩ c8.drew i7.drew);obtain⟨g1,cm⟩:∃x,(g0.acc 1 (IntKind.u64.wrap (a1+1)) 0 1).2=x:=⟨_,rfl⟩;rw[cm]at eW;have hn:=Z cm;clear cm;refine wp_region_still_tail 8 (by kernel_rfl) (by kernel_rfl) ?_;simp only[List.take_succ_cons,List.take_zero,List.drop_succ_cons,List.drop_zero]
    repeat still_step
    still_call (b5 (c1 _))
    repeat still_step
    try refine wpStill_nil ?_
    change wpList _ _ _ _ _ c8.drew;go_wp2_with (go_at_call 110;(with_reducible refine eW.out.mono ?_);rintro e c9 ⟨⟨y,rfl,t⟩,j,a⟩;have i8:=Z j;have hf:Hid (Ch (dL m c d) w2.drew c9):=Z ((he.out.drew).trans (a.mono (fun i K=>K.elim Or.inl (fun e=>Or.inr (Or.inl e)))));have eA:=Z (NM.ch (ex.out.drew) a (fun e=>by have s:=b.out;have D:=C.out;rcases e with e|e<;>omega));have u:c9.cell? (mb,1007)=some (.pointer (some (m,0))):=eA.out.qc v.out;clear j a t)
    have fb:=Z (eB m c d g1 (IntKind.u64.wrap (a1+2)) (17+3*(n:Int)+5*(k:Int)) (bO _) g9 c9.drew i8.drew);obtain⟨g2,cq⟩:∃x,(g1.acc 1 (IntKind.u64.wrap (a1+2)) 0 (17+3*(n:Int)+5*(k:Int))).2=x:=⟨_,rfl⟩;rw[cq]at fb;have hu:=Z cq;clear cq;refine wp_region_still_tail 9 (by kernel_rfl) (by kernel_rfl) ?_;simp only[List.take_succ_cons,List.take_zero,List.drop_succ_cons,List.drop_zero]
    repeat still_step
    still_call (b5 (c1 _))
    repeat still_step
    try refine wpStill_nil ?_
    change wpList _ _ _ _ _ c9.drew;go_wp2_with (go_at_call 110;(with_reducible refine fb.out.mono ?_);rintro e wc ⟨⟨y,rfl,t⟩,j,a⟩;have i9:=Z j;have hi:Hid (Ch (dL m c d) w2.drew wc):=Z ((hf.out.drew).trans (a.mono (fun i K=>K.elim Or.inl (fun e=>Or.inr (Or.inl e)))));have eC:=Z (NM.ch (eA.out.drew) a (fun e=>by have s:=b.out;have D:=C.out;rcases e with e|e<;>omega));have u:wc.cell? (mb,1007)=some (.pointer (some (m,0))):=eC.out.qc v.out;clear j a t)
    have fd:=Z (eB m c d g2 (17+3*(n:Int)+5*(k:Int)) 4 g9 ⟨by decide,by decide⟩ wc i9);obtain⟨g3,cs⟩:∃x,(g2.acc 1 (17+3*(n:Int)+5*(k:Int)) 0 4).2=x:=⟨_,rfl⟩;rw[cs]at fd;have hv:=Z cs;clear cs;go_wp2_with (go_at_call 110;(with_reducible refine fd.out.mono ?_);rintro e hb ⟨⟨y,rfl,t⟩,j,a⟩;have ih:=Z j;have hl:Hid (Ch (dL m c d) w2.drew hb):=Z ((hi.out).trans (a.mono (fun i K=>K.elim Or.inl (fun e=>Or.inr (Or.inl e)))));have eL:=Z (NM.ch (eC.out) a (fun e=>by have s:=b.out;have D:=C.out;rcases e with e|e<;>omega));have u:hb.cell? (mb,1007)=some (.pointer (some (m,0))):=eL.out.qc v.out;clear j a t)
    go_roundg (n-k)
    case measure=>omega
    case rel=>exact⟨k+1,by omega,by omega,by go_num,Z (by
     have e:mT am n (k+1)=g3:=by
      show oG (mT am n k) n k=g3
      rw[a0];unfold oG;dsimp only;rw[hB,hm,hn,hu,hv]
     rw[e];exact ih),eL,hl⟩
   ·have ii:¬(k:Int)<n:=by omega
    have io:k=n:=(by omega);subst io;obtain⟨S,W⟩:=nm (mT am k k);have a0:=Z W;rw[W]at U;clear W;have u:wr.cell? (mb,1007)=some (.pointer (some (m,0))):=N.qc v;have c6:=N.pc B.r5;have c7:=N.pc B.r6;have c0:=Z (fun w (h:NM w mb pre rows ec)=>uR h B);have k5:IntKind.i64.wrap (17+8*(k:Int)+((wi:Int)+(na:Int)))=17+8*(k:Int)+((wi:Int)+(na:Int)):=IntWalk.i64_in _ (by omega);have a9:=Z (q6 m (17+8*k+(wi+na)) tt (by have:=i2.out;omega) (by have:=i3.out;omega));rw[show((17+8*k+(wi+na):Nat):Int)=17+8*(k:Int)+((wi:Int)+na)by omega]at a9;by_cases c4:0<wi
    ·have ip:(0:Int)<(wi:Int):=by omega
     by_cases bi:0<na
     ·have dr:(0:Int)<(na:Int):=by omega
      have F:=fo m c d S (17+8*k) wi (by omega) (by omega) wr.drew U.drew;rw[show((17+8*k:Nat):Int)=17+8*(k:Int)by omega]at F;obtain⟨c3,av⟩:∃x,(S.map (17+8*k) wi 64).2=x:=⟨_,rfl⟩;have a4:=Z av;have ab:=Z F;clear av F;go_wp2_with fail
      refine wp_region_still_tail 10 (by kernel_rfl) (by kernel_rfl) ?_;simp only[List.take_succ_cons,List.take_zero,List.drop_succ_cons,List.drop_zero]
      repeat still_step
      try refine wpStill_nil ?_
      change wpList _ _ _ _ _ wr.drew;go_wp2_with (go_at_call 109;(with_reducible refine ab.out.mono ?_);rintro e M ⟨⟨y,rfl,t⟩,j,a⟩;rw[a4.out]at j;have ce:=Z j;have bw:Hid (Ch (dL m c d) w2.drew M):=Z ((Y.out.drew).trans a);have O:=Z (NM.ch (N.out.drew) a (fun e=>by have s:=b.out;have D:=C.out;rcases e with e|e|e<;>omega));have u:M.cell? (mb,1007)=some (.pointer (some (m,0))):=O.out.qc v.out;have c6:=O.out.pc B.out.r5;have c7:=O.out.pc B.out.r6;clear j a t)
      have cb:=kB m c d c3 (17+8*k+wi) na (by omega) (by omega) M.drew ce.drew;rw[show((17+8*k+wi:Nat):Int)=17+8*(k:Int)+(wi:Int)by omega]at cb;obtain⟨cf,ap⟩:∃x,(c3.map (17+8*k+wi) na 32).2=x:=⟨_,rfl⟩;have a3:=Z ap;have i0:=Z cb;clear ap cb;go_wp2_with fail
      refine wp_region_still_tail 16 (by kernel_rfl) (by kernel_rfl) ?_;simp only[List.take_succ_cons,List.take_zero,List.drop_succ_cons,List.drop_zero]
      repeat still_step
      try refine wpStill_nil ?_
      change wpList _ _ _ _ _ M.drew;go_wp2_with (go_at_call 109;(with_reducible refine i0.out.mono ?_);rintro e wn ⟨⟨y,rfl,t⟩,j,a⟩;rw[a3.out]at j;have cd:=Z j;have a2:Hid (Ch (dL m c d) w2.drew wn):=Z ((bw.out.drew).trans a);have G:=Z (NM.ch (O.out.drew) a (fun e=>by have s:=b.out;have D:=C.out;rcases e with e|e|e<;>omega));have u:wn.cell? (mb,1007)=some (.pointer (some (m,0))):=G.out.qc v.out;have c6:=G.out.pc B.out.r5;have c7:=G.out.pc B.out.r6;clear j a t)
      have T:=Z (c0 wn.drew G.drew);go_region_held3 (fun w'=>w'.cell? (mb,1007)=some (.pointer (some (m,0)))) (first|go_keep|exact(World.cell?_setCell_other _ _ _ _ (by simp)).trans V) (first|(go_at_call 112;refine T.out.mono ?_;rintro e f ⟨rfl,nq,L⟩;have z:Hid (Ch ag wn f):=Z (by rw[L];exact ay);have ch:f.cell? (mb,1007)=some (.pointer (some (m,0))):=z.out.k u;clear L)|(go_at_call 111;(with_reducible refine(a9.out _).mono ?_);rintro e q ⟨rfl,I,J⟩;have R:=Z I;have A:Hid (Ch ag wn q):=Z (z.out.trans J);have o:=Z (G.out.ch A.out id);have V:q.cell? (mb,1007)=some (.pointer (some (m,0))):=o.out.qc v.out;have ci:=o.out.qc al.out;have ck:=o.out.fz 1008;clear I J))
      all_goals
       go_wp2
       go_end0
       have l:∀x,w.heap.size<=x->¬aH mb x:=(fun x c5 e=>by have s:x=mb:=e;have D:=C.out;omega);have E:w.heap.size<=f.heap.size:=Nat.le_trans Q.size (Nat.le_trans (show w2.heap.size<=wn.heap.size from a2.out.size) z.size);have a:Ch (aH mb) q (q.setCell (mb,1008) (.pointer (some (f.heap.size,0)))):=ay;refine⟨rfl,m,c,d,f.heap.size,?_,?_,?_,b.1,b.2.1,b.2.2,E,?_⟩
       ·have:=o.km 1 (bk f.heap.size)
        rw[<-c2]at this;exact this
       ·have e:fY tt k wi na=cf:=by unfold fY;dsimp only;rw[ad,a0,if_pos c4,if_pos bi,a4,a3]
        rw[e];exact(cd.ch A id id id).ch a (l m b.1) (l c b.2.1) (l d b.2.2)
       ·rw[show 17+8*k+wi+na=17+8*k+(wi+na)by omega]
        exact R.ch a (l _ E) (fun g X=>by cases X)
       ·refine((Q.drew.q8 ((a2)) ?_).trans (A.af)).trans a
        intro i K e;have s:=b.out;rcases e with e|e|e<;>omega
     ·have dr:decide ((0:Int)<(na:Int))=false:=decide_eq_false (by omega)
      have F:=fo m c d S (17+8*k) wi (by omega) (by omega) wr.drew U.drew;rw[show((17+8*k:Nat):Int)=17+8*(k:Int)by omega]at F;obtain⟨c3,av⟩:∃x,(S.map (17+8*k) wi 64).2=x:=⟨_,rfl⟩;have a4:=Z av;have ab:=Z F;clear av F;go_wp2_with fail
      refine wp_region_still_tail 10 (by kernel_rfl) (by kernel_rfl) ?_;simp only[List.take_succ_cons,List.take_zero,List.drop_succ_cons,List.drop_zero]
      repeat still_step
      try refine wpStill_nil ?_
      change wpList _ _ _ _ _ wr.drew;go_wp2_with (go_at_call 109;(with_reducible refine ab.out.mono ?_);rintro e M ⟨⟨y,rfl,t⟩,j,a⟩;rw[a4.out]at j;have ce:=Z j;have bw:Hid (Ch (dL m c d) w2.drew M):=Z ((Y.out.drew).trans a);have O:=Z (NM.ch (N.out.drew) a (fun e=>by have s:=b.out;have D:=C.out;rcases e with e|e|e<;>omega));have u:M.cell? (mb,1007)=some (.pointer (some (m,0))):=O.out.qc v.out;have c6:=O.out.pc B.out.r5;have c7:=O.out.pc B.out.r6;clear j a t)
      go_wp2
      try(any_goals (exfalso;omega))
      have T:=Z (c0 M.drew O.drew);go_region_held3 (fun w'=>w'.cell? (mb,1007)=some (.pointer (some (m,0)))) (first|go_keep|exact(World.cell?_setCell_other _ _ _ _ (by simp)).trans V) (first|(go_at_call 112;refine T.out.mono ?_;rintro e f ⟨rfl,nq,L⟩;have z:Hid (Ch ag M f):=Z (by rw[L];exact ay);have ch:f.cell? (mb,1007)=some (.pointer (some (m,0))):=z.out.k u;clear L)|(go_at_call 111;(with_reducible refine(a9.out _).mono ?_);rintro e q ⟨rfl,I,J⟩;have R:=Z I;have A:Hid (Ch ag M q):=Z (z.out.trans J);have o:=Z (O.out.ch A.out id);have V:q.cell? (mb,1007)=some (.pointer (some (m,0))):=o.out.qc v.out;have ci:=o.out.qc al.out;have ck:=o.out.fz 1008;clear I J))
      all_goals
       go_wp2
       go_end0
       have l:∀x,w.heap.size<=x->¬aH mb x:=(fun x c5 e=>by have s:x=mb:=e;have D:=C.out;omega);have E:w.heap.size<=f.heap.size:=Nat.le_trans Q.size (Nat.le_trans (show w2.heap.size<=M.heap.size from bw.out.size) z.size);have a:Ch (aH mb) q (q.setCell (mb,1008) (.pointer (some (f.heap.size,0)))):=ay;refine⟨rfl,m,c,d,f.heap.size,?_,?_,?_,b.1,b.2.1,b.2.2,E,?_⟩
       ·have:=o.km 1 (bk f.heap.size)
        rw[<-c2]at this;exact this
       ·have e:fY tt k wi na=c3:=by unfold fY;dsimp only;rw[ad,a0,if_pos c4,if_neg bi,a4]
        rw[e];exact(ce.ch A id id id).ch a (l m b.1) (l c b.2.1) (l d b.2.2)
       ·rw[show 17+8*k+wi+na=17+8*k+(wi+na)by omega]
        exact R.ch a (l _ E) (fun g X=>by cases X)
       ·refine((Q.drew.q8 ((bw)) ?_).trans (A.af)).trans a
        intro i K e;have s:=b.out;rcases e with e|e|e<;>omega
    ·have ip:¬0<(wi:Int):=by omega
     by_cases bi:0<na
     ·have dr:(0:Int)<(na:Int):=by omega
      have F:=kB m c d S (17+8*k+wi) na (by omega) (by omega) wr.drew U.drew;rw[show((17+8*k+wi:Nat):Int)=17+8*(k:Int)+(wi:Int)by omega]at F;obtain⟨cf,ap⟩:∃x,(S.map (17+8*k+wi) na 32).2=x:=⟨_,rfl⟩;have a3:=Z ap;have ab:=Z F;clear ap F;go_wp2_with fail
      refine wp_region_still_tail 16 (by kernel_rfl) (by kernel_rfl) ?_;simp only[List.take_succ_cons,List.take_zero,List.drop_succ_cons,List.drop_zero]
      repeat still_step
      try refine wpStill_nil ?_
      change wpList _ _ _ _ _ wr.drew;go_wp2_with (go_at_call 109;(with_reducible refine ab.out.mono ?_);rintro e wn ⟨⟨y,rfl,t⟩,j,a⟩;rw[a3.out]at j;have cd:=Z j;have a2:Hid (Ch (dL m c d) w2.drew wn):=Z ((Y.out.drew).trans a);have G:=Z (NM.ch (N.out.drew) a (fun e=>by have s:=b.out;have D:=C.out;rcases e with e|e|e<;>omega));have u:wn.cell? (mb,1007)=some (.pointer (some (m,0))):=G.out.qc v.out;have c6:=G.out.pc B.out.r5;have c7:=G.out.pc B.out.r6;clear j a t)
      have T:=Z (c0 wn.drew G.drew);go_region_held3 (fun w'=>w'.cell? (mb,1007)=some (.pointer (some (m,0)))) (first|go_keep|exact(World.cell?_setCell_other _ _ _ _ (by simp)).trans V) (first|(go_at_call 112;refine T.out.mono ?_;rintro e f ⟨rfl,nq,L⟩;have z:Hid (Ch ag wn f):=Z (by rw[L];exact ay);have ch:f.cell? (mb,1007)=some (.pointer (some (m,0))):=z.out.k u;clear L)|(go_at_call 111;(with_reducible refine(a9.out _).mono ?_);rintro e q ⟨rfl,I,J⟩;have R:=Z I;have A:Hid (Ch ag wn q):=Z (z.out.trans J);have o:=Z (G.out.ch A.out id);have V:q.cell? (mb,1007)=some (.pointer (some (m,0))):=o.out.qc v.out;have ci:=o.out.qc al.out;have ck:=o.out.fz 1008;clear I J))
      all_goals
       go_wp2
       go_end0
       have l:∀x,w.heap.size<=x->¬aH mb x:=(fun x c5 e=>by have s:x=mb:=e;have D:=C.out;omega);have E:w.heap.size<=f.heap.size:=Nat.le_trans Q.size (Nat.le_trans (show w2.heap.size<=wn.heap.size from a2.out.size) z.size);have a:Ch (aH mb) q (q.setCell (mb,1008) (.pointer (some (f.heap.size,0)))):=ay;refine⟨rfl,m,c,d,f.heap.size,?_,?_,?_,b.1,b.2.1,b.2.2,E,?_⟩
       ·have:=o.km 1 (bk f.heap.size)
        rw[<-c2]at this;exact this
       ·have e:fY tt k wi na=cf:=by unfold fY;dsimp only;rw[ad,a0,if_neg c4,if_pos bi,a3]
        rw[e];exact(cd.ch A id id id).ch a (l m b.1) (l c b.2.1) (l d b.2.2)
       ·rw[show 17+8*k+wi+na=17+8*k+(wi+na)by omega]
        exact R.ch a (l _ E) (fun g X=>by cases X)
       ·refine((Q.drew.q8 ((a2)) ?_).trans (A.af)).trans a
        intro i K e;have s:=b.out;rcases e with e|e|e<;>omega
     ·have dr:decide ((0:Int)<(na:Int))=false:=decide_eq_false (by omega)
      go_wp2
      try(any_goals (exfalso;omega))
      have T:=Z (c0 wr.drew N.drew);go_region_held3 (fun w'=>w'.cell? (mb,1007)=some (.pointer (some (m,0)))) (first|go_keep|exact(World.cell?_setCell_other _ _ _ _ (by simp)).trans V) (first|(go_at_call 112;refine T.out.mono ?_;rintro e f ⟨rfl,nq,L⟩;have z:Hid (Ch ag wr f):=Z (by rw[L];exact ay);have ch:f.cell? (mb,1007)=some (.pointer (some (m,0))):=z.out.k u;clear L)|(go_at_call 111;(with_reducible refine(a9.out _).mono ?_);rintro e q ⟨rfl,I,J⟩;have R:=Z I;have A:Hid (Ch ag wr q):=Z (z.out.trans J);have o:=Z (N.out.ch A.out id);have V:q.cell? (mb,1007)=some (.pointer (some (m,0))):=o.out.qc v.out;have ci:=o.out.qc al.out;have ck:=o.out.fz 1008;clear I J))
      all_goals
       go_wp2
       go_end0
       have l:∀x,w.heap.size<=x->¬aH mb x:=(fun x c5 e=>by have s:x=mb:=e;have D:=C.out;omega);have E:w.heap.size<=f.heap.size:=Nat.le_trans Q.size (Nat.le_trans (show w2.heap.size<=wr.heap.size from Y.out.size) z.size);have a:Ch (aH mb) q (q.setCell (mb,1008) (.pointer (some (f.heap.size,0)))):=ay;refine⟨rfl,m,c,d,f.heap.size,?_,?_,?_,b.1,b.2.1,b.2.2,E,?_⟩
       ·have:=o.km 1 (bk f.heap.size)
        rw[<-c2]at this;exact this
       ·have e:fY tt k wi na=S:=by unfold fY;dsimp only;rw[ad,a0,if_neg c4,if_neg bi]
        rw[e];exact(U.ch A id id id).ch a (l m b.1) (l c b.2.1) (l d b.2.2)
       ·rw[show 17+8*k+wi+na=17+8*k+(wi+na)by omega]
        exact R.ch a (l _ E) (fun g X=>by cases X)
       ·refine((Q.drew.q8 ((Y)) ?_).trans (A.af)).trans a
        intro i K e;have s:=b.out;rcases e with e|e|e<;>omega
variable{W:World}{B qm rg tm:Nat}
def aC.new(loop:Int):aC:=⟨0,0,false,0,⟨loop,DE,[]⟩⟩
def kp(C:KC)(n tt:Nat):KS where
 mem:=fY tt n C.wide.toNat C.narrow.toNat
 blocks:=⟨17+8*n+C.wide.toNat+C.narrow.toNat,tt,[]⟩
 clock:=aN.new
 ring:=[]
 q:=List.replicate 8 []
 table:=List.replicate 64 aF.zero
 cT:=List.replicate 64 bq.zero
 ai:=[]
 wk:=List.replicate n (aC.new C.loop)
 entries:=0
 at_:=0
 w:=0
 draw:=0
 out:=[]
def hY(C:KC)(n tt:Nat):KS:=
 let x:=bQ (kp C n tt) C.entry 0
 {x.2 with ring:=(hG x.2.ring x.1).2}
def CR(rg:Nat)(i:Nat)(t:TypeId):a':=
 if t=113 then .gL else if t=310 then .mem else if t=39 then(if i=rg then .ring else .mem)else if t=5 then .mem else if t=314 then .al
 else if t=226 then .b2 else if t=307 then .b2 else if t=229 then .ring else if t=214 then .q else if t=217 then .q
 else if t=208 then .cZ else if t=210 then .cZ else if t=235 then .obj else if t=237 then .obj else if t=120 then .wk
 else if t=184 then .code else if t=158 then .code else .no
def hZ(W:World)(B rg tm qm:Nat)(i:Nat):a':=
 if i<B then .no else match W.heap[i]? with
 |some (.cells _ t _)=>CR rg i t
 |some (.map _ _)=>if i=tm then .tm else if i=qm then .q else .b2
 |_=> .no
theorem bF{l:List Value}(h:Row W b t l)(hb:B<=b){k:a'}(a:CR rg b t=k):hZ W B rg tm qm b=k:=by
 unfold hZ;rw[if_neg (by omega),show W.heap[b]?=some (.cells l.toArray t (0,0))from h];exact a
theorem iS{α:Type}{q:IntKind}{enc:α->Value}{l:List (Int×α)}(h:bS W b q enc l)(hb:B<=b){k:a'}(d:(if b=tm then a'.tm else if b=qm then a'.q else a'.b2)=k):hZ W B rg tm qm b=k:=by
 obtain⟨e,c,a,_⟩:=h;unfold hZ;rw[if_neg (by omega),a];exact d
theorem pW{i:Nat}(h:hZ W B rg tm qm i≠ .no):B<=i/\i<W.heap.size:=by
 unfold hZ at h;split at h
 ·exact absurd rfl h
 ·refine⟨by omega,?_⟩
  rcases Nat.lt_or_ge i W.heap.size with a|a
  ·exact a
  ·rw[Array.getElem?_eq_none a]at h;exact absurd rfl h
theorem CS{p:Prop} [Decidable p]{a b:a'}(c:a≠ .out)(d:b≠ .out):(if p then a else b)≠ .out:=by
 split
 ·exact c
 ·exact d
theorem AP(rg i:Nat)(t:TypeId):CR rg i t≠ .out:=by
 unfold CR
 repeat' (refine CS ?_ ?_)
 all_goals(intro h;cases h)
theorem uS(i:Nat):hZ W B rg tm qm i≠ .out:=by
 unfold hZ;split
 ·intro h;cases h
 ·split
  ·exact AP _ _ _
  ·split
   ·intro h;cases h
   ·split
    ·intro h;cases h
    ·intro h;cases h
  ·intro h;cases h
theorem uT(n:Nat)(x:aC)(v:Value):(dj (List.replicate n x) (fun _=>v)).flatMap (fun y=>y.1.cells y.2)=(List.replicate n x).flatMap fun y=>y.cells v:=by
 unfold dj;rw[List.flatMap_map];have:∀(l:List aC) (k:Nat),(l.zipIdx k).flatMap (fun a=>a.1.cells v)=l.flatMap fun y=>y.cells v:=by
  intro l
  induction l with
  |nil=>intro k;rfl
  |cons a l ih=>intro k;rw[List.zipIdx_cons,List.flatMap_cons,List.flatMap_cons,ih]
 exact this _ 0
def l7(mb m c d a k l n o s rg qb r qm tb u p q tm wb e h f i g j:Nat):cU:=
 ⟨mb,m,c,d,a,k,l,n,o,s,rg,qb,r,qm,tb,u,p,q,tm,wb,some ⟨e,0,none⟩,h,some ⟨f,0,none⟩,i,some ⟨g,0,none⟩,j⟩
def newVar:Var:=⟨.slice none 0 0,.slice none 0 0,.slice none 0 0,List.replicate 8 [],fun _=>0,fun _=> .slice none 0 0,fun _ _=>0,fun _ _=> .slice none 0 0,fun _=> .slice none 0 0⟩
theorem wA{g:Nat}{l:List be}{c:List Value}(h:Row W g t (b4 l++c)):fN W g l:=⟨h.lt,fun j u a=>h.cell (by rw[List.getElem?_append_left (List.getElem?_eq_some_iff.1 a).1];exact a)⟩
theorem uU{mb m c d u w y a e F qb E tb G A D wb o J p K r L:Nat}{C:KC}{n tt:Nat}{am a3 ap:List Value}(ab:n<=64)
 (P:NM W mb (kV C (l7 mb m c d u w y a e F rg qb E qm tb G A D tm wb o J p K r L)) C.rows (hx (l7 mb m c d u w y a e F rg qb E qm tb G A D tm wb o J p K r L) (.slice none 0 0) n 0 0 0 0))
 (M:aO W m c d (kp C n tt).mem) (X:aT W u m (.slice none 0 0) (kp C n tt).blocks) (z:aX W w y a e (.slice none 0 0) aN.new) (Z:eP W F rg []) (N:iE W qb E qm (List.replicate 8 []))
 (S:aW W tb G (List.replicate 64 aF.zero)) (R:bP W A D (List.replicate 64 bq.zero)) (a0:bS (α:=Nat) W tm .u64 bk []) (a1:Row W wb 120 ((List.replicate n (aC.new C.loop)).flatMap fun x=>x.cells (.slice none 0 0)))
 (T:Row W o 184 (b4 C.dH++am)) (U:Row W p 158 (C.calls.flatMap bB.cells++a3)) (V:Row W r 184 (b4 C.bs++ap)) (k1:C.dH.length<=J) (k2:C.calls.length<=K) (k3:C.bs.length<=L)
 (av:c≠rg) (bi:a≠tm) (bv:e≠tm) (bw:a≠qm) (bx:e≠qm) (c0:qm≠tm)
 (a4:B<=mb) (H:B<=m/\B<=c/\B<=d/\B<=u) (I:B<=w/\B<=y/\B<=a/\B<=e) (v:B<=F/\B<=rg/\B<=qb/\B<=E/\B<=qm) (l:B<=tb/\B<=G/\B<=A/\B<=D/\B<=tm/\B<=wb) (O:B<=o/\B<=p/\B<=r):
 ae W (hZ W B rg tm qm) (l7 mb m c d u w y a e F rg qb E qm tb G A D tm wb o J p K r L) newVar C (kp C n tt) where
 head:=fun _=>⟨by
  have:=P.row;show Row W mb _ (cG _ (.slice none 0 0) C (List.replicate n (aC.new C.loop)).length 0 0 0 0)
  rw[List.length_replicate];exact this,P.n2,bF P.row a4 rfl⟩
 mem:=fun _=>⟨M,bF M.head H.1 rfl,bF M.cells H.2.1 (by show(if c=rg then a'.ring else a'.mem)=_;rw[if_neg av]),bF M.width H.2.2.1 rfl⟩
 al:=fun _=>⟨X,bF X.head H.2.2.2 rfl,fun g j=>by cases j⟩
 b2:=fun _=>⟨z,bF z.head I.1 rfl,bF z.heap.head I.2.1 rfl,iS z.heap.map I.2.2.1 (by rw[if_neg bi,if_neg bw]),iS z.fl I.2.2.2 (by rw[if_neg bv,if_neg bx]),fun g j=>by cases j⟩
 ring:=fun _=>by
  obtain⟨cs,fr,Y,_⟩:=id Z;exact⟨Z,bF Y.head v.1 rfl,bF Y.rows v.2.1 (by show(if rg=rg then a'.ring else a'.mem)=_;rw[if_pos rfl])⟩
 q:=fun _=>⟨N,rfl,fun i Q=>by
  rcases Q with rfl|rfl|rfl|⟨s,ad,_⟩
  ·exact bF N.head v.2.2.1 rfl
  ·exact bF N.ends v.2.2.2.1 rfl
  ·obtain⟨c1,a9,_⟩:=N.map
   exact iS a9 v.2.2.2.2 (by rw[if_neg c0,if_pos rfl])
  ·have:s∈(List.replicate 8 ([]:List Sl)).flatten:=ad
   simp at this⟩
 cZ:=fun _=>⟨S,bF S.head l.1 rfl,bF S.rows l.2.1 rfl⟩
 obj:=fun _=>⟨R,bF R.head l.2.2.1 rfl,bF R.rows l.2.2.2.1 rfl⟩
 tm:=fun _=>⟨a0,iS a0 l.2.2.2.2.1 (by rw[if_pos rfl]),List.nodup_nil⟩
 th:=fun id t h=>by cases h
 tl:=fun id t h=>by cases h
 fr:=fun id t k f h=>by cases h
 wk:=fun _=>⟨by
  show Row W wb _ ((dj (List.replicate n (aC.new C.loop)) fun _=> .slice none 0 0).flatMap fun x=>x.1.cells x.2)
  rw[uT];exact a1,bF a1 l.2.2.2.2.2 rfl,fun i x a2=>by
  have a5:x∈List.replicate n (aC.new C.loop):=List.mem_of_getElem? a2;rw[(List.mem_replicate.1 a5).2];exact cv.nil _,fun i x a2 g j=>(by cases j),by show(List.replicate n (aC.new C.loop)).length<=64;rw[List.length_replicate];exact ab⟩
 out:=fun _=>⟨⟨rfl,Or.inl ⟨rfl,rfl⟩⟩,fun g j=>by cases j⟩
 code:=fun _=>{
  m4:=k1
  jo:=k2
  m5:=k3
  cg:=fun _=>⟨o,rfl,wA T,bF T O.1 rfl⟩
  prog:=fun _=>⟨r,rfl,wA V,bF V O.2.2 rfl⟩
  calls:=fun _=>⟨p,a3,rfl,U,bF U O.2.1 rfl⟩}
 small:=fun i Q=>(pW Q).2
theorem AQ(K:KS)(p r:Int):(bQ K p r).2.out=K.out:=by
 unfold bQ;split
 ·rfl
 ·dsimp only
  split
  ·rfl
  ·rfl
theorem ES(C:KC)(n tt:Nat):(hY C n tt).entries=0/\(hY C n tt).clock.now=0/\(hY C n tt).wk.length=n/\(hY C n tt).out=[]:=by
 have f:=qD (kp C n tt) C.entry 0;refine⟨f.Ea,f.now,?_,AQ _ _ _⟩;have h:(kp C n tt).wk.length=n:=List.length_replicate;exact f.wl.trans h
def ET(w:World)(e:Ending)(w':World):Prop:=e=.returned (.bool true)/\Ch ag w w'
section
open Go.ChangeAt Go.ChangeShapes Go.WideShapes
variable{W W':World}{v:Value}
theorem own:ownKnob prog.godebug=none:=by kernel_rfl
theorem Ga{H:Type}{enc:TypeId×Value->H}{a:Assume}{C:Checked}{os:Os}{f:FuncId}{b:Func}{s:ChangeSpec}{conds:List PathCond}{apart fresh handsOn again:Bool}{X:World->Array Value->Prop}
 (l:∀(w w':World) (args:Array Value),w.heap=w'.heap->X w args->X w' args)
 (own:ownKnob C.prog.godebug=none) (started:os.Started) (B:C.prog.inits.idxOf? f=none) (n:C.prog.funcs[f]?=some b)
 (witness:∃(w:World) (tape:Tape) (i:Input),w.os=os/\(w.forCall tape i).Shaped C.prog/\i.vars=[]/\Input.okWide C.prog (w.forCall tape i) .any w.heap.size f i/\
  ((s.pre enc C.prog b conds apart (w.forCall tape i).memory i.args/\X (w.forCall tape i).memory i.args)/\sizedMet enc C.prog b (OpenSpec.ofChange s) apart (w.forCall tape i).memory i.args)/\a.holds C.prog (lone (Frame.enter C.prog f i.args .normal) [] (w.forCall tape i)))
 (h:∀(W:World) (base:Nat) (args:Array Value) (c d:List (DataW H)) (before:List MemPlace),
  (∀(j:Nat) t v,b.params[j]?=some t->args[j]?=some v->Value.okWide C.prog W .any base t v)->
  DataW.Whole enc C.prog b.params.toList s.vars apart W args.toList c d before->
  (DataW.weightsEach C.prog (b.params.toList++s.plain.varTypes C.prog) (c++d)).all (·<=reachBytes)=true->X W args->W.ShapedOpen C.prog->
  Calls C.prog f args W fun e W'=>∃v,e=.returned v/\s.post enc C.prog b apart fresh handsOn again W args v W'):
 ReturnsInHanded a C os f .any (fun w args=>(s.pre enc C.prog b conds apart w args/\X w args)/\sizedMet enc C.prog b (OpenSpec.ofChange s) apart w args) (s.post enc C.prog b apart fresh handsOn again):=by
 refine returnsInHanded_of_calls own started B witness ?_;intro w tape i _ u _ p r _;obtain⟨_,_,_,k,o,_,_,_,_,x⟩:=p;have e:k=b:=Option.some.inj (o.symm.trans n);subst e;obtain⟨⟨⟨c,d,before,g,D⟩,z⟩,A⟩:=r;have y:=DataW.Whole.of_heap (w':=w.forCall tape i) (by rfl) g;refine(h (w.forCall tape i) w.heap.size i.args c d before x y (A.weights g) (l _ _ _ (by rfl) z) u).mono fun e W' ⟨v,m,q⟩=> ?_
 subst m;exact ChangeSpec.post_blind q
theorem yB{H:Type}{enc:TypeId×Value->H}{P:Program}{f:Func}{s:ChangeSpec}{apart fresh handsOn again:Bool}{args:Array Value}{d e:List (DataW H)}{before pa pv:List MemPlace}
 (h:DataW.Whole enc P f.params.toList s.vars apart W args.toList d e before)
 (m:∀(b:Nat) (c:Nat->Bool) (hd:Bool),DataW.TrodAll enc P W' b c hd f.resultTypes.toList (v.resultList f.resultTypes.size) (s.fn H (d++e)).results [])
 (i:∀c:Nat->Bool,(∀p∈before,c p.block=true)->DataW.TrodAll enc P W' 0 c true f.params.toList args.toList (s.fn H (d++e)).args pa)
 (n:∀c:Nat->Bool,(∀p∈before,c p.block=true)->DataW.TrodVars enc P W' c s.vars (s.fn H (d++e)).vars pv)
 (g:before=pa++pv) (hb:Below W.heap.size W W')
 (u:∀(j:Nat) (t:TypeId) (r:Value),f.resultTypes[j]?=some t->(v.resultList f.resultTypes.size)[j]?=some r->Value.okWide P W' .any 0 t r):
 s.post enc P f apart fresh handsOn again W args v W':=by
 have l:∀p∈before,p.block<W.heap.size:=fun p a=>h.lt p a
 have hold:∀p∈before,(fun b=>decide (b<W.heap.size)) p.block=true:=fun p a=>by simpa using l p a
 refine⟨d,e,before,[],pa,pv,h,m _ _ _,i _ hold,n _ hold,World.keptBut_mono (fun p a=>⟨a,?_⟩) (hb.frame (·∈before)),fun _=> ?_⟩
 ·rw[g,List.mem_append]at a
  exact Or.inr a
 ·obtain⟨_,_,_,_,_,w,q⟩:=h
  refine⟨u,_,_,([]++pa)++pv,⟨[]++pa,pv,trodAll_append (i _ (fun _ _=>rfl)) (m _ _ _),n _ (fun _ _=>rfl),rfl,?_,?_⟩,?_⟩
  ·intro b off a
   have k:MemPlace.cell b off∈before:=(by rw[g];simpa using a);rw[hb.frozen (l _ k)];exact w b off k
  ·intro o
   have:=q o;rw[g]at this;simpa using this
  ·intro p a _
   rw[g];simpa using a
noncomputable def pX (os:Os):World:=World.doorLaid prog 60 os
theorem EU.et:prog.globalNamed "errors.errorType" =some 0:=by kernel_rfl
theorem EU.rt:(prog.cutTypes.find? (·.1== "internal/reflectlite.rtype")).map (·.2)=some 390:=by kernel_rfl
theorem EU.EV:((List.range 446).filter fun t=>prog.rowNamed t [101,114,114,111,114])=[85]:=by kernel_rfl
theorem EU.size:prog.types.size=446:=by kernel_rfl
def AR:List (String×DataW Unit):=[("errors.errorType",Rows.laid_errors_errorType)]
theorem oH(h:laidMetH prog AR W):W.cell? (0,0)=some (.iface 390 (.agg #[(4,85)])):=by
 have g:laidMet prog [] W/\handlesMet prog [("errors.errorType",Rows.laid_errors_errorType)] W:=h;obtain⟨name,u,ty,c,d,e,f,a⟩:=g.2 _ (List.mem_singleton.2 rfl);have en:name=[101,114,114,111,114]:=(Option.some.inj c).symm;subst en;obtain rfl:=Option.some.inj (EU.rt.symm.trans d);have b:ty∈(List.range 446).filter fun t=>prog.rowNamed t [101,114,114,111,114]:=List.mem_filter.2 ⟨List.mem_range.2 (by rw[<-EU.size];exact e),f⟩
 rw[EU.EV]at b;obtain rfl:=List.mem_singleton.1 b;have i:typeHandle prog 85=.pointer (some (4,85)):=by kernel_rfl
 rw[i]at a;simpa using World.var?_cell EU.et a 0
theorem CT(os:Os)(args:Array Value):laidMetH prog AR ((pX os).forCall (fun _ _=>0) ⟨#[],args,[]⟩).memory:=
 laidMetH_of_parts3 (fuel:=8) (laidMet_of_run' 8 (by kernel_rfl) (by kernel_rfl)) (by kernel_rfl) (by kernel_rfl)
theorem AS:laidOutB prog=true:=by kernel_rfl
theorem l8{H:Type}{enc:TypeId×Value->H}{T:TypeId}{d:DataW H}{a:List MemPlace}(e:prog.readableRec T=true)(f:T<prog.types.size)
 (h:DataW.Trod enc prog W 0 (fun _=>true) true T v d a) (hb:Below W.heap.size W W') (c:∀x∈a,x.block<W.heap.size) {b:Nat->Bool} (g:∀p∈a,b p.block=true):DataW.Trod enc prog W' 0 b true T v d a:=
 WideElems.Trod_stays AS e f h (fun x i=>hb.same (c x i)) g
end
def Gd(w:World)(B:Nat)(v:Value)(l:List be)(loop:Int)(calls:List bB):Prop:=
 ∃vc vk,v=.agg #[vc,loop,vk]/\w.ownsRow B 184 7 vc l.length (l.flatMap dn)/\w.ownsRow B 158 6 vk calls.length (calls.flatMap bB.cells)
def oS(l:List be)(loop:Int)(calls:List bB)(w:World)(e:Ending)(w':World):Prop:=∃v,e=.returned v/\Gd w' w.heap.size v l loop calls/\Ch ag w w'
def jE:List be×List (ByteArray×Int):=(iV ⟨#[108,111,111,112,58,10,105,106,116,32,114,49,10,114,117,110,32,114,49,10,106,109,112,32,108,111,111,112,10,121,105,101,108,100,58,10,121,108,100,10,102,105,110,10]⟩).getD ([],[])
theorem yJ:iV ⟨#[108,111,111,112,58,10,105,106,116,32,114,49,10,114,117,110,32,114,49,10,106,109,112,32,108,111,111,112,10,121,105,101,108,100,58,10,121,108,100,10,102,105,110,10]⟩=some jE:=by kernel_rfl
theorem mY{w:World}{g B n:Nat}{e:TypeId}{s:Nat}{xs:List Value}(h:Row w g e xs)(a:xs.length=n*s)(c:n<=1000000000)(b:B<=g):w.ownsRow B e s (.slice (some (g,0)) n n) n xs:=
 ⟨a,Or.inr ⟨g,n,xs.toArray,rfl,b,h,Nat.le_refl _,by unfold maxLen;omega,by simpa using a,by simp[<-a]⟩⟩
theorem yK(w:World):Calls prog 38 #[] w (oS jE.1 0 [⟨6,3,0,0,0,0⟩] w):=by
 have x:=Z (fun w=>me _ _ yJ w);go_in
 go_wp2_with fail
 obtain⟨w0,f⟩:=nm (w.alloc (.cells #[.slice none 0 0,.int .i64 0,.slice none 0 0] 90));obtain⟨a,j⟩:=nm w.heap.size;have z:Hid (Row w0 a 90 [.slice none 0 0,.int .i64 0,.slice none 0 0]):=Z (by rw[<-f,<-j];exact Row.new _ _ _);have q:=Z (Ch.al (D:=ag) f);have y:Hid (w0.heap.size=a+1):=Z (by rw[<-f,<-j];simp);have B:=Z j;rw[f,j];refine(x _).mono ?_;rintro e w1 ⟨vc,vl,rfl,o,J,p⟩;have l:=Z o;have s:=Z p;obtain⟨ac,d,rfl⟩:=au o;have b:=Z (z.ch p id);obtain⟨y0,N,O⟩:=b.c3;have f0:=b.free 0;have f1:=b.free 1;have f2:=b.free 2;have K:a<w1.heap.size:=b.lt;obtain⟨c,n⟩:=nm jE.1.length;rw[n];have u:=Z n;go_wp2
 obtain⟨w3,h⟩:=nm ((((w1.setCell (a,0) (.slice ac c d)).setCell (a,1) (.int .i64 0)).setCell (a,2) (.slice (some (w1.heap.size,0)) 1 1)).alloc (.cells #[.int .i64 6,.int .i64 3,.int .i64 0,.int .i64 0,.int .i64 0,.int .i64 0] 158));rw[h];have k:Ch (aH a) w1 w3:=by rw[<-h];exact ay
 have A:Row w3 a 90 [.slice ac c d,.int .i64 0,.slice (some (w1.heap.size,0)) 1 1]:=by rw[<-h];exact(((b.set 0 _).set 1 _).set 2 _).alloc _
 have t:Row w3 w1.heap.size 158 [.int .i64 6,.int .i64 3,.int .i64 0,.int .i64 0,.int .i64 0,.int .i64 0]:=by
  rw[<-h];have r:=Row.new (((w1.setCell (a,0) (.slice ac c d)).setCell (a,1) (.int .i64 0)).setCell (a,2) (.slice (some (w1.heap.size,0)) 1 1)) #[.int .i64 6,.int .i64 3,.int .i64 0,.int .i64 0,.int .i64 0,.int .i64 0] 158;simpa using r
 obtain⟨F,G,H⟩:=A.c3;refine bodyPost_ret (v:=.agg #[.slice ac c d,.int .i64 0,.slice (some (w1.heap.size,0)) 1 1]) ?_ rfl ?_
 ·simp[results,Tryz.f38,go_sem,F,G,H]
 ·have L:=y.out
  have M:=B.out;refine⟨_,rfl,⟨_,_,rfl,?_,?_⟩,?_⟩
  ·have m:=ak l k (fun g E e=>by have C:g=a:=e;have:=(bW l E).1;omega)
   rw[u]at m⊢;exact dU m (by omega)
  ·exact mY t rfl (by decide) (by have:=b.lt;omega)
  ·exact(q.trans s).fresh k (fun i I e=>by have C:i=a:=e;omega)
theorem C3(id:Int):eH (List.replicate 64 aF.zero) id=none:=by
 unfold eH;rw[List.getElem?_replicate];split
 ·rfl
 ·rename_i r h
  split at h
  ·cases h;rfl
  ·cases h
theorem tx(n:Nat)(loop:Int)(id:Int)(h:id≠0):iO (List.replicate n (aC.new loop)) id=0:=by
 unfold iO;rw[List.countP_eq_zero];intro x a;rw[(List.mem_replicate.1 a).2];show¬((0:Int)==id)=true
 rw[beq_iff_eq];exact fun e=>h e.symm
theorem A1(n:Nat)(loop:Int)(id:Int)(h:id≠0):qR (List.replicate n (aC.new loop)) id=0:=by
 unfold qR;rw[List.countP_eq_zero];intro x a;rw[(List.mem_replicate.1 a).2];show¬((0:Int)==id)=true
 rw[beq_iff_eq];exact fun e=>h e.symm
theorem wL(n:Nat)(loop:Int)(id:Int)(h:id≠0):ev (List.replicate n (aC.new loop)) [] id=0:=by
 unfold ev;rw[tx n loop id h,A1 n loop id h];rfl
theorem wM(C:KC)(n tt:Nat)(g:1<=n)(f:n<=64)(c:tt<=65536)(b:17+8*n+C.wide.toNat+C.narrow.toNat<=tt):Inv 0 0 (kp C n tt) where
 core:={
  cZ:=⟨List.length_replicate,fun p r a=>by
   have k:r∈List.replicate 64 aF.zero:=List.mem_of_getElem? a;rw[(List.mem_replicate.1 k).2];exact⟨by decide,by decide,fun e=>(by cases e),⟨by decide,by decide⟩,⟨by decide,by decide⟩⟩⟩
  al:=fun id r b=>by
   have:=C3 id;rw[show eH (kp C n tt).table id=none from this]at b;cases b
  ai:=fun id t h=>by cases h
  one:=fun id h=>by show ev (List.replicate n (aC.new C.loop)) [] id<=1;rw[wL n _ id h];omega
  sH:=fun id h a=>by
   have:ev (List.replicate n (aC.new C.loop)) [] id=0:=wL n _ id h;have i:0<ev (List.replicate n (aC.new C.loop)) [] id:=a;omega
  slt:=fun id h a=>by
   have:iO (List.replicate n (aC.new C.loop)) id=0:=tx n _ id h;have i:0<iO (List.replicate n (aC.new C.loop)) id:=a;omega
  wk:=fun x d=>by
   rw[(List.mem_replicate.1 (show x∈List.replicate n (aC.new C.loop)from d)).2];exact⟨⟨fun j _=>bE,by show([]:List Int).length<=8;decide⟩,Int.le_refl 0,show(0:Int)<=24 by decide⟩}
 nd:=List.nodup_nil
 q:=⟨fun s l=>by
  have:s∈(List.replicate 8 ([]:List fQ)).flatten:=l;simp at this,Nat.le_refl _⟩
 b2:=⟨ah.D2,Nat.le_refl _,fun t c=>(by cases c),bE⟩
 bI:=⟨by show 17+8*n+C.wide.toNat+C.narrow.toNat<=70000;omega,by show tt<=70000;omega,fun x d=>(by cases d),Nat.le_refl _⟩
 mem:=yA tt n _ _ c f
 obj:=fun r b=>by
  rw[(List.mem_replicate.1 (show r∈List.replicate 64 bq.zero from b)).2];exact bE
 draw:=bE
 w0:=by show 1<=(List.replicate n (aC.new C.loop)).length;rw[List.length_replicate];exact g
 w1:=by show(List.replicate n (aC.new C.loop)).length<=64;rw[List.length_replicate];exact f
 out:=Nat.le_refl _
def A2(w:World)(e:Ending)(w':World):Prop:=(∃v,e=.returned (.tuple #[.pointer none,v])/\ar v)/\Ch ag w w'
theorem ve(n tt:Int)(l:List be)(j:Option Addr)(lc:Nat)(loop:Int)(calls:List bB)(f:Option Addr)(m:Nat)(p:List be)(pa:Option Addr)(pc:Nat)(en wi na:Int)
 (M:l.length<=lc) (O:p.length<=pc) (J:calls.length<=100000) (w:World) (L:l≠[]->∃g,j=some ⟨g,0,none⟩/\fN w g l) (N:p≠[]->∃g,pa=some ⟨g,0,none⟩/\fN w g p)
 (K:calls≠[]->∃g C,f=some ⟨g,0,none⟩/\Row w g 158 (calls.flatMap bB.cells++C))
 (d:¬(1<=n/\n<=64/\1<=tt/\tt<=65536/\fG l loop calls=true/\eQ p en wi na=true))
 (I:w.cell? (0,0)=some (.iface 390 (.agg #[(4,85)]))):
 Calls prog 34 #[.agg #[n,tt],.agg #[.slice j l.length lc,loop,.slice f calls.length m],.agg #[.slice pa p.length pc,en,wi,na]] w (A2 w):=by
 obtain⟨w1,r⟩:=nm (((w.alloc (.cells #[n,tt] 35)).alloc (.cells #[.slice j l.length lc,loop,.slice f calls.length m] 90)).alloc (.cells #[.slice pa p.length pc,en,wi,na] 77));have a:Hid (Ch ag w w1):=Z (by rw[<-r];exact ay);have Q:Hid (Row w1 w.heap.size 35 [n,tt]):=Z (by rw[<-r];exact((Row.new w _ _).alloc _).alloc _);have E:Hid (Row w1 (w.heap.size+1) 90 [.slice j l.length lc,loop,.slice f calls.length m]):=Z (by
  rw[<-r];have:=Row.new (w.alloc (.cells #[n,tt] 35)) #[.slice j l.length lc,loop,.slice f calls.length m] 90;rw[World.size_alloc]at this;exact this.alloc _)
 have o:Hid (Row w1 (w.heap.size+2) 77 [.slice pa p.length pc,en,wi,na]):=Z (by
  rw[<-r];have:=Row.new ((w.alloc (.cells #[n,tt] 35)).alloc (.cells #[.slice j l.length lc,loop,.slice f calls.length m] 90)) #[.slice pa p.length pc,en,wi,na] 77;rw[World.size_alloc,World.size_alloc]at this;exact this)
 have u:Hid (w1.cell? (0,0)=some (.iface 390 (.agg #[(4,85)]))):=Z (a.k I);have k:=mQ l j lc loop calls f m M J w1 (fun h=>by obtain⟨g,e,q⟩:=L h;exact⟨g,e,q.ch a id⟩) (fun h=>by obtain⟨g,C,e,q⟩:=K h;exact⟨g,C,e,q.ch a id⟩) u;obtain⟨R,A⟩:∃b,fG l loop calls=b:=⟨_,rfl⟩;obtain⟨F,B⟩:∃b,eQ p en wi na=b:=⟨_,rfl⟩;rw[A]at k;have k:=Z k;have D:Hid (∀w2,Ch ag w1 w2->Calls prog 61 #[.agg #[.slice pa p.length pc,en,wi,na]] w2 (tc F w2)):=Z (fun w2 G=>by
  have:=mR p pa pc en wi na O w2 (fun h=>by obtain⟨g,e,q⟩:=N h;exact⟨g,e,(q.ch a id).ch G id⟩) ((G.cell (aQ u) id).trans u)
  rwa [B]at this)
 rw[A,B]at d;obtain⟨U,x⟩:=mn l.length;obtain⟨T,v⟩:=mn calls.length;obtain⟨V,z⟩:=mn p.length;rw[<-x,<-v]at E k;rw[<-z]at o D;rw[<-x,<-v,<-z]at r⊢;obtain⟨Y,a0⟩:=Q.c2;obtain⟨t10,t11,t12⟩:=E.c3;clear x v z M O J L N K I A B;by_cases i1:n<1
 ·clear d
  go_in
  go_wp2_with (go_at_call 59;refine(fg _ _ _ _).mono ?_;rintro e w' ⟨rfl,rfl⟩)
  go_ret2;exact⟨⟨_,rfl,ar.mk _ _⟩,a.alloc _⟩
 by_cases i2:64<n
 ·clear d
  go_in
  go_wp2_with (go_at_call 59;refine(fg _ _ _ _).mono ?_;rintro e w' ⟨rfl,rfl⟩)
  go_ret2;exact⟨⟨_,rfl,ar.mk _ _⟩,a.alloc _⟩
 by_cases W:tt<1
 ·clear d
  go_in
  go_wp2_with (go_at_call 59;refine(fg _ _ _ _).mono ?_;rintro e w' ⟨rfl,rfl⟩)
  go_ret2;exact⟨⟨_,rfl,ar.mk _ _⟩,a.alloc _⟩
 by_cases X:65536<tt
 ·clear d
  go_in
  go_wp2_with (go_at_call 59;refine(fg _ _ _ _).mono ?_;rintro e w' ⟨rfl,rfl⟩)
  go_ret2;exact⟨⟨_,rfl,ar.mk _ _⟩,a.alloc _⟩
 cases R
 ·clear d
  go_in
  go_wp2_with (first|(go_at_call 60;refine k.mono ?_;rintro e w2 ⟨⟨y,rfl,s⟩,c⟩;obtain⟨ty,S,rfl⟩:ar y:=s;have t:=Z c;clear c)|(go_at_call 59;refine(fg _ _ _ _).mono ?_;rintro e w' ⟨rfl,rfl⟩))
  go_ret2;exact⟨⟨_,rfl,ar.mk _ _⟩,(a.trans t).alloc _⟩
 cases F
 ·clear d
  go_in
  go_wp2_with (first|(go_at_call 60;refine k.mono ?_;rintro e w2 ⟨⟨y,rfl,s⟩,c⟩;obtain rfl:y=.nilIface:=s;have t:=Z c;have u20:=(o.ch c id).cell (i:=0) rfl;have u21:=(o.ch c id).cell (i:=1) rfl;have u22:=(o.ch c id).cell (i:=2) rfl;have u23:=(o.ch c id).cell (i:=3) rfl;clear c)|(go_at_call 61;refine(D _ t).mono ?_;rintro e w3 ⟨⟨y,rfl,s⟩,H⟩;obtain⟨ty,S,rfl⟩:ar y:=s;have P:=Z (t.trans H);clear H)|(go_at_call 59;refine(fg _ _ _ _).mono ?_;rintro e w' ⟨rfl,rfl⟩))
  go_ret2;exact⟨⟨_,rfl,ar.mk _ _⟩,(a.trans P).alloc _⟩
 exact absurd ⟨by omega,by omega,by omega,by omega,rfl,rfl⟩ d
