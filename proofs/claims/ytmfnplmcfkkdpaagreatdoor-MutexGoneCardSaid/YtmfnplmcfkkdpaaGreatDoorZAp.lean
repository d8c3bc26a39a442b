import Derived.Test.YtmfnplmcfkkdpaaGreatDoorCards
import Derived.Test.YtmfnplmcfkkdpaaGreatDoorTie
import Derived.HandedShaped
import Derived.LaidMore
import Derived.LaidHandle
import Derived.ProofKit
import Derived.OpenShut
import Derived.ChangeSame
import Derived.Stop.Joined
import Derived.WideKeyArgs
import Derived.Deep.Slices
import Derived.Deep.Fields
import Derived.SizedLaws
import Derived.ChangeAt
import Derived.Shelf.Vars
import Derived.Test.YtmfnplmcfkkdpaaGreatDoorZAn
import Derived.Test.YtmfnplmcfkkdpaaGreatDoorZAo
set_option linter.all false
set_option maxRecDepth 100000
set_option maxHeartbeats 0
namespace Go.Proofs.YtmfnplmcfkkdpaaGreatDoor
open Go.RowKit Go.Proofs.Tryz
variable{w:World}{χ:Nat->a'}{L:cU}{Y:Var}{C:KC}{K:KS}
theorem En{i:Nat}(a:i<K.wk.length)(c:cJ)(v:Bool):(K.bj i {K.W i with parked:=v}).F c=K.F c:=by
 cases c with
 |own j=>
  show((K.bj i _).W j).f=(K.W j).f
  by_cases e:i=j
  ·subst e;rw[gM a]
  ·have:(K.bj i {K.W i with parked:=v}).W j=K.W j:=by
    unfold KS.W KS.bj;simp only[List.getD_eq_getElem?_getD,List.getElem?_set_ne e]
   rw[this]
 |ai id k=>rfl
theorem uA(n:Value)(idO:Option Int)(i:Nat)(c:cJ)(b o:Nat)(a d e g f j:Int)(h:ae w χ L Y C K):
 Calls prog 101 #[(L.mb,0),(L.wb,i*38),n,(b,o),.agg #[.int .i64 22,a,d,e,.int .u64 g,f,j]] w (dO (az C K i idO c ⟨22,a,d,e,g,f,j⟩) χ L Y C K w):=by
 obtain⟨w0,m,p,k,l⟩:=h.sh 22 a d e g f j;have t0:=l.c1;have E:Hid (az C K i idO c ⟨22,a,d,e,g,f,j⟩=(2,K)):=Z (by unfold az;dsimp only;rw[if_neg (by decide),if_neg (by decide),if_neg (by decide),if_neg (by decide),if_neg (by decide),if_neg (by decide),if_neg (by decide),if_pos rfl]);go_in
 go_wp2
 try rw[m]
 go_ret;rw[E];exact⟨rfl,χ,Y,k.at_,k.nx,fun _=>k.yk⟩
theorem uB(a2:Value)(idO:Option Int)(i:Nat)(W:i<K.wk.length)(c:cJ)(b o:Nat)(V:aj K c)(a0:aR L Y c b o)(a m n r p s:Int)(U:0<=a/\a<32)(h:ae w χ L Y C K):
 Calls prog 101 #[(L.mb,0),(L.wb,i*38),a2,(b,o),.agg #[.int .i64 36,a,m,n,.int .u64 r,p,s]] w (dO (az C K i idO c ⟨36,a,m,n,r,p,s⟩) χ L Y C K w):=by
 have G:=Z V;have H:=Z a0;have x:=Z W;obtain⟨w0,Q,a3,A,u⟩:=h.pre 36 a m n r p s;obtain⟨t0,t1⟩:=u.1.c2;obtain⟨am,ap⟩:=U;have X:L.wb≠w.heap.size:=Nat.ne_of_lt (h.wk (by simp)).is.lt;have ad:=X.symm;obtain⟨q,d⟩:=nm (gu K 0);have I:=Z (fun w h=>xF (K:=K) (w:=w) (χ:=χ) (L:=L) (Y:=Y) (C:=C) 0 ⟨by omega,by omega⟩ h);have N:q.2.ai=K.ai/\q.2.wk=K.wk:=by rw[<-d];exact⟨rfl,rfl⟩
 have hF:(q.2.F c)=K.F c:=by rw[<-d];cases c<;>rfl
 rw[d]at I;have T:=Z d;obtain⟨pv,K1⟩:=q;dsimp only at N hF;have f:=Z N;obtain⟨t,D⟩:∃y,(K.F c).r a.toNat=y:=⟨_,rfl⟩;have a4:=Z D;have z:Hid ((K1.F c).r a.toNat=t):=Z (by rw[hF];exact D);have F:=A.at_.aA G H a.toNat (by omega);rw[D]at F;obtain⟨l,a1⟩:=nm ((pv==t));have E:Hid (az C K i idO c ⟨36,a,m,n,r,p,s⟩=((if l then 1 else 0),K1.bj i {K1.W i with parked:=l})):=Z (by unfold az;dsimp only;rw[if_neg (by decide),if_neg (by decide),if_pos rfl,T];dsimp only;rw[z,a1];cases l<;>rfl);cases l
 all_goals
  go_in
  go_wp2
  try rw[Q]
  try clear Q
  go_region_held3 (fun w'=>w'.cell? ⟨w.heap.size,1,none⟩=some (.int .i64 a)/\w'.cell? (b,o+1+a.toNat)=some (.int .u64 t)) (go_keep) ((go_at_call 138;refine(I _ A.at_.drew).mono ?_;rintro e w1 ⟨rfl,dZ,Y1,M⟩;have g:=Z ((A.af ay).trans (Gr.refl _) M);have S:=Z (((Nx.af (Ch.refl _ w0).drew).trans M.nx).row u.1 u.2);have j:=Z (g.cur G H (Gr.of_eq f.1) (by rw[f.2]));have t1:=S.1.k 1 rfl;have F:=g.at_.aA j.1 j.2 a.toNat (by omega);rw[z]at F;have al:=g.at_.we (i:=i) (by rw[f.2];exact x);have a5:=g.at_.uq (i*38+2);have O:=Z (fun v=>g.at_.pH (i:=i) (by rw[f.2];exact x) v);have P:∀v,(w1.setCell (L.wb,i*38+2) (.bool v)).cell? (b,o+1+a.toNat)=some (.int .u64 t):=(fun v=>by obtain⟨R,J,k⟩:=O v;have d:=k.cur j.1 j.2 (Gr.of_eq rfl) (bG _ _);have:=k.at_.aA d.1 d.2 a.toNat (by omega);rw[En (by rw[f.2];exact x) c v,z]at this;exact this);have a9:=P false;have ab:=P true))
  all_goals
   go_wp2
   go_ret;rw[E];obtain⟨R,J,k⟩:=O _;have B:=g.trans (Gr.of_eq f.1) k;exact⟨rfl,R,J,B.at_,B.nx,fun _=>B.yk⟩
section
variable{l:List aF}{id:Int}{r:aF}{i p:Nat}{t:Thread}{x y:aC}
structure fF(f:cP):Prop where
 r:∀k,k<32->aK (f.r k)
 back:f.back.length<=8
structure e6(l:List Frame):Prop where
 n0:0<l.length
 n8:l.length<=8
 cg:∀k f,l[k]?=some f->f.cg=(k%2==1)
 lY:∀f∈l,fF f.f
structure od(id:Int)(t:Thread):Prop where
 id:t.id=id
 eY:aK t.eY
 l:e6 t.l
structure hW(x:aC):Prop where
 f:fF x.f
 l0:0<=x.left
 l1:x.left<=24
def eH(l:List aF)(id:Int):Option aF:=match l[(id%64).toNat]? with|none=>none|some r=>if r.taken&&r.t.id==id then some r else none
def st(l:List aF)(id:Int):Int:=match eH l id with|none=>0|some r=>r.t.state
theorem fi:(d' l id=none/\eH l id=none)∨∃r,d' l id=some (id%64).toNat/\l[(id%64).toNat]?=some r/\eH l id=some r:=by
 unfold d' eH;cases h:l[(id%64).toNat]? with
 |none=>exact Or.inl ⟨rfl,rfl⟩
 |some r=>
  dsimp only;by_cases a:(r.taken&&r.t.id==id)=true
  ·rw[if_pos a,if_pos a];exact Or.inr ⟨r,rfl,rfl,rfl⟩
  ·rw[if_neg a,if_neg a];exact Or.inl ⟨rfl,rfl⟩
theorem uD(h:eH l id=some r):l[(id%64).toNat]?=some r/\r.taken=true/\r.t.id=id:=by
 unfold eH at h;split at h
 ·cases h
 ·rename_i r' b
  split at h
  ·rename_i a
   rw[Bool.and_eq_true,beq_iff_eq]at a;have:r'=r:=Option.some.inj h;subst this;exact⟨b,a.1,a.2⟩
  ·cases h
theorem nj(a:p<l.length)(r':aF)(id:Int):eH (l.set p r') id=if(id%64).toNat=p then(if r'.taken&&r'.t.id==id then some r' else none)else eH l id:=by
 unfold eH;by_cases e:(id%64).toNat=p
 ·rw[if_pos e,e,List.getElem?_set_self a]
 ·rw[if_neg e,List.getElem?_set_ne (fun h=>e h.symm)]
theorem Cy(h:eH l id=some r)(r':aF)(b:r'.taken=true->r'.t.id=id):
 (∀j,j≠id->eH (l.set (id%64).toNat r') j=eH l j)/\eH (l.set (id%64).toNat r') id=if r'.taken then some r' else none:=by
 obtain⟨c,m,g⟩:=uD h;have f:=(List.getElem?_eq_some_iff.1 c).1;refine⟨fun j d=> ?_,?_⟩
 ·rw[nj f]
  split
  ·rename_i e
   rw[if_neg]
   ·unfold eH;rw[e,c];dsimp only;rw[if_neg]
    rw[Bool.and_eq_true,beq_iff_eq];exact fun a=>d (by rw[<-a.2,g])
   ·rw[Bool.and_eq_true,beq_iff_eq]
    exact fun a=>d (by rw[<-a.2,b a.1])
  ·rfl
 ·rw[nj f,if_pos rfl]
  cases k:r'.taken with
  |false=>rfl
  |true=>simp[b k]
theorem lZ(K:KS)(id:Int):cz K id=st K.table id:=by
 unfold cz fx st;rcases fi (l:=K.table) (id:=id)with⟨a,b⟩|⟨r,a,b,c⟩
 ·rw[a,b];rfl
 ·rw[a,c];dsimp only;rw[b]
structure pM(N p:Nat)(r:aF):Prop where
 t0:0<=r.times
 t1:r.times<=N
 id:r.taken=true->r.t.id%64=p/\64<=r.t.id/\r.t.id<=64*N+63
 home:aK r.t.home
 value:aK r.t.value
structure e0(N:Nat)(l:List aF):Prop where
 len:l.length=64
 row:∀p r,l[p]?=some r->pM N p r
theorem pM.more{N N':Nat}(h:pM N p r)(b:N<=N'):pM N' p r:=⟨h.t0,by have:=h.t1;omega,fun a=>by have:=h.id a;omega,h.home,h.value⟩
theorem e0.more{N N':Nat}(h:e0 N l)(a:N<=N'):e0 N' l:=⟨h.len,fun p r b=>(h.row p r b).more a⟩
theorem e0.set{N:Nat}(h:e0 N l)(c:pM N p r):e0 N (l.set p r):=by
 refine⟨by rw[List.length_set,h.len],fun q x a=> ?_⟩;by_cases e:p=q
 ·subst e
  have b:p<l.length:=by have:=(List.getElem?_eq_some_iff.1 a).1;simpa using this
  rw[List.getElem?_set_self b]at a;rw[<-Option.some.inj a];exact c
 ·rw[List.getElem?_set_ne e]at a;exact h.row q x a
theorem e0.at{N:Nat}(h:e0 N l)(d:eH l id=some r):pM N (id%64).toNat r/\r.taken=true/\r.t.id=id/\64<=id/\id<=64*N+63:=by
 obtain⟨b,a,c⟩:=uD d;have:=h.row _ _ b;have e:=this.id a;exact⟨this,a,c,by omega,by omega⟩
def iO(wk:List aC)(id:Int):Nat:=wk.countP fun x=>x.slot==id
def qR(wk:List aC)(id:Int):Nat:=wk.countP fun x=>x.hand==id
def oe(ring:List Int)(id:Int):Nat:=ring.countP fun x=>x==id
def ev(wk:List aC)(ring:List Int)(id:Int):Nat:=iO wk id+qR wk id+oe ring id
theorem mO{α:Type}(p:α->Bool)(l:List α)(i:Nat)(x y:α)(h:l[i]?=some x):(l.set i y).countP p+(if p x then 1 else 0)=l.countP p+(if p y then 1 else 0):=by
 induction l generalizing i with
 |nil=>cases h
 |cons z l ih=>
  cases i with
  |zero=>
   have:z=x:=Option.some.inj h;subst this;rw[List.set_cons_zero,List.countP_cons,List.countP_cons];omega
  |succ i=>
   rw[List.set_cons_succ,List.countP_cons,List.countP_cons];have:=ih i h;omega
structure Core(N:Nat)(tb:List aF)(th:List (Int×Thread))(ws:List aC)(ring:List Int):Prop where
 cZ:e0 N tb
 al:∀id r,eH tb id=some r->fU r.t.state=true->(aw th id).isSome=true
 ai:∀id t,aw th id=some t->od id t/\∃r,eH tb id=some r/\(r.t.state=4->r.t.aG=true)
 one:∀id,id≠0->ev ws ring id<=1
 sH:∀id,id≠0->0<ev ws ring id->(aw th id).isSome=true/\st tb id≠3
 slt:∀id,id≠0->0<iO ws id->st tb id≠1
 wk:∀x∈ws,hW x
section
variable{N N':Nat}{tb lC:List aF}{ai yf:List (Int×Thread)}{wk uE:List aC}{ring k8:List Int}
theorem DF{l':List aF}(h:eH l' id=eH l id):st l' id=st l id:=by unfold st;rw[h]
theorem Core.fW(c:Core N tb ai wk ring)(id:Int)(o:e0 N' lC)
 (b:∀j,j≠id->eH lC j=eH tb j) (g:∀j,j≠id->aw yf j=aw ai j)
 (d:∀j,j≠id->j≠0->iO uE j<=iO wk j/\ev uE k8 j<=ev wk ring j)
 (w:∀x∈uE,hW x)
 (q:∀r,eH lC id=some r->fU r.t.state=true->(aw yf id).isSome=true)
 (v:∀t,aw yf id=some t->od id t/\∃r,eH lC id=some r/\(r.t.state=4->r.t.aG=true))
 (n:id≠0->ev uE k8 id<=1)
 (s:id≠0->0<ev uE k8 id->(aw yf id).isSome=true/\st lC id≠3)
 (u:id≠0->0<iO uE id->st lC id≠1):Core N' lC yf uE k8 where
 cZ:=o
 al:=fun j r k m=>by
  by_cases e:j=id
  ·subst e;exact q r k m
  ·rw[b j e]at k;rw[g j e];exact c.al j r k m
 ai:=fun j t h=>by
  by_cases e:j=id
  ·subst e;exact v t h
  ·rw[g j e]at h;rw[b j e];exact c.ai j t h
 one:=fun j a=>by
  by_cases e:j=id
  ·subst e;exact n a
  ·have:=(d j e a).2;have:=c.one j a;omega
 sH:=fun j a f=>by
  by_cases e:j=id
  ·subst e;exact s a f
  ·rw[g j e,DF (b j e)];exact c.sH j a (by have:=(d j e a).2;omega)
 slt:=fun j a f=>by
  by_cases e:j=id
  ·subst e;exact u a f
  ·rw[DF (b j e)];exact c.slt j a (by have:=(d j e a).1;omega)
 wk:=w
theorem Core.more(c:Core N tb ai wk ring)(a:N<=N'):Core N' tb ai wk ring:=⟨c.cZ.more a,c.al,c.ai,c.one,c.sH,c.slt,c.wk⟩
theorem Core.row(c:Core N tb ai wk ring)(h:aw ai id=some t):∃r,eH tb id=some r/\(r.t.state=4->r.t.aG=true)/\64<=id/\id<=64*N+63:=by
 obtain⟨_,r,a,b⟩:=c.ai id t h;have:=c.cZ.at a;exact⟨r,a,b,this.2.2.2⟩
theorem Core.cp(c:Core N tb ai wk ring){b:Thread}(h:aw ai id=some t)(d:od id b):Core N tb (cn ai id b) wk ring:=
 c.fW id c.cZ (fun _ _=>rfl) (fun j f=>by rw[aV,if_neg f]) (fun _ _ _=>⟨Nat.le_refl _,Nat.le_refl _⟩) c.wk
  (fun r m k=>by rw[aV,if_pos rfl];rfl)
  (fun u a=>by rw[aV,if_pos rfl]at a;rw[<-Option.some.inj a];exact⟨d,(c.ai id t h).2⟩)
  (c.one id) (fun e g=>⟨by rw[aV,if_pos rfl];rfl,(c.sH id e g).2⟩) (c.slt id)
theorem e1(h:wk[i]?=some x)(id:Int):iO (wk.set i y) id+(if x.slot==id then 1 else 0)=iO wk id+(if y.slot==id then 1 else 0):=mO _ _ _ _ _ h
theorem e2(h:wk[i]?=some x)(id:Int):qR (wk.set i y) id+(if x.hand==id then 1 else 0)=qR wk id+(if y.hand==id then 1 else 0):=mO _ _ _ _ _ h
theorem hX{P:aC->Prop}(h:∀x∈wk,P x)(c:P y):∀x∈wk.set i y,P x:=fun x b=>by
 rcases List.mem_or_eq_of_mem_set b with a|rfl
 ·exact h x a
 ·exact c
theorem Core.bj(c:Core N tb ai wk ring)(h:wk[i]?=some x)(k:y.slot=x.slot)(g:y.hand=x.hand)(m:hW y):Core N tb ai (wk.set i y) ring:=by
 have d:∀j,iO (wk.set i y) j=iO wk j:=fun j=>by have:=e1 (y:=y) h j;rw[k]at this;omega
 have f:∀j,qR (wk.set i y) j=qR wk j:=fun j=>by have:=e2 (y:=y) h j;rw[g]at this;omega
 have e:∀j,ev (wk.set i y) ring j=ev wk ring j:=fun j=>by unfold ev;rw[d,f]
 exact⟨c.cZ,c.al,c.ai,fun id a=>by rw[e];exact c.one id a,fun id a b=>c.sH id a (by rwa [e]at b),fun id a b=>c.slt id a (by rwa [d]at b),hX c.wk m⟩
theorem Er(l:List aF)(id s:Int):(j4 l id s).2=match eH l id with|none=>l|some r=>if fU s=true/\r.t.state≠4 then l.set (id%64).toNat {r with t:={r.t with state:=s}}else l:=by
 unfold j4;rcases fi (l:=l) (id:=id)with⟨a,b⟩|⟨r,a,b,e⟩
 ·rw[a,b]
 ·rw[a,e];dsimp only;rw[b];dsimp only
  by_cases c:fU s=true
  ·by_cases d:r.t.state=4
   ·simp[c,d]
   ·simp[c,d]
  ·simp[c]
theorem Cz(l:List aF)(id v:Int):(gi l id v).2=match eH l id with|none=>l|some r=>if r.t.state≠4 then l.set (id%64).toNat {r with t:={r.t with state:=4,value:=v,aG:=true}}else l:=by
 unfold gi;rcases fi (l:=l) (id:=id)with⟨a,b⟩|⟨r,a,b,d⟩
 ·rw[a,b]
 ·rw[a,d];dsimp only;rw[b];dsimp only
  by_cases c:r.t.state=4
  ·simp[c]
  ·simp[c]
theorem Aj(l:List aF)(id a:Int):(hJ l id a).2=match eH l id with|none=>l|some r=>if a≠0/\r.t.bH=0/\r.t.loose=false then l.set (id%64).toNat {r with t:={r.t with bH:=a}}else l:=by
 unfold hJ;rcases fi (l:=l) (id:=id)with⟨b,c⟩|⟨r,b,c,e⟩
 ·rw[b,c]
 ·rw[b,e];dsimp only;rw[c];dsimp only
  by_cases d:a=0
  ·simp[d]
  ·by_cases f:r.t.bH=0<;>cases g:r.t.loose<;>simp[d,f,g]
theorem yg(l:List aF)(id:Int):(e8 l id).2=match eH l id with|none=>l|some r=>if r.t.bH=0/\r.t.loose=false then(if r.t.state=4/\r.t.aG=false then l.set (id%64).toNat r.gone else l.set (id%64).toNat {r with t:={r.t with loose:=true}})else l:=by
 unfold e8;rcases fi (l:=l) (id:=id)with⟨a,b⟩|⟨r,a,b,c⟩
 ·rw[a,b]
 ·rw[a,c];dsimp only;rw[b];dsimp only
  by_cases e:r.t.bH=0<;>cases f:r.t.loose<;>by_cases d:r.t.state=4<;>cases g:r.t.aG<;>simp[e,f,d,g]
theorem yh(l:List aF)(id:Int):(eN l id).2=match eH l id with|none=>l|some r=>if r.t.aG=true then(if r.t.loose=true∨r.bL=true then l.set (id%64).toNat r.gone else l.set (id%64).toNat {r with t:={r.t with aG:=false}})else l:=by
 unfold eN;rcases fi (l:=l) (id:=id)with⟨a,b⟩|⟨r,a,b,c⟩
 ·rw[a,b]
 ·rw[a,c];dsimp only;rw[b];dsimp only
  cases e:r.t.loose<;>cases d:r.bL<;>cases f:r.t.aG<;>simp[e,d,f]
theorem Ak(l:List aF)(id:Int):(fy l id).2.2.2.2=(match eH l id with|none=>l|some r=>if r.t.state=4/\r.t.loose=false/\r.bL=false then(if r.t.aG=true then l.set (id%64).toNat {r with bL:=true}else l.set (id%64).toNat r.gone)else l)/\
 ((fy l id).2.1=0∨∃r,eH l id=some r/\(fy l id).2.1=r.t.value)/\((fy l id).2.2.1=0∨∃r,eH l id=some r/\(fy l id).2.2.1=r.t.home):=by
 unfold fy;rcases fi (l:=l) (id:=id)with⟨a,b⟩|⟨r,a,b,c⟩
 ·rw[a,b];exact⟨rfl,Or.inl rfl,Or.inl rfl⟩
 ·rw[a,c];dsimp only;rw[b];dsimp only
  by_cases d:r.t.state=4<;>cases e:r.t.loose<;>cases f:r.bL<;>cases g:r.t.aG<;>simp[d,e,f,g]
structure eh(N:Nat)(tb lC:List aF)(id:Int):Prop where
 ok:e0 N lC
 Ft:∀j,j≠id->eH lC j=eH tb j
theorem eh.refl(h:e0 N tb)(id:Int):eh N tb tb id:=⟨h,fun _ _=>rfl⟩
theorem eh.set(h:e0 N tb)(c:eH tb id=some r){r':aF}(d:r'.times=r.times)(b:r'.taken=true->r'.t.id=id)(k:aK r'.t.home)(m:aK r'.t.value):eh N tb (tb.set (id%64).toNat r') id/\eH (tb.set (id%64).toNat r') id=if r'.taken then some r' else none:=by
 obtain⟨a,n,o,g,j⟩:=h.at c;have f:=Cy c r' b;refine⟨⟨h.set ⟨by rw[d];exact a.t0,by rw[d];exact a.t1,fun e=> ?_,k,m⟩,f.1⟩,f.2⟩;rw[b e];exact⟨by omega,g,j⟩
theorem eh.trans{b:List aF}(h:eh N tb lC id)(k:eh N lC b id):eh N tb b id:=⟨k.ok,fun j a=>(k.Ft j a).trans (h.Ft j a)⟩
theorem bE:aK (0:Int):=⟨by decide,by decide⟩
theorem CA(h:e0 N tb)(id s:Int)(f:fU s=true):eh N tb (j4 tb id s).2 id/\(eH tb id=none->eH (j4 tb id s).2 id=none)/\
 ∀r,eH tb id=some r->∃r',eH (j4 tb id s).2 id=some r'/\((r.t.state=4/\r'=r)∨(r.t.state≠4/\r'.t.state=s)):=by
 rw[Er];cases c:eH tb id with
 |none=>dsimp only;exact⟨eh.refl h id,fun _=>c,fun r e=>by cases e⟩
 |some r=>
  dsimp only;by_cases b:r.t.state=4
  ·rw[if_neg (by rintro⟨_,e⟩;exact e b)]
   refine⟨eh.refl h id,(fun e=>by cases e),fun x d=> ?_⟩;have:r=x:=Option.some.inj d;subst this;exact⟨r,c,Or.inl ⟨b,rfl⟩⟩
  ·rw[if_pos ⟨f,b⟩]
   have a:=h.at c;have:=eh.set h c (r':={r with t:={r.t with state:=s}}) rfl (fun _=>a.2.2.1) a.1.home a.1.value;refine⟨this.1,(fun e=>by cases e),fun x d=> ?_⟩;have e:r=x:=Option.some.inj d;subst e;refine⟨_,by rw[this.2,if_pos a.2.1],Or.inr ⟨b,rfl⟩⟩
theorem sI(h:e0 N tb)(id v:Int)(g:aK v):eh N tb (gi tb id v).2 id/\(eH tb id=none->eH (gi tb id v).2 id=none)/\
 ∀r,eH tb id=some r->(r.t.state=4->r.t.aG=true)->∃r',eH (gi tb id v).2 id=some r'/\r'.t.state=4/\r'.t.aG=true:=by
 rw[Cz];cases b:eH tb id with
 |none=>dsimp only;exact⟨eh.refl h id,fun _=>b,fun r e=>by cases e⟩
 |some r=>
  dsimp only;by_cases a:r.t.state=4
  ·rw[if_neg (by intro e;exact e a)]
   refine⟨eh.refl h id,(fun e=>by cases e),fun x d f=> ?_⟩;have:r=x:=Option.some.inj d;subst this;exact⟨r,b,a,f a⟩
  ·rw[if_pos a]
   have c:=h.at b;have:=eh.set h b (r':={r with t:={r.t with state:=4,value:=v,aG:=true}}) rfl (fun _=>c.2.2.1) c.1.home g;refine⟨this.1,(fun e=>by cases e),fun x d _=> ?_⟩;exact⟨_,by rw[this.2,if_pos c.2.1],rfl,rfl⟩
theorem uF(h:e0 N tb)(id:Int):eh N tb (eN tb id).2 id/\
 ∀r,eH tb id=some r->r.t.state=4->∀r',eH (eN tb id).2 id=some r'->r'.t.state=4:=by
 rw[yh];cases d:eH tb id with
 |none=>dsimp only;exact⟨eh.refl h id,fun r e=>by cases e⟩
 |some r=>
  dsimp only;have b:=h.at d;split
  ·split
   ·have:=eh.set h d (r':=r.gone) rfl (fun e=>by cases e) bE bE
    refine⟨this.1,fun x f c r' a=> ?_⟩;rw[this.2,if_neg (by simp[aF.gone])]at a;cases a
   ·have:=eh.set h d (r':={r with t:={r.t with aG:=false}}) rfl (fun _=>b.2.2.1) b.1.home b.1.value
    refine⟨this.1,fun x f c r' a=> ?_⟩;rw[this.2,if_pos b.2.1]at a;rw[<-Option.some.inj a,Option.some.inj f];exact c
  ·refine⟨eh.refl h id,fun x f c r' a=> ?_⟩
   rw[d]at a;rw[<-Option.some.inj a,Option.some.inj f];exact c
def wq(tb lC:List aF)(id:Int):Prop:=(eH tb id=none->eH lC id=none)/\∀r,eH tb id=some r->(∃r',eH lC id=some r'/\r'.t.state=r.t.state/\r'.t.aG=r.t.aG)∨(eH lC id=none/\r.t.state=4/\r.t.aG=false)
theorem yi(h:e0 N tb)(id d:Int):eh N tb (hJ tb id d).2 id/\wq tb (hJ tb id d).2 id:=by
 rw[Aj];cases a:eH tb id with
 |none=>dsimp only;exact⟨eh.refl h id,fun _=>a,fun r e=>by rw[a]at e;cases e⟩
 |some r=>
  dsimp only;have c:=h.at a;split
  ·have:=eh.set h a (r':={r with t:={r.t with bH:=d}}) rfl (fun _=>c.2.2.1) c.1.home c.1.value
   refine⟨this.1,(fun e=>by rw[a]at e;cases e),fun x b=>Or.inl ?_⟩;rw[a]at b;exact⟨_,by rw[this.2,if_pos c.2.1],by rw[<-Option.some.inj b],by rw[<-Option.some.inj b]⟩
  ·exact⟨eh.refl h id,fun e=>e,fun x b=>Or.inl ⟨x,b,rfl,rfl⟩⟩
theorem uG(h:e0 N tb)(id:Int):eh N tb (e8 tb id).2 id/\wq tb (e8 tb id).2 id:=by
 rw[yg];cases a:eH tb id with
 |none=>dsimp only;exact⟨eh.refl h id,fun _=>a,fun r e=>by rw[a]at e;cases e⟩
 |some r=>
  dsimp only;have c:=h.at a;split
  ·split
   ·rename_i d
    have:=eh.set h a (r':=r.gone) rfl (fun e=>by cases e) bE bE;refine⟨this.1,(fun e=>by rw[a]at e;cases e),fun x b=>Or.inr ?_⟩;rw[a]at b;rw[<-Option.some.inj b];exact⟨by rw[this.2,if_neg (by simp[aF.gone])],d.1,d.2⟩
   ·have:=eh.set h a (r':={r with t:={r.t with loose:=true}}) rfl (fun _=>c.2.2.1) c.1.home c.1.value
    refine⟨this.1,(fun e=>by rw[a]at e;cases e),fun x b=>Or.inl ?_⟩;rw[a]at b;exact⟨_,by rw[this.2,if_pos c.2.1],by rw[<-Option.some.inj b],by rw[<-Option.some.inj b]⟩
  ·exact⟨eh.refl h id,fun e=>e,fun x b=>Or.inl ⟨x,b,rfl,rfl⟩⟩
theorem yj(h:e0 N tb)(id:Int):eh N tb (fy tb id).2.2.2.2 id/\wq tb (fy tb id).2.2.2.2 id/\aK (fy tb id).2.1:=by
 obtain⟨g,c,_⟩:=Ak tb id;have f:aK (fy tb id).2.1:=by
  rcases c with c|⟨r,a,c⟩
  ·rw[c];exact bE
  ·rw[c];exact(h.at a).1.value
 rw[g];cases a:eH tb id with
 |none=>dsimp only;exact⟨eh.refl h id,⟨fun _=>a,fun r e=>by rw[a]at e;cases e⟩,f⟩
 |some r=>
  dsimp only;have d:=h.at a;split
  ·rename_i j
   split
   ·have:=eh.set h a (r':={r with bL:=true}) rfl (fun _=>d.2.2.1) d.1.home d.1.value
    refine⟨this.1,⟨(fun e=>by rw[a]at e;cases e),fun x b=>Or.inl ?_⟩,f⟩;rw[a]at b;exact⟨_,by rw[this.2,if_pos d.2.1],by rw[<-Option.some.inj b],by rw[<-Option.some.inj b]⟩
   ·rename_i k
    have:=eh.set h a (r':=r.gone) rfl (fun e=>by cases e) bE bE;refine⟨this.1,⟨(fun e=>by rw[a]at e;cases e),fun x b=>Or.inr ?_⟩,f⟩;rw[a]at b;rw[<-Option.some.inj b];exact⟨by rw[this.2,if_neg (by simp[aF.gone])],j.1,by simpa using k⟩
  ·exact⟨eh.refl h id,⟨fun e=>e,fun x b=>Or.inl ⟨x,b,rfl,rfl⟩⟩,f⟩
theorem sJ{s:Int}:fU s=true↔s=1∨s=2∨s=3:=by unfold fU;simp[or_assoc]
theorem Core.same(c:Core N tb ai wk ring)(s:eh N tb lC id)(m:wq tb lC id):Core N lC ai wk ring:=by
 have q:(aw ai id).isSome=true->st lC id=st tb id:=fun u=>by
  obtain⟨t,n⟩:=Option.isSome_iff_exists.1 u;obtain⟨_,r,b,k⟩:=c.ai id t n;rcases m.2 r b with⟨r',d,a,_⟩|⟨_,a,f⟩
  ·unfold st;rw[d,b];exact a
  ·rw[k a]at f;cases f
 refine c.fW id s.ok s.Ft (fun _ _=>rfl) (fun _ _ _=>⟨Nat.le_refl _,Nat.le_refl _⟩) c.wk (fun r' h o=> ?_) (fun t n=>⟨(c.ai id t n).1,?_⟩) (c.one id) (fun g j=>⟨(c.sH id g j).1,?_⟩) (fun g j=> ?_)
 ·cases b:eH tb id with
  |none=>rw[m.1 b]at h;cases h
  |some r=>
   rcases m.2 r b with⟨v,d,a,_⟩|⟨d,_⟩
   ·rw[d]at h
    rw[<-Option.some.inj h,a]at o;exact c.al id r b o
   ·rw[d]at h;cases h
 ·obtain⟨_,r,b,k⟩:=c.ai id t n
  rcases m.2 r b with⟨r',d,a,f⟩|⟨_,a,f⟩
  ·exact⟨r',d,fun e=>by rw[f];exact k (by rw[<-a];exact e)⟩
  ·rw[k a]at f;cases f
 ·rw[q (c.sH id g j).1];exact(c.sH id g j).2
 ·rw[q (c.sH id g (by unfold ev;omega)).1];exact c.slt id g j
theorem Core.ended(c:Core N tb ai wk ring)(a:aw ai id=some t)(v:Int)(n:aK v):Core N (gi tb id v).2 ai wk ring:=by
 obtain⟨r,k,g,_⟩:=c.row a;obtain⟨b,_,f⟩:=sI c.cZ id v n;obtain⟨r',d,h,j⟩:=f r k g;have e:st (gi tb id v).2 id=4:=by unfold st;rw[d];exact h
 exact c.fW id b.ok b.Ft (fun _ _=>rfl) (fun _ _ _=>⟨Nat.le_refl _,Nat.le_refl _⟩) c.wk (fun _ _ _=>by rw[a];rfl) (fun u m=>⟨(c.ai id u m).1,r',d,fun _=>j⟩) (c.one id)
  (fun o q=>⟨by rw[a];rfl,by rw[e];decide⟩) (fun _ _=>by rw[e];decide)
theorem CB(h:wk[i]?=some x)(a:x.slot=id):0<iO wk id:=List.countP_pos_iff.2 ⟨x,List.mem_of_getElem? h,by simp[a]⟩
theorem CC(h:wk[i]?=some x)(a:x.hand=id):0<qR wk id:=List.countP_pos_iff.2 ⟨x,List.mem_of_getElem? h,by simp[a]⟩
theorem Core.k9(c:Core N tb ai wk ring)(h:wk[i]?=some x)(a:x.slot≠0):∃t,aw ai x.slot=some t:=Option.isSome_iff_exists.1 (c.sH _ a (by have:=CB h (id:=x.slot) rfl;unfold ev;omega)).1
theorem Core.qS(c:Core N tb ai wk ring)(h:wk[i]?=some x)(a:x.hand≠0):∃t,aw ai x.hand=some t:=Option.isSome_iff_exists.1 (c.sH _ a (by have:=CC h (id:=x.hand) rfl;unfold ev;omega)).1
theorem gz(ring:List Int)(id j:Int):oe (hG ring id).2 j<=oe ring j+(if id=j then 1 else 0)/\(j≠id->oe (hG ring id).2 j=oe ring j):=by
 unfold hG;split
 ·exact⟨Nat.le_add_right _ _,fun _=>rfl⟩
 ·unfold oe
  dsimp only;rw[List.countP_append,List.countP_cons,List.countP_nil];by_cases e:id=j
  ·subst e;simp
  ·have a:(id==j)=false:=by simpa using e
   simp[e,a]
theorem Core.move(c:Core N tb ai wk ring)(d:aw ai id=some t)(s:Int)(b:fU s=true)(C:∀x∈uE,hW x)
 (q:∀j,j≠id->j≠0->iO uE j<=iO wk j/\ev uE k8 j<=ev wk ring j) (m:ev uE k8 id<=1)
 (v:s=3->ev uE k8 id=0) (A:s=1->iO uE id=0):Core N (j4 tb id s).2 ai uE k8:=by
 obtain⟨r,z,o,_⟩:=c.row d;obtain⟨k,_,n⟩:=CA c.cZ id s b;obtain⟨r',f,a⟩:=n r z;have g:st (j4 tb id s).2 id=4∨st (j4 tb id s).2 id=s:=by
  unfold st;rw[f];rcases a with⟨a,rfl⟩|⟨_,a⟩
  ·exact Or.inl a
  ·exact Or.inr a
 refine c.fW id k.ok k.Ft (fun _ _=>rfl) q C (fun _ _ _=>by rw[d];rfl) (fun u B=>⟨(c.ai id u B).1,r',f,fun e=> ?_⟩) (fun _=>m) (fun _ w=>⟨by rw[d];rfl,?_⟩) (fun _ w=> ?_)
 ·rcases a with⟨a,rfl⟩|⟨_,a⟩
  ·exact o a
  ·rw[a]at e;rw[e]at b;exact absurd b (by decide)
 ·rcases g with h|h<;>rw[h]
  ·decide
  ·intro e;have:=v e;omega
 ·rcases g with h|h<;>rw[h]
  ·decide
  ·intro e;have:=A e;omega
end
end
section
variable{id:Int}{t:Thread}{i:Nat}{x y:aC}
section
variable{N N':Nat}{tb lC:List aF}{ai yf:List (Int×Thread)}{wk uE:List aC}{ring k8:List Int}
theorem Core.GF(c:Core N tb ai wk ring)(a:aw ai id=some t):id≠0:=by
 obtain⟨_,_,_,h,_⟩:=c.row a;omega
theorem iP{a b:Int}:(if(a==b)=true then 1 else 0:Nat)=if a=b then 1 else 0:=by simp
theorem Core.k'(c:Core N tb ai wk ring)(k:wk[i]?=some x)(f:x.slot≠0)(r:hW y)(p:y.slot=0)(n:y.hand=x.hand):
 Core N (j4 tb x.slot 1).2 ai (wk.set i y) (hG ring x.slot).2:=by
 obtain⟨t,q⟩:=c.k9 k f;have l:=c.one _ f;have g:=fun j=>e1 (y:=y) k j
 have h:=fun j=>e2 (y:=y) k j
 simp only[iP,p,n]at g h;refine c.move q 1 (by decide) (hX c.wk r) (fun j m o=> ?_) ?_ (fun e=>absurd e (by decide)) (fun _=> ?_)
 ·have a:=g j;have b:=h j;have d:=(gz ring x.slot j).2 m
  rw[if_neg (Ne.symm m),if_neg (Ne.symm o)]at a;unfold ev;omega
 ·have a:=g x.slot;have b:=h x.slot;have d:=(gz ring x.slot x.slot).1
  rw[if_pos rfl,if_neg (Ne.symm f)]at a;rw[if_pos rfl]at d;unfold ev at l⊢;omega
 ·have a:=g x.slot
  rw[if_pos rfl,if_neg (Ne.symm f)]at a;unfold ev at l;omega
theorem Core.l2(c:Core N tb ai wk ring)(h:wk[i]?=some x)(d:x.slot≠0)(q:hW y)(o:y.slot=0)(l:y.hand=x.hand):
 Core N (j4 tb x.slot 3).2 ai (wk.set i y) ring:=by
 obtain⟨t,p⟩:=c.k9 h d;have k:=c.one _ d;have g:=fun j=>e1 (y:=y) h j
 have f:=fun j=>e2 (y:=y) h j
 simp only[iP,o,l]at g f;have r:ev (wk.set i y) ring x.slot=0:=by
  have a:=g x.slot;have b:=f x.slot;rw[if_pos rfl,if_neg (Ne.symm d)]at a;unfold ev at k⊢;omega
 refine c.move p 3 (by decide) (hX c.wk q) (fun j m n=> ?_) (by omega) (fun _=>r) (fun e=>absurd e (by decide));have a:=g j;have b:=f j;rw[if_neg (Ne.symm m),if_neg (Ne.symm n)]at a;unfold ev;omega
theorem Core.oh(c:Core N tb ai wk ring)(k:wk[i]?=some x)(f:x.hand≠0)(r:hW y)(p:y.slot=x.slot)(n:y.hand=0):
 Core N (j4 tb x.hand 1).2 ai (wk.set i y) (hG ring x.hand).2:=by
 obtain⟨t,q⟩:=c.qS k f;have l:=c.one _ f;have h:=fun j=>e1 (y:=y) k j
 have g:=fun j=>e2 (y:=y) k j
 simp only[iP,p,n]at h g;refine c.move q 1 (by decide) (hX c.wk r) (fun j m o=> ?_) ?_ (fun e=>absurd e (by decide)) (fun _=> ?_)
 ·have a:=h j;have b:=g j;have d:=(gz ring x.hand j).2 m
  rw[if_neg (Ne.symm m),if_neg (Ne.symm o)]at b;unfold ev;omega
 ·have a:=h x.hand;have b:=g x.hand;have d:=(gz ring x.hand x.hand).1
  rw[if_pos rfl,if_neg (Ne.symm f)]at b;rw[if_pos rfl]at d;unfold ev at l⊢;omega
 ·have a:=h x.hand;have b:=g x.hand
  rw[if_pos rfl,if_neg (Ne.symm f)]at b;unfold ev at l;omega
theorem Core.Al(c:Core N tb ai wk ring)(h:wk[i]?=some x)(d:x.hand≠0)(q:x.slot=0)(r:hW y)(o:y.slot=x.hand)(n:y.hand=0):
 Core N (j4 tb x.hand 2).2 ai (wk.set i y) ring:=by
 obtain⟨t,p⟩:=c.qS h d;have m:=c.one _ d;have g:=fun j=>e1 (y:=y) h j
 have f:=fun j=>e2 (y:=y) h j
 simp only[iP,o,n,q]at g f;refine c.move p 2 (by decide) (hX c.wk r) (fun j k l=> ?_) ?_ (fun e=>absurd e (by decide)) (fun e=>absurd e (by decide))
 ·have a:=g j;have b:=f j
  rw[if_neg (Ne.symm k),if_neg (Ne.symm l)]at a;rw[if_neg (Ne.symm k),if_neg (Ne.symm l)]at b;unfold ev;omega
 ·have a:=g x.hand;have b:=f x.hand
  rw[if_pos rfl,if_neg (Ne.symm d)]at a;rw[if_pos rfl,if_neg (Ne.symm d)]at b;unfold ev at m⊢;omega
theorem Core.Es(c:Core N tb ai wk ring)(g:aw ai id=some t)(k:ev wk ring id=0)(h:wk[i]?=some x)(l:x.hand=0)(r:hW y)(q:y.slot=x.slot)(m:y.hand=id):
 Core N (j4 tb id 1).2 ai (wk.set i y) ring:=by
 have d:=fun j=>e1 (y:=y) h j
 have f:=fun j=>e2 (y:=y) h j
 simp only[iP,q,m,l]at d f;have n:=c.GF g;refine c.move g 1 (by decide) (hX c.wk r) (fun j o p=> ?_) ?_ (fun e=>absurd e (by decide)) (fun _=> ?_)
 ·have a:=d j;have b:=f j
  rw[if_neg (Ne.symm o),if_neg (Ne.symm p)]at b;unfold ev;omega
 ·have a:=d id;have b:=f id
  rw[if_pos rfl,if_neg (Ne.symm n)]at b;unfold ev at k⊢;omega
 ·have a:=d id
  unfold ev at k;omega
theorem Core.toRing(c:Core N tb ai wk ring)(f:aw ai id=some t)(a:ev wk ring id=0):Core N (j4 tb id 1).2 ai wk (hG ring id).2:=by
 refine c.move f 1 (by decide) c.wk (fun j b g=> ?_) ?_ (fun e=>absurd e (by decide)) (fun _=> ?_)
 ·have d:=(gz ring id j).2 b
  unfold ev;omega
 ·have d:=(gz ring id id).1
  rw[if_pos rfl]at d;unfold ev at a⊢;omega
 ·unfold ev at a;omega
theorem Core.Am(c:Core N tb ai wk ring)(h:st tb id=3):(∃t,aw ai id=some t)/\ev wk ring id=0:=by
 have d:(aw ai id).isSome=true:=by
  unfold st at h;cases a:eH tb id with
  |none=>rw[a]at h;cases h
  |some r=>rw[a]at h;exact c.al id r a (sJ.2 (Or.inr (Or.inr h)))
 obtain⟨t,b⟩:=Option.isSome_iff_exists.1 d;refine⟨⟨t,b⟩,?_⟩;exact Nat.eq_zero_of_not_pos fun e=>(c.sH id (c.GF b) e).2 h
theorem Core.CD(c:Core N tb ai wk ring)(h:st tb id=1)(l:∀x∈wk,x.hand≠id)(m:id∉ring):(∃t,aw ai id=some t)/\ev wk ring id=0:=by
 have n:(aw ai id).isSome=true:=by
  unfold st at h;cases f:eH tb id with
  |none=>rw[f]at h;cases h
  |some r=>rw[f]at h;exact c.al id r f (sJ.2 (Or.inl h))
 obtain⟨t,j⟩:=Option.isSome_iff_exists.1 n;refine⟨⟨t,j⟩,?_⟩;have a:iO wk id=0:=Nat.eq_zero_of_not_pos fun o=>c.slt id (c.GF j) o h
 have b:qR wk id=0:=List.countP_eq_zero.2 fun x g=>by simpa using l x g
 have d:oe ring id=0:=List.countP_eq_zero.2 fun x g e=>m (by
  have k:x=id:=by simpa using e
  rw[<-k];exact g)
 unfold ev;omega
theorem Core.take(c:Core N tb ai wk ring)(h:st tb id=1)(m:∀x∈wk,x.hand≠id)(n:id∉ring)(g:wk[i]?=some x)(l:x.hand=0)(u:hW y)(s:y.slot=x.slot)(o:y.hand=id):
 Core N tb ai (wk.set i y) ring:=by
 obtain⟨⟨t,f⟩,k⟩:=c.CD h m n;have d:=fun j=>e1 (y:=y) g j
 have e:=fun j=>e2 (y:=y) g j
 simp only[iP,s,o,l]at d e;have p:=c.GF f;refine c.fW id c.cZ (fun _ _=>rfl) (fun _ _=>rfl) (fun j q r=> ?_) (hX c.wk u) (fun _ _ _=>by rw[f];rfl) (c.ai id) (fun _=> ?_) (fun _ _=>⟨by rw[f];rfl,by rw[h];decide⟩) (fun _ v=> ?_)
 ·have a:=d j;have b:=e j
  rw[if_neg (Ne.symm q),if_neg (Ne.symm r)]at b;unfold ev;omega
 ·have a:=d id;have b:=e id
  rw[if_pos rfl,if_neg (Ne.symm p)]at b;unfold ev at k⊢;omega
 ·have a:=d id
  unfold ev at k;omega
theorem Core.An(c:Core N tb ai wk ring)(m:wk[i]?=some x)(n:x.hand=0)(q:hW y)(p:y.slot=x.slot)(l:y.hand=(gS ring).1):
 Core N tb ai (wk.set i y) (gS ring).2.2:=by
 cases ring with
 |nil=>exact c.bj m p (by rw[l,n];rfl) q
 |cons id ring=>
  change y.hand=id at l;show Core N tb ai (wk.set i y) ring
  have g:=fun j=>e1 (y:=y) m j
  have h:=fun j=>e2 (y:=y) m j
  simp only[iP,p,l,n]at g h;have k:∀j,oe (id::ring) j=oe ring j+if id=j then 1 else 0:=fun j=>by
   unfold oe;rw[List.countP_cons];simp
  refine c.fW id c.cZ (fun _ _=>rfl) (fun _ _=>rfl) (fun j o r=> ?_) (hX c.wk q) (c.al id) (c.ai id) (fun f=> ?_) (fun f s=>c.sH id f ?_) (fun f s=>c.slt id f ?_)
  ·have a:=g j;have b:=h j;have d:=k j
   rw[if_neg (Ne.symm o),if_neg (Ne.symm r)]at b;rw[if_neg (Ne.symm o)]at d;unfold ev;omega
  ·have a:=g id;have b:=h id;have d:=k id;have e:=c.one id f
   rw[if_pos rfl,if_neg (Ne.symm f)]at b;rw[if_pos rfl]at d;unfold ev at e⊢;omega
  ·have d:=k id
   rw[if_pos rfl]at d;unfold ev;omega
  ·have a:=g id
   omega
theorem Core.gone(c:Core N tb ai wk ring)(k:wk[i]?=some x)(e:x.slot≠0)(C:hW y)(B:y.slot=0)(s:y.hand=x.hand)(gH:gn ai):
 Core N (eN (gi tb x.slot 0).2 x.slot).2 (fs ai x.slot) (wk.set i y) ring:=by
 obtain⟨t,d⟩:=c.k9 k e;obtain⟨r,w,p,_⟩:=c.row d;obtain⟨u1,_,u3⟩:=sI c.cZ x.slot 0 bE;obtain⟨E,A,n,F⟩:=u3 r w p;obtain⟨u4,u5⟩:=uF u1.ok x.slot;have g:=fun j=>e1 (y:=y) k j
 have f:=fun j=>e2 (y:=y) k j
 simp only[iP,B,s]at g f;have o:=c.one _ e;have D:ev (wk.set i y) ring x.slot=0:=by
  have a:=g x.slot;have b:=f x.slot;rw[if_pos rfl,if_neg (Ne.symm e)]at a;unfold ev at o⊢;omega
 have q:=(gH.del x.slot).2;have m:=u1.trans u4;refine c.fW x.slot m.ok m.Ft (fun j h=>gm _ _ _ h) (fun j h u=> ?_) (hX c.wk C) (fun r' z l=> ?_) (fun t d=>by rw[q]at d;cases d) (fun _=>by omega) (fun _ v=>by omega) (fun _ v=>by unfold ev at D;omega)
 ·have a:=g j;have b:=f j
  rw[if_neg (Ne.symm h),if_neg (Ne.symm u)]at a;unfold ev;omega
 ·rw[u5 E A n r' z]at l;exact absurd l (by decide)
theorem oi:∀(l:List aF) (k p:Nat),iY l k=some p->k<=p/\∃r,l[p-k]?=some r/\r.taken=false
 |[],_,_,h=>by cases h
 |r::l,k,p,h=>by
  unfold iY at h;split at h
  ·obtain⟨d,r',a,b⟩:=oi l (k+1) p h
   refine⟨by omega,r',?_,b⟩;rw[show p-k=(p-(k+1))+1 by omega,List.getElem?_cons_succ];exact a
  ·rename_i c
   have:k=p:=Option.some.inj h;subst this;exact⟨Nat.le_refl _,r,by rw[Nat.sub_self];rfl,by simpa using c⟩
theorem Core.born(c:Core N tb ai wk ring)(I:N<=1000000)(home:Int)(B:aK home){lC:List aF}(hb:dh tb home=(some id,lC))(G:od id t):
 aw ai id=none/\Core (N+1) lC (cn ai id t) wk ring/\ev wk ring id=0/\64<=id/\id<=64*(N+1)+63/\st lC id=1:=by
 unfold dh at hb;cases g:iY tb 0 with
 |none=>rw[g]at hb;cases hb
 |some p=>
  obtain⟨_,r,a,v⟩:=oi tb 0 p g;rw[Nat.sub_zero]at a;rw[g]at hb;dsimp only at hb;rw[a]at hb;dsimp only at hb;have q:=c.cZ.row p r a;have b:p<64:=by have:=(List.getElem?_eq_some_iff.1 a).1;rw[c.cZ.len]at this;exact this
  have m:p<tb.length:=(List.getElem?_eq_some_iff.1 a).1;have t0:=q.t0;have t1:=q.t1;have w1:IntKind.u64.wrap (r.times+1)=r.times+1:=by unfold IntKind.wrap IntKind.bits IntKind.signed;simp;omega
  have w2:IntKind.u64.wrap (64*(r.times+1))=64*(r.times+1):=by unfold IntKind.wrap IntKind.bits IntKind.signed;simp;omega
  have H:IntKind.u64.wrap ((p:Int)+64*(r.times+1))=(p:Int)+64*(r.times+1):=by unfold IntKind.wrap IntKind.bits IntKind.signed;simp;omega
  rw[w1,w2,H]at hb;injection hb with d f
  injection d with d
  have hid:id%64=p:=by omega
  have l:(id%64).toNat=p:=by omega
  have D:eH tb id=none:=by
   unfold eH;rw[l,a];simp[v]
  have n:aw ai id=none:=by
   cases C:aw ai id with
   |none=>rfl
   |some u=>obtain⟨_,r',k,_⟩:=c.ai id u C;rw[D]at k;cases k
  have z:ev wk ring id=0:=by
   have:=(fun b=>(c.sH id (by omega) b).1);rw[n]at this;have:¬0<ev wk ring id:=(fun b=>by cases this b);omega
  have A:e0 (N+1) lC:=by
   rw[<-f];refine e0.set (c.cZ.more (Nat.le_succ _)) ⟨?_,?_,fun _=> ?_,B,bE⟩
   ·show 0<=r.times+1;omega
   ·show r.times+1<=((N+1:Nat):Int);omega
   ·show((p:Int)+64*(r.times+1))%64=p/\64<=(p:Int)+64*(r.times+1)/\(p:Int)+64*(r.times+1)<=64*((N+1:Nat):Int)+63
    omega
  have E:∃r',eH lC id=some r'/\r'.t.state=1:=by
   rw[<-f,nj m,if_pos l];exact⟨_,if_pos (by simp[d]),rfl⟩
  have F:∀j,j≠id->eH lC j=eH tb j:=fun j h=>by
   rw[<-f,nj m];split
   ·rename_i e
    rw[if_neg (by simp[d,Ne.symm h])];unfold eH;rw[e,a];simp[v]
   ·rfl
  obtain⟨r',o,s⟩:=E;refine⟨n,?_,z,by omega,by omega,by unfold st;rw[o];exact s⟩;refine c.fW id A F (fun j h=>by rw[aV,if_neg h]) (fun _ _ _=>⟨Nat.le_refl _,Nat.le_refl _⟩) c.wk (fun _ _ _=>by rw[aV,if_pos rfl];rfl)
   (fun u w=>by
    rw[aV,if_pos rfl]at w;rw[<-Option.some.inj w];exact⟨G,r',o,fun e=>by rw[s]at e;cases e⟩)
   (fun _=>by omega) (fun _ b=>by omega) (fun _ b=>by unfold ev at z;omega)
end
end
section
variable{N' i:Nat}{id:Int}{s:fQ}{S:aN}{f:cP}{t:Thread}{c:cJ}
def oj(N:Nat)(q:List (List fQ)):Prop:=(∀s∈q.flatten,aK s.id)/\q.flatten.length<=N
section
variable{N:Nat}{q:List (List fQ)}
theorem oj.more(h:oj N q)(a:N<=N'):oj N' q:=⟨h.1,Nat.le_trans h.2 a⟩
theorem oj.find(h:oj N q)(a:gq q id=some s):aK s.id:=h.1 s (List.mem_of_find?_eq_some a)
theorem kl(q:List (List fQ))(id:Int):(dw q id).2.flatten=q.flatten.filter fun s=>s.id !=id:=by
 unfold dw;split
 ·rename_i a
  rw[List.filter_eq_self.2];intro s b;have:=List.find?_eq_none.1 a s b;simpa using this
 ·rw[List.filter_flatten]
theorem oj.drop(h:oj N q)(id:Int):oj N (dw q id).2:=
 ⟨fun s a=>h.1 s (by rw[kl]at a;exact(List.mem_filter.1 a).1),by rw[kl];exact Nat.le_trans (List.length_filter_le _ _) h.2⟩
theorem om(s:fQ):∀(q:List (List fQ)) (k:Nat),(q.modify k (·++[s])).flatten.length<=q.flatten.length+1
 |[],k=>by cases k<;>simp
 |l::q,0=>by simp;omega
 |l::q,k+1=>by
  have:=om s q k;rw[List.modify_succ_cons,List.flatten_cons,List.flatten_cons,List.length_append,List.length_append];omega
theorem oj.link(h:oj N q)(s:fQ)(o:aK s.id):oj (N+1) (pB q s):=by
 refine⟨?_,Nat.le_trans (om _ _ _) (Nat.succ_le_succ h.2)⟩;intro x p;obtain⟨l,n,b⟩:=List.mem_flatten.1 p;obtain⟨k,a⟩:=List.getElem?_of_mem n;unfold pB at a;rw[List.getElem?_modify]at a;cases g:q[k]? with
 |none=>rw[g]at a;cases a
 |some d=>
  rw[g]at a;have m:(if(bg s.ad 8).toNat=k then d++[s]else d)=l:=by simpa using a
  have j:∀y∈d,aK y.id:=fun y r=>h.1 y (List.mem_flatten.2 ⟨d,List.mem_of_getElem? g,r⟩)
  rw[<-m]at b;split at b
  ·rcases List.mem_append.1 b with e|e
   ·exact j x e
   ·rw[List.mem_singleton.1 e];exact o
  ·exact j x b
theorem oo{d mask:Int}{each:Bool}(e:lN q d mask each=some s):s∈q.flatten:=by
 have a:=List.mem_of_find?_eq_some e;rw[List.getD_eq_getElem?_getD]at a;cases b:q[(bg d 8).toNat]? with
 |none=>rw[b]at a;cases a
 |some l=>rw[b]at a;exact List.mem_flatten.2 ⟨l,List.mem_of_getElem? b,a⟩
theorem oj.put(h:oj N q)(id a mask:Int)(hid:aK id):oj (N+1) (kM q id a mask).2:=by
 unfold kM;split
 ·exact h.more (Nat.le_succ _)
 ·split
  ·exact h.more (Nat.le_succ _)
  ·exact h.link _ hid
theorem oj.take(h:oj N q)(a mask:Int):oj N (eJ q a mask).2.2/\aK (eJ q a mask).1:=by
 unfold eJ;split
 ·exact⟨h,bE⟩
 ·rename_i s b;exact⟨h.drop _,h.1 s (oo b)⟩
theorem oj.move(h:oj N q)(fr tt:Int):oj N (ij q fr tt).2.2/\aK (ij q fr tt).1:=by
 unfold ij;split
 ·exact⟨h,bE⟩
 ·rename_i s d
  have a:=oo d;have e:(q.flatten.filter fun x=>x.id !=s.id).length<q.flatten.length:=by
   rw[List.length_filter_lt_length_iff_exists];exact⟨s,a,by simp⟩
  have b:oj (N-1) (dw q s.id).2:=⟨(h.drop _).1,by rw[kl];have:=h.2;omega⟩;exact⟨(b.link {s with ad:=tt} (h.1 s a)).more (by have:=h.2;omega),h.1 s a⟩
end
structure fS(N:Nat)(S:aN):Prop where
 l:S.heap.l=[]
 fl:S.fl=[]
 now:aK S.now
theorem fS.more{N:Nat}(h:fS N S)(a:N<=N'):fS N' S:=⟨h.l,h.fl,h.now⟩
theorem fS.ok{N:Nat}(h:fS N S)(a:N<=900000):S.Ok:=⟨h.l,h.fl⟩
theorem fS.bp{N:Nat}(h:fS N S)(id:Int):fS N (S.bp id).2:=h
theorem fS.arm{N:Nat}(h:fS N S)(id dl:Int)(a:(S.arm id dl).2.fl=[]):fS (N+1) (S.arm id dl).2:=by
 have e:(S.arm id dl).2.heap=S.heap/\(S.arm id dl).2.now=S.now:=by
  unfold aN.arm
  repeat' split
  all_goals exact⟨rfl,rfl⟩
 exact⟨by rw[e.1];exact h.l,a,by rw[e.2];exact h.now⟩
theorem fS.tick{N:Nat}(h:fS N S):fS N S.tick.1/\(∀x∈S.tick.2,aK x)/\S.tick.2.length<=N+1:=⟨⟨h.l,h.fl,bO _⟩,(fun x a=>by cases a),Nat.zero_le _⟩
structure b8(M:aI):Prop where
 u:∀x∈M.cells,aK x
 qg:M.cells.length<=65536
theorem b8.set{M:aI}(h:b8 M)(i:Nat)(v:Int)(b:aK v):b8 {M with cells:=M.cells.set i v}:=
 ⟨fun x d=>by
  rcases List.mem_or_eq_of_mem_set (show x∈M.cells.set i v from d)with a|rfl
  ·exact h.u x a
  ·exact b,by show(M.cells.set i v).length<=65536;rw[List.length_set];exact h.qg⟩
theorem b8.get{M:aI}(h:b8 M)(i:Nat):aK (M.cells.getD i 0):=by
 rw[List.getD_eq_getElem?_getD];cases a:M.cells[i]? with
 |none=>exact bE
 |some x=>exact h.u x (List.mem_of_getElem? a)
theorem b8.acc{M:aI}(h:b8 M)(kind a d v:Int)(b:aK v):b8 (M.acc kind a d v).2/\∀x,(M.acc kind a d v).1=some x->aK x:=by
 unfold aI.acc;dsimp only;have g:∀x,some (M.cells.getD a.toNat 0)=some x->aK x:=fun x e=>by rw[<-Option.some.inj e];exact h.get _
 split
 ·exact⟨h,fun x e=>by cases e⟩
 ·split
  ·exact⟨h.set _ _ (m9 _ _ _),g⟩
  ·split
   ·split
    ·exact⟨h.set _ _ (iF _ _ b),g⟩
    ·exact⟨h,g⟩
   ·split
    ·exact⟨h.set _ _ (iF _ _ b),g⟩
    ·exact⟨h,g⟩
theorem sM{P:Int->Prop}{l:List Int}(h:∀x∈l,P x)(a:Nat){v:Int}(b:P v):∀k,∀x∈ax l a v k,P x
 |0=>h
 |k+1=>fun x e=>by
  rcases List.mem_or_eq_of_mem_set (show x∈(ax l a v k).set (a+k) v from e)with d|rfl
  ·exact sM h a b k x d
  ·exact b
theorem b8.laid{M:aI}(h:b8 M)(a n:Nat)(b:Int):b8 (M.laid a n b):=
 ⟨sM h.u a bE n,by show(ax M.cells a 0 n).length<=65536;rw[dt];exact h.qg⟩
theorem b8.map{M:aI}(h:b8 M)(a n:Nat)(b:Int):b8 (M.map a n b).2:=by
 unfold aI.map;split
 ·exact h.laid _ _ _
 ·exact h
theorem b8.gj{M:aI}(h:b8 M)(a n:Nat):b8 (M.gj a n).2:=by
 unfold aI.gj;split
 ·exact h.laid _ _ _
 ·exact h
structure js(N:Nat)(S:a8):Prop where
 from_:S.from_<=70000
 y9:S.y9<=70000
 l:∀x∈S.l,x.at_+x.n<=65536
 len:S.l.length<=N
theorem js.more{N:Nat}{S:a8}(h:js N S)(a:N<=N'):js N' S:=⟨h.from_,h.y9,h.l,Nat.le_trans h.len a⟩
theorem js.ok{N:Nat}{S:a8}(h:js N S)(a:N<=900000):S.Ok:=⟨h.from_,h.y9,fun x b=>by have:=h.l x b;omega,Nat.le_trans h.len a⟩
theorem nk{N:Nat}{S:a8}{M:aI}(h:js N S)(d:b8 M)(n:Nat):js (N+1) (df S M n).2.1/\b8 (df S M n).2.2/\∀a,(df S M n).1=some a->aK (a:Int):=by
 unfold df;split
 ·exact⟨h.more (Nat.le_succ _),d,fun a e=>by cases e⟩
 ·split
  ·exact⟨h.more (Nat.le_succ _),d,fun a e=>by cases e⟩
  ·rename_i i k
   split
   ·rename_i g
    have l:S.ek i+n<=M.cells.length:=by
     unfold aI.map at g;split at g
     ·rename_i j;exact(jN j.2).1
     ·cases g
    have hb:=d.qg;refine⟨⟨h.from_,h.y9,fun x b=> ?_,?_⟩,d.map _ _ _,fun a e=> ?_⟩
    ·rcases List.mem_append.1 b with b|b
     ·rcases List.mem_append.1 b with b|b
      ·exact h.l x (List.mem_of_mem_take b)
      ·rw[List.mem_singleton.1 b];show S.ek i+n<=65536;omega
     ·exact h.l x (List.mem_of_mem_drop b)
    ·have:=h.len
     simp only[List.length_append,List.length_take,List.length_drop,List.length_singleton];omega
    ·have:S.ek i=a:=Option.some.inj e
     exact⟨by omega,by omega⟩
   ·exact⟨h.more (Nat.le_succ _),d,fun a e=>by cases e⟩
theorem CH{N:Nat}{S:a8}{M:aI}(h:js N S)(b:b8 M)(a:Int):js N (m1 S M a).2.1/\b8 (m1 S M a).2.2:=by
 unfold m1;split
 ·exact⟨h,b⟩
 ·split
  ·exact⟨h,b⟩
  ·refine⟨⟨h.from_,h.y9,fun x d=>h.l x (List.mem_of_mem_eraseIdx d),?_⟩,b.gj _ _⟩
   exact Nat.le_trans (List.length_eraseIdx_le _ _) h.len
def ir(l:List bq):Prop:=∀r∈l,aK r.addr
theorem ir.set{l:List bq}(h:ir l)(p:Nat)(r:bq)(b:aK r.addr):ir (l.set p r):=fun x d=>by
 rcases List.mem_or_eq_of_mem_set d with a|rfl
 ·exact h x a
 ·exact b
theorem ir.find{l:List bq}(h:ir l)(a k:Int):∀x,gp l a k=some x->aK x:=fun x b=>by
 unfold gp at b;split at b
 ·cases b
 ·split at b
  ·cases b
  ·rename_i r d
   split at b
   ·cases b
   ·rw[<-Option.some.inj b];exact h r (List.mem_of_getElem? d)
theorem ir.make{l:List bq}(h:ir l)(k a:Int)(b:aK a):ir (fP l k a).2/\∀x,(fP l k a).1=some x->aK x:=by
 unfold fP;split
 ·exact⟨h,fun x e=>by cases e⟩
 ·split
  ·exact⟨h,fun x e=>by cases e⟩
  ·split
   ·exact⟨h,fun x e=>by cases e⟩
   ·exact⟨h.set _ _ b,fun x e=>by rw[<-Option.some.inj e];exact bO _⟩
theorem ir.gone{l:List bq}(h:ir l)(a:Int):ir (iZ l a).2:=by
 unfold iZ;split
 ·exact h
 ·split
  ·exact h
  ·exact h.set _ _ bE
structure Inv(N M:Nat)(K:KS):Prop where
 core:Core N K.table K.ai K.wk K.ring
 nd:gn K.ai
 q:oj N K.q
 b2:fS N K.clock
 bI:js N K.blocks
 mem:b8 K.mem
 obj:ir K.cT
 draw:aK K.draw
 w0:1<=K.wk.length
 w1:K.wk.length<=64
 out:K.out.length<=M
theorem Inv.more{N M b:Nat}{K:KS}(h:Inv N M K)(a:N<=N')(d:M<=b):Inv N' b K:=⟨h.core.more a,h.nd,h.q.more a,h.b2.more a,h.bI.more a,h.mem,h.obj,h.draw,h.w0,h.w1,Nat.le_trans h.out d⟩
section
variable{N M:Nat}{K:KS}
theorem fF.ax(h:fF f)(k:Nat)(x:Int)(b:aK x):fF {f with r:=fW f.r k x}:=⟨fun j a=>by
 show aK (fW f.r k x j)
 unfold fW;split
 ·exact b
 ·exact h.r j a,h.back⟩
theorem fF.pc(h:fF f)(p:Int):fF {f with pc:=p}:=⟨h.r,h.back⟩
theorem e6.get{l:List Frame}(h:e6 l){k:Nat}{f:Frame}(a:l[k]?=some f):fF f.f:=h.lY f (List.mem_of_getElem? a)
theorem e6.cI{l:List Frame}(h:e6 l)(k:Nat)(f:cP)(m:fF f):e6 (l.set k {l.getD k default with f:=f}):=by
 refine⟨by rw[List.length_set];exact h.n0,by rw[List.length_set];exact h.n8,fun j g a=> ?_,fun g n=> ?_⟩
 ·by_cases e:k=j
  ·subst e
   have b:k<l.length:=(by have:=(List.getElem?_eq_some_iff.1 a).1;simpa using this);rw[List.getElem?_set_self b]at a;rw[<-Option.some.inj a];show(l.getD k default).cg=_
   rw[List.getD_eq_getElem?_getD,List.getElem?_eq_getElem b];exact h.cg k _ (List.getElem?_eq_getElem b)
  ·rw[List.getElem?_set_ne e]at a;exact h.cg j g a
 ·rcases List.mem_or_eq_of_mem_set n with d|rfl
  ·exact h.lY g d
  ·exact m
theorem e6.take{l:List Frame}(h:e6 l)(n:Nat)(d:0<n):e6 (l.take n):=by
 refine⟨by rw[List.length_take];have:=h.n0;omega,by rw[List.length_take];have:=h.n8;omega,fun k f a=> ?_,fun f b=>h.lY f (List.mem_of_mem_take b)⟩;rw[List.getElem?_take]at a;split at a
 ·exact h.cg k f a
 ·cases a
theorem e6.push{l:List Frame}(h:e6 l)(f:Frame)(n:l.length<8)(d:fF f.f)(hb:f.cg=(l.length%2==1)):e6 (l++[f]):=by
 refine⟨by simp,by simp;omega,fun k g a=> ?_,fun g j=> ?_⟩
 ·by_cases e:k<l.length
  ·rw[List.getElem?_append_left e]at a;exact h.cg k g a
  ·have m:k=l.length:=by
    have:=(List.getElem?_eq_some_iff.1 a).1;simp at this;omega
   subst m;rw[List.getElem?_concat_length]at a;rw[<-Option.some.inj a];exact hb
 ·rcases List.mem_append.1 j with b|b
  ·exact h.lY g b
  ·rw[List.mem_singleton.1 b];exact d
theorem Inv.gA(h:Inv N M K)(a:i<K.wk.length):hW (K.W i):=h.core.wk _ (List.mem_of_getElem? (KS.ha a))
theorem Inv.de(h:Inv N M K)(a:aw K.ai id=some t):od id t:=(h.core.ai id t a).1
theorem Inv.lY(h:Inv N M K)(a:aj K c):fF (K.F c):=by
 cases c with
 |own i=>exact(h.gA a).f
 |ai id k=>
  obtain⟨t,d,b⟩:=a;show fF ((K.T id).l.getD k default).f
  rw[KS.dm d,List.getD_eq_getElem?_getD,List.getElem?_eq_getElem b];exact(h.de d).l.get (List.getElem?_eq_getElem b)
theorem Inv.o9(h:Inv N M K)(a:aj K c){x:Int}(b:0<=x/\x<32):aK ((K.F c).r x.toNat):=(h.lY a).r _ (by omega)
theorem Inv.cp(h:Inv N M K){a:Thread}(d:aw K.ai id=some t)(b:od id a):Inv N M (K.cp id a):=
 ⟨h.core.cp d b,h.nd.put _ _,h.q,h.b2,h.bI,h.mem,h.obj,h.draw,h.w0,h.w1,h.out⟩
theorem Inv.bj(h:Inv N M K)(b:i<K.wk.length){y:aC}(d:y.slot=(K.W i).slot)(a:y.hand=(K.W i).hand)(e:hW y):Inv N M (K.bj i y):=
 ⟨h.core.bj (KS.ha b) d a e,h.nd,h.q,h.b2,h.bI,h.mem,h.obj,h.draw,by show 1<=(K.wk.set i y).length;rw[List.length_set];exact h.w0,by show(K.wk.set i y).length<=64;rw[List.length_set];exact h.w1,h.out⟩
theorem Inv.cI(h:Inv N M K)(a:aj K c)(d:fF f):Inv N M (K.cI c f):=by
 cases c with
 |own i=>exact h.bj a rfl rfl ⟨d,(h.gA a).l0,(h.gA a).l1⟩
 |ai id k=>
  obtain⟨t,b,e⟩:=a;have:=h.de b;refine h.cp b ?_;rw[KS.dm b];exact⟨this.id,this.eY,this.l.cI k f d⟩
theorem Inv.ax(h:Inv N M K)(a:aj K c)(k:Nat)(x:Int)(b:aK x):Inv N M (K.ax c k x):=h.cI a ((h.lY a).ax k x b)
theorem Inv.tell(h:Inv N M K)(e:Ev):Inv N (M+1) (tell K e):=
 ⟨h.core,h.nd,h.q,h.b2,h.bI,h.mem,h.obj,h.draw,h.w0,h.w1,by show(K.out++[_]).length<=M+1;rw[List.length_append];have:=h.out;simp;omega⟩
theorem Inv.qT(h:Inv N M K){S:aI}(a:b8 S):Inv N M {K with mem:=S}:=⟨h.core,h.nd,h.q,h.b2,h.bI,a,h.obj,h.draw,h.w0,h.w1,h.out⟩
theorem Inv.km(h:Inv N M K){q:List (List fQ)}(a:oj N q):Inv N M {K with q:=q}:=⟨h.core,h.nd,a,h.b2,h.bI,h.mem,h.obj,h.draw,h.w0,h.w1,h.out⟩
theorem Inv.uH(h:Inv N M K)(a:fS N S):Inv N M {K with clock:=S}:=⟨h.core,h.nd,h.q,a,h.bI,h.mem,h.obj,h.draw,h.w0,h.w1,h.out⟩
theorem Inv.setObj(h:Inv N M K){l:List bq}(a:ir l):Inv N M {K with cT:=l}:=⟨h.core,h.nd,h.q,h.b2,h.bI,h.mem,a,h.draw,h.w0,h.w1,h.out⟩
theorem Inv.uI(h:Inv N M K){A:a8}{S:aI}(a:js N A)(b:b8 S):Inv N M {K with blocks:=A,mem:=S}:=⟨h.core,h.nd,h.q,h.b2,a,b,h.obj,h.draw,h.w0,h.w1,h.out⟩
theorem Inv.ot(h:Inv N M K){l:List aF}(a:Core N l K.ai K.wk K.ring):Inv N M {K with table:=l}:=⟨a,h.nd,h.q,h.b2,h.bI,h.mem,h.obj,h.draw,h.w0,h.w1,h.out⟩
theorem Inv.jm(h:Inv N M K)(a:Int):Inv N M (jm K a):=by
 have:=CH h.bI h.mem a;exact h.uI this.1 this.2
theorem Inv.home(h:Inv N M K)(id a:Int):Inv N M (eo K id a):=by
 unfold eo;split
 ·exact h.jm _
 ·exact h
theorem l3(C:KC)(a:i<K.wk.length):dB C K i={K with wk:=K.wk.set i {K.W i with slot:=0,f:={(K.W i).f with pc:=C.loop,back:=[]}}}:=by
 unfold dB gJ;rw[gM a];unfold KS.bj;simp only[List.set_set]
theorem hW.left{x:aC}(h:hW x)(s:Int)(p:Int):hW {x with slot:=s,f:={x.f with pc:=p,back:=[]}}:=⟨⟨h.f.r,by simp⟩,h.l0,h.l1⟩
end
end
section
variable{id v:Int}{t:Thread}{i:Nat}{x:be}{c:cJ}
section
variable{N M:Nat}{K:KS}{C:KC}
theorem Aq:aK (1:Int):=⟨by decide,by decide⟩
theorem pO{x:Int}(a:0<=x)(b:x<=100000000):aK x:=⟨a,by omega⟩
theorem Inv.Et(h:Inv N M K)(e:N<=900000)(a:aw K.ai id=some t):aK id/\id≠0:=by
 obtain⟨_,_,_,b,d⟩:=h.core.row a;exact⟨pO (by omega) (by omega),by omega⟩
theorem Inv.Ar(h:Inv N M K)(b:N<=900000)(d:i<K.wk.length):aK (K.W i).hand:=by
 by_cases a:(K.W i).hand=0
 ·rw[a];exact bE
 ·obtain⟨t,e⟩:=h.core.qS (KS.ha d) a
  exact(h.Et b e).1
theorem Inv.F1(h:Inv N M K)(b:N<=900000)(d:id∈K.ring):aK id:=by
 by_cases a:id=0
 ·rw[a];exact bE
 ·have:0<oe K.ring id:=List.countP_pos_iff.2 ⟨id,d,by simp⟩
  obtain⟨t,e⟩:=Option.isSome_iff_exists.1 (h.core.sH id a (by unfold ev;omega)).1;exact(h.Et b e).1
theorem Inv.F2(h:Inv N M K)(a:N<=900000):aK (gS K.ring).1:=by
 cases b:K.ring with
 |nil=>exact bE
 |cons x l=>exact h.F1 a (by rw[b];exact List.mem_cons_self)
theorem kn(h:Inv N M K):b8 (K.mem.acc 3 0 0 1).2:=(h.mem.acc 3 0 0 1 Aq).1
theorem Inv.toRing(h:Inv N M K)(a:aw K.ai id=some t)(b:ev K.wk K.ring id=0):Inv N M (cr K id):=
 ⟨h.core.toRing a b,h.nd,h.q,h.b2,h.bI,kn h,h.obj,h.draw,h.w0,h.w1,h.out⟩
theorem Inv.k'(h:Inv N M K)(a:i<K.wk.length)(b:(K.W i).slot≠0):Inv N M (dB C (cr K (K.W i).slot) i):=by
 rw[l3 C (K:=cr K (K.W i).slot) a];exact⟨h.core.k' (KS.ha a) b ((h.gA a).left 0 C.loop) rfl rfl,h.nd,h.q,h.b2,h.bI,kn h,h.obj,h.draw,by show 1<=(K.wk.set i _).length;rw[List.length_set];exact h.w0,by show(K.wk.set i _).length<=64;rw[List.length_set];exact h.w1,h.out⟩
theorem Inv.l2(h:Inv N M K)(a:i<K.wk.length)(b:(K.W i).slot≠0):Inv N M (dB C {K with table:=(j4 K.table (K.W i).slot 3).2} i):=by
 rw[l3 C (K:={K with table:=(j4 K.table (K.W i).slot 3).2}) a];exact⟨h.core.l2 (KS.ha a) b ((h.gA a).left 0 C.loop) rfl rfl,h.nd,h.q,h.b2,h.bI,h.mem,h.obj,h.draw,by show 1<=(K.wk.set i _).length;rw[List.length_set];exact h.w0,by show(K.wk.set i _).length<=64;rw[List.length_set];exact h.w1,h.out⟩
theorem hW.jt{x:aC}(h:hW x)(v:Int):hW {x with hand:=v}:=⟨h.f,h.l0,h.l1⟩
theorem Inv.oh(h:Inv N M K)(a:i<K.wk.length)(b:(K.W i).hand≠0):Inv N M ((cr K (K.W i).hand).bj i {(cr K (K.W i).hand).W i with hand:=0}):=
 ⟨h.core.oh (KS.ha a) b ((h.gA a).jt 0) rfl rfl,h.nd,h.q,h.b2,h.bI,kn h,h.obj,h.draw,by show 1<=(K.wk.set i _).length;rw[List.length_set];exact h.w0,by show(K.wk.set i _).length<=64;rw[List.length_set];exact h.w1,h.out⟩
theorem Inv.F3(h:Inv N M K)(b:i<K.wk.length)(d:aw K.ai id=some t)(e:ev K.wk K.ring id=0):Inv N M (ep K i id):=by
 unfold ep;split
 ·exact h.toRing d e
 ·rename_i a
  have a:(K.W i).hand=0:=Classical.not_not.1 a;exact⟨h.core.Es d e (KS.ha b) a ((h.gA b).jt id) rfl rfl,h.nd,h.q,h.b2,h.bI,h.mem,h.obj,h.draw,by show 1<=(K.wk.set i _).length;rw[List.length_set];exact h.w0,by show(K.wk.set i _).length<=64;rw[List.length_set];exact h.w1,h.out⟩
theorem Inv.take(h:Inv N M K)(b:i<K.wk.length)(id:Int):Inv N M (eK K i id):=by
 unfold eK;split
 ·exact h
 ·rename_i a
  split
  ·exact h
  ·rename_i d
   split
   ·exact h
   ·rename_i f
    have g:(K.W i).hand=0:=(Classical.not_not.1 fun e=>a (Or.inl e));have j:st K.table id=1:=(by rw[<-lZ];exact Classical.not_not.1 fun e=>a (Or.inr e));have k:∀x∈K.wk,x.hand≠id:=(fun x n e=>d (List.any_eq_true.2 ⟨x,n,by simp[e]⟩));have l:id∉K.ring:=(fun m=>f (List.any_eq_true.2 ⟨id,m,by simp⟩));exact⟨h.core.take j k l (KS.ha b) g ((h.gA b).jt id) rfl rfl,h.nd,h.q,h.b2,h.bI,h.mem,h.obj,h.draw,by show 1<=(K.wk.set i _).length;rw[List.length_set];exact h.w0,by show(K.wk.set i _).length<=64;rw[List.length_set];exact h.w1,h.out⟩
theorem Core.qU{tb:List aF}{ai:List (Int×Thread)}{wk:List aC}{ring:List Int}(c:Core N tb ai wk ring){x y:aC}(h:wk[i]?=some x)(o:hW y)(n:y.slot=x.slot)(k:y.hand=0):Core N tb ai (wk.set i y) ring:=by
 have f:=fun j=>e1 (y:=y) h j
 have g:=fun j=>e2 (y:=y) h j
 simp only[iP,n,k]at f g;have e:∀j,j≠0->ev (wk.set i y) ring j<=ev wk ring j:=fun j l=>by
  have a:=f j;have b:=g j;rw[if_neg (Ne.symm l)]at b;unfold ev;omega
 exact⟨c.cZ,c.al,c.ai,fun id d=>by have:=e id d;have:=c.one id d;omega,fun id d m=>c.sH id d (by have:=e id d;omega),fun id d m=>c.slt id d (by have:=f id;omega),hX c.wk o⟩
theorem Inv.qU(h:Inv N M K)(a:i<K.wk.length):Inv N M (K.bj i {K.W i with hand:=0}):=
 ⟨h.core.qU (KS.ha a) ((h.gA a).jt 0) rfl rfl,h.nd,h.q,h.b2,h.bI,h.mem,h.obj,h.draw,by show 1<=(K.wk.set i _).length;rw[List.length_set];exact h.w0,by show(K.wk.set i _).length<=64;rw[List.length_set];exact h.w1,h.out⟩
theorem Inv.born(h:Inv N M K)(G:N<=900000)(place a:Int)(A:aK a):Inv (N+1) M (bQ K place a).2/\aK (bQ K place a).1/\
 ((bQ K place a).1≠0->∃t,aw (bQ K place a).2.ai (bQ K place a).1=some t/\ev (bQ K place a).2.wk (bQ K place a).2.ring (bQ K place a).1=0):=by
 unfold bQ;have d:=nk h.bI h.mem 1;cases z:df K.blocks K.mem 1 with
 |mk o p=>
  obtain⟨b,m⟩:=p;rw[z]at d;have l:Inv (N+1) M {K with blocks:=b,mem:=m}:=(h.more (Nat.le_succ _) (Nat.le_refl _)).uI d.1 d.2.1;cases o with
  |none=>exact⟨l,bE,fun e=>absurd rfl e⟩
  |some g=>
   dsimp only;cases hb:dh K.table g with
   |mk B t2=>
    cases B with
    |none=>
     dsimp only;have s:t2=K.table:=by
      unfold dh at hb;split at hb
      ·injection hb with _ e;exact e.symm
      ·split at hb
       ·injection hb with _ e;exact e.symm
       ·injection hb with e;cases e
     subst s;exact⟨(show Inv (N+1) M ({K with blocks:=b,mem:=m}:KS)from l).jm _,bE,fun e=>absurd rfl e⟩
    |some id=>
     dsimp only;have u:od id ⟨id,[⟨⟨place,fun j=>if j=0 then a else 0,[]⟩,false,0⟩],0⟩:=⟨rfl,bE,by simp,by simp,fun k f n=>by
      have y:k=0:=(by have:=(List.getElem?_eq_some_iff.1 n).1;simpa using this);subst y;rw[<-Option.some.inj n];rfl,fun f w=>by
      rw[List.mem_singleton.1 w];exact⟨fun k _=>by
       show aK (if k=0 then a else 0)
       split
       ·exact A
       ·exact bE,by simp⟩⟩
     obtain⟨D,q,r,E,F,_⟩:=h.core.born (by omega) g (d.2.2 g rfl) hb u;refine⟨⟨q,h.nd.put _ _,h.q.more (Nat.le_succ _),h.b2.more (Nat.le_succ _),d.1,d.2.1,h.obj,h.draw,h.w0,h.w1,h.out⟩,pO (by omega) (by omega),fun _=>⟨_,by show aw (cn K.ai id _) id=_;rw[aV,if_pos rfl],r⟩⟩
theorem Inv.hz(h:Inv N M K)(v:Int)(d:aK v):Inv N M (b3 K id v):=by
 unfold b3;split
 ·rename_i b
  obtain⟨t,a⟩:=Option.isSome_iff_exists.1 b;have:=h.de a;rw[KS.dm a];exact h.cp a ⟨this.id,d,this.l⟩
 ·exact h
theorem Inv.ended(h:Inv N M K)(d:N<=900000)(a:i<K.wk.length)(b:(K.W i).slot≠0):Inv N (M+1) (m3 C K i (K.W i).slot):=by
 unfold m3;dsimp only;refine Inv.home ?_ _ _;rw[l3 C (by exact a)];exact⟨h.core.gone (KS.ha a) b ((h.gA a).left 0 C.loop) rfl rfl h.nd,(h.nd.del _).1,h.q.drop _,h.b2.bp 0,h.bI,h.mem,h.obj,h.draw,by show 1<=(K.wk.set i _).length;rw[List.length_set];exact h.w0,by show(K.wk.set i _).length<=64;rw[List.length_set];exact h.w1,by show(K.out++[_]).length<=M+1;rw[List.length_append];have:=h.out;simp;omega⟩
theorem Inv.returned(h:Inv N M K)(b:aw K.ai id=some t)(num:Int){code:Int}(e:aK code)(k:aK v):Inv N (M+1) (dq K id num code v):=by
 unfold dq;dsimp only;have a:aj K (.ai id (K.top id)):=⟨t,b,by unfold KS.top;rw[KS.dm b];have:=(h.de b).l.n0;omega⟩;have d:=h.ax a 0 code e;have j:∀n,(K.ax (.ai id n) 0 code).top id=K.top id:=fun n=>by
  unfold KS.top
  congr 1
  have:aw (K.ax (.ai id n) 0 code).ai id=some {K.T id with l:=(K.T id).l.set n {(K.T id).l.getD n default with f:={K.F (.ai id n)with r:=fW (K.F (.ai id n)).r 0 code}}}:=by
   show aw (cn K.ai id _) id=_
   rw[aV,if_pos rfl]
  rw[KS.dm this,List.length_set]
 have g:aj (K.ax (.ai id (K.top id)) 0 code) (.ai id (K.top id)):=a.gr (bA a _) (br _ _);rw[j];exact(d.ax g 1 v k).tell _
theorem Inv.answer(h:Inv N M K)(a:aw K.ai id=some t)(g:1<t.l.length){code:Int}(d:aK code)(f:aK v):Inv N (M+1) (eE K id code v):=by
 unfold eE;dsimp only;have b:=h.de a;have e:K.top id=t.l.length-1:=by unfold KS.top;rw[KS.dm a]
 refine Inv.returned (t:={K.T id with l:=(K.T id).l.take (K.top id)}) (h.cp a ?_) (by show aw (cn K.ai id _) id=_;rw[aV,if_pos rfl]) _ d f;rw[KS.dm a,e];exact⟨b.id,b.eY,b.l.take _ (by omega)⟩
structure jc(x:be):Prop where
 a:x.a.toNat<32
 b:x.b.toNat<32
 c:x.c.toNat<32
 v:aK x.v
theorem qV(h:Inv N M K)(m:N<=900000)(g:i<K.wk.length)(j:(K.W i).slot=id)(f:id≠0)(a:aw K.ai id=some t)(s:t.l.length%2=0)(n:aj K c)(k:jc x)(e:(aB C K i id c x).2.clock.fl=[]):
 Inv (N+1) (M+1) (aB C K i id c x).2:=by
 have d:=h.lY n;have q:=d.r _ k.a;have hb:=d.r _ k.b;have w:=d.r _ k.c;have hid:=(h.Et m a).1;have b:=h.de a;have up:∀{K':KS},Inv N M K'->Inv (N+1) (M+1) K':=fun h=>h.more (Nat.le_succ _) (Nat.le_succ _)
 have p:∀{K':KS},Inv N (M+1) K'->Inv (N+1) (M+1) K':=fun h=>h.more (Nat.le_succ _) (Nat.le_refl _)
 have y:t.l.length≠1:=by omega
 have r:1<t.l.length:=by have:=b.l.n0;omega
 unfold aB at e⊢;dsimp only at e⊢;by_cases l:x.op=24
 ·rw[if_pos l]at e⊢
  split
  ·rename_i u
   rw[if_pos u]at e;exact((up h).km (h.q.put _ _ _ hid)).uH (h.b2.arm _ _ e)
  ·exact(up h).km (h.q.put _ _ _ hid)
 rw[if_neg l];split
 ·split
  ·subst j;exact up (h.l2 g f)
  ·rw[KS.dm a];exact up (h.ax n _ _ b.eY)
 split
 ·have:=yi h.core.cZ ((K.F c).r x.a.toNat) id
  exact up (h.ot (h.core.same this.1 this.2))
 split
 ·exact up (h.ot (h.core.ended a _ q))
 split
 ·subst j;exact p (h.ended m g f)
 split
 ·subst j;exact up (h.k' g f)
 split
 ·split
  ·rename_i o
   rw[KS.dm a]at o⊢;refine up (h.cp a ⟨b.id,b.eY,b.l.push _ o.2 ⟨fun _ _=>bE,by simp⟩ ?_⟩);simp[s]
  ·exact up h
 split
 ·exact p (h.answer a r (d.r 0 (by omega)) (d.r 1 (by omega)))
 ·exact up h
theorem qW(h:Inv N M K)(g:i<K.wk.length)(e:aj K c)(j:jc x):Inv N M (bf K i c x).2:=by
 have f:=h.lY e;have k:=f.r _ j.a;have m:=f.r _ j.c;unfold bf;dsimp only;split
 ·have a:=h.qT (h.mem.acc 1 (dE (K.F c).r x) 0 _ k).1
  split
  ·exact a
  ·exact a.qU g
 ·have b:=h.mem.acc 4 (dE (K.F c).r x) ((K.F c).r x.a.toNat) _ m
  have a:=h.qT b.1;split
  ·exact a
  ·rename_i held n
   have l:aj ({K with mem:=(K.mem.acc 4 (dE (K.F c).r x) ((K.F c).r x.a.toNat) ((K.F c).r x.c.toNat)).2}:KS) c:=(by cases c<;>exact e);have d:=a.ax l x.a.toNat held (b.2 held n);split
   ·exact d.take (Nat.lt_of_lt_of_eq (show i<({K with mem:=(K.mem.acc 4 (dE (K.F c).r x) ((K.F c).r x.a.toNat) ((K.F c).r x.c.toNat)).2}:KS).wk.length from g) (br _ _).symm) _
   ·exact d
theorem yl(h:Inv N M K)(m:N<=900000)(d:i<K.wk.length)(f:aj K c)(o:jc x):Inv N M (b0 K i c x):=by
 unfold b0;dsimp only;split
 ·exact h.take d _
 split
 ·split
  ·rename_i b;exact h.oh d b
  ·exact h
 split
 ·have a:=h.ax f x.a.toNat 0 bE
  have hlen:(K.ax c x.a.toNat 0).wk.length=K.wk.length:=br _ _;have g:i<(K.ax c x.a.toNat 0).wk.length:=by rw[hlen];exact d
  have k:aj (K.ax c x.a.toNat 0) c:=f.gr (bA f _) hlen;split
  ·rename_i b
   have n:=a.F2 m;have l:Inv N M (({K.ax c x.a.toNat 0 with ring:=(gS (K.ax c x.a.toNat 0).ring).2.2}:KS).bj i {(({K.ax c x.a.toNat 0 with ring:=(gS (K.ax c x.a.toNat 0).ring).2.2}:KS).W i)with hand:=(gS (K.ax c x.a.toNat 0).ring).1}):=
    ⟨a.core.An (KS.ha g) b ((a.gA g).jt _) rfl rfl,a.nd,a.q,a.b2,a.bI,a.mem,a.obj,a.draw,by show 1<=(List.set _ i _).length;rw[List.length_set];exact a.w0,by show(List.set _ i _).length<=64;rw[List.length_set];exact a.w1,a.out⟩
   refine l.ax ?_ _ _ ?_
   ·cases c with
    |own j=>show j<(List.set _ i _).length;rw[List.length_set];exact k
    |ai _ _=>exact k
   ·rw[gM (by exact g)];exact n
  ·exact a
 split
 ·split
  ·rename_i b
   have e:((K.bj i {K.W i with slot:=(K.W i).hand,hand:=0,left:=24}).W i).slot=(K.W i).hand:=(by rw[gM d]);rw[e];exact⟨h.core.Al (KS.ha d) b.1 b.2.2 ⟨(h.gA d).f,show(0:Int)<=24 by decide,show(24:Int)<=24 by decide⟩ rfl rfl,h.nd,h.q,h.b2,h.bI,h.mem,h.obj,h.draw,by show 1<=(K.wk.set i _).length;rw[List.length_set];exact h.w0,by show(K.wk.set i _).length<=64;rw[List.length_set];exact h.w1,h.out⟩
  ·exact h
 ·exact h
theorem dy{K':KS}(a:aj K c)(e:K'.ai=K.ai)(f:K'.wk=K.wk):aj K' c:=by
 cases c with
 |own i=>show i<_;rw[f];exact a
 |ai id k=>obtain⟨t,b,d⟩:=a;exact⟨t,by rw[e];exact b,d⟩
theorem uJ(h:Inv N M K)(b:aj K c)(k:jc x):Inv (N+1) M (bh K c x):=by
 have g:=h.lY b;have o:=g.r _ k.a;have hb:=g.r _ k.b;have up:∀{K':KS},Inv N M K'->Inv (N+1) M K':=fun h=>h.more (Nat.le_succ _) (Nat.le_refl _)
 unfold bh;dsimp only;split
 ·have d:=h.ax b x.a.toNat 0 bE
  have hlen:(K.ax c x.a.toNat 0).wk.length=K.wk.length:=br _ _;have l:aj (K.ax c x.a.toNat 0) c:=b.gr (bA b _) hlen;have key:∀n:Int,Inv (N+1) M (if n<=4096 then({K.ax c x.a.toNat 0 with blocks:=(df (K.ax c x.a.toNat 0).blocks (K.ax c x.a.toNat 0).mem n.toNat).2.1,mem:=(df (K.ax c x.a.toNat 0).blocks (K.ax c x.a.toNat 0).mem n.toNat).2.2}:KS).ax c x.a.toNat (match(df (K.ax c x.a.toNat 0).blocks (K.ax c x.a.toNat 0).mem n.toNat).1 with|some h=>(h:Int)|none=>0)else K.ax c x.a.toNat 0):=fun n=>by
   split
   ·have f:=nk d.bI d.mem n.toNat
    refine((up d).uI f.1 f.2.1).ax (dy l rfl rfl) _ _ ?_;split
    ·rename_i a e;exact f.2.2 a e
    ·exact bE
   ·exact up d
  exact key _
 split
 ·split
  ·exact up (h.jm _)
  ·exact up h
 split
 ·split
  ·have j:=h.obj.make x.v ((K.F c).r x.b.toNat) hb
   refine up ((h.setObj j.1).ax (dy b rfl rfl) _ _ ?_);cases m:(fP K.cT x.v ((K.F c).r x.b.toNat)).1 with
   |none=>exact bE
   |some y=>exact j.2 y m
  ·exact up (h.ax b _ _ bE)
 split
 ·exact up (h.setObj (h.obj.gone _))
 ·exact up h
theorem Inv.fresh(h:Inv N M K)(s:N<=900000):∀f id,(dh K.table f).1=some id->aw K.ai id=none:=fun f id hb=>by
 cases m:aw K.ai id with
 |none=>rfl
 |some t=>
  cases a:dh K.table f with
  |mk o t2=>
   rw[a]at hb;have hb:o=some id:=hb;subst hb;unfold dh at a;cases d:iY K.table 0 with
   |none=>rw[d]at a;cases a
   |some p=>
    obtain⟨_,r,b,n⟩:=oi K.table 0 p d;rw[Nat.sub_zero]at b;rw[d]at a;dsimp only at a;rw[b]at a;dsimp only at a;injection a with g _
    injection g with g
    obtain⟨_,r',l,_⟩:=h.core.ai id t m;have k:=h.core.cZ.row p r b;have u:p<64:=(by have:=(List.getElem?_eq_some_iff.1 b).1;rw[h.core.cZ.len]at this;exact this);have t0:=k.t0;have t1:=k.t1;have w1:IntKind.u64.wrap (r.times+1)=r.times+1:=(by unfold IntKind.wrap IntKind.bits IntKind.signed;simp;omega);have w2:IntKind.u64.wrap (64*(r.times+1))=64*(r.times+1):=(by unfold IntKind.wrap IntKind.bits IntKind.signed;simp;omega);have q:IntKind.u64.wrap ((p:Int)+64*(r.times+1))=(p:Int)+64*(r.times+1):=(by unfold IntKind.wrap IntKind.bits IntKind.signed;simp;omega);rw[w1,w2,q]at g;have:=(uD l);have e:(id%64).toNat=p:=(by omega);rw[e,b]at this;have j:=this.2.1;rw[<-Option.some.inj this.1,n]at j;cases j
theorem pP(b:aj K c)(id a:Int):aj (eo K id a) c:=dy b (hg K id a) (kZ K id a)
theorem uK(h:Inv N M K)(m:N<=900000)(z:i<K.wk.length)(a:aj K c)(g:jc x):Inv (N+1) M (bD C K i c x):=by
 have f:=h.lY a;have e:=f.r _ g.a;have hb:=f.r _ g.b;have w:=f.r _ g.c;have up:∀{K':KS},Inv N M K'->Inv (N+1) M K':=fun h=>h.more (Nat.le_succ _) (Nat.le_refl _)
 unfold bD;dsimp only;split
 ·split
  ·obtain⟨j,k,p⟩:=h.born m (wrap64 ((K.F c).r x.b.toNat)) ((K.F c).r x.c.toNat) w
   have y:=k6 (K:=K) (wrap64 ((K.F c).r x.b.toNat)) ((K.F c).r x.c.toNat) (h.fresh m);have o:(bQ K (wrap64 ((K.F c).r x.b.toNat)) ((K.F c).r x.c.toNat)).2.wk=K.wk:=n9 _ _;have n:aj (bQ K (wrap64 ((K.F c).r x.b.toNat)) ((K.F c).r x.c.toNat)).2 c:=a.gr y (by rw[o]);split
   ·rename_i q
    obtain⟨t,B,D⟩:=p q;have A:i<(bQ K (wrap64 ((K.F c).r x.b.toNat)) ((K.F c).r x.c.toNat)).2.wk.length:=(by rw[o];exact z);exact(j.F3 A B D).ax (n.gr (dV _ _ _) (fE _ _ _)) _ _ k
   ·exact j.ax n _ _ k
  ·exact up (h.ax a _ _ bE)
 split
 ·have d:=uG h.core.cZ ((K.F c).r x.a.toNat)
  have b:=h.ot (h.core.same d.1 d.2);split
  ·exact up ((b.home _ _).ax (pP (K:=({K with table:=(e8 K.table ((K.F c).r x.a.toNat)).2}:KS)) (dy a rfl rfl) _ _) _ _ e)
  ·exact up (b.ax (dy a rfl rfl) _ _ e)
 split
 ·have d:=yj h.core.cZ ((K.F c).r x.b.toNat)
  have b:=h.ot (h.core.same d.1 d.2.1);split
  ·exact up ((b.home _ _).ax (pP (K:=({K with table:=(fy K.table ((K.F c).r x.b.toNat)).2.2.2.2}:KS)) (dy a rfl rfl) _ _) _ _ d.2.2)
  ·exact up (b.ax (dy a rfl rfl) _ _ d.2.2)
 split
 ·exact up (h.ax a _ _ (bO _))
 split
 ·refine up (h.ax a _ _ ?_)
  unfold fx;rcases fi (l:=K.table) (id:=(K.F c).r x.b.toNat)with⟨b,_⟩|⟨r,b,s,u⟩
  ·rw[b];exact bE
  ·rw[b];dsimp only;rw[s];exact(h.core.cZ.at u).1.home
 ·exact up (h.ax a _ _ e)
theorem pQ(K:KS)(pid v:Int):(b3 K pid v).wk=K.wk/\(b3 K pid v).ring=K.ring/\(b3 K pid v).table=K.table:=by unfold b3;split<;>exact⟨rfl,rfl,rfl⟩
theorem qX(h:Inv N M K)(o:i<K.wk.length)(d:aj K c)(w:jc x):Inv N M (bl K i c x):=by
 unfold bl;dsimp only;split
 ·have a:=h.q.take ((K.F c).r x.b.toNat) ((K.F c).r x.c.toNat)
  obtain⟨p,r⟩:=nm (eJ K.q ((K.F c).r x.b.toNat) ((K.F c).r x.c.toNat));rw[r]at a⊢;have g:=h.km a.1;split
  ·have m:=g.uH (g.b2.bp p.1)
   have b:=m.hz (id:=p.1) 0 bE;obtain⟨e,f⟩:=nm (b3 ({K with q:=p.2.2,clock:=(K.clock.bp p.1).2}:KS) p.1 0);have n:Gr K e:=(by rw[<-f];exact(Gr.of_eq (K':=({K with q:=p.2.2,clock:=(K.clock.bp p.1).2}:KS)) rfl).trans (jU _ _ _));have l:e.wk=K.wk:=(by rw[<-f];exact(pQ _ _ _).1);have b:Inv N M e:=(by rw[<-f];exact b);show Inv N M (KS.ax (if cz (b3 ({K with q:=p.2.2,clock:=(K.clock.bp p.1).2}:KS) p.1 0) p.1=3 then ep (b3 ({K with q:=p.2.2,clock:=(K.clock.bp p.1).2}:KS) p.1 0) i p.1 else b3 ({K with q:=p.2.2,clock:=(K.clock.bp p.1).2}:KS) p.1 0) c x.a.toNat p.1)
   rw[f];have j:aj e c:=d.gr n (by rw[l]);split
   ·rename_i k
    rw[lZ]at k;obtain⟨⟨t,s⟩,u⟩:=b.core.Am k;exact(b.F3 (by rw[l];exact o) s u).ax (j.gr (dV _ _ _) (fE _ _ _)) _ _ a.2
   ·exact b.ax j _ _ a.2
  ·exact g.ax (dy d rfl rfl) _ _ bE
 split
 ·have a:=h.q.move ((K.F c).r x.b.toNat) ((K.F c).r x.c.toNat)
  exact(h.km a.1).ax (dy d rfl rfl) _ _ a.2
 split
 ·refine h.ax d _ _ ?_
  split
  ·exact Aq
  ·exact bE
 ·exact h.ax d _ _ bE
theorem As(h:Inv N M K)(a:N<=900000)(b:i<K.wk.length)(hid:aK id)(c:cJ)(x:be):aK (ik C K i id c x):=by
 unfold ik;dsimp only
 repeat' split
 all_goals first|exact bO _|exact h.b2.now|exact hid|exact h.draw|exact h.Ar a b|exact Aq|exact bE
theorem ju(h:Inv N M K)(g:N<=900000)(a:i<K.wk.length){idO:Option Int}(d:aj K c)(f:jc x)
 (o:∀id,idO=some id->(K.W i).slot=id/\id≠0/\∃t,aw K.ai id=some t/\t.l.length%2=0) (n:∀j,idO=some j->(az C K i idO c x).2.clock.fl=[]):Inv (N+1) (M+1) (az C K i idO c x).2:=by
 have up:∀{K':KS},Inv N M K'->Inv (N+1) (M+1) K':=fun h=>h.more (Nat.le_succ _) (Nat.le_succ _)
 have p:∀{K':KS},Inv (N+1) M K'->Inv (N+1) (M+1) K':=fun h=>h.more (Nat.le_refl _) (Nat.le_succ _)
 unfold az at n⊢;dsimp only;split
 ·rename_i r
  cases idO with
  |none=>exact up h
  |some id=>
   obtain⟨e,k,t,l,q⟩:=o id rfl;have m:=n id rfl;rw[if_pos r]at m;exact qV h g a e k l q d f m
 split
 ·exact up (qW h a d f)
 split
 ·have e:Inv N M (gu K 0).2:=h.qT (h.mem.acc 0 0 0 0 bE).1
  have k:∀b,Inv N M ((gu K 0).2.bj i {(gu K 0).2.W i with parked:=b}):=fun b=>e.bj (by exact a) rfl rfl ⟨(e.gA (by exact a)).f,(e.gA (by exact a)).l0,(e.gA (by exact a)).l1⟩
  split
  ·exact up (k _)
  ·exact up (k _)
 split
 ·exact up (yl h g a d f)
 split
 ·exact p (uJ h d f)
 split
 ·exact p (uK h g a d f)
 split
 ·exact up (qX h a d f)
 split
 ·exact up h
 ·refine up (h.ax d _ _ (As h g a ?_ c x))
  cases idO with
  |none=>exact bE
  |some id=>
   obtain⟨_,_,t,l,_⟩:=o id rfl;exact(h.Et g l).1
end
theorem ou{n:Int}{used less:Bool}(h:fp n used less=true):(0<=n/\n<32)∨(n=-1/\less=true):=by
 unfold fp at h;split at h
 ·rw[Bool.or_eq_true,Bool.and_eq_true]at h
  rcases h with h|⟨a,b⟩
  ·exact Or.inl (by simpa using h)
  ·exact Or.inr ⟨by simpa using b,a⟩
 ·have:n=0:=by simpa using h
  subst this;exact Or.inl ⟨by decide,by decide⟩
theorem dz{n:Nat}(h:bC x n=true):(0<=x.a/\x.a<32)/\((0<=x.b/\x.b<32)∨(x.b=-1/\nE x.op=true))/\((0<=x.c/\x.c<32)∨(x.c=-1/\mx x.op=true))/\1<=x.op/\x.op<=58:=by
 obtain⟨y,d,e,f,g,b⟩:=jk h;unfold eD j8 my at b;simp only[Bool.and_eq_true]at b;obtain⟨⟨⟨a,_⟩,⟨⟨j,k⟩,l⟩,_⟩,_⟩:=b;have a:1<=y.op/\y.op<=58:=by simpa using a
 rw[<-d,<-e,<-f,<-g];refine⟨?_,ou k,ou l,a⟩;rcases ou j with h|⟨_,h⟩
 ·exact h
 ·cases h
end
def G7(Y:Var):Option Int->Value
 |none=> .pointer none
 |some id=> .pointer (some (Y.bI id,0))
theorem mP{N M:Nat}(u:Inv N M K)(a3:N<=800000)(O:M<=800000)(i:Nat)(s:i<K.wk.length)(idO:Option Int)
 (P:∀id,idO=some id->(K.W i).slot=id/\id≠0/\∃t,aw K.ai id=some t/\t.l.length%2=0) (c:cJ) (b o:Nat) (m:aj K c) (p:aR L Y c b o)
 (x:be) (n:Nat) (W:bC x n=true) (Z:22<=x.op) (E:aK x.v) (a2:0<=K.w/\K.w<K.wk.length) (G:C.bs.length<=2048) (X:∀j,idO=some j->(az C K i idO c x).2.clock.fl=[]) (h:ae w χ L Y C K):
 Calls prog 101 #[(L.mb,0),(L.wb,i*38),G7 Y idO,(b,o),aL x] w (dO (az C K i idO c x) χ L Y C K w):=by
 obtain⟨r,F,Q,_,T⟩:=dz W;obtain⟨op,f,d,a,k,g,l⟩:=x;dsimp only at r F Q T Z E;have B:0<=a/\a<32:=Q.elim id fun e=>by have:=e.2;unfold mx at this;simp at this;omega
 have D:(op≠31/\op≠32/\op≠43)->0<=d/\d<32:=fun a4=>F.elim id fun e=>by have:=e.2;unfold nE at this;simp at this;omega
 have U:=(nk u.bI u.mem 1).1;have q:=(u.lY m).r;have a0:(op=22∨op=36)∨(op=24∨op=28∨op=51∨op=53∨op=55∨op=56∨op=57∨op=58)∨(op=31∨op=32)∨(op=30∨op=33∨op=34∨op=35)∨(op=43∨op=44∨op=45∨op=46)∨(op=48∨op=52∨op=54∨op=49∨op=50)∨(op=25∨op=26∨op=27)∨(op=23∨op=41∨op=37∨op=40∨op=42∨op=29∨op=38∨op=39∨op=47):=by omega
 rcases a0 with(rfl|rfl)|e|e|e|e|e|e|e
 ·exact uA _ _ i c b o f d a k g l h
 ·exact uB _ _ i s c b o m p f d a k g l r h
 ·cases idO with
  |none=>exact xS i c b o op f d a k g l e h
  |some id=>
   obtain⟨a1,S,t,v,V⟩:=P id rfl;have y:=(u.de v).id;have I:=(u.de v).l;have H:=I.n8;have R:1<t.l.length:=(by have:=I.n0;omega);have z:=(u.Et (by omega) v).1;have hb:=D (by omega);refine xM id i c b o op f d a k g l e rfl (fun w h=> ?_) h;rcases e with rfl|rfl|rfl|rfl|rfl|rfl|rfl|rfl
   ·exact sq i s id t v y z c b o m p q f d a k g l r hb B (u.b2.ok (by omega)) (by have:=X id rfl;unfold az at this;rw[if_pos (Or.inl rfl)]at this;exact this) h
   ·exact sr i s id t v y z c b o m p q f d a k g l r h
   ·exact sk i s id t v y z c b o m p q f d a k g l r h
   ·exact sm i s id t v y z c b o m p q f d a k g l r h
   ·exact sn i s id t v y z c b o m p q f d a k g l (u.b2.ok (by omega)) (u.bI.ok (by omega)) (Nat.le_trans u.out O) h
   ·exact so i s id t v y z c b o m p q f d a k g l h
   ·exact ss i s id t v y z c b o m p q f d a k g l r (by omega) H G h
   ·exact sp i s id t v y z c b o m p q f d a k g l R H (Nat.le_trans u.out O) h
 ·refine xN _ _ i c b o op f d a k g l e rfl (fun w h=> ?_) h
  rcases e with rfl|rfl
  ·exact sE i s c b o m p q f d a k g l r E h
  ·exact sF i s c b o m p q f d a k g l r B E (u.mem.acc 4 _ _ _ (q _ (by omega))).2 h
 ·refine xO _ _ i c b o op f d a k g l e rfl (fun w h=> ?_) h
  rcases e with rfl|rfl|rfl|rfl
  ·exact Ad i s c b o m p q f d a k g l r h
  ·exact Ae i s c b o m p q f d a k g l r (u.Ar (by omega) s) h
  ·exact Af i s c b o m p q f d a k g l r h
  ·exact Ag i s c b o m p q f d a k g l r (u.Ar (by omega) s) h
 ·refine xP _ _ i c b o op f d a k g l e rfl (fun w h=> ?_) h
  have A:=u.bI.ok (by omega);rcases e with rfl|rfl|rfl|rfl
  ·rcases F with hb|⟨rfl,_⟩
   ·exact ux c b o m p q f d a k g l r hb A h
   ·exact uy c b o m p q f a k g l r E A h
  ·exact xT c b o m p q f d a k g l r A h
  ·exact xV c b o m p q f d a k g l r (D (by decide)) E h
  ·exact xU c b o m p q f d a k g l r h
 ·refine xQ _ _ i c b o op f d a k g l e rfl (fun w h=> ?_) h
  have A:=u.bI.ok (by omega);have hb:=D (by omega);rcases e with rfl|rfl|rfl|rfl|rfl
  ·exact x' i s c b o m p q f d a k g l r hb B G A (U.ok (by omega)) (u.fresh (by omega)) (u.born (by omega) _ _ (q _ (by omega))).2.1 h
  ·exact xZ i s c b o m p q f d a k g l r hb A h
  ·exact xY i s c b o m p q f d a k g l r hb A h
  ·exact xW i s c b o m p q f d a k g l r hb h
  ·exact xX i s c b o m p q f d a k g l r hb h
 ·refine xR _ _ i c b o op f d a k g l e rfl (fun w h=> ?_) h
  have hb:=D (by omega);rcases e with rfl|rfl|rfl
  ·exact sA i s c b o m p q f d a k g l r hb B (u.b2.ok (by omega)) (u.q.take _ _).2 h
  ·exact sD i s c b o m p q f d a k g l r hb B h
  ·exact sB i s c b o m p q f d a k g l r hb B h
 ·have hb:=D (by omega)
  have J:∀id w,ae w χ L Y C K->Calls prog 143 #[(L.mb,0),(L.wb,i*38),.int .u64 id,(b,o),aL ⟨op,f,d,a,k,g,l⟩] w (nh (ik C K i id c ⟨op,f,d,a,k,g,l⟩) w):=fun id w h=>Ai i s id c b o m p q op f d a k g l e hb a2 G h
  cases idO with
  |none=>exact yb i c b o m p op f d a k g l r e (J 0) h
  |some id=>
   obtain⟨a1,S,t,v,V⟩:=P id rfl;exact yc id t v (u.de v).id i c b o m p op f d a k g l r e (J id) h
section
variable{x:be}{f:cP}{c:cJ}{id:Int}{i k:Nat}{t:Thread}
theorem Au(h:fF f):fF (dG x f).2/\((dG x f).1=0∨(dG x f).1=2∨(dG x f).1=3):=by
 unfold dG;split
 ·split
  ·exact⟨h,Or.inr (Or.inl rfl)⟩
  ·exact⟨⟨h.r,by show(f.back.take _).length<=8;rw[List.length_take];have:=h.back;omega⟩,Or.inl rfl⟩
 ·split
  ·split
   ·exact⟨h,Or.inr (Or.inr rfl)⟩
   ·exact⟨⟨h.r,by show(f.back++[_]).length<=8;rw[List.length_append,List.length_singleton];omega⟩,Or.inl rfl⟩
  ·split
   ·exact⟨h.pc _,Or.inl rfl⟩
   ·split
    ·exact⟨h.pc _,Or.inl rfl⟩
    ·exact⟨h.pc _,Or.inl rfl⟩
theorem CI(h:fF f)(n:Int):aK (gR f.r n):=xd h.r n
theorem sN{p:Type}{Q Q':p->Prop}(acc:p->Int->Int->Int->Int->Option Int×p)(n:∀S kind a w v,Q S->aK v->Q' (acc S kind a w v).2/\∀x,(acc S kind a w v).1=some x->aK x)(h:∀S,Q S->Q' S)
 (l:List be) (B:∀x∈l,aK x.v) (f:cP) (d:fF f) (S:p) (b:Q S):fF (bM acc l f S).2.1/\Q' (bM acc l f S).2.2/\
 ((bM acc l f S).1=0∨(bM acc l f S).1=1∨(bM acc l f S).1=2∨(bM acc l f S).1=3)/\
 ((bM acc l f S).1=0∨(bM acc l f S).1=1->bC (fB l f.pc) l.length=true/\fB l f.pc∈l)/\
 ((bM acc l f S).1=1->22<=(fB l f.pc).op/\(bM acc l f S).2.1=f/\(bM acc l f S).2.2=S):=by
 unfold bM;split
 ·exact⟨d,h _ b,Or.inr (Or.inr (Or.inr rfl)),(fun e=>by rcases e with e|e<;>cases e),fun e=>by cases e⟩
 ·rename_i G
  split
  ·exact⟨d,h _ b,Or.inr (Or.inr (Or.inr rfl)),(fun e=>by rcases e with e|e<;>cases e),fun e=>by cases e⟩
  ·rename_i x u
   have F:=(List.getElem?_eq_some_iff.1 u).1;have z:fB l f.pc=x:=by
    have:=oc (l:=l) (pc:=f.pc) (by omega) (by omega);rw[u]at this;exact(Option.some.inj this).symm
   have j:x∈l:=List.mem_of_getElem? u;rw[z];split
   ·exact⟨d,h _ b,Or.inr (Or.inr (Or.inr rfl)),(fun e=>by rcases e with e|e<;>cases e),fun e=>by cases e⟩
   ·rename_i g
    have g:bC x l.length=true:=(by simpa using g);split
    ·have:=Au (x:=x) d
     refine⟨this.1,h _ b,?_,fun _=>⟨g,j⟩,fun e=> ?_⟩
     ·rcases this.2 with e|e|e
      ·exact Or.inl e
      ·exact Or.inr (Or.inr (Or.inl e))
      ·exact Or.inr (Or.inr (Or.inr e))
     ·exfalso
      have e:(dG x f).1=1:=e;rcases this.2 with q|q|q<;>rw[q]at e<;>cases e
    ·split
     ·have m:Q' (cR acc S x f.r).2/\∀v,(cR acc S x f.r).1=some v->aK v:=by
       have o:aK (f.r x.a.toNat):=by
        have:=(dz g).1;exact d.r _ (by omega)
       have A:aK (f.r x.c.toNat):=by
        have:=(dz g).2.2.1;exact d.r _ (by omega)
       unfold cR;dsimp only;split
       ·exact n _ _ _ _ _ b bE
       ·split
        ·have:=n S 1 (dE f.r x) 0 _ b o
         refine⟨this.1,fun v e=> ?_⟩;cases r:(acc S 1 (dE f.r x) 0 (f.r x.a.toNat)).1 with
         |none=>rw[r]at e;cases e
         |some y=>rw[r]at e;rw[<-Option.some.inj e];exact o
        ·split
         ·exact n _ _ _ _ _ b o
         ·split
          ·exact n _ _ _ _ _ b o
          ·exact n _ _ _ _ _ b A
      split
      ·rename_i S' s
       rw[s]at m;exact⟨d,m.1,Or.inr (Or.inr (Or.inr rfl)),fun _=>⟨g,j⟩,fun e=>by cases e⟩
      ·rename_i v S' s
       rw[s]at m;exact⟨(d.ax x.a.toNat v (m.2 v rfl)).pc _,m.1,Or.inl rfl,fun _=>⟨g,j⟩,fun e=>by cases e⟩
     ·split
      ·exact⟨(d.ax x.a.toNat _ (t' x _ _ (B x j) (CI d _))).pc _,h _ b,Or.inl rfl,fun _=>⟨g,j⟩,fun e=>by cases e⟩
      ·rename_i r D E
       refine⟨d,h _ b,Or.inr (Or.inl rfl),fun _=>⟨g,j⟩,fun _=>⟨?_,rfl,rfl⟩⟩;have:=(dz g).2.2.2;omega
structure ow(C:KC):Prop where
 ll:C.dH.length<=2048
 pl:C.bs.length<=2048
 cl:C.calls.length<=2048
 lv:∀x∈C.dH,aK x.v
 pv:∀x∈C.bs,aK x.v
 F4:∀x∈C.bs,eD x C.bs.length false=true
 bw:0<=C.wide/\C.wide<=256/\0<=C.narrow/\C.narrow<=256
 Eu:C.rows.length=1000
 rows:∀r∈C.rows,0<=r/\r<=C.calls.length
section
variable{N M:Nat}{K:KS}{C:KC}
theorem jc.of{n:Nat}(h:bC x n=true)(a:aK x.v):jc x:=by
 obtain⟨b,d,e,_⟩:=dz h;exact⟨by omega,by omega,by omega,a⟩
theorem l4(d:ow C)(h:Inv N M K)(g:aj K c):Inv N M (cB C K c).2.2/\((cB C K c).2.1=0∨(cB C K c).2.1=1∨(cB C K c).2.1=2∨(cB C K c).2.1=3)/\
 ((cB C K c).2.1=0∨(cB C K c).2.1=1->bC (cB C K c).1 C.dH.length=true/\aK (cB C K c).1.v)/\((cB C K c).2.1=1->22<=(cB C K c).1.op):=by
 have b:=sN (Q:=b8) (Q':=b8) aI.acc (fun S kind a m v j l=>j.acc kind a m v l) (fun _ h=>h) C.dH d.lv (K.F c) (h.lY g) K.mem h.mem;unfold cB;dsimp only;exact⟨(h.qT b.2.1).cI (dy g rfl rfl) b.1,b.2.2.1,fun e=>⟨(b.2.2.2.1 e).1,d.lv _ (b.2.2.2.1 e).2⟩,fun e=>(b.2.2.2.2 e).1⟩
theorem nl{K1:KS}(d:aj K c)(a:K1.ai=K.ai)(b:K1.wk=K.wk)(f:cP):Gr K (K1.cI c f)/\(K1.cI c f).wk.length=K.wk.length:=
 ⟨(Gr.of_eq a).trans (bA (dy d a b) f),(br c f).trans (by rw[b])⟩
theorem ox(C:KC)(a:aj K c):Gr K (cB C K c).2.2/\(cB C K c).2.2.wk.length=K.wk.length:=by
 unfold cB;dsimp only;exact nl (K1:=({K with mem:=(bM aI.acc C.dH (K.F c) K.mem).2.2}:KS)) a rfl rfl _
theorem oy(C:KC)(i:Nat)(a:i<K.wk.length):((cB C K c).2.2.W i).slot=(K.W i).slot/\(cB C K c).2.2.w=K.w:=by
 unfold cB;dsimp only;cases c with
 |own j=>
  refine⟨?_,rfl⟩;show((KS.bj _ j _).W i).slot=_
  by_cases e:i=j
  ·subst e;rw[gM (by exact a)];rfl
  ·unfold KS.W KS.bj
   dsimp only;rw[List.getD_eq_getElem?_getD,List.getElem?_set_ne (fun h=>e h.symm),List.getD_eq_getElem?_getD]
 |ai id k=>exact⟨rfl,rfl⟩
theorem pR(C:KC)(b:aw K.ai id=some t):∃a,aw (cB C K (.ai id k)).2.2.ai id=some a/\a.l.length=t.l.length/\a.id=t.id:=by
 unfold cB;dsimp only;refine⟨_,by show aw (cn K.ai id _) id=_;rw[aV,if_pos rfl],?_,?_⟩
 ·show(List.set (K.T id).l k _).length=_
  rw[List.length_set,KS.dm b]
 ·show(K.T id).id=_
  rw[KS.dm b]
theorem ef(a:aj K c)(k:Nat)(x:Int):Gr K (K.ax c k x):=bA a _
theorem ym(C:KC)(i:Nat):Gr K (dB C K i):=Gr.of_eq rfl
theorem oz(i:Nat)(id:Int):Gr K (eK K i id)/\(eK K i id).wk.length=K.wk.length:=by
 unfold eK
 repeat' split
 all_goals first|exact⟨Gr.refl _,rfl⟩|exact⟨Gr.of_eq rfl,bG _ _⟩
theorem yn(C:KC)(i:Nat):(dB C K i).wk.length=K.wk.length:=by unfold dB gJ;rw[bG,bG]
theorem sO(i:Nat)(a:aw K.ai id=some t)(b:aj K c)(x:be):(aB C K i id c x).1=0->Gr K (aB C K i id c x).2/\(aB C K i id c x).2.wk.length=K.wk.length:=by
 unfold aB;dsimp only;split
 ·split
  ·exact fun _=>⟨Gr.of_eq rfl,rfl⟩
  ·exact fun _=>⟨Gr.of_eq rfl,rfl⟩
 split
 ·split
  ·intro e;cases e
  ·exact fun _=>⟨ef b _ _,br _ _⟩
 split
 ·exact fun _=>⟨Gr.of_eq rfl,rfl⟩
 split
 ·exact fun _=>⟨Gr.of_eq rfl,rfl⟩
 split
 ·intro e;cases e
 split
 ·exact fun _=>⟨(Gr.of_eq (sy K id)).trans (ym C i),yn C i⟩
 split
 ·split
  ·exact fun _=>⟨by rw[KS.dm a];exact qQ a (by simp),rfl⟩
  ·exact fun _=>⟨Gr.refl _,rfl⟩
 split
 ·intro e;cases e
 ·exact fun _=>⟨Gr.refl _,rfl⟩
theorem sP(a:aj K c)(x:be):(bf K i c x).1=0->Gr K (bf K i c x).2/\(bf K i c x).2.wk.length=K.wk.length:=by
 unfold bf;dsimp only;split
 ·split
  ·intro e;cases e
  ·exact fun _=>⟨Gr.of_eq rfl,bG _ _⟩
 ·split
  ·intro e;cases e
  ·rename_i held b
   have g:=nl (K1:=({K with mem:=(K.mem.acc 4 (dE (K.F c).r x) ((K.F c).r x.a.toNat) ((K.F c).r x.c.toNat)).2}:KS)) a rfl rfl {({K with mem:=(K.mem.acc 4 (dE (K.F c).r x) ((K.F c).r x.a.toNat) ((K.F c).r x.c.toNat)).2}:KS).F c with r:=fW (({K with mem:=(K.mem.acc 4 (dE (K.F c).r x) ((K.F c).r x.a.toNat) ((K.F c).r x.c.toNat)).2}:KS).F c).r x.a.toNat held};split
   ·exact fun _=>⟨g.1.trans (oz _ _).1,(oz _ _).2.trans g.2⟩
   ·exact fun _=>g
theorem Av(i:Nat)(a:aj K c)(x:be):Gr K (b0 K i c x)/\(b0 K i c x).wk.length=K.wk.length:=by
 unfold b0;dsimp only;split
 ·exact oz _ _
 split
 ·split
  ·exact⟨Gr.of_eq rfl,bG _ _⟩
  ·exact⟨Gr.refl _,rfl⟩
 split
 ·have hlen:(K.ax c x.a.toNat 0).wk.length=K.wk.length:=br _ _
  have g:=ef a x.a.toNat 0;split
  ·have b:aj ((({K.ax c x.a.toNat 0 with ring:=(gS (K.ax c x.a.toNat 0).ring).2.2}:KS)).bj i {(({K.ax c x.a.toNat 0 with ring:=(gS (K.ax c x.a.toNat 0).ring).2.2}:KS)).W i with hand:=(gS (K.ax c x.a.toNat 0).ring).1}) c:=
    (a.gr g hlen).gr (Gr.of_eq rfl) (bG _ _)
   exact⟨(g.trans (Gr.of_eq rfl)).trans (ef b _ _),(br _ _).trans ((bG _ _).trans hlen)⟩
  ·exact⟨g,hlen⟩
 split
 ·split
  ·exact⟨Gr.of_eq rfl,bG _ _⟩
  ·exact⟨Gr.refl _,rfl⟩
 ·exact⟨Gr.refl _,rfl⟩
theorem yo(a:aj K c)(x:be):Gr K (bh K c x)/\(bh K c x).wk.length=K.wk.length:=by
 unfold bh;dsimp only;split
 ·have hlen:(K.ax c x.a.toNat 0).wk.length=K.wk.length:=br _ _
  have g:=ef a x.a.toNat 0;have key:∀n:Int,Gr K (if n<=4096 then({K.ax c x.a.toNat 0 with blocks:=(df (K.ax c x.a.toNat 0).blocks (K.ax c x.a.toNat 0).mem n.toNat).2.1,mem:=(df (K.ax c x.a.toNat 0).blocks (K.ax c x.a.toNat 0).mem n.toNat).2.2}:KS).ax c x.a.toNat (match(df (K.ax c x.a.toNat 0).blocks (K.ax c x.a.toNat 0).mem n.toNat).1 with|some h=>(h:Int)|none=>0)else K.ax c x.a.toNat 0)/\(if n<=4096 then({K.ax c x.a.toNat 0 with blocks:=(df (K.ax c x.a.toNat 0).blocks (K.ax c x.a.toNat 0).mem n.toNat).2.1,mem:=(df (K.ax c x.a.toNat 0).blocks (K.ax c x.a.toNat 0).mem n.toNat).2.2}:KS).ax c x.a.toNat (match(df (K.ax c x.a.toNat 0).blocks (K.ax c x.a.toNat 0).mem n.toNat).1 with|some h=>(h:Int)|none=>0)else K.ax c x.a.toNat 0).wk.length=K.wk.length:=fun n=>by
   split
   ·have q:=nl (K:=K.ax c x.a.toNat 0) (K1:=({K.ax c x.a.toNat 0 with blocks:=(df (K.ax c x.a.toNat 0).blocks (K.ax c x.a.toNat 0).mem n.toNat).2.1,mem:=(df (K.ax c x.a.toNat 0).blocks (K.ax c x.a.toNat 0).mem n.toNat).2.2}:KS)) (a.gr g hlen) rfl rfl
    exact⟨g.trans (q _).1,(q _).2.trans hlen⟩
   ·exact⟨g,hlen⟩
  exact key _
 split
 ·split
  ·exact⟨Gr.of_eq rfl,rfl⟩
  ·exact⟨Gr.refl _,rfl⟩
 split
 ·split
  ·exact nl (K1:=({K with cT:=(fP K.cT x.v ((K.F c).r x.b.toNat)).2}:KS)) a rfl rfl _
  ·exact⟨ef a _ _,br _ _⟩
 split
 ·exact⟨Gr.of_eq rfl,rfl⟩
 ·exact⟨Gr.refl _,rfl⟩
theorem yp(h:Inv N M K)(q:N<=900000)(g:aj K c)(x:be):Gr K (bD C K i c x)/\(bD C K i c x).wk.length=K.wk.length:=by
 unfold bD;dsimp only;split
 ·split
  ·have j:=k6 (K:=K) (wrap64 ((K.F c).r x.b.toNat)) ((K.F c).r x.c.toNat) (h.fresh q)
   have l:(bQ K (wrap64 ((K.F c).r x.b.toNat)) ((K.F c).r x.c.toNat)).2.wk=K.wk:=n9 _ _;have o:aj (bQ K (wrap64 ((K.F c).r x.b.toNat)) ((K.F c).r x.c.toNat)).2 c:=g.gr j (by rw[l]);split
   ·exact⟨(j.trans (dV _ _ _)).trans (ef (o.gr (dV _ _ _) (fE _ _ _)) _ _),(br _ _).trans ((fE _ _ _).trans (by rw[l]))⟩
   ·exact⟨j.trans (ef o _ _),(br _ _).trans (by rw[l])⟩
  ·exact⟨ef g _ _,br _ _⟩
 have p:∀(K1:KS) (id a:Int) (y:Nat) (v:Int),K1.ai=K.ai->K1.wk=K.wk->Gr K ((eo K1 id a).ax c y v)/\((eo K1 id a).ax c y v).wk.length=K.wk.length:=fun K1 id a y v d e=>by
  have m:(eo K1 id a).ai=K.ai:=(hg K1 id a).trans d;have n:(eo K1 id a).wk=K.wk:=(kZ K1 id a).trans e;exact⟨(Gr.of_eq m).trans (ef (dy g m n) _ _),(br _ _).trans (by rw[n])⟩
 have b:∀(K1:KS) (y:Nat) (v:Int),K1.ai=K.ai->K1.wk=K.wk->Gr K (K1.ax c y v)/\(K1.ax c y v).wk.length=K.wk.length:=fun K1 y v d e=>
  ⟨(Gr.of_eq d).trans (ef (dy g d e) _ _),(br _ _).trans (by rw[e])⟩
 split
 ·split
  ·exact p _ _ _ _ _ rfl rfl
  ·exact b _ _ _ rfl rfl
 split
 ·split
  ·exact p _ _ _ _ _ rfl rfl
  ·exact b _ _ _ rfl rfl
 split
 ·exact b _ _ _ rfl rfl
 split
 ·exact b _ _ _ rfl rfl
 ·exact b _ _ _ rfl rfl
theorem sQ(l:aj K c)(x:be):Gr K (bl K i c x)/\(bl K i c x).wk.length=K.wk.length:=by
 have a:∀(K1:KS) (y:Nat) (v:Int),K1.ai=K.ai->K1.wk=K.wk->Gr K (K1.ax c y v)/\(K1.ax c y v).wk.length=K.wk.length:=fun K1 y v h j=>
  ⟨(Gr.of_eq h).trans (ef (dy l h j) _ _),(br _ _).trans (by rw[j])⟩
 unfold bl;dsimp only;split
 ·split
  ·obtain⟨p,n⟩:=nm (eJ K.q ((K.F c).r x.b.toNat) ((K.F c).r x.c.toNat))
   rw[n];obtain⟨b,d⟩:=nm (b3 ({K with q:=p.2.2,clock:=(K.clock.bp p.1).2}:KS) p.1 0);have e:Gr K b:=(by rw[<-d];exact(Gr.of_eq (K':=({K with q:=p.2.2,clock:=(K.clock.bp p.1).2}:KS)) rfl).trans (jU _ _ _));have g:b.wk=K.wk:=(by rw[<-d];exact(pQ _ _ _).1);have m:aj b c:=l.gr e (by rw[g]);show Gr K (KS.ax (if cz (b3 ({K with q:=p.2.2,clock:=(K.clock.bp p.1).2}:KS) p.1 0) p.1=3 then ep (b3 ({K with q:=p.2.2,clock:=(K.clock.bp p.1).2}:KS) p.1 0) i p.1 else b3 ({K with q:=p.2.2,clock:=(K.clock.bp p.1).2}:KS) p.1 0) c x.a.toNat p.1)/\(KS.ax (if cz (b3 ({K with q:=p.2.2,clock:=(K.clock.bp p.1).2}:KS) p.1 0) p.1=3 then ep (b3 ({K with q:=p.2.2,clock:=(K.clock.bp p.1).2}:KS) p.1 0) i p.1 else b3 ({K with q:=p.2.2,clock:=(K.clock.bp p.1).2}:KS) p.1 0) c x.a.toNat p.1).wk.length=_
   rw[d];split
   ·exact⟨(e.trans (dV _ _ _)).trans (ef (m.gr (dV _ _ _) (fE _ _ _)) _ _),(br _ _).trans ((fE _ _ _).trans (by rw[g]))⟩
   ·exact⟨e.trans (ef m _ _),(br _ _).trans (by rw[g])⟩
  ·exact a _ _ _ rfl rfl
 split
 ·exact a _ _ _ rfl rfl
 split
 ·exact a _ _ _ rfl rfl
 ·exact a _ _ _ rfl rfl
theorem ko(h:Inv N M K)(b:N<=900000){idO:Option Int}(a:aj K c)(x:be)(d:∀id,idO=some id->∃t,aw K.ai id=some t):
 (az C K i idO c x).1=0->Gr K (az C K i idO c x).2/\(az C K i idO c x).2.wk.length=K.wk.length:=by
 unfold az;dsimp only;split
 ·cases idO with
  |none=>exact fun _=>⟨Gr.refl _,rfl⟩
  |some id=>obtain⟨t,g⟩:=d id rfl;exact sO i g a x
 split
 ·exact sP a x
 split
 ·split
  ·intro e;cases e
  ·exact fun _=>⟨Gr.of_eq rfl,bG _ _⟩
 split
 ·exact fun _=>Av i a x
 split
 ·exact fun _=>yo a x
 split
 ·exact fun _=>yp h b a x
 split
 ·exact fun _=>sQ a x
 split
 ·intro e;cases e
 ·exact fun _=>⟨ef a _ _,br _ _⟩
theorem oA(K:KS)(i:Nat)(idO:Option Int)(c:cJ)(x:be):(az C K i idO c x).1=0∨(az C K i idO c x).1=1∨(az C K i idO c x).1=2:=by
 have b:∀id,(aB C K i id c x).1=0∨(aB C K i id c x).1=1∨(aB C K i id c x).1=2:=fun id=>by
  unfold aB;dsimp only
  repeat' split
  all_goals first|exact Or.inl rfl|exact Or.inr (Or.inl rfl)
 have a:(bf K i c x).1=0∨(bf K i c x).1=1∨(bf K i c x).1=2:=by
  unfold bf;dsimp only
  repeat' split
  all_goals first|exact Or.inl rfl|exact Or.inr (Or.inr rfl)
 unfold az;dsimp only;split
 ·cases idO with
  |none=>exact Or.inl rfl
  |some id=>exact b id
 split
 ·exact a
 repeat' split
 all_goals first|exact Or.inl rfl|exact Or.inr (Or.inl rfl)|exact Or.inr (Or.inr rfl)
theorem jv(K:KS)(i:Nat)(idO:Option Int)(c:cJ)(x:be):(az C K i idO c x).1=2->(az C K i idO c x).2.ai=K.ai/\(az C K i idO c x).2.wk=K.wk:=by
 have a:∀id,(aB C K i id c x).1≠2:=fun id=>by
  unfold aB;dsimp only
  repeat' split
  all_goals(intro e;cases e)
 unfold az;dsimp only;split
 ·cases idO with
  |none=>intro e;cases e
  |some id=>exact fun e=>absurd e (a id)
 split
 ·unfold bf
  dsimp only;split
  ·split
   ·exact fun _=>⟨rfl,rfl⟩
   ·intro e;cases e
  ·split
   ·exact fun _=>⟨rfl,rfl⟩
   ·split
    ·intro e;cases e
    ·intro e;cases e
 repeat' split
 all_goals first|exact fun _=>⟨rfl,rfl⟩|(intro e;cases e)
theorem vo(K:KS)(e:Ev):(tell K e).clock=K.clock:=rfl
theorem o5(K:KS)(c:cJ)(k:Nat)(x:Int):(K.ax c k x).clock=K.clock:=jR _ _
theorem tM(K:KS)(id:Int)(c:cJ)(x:be):(dc K id c x).clock=K.clock:=by
 unfold dc;split
 ·rfl
 ·dsimp only
  repeat' split
  all_goals rfl
theorem o7(K:KS)(id code v:Int):(eE K id code v).clock=K.clock:=by
 unfold eE dq;dsimp only;rw[vo,o5,o5];rfl
theorem je{K2:KS}(h:cB C K (.ai id k)=(x,1,K2)):(cD C K i id k).clock=(az C K2 i (some id) (.ai id k) x).2.clock:=by
 have a:(eF C K i (some id) (.ai id k)).2.2.clock=(az C K2 i (some id) (.ai id k) x).2.clock:=by
  unfold eF;rw[h];dsimp only;rw[if_pos rfl];split
  ·exact jR _ _
  ·split<;>rfl
 unfold cD;dsimp only;split
 ·exact(tM _ _ _ _).trans a
 ·split
  ·exact(o7 _ _ _ _).trans a
  ·exact a
end
end
variable{M N:Nat}
theorem Aw(P:ow C)(a9:Inv N M K)(hd:N<=700000)(hb:M<=700000)(i:Nat)(H:i<K.wk.length)(g9:0<=K.w/\K.w<K.wk.length)(h:ae w χ L Y C K):
 Calls prog 60 #[(L.mb,0),(L.wb,i*38)] w (si (.tuple #[]) χ L C (kg C K i) w):=by
 obtain⟨dZ,Y1,dN⟩:=h.pH H false;have hf:=h.we H;have hi:=h.uq (i*38+2);have ab:Inv N M (K.bj i {K.W i with parked:=false}):=a9.bj H rfl rfl ⟨(a9.gA H).f,(a9.gA H).l0,(a9.gA H).l1⟩;obtain⟨K1,ad⟩:=nm (K.bj i {K.W i with parked:=false});have c7:i<K1.wk.length:=by rw[<-ad,bG];exact H
 have gc:0<=K1.w/\K1.w<K1.wk.length:=by rw[<-ad,bG];exact g9
 have V:Hid (kg C K i=if(eF C K1 i none (.own i)).2.1=0 then dc (eF C K1 i none (.own i)).2.2 0 (.own i) (eF C K1 i none (.own i)).1 else if(eF C K1 i none (.own i)).2.1=3∨(eF C K1 i none (.own i)).2.1=2 then gJ C (eF C K1 i none (.own i)).2.2 i else(eF C K1 i none (.own i)).2.2):=Z (by unfold kg;rw[ad]);rw[ad]at dN ab;have cC:=Z dN;have G:aj K1 (.own i):=c7;have cW:aR L Y1 (.own i) L.wb (i*38+4):=⟨rfl,rfl⟩;have c5:=fun w (h:ae w dZ L Y1 C K1)=>pL (.own i) L.wb (i*38+4) G cW (ab.lY G).r (ab.lY G).back P.lv P.ll h
 have c8:=l4 P ab G;have I:=ox C G;have c9:=oy C (c:=.own i) i c7;obtain⟨s,Q⟩:=nm (cB C K1 (.own i));rw[Q]at c5 c8 I c9;obtain⟨x,r,K2⟩:=s;dsimp only at c5 c8 I c9;obtain⟨F,ch,am,cb⟩:=c8;have u:i<K2.wk.length:=by rw[I.2];exact c7
 have cl:0<=K2.w/\K2.w<K2.wk.length:=by rw[c9.2,I.2];exact gc
 have t:aj K2 (.own i):=G.gr I.1 I.2;obtain⟨b,a,d,f,k,g,l⟩:=x;have fr:Hid (∀w,ae w dZ L Y1 C K1->Calls prog 100 #[(L.mb,0),(L.wb,i*38+4)] w (dk (.tuple #[.agg #[b,a,d,f,.int .u64 k,g,l],r]) dZ L Y1 C K1 K2 w)):=Z c5;have gs:=Z I;have cA:=Z (And.intro G cW);have eV:=Z (show _/\_/\_/\_/\_/\_/\_/\_/\_ from⟨P,F,u,cl,t,am,cb,Q,ch⟩);go_in
 go_wp2_with fail
 with_reducible refine(fr.out _ cC.out.at_).mono ?_
 rintro e w2 ⟨rfl,eL,g2,c4⟩;have W:=Z c4;have c1:=Z (cC.nx.trans c4.nx);have c3:Hid (aR L g2 (.own i) L.wb (i*38+4)):=Z (cA.2.yk cA.1 c4.yk);obtain⟨P,F,u,cl,t,am,cb,Q,ch⟩:=eV.out;rcases ch with rfl|rfl|rfl|rfl
 ·obtain⟨X,ci⟩:=am (Or.inl rfl)
  have bx:Hid (i' b=true->0<=a/\a<32):=Z (fun _=>(dz X).1);have U:Hid (K2.out.length<=900000):=Z (by have:=F.out;omega);have av:=Z t;have E:Hid (kg C K i=dc K2 0 (.own i) ⟨b,a,d,f,k,g,l⟩):=Z (by rw[V];unfold eF;rw[Q];rfl);go_wp2
  obtain⟨A,y⟩:=nm (w2.alloc (.cells #[b,a,d,f,.int .u64 k,g,l] 152));have z:=Z (Ch.al (D:=ag) y);have R:Hid (Row A w2.heap.size 152 [b,a,d,f,.int .u64 k,g,l]/\eL w2.heap.size=.no):=Z ⟨by rw[<-y];exact Row.new w2 _ _,W.at_.fresh (Nat.le_refl _)⟩;rw[y];have c0:=Z (W.af z);have bv:=Z c0.at_;have bw:=Z (jV 0 (.own i) L.wb (i*38+4) av c3 b a d f k g l bx U bv.drew);obtain⟨ej,en,es,et,ex,eA,eC⟩:=R.1.c7;go_still_tail 5,(by kernel_rfl)
  change wpList _ _ _ _ _ A.drew;go_wp2_with fail
  with_reducible refine bw.out.mono ?_
  rintro e cq ⟨rfl,O,B,q⟩;have o:=Z (And.intro q.at_ ((c1.trans (Nx.af z)).trans ((Nx.af (Ch.refl _ A).drew).trans q.nx)));go_wp2
  go_end0
  rw[E];exact⟨rfl,O,B,o.1,o.2⟩
 ·obtain⟨X,ci⟩:=am (Or.inr rfl)
  have g7:=cb rfl;have bx:Hid (i' b=true->0<=a/\a<32):=Z (fun _=>(dz X).1);have dr:=fun(w:World) (χ:Nat->a') (Y:Var) (cd:aR L Y (.own i) L.wb (i*38+4)) (h:ae w χ L Y C K2)=>mP F (by omega) (by omega) i u none (fun j v=>by cases v) (.own i) L.wb (i*38+4) t cd ⟨b,a,d,f,k,g,l⟩ _ X g7 ci cl P.pl (fun j v=>by cases v) h
  have J:=ju (C:=C) F (by omega) u (idO:=none) t (jc.of X ci) (fun j v=>by cases v) (fun j v=>by cases v);have a2:=ko (C:=C) F (by omega) (i:=i) (idO:=none) t ⟨b,a,d,f,k,g,l⟩ (fun j v=>by cases v);have a0:=jv (C:=C) K2 i none (.own i) ⟨b,a,d,f,k,g,l⟩;have a1:=oA (C:=C) K2 i none (.own i) ⟨b,a,d,f,k,g,l⟩;have a3:Hid (eF C K1 i none (.own i)=if(az C K2 i none (.own i) ⟨b,a,d,f,k,g,l⟩).1=0 then(⟨b,a,d,f,k,g,l⟩,0,(az C K2 i none (.own i) ⟨b,a,d,f,k,g,l⟩).2.fA (.own i))else if(az C K2 i none (.own i) ⟨b,a,d,f,k,g,l⟩).1=2 then(⟨b,a,d,f,k,g,l⟩,3,(az C K2 i none (.own i) ⟨b,a,d,f,k,g,l⟩).2)else(⟨b,a,d,f,k,g,l⟩,1,(az C K2 i none (.own i) ⟨b,a,d,f,k,g,l⟩).2)):=Z (by unfold eF;rw[Q];rfl);obtain⟨p,cd⟩:=nm (az C K2 i none (.own i) ⟨b,a,d,f,k,g,l⟩);rw[cd]at dr J a2 a0 a1 a3;obtain⟨n,m⟩:=p;dsimp only at J a2 a0 a1;have fz:Hid (∀(w:World) (χ:Nat->a') (Y:Var),aR L Y (.own i) L.wb (i*38+4)->ae w χ L Y C K2->Calls prog 101 #[(L.mb,0),(L.wb,i*38),.pointer none,(L.wb,i*38+4),.agg #[b,a,d,f,.int .u64 k,g,l]] w (dO (n,m) χ L Y C K2 w)):=Z dr;have eW:=Z (show _/\_/\_/\_/\_/\_ from⟨J,a2,a0,a1,t,u⟩);go_wp2
  obtain⟨A,y⟩:=nm (w2.alloc (.cells #[b,a,d,f,.int .u64 k,g,l] 152));have z:=Z (Ch.al (D:=ag) y);have R:Hid (Row A w2.heap.size 152 [b,a,d,f,.int .u64 k,g,l]/\eL w2.heap.size=.no):=Z ⟨by rw[<-y];exact Row.new w2 _ _,W.at_.fresh (Nat.le_refl _)⟩;rw[y];have c0:=Z (W.af z);obtain⟨ej,en,es,et,ex,eA,eC⟩:=R.1.c7;go_still_tail 6,(by kernel_rfl)
  change wpList _ _ _ _ _ A.drew;go_wp2_with fail
  have g6:=fz _ _ _ c3 c0.at_.drew;with_reducible refine g6.mono ?_
  rintro e w4 ⟨rfl,eS,cQ,g5,gf,go⟩;have T:=Z g5;have cL:=Z ((Nx.af (Ch.refl _ A).drew).trans gf);have c2:=Z ((c1.trans (Nx.af z)).trans cL);have g3:=Z go;have cs:=Z (cL.row R.1 R.2);obtain⟨J,a2,a0,a1,t,u⟩:=eW.out;rcases a1 with rfl|rfl|rfl
  ·have al:=a2 rfl
   have he:i<m.wk.length:=(by rw[al.2];exact u);have c6:aj m (.own i):=t.gr al.1 al.2;have S:=Z (And.intro c6 (And.intro t al));have av:Hid (aj (m.fA (.own i)) (.own i)):=Z (c6.gr (bA c6 _) (br _ _));have gt:=Z J;have U:Hid ((m.fA (.own i)).out.length<=900000):=Z (by have:(m.fA (.own i)).out=m.out:=sx _ _;rw[this];have:=J.out;omega);have E:Hid (kg C K i=dc (m.fA (.own i)) 0 (.own i) ⟨b,a,d,f,k,g,l⟩):=Z (by rw[V,a3];rfl);have a5:=Z (c3.yk S.2.1 (g3 (by intro e;cases e)));have gk:=T.uu S.1 a5;have f0:=T.hy S.1 a5 (i*38+4);obtain⟨pc,ce⟩:=nm ((m.F (.own i)).pc);rw[ce]at gk;have dC:=T.qM S.1 a5 (wrap64 ((m.F (.own i)).pc+1));rw[ce]at dC;have g0:=Z dC;have fn:=Z ce;go_wp2
   obtain⟨gr,g4,cS⟩:=g0.out;obtain⟨cm,ge⟩:=nm (w4.setCell (L.wb,i*38+4) (.int .i64 (wrap64 (pc+1))));rw[ge]at cS⊢;have a4:Hid (dD eS L cQ C m (m.fA (.own i)) w4 gr g4 cm):=Z (by unfold KS.fA;rw[fn];exact cS);have fd:=Z a4.at_;have g1:=Z (a5.yk S.1 a4.yk);have fb:=Z (a4.nx.row cs.1 cs.2);have bw:=Z (jV 0 (.own i) L.wb (i*38+4) av g1 b a d f k g l bx U fd.drew);obtain⟨ej,en,es,et,ex,eA,eC⟩:=fb.1.c7;go_still_tail 5,(by kernel_rfl)
   change wpList _ _ _ _ _ cm.drew;go_wp2_with fail
   with_reducible refine bw.out.mono ?_
   rintro e cq ⟨rfl,O,B,q⟩;have o:=Z (And.intro q.at_ ((c2.trans a4.nx).trans ((Nx.af (Ch.refl _ cm).drew).trans q.nx)));go_wp2
   go_end0
   rw[E];exact⟨rfl,O,B,o.1,o.2⟩
  ·have E:Hid (kg C K i=m):=Z (by rw[V,a3];rfl)
   go_wp2
   go_end0
   rw[E];exact⟨rfl,eS,cQ,T,c2⟩
  ·have g8:=a0 rfl
   have U:Hid (m.out.length<=900000):=Z (by have:=J.out;omega);have bi:Hid (i<m.wk.length):=Z (by rw[g8.2];exact u);have E:Hid (kg C K i=gJ C m i):=Z (by rw[V,a3];rfl);have ap:=Z (iM i bi T);go_wp2_with fail
   with_reducible refine ap.out.mono ?_
   rintro e cq ⟨rfl,O,B,q⟩;have o:=Z (And.intro q.at_ ((c2).trans q.nx));go_wp2
   go_end0
   rw[E];exact⟨rfl,O,B,o.1,o.2⟩
 all_goals
  have U:Hid (K2.out.length<=900000):=Z (by have:=F.out;omega);have bi:=Z u;have E:Hid (kg C K i=gJ C K2 i):=Z (by rw[V];unfold eF;rw[Q];rfl);go_wp2_with fail
  generalize y:w2.alloc _=A;have z:=Z (Ch.al (D:=ag) y);have bv:=Z (W.af z).at_;have ap:=Z (iM i bi bv);go_wp2_with fail
  with_reducible refine ap.out.mono ?_
  rintro e cq ⟨rfl,O,B,q⟩;have o:=Z (And.intro q.at_ ((c1.trans (Nx.af z)).trans q.nx));go_wp2
  go_end0
  rw[E];exact⟨rfl,O,B,o.1,o.2⟩
theorem ld(a0:ow C)(i1:Inv N M K)(j':N<=700000)(jr:M<=700000)(i:Nat)(i2:i<K.wk.length)(id:Int)(t:Thread)(ej:aw K.ai id=some t)(i6:(K.W i).slot=id)(c3:id≠0)(c6:t.l.length%2=0)(k:Nat)(k1:k+1=t.l.length)(i8:0<=K.w/\K.w<K.wk.length)(i3:(cD C K i id k).clock.fl=[])(h:ae w χ L Y C K):
 Calls prog 62 #[(L.mb,0),(L.wb,i*38),(Y.bI id,0),(Y.fb id k,0)] w (si (.tuple #[]) χ L C (cD C K i id k) w):=by
 have hm:=Z i3;have cL:=i1;have g2:=i2;have i9:=i8;have fn:=Z (dD.refl h);have a4:Hid (cD C K i id k=if(eF C K i (some id) (.ai id k)).2.1=0 then dc (eF C K i (some id) (.ai id k)).2.2 id (.ai id k) (eF C K i (some id) (.ai id k)).1 else if(eF C K i (some id) (.ai id k)).2.1=3∨(eF C K i (some id) (.ai id k)).2.1=2 then eE (eF C K i (some id) (.ai id k)).2.2 id 22 0 else(eF C K i (some id) (.ai id k)).2.2):=Z (by unfold cD;rfl);have S:aj K (.ai id k):=⟨t,ej,by omega⟩;obtain⟨b,hb⟩:=nm (Y.fb id k);obtain⟨tb,g8⟩:=nm (Y.bI id);have g4:aR L Y (.ai id k) b 0:=⟨hb.symm,rfl⟩;rw[hb,g8];have en:=pR C (K:=K) (k:=k) ej;have cQ:=fun w (h:ae w χ L Y C K)=>pL (.ai id k) b 0 S g4 (cL.lY S).r (cL.lY S).back a0.lv a0.ll h
 have cS:=l4 a0 cL S;have U:=ox C S;have c5:=oy C (c:=.ai id k) i g2;obtain⟨s,V⟩:=nm (cB C K (.ai id k));rw[V]at cQ cS U c5 en;obtain⟨x,r,K2⟩:=s;dsimp only at cQ cS U c5 en;obtain⟨A,dN,c8,cW⟩:=cS;have T:i<K2.wk.length:=by rw[U.2];exact g2
 have ex:0<=K2.w/\K2.w<K2.wk.length:=by rw[c5.2,U.2];exact i9
 have G:aj K2 (.ai id k):=S.gr U.1 U.2;obtain⟨t2,y,c7,_⟩:=en;have am:=(A.de y).id;have c9:(K2.W i).slot=id:=c5.1.trans i6;obtain⟨d,a,f,g,m,l,o⟩:=x;have hu:Hid (∀w,ae w χ L Y C K->Calls prog 100 #[(L.mb,0),(b,0)] w (dk (.tuple #[.agg #[d,a,f,g,.int .u64 m,l,o],r]) χ L Y C K K2 w)):=Z cQ;have j9:=Z U;have eV:=Z (And.intro S g4);have fb:=Z (And.intro ej g8);have he:=Z (show _/\_/\_/\_/\_/\_/\_/\_/\_/\_/\_/\_/\_/\_/\_ from⟨a0,A,T,ex,G,c8,cW,V,dN,y,am,c9,c3,c7,c6⟩);go_in
 go_wp2_with fail
 with_reducible refine(hu.out _ fn.out.at_).mono ?_
 rintro e w2 ⟨rfl,gt,hF,c4⟩;have a9:=Z c4;have cm:=Z (fn.nx.trans c4.nx);have cs:Hid (aR L hF (.ai id k) b 0):=Z (eV.2.yk eV.1 c4.yk);have g9:=(c4.yk id t fb.1).1;rw[fb.2]at g9;have a5:=Z g9;obtain⟨a0,A,T,ex,G,c8,cW,V,dN,y,am,c9,c3,c7,c6⟩:=he.out;rcases dN with rfl|rfl|rfl|rfl
 ·have z:Hid (aw K2.ai id=some t2/\t2.id=id/\1<t2.l.length/\t2.l.length<=8):=Z ⟨y,am,by have:=(A.de y).l.n0;omega,(A.de y).l.n8⟩
  obtain⟨ap,et⟩:=c8 (Or.inl rfl);have ch:Hid (i' d=true->0<=a/\a<32):=Z (fun _=>(dz ap).1);have Q:Hid (K2.out.length<=900000):=Z (by have:=A.out;omega);have cd:=Z G;have E:Hid (cD C K i id k=dc K2 id (.ai id k) ⟨d,a,f,g,m,l,o⟩):=Z (by rw[a4];unfold eF;rw[V];rfl);go_wp2
  obtain⟨P,J⟩:=nm (w2.alloc (.cells #[d,a,f,g,.int .u64 m,l,o] 152));have O:=Z (Ch.al (D:=ag) J);have a2:Hid (Row P w2.heap.size 152 [d,a,f,g,.int .u64 m,l,o]/\gt w2.heap.size=.no):=Z ⟨by rw[<-J];exact Row.new w2 _ _,a9.at_.fresh (Nat.le_refl _)⟩;rw[J];have cl:=Z (a9.af O);have c0:=Z cl.at_;have ce:=Z (jV id (.ai id k) b 0 cd cs d a f g m l o ch Q c0.drew);obtain⟨gc,ge,gf,gk,go,gr,gs⟩:=a2.1.c7;have cC:=c0.gw z.1;rw[z.2.1,a5]at cC;go_still_tail 9,(by kernel_rfl)
  change wpList _ _ _ _ _ P.drew;go_wp2_with fail
  with_reducible refine ce.out.mono ?_
  rintro e eL ⟨rfl,W,R,H⟩;have B:=Z (And.intro H.at_ ((cm.trans (Nx.af O)).trans ((Nx.af (Ch.refl _ P).drew).trans H.nx)));go_wp2
  go_end0
  rw[E];exact⟨rfl,W,R,B.1,B.2⟩
 ·have z:Hid (aw K2.ai id=some t2/\t2.id=id/\1<t2.l.length/\t2.l.length<=8):=Z ⟨y,am,by have:=(A.de y).l.n0;omega,(A.de y).l.n8⟩
  obtain⟨ap,et⟩:=c8 (Or.inr rfl);have i4:=cW rfl;have ch:Hid (i' d=true->0<=a/\a<32):=Z (fun _=>(dz ap).1);have g3:∀j,some id=some j->(az C K2 i (some id) (.ai id k) ⟨d,a,f,g,m,l,o⟩).2.clock.fl=[]:=fun _ _=>by rw[<-je V];exact hm
  have g5:=fun(w:World) (χ:Nat->a') (Y:Var) (dr:aR L Y (.ai id k) b 0) (h:ae w χ L Y C K2)=>mP A (by omega) (by omega) i T (some id) (fun j F=>by injection F with F;subst F;exact⟨c9,c3,t2,y,by rw[c7];exact c6⟩) (.ai id k) b 0 G dr ⟨d,a,f,g,m,l,o⟩ _ ap i4 et ex a0.pl g3 h
  have I:=ju (C:=C) A (by omega) T (idO:=(some id)) G (jc.of ap et) (fun j F=>by injection F with F;subst F;exact⟨c9,c3,t2,y,by rw[c7];exact c6⟩) g3;have bv:=ko (C:=C) A (by omega) (i:=i) (idO:=(some id)) G ⟨d,a,f,g,m,l,o⟩ (fun j F=>by injection F with F;subst F;exact⟨t2,y⟩);have av:=jv (C:=C) K2 i (some id) (.ai id k) ⟨d,a,f,g,m,l,o⟩;have bi:=oA (C:=C) K2 i (some id) (.ai id k) ⟨d,a,f,g,m,l,o⟩;have bx:Hid (eF C K i (some id) (.ai id k)=if(az C K2 i (some id) (.ai id k) ⟨d,a,f,g,m,l,o⟩).1=0 then(⟨d,a,f,g,m,l,o⟩,0,(az C K2 i (some id) (.ai id k) ⟨d,a,f,g,m,l,o⟩).2.fA (.ai id k))else if(az C K2 i (some id) (.ai id k) ⟨d,a,f,g,m,l,o⟩).1=2 then(⟨d,a,f,g,m,l,o⟩,3,(az C K2 i (some id) (.ai id k) ⟨d,a,f,g,m,l,o⟩).2)else(⟨d,a,f,g,m,l,o⟩,1,(az C K2 i (some id) (.ai id k) ⟨d,a,f,g,m,l,o⟩).2)):=Z (by unfold eF;rw[V];rfl);obtain⟨p,dr⟩:=nm (az C K2 i (some id) (.ai id k) ⟨d,a,f,g,m,l,o⟩);rw[dr]at g5 I bv av bi bx;obtain⟨n,q⟩:=p;dsimp only at I bv av bi;have hv:Hid (∀(w:World) (χ:Nat->a') (Y:Var),aR L Y (.ai id k) b 0->ae w χ L Y C K2->Calls prog 101 #[(L.mb,0),(L.wb,i*38),(Y.bI id,0),(b,0),.agg #[d,a,f,g,.int .u64 m,l,o]] w (dO (n,q) χ L Y C K2 w)):=Z g5;have hf:=Z (show _/\_/\_/\_/\_/\_ from⟨I,bv,av,bi,G,T⟩);go_wp2
  obtain⟨P,J⟩:=nm (w2.alloc (.cells #[d,a,f,g,.int .u64 m,l,o] 152));have O:=Z (Ch.al (D:=ag) J);have a2:Hid (Row P w2.heap.size 152 [d,a,f,g,.int .u64 m,l,o]/\gt w2.heap.size=.no):=Z ⟨by rw[<-J];exact Row.new w2 _ _,a9.at_.fresh (Nat.le_refl _)⟩;rw[J];have cl:=Z (a9.af O);obtain⟨gc,ge,gf,gk,go,gr,gs⟩:=a2.1.c7;go_still_tail 7,(by kernel_rfl)
  change wpList _ _ _ _ _ P.drew;go_wp2_with fail
  have g1:=hv _ _ _ cs cl.at_.drew;rw[a5]at g1;with_reducible refine g1.mono ?_
  rintro e w4 ⟨rfl,hd,fz,i0,ii,ip⟩;have a3:=Z i0;have fr:=Z ((Nx.af (Ch.refl _ P).drew).trans ii);have cq:=Z ((cm.trans (Nx.af O)).trans fr);have cA:=Z ip;have eS:=Z (fr.row a2.1 a2.2);obtain⟨I,bv,av,bi,G,T⟩:=hf.out;rcases bi with rfl|rfl|rfl
  ·have al:=bv rfl
   have k0:i<q.wk.length:=(by rw[al.2];exact T);have a1:aj q (.ai id k):=G.gr al.1 al.2;have X:=Z (And.intro a1 (And.intro G al));have cd:Hid (aj (q.fA (.ai id k)) (.ai id k)):=Z (a1.gr (bA a1 _) (br _ _));have jp:=Z I;have Q:Hid ((q.fA (.ai id k)).out.length<=900000):=Z (by have:(q.fA (.ai id k)).out=q.out:=sx _ _;rw[this];have:=I.out;omega);have E:Hid (cD C K i id k=dc (q.fA (.ai id k)) id (.ai id k) ⟨d,a,f,g,m,l,o⟩):=Z (by rw[a4,bx];rfl);obtain⟨t4,g7⟩:∃t4,aw (q.fA (.ai id k)).ai id=some t4:=by obtain⟨u,es,_⟩:=al.1 id t2 z.1;obtain⟨v,i7,_⟩:=bA a1 {q.F (.ai id k)with pc:=wrap64 ((q.F (.ai id k)).pc+1)} id u es;exact⟨v,i7⟩
   have fd:Hid (aw (q.fA (.ai id k)).ai id=some t4/\t4.id=id):=Z ⟨g7,((I.cI a1 ((I.lY a1).pc _)).de g7).id⟩;have c2:=Z (cs.yk X.2.1 (cA (by intro e;cases e)));have io:=a3.uu X.1 c2;have f0:=a3.hy X.1 c2 0;obtain⟨pc,dC⟩:=nm ((q.F (.ai id k)).pc);rw[dC]at io;have g6:=a3.qM X.1 c2 (wrap64 ((q.F (.ai id k)).pc+1));rw[dC]at g6;have hw:=Z g6;have hn:=Z dC;have bw:=(cA (by intro e;cases e) id t2 z.1).1;rw[a5]at bw;have ci:=Z bw;go_wp2
   obtain⟨it,hK,g0⟩:=hw.out;obtain⟨eC,ih⟩:=nm (w4.setCell (b,0) (.int .i64 (wrap64 (pc+1))));rw[ih]at g0⊢;have ab:Hid (dD hd L fz C q (q.fA (.ai id k)) w4 it hK eC):=Z (by unfold KS.fA;rw[hn];exact g0);have eW:=Z ab.at_;have hB:=Z (c2.yk X.1 ab.yk);have hi:=Z (ab.nx.row eS.1 eS.2);have ce:=Z (jV id (.ai id k) b 0 cd hB d a f g m l o ch Q eW.drew);obtain⟨gc,ge,gf,gk,go,gr,gs⟩:=hi.1.c7;have cC:=eW.gw fd.1;obtain⟨u,es,_⟩:=X.2.2.1 id t2 z.1;rw[fd.2,(ab.yk id u es).1,ci]at cC;go_still_tail 9,(by kernel_rfl)
   change wpList _ _ _ _ _ eC.drew;go_wp2_with fail
   with_reducible refine ce.out.mono ?_
   rintro e eL ⟨rfl,W,R,H⟩;have B:=Z (And.intro H.at_ ((cq.trans ab.nx).trans ((Nx.af (Ch.refl _ eC).drew).trans H.nx)));go_wp2
   go_end0
   rw[E];exact⟨rfl,W,R,B.1,B.2⟩
  ·have E:Hid (cD C K i id k=q):=Z (by rw[a4,bx];rfl)
   go_wp2
   go_end0
   rw[E];exact⟨rfl,hd,fz,a3,cq⟩
  ·have i5:=av rfl
   have Q:Hid (q.out.length<=900000):=Z (by have:=I.out;omega);have c1:Hid (aw q.ai id=some t2/\t2.id=id/\1<t2.l.length/\t2.l.length<=8):=Z ⟨by rw[i5.1];exact z.1,z.2⟩;have E:Hid (cD C K i id k=eE q id 22 0):=Z (by rw[a4,bx];rfl);have bw:=(cA (by intro e;cases e) id t2 z.1).1;rw[a5]at bw;have ci:=Z bw;have ad:=hO id t2 c1.1 c1.2.1 c1.2.2.1 c1.2.2.2 22 0 Q a3;rw[ci]at ad;have cb:=Z ad;go_wp2_with fail
   with_reducible refine cb.out.mono ?_
   rintro e eL ⟨rfl,W,R,H,eA⟩;have B:=Z (And.intro H ((cq).trans eA));go_wp2
   go_end0
   rw[E];exact⟨rfl,W,R,B.1,B.2⟩
 all_goals
  have z:Hid (aw K2.ai id=some t2/\t2.id=id/\1<t2.l.length/\t2.l.length<=8):=Z ⟨y,am,by have:=(A.de y).l.n0;omega,(A.de y).l.n8⟩;have Q:Hid (K2.out.length<=900000):=Z (by have:=A.out;omega);have E:Hid (cD C K i id k=eE K2 id 22 0):=Z (by rw[a4];unfold eF;rw[V];rfl);go_wp2_with fail
  generalize J:w2.alloc _=P;have O:=Z (Ch.al (D:=ag) J);have c0:=Z (a9.af O).at_;have ad:=hO id t2 z.1 z.2.1 z.2.2.1 z.2.2.2 22 0 Q c0;rw[a5]at ad;have cb:=Z ad;go_wp2_with fail
  with_reducible refine cb.out.mono ?_
  rintro e eL ⟨rfl,W,R,H,eA⟩;have B:=Z (And.intro H ((cm.trans (Nx.af O)).trans eA));go_wp2
  go_end0
  rw[E];exact⟨rfl,W,R,B.1,B.2⟩
variable{b:Nat}{t:TypeId}{pre:List Value}{v:Value}{f:cP}
def uL(T:TypeId)(l:List Value)(w:World)(p:Value)(wc:World):Prop:=∃a,p=.pointer (some ⟨a,0,none⟩)/\Row wc a T l/\Ch ag w wc/\w.heap.size<=a
theorem hR{w:World}{post:List Value}(h:aJ w b 0 t pre post v f)(k:Nat)(a:k<32):w.cell? (b,1+k)=some (.int .u64 (f.r k)):=by
 have:=h.mD k a
 rwa [show 0+1+k=1+k by omega]at this
theorem e3{w:World}{post:List Value}(h:aJ w b 0 t pre post v f)(c:t≠3)(k:Nat)(a:k<32)(x:Int):aJ (w.setCell (b,1+k) (.int .u64 x)) b 0 t pre post v {f with r:=fW f.r k x}:=by
 have:=h.qu c k a x
 rwa [show 0+1+k=1+k by omega]at this
theorem CJ{f:FuncId}{args:Array Value}{w:World}(h:Calls prog f args w (ez v w)):Calls prog f args w (ds v w):=h.mono fun _ _ h=>⟨h.1,by rw[h.2];exact Ch.refl _ _⟩
def bn(K:KS)(k0 k1 k2 k3 a0 a1 a2 a3:Int)(k:Nat):Nat->Int:=fun j=>
 if j=0 then(if k<=0 then a0 else dg K k0 a0)else if j=1 then(if k<=1 then a1 else dg K k1 a1)else if j=2 then(if k<=2 then a2 else dg K k2 a2)else if j=3 then(if k<=3 then a3 else dg K k3 a3)else 0
variable{k0 k1 k2 k3 a0 a1 a2 a3:Int}
theorem qZ(x:Int)(h:x=dg K k0 a0):fW (bn K k0 k1 k2 k3 a0 a1 a2 a3 0) 0 x=bn K k0 k1 k2 k3 a0 a1 a2 a3 1:=by
 funext j;unfold fW bn
 by_cases a:j=0
 ·subst a;simp[h]
 ·by_cases c:j=1<;>by_cases d:j=2<;>by_cases e:j=3<;>simp[a,c,d,e]
theorem q0(x:Int)(h:x=dg K k1 a1):fW (bn K k0 k1 k2 k3 a0 a1 a2 a3 1) 1 x=bn K k0 k1 k2 k3 a0 a1 a2 a3 2:=by
 funext j;unfold fW bn
 by_cases a:j=1
 ·subst a;simp[h]
 ·by_cases c:j=0<;>by_cases d:j=2<;>by_cases e:j=3<;>simp[c,a,d,e]
theorem q1(x:Int)(h:x=dg K k2 a2):fW (bn K k0 k1 k2 k3 a0 a1 a2 a3 2) 2 x=bn K k0 k1 k2 k3 a0 a1 a2 a3 3:=by
 funext j;unfold fW bn
 by_cases a:j=2
 ·subst a;simp[h]
 ·by_cases c:j=0<;>by_cases d:j=1<;>by_cases e:j=3<;>simp[c,d,a,e]
theorem q2(x:Int)(h:x=dg K k3 a3):fW (bn K k0 k1 k2 k3 a0 a1 a2 a3 3) 3 x=bn K k0 k1 k2 k3 a0 a1 a2 a3 4:=by
 funext j;unfold fW bn
 by_cases a:j=3
 ·subst a;simp[h]
 ·by_cases c:j=0<;>by_cases d:j=1<;>by_cases e:j=2<;>simp[c,d,e,a]
theorem AB(h:a0=dg K k0 a0):bn K k0 k1 k2 k3 a0 a1 a2 a3 1=bn K k0 k1 k2 k3 a0 a1 a2 a3 0:=by rw[<-qZ a0 h];funext j;unfold fW bn;by_cases e:j=0<;>simp[e]
theorem AD(h:a1=dg K k1 a1):bn K k0 k1 k2 k3 a0 a1 a2 a3 2=bn K k0 k1 k2 k3 a0 a1 a2 a3 1:=by rw[<-q0 a1 h];funext j;unfold fW bn;by_cases e:j=1<;>simp[e]
theorem AE(h:a2=dg K k2 a2):bn K k0 k1 k2 k3 a0 a1 a2 a3 3=bn K k0 k1 k2 k3 a0 a1 a2 a3 2:=by rw[<-q1 a2 h];funext j;unfold fW bn;by_cases e:j=2<;>simp[e]
theorem AF(h:a3=dg K k3 a3):bn K k0 k1 k2 k3 a0 a1 a2 a3 4=bn K k0 k1 k2 k3 a0 a1 a2 a3 3:=by rw[<-q2 a3 h];funext j;unfold fW bn;by_cases e:j=3<;>simp[e]
def pS(K:KS)(k0 k1 k2 k3 a0 a1 a2 a3 n:Int):Nat->Int:=fun j=>if j=0 then dg K k0 a0 else if j=1 then dg K k1 a1 else if j=2 then dg K k2 a2 else if j=3 then dg K k3 a3 else if j=30 then a0 else if j=31 then n else 0
theorem yq(n:Int):fW (fW (bn K k0 k1 k2 k3 a0 a1 a2 a3 4) 30 a0) 31 n=pS K k0 k1 k2 k3 a0 a1 a2 a3 n:=by
 funext j;unfold fW bn pS
 by_cases a:j=31
 ·subst a;simp
 ·by_cases c:j=30
  ·subst c;simp
  ·simp[a,c]
variable{w':World}
theorem pT{N M:Nat}(a9:ow C)(ch:Inv N M K)(py:N<=700000)(px:M<=700000)(id:Int)(t:Thread)(bv:aw K.ai id=some t)(k:Nat)(lw:k+1=t.l.length)(lF:t.l.length%2=1)(num:Int)(lH:0<=num)(fd:num<=1000000)(h:ae w χ L Y C K):
 Calls prog 106 #[(L.mb,0),(Y.bI id,0),.pointer (some ⟨Y.fb id k,0,none⟩),num] w (si (.tuple #[]) χ L C (hr C K id k num) w):=by
 have ci:aj K (.ai id k):=⟨t,bv,by omega⟩;have hid:=(ch.de bv).id;have hi:=(ch.de bv).l;have mb:=(ch.lY ci).r;obtain⟨b,hb⟩:=nm (Y.fb id k);obtain⟨tb,fz⟩:=nm (Y.bI id);have ej:aR L Y (.ai id k) b 0:=⟨hb.symm,rfl⟩;rw[hb,fz];obtain⟨a0,ge⟩:∃a,(K.F (.ai id k)).r 0=a:=⟨_,rfl⟩;obtain⟨a1,gf⟩:∃a,(K.F (.ai id k)).r 1=a:=⟨_,rfl⟩;obtain⟨a2,go⟩:∃a,(K.F (.ai id k)).r 2=a:=⟨_,rfl⟩;obtain⟨a3,gr⟩:∃a,(K.F (.ai id k)).r 3=a:=⟨_,rfl⟩;have ms:w.cell? (b,1)=some (.int .u64 a0):=by have:=h.aA ci ej 0 (by omega);rw[ge]at this;exact this
 have mv:w.cell? (b,2)=some (.int .u64 a1):=by have:=h.aA ci ej 1 (by omega);rw[gf]at this;exact this
 have mz:w.cell? (b,3)=some (.int .u64 a2):=by have:=h.aA ci ej 2 (by omega);rw[go]at this;exact this
 have mA:w.cell? (b,4)=some (.int .u64 a3):=by have:=h.aA ci ej 3 (by omega);rw[gr]at this;exact this
 have cb:=h.gw bv;rw[hid,fz]at cb;have pN:∀w,(Instr.arrayAt 157 (.slice (some (b,1)) 4 32)).run prog w=.ok (.pointer (some (b,1))) w:=fun w=>by kernel_rfl
 obtain⟨K1,dC⟩:=nm (tell K ⟨1,0,0,id,num,a0,a1,a2,a3,0,0⟩);have gc:Inv N (M+1) K1:=by rw[<-dC];exact ch.tell _
 have en:aw K1.ai id=some t:=by rw[<-dC];exact bv
 have i0:=Z (fun w (h:ae w χ L Y C K)=>dI 1 0 0 id num a0 a1 a2 a3 0 0 (by have:=ch.out;omega) h);rw[dC]at i0;have hd:=hi.n8;have fn:=hi.n0;have hK:=Z (fun(w:World) (χ:Nat->a') (Y:Var) (h:ae w χ L Y C K1)=>qY id t en fn hd num lH a0 a1 a2 a3 a9.bw a9.rows a9.cl h);have eS:Hid (hr C K id k num=if cM C K1 id num a0 a1 a2 a3≠0 then dq K1 id num (cM C K1 id num a0 a1 a2 a3) 0 else
  K1.cp id {K1.T id with l:=(K1.T id).l++[⟨⟨(C.calls.getD (C.rows.getD num.toNat 0-1).toNat default).at_,fun j=>if j=0 then dg K1 (C.calls.getD (C.rows.getD num.toNat 0-1).toNat default).k0 a0 else if j=1 then dg K1 (C.calls.getD (C.rows.getD num.toNat 0-1).toNat default).k1 a1 else if j=2 then dg K1 (C.calls.getD (C.rows.getD num.toNat 0-1).toNat default).k2 a2 else if j=3 then dg K1 (C.calls.getD (C.rows.getD num.toNat 0-1).toNat default).k3 a3 else if j=30 then a0 else if j=31 then IntKind.u64.wrap num else 0,[]⟩,true,num⟩]}):=Z (by unfold hr;dsimp only;rw[ge,gf,go,gr,dC])
 obtain⟨hn,he⟩:=nm (cM C K1 id num a0 a1 a2 a3);rw[he]at hK eS;have J:=Z (And.intro bv (And.intro fz (And.intro en hid)));have g8:=Z (dD.refl h);have nd:Hid (K1.out.length<=900000):=Z (by have:=gc.out;omega);by_cases io:hn=0
 ·subst io
  have nq:=Z he;have lI:num<1000/\C.rows.getD num.toNat 0≠0/\(t.l.length<7∨num=2):=by
   have:=nq.out;unfold cM at this;split at this
   ·cases this
   ·rename_i I
    split at this
    ·cases this
    ·rename_i G
     rw[KS.dm en]at G;refine⟨by omega,fun e=>I (Or.inr e),?_⟩;by_cases e:num=2
     ·exact Or.inr e
     ·exact Or.inl (by omega)
  obtain⟨m,rfl⟩:=Int.eq_ofNat_of_zero_le lH;have gt:m<C.rows.length:=by rw[a9.Eu];omega
  obtain⟨r,hf⟩:∃r,C.rows[m]?=some r:=⟨_,List.getElem?_eq_getElem gt⟩;have oC:=a9.rows r (List.mem_of_getElem? hf);have ii:C.rows.getD (m:Int).toNat 0=r:=by rw[Int.toNat_natCast,List.getD_eq_getElem?_getD,hf];rfl
  obtain⟨q,rfl⟩:∃q:Nat,r=(q:Int)+1:=⟨(r-1).toNat,by have:=lI.2.1;rw[ii]at this;omega⟩;obtain⟨cd,O⟩:∃cd,C.calls[q]?=some cd:=⟨_,List.getElem?_eq_getElem (by omega)⟩;have lm:C.calls.getD (C.rows.getD (m:Int).toNat 0-1).toNat default=cd:=by rw[ii,show((q:Int)+1-1).toNat=q by omega,List.getD_eq_getElem?_getD,O];rfl
  rw[lm]at eS;obtain⟨l1,cat,k0,k1,k2,k3⟩:=cd;dsimp only at eS;have j':=Z (And.intro hf O);have qj:(m:Int)<1000:=by omega
  have qi:(0:Int)<=(m:Int):=by omega
  have ql:(0:Int)<=(q:Int):=by omega
  have rc:IntKind.i64.wrap (q:Int)=q:=IntWalk.i64_in _ (by have:=a9.cl;have:=(List.getElem?_eq_some_iff.1 O).1;omega);obtain⟨kT,lb⟩:=nm C.calls.length;have qr:(q:Int)<(kT:Int):=by have:=(List.getElem?_eq_some_iff.1 O).1;omega
  have n8:=Z lb;have p2:IntKind.i64.wrap ((q:Int)+1-1)=q:=by rw[show(q:Int)+1-1=q by omega];exact IntWalk.i64_in _ (by have:=a9.cl;omega)
  have p3:(q:Int)+1-1=q:=by omega
  have qm:(q:Int)<=2048:=by have:=a9.cl;omega
  have lG:t.l.length<8:=by omega
  obtain⟨eV,lc⟩:=mn t.l.length;have eL:=Z (And.intro lc (And.intro lG fn));have rb:eV<8:=by omega
  have li:0<=gT K1/\gT K1<=600:=by have:=gc.w1;unfold gT;omega
  have ex:=Z (fun(w:World) (χ:Nat->a') (Y:Var) (h:ae w χ L Y C K1)=>lT h);obtain⟨V,i5⟩:=nm (gT K1);rw[i5]at ex li;have g3:=Z i5;have g5:=Z (fun(w:World) (χ:Nat->a') (Y:Var) (a k:Int) (h:ae w χ L Y C K1)=>zX (K:=K1) a k h);obtain⟨q7,qb⟩:=li;have es:IntKind.u64.wrap V=V:=by unfold IntKind.wrap IntKind.bits IntKind.signed;simp;omega
  have av:=Z es;obtain⟨pa,lv,d,mk,mp⟩:=info_parts Ab;have g6:=Z (And.intro lv (And.intro d (And.intro mk mp)));clear lv d mk mp lI gt oC ii lm hf O lb lG lc i5 es;clear h ci ej bv hb fz ch ge gf go gr mb hid hi a9 lw lF hd fn gc en dC he;go_in
  go_wp2
  obtain⟨w1,ad⟩:=nm (w.alloc (.cells #[.int .u64 a0,.int .u64 a1,.int .u64 a2,.int .u64 a3] 157));have hw:=Z (Ch.al (D:=ag) ad);have bw:Hid (Row w1 w.heap.size 157 [.int .u64 a0,.int .u64 a1,.int .u64 a2,.int .u64 a3]/\χ w.heap.size=.no):=Z ⟨by rw[<-ad];exact Row.new w _ _,g8.at_.fresh (Nat.le_refl _)⟩;rw[ad];clear ad ms mv mz mA;have c5:=Z (g8.af hw);obtain⟨al,cL,cQ,cS⟩:=bw.1.c4;have cb:=c5.at_.gw J.1;rw[J.2.2.2,J.2.1]at cb;go_still_tail 8,(by kernel_rfl)
  change wpList _ _ _ _ _ w1.drew;go_wp2_with fail
  with_reducible refine(i0.out _ c5.out.at_.drew).mono ?_
  rintro e w2 ⟨rfl,pm,l0,G⟩;have c6:=Z ((c5.af (Ch.refl _ w1).drew).trans (Gr.refl _) G);have bx:=Z (((Nx.af (Ch.refl _ w1).drew).trans G.nx).row bw.1 bw.2);have cq:=(c6.yk id t J.1).1;rw[J.2.1]at cq;have c4:=Z cq;clear G cq al cL cQ cS cb;obtain⟨al,cL,cQ,cS⟩:=bx.1.c4;go_wp2_with fail
  have cm:=hK _ _ _ c6.at_;rw[c4]at cm;with_reducible refine cm.mono ?_
  clear cm;rintro e am ⟨rfl,cl⟩;have c7:=Z (c6.af cl);have g2:=Z ((Nx.af cl).row bx.1 bx.2);clear cl al cL cQ cS;have al:=g2.1.c1;obtain⟨ab,lt,hv,mL,mM,mS,mW,n0⟩:=c7.at_.wu j'.2;dsimp only at hv mL mM mS mW n0;have a4:=c7.at_.c2;rw[lt,n8]at a4;have cd:=c7.at_.Ec j'.1;clear lt;go_wp2
  go_cut [10] (fun p wc=>uL 121 [l1,cat,k0,k1,k2,k3] am p wc)
  case first=>
   have ro:=World.new_ne am ⟨L.mb,2,none⟩ a4;have rt:=World.new_ne am ⟨L.mb,7+m,none⟩ cd;have rx:=World.new_ne am ⟨ab,q*6,none⟩ hv;have re:L.mb≠am.heap.size:=Nat.ne_of_lt (aQ a4);have rg:ab≠am.heap.size:=Nat.ne_of_lt (aQ hv);go_region_held3 (fun w'=>w'.cell? (L.mb,2)=some (.slice (some (ab,0)) kT L.GB)/\w'.cell? (L.mb,7+m)=some (.int .i64 ((q:Int)+1))/\w'.cell? (ab,q*6)=some (.int .i64 l1)/\w'.cell? (ab,q*6+1)=some (.int .i64 cat)/\w'.cell? (ab,q*6+2)=some (.int .i64 k0)/\w'.cell? (ab,q*6+3)=some (.int .i64 k1)/\w'.cell? (ab,q*6+4)=some (.int .i64 k2)/\w'.cell? (ab,q*6+5)=some (.int .i64 k3)) (go_keep) (fail)
   all_goals(go_wp2_with fail;go_meet)
   all_goals exact⟨am.heap.size,rfl,(Row.new am _ _).drew,ay,Nat.le_refl _⟩
  case rest=>
   obtain⟨pv,rfl,mc,i6,hle⟩:=hcut;obtain⟨w4,p8⟩:=nm wc;subst p8;have ap:=Z mc;have dr:=Z (c7.af i6);have c0:=Z ((Nx.af i6).row g2.1 g2.2);clear mc i6 al hv mL mM mS mW n0 a4 cd p2 p3 hle;have x1:=ap.k 1 rfl;have x2:=ap.k 2 rfl;have x3:=ap.k 3 rfl;have x4:=ap.k 4 rfl;have x5:=ap.k 5 rfl;go_upto_region 7 with fail
   obtain⟨mC,g0⟩:=nm (wc.alloc (.cells #[.int .i64 0,.int .u64 0,.int .u64 0,.int .u64 0,.int .u64 0,.int .u64 0,.int .u64 0,.int .u64 0,.int .u64 0,.int .u64 0,.int .u64 0,.int .u64 0,.int .u64 0,.int .u64 0,.int .u64 0,.int .u64 0,.int .u64 0,.int .u64 0,.int .u64 0,.int .u64 0,.int .u64 0,.int .u64 0,.int .u64 0,.int .u64 0,.int .u64 0,.int .u64 0,.int .u64 0,.int .u64 0,.int .u64 0,.int .u64 0,.int .u64 0,.int .u64 0,.int .u64 0,.slice none 0 0,.bool true,.int .i64 (m:Int)] 169));have eA:=Z (Ch.al (D:=ag) g0);have eC:=Z (Row.al g0);have kw:Hid (mC.heap.size=wc.heap.size+1):=Z (by rw[<-g0];simp);rw[g0];clear g0;obtain⟨F,hF⟩:=mn wc.heap.size;have na:=Z (dr.at_.fresh (i:=F) (by rw[hF];exact Nat.le_refl _));have R:=Z hF;rw[<-hF]at eC kw⊢;clear hF;have nx:=Z (dr.af eA);have n1:=Z ((Nx.af eA).row c0.1 c0.2);have kf:=Z (ap.ch eA (fun h=>h));clear x1 x2 x3 x4 x5;have x1:=kf.k 1 rfl;have f0:=eC.c1;have eW:=eC.free 0;go_upto_region 8 with fail
   obtain⟨cW,g1⟩:=nm (mC.setCell (F,0) (.int .i64 cat));have g4:Hid (Ch ag wc cW):=Z (by rw[<-g1];exact eA.set (p:=⟨F,0,none⟩) (Or.inr (by rw[R];exact Nat.le_refl _)) _);have hB:Hid (Row cW F 169 [cat,.int .u64 0,.int .u64 0,.int .u64 0,.int .u64 0,.int .u64 0,.int .u64 0,.int .u64 0,.int .u64 0,.int .u64 0,.int .u64 0,.int .u64 0,.int .u64 0,.int .u64 0,.int .u64 0,.int .u64 0,.int .u64 0,.int .u64 0,.int .u64 0,.int .u64 0,.int .u64 0,.int .u64 0,.int .u64 0,.int .u64 0,.int .u64 0,.int .u64 0,.int .u64 0,.int .u64 0,.int .u64 0,.int .u64 0,.int .u64 0,.int .u64 0,.int .u64 0,.slice none 0 0,.bool true,.int .i64 (m:Int)]):=Z (by rw[<-g1];exact eC.set 0 _);rw[g1];have pu:Hid (cW.heap.size=F+1):=Z (by rw[<-g1];simpa using kw.out);clear g1 x1 f0 eW;have jp:=Z ((Nx.af g4).row c0.1 c0.2);have ni:=Z (ap.ch g4 (fun h=>h));have ll:=nN (P:=prog) cW.drew 35 35 3 22 1 F 1 32 32 ⟨w.heap.size,0,none⟩ 4 4 _ 169 [.int .u64 a0,.int .u64 a1,.int .u64 a2,.int .u64 a3] underlying35 (by kernel_rfl) hB.drew (by rfl) (fun j v z=>by
    have:=jp.1.drew.cell (i:=j) z;by_cases e:j=0
    ·subst e;simpa[Addr.add]using this
    ·simpa[Addr.add,e]using this) (by simp) (by simp[Value.oneCell'])
   generalize ip:World.setRow cW.drew F _=hu at ll;have jr:Hid (Ch (aH F) cW.drew hu):=Z (by rw[<-ip];exact pz _ _ _);have k5:Hid (Row hu F 169 [cat,.int .u64 a0,.int .u64 a1,.int .u64 a2,.int .u64 a3,.int .u64 0,.int .u64 0,.int .u64 0,.int .u64 0,.int .u64 0,.int .u64 0,.int .u64 0,.int .u64 0,.int .u64 0,.int .u64 0,.int .u64 0,.int .u64 0,.int .u64 0,.int .u64 0,.int .u64 0,.int .u64 0,.int .u64 0,.int .u64 0,.int .u64 0,.int .u64 0,.int .u64 0,.int .u64 0,.int .u64 0,.int .u64 0,.int .u64 0,.int .u64 0,.int .u64 0,.int .u64 0,.slice none 0 0,.bool true,.int .i64 (m:Int)]):=Z (by
    rw[<-ip];unfold Row;rw[setRow_heap _ _ _ _ _ _ hB.drew]
    rfl)
   clear ip;go_still_tail 6,(by kernel_rfl)
   change wpList _ _ _ _ _ cW.drew;go_upto_region 9 with fail
   have k4:Hid (Ch ag wc hu):=Z (g4.drew.join jr (fun i fb i7=>by have e:i=F:=i7;have:=R.out;omega));have n2:Hid (aJ hu F 0 169 [] [.bool true,.int .i64 (m:Int)] (.slice none 0 0) ⟨cat,bn K1 k0 k1 k2 k3 a0 a1 a2 a3 0,[]⟩):=Z ⟨k5,rfl,cv.nil _⟩;have g7:=Z (ap.ch k4 (fun h=>h));clear ll;have x2:=g7.k 2 rfl;have x3:=g7.k 3 rfl;have x4:=g7.k 4 rfl;have x5:=g7.k 5 rfl;clear eC hB k5 eA g4 jr n1 jp kf ni nx;go_wp2
   clear x2 x3 x4 x5;go_loopg [74] 5 (fun gk u wr=>∃kk:Nat,kk<=4/\gk=4-kk+1/\u=.int .i64 kk/\Hid (Ch ag wc wr/\aJ wr F 0 169 [] [.bool true,.int .i64 (m:Int)] (.slice none 0 0) ⟨cat,bn K1 k0 k1 k2 k3 a0 a1 a2 a3 kk,[]⟩))
   case atStart=>exact⟨0,by omega,by omega,rfl,k4,n2⟩
   case round=>
    obtain⟨kk,qc,rfl,rfl,c⟩:=hrel;have X:=Z (dr.af c.1);have et:=Z ((Nx.af c.1).row c0.1 c0.2);have pi:L.mb≠F:=(fun e=>by have I:=dr.at_.GY;rw[e,R]at I;exact absurd I (Nat.lt_irrefl _));have pl:w.heap.size≠F:=(fun e=>by have I:=c0.1.lt;rw[e,R]at I;exact absurd I (Nat.lt_irrefl _));have rJ:=pi.symm;have rK:=pl.symm;obtain rfl|rfl|rfl|rfl|rfl:kk=0∨kk=1∨kk=2∨kk=3∨kk=4:=by omega
    ·have W:=et.1.c1
     have eW:wr.cell? (F,1)=_:=hR c.2 0 (by omega);have i2:=c.2.free 1;have i8:=Ax k0 k1 k2 k3;by_cases d:k0=0
     ·have O:bn K1 k0 k1 k2 k3 a0 a1 a2 a3 1=bn K1 k0 k1 k2 k3 a0 a1 a2 a3 0:=AB (by unfold dg;rw[if_pos d])
      have c3:=Z O;have cC:(k0==0)=true:=(by simpa using d);clear O d;go_wp2
      go_roundg (4)
      case measure=>omega
      case rel=>exact⟨1,by omega,rfl,rfl,c.1,by rw[c3];exact c.2⟩
     ·have cC:(k0==0)=false:=by rw[beq_eq_false_iff_ne];exact d
      by_cases x:k0=7
      ·have z:IntKind.u64.wrap (V+a0)=dg K1 k0 a0:=by unfold dg;rw[if_neg d,if_pos x,g3,av]
       have cA:(k0==7)=true:=(by simpa using x);have S:=Z z;have c1:=Z (CJ (ex wr.drew _ _ X.at_.drew));have es:=av.out;clear z d x;go_wp2
       go_region_held3 (fun w'=>w'.cell? ⟨w.heap.size,0,none⟩=some (.int .u64 a0)) (go_keep) ((go_at_call 24;refine c1.mono ?_;rintro e s ⟨rfl,A⟩;have n:Hid (Ch ag wr s):=Z (Ch.trans ay A);have o:=Z (aJ.ch c.2 n (fun h=>h) (fun _ _ h=>h));have c8:=n.k W;have c9:s.cell? (F,1)=_:=hR o 0 (by omega);have a4:=o.free 1;clear A))
       all_goals
        go_wp2
        go_roundg (4)
        case measure=>omega
        case rel=>
         have B:=e3 o (by decide) 0 (by omega) (IntKind.u64.wrap (V+a0));rw[show({({pc:=cat,r:=bn K1 k0 k1 k2 k3 a0 a1 a2 a3 0,back:=[]}:cP)with r:=fW (bn K1 k0 k1 k2 k3 a0 a1 a2 a3 0) 0 (IntKind.u64.wrap (V+a0))}:cP)=⟨cat,bn K1 k0 k1 k2 k3 a0 a1 a2 a3 1,[]⟩from by rw[qZ _ S]]at B;exact⟨1,by omega,rfl,rfl,(c.1.trans n).set (p:=⟨F,1,none⟩) (Or.inr (by rw[R];exact Nat.le_refl _)) _,B⟩
      ·have cA:(k0==7)=false:=by rw[beq_eq_false_iff_ne];exact x
       have Q:=Z (g5 wr.drew _ _ a0 k0 X.at_.drew);have co:=X.at_.iq;obtain⟨a5,T⟩:=nm (gp K1.cT a0 k0);rw[T]at Q;obtain⟨H,U⟩:∃v,a5.getD 0=v:=⟨_,rfl⟩;have z:H=dg K1 k0 a0:=(by unfold dg;rw[if_neg d,if_neg x,T,U]);have S:=Z z;have c2:Hid (Calls prog 154 #[(L.ob,0),.int .u64 a0,k0] wr.drew (fun e w'=>(∃v,e=.returned (.tuple #[.int .u64 H,v]))/\Ch ag wr.drew w')):=Z (Q.mono fun e w' h=>by
        obtain⟨I,G⟩:=h;refine⟨?_,G⟩;rw[<-U];cases a5 with
        |none=>obtain⟨v,ce,_⟩:=I;exact⟨v,ce⟩
        |some y=>exact⟨_,I⟩)
       clear z d x T U Q;go_wp2
       go_region_held3 (fun w'=>w'.cell? (L.mb,1013)=some (.pointer (some (L.ob,0)))/\w'.cell? ⟨w.heap.size,0,none⟩=some (.int .u64 a0)) (go_keep) ((go_at_call 154;refine c2.mono ?_;rintro e s ⟨⟨it,rfl⟩,A⟩;have n:Hid (Ch ag wr s):=Z (Ch.trans ay A);have o:=Z (aJ.ch c.2 n (fun h=>h) (fun _ _ h=>h));have c8:=n.k W;have i1:=n.k co;have c9:s.cell? (F,1)=_:=hR o 0 (by omega);have a4:=o.free 1;clear A))
       all_goals
        go_wp2
        go_roundg (4)
        case measure=>omega
        case rel=>
         have B:=e3 o (by decide) 0 (by omega) H;rw[show({({pc:=cat,r:=bn K1 k0 k1 k2 k3 a0 a1 a2 a3 0,back:=[]}:cP)with r:=fW (bn K1 k0 k1 k2 k3 a0 a1 a2 a3 0) 0 H}:cP)=⟨cat,bn K1 k0 k1 k2 k3 a0 a1 a2 a3 1,[]⟩from by rw[qZ _ S]]at B;exact⟨1,by omega,rfl,rfl,(c.1.trans n).set (p:=⟨F,1,none⟩) (Or.inr (by rw[R];exact Nat.le_refl _)) _,B⟩
    ·have W:=et.1.k 1 rfl
     have eW:wr.cell? (F,2)=_:=hR c.2 1 (by omega);have i2:=c.2.free 2;have i8:=Ay k0 k1 k2 k3;by_cases d:k1=0
     ·have O:bn K1 k0 k1 k2 k3 a0 a1 a2 a3 2=bn K1 k0 k1 k2 k3 a0 a1 a2 a3 1:=AD (by unfold dg;rw[if_pos d])
      have c3:=Z O;have cC:(k1==0)=true:=(by simpa using d);clear O d;go_wp2
      go_roundg (3)
      case measure=>omega
      case rel=>exact⟨2,by omega,rfl,rfl,c.1,by rw[c3];exact c.2⟩
     ·have cC:(k1==0)=false:=by rw[beq_eq_false_iff_ne];exact d
      by_cases x:k1=7
      ·have z:IntKind.u64.wrap (V+a1)=dg K1 k1 a1:=by unfold dg;rw[if_neg d,if_pos x,g3,av]
       have cA:(k1==7)=true:=(by simpa using x);have S:=Z z;have c1:=Z (CJ (ex wr.drew _ _ X.at_.drew));have es:=av.out;clear z d x;go_wp2
       go_region_held3 (fun w'=>w'.cell? ⟨w.heap.size,1,none⟩=some (.int .u64 a1)) (go_keep) ((go_at_call 24;refine c1.mono ?_;rintro e s ⟨rfl,A⟩;have n:Hid (Ch ag wr s):=Z (Ch.trans ay A);have o:=Z (aJ.ch c.2 n (fun h=>h) (fun _ _ h=>h));have c8:=n.k W;have c9:s.cell? (F,2)=_:=hR o 1 (by omega);have a4:=o.free 2;clear A))
       all_goals
        go_wp2
        go_roundg (3)
        case measure=>omega
        case rel=>
         have B:=e3 o (by decide) 1 (by omega) (IntKind.u64.wrap (V+a1));rw[show({({pc:=cat,r:=bn K1 k0 k1 k2 k3 a0 a1 a2 a3 1,back:=[]}:cP)with r:=fW (bn K1 k0 k1 k2 k3 a0 a1 a2 a3 1) 1 (IntKind.u64.wrap (V+a1))}:cP)=⟨cat,bn K1 k0 k1 k2 k3 a0 a1 a2 a3 2,[]⟩from by rw[q0 _ S]]at B;exact⟨2,by omega,rfl,rfl,(c.1.trans n).set (p:=⟨F,2,none⟩) (Or.inr (by rw[R];exact Nat.le_refl _)) _,B⟩
      ·have cA:(k1==7)=false:=by rw[beq_eq_false_iff_ne];exact x
       have Q:=Z (g5 wr.drew _ _ a1 k1 X.at_.drew);have co:=X.at_.iq;obtain⟨a5,T⟩:=nm (gp K1.cT a1 k1);rw[T]at Q;obtain⟨H,U⟩:∃v,a5.getD 0=v:=⟨_,rfl⟩;have z:H=dg K1 k1 a1:=(by unfold dg;rw[if_neg d,if_neg x,T,U]);have S:=Z z;have c2:Hid (Calls prog 154 #[(L.ob,0),.int .u64 a1,k1] wr.drew (fun e w'=>(∃v,e=.returned (.tuple #[.int .u64 H,v]))/\Ch ag wr.drew w')):=Z (Q.mono fun e w' h=>by
        obtain⟨I,G⟩:=h;refine⟨?_,G⟩;rw[<-U];cases a5 with
        |none=>obtain⟨v,ce,_⟩:=I;exact⟨v,ce⟩
        |some y=>exact⟨_,I⟩)
       clear z d x T U Q;go_wp2
       go_region_held3 (fun w'=>w'.cell? (L.mb,1013)=some (.pointer (some (L.ob,0)))/\w'.cell? ⟨w.heap.size,1,none⟩=some (.int .u64 a1)) (go_keep) ((go_at_call 154;refine c2.mono ?_;rintro e s ⟨⟨it,rfl⟩,A⟩;have n:Hid (Ch ag wr s):=Z (Ch.trans ay A);have o:=Z (aJ.ch c.2 n (fun h=>h) (fun _ _ h=>h));have c8:=n.k W;have i1:=n.k co;have c9:s.cell? (F,2)=_:=hR o 1 (by omega);have a4:=o.free 2;clear A))
       all_goals
        go_wp2
        go_roundg (3)
        case measure=>omega
        case rel=>
         have B:=e3 o (by decide) 1 (by omega) H;rw[show({({pc:=cat,r:=bn K1 k0 k1 k2 k3 a0 a1 a2 a3 1,back:=[]}:cP)with r:=fW (bn K1 k0 k1 k2 k3 a0 a1 a2 a3 1) 1 H}:cP)=⟨cat,bn K1 k0 k1 k2 k3 a0 a1 a2 a3 2,[]⟩from by rw[q0 _ S]]at B;exact⟨2,by omega,rfl,rfl,(c.1.trans n).set (p:=⟨F,2,none⟩) (Or.inr (by rw[R];exact Nat.le_refl _)) _,B⟩
    ·have W:=et.1.k 2 rfl
     have eW:wr.cell? (F,3)=_:=hR c.2 2 (by omega);have i2:=c.2.free 3;have i8:=Az k0 k1 k2 k3;by_cases d:k2=0
     ·have O:bn K1 k0 k1 k2 k3 a0 a1 a2 a3 3=bn K1 k0 k1 k2 k3 a0 a1 a2 a3 2:=AE (by unfold dg;rw[if_pos d])
      have c3:=Z O;have cC:(k2==0)=true:=(by simpa using d);clear O d;go_wp2
      go_roundg (2)
      case measure=>omega
      case rel=>exact⟨3,by omega,rfl,rfl,c.1,by rw[c3];exact c.2⟩
     ·have cC:(k2==0)=false:=by rw[beq_eq_false_iff_ne];exact d
      by_cases x:k2=7
      ·have z:IntKind.u64.wrap (V+a2)=dg K1 k2 a2:=by unfold dg;rw[if_neg d,if_pos x,g3,av]
       have cA:(k2==7)=true:=(by simpa using x);have S:=Z z;have c1:=Z (CJ (ex wr.drew _ _ X.at_.drew));have es:=av.out;clear z d x;go_wp2
       go_region_held3 (fun w'=>w'.cell? ⟨w.heap.size,2,none⟩=some (.int .u64 a2)) (go_keep) ((go_at_call 24;refine c1.mono ?_;rintro e s ⟨rfl,A⟩;have n:Hid (Ch ag wr s):=Z (Ch.trans ay A);have o:=Z (aJ.ch c.2 n (fun h=>h) (fun _ _ h=>h));have c8:=n.k W;have c9:s.cell? (F,3)=_:=hR o 2 (by omega);have a4:=o.free 3;clear A))
       all_goals
        go_wp2
        go_roundg (2)
        case measure=>omega
        case rel=>
         have B:=e3 o (by decide) 2 (by omega) (IntKind.u64.wrap (V+a2));rw[show({({pc:=cat,r:=bn K1 k0 k1 k2 k3 a0 a1 a2 a3 2,back:=[]}:cP)with r:=fW (bn K1 k0 k1 k2 k3 a0 a1 a2 a3 2) 2 (IntKind.u64.wrap (V+a2))}:cP)=⟨cat,bn K1 k0 k1 k2 k3 a0 a1 a2 a3 3,[]⟩from by rw[q1 _ S]]at B;exact⟨3,by omega,rfl,rfl,(c.1.trans n).set (p:=⟨F,3,none⟩) (Or.inr (by rw[R];exact Nat.le_refl _)) _,B⟩
      ·have cA:(k2==7)=false:=by rw[beq_eq_false_iff_ne];exact x
       have Q:=Z (g5 wr.drew _ _ a2 k2 X.at_.drew);have co:=X.at_.iq;obtain⟨a5,T⟩:=nm (gp K1.cT a2 k2);rw[T]at Q;obtain⟨H,U⟩:∃v,a5.getD 0=v:=⟨_,rfl⟩;have z:H=dg K1 k2 a2:=(by unfold dg;rw[if_neg d,if_neg x,T,U]);have S:=Z z;have c2:Hid (Calls prog 154 #[(L.ob,0),.int .u64 a2,k2] wr.drew (fun e w'=>(∃v,e=.returned (.tuple #[.int .u64 H,v]))/\Ch ag wr.drew w')):=Z (Q.mono fun e w' h=>by
        obtain⟨I,G⟩:=h;refine⟨?_,G⟩;rw[<-U];cases a5 with
        |none=>obtain⟨v,ce,_⟩:=I;exact⟨v,ce⟩
        |some y=>exact⟨_,I⟩)
       clear z d x T U Q;go_wp2
       go_region_held3 (fun w'=>w'.cell? (L.mb,1013)=some (.pointer (some (L.ob,0)))/\w'.cell? ⟨w.heap.size,2,none⟩=some (.int .u64 a2)) (go_keep) ((go_at_call 154;refine c2.mono ?_;rintro e s ⟨⟨it,rfl⟩,A⟩;have n:Hid (Ch ag wr s):=Z (Ch.trans ay A);have o:=Z (aJ.ch c.2 n (fun h=>h) (fun _ _ h=>h));have c8:=n.k W;have i1:=n.k co;have c9:s.cell? (F,3)=_:=hR o 2 (by omega);have a4:=o.free 3;clear A))
       all_goals
        go_wp2
        go_roundg (2)
        case measure=>omega
        case rel=>
         have B:=e3 o (by decide) 2 (by omega) H;rw[show({({pc:=cat,r:=bn K1 k0 k1 k2 k3 a0 a1 a2 a3 2,back:=[]}:cP)with r:=fW (bn K1 k0 k1 k2 k3 a0 a1 a2 a3 2) 2 H}:cP)=⟨cat,bn K1 k0 k1 k2 k3 a0 a1 a2 a3 3,[]⟩from by rw[q1 _ S]]at B;exact⟨3,by omega,rfl,rfl,(c.1.trans n).set (p:=⟨F,3,none⟩) (Or.inr (by rw[R];exact Nat.le_refl _)) _,B⟩
    ·have W:=et.1.k 3 rfl
     have eW:wr.cell? (F,4)=_:=hR c.2 3 (by omega);have i2:=c.2.free 4;have i8:=AA k0 k1 k2 k3;by_cases d:k3=0
     ·have O:bn K1 k0 k1 k2 k3 a0 a1 a2 a3 4=bn K1 k0 k1 k2 k3 a0 a1 a2 a3 3:=AF (by unfold dg;rw[if_pos d])
      have c3:=Z O;have cC:(k3==0)=true:=(by simpa using d);clear O d;go_wp2
      go_roundg (1)
      case measure=>omega
      case rel=>exact⟨4,by omega,rfl,rfl,c.1,by rw[c3];exact c.2⟩
     ·have cC:(k3==0)=false:=by rw[beq_eq_false_iff_ne];exact d
      by_cases x:k3=7
      ·have z:IntKind.u64.wrap (V+a3)=dg K1 k3 a3:=by unfold dg;rw[if_neg d,if_pos x,g3,av]
       have cA:(k3==7)=true:=(by simpa using x);have S:=Z z;have c1:=Z (CJ (ex wr.drew _ _ X.at_.drew));have es:=av.out;clear z d x;go_wp2
       go_region_held3 (fun w'=>w'.cell? ⟨w.heap.size,3,none⟩=some (.int .u64 a3)) (go_keep) ((go_at_call 24;refine c1.mono ?_;rintro e s ⟨rfl,A⟩;have n:Hid (Ch ag wr s):=Z (Ch.trans ay A);have o:=Z (aJ.ch c.2 n (fun h=>h) (fun _ _ h=>h));have c8:=n.k W;have c9:s.cell? (F,4)=_:=hR o 3 (by omega);have a4:=o.free 4;clear A))
       all_goals
        go_wp2
        go_roundg (1)
        case measure=>omega
        case rel=>
         have B:=e3 o (by decide) 3 (by omega) (IntKind.u64.wrap (V+a3));rw[show({({pc:=cat,r:=bn K1 k0 k1 k2 k3 a0 a1 a2 a3 3,back:=[]}:cP)with r:=fW (bn K1 k0 k1 k2 k3 a0 a1 a2 a3 3) 3 (IntKind.u64.wrap (V+a3))}:cP)=⟨cat,bn K1 k0 k1 k2 k3 a0 a1 a2 a3 4,[]⟩from by rw[q2 _ S]]at B;exact⟨4,by omega,rfl,rfl,(c.1.trans n).set (p:=⟨F,4,none⟩) (Or.inr (by rw[R];exact Nat.le_refl _)) _,B⟩
      ·have cA:(k3==7)=false:=by rw[beq_eq_false_iff_ne];exact x
       have Q:=Z (g5 wr.drew _ _ a3 k3 X.at_.drew);have co:=X.at_.iq;obtain⟨a5,T⟩:=nm (gp K1.cT a3 k3);rw[T]at Q;obtain⟨H,U⟩:∃v,a5.getD 0=v:=⟨_,rfl⟩;have z:H=dg K1 k3 a3:=(by unfold dg;rw[if_neg d,if_neg x,T,U]);have S:=Z z;have c2:Hid (Calls prog 154 #[(L.ob,0),.int .u64 a3,k3] wr.drew (fun e w'=>(∃v,e=.returned (.tuple #[.int .u64 H,v]))/\Ch ag wr.drew w')):=Z (Q.mono fun e w' h=>by
        obtain⟨I,G⟩:=h;refine⟨?_,G⟩;rw[<-U];cases a5 with
        |none=>obtain⟨v,ce,_⟩:=I;exact⟨v,ce⟩
        |some y=>exact⟨_,I⟩)
       clear z d x T U Q;go_wp2
       go_region_held3 (fun w'=>w'.cell? (L.mb,1013)=some (.pointer (some (L.ob,0)))/\w'.cell? ⟨w.heap.size,3,none⟩=some (.int .u64 a3)) (go_keep) ((go_at_call 154;refine c2.mono ?_;rintro e s ⟨⟨it,rfl⟩,A⟩;have n:Hid (Ch ag wr s):=Z (Ch.trans ay A);have o:=Z (aJ.ch c.2 n (fun h=>h) (fun _ _ h=>h));have c8:=n.k W;have i1:=n.k co;have c9:s.cell? (F,4)=_:=hR o 3 (by omega);have a4:=o.free 4;clear A))
       all_goals
        go_wp2
        go_roundg (1)
        case measure=>omega
        case rel=>
         have B:=e3 o (by decide) 3 (by omega) H;rw[show({({pc:=cat,r:=bn K1 k0 k1 k2 k3 a0 a1 a2 a3 3,back:=[]}:cP)with r:=fW (bn K1 k0 k1 k2 k3 a0 a1 a2 a3 3) 3 H}:cP)=⟨cat,bn K1 k0 k1 k2 k3 a0 a1 a2 a3 4,[]⟩from by rw[q2 _ S]]at B;exact⟨4,by omega,rfl,rfl,(c.1.trans n).set (p:=⟨F,4,none⟩) (Or.inr (by rw[R];exact Nat.le_refl _)) _,B⟩
    ·have W:=et.1.c1
     have nL:wr.cell? (F,31)=_:=hR c.2 30 (by omega);have ob:wr.cell? (F,32)=_:=hR c.2 31 (by omega);have f30:=c.2.free 31;have f31:=c.2.free 32;have md:IntKind.u64.wrap (m:Int)=m:=(by unfold IntKind.wrap IntKind.bits IntKind.signed;simp;omega);have nw:=Z md;have ok:(⟨F,31,none⟩:Addr)≠⟨F,32,none⟩:=(by simp);have on:(⟨F,32,none⟩:Addr)≠⟨F,31,none⟩:=(by simp);have ls:=aJ.drew (e3 (e3 c.2 (by decide) 30 (by omega) a0) (by decide) 31 (by omega) (m:Int));have lo:Ch ag wc (((wr.setCell (F,1+30) (.int .u64 a0)).setCell (F,1+31) (.int .u64 (m:Int))).drew):=((c.1.set (p:=⟨F,1+30,none⟩) (Or.inr (by rw[R];exact Nat.le_refl _)) _).set (p:=⟨F,1+31,none⟩) (Or.inr (by rw[R];exact Nat.le_refl _)) _).drew;have kb:=Z (And.intro ls lo);clear ls lo;go_wp2
     go_region
     go_upto_region 19 with fail
     obtain⟨s,hm⟩:=nm (((wr.setCell (F,31) (.int .u64 a0)).setCell (F,32) (.int .u64 (m:Int))).drew);have o:Hid (aJ s F 0 169 [] [.bool true,.int .i64 (m:Int)] (.slice none 0 0) ⟨cat,pS K1 k0 k1 k2 k3 a0 a1 a2 a3 (m:Int),[]⟩):=Z (by rw[<-hm,<-yq];exact kb.1);have n:Hid (Ch ag wc s):=Z (by rw[<-hm];exact kb.2);rw[hm];clear hm nL ob f30 f31 W ok on md;have bi:=Z (dr.af n);obtain⟨g,cap,dN,oq,_⟩:=bi.at_.hV J.2.2.1 eL.2.2;rw[<-eL.1]at dN oq;have kd:=Z dN;have g9:=bi.at_.DB J.2.2.1;have la:=bi.at_.sf J.2.2.1 1;rw[c4]at g9 la;rw[dN]at g9;have i9:=(bi.at_.tl id t J.2.2.1 (by simp)).is;rw[dN,<-eL.1]at i9;have m7:tb<s.heap.size:=aQ g9;have mh:(Value.slice (some (g,0)) eV cap).ownBlock≠some tb:=by
      have:=aZ (bi.at_.tl id t J.2.2.1 (by simp)).is (bi.at_.th id t J.2.2.1 (by simp)).is (by decide);rw[dN,c4]at this;exact this
     have E:Hid (hr C K id k (m:Int)=K1.cp id {t with l:=t.l++[⟨⟨cat,pS K1 k0 k1 k2 k3 a0 a1 a2 a3 (m:Int),[]⟩,true,(m:Int)⟩]}):=Z (by
      rw[eS,if_neg (by decide),KS.dm J.2.2.1];unfold pS;rw[nw])
     clear dN;go_wp2_with (at_builtin;refine wpList_append_lies _ rfl _ _ _ rfl 0 167 pa _ 1 8 underlying162 g6.1 g6.2.1 g6.2.2.1 g6.2.2.2 rfl (by omega) _ eV ((List.range eV).map fun k=>bk (l0.fb id k)) rfl (i9.alloc _) ⟨s.heap.size,0,none⟩ 1 1 [(F,0)] rfl rfl (World.news_of_block (cs:=#[(F,0)]) (t:=167) (fr:=(0,0)) (heap_alloc_new s _)) (by simp[Value.oneCell']) (by omega) (by unfold maxLen;omega) (by omega) (by simp) (s.heap.size+1) (by simp) ?_)
     intro og nJ j9 l' gs le ov;have i4:=bi.at_.DC J.2.2.1 (f:=⟨⟨cat,pS K1 k0 k1 k2 k3 a0 a1 a2 a3 (m:Int),[]⟩,true,(m:Int)⟩) o na rfl (g:=og) (cap:=nJ) (w4:=j9) (by rw[<-eL.1];exact l') (by rw[kd];exact ao gs) (by
      rw[kd];rcases le with G|G
      ·exact Or.inl (by rw[G])
      ·exact Or.inr (by omega))
     rw[c4,<-eL.1]at i4;have ne:=Z i4;have rL:j9.cell? (tb,1)=some (.slice (some (g,0)) eV cap):=((Ch.bK (ao gs)).cell (p:=⟨tb,1,none⟩) m7 mh).trans g9;have rM:j9.frozen? (tb,1)=false:=((Ch.bK (ao gs)).frozen (p:=⟨tb,1,none⟩) m7 mh).trans la;clear i4 l' gs le ov i9;go_wp2
     go_end0
     rw[E];obtain⟨aY,Y',gt,p1,rd,os⟩:=ne.out;have fd:=bi.nx;have r6:w.heap.size<=wc.heap.size:=dr.nx.ch.size;exact⟨rfl,aY,Y',gt,⟨fd.ch.join os (fun i fb i7=>by rw[<-fd.same i fb];exact i7),fun i fb=>(p1 i (Nat.lt_of_lt_of_le fb fd.ch.size) (by rw[R];omega)).trans (fd.same i fb)⟩⟩
 ·have r5:(hn==0)=false:=by rw[beq_eq_false_iff_ne];exact io
  have E:Hid (hr C K id k num=dq K1 id num hn 0):=Z (by rw[eS,if_pos io]);have no:=Z (fun(w:World) (χ:Nat->a') (Y:Var) (h:ae w χ L Y C K1)=>j3 id t en hid fn hd num hn 0 nd h);clear h ci ej bv hb fz ch ge gf go gr mb hid hi a9 lw lF hd fn gc en dC he;go_in
  go_wp2
  obtain⟨w1,ad⟩:=nm (w.alloc (.cells #[.int .u64 a0,.int .u64 a1,.int .u64 a2,.int .u64 a3] 157));have hw:=Z (Ch.al (D:=ag) ad);have bw:Hid (Row w1 w.heap.size 157 [.int .u64 a0,.int .u64 a1,.int .u64 a2,.int .u64 a3]/\χ w.heap.size=.no):=Z ⟨by rw[<-ad];exact Row.new w _ _,g8.at_.fresh (Nat.le_refl _)⟩;rw[ad];clear ad ms mv mz mA;have c5:=Z (g8.af hw);obtain⟨al,cL,cQ,cS⟩:=bw.1.c4;have cb:=c5.at_.gw J.1;rw[J.2.2.2,J.2.1]at cb;go_still_tail 8,(by kernel_rfl)
  change wpList _ _ _ _ _ w1.drew;go_wp2_with fail
  with_reducible refine(i0.out _ c5.out.at_.drew).mono ?_
  rintro e w2 ⟨rfl,pm,l0,G⟩;have c6:=Z ((c5.af (Ch.refl _ w1).drew).trans (Gr.refl _) G);have bx:=Z (((Nx.af (Ch.refl _ w1).drew).trans G.nx).row bw.1 bw.2);have cq:=(c6.yk id t J.1).1;rw[J.2.1]at cq;have c4:=Z cq;clear G cq al cL cQ cS cb;obtain⟨al,cL,cQ,cS⟩:=bx.1.c4;go_wp2_with fail
  have cm:=hK _ _ _ c6.at_;rw[c4]at cm;with_reducible refine cm.mono ?_
  clear cm;rintro e am ⟨rfl,cl⟩;have c7:=Z (c6.af cl);have g2:=Z ((Nx.af cl).row bx.1 bx.2);clear cl al cL cQ cS;go_wp2_with fail
  have ih:=no _ _ _ c7.at_;rw[c4]at ih;with_reducible refine ih.mono ?_
  clear ih;rintro e w4 ⟨rfl,pp,nC,i3⟩;have kE:=Z (And.intro i3.at_ (c7.nx.trans i3.nx));clear i3;go_wp2
  go_end0
  rw[E];exact⟨rfl,pp,nC,kE.1,kE.2⟩
section
variable{id:Int}{i k:Nat}{t:Thread}{c:cJ}
section
variable{N M:Nat}{K:KS}{C:KC}
theorem dP(b:aw K.ai id=some t)(f:cP):∃a,aw (K.cI (.ai id k) f).ai id=some a/\a.l.length=t.l.length/\a.id=t.id:=by
 refine⟨_,by show aw (cn K.ai id _) id=_;rw[aV,if_pos rfl],?_,?_⟩
 ·show(List.set (K.T id).l k _).length=_
  rw[List.length_set,KS.dm b]
 ·show(K.T id).id=_
  rw[KS.dm b]
theorem yr(h:Inv N M K)(a:i<K.wk.length):Inv N M (gJ C K i):=
 h.bj a rfl rfl ⟨⟨(h.gA a).f.r,by simp⟩,(h.gA a).l0,(h.gA a).l1⟩
theorem sR(h:Inv N M K)(id:Int)(c:cJ)(x:be):Inv N (M+1) (dc K id c x):=by
 unfold dc;split
 ·exact h.more (Nat.le_refl _) (Nat.le_succ _)
 ·dsimp only
  repeat' split
  all_goals first|exact h.tell _|exact h.more (Nat.le_refl _) (Nat.le_succ _)
theorem lf(h:Inv N M K)(a:aj K c):Inv N M (K.fA c):=h.cI a ((h.lY a).pc _)
theorem wx(D:ow C)(h:Inv N M K)(O:N<=800000)(v:i<K.wk.length){idO:Option Int}(o:aj K c)
 (w:∀id,idO=some id->(K.W i).slot=id/\id≠0/\c=.ai id (K.top id)/\∃t,aw K.ai id=some t/\t.l.length%2=0) (H:∀j x K2,idO=some j->cB C K c=(x,1,K2)->(az C K2 i idO c x).2.clock.fl=[]):
 Inv (N+1) (M+1) (eF C K i idO c).2.2/\((eF C K i idO c).2.1=2∨(eF C K i idO c).2.1=3->(eF C K i idO c).2.2.wk.length=K.wk.length/\∀id t,idO=some id->aw K.ai id=some t->∃a,aw (eF C K i idO c).2.2.ai id=some a/\a.l.length=t.l.length):=by
 obtain⟨k1,k2,k3,J⟩:=l4 D h o;have f:=ox C o;have y:=oy C (c:=c) i v;unfold eF;obtain⟨s,l⟩:=nm (cB C K c);have q:∀id t,idO=some id->aw K.ai id=some t->∃a,aw s.2.2.ai id=some a/\a.l.length=t.l.length:=fun id t e d=>by
  obtain⟨_,_,m,_⟩:=w id e;obtain⟨a,b,g,_⟩:=pR C (k:=K.top id) d;rw[m]at l;rw[l]at b;exact⟨a,b,g⟩
 rw[l]at k1 k2 k3 J f y⊢;dsimp only;split
 ·rename_i b
  obtain⟨G,I⟩:=k3 (Or.inr b);have E:i<s.2.2.wk.length:=by rw[f.2];exact v
  have p:aj s.2.2 c:=o.gr f.1 f.2;have r:∀id,idO=some id->(s.2.2.W i).slot=id/\id≠0/\∃t,aw s.2.2.ai id=some t/\t.l.length%2=0:=fun id e=>by
   obtain⟨z,m,L,t,d,F⟩:=w id e;obtain⟨a,b,g⟩:=q id t e d;exact⟨y.1.trans z,m,a,b,by rw[g];exact F⟩
  have n:=ju (C:=C) k1 (by omega) E p (jc.of G I) r (fun j e=>H j _ _ e (by rw[l,<-b]));split
  ·rename_i A
   have u:=ko (C:=C) k1 (by omega) (i:=i) (idO:=idO) p s.1 (fun id e=>by obtain⟨_,_,t,d,_⟩:=r id e;exact⟨t,d⟩) A;exact⟨lf n (p.gr u.1 u.2),(fun e=>by rcases e with e|e<;>cases e)⟩
  ·split
   ·rename_i g
    have:=jv (C:=C) s.2.2 i idO c s.1 g;refine⟨n,fun _=>⟨by rw[show _=_ from this.2];exact f.2,fun id t e d=> ?_⟩⟩;obtain⟨a,b,B⟩:=q id t e d;exact⟨a,by rw[show _=_ from this.1];exact b,B⟩
   ·exact⟨n,(fun e=>by rcases e with e|e<;>cases e)⟩
 ·exact⟨k1.more (Nat.le_succ _) (Nat.le_succ _),fun _=>⟨f.2,q⟩⟩
theorem CK(j:ow C)(h:Inv N M K)(l:N<=800000)(a:i<K.wk.length):Inv (N+1) (M+2) (kg C K i):=by
 unfold kg;dsimp only;have f:Inv N M (K.bj i {K.W i with parked:=false}):=h.bj a rfl rfl ⟨(h.gA a).f,(h.gA a).l0,(h.gA a).l1⟩;have d:i<(K.bj i {K.W i with parked:=false}).wk.length:=by rw[bG];exact a
 have b:=wx j f l d (idO:=none) (c:=.own i) d (fun id e=>by cases e) (fun _ _ _ e=>by cases e);split
 ·exact sR b.1 _ _ _
 ·split
  ·rename_i g
   exact(yr b.1 (by rw[(b.2 g.symm).1];exact d)).more (Nat.le_refl _) (Nat.le_succ _)
  ·exact b.1.more (Nat.le_refl _) (Nat.le_succ _)
theorem sS(m:ow C)(h:Inv N M K)(n:N<=800000)(o:i<K.wk.length)(a:aw K.ai id=some t)(r:(K.W i).slot=id)(f:id≠0)(p:t.l.length%2=0)(d:k+1=t.l.length)(q:(cD C K i id k).clock.fl=[]):Inv (N+1) (M+2) (cD C K i id k):=by
 have s:K.top id=k:=by unfold KS.top;rw[KS.dm a];omega
 have b:=wx m h n o (idO:=some id) (c:=.ai id k) ⟨t,a,by omega⟩ (fun j e=>by injection e with e;subst e;exact⟨r,f,by rw[s],t,a,p⟩) (fun j x K2 e d=>by injection e with e;subst e;rw[<-je d];exact q);unfold cD;dsimp only;split
 ·exact sR b.1 _ _ _
 ·split
  ·rename_i l
   obtain⟨v,g,u⟩:=(b.2 l.symm).2 id t rfl a;exact b.1.answer g (by have:=(h.de a).l.n0;omega) ⟨by decide,by decide⟩ bE
  ·exact b.1.more (Nat.le_refl _) (Nat.le_succ _)
theorem AG(h:Inv N M K)(k a:Int)(b:aK a):aK (dg K k a):=by
 unfold dg;split
 ·exact b
 ·split
  ·exact bO _
  ·cases d:gp K.cT a k with
   |none=>exact bE
   |some x=>exact h.obj.find a k x d
theorem oB(C:KC)(K:KS):∀l,aK (cw C K l)
 |[]=>bE
 |(k,a)::l=>by
  unfold cw;have b:aK (22:Int):=⟨by decide,by decide⟩
  repeat' split
  all_goals first|exact b|exact oB C K l
theorem q3(C:KC)(K:KS)(id num a0 a1 a2 a3:Int):aK (cM C K id num a0 a1 a2 a3):=by
 unfold cM;have b:aK (38:Int):=⟨by decide,by decide⟩;have a:aK (11:Int):=⟨by decide,by decide⟩
 repeat' split
 all_goals first|exact b|exact a|exact oB C K _
theorem sT(h:Inv N M K)(g:aw K.ai id=some t)(m:t.l.length%2=1)(p:k+1=t.l.length)(num:Int):Inv N (M+2) (hr C K id k num):=by
 have l:aj K (.ai id k):=⟨t,g,by omega⟩;have f:=(h.lY l).r;unfold hr;dsimp only;obtain⟨K1,e⟩:=nm (tell K ⟨1,0,0,id,num,(K.F (.ai id k)).r 0,(K.F (.ai id k)).r 1,(K.F (.ai id k)).r 2,(K.F (.ai id k)).r 3,0,0⟩);have a:Inv N (M+1) K1:=by rw[<-e];exact h.tell _
 have d:aw K1.ai id=some t:=by rw[<-e];exact g
 rw[e];split
 ·exact a.returned d _ (q3 _ _ _ _ _ _ _ _) bE
 ·have b:=a.de d
  have n:=b.l.n8;rw[KS.dm d];refine Inv.more (N:=N) (M:=M+1) (a.cp d ⟨b.id,b.eY,?_⟩) (Nat.le_refl _) (Nat.le_succ _);refine b.l.push _ (by omega) ⟨fun j o=> ?_,by simp⟩ (by simp[m]);dsimp only;have a0:=AG a
  repeat' split
  all_goals first|exact a0 _ _ (f _ (by omega))|exact f _ (by omega)|exact bO _|exact bE
theorem sU(h:Inv N M K)(u:N<=800000)(p:i<K.wk.length)(f:aw K.ai id=some t)(q:(K.W i).slot=id)(l:id≠0)(y:t.l.length%2=1)(w:k+1=t.l.length)(v:Int)(j:aK v):Inv N (M+2) (eZ C K i id k v):=by
 have b:aj K (.ai id k):=⟨t,f,by omega⟩;have m:=h.ax b 0 v j;have o:aj (K.ax (.ai id k) 0 v) (.ai id k):=b.gr (bA b _) (br _ _);have a:=lf m o;obtain⟨t1,s,x,_⟩:=dP (K:=K) (k:=k) f {K.F (.ai id k)with r:=fW (K.F (.ai id k)).r 0 v};obtain⟨t2,g,z,_⟩:=dP (K:=K.ax (.ai id k) 0 v) (k:=k) s {(K.ax (.ai id k) 0 v).F (.ai id k)with pc:=wrap64 (((K.ax (.ai id k) 0 v).F (.ai id k)).pc+1)};unfold eZ;dsimp only;split
 ·exact sT a g (by omega) (by omega) 2
 ·have n:=a.ot (a.core.ended g v j)
  have e:((({(K.ax (.ai id k) 0 v).fA (.ai id k)with table:=(gi ((K.ax (.ai id k) 0 v).fA (.ai id k)).table id v).2}:KS)).W i).slot=id:=q;have d:=Inv.ended (C:=C) n (by omega) (i:=i) p (by rw[e];exact l);rw[e]at d;exact d.more (Nat.le_refl _) (Nat.le_succ _)
theorem AH(id op:Int)(S:aI×List Ev)(kind a d v:Int)(b:b8 S.1/\S.2.length<=M)(h:aK v):(b8 (bR C K id op S kind a d v).2.1/\(bR C K id op S kind a d v).2.2.length<=M+1)/\∀x,(bR C K id op S kind a d v).1=some x->aK x:=by
 unfold bR;split
 ·exact⟨⟨b.1,Nat.le_succ_of_le b.2⟩,fun x e=>by cases e⟩
 ·dsimp only
  have f:=b.1.acc kind (IntKind.u64.wrap (IntKind.u64.wrap (gT K)+a)) d v h;split
  ·exact⟨⟨f.1,Nat.le_succ_of_le b.2⟩,fun x e=>by cases e⟩
  ·rename_i held g
   refine⟨⟨(f.1.acc 0 _ 0 0 bE).1,?_⟩,fun x e=>by rw[<-Option.some.inj e];exact f.2 held g⟩;rw[List.length_append];have:=b.2;simp;omega
theorem uM{x:be}{n:Int}(h:eD x n false=true):x.op<=22/\(x.op=22->x.v<1000):=by
 unfold eD my j8 at h;simp only[Bool.and_eq_true]at h;obtain⟨⟨⟨_,b⟩,⟨_,a⟩⟩,_⟩:=h;refine⟨?_,fun e=> ?_⟩
 ·have:x.op<=22/\x.m=0:=by simpa using b
  exact this.1
 ·unfold rH at a
  rw[if_neg (by omega),if_pos e]at a;simpa using a
theorem pU(d:ow C)(h:Inv N M K)(n:aw K.ai id=some t)(j:k<t.l.length)(op:Int):Inv N (M+1) (({K with mem:=(bM (bR C K id op) C.bs (K.F (.ai id k)) (K.mem,K.out)).2.2.1,out:=(bM (bR C K id op) C.bs (K.F (.ai id k)) (K.mem,K.out)).2.2.2}:KS).cI (.ai id k) (bM (bR C K id op) C.bs (K.F (.ai id k)) (K.mem,K.out)).2.1)/\
 ((bM (bR C K id op) C.bs (K.F (.ai id k)) (K.mem,K.out)).1=0∨(bM (bR C K id op) C.bs (K.F (.ai id k)) (K.mem,K.out)).1=1∨(bM (bR C K id op) C.bs (K.F (.ai id k)) (K.mem,K.out)).1=2∨(bM (bR C K id op) C.bs (K.F (.ai id k)) (K.mem,K.out)).1=3)/\
 ((bM (bR C K id op) C.bs (K.F (.ai id k)) (K.mem,K.out)).1=1->(fB C.bs (K.F (.ai id k)).pc).op=22/\0<=(fB C.bs (K.F (.ai id k)).pc).v/\(fB C.bs (K.F (.ai id k)).pc).v<1000):=by
 have w:aj K (.ai id k):=⟨t,n,j⟩;have m:=sN (Q:=fun S:aI×List Ev=>b8 S.1/\S.2.length<=M) (Q':=fun S:aI×List Ev=>b8 S.1/\S.2.length<=M+1) (bR C K id op) (fun S kind a A v b z=>AH id op S kind a A v b z) (fun S b=>⟨b.1,Nat.le_succ_of_le b.2⟩) C.bs d.pv (K.F (.ai id k)) (h.lY w) (K.mem,K.out) ⟨h.mem,h.out⟩;obtain⟨s,y⟩:=nm (bM (bR C K id op) C.bs (K.F (.ai id k)) (K.mem,K.out));rw[y]at m⊢;obtain⟨o,g,p,q,r⟩:=m;refine⟨?_,p,fun e=> ?_⟩
 ·have u:Inv N (M+1) ({K with mem:=s.2.2.1,out:=s.2.2.2}:KS):=⟨h.core,h.nd,h.q,h.b2,h.bI,g.1,h.obj,h.draw,h.w0,h.w1,g.2⟩
  exact u.cI (c:=.ai id k) ⟨t,n,j⟩ o
 ·have l:=(q (Or.inr e)).2
  have x:=uM (d.F4 _ l);have B:=(r e).1;have f:(fB C.bs (K.F (.ai id k)).pc).op=22:=by omega
  exact⟨f,(d.pv _ l).1,x.2 f⟩
theorem uN(p:ow C)(h:Inv N M K)(g:N<=800000)(q:i<K.wk.length)(o:aw K.ai id=some t)(v:(K.W i).slot=id)(f:id≠0)(z:t.l.length%2=1)(x:k+1=t.l.length):Inv N (M+4) (cx C K i id k):=by
 unfold cx;dsimp only;have m:=pU p h o (k:=k) (by omega) (fB C.bs (K.F (.ai id k)).pc).op;obtain⟨s,u⟩:=nm (bM (bR C K id (fB C.bs (K.F (.ai id k)).pc).op) C.bs (K.F (.ai id k)) (K.mem,K.out));rw[u]at m⊢;obtain⟨a,_,_⟩:=m;obtain⟨t1,b,y,_⟩:=dP (K:=({K with mem:=s.2.2.1,out:=s.2.2.2}:KS)) (k:=k) (id:=id) o s.2.1;obtain⟨K1,d⟩:=nm (({K with mem:=s.2.2.1,out:=s.2.2.2}:KS).cI (.ai id k) s.2.1);have l:i<K1.wk.length:=by rw[<-d];exact q
 have n:(K1.W i).slot=id:=by rw[<-d];exact v
 rw[d]at a b⊢;have j:aj K1 (.ai id k):=⟨t1,b,by omega⟩;split
 ·obtain⟨t2,w,A,_⟩:=dP (K:=K1) (k:=k) b {K1.F (.ai id k)with pc:=wrap64 ((K1.F (.ai id k)).pc+1)}
  exact(sT (lf a j) w (by omega) (by omega) _).more (Nat.le_refl _) (by omega)
 ·split
  ·split
   ·rename_i r
    have e:=a.de b;rw[KS.dm b];exact Inv.more (N:=N) (M:=M+1) (a.cp b ⟨e.id,e.eY,e.l.take _ r⟩) (Nat.le_refl _) (by omega)
   ·exact(sU a g l b n f (by omega) (by omega) _ ((a.lY j).r 0 (by omega))).more (Nat.le_refl _) (by omega)
  ·split
   ·exact sU (a.tell _) g (K:=tell K1 _) l b n f (by omega) (by omega) _ ⟨by decide,by decide⟩
   ·exact a.more (Nat.le_refl _) (by omega)
theorem AI(m:ow C)(h:Inv N M K)(n:N<=800000)(a:i<K.wk.length)(d:(fR C K i).clock.fl=[]):Inv (N+1) (M+4) (fR C K i):=by
 unfold fR at d⊢;split
 ·exact(CK m h n a).more (Nat.le_refl _) (by omega)
 ·rename_i g
  rw[if_neg g]at d;dsimp only at d⊢;obtain⟨t,j⟩:=h.core.k9 (KS.ha a) g;have q:=h.de j;have o:K.top (K.W i).slot=t.l.length-1:=by unfold KS.top;rw[KS.dm j]
  have x:=q.l.n0;obtain⟨f,r⟩:∃f,t.l[t.l.length-1]?=some f:=⟨_,List.getElem?_eq_getElem (by omega)⟩;have w:(K.T (K.W i).slot).l.getD (K.top (K.W i).slot) default=f:=by rw[KS.dm j,o,List.getD_eq_getElem?_getD,r];rfl
  have l:=q.l.cg _ f r;rw[w]at d⊢;split
  ·exact(h.k' a g).more (Nat.le_succ _) (by omega)
  ·have v:=h.gA a
   have p:Inv N M (K.bj i {K.W i with left:=max ((K.W i).left-1) 0}):=h.bj a rfl rfl ⟨v.f,by show 0<=max ((K.W i).left-1) 0;omega,by have:=v.l1;show max ((K.W i).left-1) 0<=24;omega⟩;have s:i<(K.bj i {K.W i with left:=max ((K.W i).left-1) 0}).wk.length:=(by rw[bG];exact a);have u:((K.bj i {K.W i with left:=max ((K.W i).left-1) 0}).W i).slot=(K.W i).slot:=(by rw[gM a]);split
   ·rename_i b
    rw[if_neg (by rw[b];rintro⟨e,_⟩;cases e),if_pos b]at d;rw[b]at l;have:(t.l.length-1)%2=1:=(by simpa using l.symm);exact(sS m p n s j u g (by omega) (by rw[o];omega) d).more (Nat.le_refl _) (by omega)
   ·rename_i b
    have b:f.cg=false:=(by simpa using b);rw[b]at l;have:(t.l.length-1)%2≠1:=(by simpa using l.symm);exact(uN m p n s j u g (by omega) (by rw[o];omega)).more (Nat.le_succ _) (Nat.le_refl _)
theorem AJ(h:Inv N M K):Inv N (M+1) (hs K):=by
 unfold hs;dsimp only;exact(h.uH h.b2.tick.1).tell _
theorem q4(j:ow C)(h:Inv N 0 K)(l:N<=800000)(kind wk draw:Int)(m:aK draw)(d:(ht C K kind wk draw).2.clock.fl=[]):Inv (N+1) 0 (ht C K kind wk draw).2:=by
 have a:∀w,Inv N 0 ({K with at_:=K.entries,w:=w,draw:=draw,entries:=wrap64 (K.entries+1)}:KS):=fun w=>⟨h.core,h.nd,h.q,h.b2,h.bI,h.mem,h.obj,m,h.w0,h.w1,h.out⟩
 have b:∀{M:Nat} {K':KS},Inv (N+1) M K'->Inv (N+1) 0 ({K' with out:=[]}:KS):=fun h=>⟨h.core,h.nd,h.q,h.b2,h.bI,h.mem,h.obj,h.draw,h.w0,h.w1,Nat.le_refl _⟩
 unfold ht at d⊢;dsimp only at d⊢;split
 ·exact b ((AJ (a (-1))).more (Nat.le_succ _) (Nat.le_refl _))
 ·rename_i g
  split
  ·rename_i f
   split
   ·rename_i e
    rw[if_neg g,if_pos f,if_pos e]at d;exact b (AI j (a wk) l (i:=wk.toNat) (by have:=e.2;show wk.toNat<K.wk.length;omega) d)
   ·exact b ((a (-1)).more (Nat.le_succ _) (Nat.le_refl _))
  ·exact b ((a (-1)).more (Nat.le_succ _) (Nat.le_refl _))
end
end
theorem l5{N M:Nat}(S:ow C)(bi:Inv N M K)(ce:N<=600000)(cd:M<=600000)(i:Nat)(bx:i<K.wk.length)(id:Int)(t:Thread)(x:aw K.ai id=some t)(k:Nat)(ci:k+1=t.l.length)(cl:t.l.length%2=1)(v:Int)(c4:aK v)(h:ae w χ L Y C K):
 Calls prog 107 #[(L.mb,0),(L.wb,i*38),(Y.bI id,0),(Y.fb id k,0),.int .u64 v] w (si (.tuple #[]) χ L C (eZ C K i id k v) w):=by
 have j:aj K (.ai id k):=⟨t,x,by omega⟩;obtain⟨b,hb⟩:=nm (Y.fb id k);obtain⟨tb,a0⟩:=nm (Y.bI id);have q:aR L Y (.ai id k) b 0:=⟨hb.symm,rfl⟩;rw[hb,a0];obtain⟨dZ,Y1,m⟩:=h.a7 j q 0 (by omega) v;obtain⟨K1,f⟩:=nm (K.ax (.ai id k) 0 v);have T:Inv N M K1:=by rw[<-f];exact bi.ax j 0 v c4
 have V:Gr K K1:=by rw[<-f];exact bA j _
 have a1:K1.wk.length=K.wk.length:=by rw[<-f];exact br _ _
 obtain⟨t1,c3,cm,_⟩:∃c,aw K1.ai id=some c/\c.l.length=t.l.length/\c.id=t.id:=by rw[<-f];exact dP x _
 rw[f]at m;obtain⟨l,B⟩:=m.cur j q V a1;obtain⟨H,n,G⟩:=m.at_.qM l B (wrap64 ((K1.F (.ai id k)).pc+1));obtain⟨K2,g⟩:=nm (K1.fA (.ai id k));have d:Inv N M K2:=by rw[<-g];exact T.cI l ((T.lY l).pc _)
 have ch:Gr K1 K2:=by rw[<-g];exact bA l _
 have F:K2.wk.length=K1.wk.length:=by rw[<-g];exact br _ _
 obtain⟨t2,o,cq,_⟩:∃c,aw K2.ai id=some c/\c.l.length=t1.l.length/\c.id=t1.id:=by rw[<-g];exact dP c3 _
 have bv:K1.cI (.ai id k) {K1.F (.ai id k)with pc:=wrap64 ((K1.F (.ai id k)).pc+1)}=K2:=g;rw[bv]at G;have cs:w.cell? (b,1)=some (.int .u64 ((K.F (.ai id k)).r 0)):=h.aA j q 0 (by omega);have f0:=h.hy j q 1;have a4:=m.at_.uu l B;have f1:=m.at_.hy l B 0;obtain⟨pc,c1⟩:=nm ((K1.F (.ai id k)).pc);rw[c1]at a4 G;have y:=m.trans V G;have a2:n.bI id=tb:=((y.yk id t x).1).trans a0;have a3:n.fb id k=b:=((y.yk id t x).2 k (by omega)).trans hb;have a:Hid (dD χ L Y C K K2 w H n ((w.setCell (b,1) (.int .u64 v)).setCell (b,0) (.int .i64 (wrap64 (pc+1))))):=Z y;have p1:(w.setCell (b,1) (.int .u64 v)).cell? (b,0)=some (.int .i64 pc):=a4;have f2:(w.setCell (b,1) (.int .u64 v)).frozen? (b,0)=false:=f1;obtain⟨r,X⟩:∃r,C.rows[2]?=some r:=⟨_,List.getElem?_eq_getElem (by rw[S.Eu];omega)⟩;have ap:((w.setCell (b,1) (.int .u64 v)).setCell (b,0) (.int .i64 (wrap64 (pc+1)))).cell? (L.mb,9)=some (.int .i64 r):=y.at_.Ec X;have c2:C.rows.getD 2 0=r:=by rw[List.getD_eq_getElem?_getD,X];rfl
 have O:Hid (eZ C K i id k v=if 0<r then hr C K2 id k 2 else m3 C {K2 with table:=(gi K2.table id v).2} i id):=Z (by unfold eZ;dsimp only;rw[f,g,c2]);have W:=(d.de o).id;have D:=(d.Et (by omega) o).1;have c0:i<K2.wk.length:=by rw[F,a1];exact bx
 have P:=Z (And.intro a2 a3);by_cases s:0<r
 ·have bw:decide (0<r)=true:=by simpa using s
  have E:Hid (eZ C K i id k v=hr C K2 id k 2):=Z (by rw[O,if_pos s]);have J:=Z (fun w (h:ae w H L n C K2)=>pT S d (by omega) (by omega) id t2 o k (by omega) (by omega) 2 (by decide) (by decide) h);rw[a2,a3]at J;go_in
  go_wp2_with fail
  with_reducible refine(J.out _ a.out.at_).mono ?_
  rintro e c8 ⟨rfl,a5,A,p,c6⟩;have Q:=Z (And.intro p (a.nx.trans c6));go_wp2
  go_end0
  rw[E];exact⟨rfl,a5,A,Q.1,Q.2⟩
 ·have bw:decide (0<r)=false:=by simpa using s
  have E:Hid (eZ C K i id k v=m3 C {K2 with table:=(gi K2.table id v).2} i id):=Z (by rw[O,if_neg s]);have ab:=Z (fun w (h:ae w H L n C K2)=>qJ id v D h);have a9:=Z (fun(w:World) (χ:Nat->a') (Y:Var) (h:ae w χ L Y C ({K2 with table:=(gi K2.table id v).2}:KS))=>sj (K:=({K2 with table:=(gi K2.table id v).2}:KS)) i c0 id t2 o W D (d.b2.ok (by omega)) (d.bI.ok (by omega)) (by show K2.out.length<=800000;have:=d.out;omega) h);have z:=Z (And.intro o W);go_in
  go_wp2
  obtain⟨w2,F⟩:=nm (((w.setCell (b,1) (.int .u64 v)).setCell (b,0) (.int .i64 (wrap64 (pc+1)))));rw[F]at a ap⊢;have am:=a.at_.gw z.1;rw[P.1,z.2]at am;have cb:=a.at_.ee;go_still_tail 9,(by kernel_rfl)
  change wpList _ _ _ _ _ w2.drew;go_wp2_with fail
  with_reducible refine(ab.out _ a.out.at_.drew).mono ?_
  rintro e c8 ⟨⟨u,rfl,D⟩,a5,A,p⟩;have I:=Z p;have c5:A.bI id=tb:=((p.yk id t2 z.1).1).trans P.1;have ad:=Z c5;go_wp2_with fail
  have U:=a9 _ _ _ I.at_;rw[ad]at U;with_reducible refine U.mono ?_
  rintro e w4 ⟨rfl,c9,al,av,c7⟩;have R:=Z (And.intro av ((a.nx.trans ((Nx.af (Ch.refl _ w2).drew).trans I.nx)).trans c7));go_wp2
  go_end0
  rw[E];exact⟨rfl,c9,al,R.1,R.2⟩
theorem aJ.same{w:World}{b o:Nat}{t:TypeId}{c e d g:List Value}{h i:Value}{f1 f2:cP}(j:aJ w b o t c e h f1)(k:aJ w b o t d g i f2):c=d/\e=g/\h=i:=by
 have hlen:c.length=d.length:=by rw[j.len,k.len]
 have s:c++(f1.cells h++e)=d++(f2.cells i++g):=by
  have m:=j.row;have a:=k.row;unfold Row at m a;rw[m]at a;injection a with a
  injection a with a _ _
  exact congrArg Array.toList a
 obtain⟨p,v⟩:=List.append_inj s hlen;obtain⟨x,q⟩:=List.append_inj v (by rw[cP.db,cP.db]);have n:=congrArg (fun l=>l[33]?) x;have r:∀(f:cP) u,(f.cells u)[33]?=some u:=fun f u=>by
  unfold cP.cells;rw[List.getElem?_cons_succ,List.getElem?_append_right (by rw[bz];omega),bz];rfl
 simp only[r]at n;exact⟨p,q,Option.some.inj n⟩
theorem AM{α:Type}(l:List (Int×α))(k:Int)(x y:α):cn (cn l k x) k y=cn l k y:=by
 induction l with
 |nil=>rw[kF,kF,dY,if_pos rfl]
 |cons z l ih=>
  rw[dY,dY];by_cases e:k=z.1
  ·rw[if_pos e,if_pos e,dY,if_pos rfl]
  ·rw[if_neg e,if_neg e,dY,if_neg e,ih]
theorem yu{id:Int}{k:Nat}{t:Thread}(c:aw K.ai id=some t)(b:k<t.l.length)(f g:cP):(K.cI (.ai id k) f).cI (.ai id k) g=K.cI (.ai id k) g:=by
 have a:(K.cI (.ai id k) f).T id={K.T id with l:=(K.T id).l.set k {(K.T id).l.getD k default with f:=f}}:=KS.dm (by show aw (cn _ _ _) _=_;rw[aV,if_pos rfl]);show(K.cI (.ai id k) f).cp id _=K.cp id _
 rw[a];unfold KS.cI KS.cp;dsimp only;rw[AM]
 congr 2
 rw[KS.dm c,List.set_set,List.getD_eq_getElem?_getD,List.getElem?_set_self b];rfl
def GG(a:KS)(c:cJ)(S:aI×List Ev)(K':KS):Prop:=K'={a with mem:=S.1,out:=S.2}∨∃f,K'=({a with mem:=S.1,out:=S.2}:KS).cI c f
theorem Ey(X:Array Value)(w:World):(Go.method 503 240 (.agg X) "Load").run prog w=.ok (259,.agg X) w:=by kernel_rfl
theorem Ez(X:Array Value)(w:World):(Go.method 503 240 (.agg X) "Store").run prog w=.ok (260,.agg X) w:=by kernel_rfl
theorem EA(X:Array Value)(w:World):(Go.method 503 240 (.agg X) "Swap").run prog w=.ok (261,.agg X) w:=by kernel_rfl
theorem EB(X:Array Value)(w:World):(Go.method 503 240 (.agg X) "Add").run prog w=.ok (257,.agg X) w:=by kernel_rfl
theorem EC(X:Array Value)(w:World):(Go.method 503 240 (.agg X) "Cas").run prog w=.ok (258,.agg X) w:=by kernel_rfl
theorem ED(X:Array Value)(w:World):(nilAhead 503 240 (.agg X) "Cas").run prog w=.ok (some false) w:=by kernel_rfl
theorem EE(args:Array Value)(w:World):(callFunc 259 args).run prog w=.ok (.enter 259 args) w:=by kernel_rfl
theorem EF(args:Array Value)(w:World):(callFunc 260 args).run prog w=.ok (.enter 260 args) w:=by kernel_rfl
theorem EG(args:Array Value)(w:World):(callFunc 261 args).run prog w=.ok (.enter 261 args) w:=by kernel_rfl
theorem EH(args:Array Value)(w:World):(callFunc 257 args).run prog w=.ok (.enter 257 args) w:=by kernel_rfl
theorem EI(args:Array Value)(w:World):(callFunc 258 args).run prog w=.ok (.enter 258 args) w:=by kernel_rfl
theorem CM{w0:World}{c:cJ}{id op kind a b v:Int}(k:Ch ag w0 w){e:Ending}{w':World}(h:iQ (bR C K id op (K.mem,K.out) kind a b v).1 χ L Y C K (pe C K id op kind a b v) w e w'):
 m2 (bR C K id op (K.mem,K.out) kind a b v).1 (fun w'=>(∃K' aY Y',GG K c (bR C K id op (K.mem,K.out) kind a b v).2 K'/\dD χ L Y C K K' w0 aY Y' w')/\Ch (fun i=>χ i=.mem∨χ i=.gL∨χ i=.out) w w') e w':=by
 obtain⟨d,⟨aY,Y',f⟩,j⟩:=h;refine⟨?_,⟨_,aY,Y',Or.inl rfl,f.at_,(Nx.af k).trans f.nx,f.yk⟩,j⟩;cases g:(bR C K id op (K.mem,K.out) kind a b v).1 with
 |none=>rw[g]at d;exact d
 |some x=>rw[g]at d;exact d
def CN(w0:World)(χ:Nat->a')(L:cU)(Y:Var)(C:KC)(K:KS)(c:cJ)(id op:Int)(g:0<=C.wide/\C.wide<=256/\0<=C.narrow/\C.narrow<=256)(j:K.out.length<=900000):qw 240 (.agg #[(L.mb,0),.int .u64 id,op]) (aI×List Ev) where
 At:=fun S w=>S=(K.mem,K.out)/\ae w χ L Y C K/\Ch ag w0 w
 vS:=fun S w=>∃K' aY Y',GG K c S K'/\dD χ L Y C K K' w0 aY Y' w
 Ok:=fun _=>True
 D:=fun i=>χ i=.mem∨χ i=.gL∨χ i=.out
 acc:=bR C K id op
 FL:=259
 FS:=260
 FW:=261
 FA:=257
 FC:=258
 mL:=Ey _
 mS:=Ez _
 mW:=EA _
 mA:=EB _
 mC:=EC _
 nC:=ED _
 eL:=EE
 eS:=EF
 eW:=EG
 eA:=EH
 eC:=EI
 keep:=fun _ _ _ h k=>⟨h.1,h.2.1.af k,h.2.2.trans k⟩
 Ds:=fun S w h=>⟨K,χ,Y,Or.inl (by rw[h.1]),h.2.1,Nx.af h.2.2,Yk.refl _ _⟩
 zy:=fun S w w' ⟨K',aY,Y',b,d⟩ k=>⟨K',aY,Y',b,d.af k⟩
 cL:=fun S a w _ e h=>by
  obtain⟨rfl,b,d⟩:=h;exact(uO g j id op a e b).mono fun _ _ h=>CM d h
 cS:=fun S a v w _ e f h=>by
  obtain⟨rfl,b,d⟩:=h;refine(sX g j id op a v e f b).mono fun _ _ h=> ?_
  obtain⟨m,⟨aY,Y',l⟩,n⟩:=h;exact⟨m,⟨_,aY,Y',Or.inl rfl,l.at_,(Nx.af d).trans l.nx,l.yk⟩,n⟩
 cW:=fun S a v w _ e f h=>by
  obtain⟨rfl,b,d⟩:=h;exact(oD g j id op a v e f b).mono fun _ _ h=>CM d h
 cA:=fun S a v w _ e f h=>by
  obtain⟨rfl,b,d⟩:=h;exact(ys g j id op a v e f b).mono fun _ _ h=>CM d h
 cC:=fun S a o v w _ e p f h=>by
  obtain⟨rfl,b,d⟩:=h;exact(yt g j id op a o v e p f b).mono fun _ _ h=>CM d h
def wy(C:KC)(K:KS)(id op:Int)(k:Nat):Int×KS:=
 let s:=bM (bR C K id op) C.bs (K.F (.ai id k)) (K.mem,K.out)
 (s.1,({K with mem:=s.2.2.1,out:=s.2.2.2}:KS).cI (.ai id k) s.2.1)
theorem GG.next{c:cJ}{a K':KS}{S:aI×List Ev}{id:Int}{k:Nat}{t:Thread}(h:GG a (.ai id k) S K')(e:aw a.ai id=some t)(d:k<t.l.length):aj K' (.ai id k)/\Gr a K'/\∀g,K'.cI (.ai id k) g=({a with mem:=S.1,out:=S.2}:KS).cI (.ai id k) g:=by
 have b:aj ({a with mem:=S.1,out:=S.2}:KS) (.ai id k):=⟨t,e,d⟩;rcases h with rfl|⟨f,rfl⟩
 ·exact⟨b,Gr.of_eq rfl,fun _=>rfl⟩
 ·exact⟨b.gr (bA b f) (br _ _),(Gr.of_eq (K':=({a with mem:=S.1,out:=S.2}:KS)) rfl).trans (bA b f),fun g=>yu (K:=({a with mem:=S.1,out:=S.2}:KS)) e d f g⟩
theorem dD.Hv{K1:KS}{dZ:Nat->a'}{Y1:Var}{w1 w2:World}{id:Int}{k:Nat}{b:Nat}{t:Thread}(m:dD χ L Y C K K1 w dZ Y1 w1)(r:aw K.ai id=some t)(o:k<t.l.length)(q:aR L Y (.ai id k) b 0)(f:aj K1 (.ai id k))(g:Gr K K1){pre post:List Value}{i j:Value}{f1 f2:cP}(l:aJ w1 b 0 169 pre post i f1)(n:aJ w2 b 0 169 pre post j f2)(p:aS w1 i j)(c:Ch (aH b) w1 w2):
 ∃d a,dD χ L Y C K (K1.cI (.ai id k) f2) w d a w2:=by
 have h:aR L Y1 (.ai id k) b 0:=q.yk ⟨t,r,o⟩ m.yk;obtain⟨v,u,x,e⟩:=m.at_.cur f h;obtain⟨rfl,rfl,rfl⟩:=aJ.same (t:=169) l e;obtain⟨d,a,s⟩:=m.at_.z1 f h e n p c;exact⟨d,a,m.trans g s⟩
theorem EJ(id op:Int)(k:Nat){t:Thread}(m:aw K.ai id=some t)(l:k<t.l.length)(b:Nat)(r:aR L Y (.ai id k) b 0)(Q:∀j,j<32->aK ((K.F (.ai id k)).r j))(E:(K.F (.ai id k)).back.length<=8)(T:∀x∈C.bs,aK x.v)(W:C.bs.length<=2048)(F:0<=C.wide/\C.wide<=256/\0<=C.narrow/\C.narrow<=256)(P:K.out.length<=900000)(h:ae w χ L Y C K):
 Calls prog 105 #[(b,0),.slice L.pc C.bs.length L.Cm,.iface 240 (.agg #[(L.mb,0),.int .u64 id,op])] w
  (zz (wy C K id op k).1 (fun w'=>∃aY Y',dD χ L Y C K (wy C K id op k).2 w aY Y' w')):=by
 have G:aj K (.ai id k):=⟨t,m,l⟩;obtain⟨pre,post,v,I,O,U⟩:=h.FZ G r;have y:=h.code (by simp);have R:=rQ (CN w χ L Y C K (.ai id k) id op F P) (K.mem,K.out) (Z trivial) b 0 169 (by decide) pre post v (K.F (.ai id k)) C.bs L.pc C.bs.length L.Cm rfl y.m5 (by omega) E Q T w I
  (fun B=>by obtain⟨g,a,d,_⟩:=y.prog (by intro e;rw[e]at B;exact absurd B (by simp));exact⟨g,0,a,fun j u N=>by rw[Nat.zero_add];exact d.cell j u N⟩) ⟨rfl,h,Ch.refl _ _⟩
  (fun S w1 w2 a0 f1 a1 f2 ⟨K',aY,Y',a,d⟩ J M A H=>by
   obtain⟨p,f,q⟩:=a.next (c:=.ai id k) m l;obtain⟨s,o,n⟩:=d.Hv m l r p f J M A H;exact⟨_,s,o,Or.inr ⟨f2,q f2⟩,n⟩)
  (fun e=>by
   rcases O with a|⟨_,_,a⟩<;>rcases e with e|e|e<;>rw[a]at e<;>cases e)
  (fun i X e=>by
   have:=h.small i (by rcases e with e|e|e<;>rw[e]<;>simp);omega)
  (fun g f e=>by
   have a:=U g f;rcases e with e|e|e<;>rw[a]at e<;>cases e)
 refine R.mono ?_;rintro e w' ⟨a,⟨v',z,A⟩,⟨K',aY,Y',d,D⟩,V⟩;refine⟨a,?_⟩;obtain⟨p,f,q⟩:=d.next (c:=.ai id k) m l;obtain⟨s,o,n⟩:=D.Hv m l r p f z z (aS.refl _ _) ay;refine⟨s,o,?_⟩;rw[q]at n;exact n
theorem sY{N M:Nat}(I:ow C)(U:Inv N M K)(rc:N<=500000)(rb:M<=500000)(i:Nat)(eA:i<K.wk.length)(id:Int)(t:Thread)(Q:aw K.ai id=some t)(k:Nat)(eL:k+1=t.l.length)(g5:t.l.length%2=1)(h:ae w χ L Y C K):
 Calls prog 63 #[(L.mb,0),(L.wb,i*38),(Y.bI id,0),(Y.fb id k,0)] w (si (.tuple #[]) χ L C (cx C K i id k) w):=by
 have a3:k<t.l.length:=by omega
 have bw:aj K (.ai id k):=⟨t,Q,a3⟩;obtain⟨b,hb⟩:=nm (Y.fb id k);obtain⟨tb,dN⟩:=nm (Y.bI id);have c8:aR L Y (.ai id k) b 0:=⟨hb.symm,rfl⟩;rw[hb,dN];have hid:=(U.de Q).id;obtain⟨x,c1⟩:=nm (fB C.bs (K.F (.ai id k)).pc);have J:=fun w (h:ae w χ L Y C K)=>EJ id x.op k Q a3 b c8 (U.lY bw).r (U.lY bw).back I.pv I.pl I.bw (by have:=U.out;omega) h
 have i9:=pU I U Q (k:=k) a3 x.op;rw[c1]at i9;obtain⟨s,bx⟩:=nm (bM (bR C K id x.op) C.bs (K.F (.ai id k)) (K.mem,K.out));obtain⟨K1,V⟩:=nm (({K with mem:=s.2.2.1,out:=s.2.2.2}:KS).cI (.ai id k) s.2.1);have et:wy C K id x.op k=(s.1,K1):=by unfold wy;rw[bx];dsimp only;rw[V]
 rw[bx,V]at i9;obtain⟨P,j',cb⟩:=i9;have ex:Gr K K1:=by rw[<-V];exact(Gr.of_eq (K':=({K with mem:=s.2.2.1,out:=s.2.2.2}:KS)) rfl).trans (bA (c:=.ai id k) ⟨t,Q,a3⟩ _)
 have B:K1.wk.length=K.wk.length:=by rw[<-V];exact br _ _
 obtain⟨t1,O,eS,_⟩:∃k5,aw K1.ai id=some k5/\k5.l.length=t.l.length/\k5.id=t.id:=by rw[<-V];exact dP (K:=({K with mem:=s.2.2.1,out:=s.2.2.2}:KS)) Q _
 rw[et]at J;have c4:Hid (cx C K i id k=if s.1=1 then hr C (K1.fA (.ai id k)) id k (wrap64 x.v)else if s.1=2 then(if 0<K1.top id then K1.cp id {K1.T id with l:=(K1.T id).l.take (K1.top id)}else eZ C K1 i id k ((K1.F (.ai id k)).r 0))else if s.1=3 then eZ C (tell K1 ⟨4,0,0,id,x.op,0,0,0,0,if x.op≠15/\x.op≠0 then dE (K1.F (.ai id k)).r x else 0,0⟩) i id k 18446744073709551615 else K1):=Z (by unfold cx;dsimp only;rw[c1,bx,V]);have c0:(K.F (.ai id k)).pc<0∨(C.bs.length:Int)<=(K.F (.ai id k)).pc->s.1=3:=fun e=>by
  rw[<-bx];unfold bM;rcases e with e|e
  ·rw[if_pos e]
  ·split
   ·rfl
   ·rw[List.getElem?_eq_none (by omega)]
 have es:=h.code (by simp);have eC:=(P.de O).id;have c7:i<K1.wk.length:=by rw[B];exact eA
 have c6:aj K1 (.ai id k):=⟨t1,O,by omega⟩;obtain⟨r,eV⟩:=nm s.1;rw[eV]at J j' cb c4 c0;dsimp only at J;have o:=Z (And.intro Q (And.intro dN (And.intro hb (And.intro hid a3))));have d:=Z (And.intro O (And.intro eC (And.intro eS (And.intro ex (And.intro B c6)))));have ej:=Z (And.intro bw c8);have gs:=Z (dD.refl h);obtain⟨pc,c9⟩:=nm ((K.F (.ai id k)).pc);have i1:=Z c9;rw[c9]at c1 c0;obtain⟨ab,W⟩:=nm C.bs.length;have ci:=Z W;have rt:ab<=2048:=by rw[<-W];exact I.pl
 rw[W]at J c0;have G:=h.uu bw c8;rw[c9]at G;have k3:=h.c3;rw[W]at k3;have ms:=Z es.prog;have dr:=c1;by_cases li:pc<0∨(ab:Int)<=pc
 ·have ok:(¬0<=pc/\decide (0<=pc)=false)∨(0<=pc/\decide (0<=pc)=true/\decide (pc<(ab:Int))=false):=by
   by_cases e:pc<0
   ·exact Or.inl ⟨by omega,by simpa using e⟩
   ·exact Or.inr ⟨by omega,by simpa using e,by simpa using li.resolve_left e⟩
  have og:r=3:=c0 li;subst og;have p8:x=⟨0,0,0,0,0,0,0⟩:=by rw[<-dr];exact lX (by rw[W];omega)
  subst p8;try dsimp only at J
  try dsimp only at c4
  have i3:Hid (∀w,ae w χ L Y C K->Calls prog 105 #[(b,0),.slice L.pc ab L.Cm,.iface 240 (.agg #[(L.mb,0),.int .u64 id,.int .i64 0])] w (zz 3 (fun w'=>∃aY Y',dD χ L Y C K K1 w aY Y' w'))):=Z J;have ch:=Z (fun(w:World) (χ:Nat->a') (Y:Var) (v:Int) (h:ae w χ L Y C (tell K1 ⟨4,0,0,id,0,0,0,0,0,v,0⟩))=>l5 I (P.tell ⟨4,0,0,id,0,0,0,0,0,v,0⟩) (by omega) (by omega) i c7 id t1 O k (by omega) (by omega) 18446744073709551615 ⟨by decide,by decide⟩ h);have g1:=Z (fun(w:World) (χ:Nat->a') (Y:Var) (v:Int) (h:ae w χ L Y C K1)=>dI 4 0 0 id 0 0 0 0 0 v 0 (by have:=P.out;omega) h);have c2:Hid (cx C K i id k=eZ C (tell K1 ⟨4,0,0,id,0,0,0,0,0,if 0≠15/\0≠0 then dE (K1.F (.ai id k)).r ⟨0,0,0,0,0,0,0⟩else 0,0⟩) i id k 18446744073709551615):=Z (by rw[c4,if_neg (by decide),if_neg (by decide),if_pos rfl];try rfl);clear h U I Q dN hb hid a3 bw c8 c1 J bx V et P j' cb ex B O eS c0 es eC c7 c6 eV c9 W eL g5 eA dr;rcases ok with⟨on,lc⟩|⟨on,lc,oq⟩
  all_goals
   go_in
   go_wp2
   obtain⟨w1,B⟩:=nm (w.alloc (.cells #[.int .i64 0,.int .i64 0,.int .i64 0,.int .i64 0,.int .u64 0,.int .i64 0,.int .i64 0] 152));have gk:=Z (Ch.al (D:=ag) B);have g0:Hid (Row w1 w.heap.size 152 [.int .i64 0,.int .i64 0,.int .i64 0,.int .i64 0,.int .u64 0,.int .i64 0,.int .i64 0]/\χ w.heap.size=.no):=Z ⟨by rw[<-B];exact Row.new w _ _,gs.at_.fresh (Nat.le_refl _)⟩;rw[B];clear B G k3;have cs:=Z (gs.af gk);have G:=cs.at_.uu ej.1 ej.2;rw[i1]at G;have k3:=cs.at_.c3;rw[ci]at k3;go_quiet (fail)
   generalize g6:w1.drewN _=ge;have go:=Z (Ch.dN (D:=ag) g6);clear g6 G k3;have a9:=Z (cs.af go);have ce:=Z ((Nx.af go).row g0.1 g0.2);have G:=a9.at_.c3;rw[ci]at G;have i7:=a9.at_.gw o.1;rw[o.2.2.2.1,o.2.1]at i7;have x0:=ce.1.c1;go_wp2
   go_region_held3 (fun w'=>w'.cell? (L.mb,3)=some (.slice L.pc ab L.Cm)/\w'.cell? (tb,0)=some (.int .u64 id)/\w'.cell? ⟨w.heap.size,0,none⟩=some (.int .i64 0)) (go_keep) ((go_at_call 105;refine(i3 _ a9.at_.drew).mono ?_;rintro e w4 ⟨⟨u,rfl,k1⟩,fz,en,cW⟩;have f:=Z ((a9.af ay).trans (Gr.refl _) cW);have R:=Z (((Nx.af (Ch.refl _ ge).drew).trans cW.nx).row ce.1 ce.2);have g8:=((f.yk id t o.1).1).trans o.2.1;have g9:=((f.yk id t o.1).2 k o.2.2.2.2).trans o.2.2.1;have q:=Z (And.intro g8 g9);clear cW k1 g8 g9;have p4:=f.at_.c3;rw[ci]at p4;have T:=f.at_.gw d.1;rw[d.2.1,q.1]at T;have x4:=R.1.c1))
   all_goals
    clear p4;go_wp2
    go_cut [12] (fun p wc=>uL 159 [.int .i64 4,.int .i64 0,.int .i64 0,.int .u64 id,.int .i64 0,.int .u64 0,.int .u64 0,.int .u64 0,.int .u64 0,.int .u64 0,.int .u64 0] w4 p wc)
    case first=>
     have pa:=World.new_ne w4 ⟨tb,0,none⟩ T;have pi:=World.new_ne w4 ⟨w.heap.size,0,none⟩ x4;have pl:tb≠w4.heap.size:=Nat.ne_of_lt (aQ T);have pm:w.heap.size≠w4.heap.size:=Nat.ne_of_lt (aQ x4);go_region_held3 (fun w'=>w'.cell? (tb,0)=some (.int .u64 id)/\w'.cell? ⟨w.heap.size,0,none⟩=some (.int .i64 0)) (go_keep) (fail)
     all_goals(go_wp2_with fail;go_meet)
     all_goals exact⟨w4.heap.size,rfl,(Row.new w4 _ _).drew,ay,Nat.le_refl _⟩
    case rest=>
     obtain⟨c5,rfl,cd,dC,hle⟩:=hcut;have cl:=Z cd;have kw:=Z hle;have H:=Z (f.af dC);have c3:=Z ((Nx.af dC).row R.1 R.2);have kk:Hid (fz c5=.no):=Z (f.at_.fresh hle);have j9:c5≠w.heap.size:=(fun e=>by have ob:=R.1.lt;omega);have p1:=j9.symm;clear cd dC hle T x4;have x5:=c3.1.c1;have E:Hid (cx C K i id k=eZ C (tell K1 ⟨4,0,0,id,0,0,0,0,0,0,0⟩) i id k 18446744073709551615):=Z (by rw[c2,if_neg (by decide)]);obtain⟨ad,al,am,ap,av,bi,bv,cL,cQ,cS,cC⟩:=cl.BJ;go_wp2_with fail
     with_reducible refine(g1.out _ _ _ 0 H.out.at_).mono ?_
     rintro e kd ⟨rfl,kf,i6,n⟩;have cA:=Z n;have X:=((n.yk id t1 d.1).1).trans q.1;have a1:=((n.yk id t1 d.1).2 k (by rw[d.2.2.1];exact o.2.2.2.2)).trans q.2;have hex:=ch _ _ _ 0 n.at_;rw[X,a1]at hex;have a5:=Z hex;clear hex n X a1 ad al am ap av bi bv cL cQ cS cC;go_wp2_with fail
     with_reducible refine a5.out.mono ?_
     rintro e gf ⟨rfl,a2,S,A,F⟩;have z:=Z (And.intro A ((H.nx.trans cA.nx).trans F));clear A F;go_wp2
     go_end0
     rw[E];exact⟨rfl,a2,S,z.1,z.2⟩
 ·have jr:0<=pc:=by omega
  have l1:pc<(ab:Int):=by omega
  have lc:decide (0<=pc)=true:=by simpa using jr
  have oq:decide (pc<(ab:Int))=true:=by simpa using l1
  have g7:C.bs[pc.toNat]?=some x:=by rw[<-dr];exact oc jr (by rw[W];exact l1)
  obtain⟨g,io,cd,_⟩:=ms (by intro e;rw[e]at g7;cases g7);have mM:=Z cd;have gr:=Z io;rw[io]at k3 J;obtain⟨m,rfl⟩:=Int.eq_ofNat_of_zero_le jr;rw[Int.toNat_natCast]at g7;obtain⟨hi,hm,hn,hu,hv,hw,hB⟩:=eU C.bs m x g7;have cq:=Z (And.intro hi (And.intro hm (And.intro hn (And.intro hu (And.intro hv (And.intro hw hB))))));obtain⟨j,eW,fb,fd,a4,fn,fr⟩:=x;try dsimp only at J
  try dsimp only at c4
  try dsimp only at cb
  have mp:Hid (k<=7):=Z (by have:=(U.de Q).l.n8;omega);have i3:Hid (∀w,ae w χ L Y C K->Calls prog 105 #[(b,0),.slice (some (g,0)) ab L.Cm,.iface 240 (.agg #[(L.mb,0),.int .u64 id,j])] w (zz r (fun w'=>∃aY Y',dD χ L Y C K K1 w aY Y' w'))):=Z J;clear g7 hi hm hn hu hv hw hB cd io;rcases j' with rfl|rfl|rfl|rfl
  have E:Hid (cx C K i id k=K1):=Z (by rw[c4,if_neg (by decide),if_neg (by decide),if_neg (by decide)]);clear h U I Q dN hb hid a3 bw c8 c1 J bx V et P cb ex B O eS c0 es eC c7 c6 eV c9 W eL g5 eA dr;have n0:=True.intro
  rotate_left
  obtain⟨p2,p3,rx⟩:=cb rfl;obtain⟨t2,ll,oC,_⟩:=dP (K:=K1) (k:=k) O {K1.F (.ai id k)with pc:=wrap64 ((K1.F (.ai id k)).pc+1)};have l0:=lf P c6;have mh:=Z (fun(w:World) (χ:Nat->a') (Y:Var) (h:ae w χ L Y C (K1.fA (.ai id k)))=>pT I l0 (by omega) (by omega) id t2 ll k (by omega) (by omega) a4 p3 (by omega) h);have ls:wrap64 a4=a4:=by unfold wrap64;omega
  have E:Hid (cx C K i id k=hr C (K1.fA (.ai id k)) id k a4):=Z (by rw[c4,if_pos rfl,ls]);clear ll oC l0 ls p2;clear h U I Q dN hb hid a3 bw c8 c1 J bx V et P cb ex B O eS c0 es eC c7 c6 eV c9 W eL g5 eA dr;have n1:=True.intro
  rotate_left
  have k2:aK ((K1.F (.ai id k)).r 0):=(P.lY c6).r 0 (by omega);obtain⟨a0,gt⟩:∃a,(K1.F (.ai id k)).r 0=a:=⟨_,rfl⟩;rw[gt]at k2;have mb:=Z gt;have ch:=Z (fun(w:World) (χ:Nat->a') (Y:Var) (h:ae w χ L Y C K1)=>l5 I P (by omega) (by omega) i c7 id t1 O k (by omega) (by omega) a0 k2 h);have lm:K1.top id=k:=by unfold KS.top;rw[KS.dm O];omega
  have c2:Hid (cx C K i id k=if 0<k then K1.cp id {t1 with l:=t1.l.take k}else eZ C K1 i id k a0):=Z (by rw[c4,if_neg (by decide),if_pos rfl,lm,KS.dm O,gt]);have mn:=Z eL;clear gt k2 lm;clear h U I Q dN hb hid a3 bw c8 c1 J bx V et P cb ex B O eS c0 es eC c7 c6 eV c9 W eL g5 eA dr;have n2:=True.intro
  rotate_left
  have ch:=Z (fun(w:World) (χ:Nat->a') (Y:Var) (v:Int) (h:ae w χ L Y C (tell K1 ⟨4,0,0,id,j,0,0,0,0,v,0⟩))=>l5 I (P.tell ⟨4,0,0,id,j,0,0,0,0,v,0⟩) (by omega) (by omega) i c7 id t1 O k (by omega) (by omega) 18446744073709551615 ⟨by decide,by decide⟩ h);have g1:=Z (fun(w:World) (χ:Nat->a') (Y:Var) (v:Int) (h:ae w χ L Y C K1)=>dI 4 0 0 id j 0 0 0 0 v 0 (by have:=P.out;omega) h);have c2:Hid (cx C K i id k=eZ C (tell K1 ⟨4,0,0,id,j,0,0,0,0,if j≠15/\j≠0 then dE (K1.F (.ai id k)).r ⟨j,eW,fb,fd,a4,fn,fr⟩else 0,0⟩) i id k 18446744073709551615):=Z (by rw[c4,if_neg (by decide),if_neg (by decide),if_pos rfl];try rfl);clear h U I Q dN hb hid a3 bw c8 c1 J bx V et P cb ex B O eS c0 es eC c7 c6 eV c9 W eL g5 eA dr;have n8:=True.intro
  rotate_left
  all_goals
   go_in
   go_wp2
   obtain⟨w1,B⟩:=nm (w.alloc (.cells #[.int .i64 0,.int .i64 0,.int .i64 0,.int .i64 0,.int .u64 0,.int .i64 0,.int .i64 0] 152));have gk:=Z (Ch.al (D:=ag) B);have g0:Hid (Row w1 w.heap.size 152 [.int .i64 0,.int .i64 0,.int .i64 0,.int .i64 0,.int .u64 0,.int .i64 0,.int .i64 0]/\χ w.heap.size=.no):=Z ⟨by rw[<-B];exact Row.new w _ _,gs.at_.fresh (Nat.le_refl _)⟩;rw[B];clear B G k3;have cs:=Z (gs.af gk);have G:=cs.at_.uu ej.1 ej.2;rw[i1]at G;have k3:=cs.at_.c3;rw[ci,gr]at k3;go_quiet (fail)
   generalize g6:w1.drewN _=w2;have hK:=Z (Ch.dN (D:=ag) g6);clear g6 G k3;have i4:=Z (cs.af hK);have y:=Z ((Nx.af hK).row g0.1 g0.2);have G:=i4.at_.uu ej.1 ej.2;rw[i1]at G;have k3:=i4.at_.c3;rw[ci,gr]at k3;have cm:=Z (mM.ch (gk.trans hK) (fun h=>h));have lv:=cm.cell _ _ cq.1;have lw:=cm.cell _ _ cq.2.1;have lF:=cm.cell _ _ cq.2.2.1;have lG:=cm.cell _ _ cq.2.2.2.1;have lH:=cm.cell _ _ cq.2.2.2.2.1;have lI:=cm.cell _ _ cq.2.2.2.2.2.1;have l':=cm.cell _ _ cq.2.2.2.2.2.2;have na:=y.1.c1;have ad:=y.1.free 0;have nd:=y.1.k 1 rfl;have al:=y.1.free 1;have ne:=y.1.k 2 rfl;have am:=y.1.free 2;have ni:=y.1.k 3 rfl;have ap:=y.1.free 3;have no:=y.1.k 4 rfl;have av:=y.1.free 4;have nq:=y.1.k 5 rfl;have bi:=y.1.free 5;have nw:=y.1.k 6 rfl;have bv:=y.1.free 6;try dsimp only at lv lw lF lG lH lI l'
   go_wp2
   go_still_tail 12,(by kernel_rfl)
   change wpList _ _ _ _ _ w2.drew;go_upto_region 3 with fail
   obtain⟨ge,he⟩:=nm (((((((((w2.setCell ⟨w.heap.size,0,none⟩ (.int .i64 j)).setCell ⟨w.heap.size,1,none⟩ (.int .i64 eW)).setCell ⟨w.heap.size,2,none⟩ (.int .i64 fb)).setCell ⟨w.heap.size,3,none⟩ (.int .i64 fd)).setCell ⟨w.heap.size,4,none⟩ (.int .u64 a4)).setCell ⟨w.heap.size,5,none⟩ (.int .i64 fn)).setCell ⟨w.heap.size,6,none⟩ (.int .i64 fr))).drew);have go:Hid (Ch (aH w.heap.size) w2 ge):=Z (by rw[<-he];exact ay);have ce:Hid (Row ge w.heap.size 152 [j,eW,fb,fd,.int .u64 a4,fn,fr]/\χ w.heap.size=.no):=Z ⟨by rw[<-he];exact((((((((y.1.set 0 _).set 1 _).set 2 _).set 3 _).set 4 _).set 5 _).set 6 _)).drew,y.2⟩;rw[he];have a9:=Z (i4.plain y.2 (Nat.le_refl _) go);clear he G k3 lv lw lF lG lH lI l' na nd ne ni no nq nw ad al am ap av bi bv;have G:=a9.at_.c3;rw[ci,gr]at G;have i7:=a9.at_.gw o.1;rw[o.2.2.2.1,o.2.1]at i7;have x0:=ce.1.c1;go_wp2
   go_region_held3 (fun w'=>w'.cell? (L.mb,3)=some (.slice (some (g,0)) ab L.Cm)/\w'.cell? (tb,0)=some (.int .u64 id)/\w'.cell? ⟨w.heap.size,0,none⟩=some (.int .i64 j)) (go_keep) ((go_at_call 105;refine(i3 _ a9.at_.drew).mono ?_;rintro e w4 ⟨⟨u,rfl,k1⟩,fz,en,cW⟩;have f:=Z ((a9.af ay).trans (Gr.refl _) cW);have R:=Z (((Nx.af (Ch.refl _ ge).drew).trans cW.nx).row ce.1 ce.2);have g8:=((f.yk id t o.1).1).trans o.2.1;have g9:=((f.yk id t o.1).2 k o.2.2.2.2).trans o.2.2.1;have q:=Z (And.intro g8 g9);clear cW k1 g8 g9;have p4:=f.at_.c3;rw[ci,gr]at p4;have T:=f.at_.gw d.1;rw[d.2.1,q.1]at T;have x4:=R.1.c1))
  all_goals
   first
    |(clear n0
      go_wp2
      go_end0
      rw[E];exact⟨rfl,fz,en,f.at_,f.nx⟩)
    |(clear n1
      clear p4 T x4;have x4:=R.1.k 4 rfl;have g2:Hid (aR L en (.ai id k) b 0):=Z ⟨q.2.symm,rfl⟩;have k4:=f.at_.uu d.2.2.2.2.2 g2;have f0:=f.at_.hy d.2.2.2.2.2 g2 0;obtain⟨pp,hd⟩:=nm ((K1.F (.ai id k)).pc);rw[hd]at k4;have k0:=f.at_.qM d.2.2.2.2.2 g2 (wrap64 ((K1.F (.ai id k)).pc+1));rw[hd]at k0;have mS:=Z k0;have mA:=Z hd;clear k0 hd;go_upto_region 7 with fail
      obtain⟨qj,i5,i8⟩:=mS.out;obtain⟨px,lo⟩:=nm (w4.setCell (b,0) (.int .i64 (wrap64 (pp+1))));rw[lo]at i8⊢;have H:Hid (dD fz L en C K1 (K1.fA (.ai id k)) w4 qj i5 px):=Z (by unfold KS.fA;rw[mA];exact i8);clear i8 lo k4 f0 x4;have c3:=Z (H.nx.row R.1 R.2);have x4:=c3.1.k 4 rfl;have ih:=mh _ _ _ H.at_;rw[(H.yk id t1 d.1).1,q.1,(H.yk id t1 d.1).2 k (by rw[d.2.2.1];exact o.2.2.2.2),q.2]at ih;have mk:=Z ih;clear ih;go_wp2_with fail
      with_reducible refine mk.out.mono ?_
      rintro e gf ⟨rfl,a2,S,A,F⟩;have z:=Z (And.intro A ((f.nx.trans H.nx).trans F));clear A F;go_wp2
      go_end0
      rw[E];exact⟨rfl,a2,S,z.1,z.2⟩)
    |(clear n2
      clear p4 T x4;obtain⟨r6,nx,it,lb,_⟩:=f.at_.hV d.1 (by rw[d.2.2.1];exact Nat.lt_of_le_of_lt (Nat.zero_le _) o.2.2.2.2);have kT:=f.at_.DB d.1;have nL:=f.at_.sf d.1 1;rw[q.1]at kT nL;have mz:=Z it;have hlen:t1.l.length=k+1:=(by rw[d.2.2.1,<-mn]);rw[it,hlen]at kT;have mv:=Z hlen;rw[hlen]at lb;have ro:k<=nx:=(by omega);have re:(k:Int)+1-1=(k:Int):=(by omega);have rg:(k:Int)<=8:=(by have:=mp.out;omega);have rd:k<=k+1:=(by omega);clear it hlen lb;by_cases ip:0<k
      ·have os:decide (0<(k:Int))=true:=by simpa using ip
       have ov:(0:Int)<(k:Int):=(by omega);have jp:=f.at_.FU (m:=k) d.1 mz (by rw[mv];omega);rw[q.1]at jp;have mC:=Z jp;have E:Hid (cx C K i id k=K1.cp id {t1 with l:=t1.l.take k}):=Z (by rw[c2,if_pos ip]);clear jp;go_wp2
       go_end0
       rw[E];obtain⟨i5,lt,_⟩:=mC.out;exact⟨rfl,fz,i5,lt.at_,f.nx.trans lt.nx⟩
      ·have os:decide (0<(k:Int))=false:=by simp;omega
       have ov:¬(0:Int)<(k:Int):=(by omega);have g2:Hid (aR L en (.ai id k) b 0):=Z ⟨q.2.symm,rfl⟩;have k4:w4.cell? (b,1)=some (.int .u64 a0):=(by have:=f.at_.aA d.2.2.2.2.2 g2 0 (by omega);rw[mb]at this;exact this);have E:Hid (cx C K i id k=eZ C K1 i id k a0):=Z (by rw[c2,if_neg ip]);have hex:=ch _ _ _ f.at_;rw[q.1,q.2]at hex;have a5:=Z hex;clear hex;go_wp2_with fail
       with_reducible refine a5.out.mono ?_
       rintro e gf ⟨rfl,a2,S,A,F⟩;have z:=Z (And.intro A (f.nx.trans F));clear A F;go_wp2
       go_end0
       rw[E];exact⟨rfl,a2,S,z.1,z.2⟩)
    |(clear n8
      clear p4;go_wp2
      go_cut [12] (fun p wc=>uL 159 [.int .i64 4,.int .i64 0,.int .i64 0,.int .u64 id,j,.int .u64 0,.int .u64 0,.int .u64 0,.int .u64 0,.int .u64 0,.int .u64 0] w4 p wc)
      case first=>
       have pa:=World.new_ne w4 ⟨tb,0,none⟩ T;have pi:=World.new_ne w4 ⟨w.heap.size,0,none⟩ x4;have pl:tb≠w4.heap.size:=Nat.ne_of_lt (aQ T);have pm:w.heap.size≠w4.heap.size:=Nat.ne_of_lt (aQ x4);go_region_held3 (fun w'=>w'.cell? (tb,0)=some (.int .u64 id)/\w'.cell? ⟨w.heap.size,0,none⟩=some (.int .i64 j)) (go_keep) (fail)
       all_goals(go_wp2_with fail;go_meet)
       all_goals exact⟨w4.heap.size,rfl,(Row.new w4 _ _).drew,ay,Nat.le_refl _⟩
      case rest=>
       obtain⟨c5,rfl,cd,dC,hle⟩:=hcut;have cl:=Z cd;have kw:=Z hle;have H:=Z (f.af dC);have c3:=Z ((Nx.af dC).row R.1 R.2);have kk:Hid (fz c5=.no):=Z (f.at_.fresh hle);have j9:c5≠w.heap.size:=(fun e=>by have ob:=R.1.lt;omega);have p1:=j9.symm;clear cd dC hle T x4;have x5:=c3.1.c1;by_cases g4:j=15
       ·subst g4
        have E:Hid (cx C K i id k=eZ C (tell K1 ⟨4,0,0,id,15,0,0,0,0,0,0⟩) i id k 18446744073709551615):=Z (by rw[c2,if_neg (by decide)]);go_upto_region 17 with fail
        obtain⟨ad,al,am,ap,av,bi,bv,cL,cQ,cS,cC⟩:=cl.BJ;go_wp2_with fail
        with_reducible refine(g1.out _ _ _ 0 H.out.at_).mono ?_
        rintro e kd ⟨rfl,kf,i6,n⟩;have cA:=Z n;have X:=((n.yk id t1 d.1).1).trans q.1;have a1:=((n.yk id t1 d.1).2 k (by rw[d.2.2.1];exact o.2.2.2.2)).trans q.2;have hex:=ch _ _ _ 0 n.at_;rw[X,a1]at hex;have a5:=Z hex;clear hex n X a1 ad al am ap av bi bv cL cQ cS cC;go_wp2_with fail
        with_reducible refine a5.out.mono ?_
        rintro e gf ⟨rfl,a2,S,A,F⟩;have z:=Z (And.intro A ((H.nx.trans cA.nx).trans F));clear A F;go_wp2
        go_end0
        rw[E];exact⟨rfl,a2,S,z.1,z.2⟩
       ·by_cases gc:j=0
        ·subst gc
         have E:Hid (cx C K i id k=eZ C (tell K1 ⟨4,0,0,id,0,0,0,0,0,0,0⟩) i id k 18446744073709551615):=Z (by rw[c2,if_neg (by decide)]);go_upto_region 17 with fail
         obtain⟨ad,al,am,ap,av,bi,bv,cL,cQ,cS,cC⟩:=cl.BJ;go_wp2_with fail
         with_reducible refine(g1.out _ _ _ 0 H.out.at_).mono ?_
         rintro e kd ⟨rfl,kf,i6,n⟩;have cA:=Z n;have X:=((n.yk id t1 d.1).1).trans q.1;have a1:=((n.yk id t1 d.1).2 k (by rw[d.2.2.1];exact o.2.2.2.2)).trans q.2;have hex:=ch _ _ _ 0 n.at_;rw[X,a1]at hex;have a5:=Z hex;clear hex n X a1 ad al am ap av bi bv cL cQ cS cC;go_wp2_with fail
         with_reducible refine a5.out.mono ?_
         rintro e gf ⟨rfl,a2,S,A,F⟩;have z:=Z (And.intro A ((H.nx.trans cA.nx).trans F));clear A F;go_wp2
         go_end0
         rw[E];exact⟨rfl,a2,S,z.1,z.2⟩
        ·have ql:(j==15)=false:=by rw[beq_eq_false_iff_ne];exact g4
         have qm:(j !=15)=true:=(by simpa using g4);have qr:(j==0)=false:=(by rw[beq_eq_false_iff_ne];exact gc);have r5:(j !=0)=true:=(by simpa using gc);obtain⟨g3,ii⟩:∃v,dE (K1.F (.ai id k)).r ⟨j,eW,fb,fd,a4,fn,fr⟩=v:=⟨_,rfl⟩;have E:Hid (cx C K i id k=eZ C (tell K1 ⟨4,0,0,id,j,0,0,0,0,g3,0⟩) i id k 18446744073709551615):=Z (by rw[c2,if_pos ⟨g4,gc⟩,ii]);have mW:Hid (aR L en (.ai id k) b 0):=Z ⟨q.2.symm,rfl⟩;obtain⟨rK,rJ,rL,le⟩:=H.at_.cur d.2.2.2.2.2 mW;have hF:=Z (kD b 0 (K1.F (.ai id k)).pc (K1.F (.ai id k)).r ⟨j,eW,fb,fd,a4,fn,fr⟩ wc.drew le.fr.drew);rw[ii,xL]at hF;dsimp only at hF;clear le ii g4 gc;obtain⟨y0,py,pN,q7,qb,qc,qi⟩:=c3.1.c7;have nJ:=cl.k 9 rfl;have nC:=cl.free 9;go_wp2
         go_region_held3 (fun w'=>w'.cell? ⟨w.heap.size,0,none⟩=some (.int .i64 j)/\w'.cell? ⟨w.heap.size,1,none⟩=some (.int .i64 eW)/\w'.cell? ⟨w.heap.size,2,none⟩=some (.int .i64 fb)/\w'.cell? ⟨w.heap.size,3,none⟩=some (.int .i64 fd)/\w'.cell? ⟨w.heap.size,4,none⟩=some (.int .u64 a4)/\w'.cell? ⟨w.heap.size,5,none⟩=some (.int .i64 fn)/\w'.cell? ⟨w.heap.size,6,none⟩=some (.int .i64 fr)) (go_keep) ((go_at_call 108;refine hF.mono ?_;rintro e kb ⟨rfl,la⟩;have i0:Hid (Ch ag wc kb):=Z (Ch.trans ay la);have mc:=Z ((Nx.af i0).row c3.1 c3.2);have i2:=Z (cl.ch i0 (fun h=>h));clear la;obtain⟨hi,hm,hn,hu,hv,hw,hB⟩:=mc.1.c7;have pu:=i2.k 9 rfl;have pv:=i2.free 9))
         all_goals
          go_upto_region 17 with fail
          obtain⟨m7,hf⟩:=nm (kb.setCell (c5,9) (.int .u64 g3));have md:Hid (Ch (aH c5) kb m7):=Z (by rw[<-hf];exact ay);have mL:Hid (Row m7 c5 159 [.int .i64 4,.int .i64 0,.int .i64 0,.int .u64 id,j,.int .u64 0,.int .u64 0,.int .u64 0,.int .u64 0,.int .u64 g3,.int .u64 0]):=Z (by rw[<-hf];exact i2.set 9 _);rw[hf];clear hf hi hm hn hu hv hw hB pu pv y0 py pN q7 qb qc qi nJ nC;have kE:=Z ((H.af i0).plain kk (Nat.le_trans f.nx.ch.size kw) md);obtain⟨ad,al,am,ap,av,bi,bv,cL,cQ,cS,cC⟩:=mL.BJ;go_wp2_with fail
          with_reducible refine(g1.out _ _ _ g3 kE.out.at_).mono ?_
          rintro e kd ⟨rfl,kf,i6,n⟩;have cA:=Z n;have X:=((n.yk id t1 d.1).1).trans q.1;have a1:=((n.yk id t1 d.1).2 k (by rw[d.2.2.1];exact o.2.2.2.2)).trans q.2;have hex:=ch _ _ _ g3 n.at_;rw[X,a1]at hex;have a5:=Z hex;clear hex n X a1 ad al am ap av bi bv cL cQ cS cC;go_wp2_with fail
          with_reducible refine a5.out.mono ?_
          rintro e gf ⟨rfl,a2,S,A,F⟩;have z:=Z (And.intro A ((kE.nx.trans cA.nx).trans F));clear A F;go_wp2
          go_end0
          rw[E];exact⟨rfl,a2,S,z.1,z.2⟩)
theorem yv{N M:Nat}(O:ow C)(A:Inv N M K)(eL:N<=400000)(eC:M<=400000)(i:Nat)(x:i<K.wk.length)(R:0<=K.w/\K.w<K.wk.length)(cS:(fR C K i).clock.fl=[])(h:ae w χ L Y C K):
 Calls prog 31 #[(L.mb,0),(L.wb,i*38)] w (si (.tuple #[]) χ L C (fR C K i) w):=by
 have cL:=Z cS;clear cS;have ex:=h.mK x;obtain⟨id,hid⟩:=nm ((K.W i).slot);rw[hid]at ex;by_cases I:id=0
 ·subst I
  have dC:=Z (Aw O A (by omega) (by omega) i x R h);have E:Hid (fR C K i=kg C K i):=Z (by unfold fR;rw[if_pos hid]);clear h A O x R hid;go_in
  go_wp2_with fail
  with_reducible refine dC.out.mono ?_
  rintro e cA ⟨rfl,ab,a1,z,G⟩;have y:=Z (And.intro z G);clear z G;go_wp2
  go_end0
  rw[E];exact⟨rfl,ab,a1,y.1,y.2⟩
 ·have eS:(id==0)=false:=by rw[beq_eq_false_iff_ne];exact I
  obtain⟨t,v⟩:=A.core.k9 (KS.ha x) (by rw[hid];exact I);rw[hid]at v;have P:=A.de v;have c7:=P.l.n0;have ce:=P.l.n8;obtain⟨m,c6⟩:∃m,t.l.length=m+1:=⟨t.l.length-1,by omega⟩;have c8:K.top id=m:=by unfold KS.top;rw[KS.dm v];omega
  obtain⟨f,J⟩:∃f,t.l[m]?=some f:=⟨_,List.getElem?_eq_getElem (by omega)⟩;have V:=P.l.cg _ f J;have c2:(K.T id).l.getD m default=f:=by rw[KS.dm v,List.getD_eq_getElem?_getD,J];rfl
  have a9:=A.gA x;obtain⟨a,a4⟩:=nm ((K.W i).left);have c4:=a9.l0;have cq:=a9.l1;rw[a4]at c4 cq;have T:Hid (fR C K i=if f.cg=false/\a=0 then dB C (cr K id) i else if f.cg then cD C (K.bj i {K.W i with left:=max (a-1) 0}) i id m else cx C (K.bj i {K.W i with left:=max (a-1) 0}) i id m):=Z (by unfold fR;rw[hid,if_neg I];dsimp only;rw[c8,c2,a4]);obtain⟨g,cap,c5,cd,c3⟩:=h.hV v c7;obtain⟨b,hb⟩:=nm (Y.fb id m);obtain⟨tb,W⟩:=nm (Y.bI id);have r:=h.DB v;have s:=c3 m (by omega);have l:=h.sg v J;have ch:=h.hN;have u:=h.Dy x;have av:=h.uq (i*38+3);have q:=h.gw v;rw[W]at r q;obtain⟨U,c1⟩:=nm t.l.length;rw[c5,c1]at r;rw[hb]at s l;rw[a4]at u;rw[P.id]at q;have ad:=fun n=>(h.drewN n).look id
  rw[v,W]at ad;dsimp only[Option.map,Option.getD,bk]at ad;have al:=h.look id;rw[v,W]at al;dsimp only[Option.map,Option.getD,bk]at al;have cb:=Z h;have k:=Z (And.intro v (And.intro W (And.intro hb (And.intro c6 P.id))));have fd:IntKind.i64.wrap ((U:Int)-1)=m:=by rw[show(U:Int)-1=m by omega];exact IntWalk.i64_in _ (by omega)
  have eW:(0:Int)<=(m:Int):=by omega
  have fb:(m:Int)<(U:Int):=by omega
  have fn:IntKind.i64.wrap (m:Int)=m:=IntWalk.i64_in _ (by omega);have eV:U<=cap:=by omega
  have c9:=(A.Et (by omega) v).1;have a2:Inv N M (K.bj i {K.W i with left:=max (a-1) 0}):=A.bj x rfl rfl ⟨a9.f,by show 0<=max (a-1) 0;omega,by show max (a-1) 0<=24;omega⟩;have a3:i<(K.bj i {K.W i with left:=max (a-1) 0}).wk.length:=by rw[bG];exact x
  have am:((K.bj i {K.W i with left:=max (a-1) 0}).W i).slot=id:=by rw[gM x];exact hid
  have ci:=Z (fun w (h:ae w χ L Y C K)=>h.wm x (max (a-1) 0));cases Q:f.cg with
  |false=>
   rw[Q]at l V T;have es:m%2≠1:=(by simpa using V.symm);by_cases ap:a=0
   ·subst ap
    have E:Hid (fR C K i=dB C (cr K id) i):=Z (by rw[T,if_pos ⟨rfl,rfl⟩]);have cW:=Z (fun w (h:ae w χ L Y C K)=>fh id c9 h);have dr:=Z (fun(w:World) (χ:Nat->a') (Y:Var) (h:ae w χ L Y C (cr K id))=>iN i (by exact x) h);clear h A O x R hid v P c7 ce c6 c1 c8 J V c2 a9 a4 c5 cd c3 hb W c9 a2 a3 am Q c4 cq I;go_wp2
    go_quiet (fail)
    generalize p:World.drewN _ _=w1;have c:=Z (Ch.dN (D:=ag) p);clear p;have r:=c.k r;have s:=c.k s;have l:=c.k l;have u:=c.k u;have q:=c.k q;go_wp2
    go_region_held3 (fun w'=>w'.cell? (tb,1)=some (.slice (some (g,0)) U cap)/\w'.cell? ⟨g,m,none⟩=some (.pointer (some (b,0)))) (go_keep) (fail)
    generalize p:World.drew w1=w2;have d:Hid (Ch ag w1 w2):=Z (by rw[<-p];exact ay);clear p;have r:=d.k r;have s:=d.k s;have l:=d.k l;have u:=d.k u;have q:=d.k q;have H:=Z (cb.af (c.trans d));have a0:=Z (Nx.af (χ:=χ) (c.trans d));clear ad al s ch;go_wp2_with fail
    with_reducible refine(cW.out _ H.out).mono ?_
    rintro e cs ⟨rfl,cC,cl,j⟩;have S:=Z j;clear j r l u q;go_wp2_with fail
    with_reducible refine(dr.out _ _ _ S.out.at_).mono ?_
    rintro e w4 ⟨rfl,eA,dN,cm⟩;have cQ:=Z (And.intro cm.at_ ((a0.trans S.nx).trans cm.nx));clear cm;go_wp2
    go_end0
    rw[E];exact⟨rfl,eA,dN,cQ.1,cQ.2⟩
   ·have B:max (a-1) 0=a-1:=by omega
    have et:(a==0)=false:=(by rw[beq_eq_false_iff_ne];exact ap);have en:1<=a:=(by omega);have ej:(0:Int)<=a-1:=(by omega);have E:Hid (fR C K i=cx C (K.bj i {K.W i with left:=a-1}) i id m):=Z (by rw[T,if_neg (by rintro⟨_,e⟩;exact ap e),if_neg (by decide),B]);have bi:=Z J;have bv:=Z Q;have a5:0<=(K.bj i {K.W i with left:=max (a-1) 0}).w/\(K.bj i {K.W i with left:=max (a-1) 0}).w<(K.bj i {K.W i with left:=max (a-1) 0}).wk.length:=(by rw[bG];exact R);have o:=(fun(w:World) (χ:Nat->a') (Y:Var) (h:ae w χ L Y C (K.bj i {K.W i with left:=max (a-1) 0}))=>sY O a2 (by omega) (by omega) i a3 id t v m (by omega) (by omega) h);rw[B]at o;have bw:=Z o;clear o a5;clear h A O x R hid v P c7 ce c6 c1 c8 J V c2 a9 a4 c5 cd c3 hb W c9 a2 a3 am Q c4 I;go_wp2
    go_quiet (fail)
    generalize p:World.drewN _ _=w1;have c:=Z (Ch.dN (D:=ag) p);clear p;have r:=c.k r;have s:=c.k s;have l:=c.k l;have u:=c.k u;have q:=c.k q;go_wp2
    go_region_held3 (fun w'=>w'.cell? (tb,1)=some (.slice (some (g,0)) U cap)/\w'.cell? ⟨g,m,none⟩=some (.pointer (some (b,0)))) (go_keep) (fail)
    generalize p:World.drew w1=w2;have d:Hid (Ch ag w1 w2):=Z (by rw[<-p];exact ay);clear p;have r:=d.k r;have s:=d.k s;have l:=d.k l;have u:=d.k u;have q:=d.k q;have H:=Z (cb.af (c.trans d));have a0:=Z (Nx.af (χ:=χ) (c.trans d));clear ad al s ch;have av:=H.uq (i*38+3);have F:=ci _ H;rw[B]at F;have c0:=Z F;clear F;go_wp2_with fail
    obtain⟨cC,cl,j⟩:=c0.out;obtain⟨cs,X⟩:=nm (w2.setCell (L.wb,i*38+3) (.int .i64 (a-1)));rw[X]at j⊢;have S:=Z j;have o:=bw _ _ _ j.at_;rw[(j.yk id t k.1).1,k.2.1,(j.yk id t k.1).2 m (by rw[k.2.2.2.1];exact Nat.lt_succ_self m),k.2.2.1]at o;have bx:=Z o;have l:=j.at_.sg k.1 bi;rw[(j.yk id t k.1).2 m (by rw[k.2.2.2.1];exact Nat.lt_succ_self m),k.2.2.1,bv]at l;clear j X o r u q av;go_wp2_with fail
    with_reducible refine bx.out.mono ?_
    rintro e cA ⟨rfl,ab,a1,z,G⟩;have y:=Z (And.intro z ((a0.trans S.nx).trans G));clear z G;go_wp2
    go_end0
    rw[E];exact⟨rfl,ab,a1,y.1,y.2⟩
  |true=>
   rw[Q]at l V T;have es:m%2=1:=(by simpa using V.symm);by_cases ap:a=0
   ·subst ap
    have B:max ((0:Int)-1) 0=0:=(by decide);have E:Hid (fR C K i=cD C (K.bj i {K.W i with left:=0}) i id m):=Z (by rw[T,if_neg (by rintro⟨e,_⟩;cases e),if_pos rfl,B]);have bi:=Z J;have bv:=Z Q;have a5:0<=(K.bj i {K.W i with left:=max ((0:Int)-1) 0}).w/\(K.bj i {K.W i with left:=max ((0:Int)-1) 0}).w<(K.bj i {K.W i with left:=max ((0:Int)-1) 0}).wk.length:=(by rw[bG];exact R);have o:=(fun(w:World) (χ:Nat->a') (Y:Var) (h:ae w χ L Y C (K.bj i {K.W i with left:=max ((0:Int)-1) 0}))=>ld O a2 (by omega) (by omega) i a3 id t v am I (by omega) m (by omega) (by exact a5) (by have:=cL.out;rw[T,if_neg (by rintro⟨e,_⟩;cases e),if_pos rfl]at this;exact this) h);rw[B]at o;have bw:=Z o;clear o a5;clear h A O x R hid v P c7 ce c6 c1 c8 J V c2 a9 a4 c5 cd c3 hb W c9 a2 a3 am Q c4 cq I;go_wp2
    go_quiet (fail)
    generalize p:World.drewN _ _=w1;have c:=Z (Ch.dN (D:=ag) p);clear p;have r:=c.k r;have s:=c.k s;have l:=c.k l;have u:=c.k u;have q:=c.k q;go_wp2
    go_region_held3 (fun w'=>w'.cell? (tb,1)=some (.slice (some (g,0)) U cap)/\w'.cell? ⟨g,m,none⟩=some (.pointer (some (b,0)))) (go_keep) (fail)
    generalize p:World.drew w1=w2;have d:Hid (Ch ag w1 w2):=Z (by rw[<-p];exact ay);clear p;have r:=d.k r;have s:=d.k s;have l:=d.k l;have u:=d.k u;have q:=d.k q;have H:=Z (cb.af (c.trans d));have a0:=Z (Nx.af (χ:=χ) (c.trans d));clear ad al s ch;have av:=H.uq (i*38+3);have F:=ci _ H;rw[B]at F;have c0:=Z F;clear F;go_wp2_with fail
    obtain⟨cC,cl,j⟩:=c0.out;try rw[show max (-1:Int) 0=0 from rfl]
    obtain⟨cs,X⟩:=nm (w2.setCell (L.wb,i*38+3) (.int .i64 (0)));rw[X]at j⊢;have S:=Z j;have o:=bw _ _ _ j.at_;rw[(j.yk id t k.1).1,k.2.1,(j.yk id t k.1).2 m (by rw[k.2.2.2.1];exact Nat.lt_succ_self m),k.2.2.1]at o;have bx:=Z o;have l:=j.at_.sg k.1 bi;rw[(j.yk id t k.1).2 m (by rw[k.2.2.2.1];exact Nat.lt_succ_self m),k.2.2.1,bv]at l;clear j X o r u q av;go_wp2_with fail
    with_reducible refine bx.out.mono ?_
    rintro e cA ⟨rfl,ab,a1,z,G⟩;have y:=Z (And.intro z ((a0.trans S.nx).trans G));clear z G;go_wp2
    go_end0
    rw[E];exact⟨rfl,ab,a1,y.1,y.2⟩
   ·have B:max (a-1) 0=a-1:=by omega
    have et:(a==0)=false:=(by rw[beq_eq_false_iff_ne];exact ap);have en:1<=a:=(by omega);have ej:(0:Int)<=a-1:=(by omega);have E:Hid (fR C K i=cD C (K.bj i {K.W i with left:=a-1}) i id m):=Z (by rw[T,if_neg (by rintro⟨e,_⟩;cases e),if_pos rfl,B]);have bi:=Z J;have bv:=Z Q;have a5:0<=(K.bj i {K.W i with left:=max (a-1) 0}).w/\(K.bj i {K.W i with left:=max (a-1) 0}).w<(K.bj i {K.W i with left:=max (a-1) 0}).wk.length:=(by rw[bG];exact R);have o:=(fun(w:World) (χ:Nat->a') (Y:Var) (h:ae w χ L Y C (K.bj i {K.W i with left:=max (a-1) 0}))=>ld O a2 (by omega) (by omega) i a3 id t v am I (by omega) m (by omega) (by exact a5) (by have:=cL.out;rw[T,if_neg (by rintro⟨e,_⟩;cases e),if_pos rfl]at this;exact this) h);rw[B]at o;have bw:=Z o;clear o a5;clear h A O x R hid v P c7 ce c6 c1 c8 J V c2 a9 a4 c5 cd c3 hb W c9 a2 a3 am Q c4 I;go_wp2
    go_quiet (fail)
    generalize p:World.drewN _ _=w1;have c:=Z (Ch.dN (D:=ag) p);clear p;have r:=c.k r;have s:=c.k s;have l:=c.k l;have u:=c.k u;have q:=c.k q;go_wp2
    go_region_held3 (fun w'=>w'.cell? (tb,1)=some (.slice (some (g,0)) U cap)/\w'.cell? ⟨g,m,none⟩=some (.pointer (some (b,0)))) (go_keep) (fail)
    generalize p:World.drew w1=w2;have d:Hid (Ch ag w1 w2):=Z (by rw[<-p];exact ay);clear p;have r:=d.k r;have s:=d.k s;have l:=d.k l;have u:=d.k u;have q:=d.k q;have H:=Z (cb.af (c.trans d));have a0:=Z (Nx.af (χ:=χ) (c.trans d));clear ad al s ch;have av:=H.uq (i*38+3);have F:=ci _ H;rw[B]at F;have c0:=Z F;clear F;go_wp2_with fail
    obtain⟨cC,cl,j⟩:=c0.out;obtain⟨cs,X⟩:=nm (w2.setCell (L.wb,i*38+3) (.int .i64 (a-1)));rw[X]at j⊢;have S:=Z j;have o:=bw _ _ _ j.at_;rw[(j.yk id t k.1).1,k.2.1,(j.yk id t k.1).2 m (by rw[k.2.2.2.1];exact Nat.lt_succ_self m),k.2.2.1]at o;have bx:=Z o;have l:=j.at_.sg k.1 bi;rw[(j.yk id t k.1).2 m (by rw[k.2.2.2.1];exact Nat.lt_succ_self m),k.2.2.1,bv]at l;clear j X o r u q av;go_wp2_with fail
    with_reducible refine bx.out.mono ?_
    rintro e cA ⟨rfl,ab,a1,z,G⟩;have y:=Z (And.intro z ((a0.trans S.nx).trans G));clear z G;go_wp2
    go_end0
    rw[E];exact⟨rfl,ab,a1,y.1,y.2⟩
def iR(χ:Nat->a'):Nat->a':=fun i=>if χ i=.out then .no else χ i
theorem yw(χ:Nat->a')(i:Nat):iR χ i≠ .out:=by
 unfold iR;split
 ·decide
 ·assumption
theorem yx{χ:Nat->a'}{i:Nat}{k:a'}(h:χ i=k)(a:k≠ .out):iR χ i=k:=by
 unfold iR;rw[if_neg (by rw[h];exact a),h]
theorem ae.CO(h:ae w χ L Y C K):ae (w.setCell (L.mb,1020) (.slice none 0 0)) (iR χ) L {Y with ov:=.slice none 0 0} C {K with out:=[]}/\
 (w.setCell (L.mb,1020) (.slice none 0 0)).ownsRow 0 159 11 Y.ov K.out.length (K.out.flatMap Ev.cells):=by
 have o:=h.head (by simp);have v:=h.out (by simp);have c:Ch (aH L.mb) w (w.setCell (L.mb,1020) (.slice none 0 0)):=ay;have s:eT [.gL] χ χ (aH L.mb) w (w.setCell (L.mb,1020) (.slice none 0 0)):=eT.one c (fun i r=>by rw[show i=L.mb from r];simp[o.k]) h.small;have base:=h.step s (by simp);have a:∀{i:Nat} {k:a'},χ i=k->k≠ .out->iR χ i=k:=fun f m=>yx f m
 refine⟨{
  head:=fun b=>⟨o.row.bc _ _ ?_,o.rows,a o.k (by simp)⟩
  mem:=fun b=>⟨(base.mem (by simp)).is,a (base.mem (by simp)).k1 (by simp),a (base.mem (by simp)).k2 (by simp),a (base.mem (by simp)).k3 (by simp)⟩
  al:=fun b=>⟨(base.al (by simp)).is,a (base.al (by simp)).k1 (by simp),fun q d=>a ((base.al (by simp)).k2 q d) (by simp)⟩
  b2:=fun b=>⟨(base.b2 (by simp)).is,a (base.b2 (by simp)).k1 (by simp),a (base.b2 (by simp)).k2 (by simp),a (base.b2 (by simp)).k3 (by simp),a (base.b2 (by simp)).k4 (by simp),fun q d=>a ((base.b2 (by simp)).k5 q d) (by simp)⟩
  ring:=fun b=>⟨(base.ring (by simp)).is,a (base.ring (by simp)).k1 (by simp),a (base.ring (by simp)).k2 (by simp)⟩
  q:=fun b=>⟨(base.q (by simp)).is,(base.q (by simp)).b1,fun i r=>a ((base.q (by simp)).k i r) (by simp)⟩
  cZ:=fun b=>⟨(base.cZ (by simp)).is,a (base.cZ (by simp)).k1 (by simp),a (base.cZ (by simp)).k2 (by simp)⟩
  obj:=fun b=>⟨(base.obj (by simp)).is,a (base.obj (by simp)).k1 (by simp),a (base.obj (by simp)).k2 (by simp)⟩
  tm:=fun b=>⟨(base.tm (by simp)).is,a (base.tm (by simp)).k (by simp),(base.tm (by simp)).nd⟩
  th:=fun j u l b=>⟨(base.th j u l (by simp)).is,a (base.th j u l (by simp)).k (by simp)⟩
  tl:=fun j u l b=>⟨(base.tl j u l (by simp)).is,fun q d=>a ((base.tl j u l (by simp)).k q d) (by simp)⟩
  fr:=fun j u k f' l t b=>⟨(base.fr j u k f' l t (by simp)).is,a (base.fr j u k f' l t (by simp)).kf (by simp),fun q d=>a ((base.fr j u k f' l t (by simp)).kb q d) (by simp)⟩
  wk:=fun b=>⟨(base.wk (by simp)).is,a (base.wk (by simp)).k (by simp),(base.wk (by simp)).back,fun i x n q d=>a ((base.wk (by simp)).kb i x n q d) (by simp),(base.wk (by simp)).n⟩
  out:=fun b=>⟨⟨rfl,Or.inl ⟨rfl,rfl⟩⟩,fun q d=>by cases d⟩
  code:=fun b=>{
   m4:=(base.code (by simp)).m4
   jo:=(base.code (by simp)).jo
   m5:=(base.code (by simp)).m5
   cg:=fun n=>by obtain⟨q,f,m,p⟩:=(base.code (by simp)).cg n;exact⟨q,f,m,a p (by simp)⟩
   prog:=fun n=>by obtain⟨q,f,m,p⟩:=(base.code (by simp)).prog n;exact⟨q,f,m,a p (by simp)⟩
   calls:=fun n=>by obtain⟨q,j,f,m,p⟩:=(base.code (by simp)).calls n;exact⟨q,j,f,m,a p (by simp)⟩}
  small:=fun i r=>base.small i (fun e=>r (by unfold iR;rw[e];rfl))},?_⟩
 ·have:=n3 (L:=L) (C:=C) (ov:=Y.ov) (nw:=K.wk.length) (en:=K.entries) (at_:=K.at_) (wn:=K.w) (dr:=K.draw) o.rows 13 (.slice none 0 0)
  rw[this];rfl
 ·exact ak v.is c (fun g y e=>by
   have f:=v.k g y;rw[show g=L.mb from e,o.k]at f;cases f)
def DG(x:List Ev×KS)(χ:Nat->a')(L:cU)(C:KC)(w:World)(e:Ending)(w':World):Prop:=
 ∃v aY Y',e=.returned v/\w'.ownsRow w.heap.size 159 11 v x.1.length (x.1.flatMap Ev.cells)/\(∀g,v.ownBlock=some g->aY g=.no)/\ae w' aY L Y' C x.2/\Nx χ aY w w'/\∀i,aY i≠ .out
theorem yy{w:World}{e:TypeId}{z:Nat}{v:Value}{n B:Nat}{xs:List Value}(h:w.ownsRow 0 e z v n xs)(d:∀g,v.ownBlock=some g->B<=g):w.ownsRow B e z v n xs:=by
 refine⟨h.1,?_⟩;rcases h.2 with b|⟨g,cap,cur,a,_,c⟩
 ·exact Or.inl b
 ·exact Or.inr ⟨g,cap,cur,a,d g (by rw[a];rfl),c⟩
theorem ae.sZ(h:ae w' χ L Y C K){d:Nat->a'}(n:Nx d χ w w')(k:∀i,d i≠ .out):DG (K.out,{K with out:=[]}) d L C w (.returned Y.ov) (w'.setCell (L.mb,1020) (.slice none 0 0)):=by
 obtain⟨l,m⟩:=h.CO;have j:=h.out (by simp);have o:∀g,Y.ov.ownBlock=some g->w.heap.size<=g:=fun g b=>by
  rcases Nat.lt_or_ge g w.heap.size with a|a
  ·have f:=n.same g a
   rw[j.k g b]at f;exact absurd f.symm (k g)
  ·exact a
 refine⟨Y.ov,_,_,rfl,yy m o,fun g b=>by unfold iR;rw[if_pos (j.k g b)],l,?_,yw χ⟩;have p:=h.head (by simp);refine⟨n.ch.join (E:=aH L.mb) ay (fun i c e=> ?_),fun i c=> ?_⟩
 ·have:i=L.mb:=e
  subst this;rw[<-n.same _ c,p.k];decide
 ·unfold iR
  rw[n.same i c,if_neg (k i)]
theorem CP{N:Nat}(a9:ow C)(f:Inv N 0 K)(c9:N<=300000)(kind wk draw:Int)(al:aK draw)(ad:∀i,χ i≠ .out)(av:(ht C K kind wk draw).2.clock.fl=[])(h:ae w χ L Y C K):
 Calls prog 15 #[(L.mb,0),.agg #[kind,wk,.int .u64 draw]] w (DG (ht C K kind wk draw) χ L C w):=by
 have a0:=Z av;obtain⟨w0,o⟩:=nm (w.alloc (.cells #[kind,wk,.int .u64 draw] 51));have p:=Z (Ch.al (D:=ag) o);have j:=Z (h.gU p);have d:Hid (Row w0 w.heap.size 51 [kind,wk,.int .u64 draw]/\χ w.heap.size=.no):=Z ⟨by rw[<-o];exact Row.new w _ _,h.fresh (Nat.le_refl _)⟩;obtain⟨t0,t1,t2⟩:=d.1.c3;obtain⟨en,S⟩:=nm K.entries;have T:=j.at_.setAt en;have U:=T.at_.DA (-1);have bx:=U.at_.Ct draw;have V:=(T.trans (Gr.of_eq rfl) U).trans (Gr.of_eq rfl) bx;have c0:=V.at_.Ei (wrap64 (en+1));have c1:=dD.af (V.trans (Gr.of_eq rfl) c0) (Ch.refl _ _).drew;obtain⟨K1,A⟩:=nm (({K with at_:=en,w:=-1,draw:=draw,entries:=wrap64 (en+1)}:KS));have c:Inv N 0 K1:=by rw[<-A];exact⟨f.core,f.nd,f.q,f.b2,f.bI,f.mem,f.obj,al,f.w0,f.w1,f.out⟩
 have a:Hid (dD χ L Y C K K1 w0 χ Y (((((w0.setCell (L.mb,1017) (.int .i64 en)).setCell (L.mb,1018) (.int .i64 (-1))).setCell (L.mb,1019) (.int .u64 draw)).setCell (L.mb,1016) (.int .i64 (wrap64 (en+1)))).drew)):=Z (by rw[<-A];exact c1);have a3:=j.at_.FI;rw[S]at a3;have c5:=j.at_.Hu;have c6:=j.at_.GC;have c7:=j.at_.Dv;have f1:=j.at_.fz 1016;have f2:=j.at_.fz 1017;have f3:=j.at_.fz 1018;have f4:=j.at_.fz 1019;have bi:L.mb≠w.heap.size:=Nat.ne_of_lt h.GY;have ce:=bi.symm;have M:K1.wk.length=K.wk.length:=by rw[<-A]
 have q:Hid (ht C K kind wk draw=((if kind=2 then hs K1 else if kind=1 then(if 0<=wk/\wk<K.wk.length then fR C {K1 with w:=wk} wk.toNat else K1)else K1).out,{(if kind=2 then hs K1 else if kind=1 then(if 0<=wk/\wk<K.wk.length then fR C {K1 with w:=wk} wk.toNat else K1)else K1)with out:=[]})):=Z (by rw[<-A,<-S];rfl);have r:=Z ad;obtain⟨s,Q⟩:=nm K.wk.length;rw[Q]at q M;have ch:s<=64:=by rw[<-Q];exact f.w1
 have v:=Z M;by_cases J:kind=2
 ·subst J
  have a2:=Z (fun w (h:ae w χ L Y C K1)=>ye (c.b2.ok (by omega)) (by have:=c.out;omega) h);have E:Hid (ht C K 2 wk draw=((hs K1).out,{hs K1 with out:=[]})):=Z (by rw[q,if_pos rfl]);go_in
  go_wp2
  try rw[o]
  go_region
  go_wp2_with fail
  obtain⟨B,l⟩:=nm ((((((w0.setCell (L.mb,1017) (.int .i64 en)).setCell (L.mb,1018) (.int .i64 (-1))).setCell (L.mb,1019) (.int .u64 draw)).setCell (L.mb,1016) (.int .i64 (wrap64 (en+1)))).drew));rw[l]at a⊢;have g:=Z (a.nx.row d.1 d.2);with_reducible refine(a2.out _ a.out.at_).mono ?_
  rintro e F ⟨rfl,cl,c3,a4⟩;have b:=Z a4;have co:=b.at_.sa;have z:=b.at_.fz 1020;go_wp2
  go_ret;rw[E];exact ae.sZ b.at_ (((Nx.af p).trans a.nx).trans b.nx) r
 ·have cd:(kind==2)=false:=by rw[beq_eq_false_iff_ne];exact J
  by_cases I:kind=1
  ·subst I
   by_cases O:0<=wk/\wk<s
   ·obtain⟨k,t⟩:=O
    obtain⟨i,rfl⟩:=Int.eq_ofNat_of_zero_le k;have ap:i<K1.wk.length:=(by rw[M];omega);have ab:Inv N 0 ({K1 with w:=(i:Int)}:KS):=⟨c.core,c.nd,c.q,c.b2,c.bI,c.mem,c.obj,c.draw,c.w0,c.w1,c.out⟩;have a1:=Z (fun(w:World) (χ:Nat->a') (Y:Var) (h:ae w χ L Y C ({K1 with w:=(i:Int)}:KS))=>yv a9 ab (by omega) (by omega) i ap ⟨k,by show(i:Int)<K1.wk.length;omega⟩ (by have:=a0.out;rw[q,if_neg (by decide),if_pos rfl,if_pos ⟨k,t⟩]at this;exact this) h);have E:Hid (ht C K 1 i draw=((fR C {K1 with w:=(i:Int)} i).out,{fR C {K1 with w:=(i:Int)} i with out:=[]})):=Z (by rw[q,if_neg (by decide),if_pos rfl,if_pos ⟨k,t⟩];rfl);have R:decide (0<=(i:Int))=true:=(by simpa using k);have am:decide ((i:Int)<(s:Int))=true:=(by simpa using t);go_in
    go_wp2
    try rw[o]
    go_region
    go_upto_region 7 with fail
    obtain⟨B,l⟩:=nm ((((((w0.setCell (L.mb,1017) (.int .i64 en)).setCell (L.mb,1018) (.int .i64 (-1))).setCell (L.mb,1019) (.int .u64 draw)).setCell (L.mb,1016) (.int .i64 (wrap64 (en+1)))).drew));rw[l]at a⊢;have g:=Z (a.nx.row d.1 d.2);have G:=g.1.k 1 rfl;have m:=a.at_.qH;rw[v]at m;go_quiet (fail)
    generalize u:World.drewN _ _=F;have n:=Z (Ch.dN (D:=ag) u);have b:=Z (a.af n);have H:=Z ((Nx.af n).row g.1 g.2);have G:=H.1.k 1 rfl;have m:=b.at_.GC;have c8:=b.at_.fz 1018;have bv:=b.at_.DA (i:Int);have P:=Z bv;go_upto_region 9 with fail
    obtain⟨W,bw⟩:=nm (F.setCell (L.mb,1018) (.int .i64 (i:Int)));rw[bw]at P⊢;have x:=P;have X:=Z (x.nx.row H.1 H.2);have G:=X.1.k 1 rfl;have m:=x.at_.qH;dsimp only at m;rw[v]at m;go_still_tail 8,(by kernel_rfl)
    change wpList _ _ _ _ _ W.drew;go_wp2_with fail
    with_reducible refine(a1.out _ _ _ x.out.at_.drew).mono ?_
    rintro e ci ⟨rfl,cm,c4,a5,c2⟩;have y:=Z (And.intro a5 ((((((Nx.af p).trans a.nx).trans (Nx.af n)).trans x.nx).trans (Nx.af (Ch.refl _ W).drew)).trans c2));have co:=y.1.sa;have z:=y.1.fz 1020;go_wp2
    go_ret;rw[E];exact ae.sZ y.1 y.2 r
   ·have E:Hid (ht C K 1 wk draw=(K1.out,{K1 with out:=[]})):=Z (by rw[q,if_neg (by decide),if_pos rfl,if_neg O])
    by_cases k:0<=wk
    ·have R:decide (0<=wk)=true:=by simpa using k
     have t:¬wk<(s:Int):=(fun e=>O ⟨k,e⟩);have am:decide (wk<(s:Int))=false:=(by simpa using t);go_in
     go_wp2
     try rw[o]
     go_region
     go_upto_region 7 with fail
     obtain⟨B,l⟩:=nm ((((((w0.setCell (L.mb,1017) (.int .i64 en)).setCell (L.mb,1018) (.int .i64 (-1))).setCell (L.mb,1019) (.int .u64 draw)).setCell (L.mb,1016) (.int .i64 (wrap64 (en+1)))).drew));rw[l]at a⊢;have g:=Z (a.nx.row d.1 d.2);have G:=g.1.k 1 rfl;have m:=a.at_.qH;rw[v]at m;go_quiet (fail)
     generalize u:World.drewN _ _=F;have n:=Z (Ch.dN (D:=ag) u);have b:=Z (a.af n);have co:=b.at_.sa;have z:=b.at_.fz 1020;go_wp2
     go_ret;rw[E];exact ae.sZ b.at_ ((Nx.af p).trans b.nx) r
    ·have R:decide (0<=wk)=false:=by simpa using k
     go_in
     go_wp2
     try rw[o]
     go_region
     go_upto_region 7 with fail
     obtain⟨B,l⟩:=nm ((((((w0.setCell (L.mb,1017) (.int .i64 en)).setCell (L.mb,1018) (.int .i64 (-1))).setCell (L.mb,1019) (.int .u64 draw)).setCell (L.mb,1016) (.int .i64 (wrap64 (en+1)))).drew));rw[l]at a⊢;have g:=Z (a.nx.row d.1 d.2);have G:=g.1.k 1 rfl;have m:=a.at_.qH;rw[v]at m;go_quiet (fail)
     generalize u:World.drewN _ _=F;have n:=Z (Ch.dN (D:=ag) u);have b:=Z (a.af n);have co:=b.at_.sa;have z:=b.at_.fz 1020;go_wp2
     go_ret;rw[E];exact ae.sZ b.at_ ((Nx.af p).trans b.nx) r
  ·have cb:(kind==1)=false:=by rw[beq_eq_false_iff_ne];exact I
   have E:Hid (ht C K kind wk draw=(K1.out,{K1 with out:=[]})):=Z (by rw[q,if_neg J,if_neg I]);go_in
   go_wp2
   try rw[o]
   go_region
   go_upto_region 10 with fail
   obtain⟨B,l⟩:=nm ((((((w0.setCell (L.mb,1017) (.int .i64 en)).setCell (L.mb,1018) (.int .i64 (-1))).setCell (L.mb,1019) (.int .u64 draw)).setCell (L.mb,1016) (.int .i64 (wrap64 (en+1)))).drew));rw[l]at a⊢;have g:=Z (a.nx.row d.1 d.2);have co:=a.at_.sa;have z:=a.at_.fz 1020;go_wp2
   go_ret;rw[E];exact ae.sZ a.at_ ((Nx.af p).trans a.nx) r
section
variable{i n wb:Nat}{v:Value}{na wi:Int}{S:aI}
structure NM(w:World)(mb:Nat)(pre:List Value)(rows:List Int)(post:List Value):Prop where
 row:Row w mb 74 (pre++(rows.map (Value.int .i64)++post))
 n1:pre.length=7
 n2:rows.length=1000
section
variable{w w':World}{mb:Nat}{pre:List Value}{rows:List Int}{post:List Value}
theorem NM.pc(h:NM w mb pre rows post)(a:pre[i]?=some v):w.cell? (mb,i)=some v:=h.row.cell (by
 rw[List.getElem?_append_left (List.getElem?_eq_some_iff.1 a).1];exact a)
theorem NM.rc(h:NM w mb pre rows post){v:Int}(a:rows[i]?=some v):w.cell? (mb,7+i)=some (.int .i64 v):=h.row.cell (by
 have b:=(List.getElem?_eq_some_iff.1 a).1;rw[List.getElem?_append_right (by rw[h.n1];omega),h.n1,List.getElem?_append_left (by rw[List.length_map];omega),List.getElem?_map,show 7+i-7=i by omega,a];rfl)
theorem NM.qc(h:NM w mb pre rows post){j:Nat}(a:post[j]?=some v):w.cell? (mb,1007+j)=some v:=h.row.cell (by
 rw[List.getElem?_append_right (by rw[h.n1];omega),h.n1,List.getElem?_append_right (by rw[List.length_map,h.n2];omega),List.length_map,h.n2,show 1007+j-7-1000=j by omega,a])
theorem NM.fz(h:NM w mb pre rows post)(i:Nat):w.frozen? (mb,i)=false:=h.row.free i
theorem NM.lt(h:NM w mb pre rows post):mb<w.heap.size:=h.row.lt
theorem NM.ch{D:Nat->Prop}(h:NM w mb pre rows post)(c:Ch D w w')(a:¬D mb):NM w' mb pre rows post:=⟨h.row.ch c a,h.n1,h.n2⟩
theorem NM.alloc(h:NM w mb pre rows post)(o:Obj):NM (w.alloc o) mb pre rows post:=⟨h.row.alloc o,h.n1,h.n2⟩
theorem NM.drew(h:NM w mb pre rows post):NM w.drew mb pre rows post:=⟨h.row.drew,h.n1,h.n2⟩
theorem NM.pg(h:NM w mb pre rows post)(a:i<7)(v:Value):NM (w.setCell (mb,i) v) mb (pre.set i v) rows post:=
 ⟨h.row.bc i v (by rw[List.set_append_left _ _ (by rw[h.n1];exact a)]),by rw[List.length_set];exact h.n1,h.n2⟩
theorem NM.ax(h:NM w mb pre rows post)(a:i<1000)(v:Int):NM (w.setCell (mb,7+i) (.int .i64 v)) mb pre (rows.set i v) post:=
 ⟨h.row.bc (7+i) _ (by rw[List.set_append_right _ _ (by rw[h.n1];omega),h.n1,List.set_append_left _ _ (by rw[List.length_map,h.n2];omega),show 7+i-7=i by omega,List.map_set]),h.n1,by rw[List.length_set];exact h.n2⟩
theorem NM.km(h:NM w mb pre rows post)(j:Nat)(v:Value):NM (w.setCell (mb,1007+j) v) mb pre rows (post.set j v):=
 ⟨h.row.bc (1007+j) _ (by rw[List.set_append_right _ _ (by rw[h.n1];omega),h.n1,List.set_append_right _ _ (by rw[List.length_map,h.n2];omega),List.length_map,h.n2,show 1007+j-7-1000=j by omega]),h.n1,h.n2⟩
structure NR(pre post:List Value)(wb n:Nat)(wi na:Int):Prop where
 p8:post[8]?=some (.slice (some (wb,0)) n n)
 r5:pre[5]?=some (.int .i64 wi)
 r6:pre[6]?=some (.int .i64 na)
 n0:1<=n
 Hc:n<=64
 Hw:0<=wi
 Hd:wi<=256
 Hx:0<=na
 He:na<=256
theorem pV(h:NM w mb pre rows post)(r:NR pre post wb n wi na):Calls prog 24 #[(mb,0)] w (ez (.int .i64 (17+8*(n:Int))) w):=by
 have c:=h.qc r.p8;have a:(n:Int)<=64:=by have:=r.Hc;omega
 go_wp2
 go_ret;exact ez.mk rfl
theorem uR(h:NM w mb pre rows post)(r:NR pre post wb n wi na):Calls prog 84 #[(mb,0)] w (fun e w'=>e=.returned (.int .i64 (wi+na))/\∃n,w'=w.drewN n):=by
 have a:=h.pc r.r5;have b:=h.pc r.r6;have c:IntKind.i64.wrap (wi+na)=wi+na:=IntWalk.i64_in _ (by have:=r.Hw;have:=r.Hd;have:=r.Hx;have:=r.He;omega);go_wp2
 go_quiet (fail)
 go_wp2
 go_ret;exact⟨rfl,nq,rfl⟩
end
def oG(S:aI)(n i:Nat):aI:=
 let a:=(S.acc 1 (gv i) 0 1).2
 let b:=(a.acc 1 (IntKind.u64.wrap (gv i+1)) 0 1).2
 let c:=(b.acc 1 (IntKind.u64.wrap (gv i+2)) 0 (17+3*n+5*i)).2
 (c.acc 1 (17+3*n+5*i) 0 4).2
def mT(S:aI)(n:Nat):Nat->aI
 |0=>S
 |k+1=>oG (mT S n k) n k
def fY(tt n wi na:Nat):aI:=
 let c:=((aI.new tt).map 0 (17+8*n) 64).2
 let a:=mT c n n
 let b:=if 0<wi then(a.map (17+8*n) wi 64).2 else a
 if 0<na then(b.map (17+8*n+wi) na 32).2 else b
theorem yz(h:b8 S)(n i:Nat)(e:n<=64)(d:i<=64):b8 (oG S n i):=by
 unfold oG;have a:=(h.acc 1 (gv i) 0 1 ⟨by decide,by decide⟩).1;have b:=(a.acc 1 (IntKind.u64.wrap (gv i+1)) 0 1 ⟨by decide,by decide⟩).1;have c:=(b.acc 1 (IntKind.u64.wrap (gv i+2)) 0 (17+3*n+5*i) ⟨by omega,by omega⟩).1;exact(c.acc 1 (17+3*n+5*i) 0 4 ⟨by decide,by decide⟩).1
theorem te(h:b8 S)(n:Nat)(a:n<=64):∀k,k<=64->b8 (mT S n k)
 |0,_=>h
 |k+1,b=>yz (te h n a k (by omega)) n k a (by omega)
theorem b8.new{tt:Nat}(h:tt<=65536):b8 (aI.new tt):=⟨fun x a=>by
 have:x=0:=(List.mem_replicate.1 a).2;rw[this];exact bE,by show(List.replicate tt (0:Int)).length<=_;rw[List.length_replicate];exact h⟩
theorem yA(tt n wi na:Nat)(c:tt<=65536)(b:n<=64):b8 (fY tt n wi na):=by
 unfold fY;have d:=(b8.new c).map 0 (17+8*n) 64;have a:=te d n b n b;dsimp only;split
 ·split
  ·exact(a.map _ _ _).map _ _ _
  ·exact a.map _ _ _
 ·split
  ·exact a.map _ _ _
  ·exact a
end
def ER(mb:Nat)(pre:List Value)(rows:List Int)(post:List Value)(tt n wi na:Nat)(w:World)(e:Ending)(w':World):Prop:=
 e=.returned (.tuple #[])/\∃m c d a,NM w' mb pre rows ((post.set 0 (bk m)).set 1 (bk a))/\aO w' m c d (fY tt n wi na)/\aT w' a m (.slice none 0 0) ⟨17+8*n+wi+na,tt,[]⟩/\w.heap.size<=m/\w.heap.size<=c/\w.heap.size<=d/\w.heap.size<=a/\Ch (aH mb) w w'
theorem Ch.q8{D E:Nat->Prop}{w a b:World}(c:Ch D w a)(d:Ch E a b)(h:∀i,i<w.heap.size->E i->D i):Ch D w b:=
 ⟨d.os.trans c.os,d.tape.trans c.tape,d.output.trans c.output,Nat.le_trans c.size d.size,fun j f g=>(d.same j (Nat.lt_of_lt_of_le f c.size) (fun e=>g (h j f e))).trans (c.same j f g)⟩
theorem AO(mb:Nat)(pre:List Value)(rows:List Int)(post:List Value)(wb n wi na tt:Nat)(w:World)(h:NM w mb pre rows post)(r:NR pre post wb n wi na)(gr:2<=post.length)(gt:1<=tt)(ej:tt<=65536)(gs:17+8*n+wi+na<=tt):
 Calls prog 47 #[(mb,0),.int .i64 tt] w (ER mb pre rows post tt n wi na w):=by
 have et:=Z h;have R:=Z r;have i4:=Z ej;have i2:=Z gr;have i3:=Z gs;have eA:=Z (uP tt gt ej w);have j':(n:Int)<=64:=by have:=r.Hc;omega
 have k2:(wi:Int)<=256:=r.Hd;have k0:(na:Int)<=256:=r.He;obtain⟨hb,gf⟩:∃hb,post[0]?=some hb:=⟨_,List.getElem?_eq_getElem (by omega)⟩;obtain⟨p1,go⟩:∃p1,post[1]?=some p1:=⟨_,List.getElem?_eq_getElem (by omega)⟩;have fz:=Z gf;have g0:=Z go;clear h r gt ej gr gs gf go;go_in
 go_wp2_with (first|(go_at_call 79;refine eA.mono ?_;rintro e w1 ⟨m,c,d,rfl,ge,g8,g6,g7,cL⟩;have fr:=Z ge;have es:=Z cL;have b:Hid (w.heap.size<=m/\w.heap.size<=c/\w.heap.size<=d):=Z ⟨g8,g6,g7⟩;have bw:=Z (et.ch cL id);have u:=bw.fz 1007;have j9:=bw.qc fz;clear ge g8 g6 g7 cL))
 obtain⟨w2,bi⟩:=nm (w1.setCell (mb,1007) (.pointer (some (m,0))));have C:Hid (mb<w.heap.size):=Z et.lt;have a4:Hid (NM w2 mb pre rows (post.set 0 (bk m))):=Z (by rw[<-bi];exact bw.km 0 _);have i6:Hid (aO w2 m c d (aI.new tt)):=Z (by
  have l:∀x,w.heap.size<=x->¬aH mb x:=fun x c4 e=>by have s:x=mb:=e;have D:=C.out;omega
  rw[<-bi];exact fr.ch (((Ch.refl (aH mb) w1).only 1007 _)) (l m b.1) (l c b.2.1) (l d b.2.2))
 have O:Hid (Ch (aH mb) w w2):=Z (by rw[<-bi];exact(es.af).only _ _);have B:Hid (NR pre (post.set 0 (bk m)) wb n wi na):=Z ⟨by rw[List.getElem?_set_ne (by decide)];exact R.p8,R.r5,R.r6,R.n0,R.Hc,R.Hw,R.Hd,R.Hx,R.He⟩;have ad:Hid ((post.set 0 (bk m))[1]?=some p1):=Z (by rw[List.getElem?_set_ne (by decide)];exact g0);have v:Hid ((post.set 0 (bk m))[0]?=some (bk m)):=Z (by rw[List.getElem?_set_self (by have:=i2.out;omega)]);obtain⟨en,dN⟩:∃p,post.set 0 (bk m)=p:=⟨_,rfl⟩;rw[bi];rw[dN]at a4 B ad v;have c1:=Z dN;clear bi dN u j9 bw fr es eA fz g0;have hF:=Z (fun w (h:NM w mb pre rows en)=>pV h B);have g5:=a4.qc B.p8;go_region_held3 (fun w'=>w'.cell? (mb,1015)=some (.slice (some (wb,0)) n n)) (go_keep) ((go_at_call 24;refine(hF _ a4.drew).mono ?_;rintro e f ⟨rfl,rfl⟩))
 all_goals
  have u:w2.cell? (mb,1007)=some (.pointer (some (m,0))):=a4.qc v;have dr:=fo m c d (aI.new tt) 0 (17+8*n) (by omega) (by omega) w2.drew i6.drew;rw[show((17+8*n:Nat):Int)=17+8*(n:Int)by omega,show((0:Nat):Int)=0 from rfl]at dr;obtain⟨al,g9⟩:=nm (((aI.new tt).map 0 (17+8*n) 64).2);have ab:=Z g9;have i0:=Z dr;clear dr g9 g5;go_wp2_with (go_at_call 80;refine i0.mono ?_;rintro e k4 ⟨⟨y,rfl,t⟩,cW,cQ⟩;rw[ab]at cW;have i7:=Z cW;have he:=Z cQ;have ex:=Z (a4.drew.ch cQ (fun e=>by have s:=b.out;have D:=C.out;rcases e with e|e|e<;>omega));have g5:=ex.qc B.p8;clear cW cQ t u)
  go_loopg [34] (n+1) (fun gk i wr=>∃k:Nat,k<=n/\gk=n-k+1/\i=.int .i64 k/\Hid (aO wr m c d (mT al n k))/\Hid (NM wr mb pre rows en)/\Hid (Ch (dL m c d) w2.drew wr))
  case atStart=>exact⟨0,by omega,by omega,rfl,i7,ex,he⟩
  case round=>
   obtain⟨k,jp,rfl,rfl,T,M,X⟩:=hrel;by_cases jr:k<n
   ·have io:(k:Int)<n:=by omega
    obtain⟨S,V⟩:=nm (mT al n k);have Y:=Z V;rw[V]at T;have u:wr.cell? (mb,1007)=some (.pointer (some (m,0))):=M.qc v;have c0:=Z (fun w=>lS k (by omega) (by omega) (.pointer (some (mb,0))) w);have cC:aK (gv k):=bO _;obtain⟨a0,cS⟩:=nm (gv k);rw[cS]at c0 cC;have hK:=Z cS;have i5:=Z cC;have gc:Hid (aK (17+3*(n:Int)+5*(k:Int))):=Z ⟨by omega,by omega⟩;have k1:IntKind.i64.wrap (3*(n:Int))=3*n:=IntWalk.i64_in _ (by omega);clear V cS cC;go_wp2_with fail
    have eW:=Z (eB m c d S a0 1 i5 ⟨by decide,by decide⟩ wr.drew T.drew);obtain⟨g1,cm⟩:∃x,(S.acc 1 a0 0 1).2=x:=⟨_,rfl⟩;rw[cm]at eW;have hu:=Z cm;clear cm;refine wp_region_still_tail 7 (by kernel_rfl) (by kernel_rfl) ?_;simp only[List.take_succ_cons,List.take_zero,List.drop_succ_cons,List.drop_zero]
    repeat still_step
    still_call (b5 (c0 _))
    repeat still_step
    try refine wpStill_nil ?_
    change wpList _ _ _ _ _ wr.drew;go_wp2_with (go_at_call 81;(with_reducible refine eW.out.mono ?_);rintro e c7 ⟨⟨y,rfl,t⟩,j,a⟩;have i8:=Z j;have hf:Hid (Ch (dL m c d) w2.drew c7):=Z ((X.out.drew).trans (a.mono (fun i J=>J.elim Or.inl (fun e=>Or.inr (Or.inl e)))));have eC:=Z (NM.ch (M.out.drew) a (fun e=>by have s:=b.out;have D:=C.out;rcases e with e|e<;>omega));have u:c7.cell? (mb,1007)=some (.pointer (some (m,0))):=eC.out.qc v.out;clear j a t)
    have fb:=Z (eB m c d g1 (IntKind.u64.wrap (a0+1)) 1 (bO _) ⟨by decide,by decide⟩ c7.drew i8.drew);obtain⟨g2,cq⟩:∃x,(g1.acc 1 (IntKind.u64.wrap (a0+1)) 0 1).2=x:=⟨_,rfl⟩;rw[cq]at fb;have hv:=Z cq;clear cq;refine wp_region_still_tail 8 (by kernel_rfl) (by kernel_rfl) ?_;simp only[List.take_succ_cons,List.take_zero,List.drop_succ_cons,List.drop_zero]
    repeat still_step
    still_call (b5 (c0 _))
    repeat still_step
    try refine wpStill_nil ?_
    change wpList _ _ _ _ _ c7.drew;go_wp2_with (go_at_call 81;(with_reducible refine fb.out.mono ?_);rintro e c8 ⟨⟨y,rfl,t⟩,j,a⟩;have i9:=Z j;have hi:Hid (Ch (dL m c d) w2.drew c8):=Z ((hf.out.drew).trans (a.mono (fun i J=>J.elim Or.inl (fun e=>Or.inr (Or.inl e)))));have eL:=Z (NM.ch (eC.out.drew) a (fun e=>by have s:=b.out;have D:=C.out;rcases e with e|e<;>omega));have u:c8.cell? (mb,1007)=some (.pointer (some (m,0))):=eL.out.qc v.out;clear j a t)
    have fd:=Z (eB m c d g2 (IntKind.u64.wrap (a0+2)) (17+3*(n:Int)+5*(k:Int)) (bO _) gc c8.drew i9.drew);obtain⟨g3,cs⟩:∃x,(g2.acc 1 (IntKind.u64.wrap (a0+2)) 0 (17+3*(n:Int)+5*(k:Int))).2=x:=⟨_,rfl⟩;rw[cs]at fd;have hw:=Z cs;clear cs;refine wp_region_still_tail 9 (by kernel_rfl) (by kernel_rfl) ?_;simp only[List.take_succ_cons,List.take_zero,List.drop_succ_cons,List.drop_zero]
    repeat still_step
    still_call (b5 (c0 _))
    repeat still_step
    try refine wpStill_nil ?_
    change wpList _ _ _ _ _ c8.drew;go_wp2_with (go_at_call 81;(with_reducible refine fd.out.mono ?_);rintro e wc ⟨⟨y,rfl,t⟩,j,a⟩;have ih:=Z j;have hm:Hid (Ch (dL m c d) w2.drew wc):=Z ((hi.out.drew).trans (a.mono (fun i J=>J.elim Or.inl (fun e=>Or.inr (Or.inl e)))));have eS:=Z (NM.ch (eL.out.drew) a (fun e=>by have s:=b.out;have D:=C.out;rcases e with e|e<;>omega));have u:wc.cell? (mb,1007)=some (.pointer (some (m,0))):=eS.out.qc v.out;clear j a t)
    have fn:=Z (eB m c d g3 (17+3*(n:Int)+5*(k:Int)) 4 gc ⟨by decide,by decide⟩ wc ih);obtain⟨g4,cA⟩:∃x,(g3.acc 1 (17+3*(n:Int)+5*(k:Int)) 0 4).2=x:=⟨_,rfl⟩;rw[cA]at fn;have hB:=Z cA;clear cA;go_wp2_with (go_at_call 81;(with_reducible refine fn.out.mono ?_);rintro e hd ⟨⟨y,rfl,t⟩,j,a⟩;have ii:=Z j;have hn:Hid (Ch (dL m c d) w2.drew hd):=Z ((hm.out).trans (a.mono (fun i J=>J.elim Or.inl (fun e=>Or.inr (Or.inl e)))));have eV:=Z (NM.ch (eS.out) a (fun e=>by have s:=b.out;have D:=C.out;rcases e with e|e<;>omega));have u:hd.cell? (mb,1007)=some (.pointer (some (m,0))):=eV.out.qc v.out;clear j a t)
    go_roundg (n-k)
    case measure=>omega
    case rel=>exact⟨k+1,by omega,by omega,by go_num,Z (by
     have e:mT al n (k+1)=g4:=by
      show oG (mT al n k) n k=g4
      rw[Y];unfold oG;dsimp only;rw[hK,hu,hv,hw,hB]
     rw[e];exact ii),eV,hn⟩
   ·have io:¬(k:Int)<n:=by omega
    have ip:k=n:=(by omega);subst ip;obtain⟨S,V⟩:=nm (mT al k k);have Y:=Z V;rw[V]at T;clear V;have u:wr.cell? (mb,1007)=some (.pointer (some (m,0))):=M.qc v;have c5:=M.pc B.r5;have c6:=M.pc B.r6;have bx:=Z (fun w (h:NM w mb pre rows en)=>uR h B);have k3:IntKind.i64.wrap (17+8*(k:Int)+((wi:Int)+(na:Int)))=17+8*(k:Int)+((wi:Int)+(na:Int)):=IntWalk.i64_in _ (by omega);have a5:=Z (q6 m (17+8*k+(wi+na)) tt (by have:=i3.out;omega) (by have:=i4.out;omega));rw[show((17+8*k+(wi+na):Nat):Int)=17+8*(k:Int)+((wi:Int)+na)by omega]at a5;by_cases c3:0<wi
    ·have it:(0:Int)<(wi:Int):=by omega
     by_cases av:0<na
     ·have dC:(0:Int)<(na:Int):=by omega
      have F:=fo m c d S (17+8*k) wi (by omega) (by omega) wr.drew T.drew;rw[show((17+8*k:Nat):Int)=17+8*(k:Int)by omega]at F;obtain⟨c2,ap⟩:∃x,(S.map (17+8*k) wi 64).2=x:=⟨_,rfl⟩;have a3:=Z ap;have a9:=Z F;clear ap F;go_wp2_with fail
      refine wp_region_still_tail 10 (by kernel_rfl) (by kernel_rfl) ?_;simp only[List.take_succ_cons,List.take_zero,List.drop_succ_cons,List.drop_zero]
      repeat still_step
      try refine wpStill_nil ?_
      change wpList _ _ _ _ _ wr.drew;go_wp2_with (go_at_call 80;(with_reducible refine a9.out.mono ?_);rintro e L ⟨⟨y,rfl,t⟩,j,a⟩;rw[a3.out]at j;have cd:=Z j;have bv:Hid (Ch (dL m c d) w2.drew L):=Z ((X.out.drew).trans a);have N:=Z (NM.ch (M.out.drew) a (fun e=>by have s:=b.out;have D:=C.out;rcases e with e|e|e<;>omega));have u:L.cell? (mb,1007)=some (.pointer (some (m,0))):=N.out.qc v.out;have c5:=N.out.pc B.out.r5;have c6:=N.out.pc B.out.r6;clear j a t)
      have c9:=kB m c d c2 (17+8*k+wi) na (by omega) (by omega) L.drew cd.drew;rw[show((17+8*k+wi:Nat):Int)=17+8*(k:Int)+(wi:Int)by omega]at c9;obtain⟨ce,am⟩:∃x,(c2.map (17+8*k+wi) na 32).2=x:=⟨_,rfl⟩;have a2:=Z am;have i1:=Z c9;clear am c9;go_wp2_with fail
      refine wp_region_still_tail 16 (by kernel_rfl) (by kernel_rfl) ?_;simp only[List.take_succ_cons,List.take_zero,List.drop_succ_cons,List.drop_zero]
      repeat still_step
      try refine wpStill_nil ?_
      change wpList _ _ _ _ _ L.drew;go_wp2_with (go_at_call 80;(with_reducible refine i1.out.mono ?_);rintro e wn ⟨⟨y,rfl,t⟩,j,a⟩;rw[a2.out]at j;have cb:=Z j;have a1:Hid (Ch (dL m c d) w2.drew wn):=Z ((bv.out.drew).trans a);have G:=Z (NM.ch (N.out.drew) a (fun e=>by have s:=b.out;have D:=C.out;rcases e with e|e|e<;>omega));have u:wn.cell? (mb,1007)=some (.pointer (some (m,0))):=G.out.qc v.out;have c5:=G.out.pc B.out.r5;have c6:=G.out.pc B.out.r6;clear j a t)
      have Q:=Z (bx wn.drew G.drew);go_region_held3 (fun w'=>w'.cell? (mb,1007)=some (.pointer (some (m,0)))) (first|go_keep|exact(World.cell?_setCell_other _ _ _ _ (by simp)).trans U) (first|(go_at_call 84;refine Q.out.mono ?_;rintro e f ⟨rfl,nq,K⟩;have z:Hid (Ch ag wn f):=Z (by rw[K];exact ay);have ch:f.cell? (mb,1007)=some (.pointer (some (m,0))):=z.out.k u;clear K)|(go_at_call 83;(with_reducible refine(a5.out _).mono ?_);rintro e q ⟨rfl,H,I⟩;have P:=Z H;have A:Hid (Ch ag wn q):=Z (z.out.trans I);have o:=Z (G.out.ch A.out id);have U:q.cell? (mb,1007)=some (.pointer (some (m,0))):=o.out.qc v.out;have ci:=o.out.qc ad.out;have cl:=o.out.fz 1008;clear H I))
      all_goals
       go_wp2
       go_end0
       have l:∀x,w.heap.size<=x->¬aH mb x:=(fun x c4 e=>by have s:x=mb:=e;have D:=C.out;omega);have E:w.heap.size<=f.heap.size:=Nat.le_trans O.size (Nat.le_trans (show w2.heap.size<=wn.heap.size from a1.out.size) z.size);have a:Ch (aH mb) q (q.setCell (mb,1008) (.pointer (some (f.heap.size,0)))):=ay;refine⟨rfl,m,c,d,f.heap.size,?_,?_,?_,b.1,b.2.1,b.2.2,E,?_⟩
       ·have:=o.km 1 (bk f.heap.size)
        rw[<-c1]at this;exact this
       ·have e:fY tt k wi na=ce:=by unfold fY;dsimp only;rw[ab,Y,if_pos c3,if_pos av,a3,a2]
        rw[e];exact(cb.ch A id id id).ch a (l m b.1) (l c b.2.1) (l d b.2.2)
       ·rw[show 17+8*k+wi+na=17+8*k+(wi+na)by omega]
        exact P.ch a (l _ E) (fun g W=>by cases W)
       ·refine((O.drew.q8 ((a1)) ?_).trans (A.af)).trans a
        intro i J e;have s:=b.out;rcases e with e|e|e<;>omega
     ·have dC:decide ((0:Int)<(na:Int))=false:=decide_eq_false (by omega)
      have F:=fo m c d S (17+8*k) wi (by omega) (by omega) wr.drew T.drew;rw[show((17+8*k:Nat):Int)=17+8*(k:Int)by omega]at F;obtain⟨c2,ap⟩:∃x,(S.map (17+8*k) wi 64).2=x:=⟨_,rfl⟩;have a3:=Z ap;have a9:=Z F;clear ap F;go_wp2_with fail
      refine wp_region_still_tail 10 (by kernel_rfl) (by kernel_rfl) ?_;simp only[List.take_succ_cons,List.take_zero,List.drop_succ_cons,List.drop_zero]
      repeat still_step
      try refine wpStill_nil ?_
      change wpList _ _ _ _ _ wr.drew;go_wp2_with (go_at_call 80;(with_reducible refine a9.out.mono ?_);rintro e L ⟨⟨y,rfl,t⟩,j,a⟩;rw[a3.out]at j;have cd:=Z j;have bv:Hid (Ch (dL m c d) w2.drew L):=Z ((X.out.drew).trans a);have N:=Z (NM.ch (M.out.drew) a (fun e=>by have s:=b.out;have D:=C.out;rcases e with e|e|e<;>omega));have u:L.cell? (mb,1007)=some (.pointer (some (m,0))):=N.out.qc v.out;have c5:=N.out.pc B.out.r5;have c6:=N.out.pc B.out.r6;clear j a t)
      go_wp2
      try(any_goals (exfalso;omega))
      have Q:=Z (bx L.drew N.drew);go_region_held3 (fun w'=>w'.cell? (mb,1007)=some (.pointer (some (m,0)))) (first|go_keep|exact(World.cell?_setCell_other _ _ _ _ (by simp)).trans U) (first|(go_at_call 84;refine Q.out.mono ?_;rintro e f ⟨rfl,nq,K⟩;have z:Hid (Ch ag L f):=Z (by rw[K];exact ay);have ch:f.cell? (mb,1007)=some (.pointer (some (m,0))):=z.out.k u;clear K)|(go_at_call 83;(with_reducible refine(a5.out _).mono ?_);rintro e q ⟨rfl,H,I⟩;have P:=Z H;have A:Hid (Ch ag L q):=Z (z.out.trans I);have o:=Z (N.out.ch A.out id);have U:q.cell? (mb,1007)=some (.pointer (some (m,0))):=o.out.qc v.out;have ci:=o.out.qc ad.out;have cl:=o.out.fz 1008;clear H I))
      all_goals
       go_wp2
       go_end0
       have l:∀x,w.heap.size<=x->¬aH mb x:=(fun x c4 e=>by have s:x=mb:=e;have D:=C.out;omega);have E:w.heap.size<=f.heap.size:=Nat.le_trans O.size (Nat.le_trans (show w2.heap.size<=L.heap.size from bv.out.size) z.size);have a:Ch (aH mb) q (q.setCell (mb,1008) (.pointer (some (f.heap.size,0)))):=ay;refine⟨rfl,m,c,d,f.heap.size,?_,?_,?_,b.1,b.2.1,b.2.2,E,?_⟩
       ·have:=o.km 1 (bk f.heap.size)
        rw[<-c1]at this;exact this
       ·have e:fY tt k wi na=c2:=by unfold fY;dsimp only;rw[ab,Y,if_pos c3,if_neg av,a3]
        rw[e];exact(cd.ch A id id id).ch a (l m b.1) (l c b.2.1) (l d b.2.2)
       ·rw[show 17+8*k+wi+na=17+8*k+(wi+na)by omega]
        exact P.ch a (l _ E) (fun g W=>by cases W)
       ·refine((O.drew.q8 ((bv)) ?_).trans (A.af)).trans a
        intro i J e;have s:=b.out;rcases e with e|e|e<;>omega
    ·have it:¬0<(wi:Int):=by omega
     by_cases av:0<na
     ·have dC:(0:Int)<(na:Int):=by omega
      have F:=kB m c d S (17+8*k+wi) na (by omega) (by omega) wr.drew T.drew;rw[show((17+8*k+wi:Nat):Int)=17+8*(k:Int)+(wi:Int)by omega]at F;obtain⟨ce,am⟩:∃x,(S.map (17+8*k+wi) na 32).2=x:=⟨_,rfl⟩;have a2:=Z am;have a9:=Z F;clear am F;go_wp2_with fail
      refine wp_region_still_tail 16 (by kernel_rfl) (by kernel_rfl) ?_;simp only[List.take_succ_cons,List.take_zero,List.drop_succ_cons,List.drop_zero]
      repeat still_step
      try refine wpStill_nil ?_
      change wpList _ _ _ _ _ wr.drew;go_wp2_with (go_at_call 80;(with_reducible refine a9.out.mono ?_);rintro e wn ⟨⟨y,rfl,t⟩,j,a⟩;rw[a2.out]at j;have cb:=Z j;have a1:Hid (Ch (dL m c d) w2.drew wn):=Z ((X.out.drew).trans a);have G:=Z (NM.ch (M.out.drew) a (fun e=>by have s:=b.out;have D:=C.out;rcases e with e|e|e<;>omega));have u:wn.cell? (mb,1007)=some (.pointer (some (m,0))):=G.out.qc v.out;have c5:=G.out.pc B.out.r5;have c6:=G.out.pc B.out.r6;clear j a t)
      have Q:=Z (bx wn.drew G.drew);go_region_held3 (fun w'=>w'.cell? (mb,1007)=some (.pointer (some (m,0)))) (first|go_keep|exact(World.cell?_setCell_other _ _ _ _ (by simp)).trans U) (first|(go_at_call 84;refine Q.out.mono ?_;rintro e f ⟨rfl,nq,K⟩;have z:Hid (Ch ag wn f):=Z (by rw[K];exact ay);have ch:f.cell? (mb,1007)=some (.pointer (some (m,0))):=z.out.k u;clear K)|(go_at_call 83;(with_reducible refine(a5.out _).mono ?_);rintro e q ⟨rfl,H,I⟩;have P:=Z H;have A:Hid (Ch ag wn q):=Z (z.out.trans I);have o:=Z (G.out.ch A.out id);have U:q.cell? (mb,1007)=some (.pointer (some (m,0))):=o.out.qc v.out;have ci:=o.out.qc ad.out;have cl:=o.out.fz 1008;clear H I))
      all_goals
       go_wp2
       go_end0
       have l:∀x,w.heap.size<=x->¬aH mb x:=(fun x c4 e=>by have s:x=mb:=e;have D:=C.out;omega);have E:w.heap.size<=f.heap.size:=Nat.le_trans O.size (Nat.le_trans (show w2.heap.size<=wn.heap.size from a1.out.size) z.size);have a:Ch (aH mb) q (q.setCell (mb,1008) (.pointer (some (f.heap.size,0)))):=ay;refine⟨rfl,m,c,d,f.heap.size,?_,?_,?_,b.1,b.2.1,b.2.2,E,?_⟩
       ·have:=o.km 1 (bk f.heap.size)
        rw[<-c1]at this;exact this
       ·have e:fY tt k wi na=ce:=by unfold fY;dsimp only;rw[ab,Y,if_neg c3,if_pos av,a2]
        rw[e];exact(cb.ch A id id id).ch a (l m b.1) (l c b.2.1) (l d b.2.2)
       ·rw[show 17+8*k+wi+na=17+8*k+(wi+na)by omega]
        exact P.ch a (l _ E) (fun g W=>by cases W)
       ·refine((O.drew.q8 ((a1)) ?_).trans (A.af)).trans a
        intro i J e;have s:=b.out;rcases e with e|e|e<;>omega
     ·have dC:decide ((0:Int)<(na:Int))=false:=decide_eq_false (by omega)
      go_wp2
      try(any_goals (exfalso;omega))
      have Q:=Z (bx wr.drew M.drew);go_region_held3 (fun w'=>w'.cell? (mb,1007)=some (.pointer (some (m,0)))) (first|go_keep|exact(World.cell?_setCell_other _ _ _ _ (by simp)).trans U) (first|(go_at_call 84;refine Q.out.mono ?_;rintro e f ⟨rfl,nq,K⟩;have z:Hid (Ch ag wr f):=Z (by rw[K];exact ay);have ch:f.cell? (mb,1007)=some (.pointer (some (m,0))):=z.out.k u;clear K)|(go_at_call 83;(with_reducible refine(a5.out _).mono ?_);rintro e q ⟨rfl,H,I⟩;have P:=Z H;have A:Hid (Ch ag wr q):=Z (z.out.trans I);have o:=Z (M.out.ch A.out id);have U:q.cell? (mb,1007)=some (.pointer (some (m,0))):=o.out.qc v.out;have ci:=o.out.qc ad.out;have cl:=o.out.fz 1008;clear H I))
      all_goals
       go_wp2
       go_end0
       have l:∀x,w.heap.size<=x->¬aH mb x:=(fun x c4 e=>by have s:x=mb:=e;have D:=C.out;omega);have E:w.heap.size<=f.heap.size:=Nat.le_trans O.size (Nat.le_trans (show w2.heap.size<=wr.heap.size from X.out.size) z.size);have a:Ch (aH mb) q (q.setCell (mb,1008) (.pointer (some (f.heap.size,0)))):=ay;refine⟨rfl,m,c,d,f.heap.size,?_,?_,?_,b.1,b.2.1,b.2.2,E,?_⟩
       ·have:=o.km 1 (bk f.heap.size)
        rw[<-c1]at this;exact this
       ·have e:fY tt k wi na=S:=by unfold fY;dsimp only;rw[ab,Y,if_neg c3,if_neg av]
        rw[e];exact(T.ch A id id id).ch a (l m b.1) (l c b.2.1) (l d b.2.2)
       ·rw[show 17+8*k+wi+na=17+8*k+(wi+na)by omega]
        exact P.ch a (l _ E) (fun g W=>by cases W)
       ·refine((O.drew.q8 ((X)) ?_).trans (A.af)).trans a
        intro i J e;have s:=b.out;rcases e with e|e|e<;>omega
variable{W:World}{B qm rg tm:Nat}
def aC.new(loop:Int):aC:=⟨0,0,false,0,⟨loop,DE,[]⟩⟩
def kp(C:KC)(n tt:Nat):KS where
 mem:=fY tt n C.wide.toNat C.narrow.toNat
 blocks:=⟨17+8*n+C.wide.toNat+C.narrow.toNat,tt,[]⟩
 clock:=aN.new
 ring:=[]
 q:=List.replicate 8 []
 table:=List.replicate 64 aF.zero
 cT:=List.replicate 64 bq.zero
 ai:=[]
 wk:=List.replicate n (aC.new C.loop)
 entries:=0
 at_:=0
 w:=0
 draw:=0
 out:=[]
def hY(C:KC)(n tt:Nat):KS:=
 let x:=bQ (kp C n tt) C.entry 0
 {x.2 with ring:=(hG x.2.ring x.1).2}
def CR(rg:Nat)(i:Nat)(t:TypeId):a':=
 if t=74 then .gL else if t=255 then .mem else if t=22 then(if i=rg then .ring else .mem)else if t=5 then .mem else if t=272 then .al
 else if t=195 then .b2 else if t=268 then .b2 else if t=197 then .ring else if t=202 then .q else if t=247 then .q
 else if t=205 then .cZ else if t=245 then .cZ else if t=109 then .obj else if t=111 then .obj else if t=95 then .wk
 else if t=152 then .code else if t=121 then .code else .no
def hZ(W:World)(B rg tm qm:Nat)(i:Nat):a':=
 if i<B then .no else match W.heap[i]? with
 |some (.cells _ t _)=>CR rg i t
 |some (.map _ _)=>if i=tm then .tm else if i=qm then .q else .b2
 |_=> .no
theorem bF{l:List Value}(h:Row W b t l)(hb:B<=b){k:a'}(a:CR rg b t=k):hZ W B rg tm qm b=k:=by
 unfold hZ;rw[if_neg (by omega),show W.heap[b]?=some (.cells l.toArray t (0,0))from h];exact a
theorem iS{α:Type}{q:IntKind}{enc:α->Value}{l:List (Int×α)}(h:bS W b q enc l)(hb:B<=b){k:a'}(d:(if b=tm then a'.tm else if b=qm then a'.q else a'.b2)=k):hZ W B rg tm qm b=k:=by
 obtain⟨e,c,a,_⟩:=h;unfold hZ;rw[if_neg (by omega),a];exact d
theorem pW{i:Nat}(h:hZ W B rg tm qm i≠ .no):B<=i/\i<W.heap.size:=by
 unfold hZ at h;split at h
 ·exact absurd rfl h
 ·refine⟨by omega,?_⟩
  rcases Nat.lt_or_ge i W.heap.size with a|a
  ·exact a
  ·rw[Array.getElem?_eq_none a]at h;exact absurd rfl h
theorem CS{p:Prop} [Decidable p]{a b:a'}(c:a≠ .out)(d:b≠ .out):(if p then a else b)≠ .out:=by
 split
 ·exact c
 ·exact d
theorem AP(rg i:Nat)(t:TypeId):CR rg i t≠ .out:=by
 unfold CR
 repeat' (refine CS ?_ ?_)
 all_goals(intro h;cases h)
theorem uS(i:Nat):hZ W B rg tm qm i≠ .out:=by
 unfold hZ;split
 ·intro h;cases h
 ·split
  ·exact AP _ _ _
  ·split
   ·intro h;cases h
   ·split
    ·intro h;cases h
    ·intro h;cases h
  ·intro h;cases h
theorem uT(n:Nat)(x:aC)(v:Value):(dj (List.replicate n x) (fun _=>v)).flatMap (fun y=>y.1.cells y.2)=(List.replicate n x).flatMap fun y=>y.cells v:=by
 unfold dj;rw[List.flatMap_map];have:∀(l:List aC) (k:Nat),(l.zipIdx k).flatMap (fun a=>a.1.cells v)=l.flatMap fun y=>y.cells v:=by
  intro l
  induction l with
  |nil=>intro k;rfl
  |cons a l ih=>intro k;rw[List.zipIdx_cons,List.flatMap_cons,List.flatMap_cons,ih]
 exact this _ 0
def l7(mb m c d a k l n o s rg qb r qm tb u p q tm wb e h f i g j:Nat):cU:=
 ⟨mb,m,c,d,a,k,l,n,o,s,rg,qb,r,qm,tb,u,p,q,tm,wb,some ⟨e,0,none⟩,h,some ⟨f,0,none⟩,i,some ⟨g,0,none⟩,j⟩
def newVar:Var:=⟨.slice none 0 0,.slice none 0 0,.slice none 0 0,List.replicate 8 [],fun _=>0,fun _=> .slice none 0 0,fun _ _=>0,fun _ _=> .slice none 0 0,fun _=> .slice none 0 0⟩
theorem wA{g:Nat}{l:List be}{c:List Value}(h:Row W g t (b4 l++c)):fN W g l:=⟨h.lt,fun j u a=>h.cell (by rw[List.getElem?_append_left (List.getElem?_eq_some_iff.1 a).1];exact a)⟩
theorem uU{mb m c d u w y a e F qb E tb G A D wb o J p K r L:Nat}{C:KC}{n tt:Nat}{am a3 ap:List Value}(ab:n<=64)
 (P:NM W mb (kV C (l7 mb m c d u w y a e F rg qb E qm tb G A D tm wb o J p K r L)) C.rows (hx (l7 mb m c d u w y a e F rg qb E qm tb G A D tm wb o J p K r L) (.slice none 0 0) n 0 0 0 0))
 (M:aO W m c d (kp C n tt).mem) (X:aT W u m (.slice none 0 0) (kp C n tt).blocks) (z:aX W w y a e (.slice none 0 0) aN.new) (Z:eP W F rg []) (N:iE W qb E qm (List.replicate 8 []))
 (S:aW W tb G (List.replicate 64 aF.zero)) (R:bP W A D (List.replicate 64 bq.zero)) (a0:bS (α:=Nat) W tm .u64 bk []) (a1:Row W wb 95 ((List.replicate n (aC.new C.loop)).flatMap fun x=>x.cells (.slice none 0 0)))
 (T:Row W o 152 (b4 C.dH++am)) (U:Row W p 121 (C.calls.flatMap bB.cells++a3)) (V:Row W r 152 (b4 C.bs++ap)) (k1:C.dH.length<=J) (k2:C.calls.length<=K) (k3:C.bs.length<=L)
 (av:c≠rg) (bi:a≠tm) (bv:e≠tm) (bw:a≠qm) (bx:e≠qm) (c0:qm≠tm)
 (a4:B<=mb) (H:B<=m/\B<=c/\B<=d/\B<=u) (I:B<=w/\B<=y/\B<=a/\B<=e) (v:B<=F/\B<=rg/\B<=qb/\B<=E/\B<=qm) (l:B<=tb/\B<=G/\B<=A/\B<=D/\B<=tm/\B<=wb) (O:B<=o/\B<=p/\B<=r):
 ae W (hZ W B rg tm qm) (l7 mb m c d u w y a e F rg qb E qm tb G A D tm wb o J p K r L) newVar C (kp C n tt) where
 head:=fun _=>⟨by
  have:=P.row;show Row W mb _ (cG _ (.slice none 0 0) C (List.replicate n (aC.new C.loop)).length 0 0 0 0)
  rw[List.length_replicate];exact this,P.n2,bF P.row a4 rfl⟩
 mem:=fun _=>⟨M,bF M.head H.1 rfl,bF M.cells H.2.1 (by show(if c=rg then a'.ring else a'.mem)=_;rw[if_neg av]),bF M.width H.2.2.1 rfl⟩
 al:=fun _=>⟨X,bF X.head H.2.2.2 rfl,fun g j=>by cases j⟩
 b2:=fun _=>⟨z,bF z.head I.1 rfl,bF z.heap.head I.2.1 rfl,iS z.heap.map I.2.2.1 (by rw[if_neg bi,if_neg bw]),iS z.fl I.2.2.2 (by rw[if_neg bv,if_neg bx]),fun g j=>by cases j⟩
 ring:=fun _=>by
  obtain⟨cs,fr,Y,_⟩:=id Z;exact⟨Z,bF Y.head v.1 rfl,bF Y.rows v.2.1 (by show(if rg=rg then a'.ring else a'.mem)=_;rw[if_pos rfl])⟩
 q:=fun _=>⟨N,rfl,fun i Q=>by
  rcases Q with rfl|rfl|rfl|⟨s,ad,_⟩
  ·exact bF N.head v.2.2.1 rfl
  ·exact bF N.ends v.2.2.2.1 rfl
  ·obtain⟨c1,a9,_⟩:=N.map
   exact iS a9 v.2.2.2.2 (by rw[if_neg c0,if_pos rfl])
  ·have:s∈(List.replicate 8 ([]:List Sl)).flatten:=ad
   simp at this⟩
 cZ:=fun _=>⟨S,bF S.head l.1 rfl,bF S.rows l.2.1 rfl⟩
 obj:=fun _=>⟨R,bF R.head l.2.2.1 rfl,bF R.rows l.2.2.2.1 rfl⟩
 tm:=fun _=>⟨a0,iS a0 l.2.2.2.2.1 (by rw[if_pos rfl]),List.nodup_nil⟩
 th:=fun id t h=>by cases h
 tl:=fun id t h=>by cases h
 fr:=fun id t k f h=>by cases h
 wk:=fun _=>⟨by
  show Row W wb _ ((dj (List.replicate n (aC.new C.loop)) fun _=> .slice none 0 0).flatMap fun x=>x.1.cells x.2)
  rw[uT];exact a1,bF a1 l.2.2.2.2.2 rfl,fun i x a2=>by
  have a5:x∈List.replicate n (aC.new C.loop):=List.mem_of_getElem? a2;rw[(List.mem_replicate.1 a5).2];exact cv.nil _,fun i x a2 g j=>(by cases j),by show(List.replicate n (aC.new C.loop)).length<=64;rw[List.length_replicate];exact ab⟩
 out:=fun _=>⟨⟨rfl,Or.inl ⟨rfl,rfl⟩⟩,fun g j=>by cases j⟩
 code:=fun _=>{
  m4:=k1
  jo:=k2
  m5:=k3
  cg:=fun _=>⟨o,rfl,wA T,bF T O.1 rfl⟩
  prog:=fun _=>⟨r,rfl,wA V,bF V O.2.2 rfl⟩
  calls:=fun _=>⟨p,a3,rfl,U,bF U O.2.1 rfl⟩}
 small:=fun i Q=>(pW Q).2
section
open Go.ChangeAt Go.ChangeShapes Go.WideShapes
variable{W W':World}{v:Value}
theorem own:ownKnob prog.godebug=none:=by kernel_rfl
theorem Ga{g:Type}{enc:TypeId×Value->g}{a:Assume}{C:Checked}{os:Os}{f:FuncId}{b:Func}{s:ChangeSpec}{conds:List PathCond}{apart fresh handsOn again:Bool}{X:World->Array Value->Prop}
 (m:∀(w w':World) (args:Array Value),w.heap=w'.heap->X w args->X w' args)
 (own:ownKnob C.prog.godebug=none) (started:os.Started) (D:C.prog.inits.idxOf? f=none) (o:C.prog.funcs[f]?=some b)
 (witness:∃(w:World) (tape:Tape) (i:Input),w.os=os/\(w.forCall tape i).Shaped C.prog/\i.vars=[]/\Input.okWide C.prog (w.forCall tape i) .any w.heap.size f i/\
  ((s.pre enc C.prog b conds apart (w.forCall tape i).memory i.args/\X (w.forCall tape i).memory i.args)/\sizedMet enc C.prog b (OpenSpec.ofChange s) apart (w.forCall tape i).memory i.args)/\a.holds C.prog (lone (Frame.enter C.prog f i.args .normal) [] (w.forCall tape i)))
 (k:∀(W:World) (base:Nat) (args:Array Value) (c d:List (DataW g)) (before:List MemPlace),
  (∀(j:Nat) t v,b.params[j]?=some t->args[j]?=some v->Value.okWide C.prog W .any base t v)->
  DataW.Whole enc C.prog b.params.toList s.vars apart W args.toList c d before->
  (DataW.weightsEach C.prog (b.params.toList++s.plain.varTypes C.prog) (c++d)).all (·<=reachBytes)=true->X W args->W.ShapedOpen C.prog->
  Calls C.prog f args W fun e W'=>∃v,e=.returned v/\s.post enc C.prog b apart fresh handsOn again W args v W'):
 ReturnsInHanded a C os f .any (fun w args=>(s.pre enc C.prog b conds apart w args/\X w args)/\sizedMet enc C.prog b (OpenSpec.ofChange s) apart w args) (s.post enc C.prog b apart fresh handsOn again):=by
 refine returnsInHanded_of_calls own started D witness ?_;intro w tape i _ x _ q u _;obtain⟨_,_,_,l,p,_,_,_,_,y⟩:=q;have e:l=b:=Option.some.inj (p.symm.trans o);subst e;obtain⟨⟨⟨c,d,before,h,E⟩,A⟩,B⟩:=u;have z:=DataW.Whole.of_heap (w':=w.forCall tape i) (by rfl) h;refine(k (w.forCall tape i) w.heap.size i.args c d before y z (B.weights h) (m _ _ _ (by rfl) A) x).mono fun e W' ⟨v,n,r⟩=> ?_
 subst n;exact ChangeSpec.post_blind r
theorem yB{d:Type}{enc:TypeId×Value->d}{P:Program}{f:Func}{s:ChangeSpec}{apart fresh handsOn again:Bool}{args:Array Value}{e g:List (DataW d)}{before pa pv:List MemPlace}
 (i:DataW.Whole enc P f.params.toList s.vars apart W args.toList e g before)
 (n:∀(b:Nat) (c:Nat->Bool) (u:Bool),DataW.TrodAll enc P W' b c u f.resultTypes.toList (v.resultList f.resultTypes.size) (s.fn d (e++g)).results [])
 (k:∀c:Nat->Bool,(∀p∈before,c p.block=true)->DataW.TrodAll enc P W' 0 c true f.params.toList args.toList (s.fn d (e++g)).args pa)
 (o:∀c:Nat->Bool,(∀p∈before,c p.block=true)->DataW.TrodVars enc P W' c s.vars (s.fn d (e++g)).vars pv)
 (h:before=pa++pv) (hb:Below W.heap.size W W')
 (x:∀(j:Nat) (t:TypeId) (r:Value),f.resultTypes[j]?=some t->(v.resultList f.resultTypes.size)[j]?=some r->Value.okWide P W' .any 0 t r):
 s.post enc P f apart fresh handsOn again W args v W':=by
 have m:∀p∈before,p.block<W.heap.size:=fun p a=>i.lt p a
 have hold:∀p∈before,(fun b=>decide (b<W.heap.size)) p.block=true:=fun p a=>by simpa using m p a
 refine⟨e,g,before,[],pa,pv,i,n _ _ _,k _ hold,o _ hold,World.keptBut_mono (fun p a=>⟨a,?_⟩) (hb.frame (·∈before)),fun _=> ?_⟩
 ·rw[h,List.mem_append]at a
  exact Or.inr a
 ·obtain⟨_,_,_,_,_,y,w⟩:=i
  refine⟨x,_,_,([]++pa)++pv,⟨[]++pa,pv,trodAll_append (k _ (fun _ _=>rfl)) (n _ _ _),o _ (fun _ _=>rfl),rfl,?_,?_⟩,?_⟩
  ·intro b off a
   have l:MemPlace.cell b off∈before:=(by rw[h];simpa using a);rw[hb.frozen (m _ l)];exact y b off l
  ·intro q
   have:=w q;rw[h]at this;simpa using this
  ·intro p a _
   rw[h];simpa using a
theorem EU.et:prog.globalNamed "errors.errorType" =some 0:=by kernel_rfl
theorem EU.rt:(prog.cutTypes.find? (·.1== "internal/reflectlite.rtype")).map (·.2)=some 346:=by kernel_rfl
theorem EU.EV:((List.range 403).filter fun t=>prog.rowNamed t [101,114,114,111,114])=[80]:=by kernel_rfl
theorem EU.size:prog.types.size=403:=by kernel_rfl
theorem AS:laidOutB prog=true:=by kernel_rfl
theorem l8{b:Type}{enc:TypeId×Value->b}{T:TypeId}{d:DataW b}{a:List MemPlace}(f:prog.readableRec T=true)(g:T<prog.types.size)
 (h:DataW.Trod enc prog W 0 (fun _=>true) true T v d a) (hb:Below W.heap.size W W') (e:∀x∈a,x.block<W.heap.size) {c:Nat->Bool} (i:∀p∈a,c p.block=true):DataW.Trod enc prog W' 0 c true T v d a:=
 WideElems.Trod_stays AS f g h (fun x j=>hb.same (e x j)) i
end
theorem o6{n:Int}(h:(Lit.int .u64 n).wf=true):aK n:=by
 unfold Lit.wf at h;simp at h;have a:IntKind.u64.min=0:=by decide
 have b:IntKind.u64.max=18446744073709551615:=by decide
 rw[a,b]at h;exact⟨h.1,by omega⟩
structure hI where
 kind:Int
 wk:Int
 draw:Int
 deriving Inhabited
def mo(x:hI):List Value:=[.int .i64 x.kind,.int .i64 x.wk,.int .u64 x.draw]
theorem Dj:(prog.info? 51).map (fun i=>(i.zero,i.size,i.bytes))=some (some (.agg #[.int .i64 0,.int .i64 0,.int .u64 0]),3,24):=by kernel_rfl
section
open Go.ChangeAt Go.ChangeShapes Go.WideShapes
variable{W:World}
def Nc:List (String×DataW Unit):=[("unicode/utf8.acceptRanges",Rows.laid_unicode_utf8_acceptRanges),("errors.errorType",Rows.laid_errors_errorType),("unicode/utf8.first",Rows.laid_unicode_utf8_first)]
theorem JK(h:laidMetH prog Nc W):W.cell? (0,0)=some (.iface 346 (.agg #[(4,80)])):=by
 have g:laidMet prog [("unicode/utf8.acceptRanges",Rows.laid_unicode_utf8_acceptRanges),("unicode/utf8.first",Rows.laid_unicode_utf8_first)] W/\handlesMet prog [("errors.errorType",Rows.laid_errors_errorType)] W:=h;obtain⟨name,u,ty,c,d,e,f,a⟩:=g.2 _ (List.mem_singleton.2 rfl);have en:name=[101,114,114,111,114]:=(Option.some.inj c).symm;subst en;obtain rfl:=Option.some.inj (EU.rt.symm.trans d);have b:ty∈(List.range 403).filter fun t=>prog.rowNamed t [101,114,114,111,114]:=List.mem_filter.2 ⟨List.mem_range.2 (by rw[<-EU.size];exact e),f⟩
 rw[EU.EV]at b;obtain rfl:=List.mem_singleton.1 b;have i:typeHandle prog 80=.pointer (some (4,80)):=by kernel_rfl
 rw[i]at a;simpa using World.var?_cell EU.et a 0
noncomputable def Lt (os:Os):World:=
 let w0:=World.doorLaid prog 60 os
 {w0 with heap:=w0.heap.modify 2 fun
  |.cells _ t fr=> .cells (Pinned.utf8FirstZ.map fun z:Nat=>Value.int .u8 (z:Int)).toArray t fr
  |o=>o}
theorem MY(os:Os)(args:Array Value):laidMetH prog Nc ((Lt os).forCall (fun _ _=>0) ⟨#[],args,[]⟩).memory:=
 laidMetH_of_parts3 (fuel:=8) (laidMet_of_run' 8 (by kernel_rfl) (by kernel_rfl)) (by kernel_rfl) (by kernel_rfl)
theorem KF(h:W.ShapedOpen prog):∃m,W.cell? (1,0)=some (.int .i64 m):=
 Go.Proofs.cell_of_shapedOpen_int (zero:=#[.int .i64 0]) (t:=3) h (of_decide_eq_true (by kernel_rfl)) (by kernel_rfl) rfl (by kernel_rfl) (by kernel_rfl) underlying3
end
theorem C3(id:Int):eH (List.replicate 64 aF.zero) id=none:=by
 unfold eH;rw[List.getElem?_replicate];split
 ·rfl
 ·rename_i r h
  split at h
  ·cases h;rfl
  ·cases h
theorem tx(n:Nat)(loop:Int)(id:Int)(h:id≠0):iO (List.replicate n (aC.new loop)) id=0:=by
 unfold iO;rw[List.countP_eq_zero];intro x a;rw[(List.mem_replicate.1 a).2];show¬((0:Int)==id)=true
 rw[beq_iff_eq];exact fun e=>h e.symm
theorem A1(n:Nat)(loop:Int)(id:Int)(h:id≠0):qR (List.replicate n (aC.new loop)) id=0:=by
 unfold qR;rw[List.countP_eq_zero];intro x a;rw[(List.mem_replicate.1 a).2];show¬((0:Int)==id)=true
 rw[beq_iff_eq];exact fun e=>h e.symm
theorem wL(n:Nat)(loop:Int)(id:Int)(h:id≠0):ev (List.replicate n (aC.new loop)) [] id=0:=by
 unfold ev;rw[tx n loop id h,A1 n loop id h];rfl
theorem wM(C:KC)(n tt:Nat)(f:1<=n)(d:n<=64)(l:tt<=65536)(b:17+8*n+C.wide.toNat+C.narrow.toNat<=tt):Inv 0 0 (kp C n tt) where
 core:={
  cZ:=⟨List.length_replicate,fun p r a=>by
   have i:r∈List.replicate 64 aF.zero:=List.mem_of_getElem? a;rw[(List.mem_replicate.1 i).2];exact⟨by decide,by decide,fun e=>(by cases e),⟨by decide,by decide⟩,⟨by decide,by decide⟩⟩⟩
  al:=fun id r b=>by
   have:=C3 id;rw[show eH (kp C n tt).table id=none from this]at b;cases b
  ai:=fun id t h=>by cases h
  one:=fun id h=>by show ev (List.replicate n (aC.new C.loop)) [] id<=1;rw[wL n _ id h];omega
  sH:=fun id h a=>by
   have:ev (List.replicate n (aC.new C.loop)) [] id=0:=wL n _ id h;have g:0<ev (List.replicate n (aC.new C.loop)) [] id:=a;omega
  slt:=fun id h a=>by
   have:iO (List.replicate n (aC.new C.loop)) id=0:=tx n _ id h;have g:0<iO (List.replicate n (aC.new C.loop)) id:=a;omega
  wk:=fun x c=>by
   rw[(List.mem_replicate.1 (show x∈List.replicate n (aC.new C.loop)from c)).2];exact⟨⟨fun j _=>bE,by show([]:List Int).length<=8;decide⟩,Int.le_refl 0,show(0:Int)<=24 by decide⟩}
 nd:=List.nodup_nil
 q:=⟨fun s k=>by
  have:s∈(List.replicate 8 ([]:List fQ)).flatten:=k;simp at this,Nat.le_refl _⟩
 b2:=⟨rfl,rfl,bE⟩
 bI:=⟨by show 17+8*n+C.wide.toNat+C.narrow.toNat<=70000;omega,by show tt<=70000;omega,fun x c=>(by cases c),Nat.le_refl _⟩
 mem:=yA tt n _ _ l d
 obj:=fun r b=>by
  rw[(List.mem_replicate.1 (show r∈List.replicate 64 bq.zero from b)).2];exact bE
 draw:=bE
 w0:=by show 1<=(List.replicate n (aC.new C.loop)).length;rw[List.length_replicate];exact f
 w1:=by show(List.replicate n (aC.new C.loop)).length<=64;rw[List.length_replicate];exact d
 out:=Nat.le_refl _
variable{k:Nat}{p x:Int}{m:aI}
inductive UVal where
 |top
 |c (n:Int)
 |own
 |Bv
 |low
structure UFrm where
 p:Int
 q:List Int
 r:List (Nat×UVal)
 b:Bool
 late:Bool
def UFrm.g(a:UFrm)(k:Nat):UVal:=match a.r.find? (fun z=>z.1==k)with|some z=>z.2|none=> .top
def UFrm.put(a:UFrm)(k:Nat)(v:UVal):UFrm:={a with p:=wrap64 (a.p+1),r:=(k,v)::a.r}
def UFrm.rd(a:UFrm)(k:Int):UVal:=if 0<=k/\k<32 then a.g k.toNat else .c 0
def Bw(x:be)(b v:UVal):UVal:=
 if x.op=1 then .c x.v else
 match b,v with
 |.c m,.c k=> .c (hL x m k)
 |.c m,.low=>if x.op=11/\m=1 then .c 0 else .top
 |_,_=> .top
def Bx(code:List be)(n:Nat)(a:UFrm):Option (List UFrm):=
 let x:=fB code a.p
 if¬(0<=a.p/\a.p<code.length)∨bC x code.length=false∨x.m≠0 then none
 else if x.op=12 then some [{a with p:=wrap64 x.v}]
 else if x.op=13∨x.op=14 then
  match a.g x.a.toNat with
  |.c k=>some [if(k==0)==(x.op==13)then {a with p:=wrap64 x.v}else {a with p:=wrap64 (a.p+1)}]
  |_=>some [{a with p:=wrap64 x.v},{a with p:=wrap64 (a.p+1)}]
 else if x.op=15 then(if a.q=[]then some [{a with p:=wrap64 x.v,q:=[wrap64 (a.p+1)]}]else none)
 else if x.op=16 then(match a.q with|[y]=>some [{a with p:=y,q:=[]}]|_=>none)
 else if x.op=18 then
  if x.v=1/\x.b≠-1 then(match a.rd x.b,a.g x.a.toNat with
   |.own,.c y=>if y=0∨y=1 then some [{a with p:=wrap64 (a.p+1),b:=y==0}]else none
   |_,_=>none)
  else none
 else if x.op=36 then(if x.a=0/\a.late=true then some [{a with p:=wrap64 (a.p+1)}]else none)
 else if x.op=17 then
  if x.b=-1 then(if x.v=0/\x.a=0 then some [{a.put 0 .top with late:=false}]else none)
  else if x.a.toNat=0 then none
  else(match a.rd x.b with
   |.own=>if x.v=0 then some [a.put x.a.toNat (.c 1)]else if x.v=1 then some [a.put x.a.toNat (.c (if a.b then 0 else 1))]else none
   |.Bv=>if x.v=0 then some [a.put x.a.toNat (.c 1)]else if x.v=1 then some [a.put x.a.toNat .low]else none
   |_=>none)
 else if x.a.toNat=0 then none
 else if 1<=x.op/\x.op<=11 then some [a.put x.a.toNat (Bw x (a.rd x.b) (if x.c=-1 then .c x.v else a.rd x.c))]
 else if x.op=34 then some [{a.put x.a.toNat (.c 0)with late:=true}]
 else if x.op=38 then some [a.put x.a.toNat .own]
 else if x.op=39 then some [a.put x.a.toNat .Bv]
 else if x.op=40 then some [a.put x.a.toNat (.c n)]
 else if x.op=42 then some [a.put x.a.toNat .top]
 else none
def Gv(n j:Nat):UVal->Int->Prop
 |.top,_=>True
 |.c k,x=>x=k
 |.own,x=>x=17+3*(j:Int)
 |.Bv,x=>∃k:Nat,k<n/\x=17+3*(k:Int)
 |.low,x=>x=0∨x=1
structure oS(n j:Nat)(w:Int)(g:List Int)(a:UFrm)(f:cP)(bot:Int):Prop where
 pc:f.pc=a.p
 back:f.back=a.q
 o9:∀k,Gv n j (a.g k) (f.r k)
 bot:bot=if a.b then 0 else 1
 le:f.r 0<=w
 late:a.late=true->g=[]∨f.r 0<w
structure po(n:Nat)(m:aI)(w:Int)(bot:Nat->Int):Prop where
 wid:∀a:Nat,a<17+3*n->m.width.getD a 0=64
 len:17+3*n<=m.cells.length
 c0:m.cells.getD 0 0=w
 tp:∀k,k<n->m.cells.getD (17+3*k) 0=1
 bt:∀k,k<n->m.cells.getD (18+3*k) 0=bot k/\(bot k=0∨bot k=1)
def jL(m:aI)(k:Nat)(v:Int):aI:={m with cells:=m.cells.set (18+3*k) v}
variable{n j:Nat}{w bot:Int}{g:List Int}{a:UFrm}
theorem Bm(a:UFrm)(k:Nat)(v:UVal)(i:Nat):(a.put k v).g i=if k=i then v else a.g i:=by
 unfold UFrm.g UFrm.put;dsimp only;rw[List.find?_cons];by_cases h:k=i
 ·rw[if_pos h,show(k==i)=true from by rw[h];exact beq_self_eq_true _]
 ·rw[if_neg h,show(k==i)=false from by simpa using h]
theorem oS.rd(h:oS n j w g a f bot)(k:Int):Gv n j (a.rd k) (gR f.r k):=by
 unfold UFrm.rd gR;split
 ·exact h.o9 _
 ·rfl
theorem oS.put(h:oS n j w g a f bot)(b:k≠0){v:UVal}(c:Gv n j v x):oS n j w g (a.put k v) {f with r:=fW f.r k x,pc:=wrap64 (f.pc+1)} bot:=by
 refine⟨by show _=wrap64 (a.p+1);rw[<-h.pc],h.back,fun i=> ?_,h.bot,?_,fun e=> ?_⟩
 ·rw[Bm]
  show Gv n j _ (fW f.r k x i)
  unfold fW;by_cases e:k=i
  ·rw[if_pos e,if_pos e.symm];exact c
  ·rw[if_neg e,if_neg (fun h=>e h.symm)];exact h.o9 i
 ·show fW f.r k x 0<=w
  unfold fW;rw[if_neg (fun e=>b e.symm)];exact h.le
 ·show g=[]∨fW f.r k x 0<w
  unfold fW;rw[if_neg (fun e=>b e.symm)];exact h.late e
theorem oS.at_(h:oS n j w g a f bot){b:Bool}{t:Int}(hb:t=if b then 0 else 1):oS n j w g {a with p:=p,b:=b} {f with pc:=p} t:=⟨rfl,h.back,h.o9,hb,h.le,h.late⟩
theorem yW{x:be}{b v:UVal}{y z:Int}(hb:Gv n j b y)(c:Gv n j v z):Gv n j (Bw x b v) (hL x y z):=by
 unfold Bw;by_cases d:x.op=1
 ·rw[if_pos d]
  show hL x y z=x.v
  unfold hL;rw[if_pos d]
 rw[if_neg d];cases b<;>cases v<;>try exact trivial
 ·have hb:y=_:=hb
  have c:z=_:=c;subst hb;subst c;rfl
 ·rename_i m
  have hb:y=m:=hb;have c:z=0∨z=1:=c;dsimp only;split
  ·rename_i e
   show hL x y z=0
   unfold hL vJ;rw[if_neg d,if_neg (by omega),if_neg (by omega),if_neg (by omega),if_neg (by omega),if_neg (by omega),if_neg (by omega),if_neg (by omega),if_neg (by omega),if_pos e.1,decide_eq_false (by omega)];rfl
  ·trivial
theorem qE(k:Nat)(c:k<64)(v:Int)(b:0<=v/\v<=1):tV 64 (17+3*(k:Int)) v=17+3*(k:Int)+v:=by
 unfold tV hk IntKind.wrap IntKind.bits IntKind.signed;simp
 omega
theorem po.ld{bot:Nat->Int}(h:po n m w bot)(b:k<17+3*n):m.acc 0 (k:Int) 0 0=(some (m.cells.getD k 0),m):=by
 unfold aI.acc aI.wid;rw[Int.toNat_natCast,h.wid k b,if_neg (by decide)];simp
theorem po.st{bot:Nat->Int}(h:po n m w bot)(b:k<n)(v:Int):m.acc 1 (17+3*(k:Int)+1) 0 v=(some (m.cells.getD (18+3*k) 0),jL m k v):=by
 unfold aI.acc aI.wid jL hk;rw[show(17+3*(k:Int)+1).toNat=18+3*k from by omega,h.wid _ (by omega),if_neg (by decide)];simp
theorem tN{bot:Nat->Int}(h:po n m w bot)(d:k<n):jL m k (bot k)=m:=by
 have e:m.cells.set (18+3*k) (bot k)=m.cells:=by
  have b:18+3*k<m.cells.length:=by have:=h.len;omega
  have:=(h.bt k d).1;rw[List.getD_eq_getElem?_getD,List.getElem?_eq_getElem b]at this;have c:m.cells[18+3*k]=bot k:=this;rw[<-c];exact List.set_getElem_self b
 unfold jL;rw[e]
theorem cF(h:0<=x/\x<1000):IntKind.u64.wrap x=x/\wrap64 x=x:=by
 unfold wrap64 IntKind.wrap IntKind.bits IntKind.signed;simp
 omega
theorem rX(h:k<64):gv (wrap64 (k:Int))=17+3*(k:Int):=by
 unfold gv;rw[(cF (x:=(k:Int)) (by omega)).2,(cF (by omega)).1]
theorem fO{code:List be}(h:0<=p/\p<code.length):code[p.toNat]?=some (fB code p):=by
 unfold fB;rw[if_pos h,List.getD_eq_getElem?_getD,List.getElem?_eq_getElem (by omega)];rfl
variable{bot:Nat->Int}{l:List UFrm}
def rY(C:KC)(K:KS)(n j:Nat)(w:Int)(d:Int)(l:List UFrm)(b:Int):Prop:=
 ∃f' bot' c,ht C K 1 j d=([],bb K j d f' c (jL K.mem j bot'))/\((∃a'∈l,oS n j w K.ring a' f' bot')∨(K.ring=[]/\f'=(K.W j).f/\bot'=b))
theorem tO(hlen:K.wk.length=n)(cq:n<=4)(Z:j<n)(L:(K.W j).slot=0)(c8:(K.W j).hand=0)(J:K.out=[])(u:po n K.mem w bot)
 (q:oS n j w K.ring a (K.W j).f (bot j)) (o:Bx C.dH n a=some l) (c0:(fB C.dH a.p).op=34->K.ring=[]) (d:Int):rY C K n j w d l (bot j):=by
 have D:j<K.wk.length:=by omega
 have G:=tN u Z;have cm:=u.bt j Z;obtain⟨x,c5⟩:=nm (fB C.dH a.p);have t:fB C.dH (K.W j).f.pc=x:=by rw[q.pc];exact c5
 unfold Bx at o;rw[c5]at o c0;dsimp only at o;by_cases P:¬(0<=a.p/\a.p<C.dH.length)∨bC x C.dH.length=false∨x.m≠0
 ·rw[if_pos P]at o;cases o
 rw[if_neg P]at o;have ce:0<=a.p/\a.p<C.dH.length:=Classical.byContradiction fun h=>P (Or.inl h)
 have a1:bC x C.dH.length=true:=by
  cases h:bC x C.dH.length with
  |true=>rfl
  |false=>exact absurd (Or.inr (Or.inl h)) P
 have I:x.m=0:=Classical.byContradiction fun h=>P (Or.inr (Or.inr h))
 have a2:0<=(K.W j).f.pc/\(K.W j).f.pc<C.dH.length:=by rw[q.pc];exact ce
 have a0:(x.op=12∨x.op=13∨x.op=14∨x.op=15∨x.op=16)->∀S,bM aI.acc C.dH (K.W j).f S=((dG x (K.W j).f).1,(dG x (K.W j).f).2,S):=fun h S=>by
  unfold bM;rw[if_neg (by omega),fO a2,t];dsimp only;rw[if_neg (by rw[a1];decide),if_pos h]
 have bx:(x.op=17∨x.op=18)->∀{S S':aI} {v:Int},cR aI.acc S x (K.W j).f.r=(some v,S')->bM aI.acc C.dH (K.W j).f S=(0,{(K.W j).f with r:=fW (K.W j).f.r x.a.toNat v,pc:=wrap64 ((K.W j).f.pc+1)},S'):=fun h S S' v e=>by
  unfold bM;rw[if_neg (by omega),fO a2,t];dsimp only;rw[if_neg (by rw[a1];decide),if_neg (by omega),if_pos (by omega),e]
 have ch:1<=x.op/\x.op<=11->∀S,bM aI.acc C.dH (K.W j).f S=(0,{(K.W j).f with r:=fW (K.W j).f.r x.a.toNat (hL x (gR (K.W j).f.r x.b) (iI (K.W j).f.r x)),pc:=wrap64 ((K.W j).f.pc+1)},S):=fun h S=>by
  unfold bM;rw[if_neg (by omega),fO a2,t];dsimp only;rw[if_neg (by rw[a1];decide),if_neg (by omega),if_neg (by omega),if_pos h]
 have c3:33<x.op->∀S,bM aI.acc C.dH (K.W j).f S=(1,(K.W j).f,S):=fun h S=>by
  unfold bM;rw[if_neg (by omega),fO a2,t];dsimp only;rw[if_neg (by rw[a1];decide),if_neg (by omega),if_neg (by omega),if_neg (by omega)]
 have plain:∀{f':cP} {a':UFrm},bM aI.acc C.dH (K.W j).f K.mem=(0,f',K.mem)->oS n j w K.ring a' f' (bot j)->a'∈l->rY C K n j w d l (bot j):=fun {f' a'} e c7 H=>
  ⟨f',bot j,false,by rw[eG D L J d (by rw[t];exact I) e,G];rfl,Or.inl ⟨a',H,c7⟩⟩
 have c2:∀{b:Bool},(bot j=if b then 0 else 1)->oS n j w K.ring {a with p:=wrap64 (a.p+1),b:=b} {(K.W j).f with pc:=wrap64 ((K.W j).f.pc+1)} (bot j):=fun hb=>by rw[q.pc];exact q.at_ hb
 by_cases T:x.op=12
 ·rw[if_pos T]at o
  have o:=Option.some.inj o;refine plain (f':={(K.W j).f with pc:=wrap64 x.v}) ?_ (q.at_ q.bot) (by rw[<-o];exact List.mem_singleton.2 rfl);rw[a0 (Or.inl T)];unfold dG;rw[if_neg (by omega),if_neg (by omega),if_pos T]
 rw[if_neg T]at o;by_cases bv:x.op=13∨x.op=14
 ·rw[if_pos bv]at o
  have B:=q.o9 x.a.toNat;have F:bM aI.acc C.dH (K.W j).f K.mem=(0,(if((K.W j).f.r x.a.toNat==0)==(x.op==13)then {(K.W j).f with pc:=wrap64 x.v}else {(K.W j).f with pc:=wrap64 ((K.W j).f.pc+1)}),K.mem):=by
   rw[a0 (by omega)];unfold dG;rw[if_neg (by omega),if_neg (by omega),if_neg (by omega)]
   split<;>rfl
  by_cases A:(((K.W j).f.r x.a.toNat==0)==(x.op==13))=true
  ·rw[if_pos A]at F
   refine plain (a':={a with p:=wrap64 x.v}) F (q.at_ q.bot) ?_;cases s:a.g x.a.toNat with
   |c k=>
    rw[s]at o B;have B:_=k:=B;rw[B]at A;dsimp only at o;rw[if_pos A]at o;rw[<-Option.some.inj o];exact List.mem_singleton.2 rfl
   |_=>rw[s]at o;rw[<-Option.some.inj o];exact List.mem_cons_self
  ·rw[if_neg A]at F
   refine plain (a':={a with p:=wrap64 (a.p+1)}) F (c2 q.bot) ?_;cases s:a.g x.a.toNat with
   |c k=>
    rw[s]at o B;have B:_=k:=B;rw[B]at A;dsimp only at o;rw[if_neg A]at o;rw[<-Option.some.inj o];exact List.mem_singleton.2 rfl
   |_=>rw[s]at o;rw[<-Option.some.inj o];exact List.mem_cons_of_mem _ (List.mem_singleton.2 rfl)
 rw[if_neg bv]at o;by_cases a5:x.op=15
 ·rw[if_pos a5]at o
  split at o
  ·rename_i ap
   rw[<-Option.some.inj o];refine⟨{(K.W j).f with pc:=wrap64 x.v,back:=[wrap64 (a.p+1)]},bot j,false,?_,Or.inl ⟨_,List.mem_singleton.2 rfl,⟨rfl,rfl,q.o9,q.bot,q.le,q.late⟩⟩⟩;have hb:=q.back;rw[ap]at hb;rw[eG D L J d (by rw[t];exact I) (f:={(K.W j).f with pc:=wrap64 x.v,back:=[wrap64 (a.p+1)]}) (m:=K.mem) (by
    rw[a0 (by omega)];unfold dG;rw[if_neg (by omega),if_pos a5,hb,if_neg (by decide),q.pc]
    rfl),G]
   rfl
  ·cases o
 rw[if_neg a5]at o;by_cases a9:x.op=16
 ·rw[if_pos a9]at o
  split at o
  ·rename_i y ap
   rw[<-Option.some.inj o];refine⟨{(K.W j).f with pc:=y,back:=[]},bot j,false,?_,Or.inl ⟨_,List.mem_singleton.2 rfl,⟨rfl,rfl,q.o9,q.bot,q.le,q.late⟩⟩⟩;have hb:=q.back;rw[ap]at hb;rw[eG D L J d (by rw[t];exact I) (f:={(K.W j).f with pc:=y,back:=[]}) (m:=K.mem) (by
    rw[a0 (by omega)];unfold dG;rw[if_pos a9,hb,if_neg (by simp)]
    rfl),G]
   rfl
  ·cases o
 rw[if_neg a9]at o;have cl:¬(x.op=12∨x.op=13∨x.op=14∨x.op=15∨x.op=16):=by omega
 by_cases V:x.op=18
 ·rw[if_pos V]at o
  split at o
  ·rename_i c4
   split at o
   ·rename_i y O c6
    split at o
    ·rename_i bi
     rw[<-Option.some.inj o];have E:=q.rd x.b;rw[O]at E;have E:gR (K.W j).f.r x.b=17+3*(j:Int):=E;have R:=q.o9 x.a.toNat;rw[c6]at R;have R:(K.W j).f.r x.a.toNat=y:=R;refine⟨{(K.W j).f with pc:=wrap64 ((K.W j).f.pc+1)},y,false,?_,Or.inl ⟨_,List.mem_singleton.2 rfl,?_⟩⟩
     ·rw[eG D L J d (by rw[t];exact I) (f:={(K.W j).f with pc:=wrap64 ((K.W j).f.pc+1)}) (m:=jL K.mem j y) (by
       rw[bx (Or.inr V) (v:=y) (S':=jL K.mem j y) (by
        unfold cR dE;dsimp only;rw[if_neg (by omega),if_pos V,if_neg c4.2,E,c4.1,qE j (by omega) 1 (by omega),u.st Z,R]
        rfl)]
       have:fW (K.W j).f.r x.a.toNat y=(K.W j).f.r:=by
        funext k
        unfold fW;split
        ·rename_i e;rw[e,R]
        ·rfl
       rw[this])]
      rfl
     ·rw[q.pc]
      refine q.at_ ?_;rcases bi with rfl|rfl<;>rfl
    ·cases o
   ·cases o
  ·cases o
 rw[if_neg V]at o;by_cases ad:x.op=36
 ·rw[if_pos ad]at o
  split at o
  ·rename_i H
   have F:bM aI.acc C.dH (K.W j).f K.mem=(1,(K.W j).f,K.mem):=c3 (by omega) _;have s:K.mem.acc 0 0 0 0=(some w,K.mem):=by
    have:=u.ld (k:=0) (by omega);rw[u.c0]at this;exact this
   have z:=yV D L J d (by rw[t];exact I) F (by rw[t];exact ad) s;rw[t,H.1]at z;rw[<-Option.some.inj o];by_cases A:w=(K.W j).f.r (0:Int).toNat
   ·rw[if_pos A]at z
    have A:w=(K.W j).f.r 0:=A;exact⟨(K.W j).f,bot j,true,by rw[z,G],Or.inr ⟨(q.late H.2).resolve_right (by omega),rfl,rfl⟩⟩
   ·rw[if_neg A]at z
    exact⟨_,bot j,false,by rw[z,G],Or.inl ⟨_,List.mem_singleton.2 rfl,c2 q.bot⟩⟩
  ·cases o
 rw[if_neg ad]at o;by_cases U:x.op=17
 ·rw[if_pos U]at o
  have bw:∀{v:Int},K.mem.acc 0 (dE (K.W j).f.r x) 0 0=(some v,K.mem)->bM aI.acc C.dH (K.W j).f K.mem=(0,{(K.W j).f with r:=fW (K.W j).f.r x.a.toNat v,pc:=wrap64 ((K.W j).f.pc+1)},K.mem):=fun {v} e=>by
   refine bx (Or.inl U) ?_;unfold cR;dsimp only;rw[if_pos U,e]
  split at o
  ·rename_i am
   split at o
   ·rename_i s
    rw[<-Option.some.inj o];have e:=u.ld (k:=0) (by omega);rw[u.c0]at e;refine⟨_,bot j,false,by rw[eG D L J d (by rw[t];exact I) (bw (v:=w) (by unfold dE;rw[if_pos am,s.1];exact e)),G];rfl,Or.inl ⟨_,List.mem_singleton.2 rfl,?_⟩⟩;rw[s.2];refine⟨by show _=wrap64 (a.p+1);rw[<-q.pc],q.back,fun i=> ?_,q.bot,?_,fun e=>by cases e⟩
    ·have:=Bm a 0 .top i
     rw[show UFrm.g {a.put 0 .top with late:=false} i=(a.put 0 .top).g i from rfl,this];show Gv n j _ (fW (K.W j).f.r 0 w i)
     unfold fW;by_cases e:0=i
     ·rw[if_pos e];trivial
     ·rw[if_neg e,if_neg (fun h=>e h.symm)];exact q.o9 i
    ·show fW (K.W j).f.r 0 w 0<=w
     unfold fW;rw[if_pos rfl];exact Int.le_refl _
   ·cases o
  ·rename_i am
   split at o
   ·cases o
   rename_i M;have E:=q.rd x.b;have c1:∀(k:Nat),k<n->gR (K.W j).f.r x.b=17+3*(k:Int)->(x.v=0->K.mem.acc 0 (dE (K.W j).f.r x) 0 0=(some 1,K.mem))/\(x.v=1->K.mem.acc 0 (dE (K.W j).f.r x) 0 0=(some (bot k),K.mem)):=fun k N e=>by
    unfold dE;rw[if_neg am,e];refine⟨fun s=> ?_,fun s=> ?_⟩
    ·rw[s,qE k (by omega) 0 (by omega)]
     have:=u.ld (k:=17+3*k) (by omega);rw[u.tp k N]at this;rw[show 17+3*(k:Int)+0=((17+3*k:Nat):Int)from by omega];exact this
    ·rw[s,qE k (by omega) 1 (by omega)]
     have:=u.ld (k:=18+3*k) (by omega);rw[(u.bt k N).1]at this;rw[show 17+3*(k:Int)+1=((18+3*k:Nat):Int)from by omega];exact this
   have fin:∀{v:Int} {y:UVal},K.mem.acc 0 (dE (K.W j).f.r x) 0 0=(some v,K.mem)->Gv n j y v->some [a.put x.a.toNat y]=some l->rY C K n j w d l (bot j):=fun e bi H=>
    plain (bw e) (q.put M bi) (by rw[<-Option.some.inj H];exact List.mem_singleton.2 rfl)
   split at o
   ·rename_i O
    rw[O]at E;obtain⟨a3,ab⟩:=c1 j Z E;split at o
    ·rename_i s;exact fin (y:=.c 1) (a3 s) rfl o
    split at o
    ·rename_i s;exact fin (y:=.c (if a.b then 0 else 1)) (ab s) q.bot o
    ·cases o
   ·rename_i O
    rw[O]at E;obtain⟨k,N,e⟩:∃k:Nat,k<n/\gR (K.W j).f.r x.b=17+3*(k:Int):=E;obtain⟨a3,ab⟩:=c1 k N e;split at o
    ·rename_i s;exact fin (y:=.c 1) (a3 s) rfl o
    split at o
    ·rename_i s;exact fin (y:=.low) (ab s) (u.bt k N).2 o
    ·cases o
   ·cases o
 rw[if_neg U]at o;by_cases M:x.a.toNat=0
 ·rw[if_pos M]at o;cases o
 rw[if_neg M]at o;by_cases a4:1<=x.op/\x.op<=11
 ·rw[if_pos a4]at o
  refine plain (f':={(K.W j).f with r:=fW (K.W j).f.r x.a.toNat (hL x (gR (K.W j).f.r x.b) (iI (K.W j).f.r x)),pc:=wrap64 ((K.W j).f.pc+1)}) (ch a4 _) (q.put M (yW (q.rd x.b) ?_)) (by rw[<-Option.some.inj o];exact List.mem_singleton.2 rfl);unfold iI;split
  ·rfl
  ·exact q.rd x.c
 rw[if_neg a4]at o;have F:33<x.op->bM aI.acc C.dH (K.W j).f K.mem=(1,(K.W j).f,K.mem):=fun h=>c3 h _
 by_cases W:x.op=34
 ·rw[if_pos W]at o
  have B:=c0 W;rw[<-Option.some.inj o];have z:=vr D L c8 J B d (by rw[t];exact I) (F (by omega)) (by rw[t];exact W);rw[t]at z;have ci:fW (fW (K.W j).f.r x.a.toNat 0) x.a.toNat 0=fW (K.W j).f.r x.a.toNat 0:=by funext k;unfold fW;split<;>rfl
  rw[ci]at z;refine⟨_,bot j,false,by rw[z,G],Or.inl ⟨_,List.mem_singleton.2 rfl,?_⟩⟩;have h:=q.put M (v:=.c 0) (x:=0) rfl;exact⟨h.pc,h.back,h.o9,h.bot,h.le,fun _=>Or.inl B⟩
 rw[if_neg W]at o;have told:∀{v:UVal},(x.op=38∨x.op=39∨x.op=40∨x.op=42)->Gv n j v (ik C (bb K j d (K.W j).f false K.mem) j 0 (.own j) x)->some [a.put x.a.toNat v]=some l->rY C K n j w d l (bot j):=fun {v} cd s H=>by
  have z:=vq D L J d (by rw[t];exact I) (F (by omega)) (by rw[t];exact cd);rw[t]at z;refine⟨_,bot j,false,by rw[z,G],Or.inl ⟨a.put x.a.toNat v,by rw[<-Option.some.inj H];exact List.mem_singleton.2 rfl,q.put M s⟩⟩
 have av:(bb K j d (K.W j).f false K.mem).wk.length=n:=by
  show(K.wk.set j _).length=n
  rw[List.length_set,hlen]
 have hF:(bb K j d (K.W j).f false K.mem).F (.own j)=(K.W j).f:=kh D;by_cases Q:x.op=38
 ·rw[if_pos Q]at o
  refine told (Or.inl Q) ?_ o;unfold ik;rw[if_neg (by omega),if_neg (by omega),if_neg (by omega),if_neg (by omega),if_neg (by omega),if_neg (by omega),if_pos Q,av];show gv (wrap64 (IntKind.u64.wrap (j:Int)%IntKind.u64.wrap (n:Int)))=17+3*(j:Int)
  rw[(cF (x:=(j:Int)) (by omega)).1,(cF (x:=(n:Int)) (by omega)).1,Int.emod_eq_of_lt (by omega) (by omega)];exact rX (by omega)
 rw[if_neg Q]at o;by_cases X:x.op=39
 ·rw[if_pos X]at o
  refine told (Or.inr (Or.inl X)) ?_ o;unfold ik;rw[if_neg (by omega),if_neg (by omega),if_neg (by omega),if_neg (by omega),if_neg (by omega),if_neg (by omega),if_neg Q,if_pos X,av,hF];rw[(cF (x:=(n:Int)) (by omega)).1];have cb:=Int.emod_nonneg ((K.W j).f.r x.b.toNat) (show(n:Int)≠0 by omega);have c9:=Int.emod_lt_of_pos ((K.W j).f.r x.b.toNat) (show(0:Int)<n by omega);obtain⟨k,N⟩:=Int.eq_ofNat_of_zero_le cb;rw[N]at c9⊢;exact⟨k,by omega,rX (by omega)⟩
 rw[if_neg X]at o;by_cases Y:x.op=40
 ·rw[if_pos Y]at o
  refine told (Or.inr (Or.inr (Or.inl Y))) ?_ o;unfold ik;rw[if_neg (by omega),if_neg (by omega),if_neg (by omega),if_pos Y,av];exact(cF (x:=(n:Int)) (by omega)).1
 rw[if_neg Y]at o;by_cases al:x.op=42
 ·rw[if_pos al]at o
  exact told (v:=.top) (Or.inr (Or.inr (Or.inr al))) trivial o
 ·rw[if_neg al]at o;cases o
section
variable{t w':Int}{g':List Int}
def uStart(lp:Int):UFrm:=⟨lp,[],[],false,false⟩
def jJ(lp:Int)(a:UFrm):UFrm:=if a.p=lp/\a.q=[]/\a.b=false then uStart lp else a
def rch(code:List be)(n:Nat)(lp:Int):Nat->UFrm->Bool
 |0,a=>(fB code (jJ lp a).p).op==34
 |k+1,a=>(fB code (jJ lp a).p).op==34||(match Bx code n (jJ lp a)with|some l=>l.all (rch code n lp k)|none=>false)
def kt(code:List be)(p:Int):Bool:=
 let y:=fB code (wrap64 (p+1))
 let z:=fB code (wrap64 y.v)
 (fB code p).a==16&&y.op==14&&y.a==16&&y.m==0&&z.op==35&&z.a==16&&z.m==0&&decide (0<=wrap64 (p+1)/\wrap64 (p+1)<code.length/\0<=wrap64 y.v/\wrap64 y.v<code.length)&&bC y code.length&&bC z code.length
def qd(code:List be)(n:Nat)(lp:Int):Nat->UFrm->Bool
 |0,_=>false
 |k+1,a=>((fB code (jJ lp a).p).op !=34||(!(jJ lp a).b&&kt code (jJ lp a).p))&&(match Bx code n (jJ lp a)with
  |some l=>l.all fun a'=>((fB code (jJ lp a).p).op !=34||rch code n lp 120 a')&&((a'.p==lp&&a'.q.isEmpty&& !a'.b)||qd code n lp k a')
  |none=>false)
def qN(code:List be)(n j:Nat)(lp w:Int)(g:List Int)(m:Nat)(f:cP)(bot:Int):Prop:=
 ∃a k,oS n j w g a f bot/\rch code n lp m a=true/\qd code n lp (k+1) a=true
section
variable{code:List be}{n j:Nat}{lp w:Int}{g:List Int}{m:Nat}{f:cP}{bot:Int}
theorem gY(lp:Int)(a:UFrm):jJ lp (jJ lp a)=jJ lp a:=by
 unfold jJ;by_cases h:a.p=lp/\a.q=[]/\a.b=false
 ·rw[if_pos h,if_pos ⟨rfl,rfl,rfl⟩]
 ·rw[if_neg h,if_neg h]
theorem oS.jJ{a:UFrm}(h:oS n j w g a f bot)(lp:Int):oS n j w g (jJ lp a) f bot:=by
 unfold Go.Proofs.YtmfnplmcfkkdpaaGreatDoor.jJ;split
 ·rename_i e
  refine⟨by rw[h.pc];exact e.1,by rw[h.back];exact e.2.1,fun k=>trivial,?_,h.le,fun e=>by cases e⟩;rw[h.bot,e.2.2];rfl
 ·exact h
theorem yX(k:Nat)(a:UFrm):rch code n lp k (jJ lp a)=rch code n lp k a:=by
 cases k with
 |zero=>unfold rch;rw[gY]
 |succ k=>unfold rch;rw[gY]
theorem jM(k:Nat)(a:UFrm):qd code n lp k (jJ lp a)=qd code n lp k a:=by
 cases k with
 |zero=>rfl
 |succ k=>unfold qd;rw[gY]
theorem oS.env{a:UFrm}(h:oS n j w g a f bot)(d:w<=w')(c:g'=[]∨g'=g∨w<w'):oS n j w' g' a f bot:=
 ⟨h.pc,h.back,h.o9,h.bot,Int.le_trans h.le d,fun e=>by
  have:=h.le;rcases c with b|b|b
  ·exact Or.inl b
  ·rw[b]
   exact(h.late e).imp id fun h=>by omega
  ·exact Or.inr (by omega)⟩
theorem qN.env(h:qN code n j lp w g m f bot)(i:w<=w')(e:g'=[]∨g'=g∨w<w'):qN code n j lp w' g' m f bot:=by
 obtain⟨a,k,b,c,d⟩:=h;exact⟨a,k,b.env i e,c,d⟩
theorem qN.le(h:qN code n j lp w g m f bot):f.r 0<=w:=by obtain⟨a,k,b,c,d⟩:=h;exact b.le
theorem qN.start(c:rch code n lp 120 (uStart lp)=true)(a:qd code n lp 121 (uStart lp)=true)(b:f.pc=lp)(hb:f.back=[])(hle:f.r 0<=w):qN code n j lp w g 120 f 1:=
 ⟨uStart lp,120,⟨b,hb,fun k=>trivial,rfl,hle,fun e=>by cases e⟩,c,a⟩
end
section
variable{C:KC}{K:KS}{n j:Nat}{lp w:Int}{bot:Nat->Int}{m:Nat}
theorem By(D:qd C.dH n lp 121 (uStart lp)=true)(hlen:K.wk.length=n)(P:n<=4)(J:j<n)(U:(K.W j).slot=0)(N:(K.W j).hand=0)(Q:K.out=[])(B:po n K.mem w bot)
 (L:qN C.dH n j lp w K.ring m (K.W j).f (bot j)) (I:(fB C.dH (K.W j).f.pc).op=34->K.ring=[]) (O:m<=120) (d:Int):
 ∃f' bot' q z,ht C K 1 j d=([],bb K j d f' q (jL K.mem j bot'))/\qN C.dH n j lp w K.ring z f' bot'/\(K.ring≠[]->z<m)/\z<=120/\(bot'=0∨bot'=1):=by
 obtain⟨a,k,o,i,c⟩:=L;have o:=o.jJ lp;rw[<-yX]at i;rw[<-jM]at c;obtain⟨a,E⟩:∃a0,jJ lp a=a0:=⟨_,rfl⟩;rw[E]at o i c;have u:jJ lp a=a:=by rw[<-E,gY]
 unfold qd at c;rw[u]at c;cases p:Bx C.dH n a with
 |none=>rw[p]at c;simp at c
 |some l=>
  rw[p]at c;rw[Bool.and_eq_true]at c;have c:=List.all_eq_true.1 c.2;obtain⟨f',bot',q,y,T⟩:=tO hlen P J U N Q B o p (fun e=>I (by rw[o.pc];exact e)) d;rcases T with⟨a',F,x⟩|⟨R,M,hb⟩
  ·have H:=c a' F
   rw[Bool.and_eq_true]at H;obtain⟨A,b⟩:=H;have s:∃v,qd C.dH n lp (v+1) a'=true:=by
    cases k with
    |zero=>
     rw[Bool.or_eq_true]at b;rcases b with b|b
     ·simp only[Bool.and_eq_true,beq_iff_eq,List.isEmpty_iff,Bool.not_eq_true']at b
      refine⟨120,?_⟩;rw[<-jM,show jJ lp a'=uStart lp from by unfold jJ;rw[if_pos ⟨b.1.1,b.1.2,b.2⟩]];exact D
     ·cases b
    |succ k=>
     rw[Bool.or_eq_true]at b;rcases b with b|b
     ·simp only[Bool.and_eq_true,beq_iff_eq,List.isEmpty_iff,Bool.not_eq_true']at b
      refine⟨120,?_⟩;rw[<-jM,show jJ lp a'=uStart lp from by unfold jJ;rw[if_pos ⟨b.1.1,b.1.2,b.2⟩]];exact D
     ·exact⟨k,b⟩
   obtain⟨v,s⟩:=s;have G:bot'=0∨bot'=1:=(by rw[x.bot];cases a'.b<;>simp);by_cases r:(fB C.dH a.p).op=34
   ·have S:rch C.dH n lp 120 a'=true:=by
     rw[Bool.or_eq_true]at A;refine A.resolve_left fun h=> ?_
     rw[r]at h;cases h
    exact⟨f',bot',q,120,y,⟨a',v,x,S,s⟩,fun h=>absurd (I (by rw[o.pc];exact r)) h,Nat.le_refl _,G⟩
   ·cases m with
    |zero=>
     unfold rch at i;rw[u]at i;exact absurd (beq_iff_eq.1 i) r
    |succ m=>
     unfold rch at i;rw[u,p,Bool.or_eq_true]at i;have i:=(i.resolve_left fun h=>r (beq_iff_eq.1 h));exact⟨f',bot',q,m,y,⟨a',v,x,List.all_eq_true.1 i a' F,s⟩,fun _=>Nat.lt_succ_self m,by omega,G⟩
  ·refine⟨f',bot',q,m,y,?_,fun h=>absurd R h,O,?_⟩
   ·rw[M,hb]
    refine⟨a,k,o,i,?_⟩;unfold qd;rw[u,p];rw[Bool.and_eq_true];exact⟨(by assumption:_/\_).1,List.all_eq_true.2 c⟩
   ·rw[hb];exact(B.bt j J).2
def Gj(code:List be)(t:Int)(m:Nat)(f:cP):Prop:=
 f.r 16=t/\((m=1/\∃q,f.pc=wrap64 (q+1)/\kt code q=true)∨(m=0/\∃q,f.pc=wrap64 (fB code (wrap64 (q+1))).v/\kt code q=true))
def di(K:KS)(i:Nat)(d t:Int)(f:cP):KS:={aP K i d with ring:=[],wk:=K.wk.set i {K.W i with parked:=false,hand:=t,f:=f}}
theorem vs{i:Nat}(a:i<K.wk.length)(A:(K.W i).slot=0)(u:(K.W i).hand=0)(k:K.out=[])(y:K.ring=[t])(d:Int)(v:(fB C.dH (K.W i).f.pc).m=0)(h:bM aI.acc C.dH (K.W i).f K.mem=(1,(K.W i).f,K.mem))
 (l:(fB C.dH (K.W i).f.pc).op=34):
 ht C K 1 i d=([],di K i d t {(K.W i).f with r:=fW (fW (K.W i).f.r (fB C.dH (K.W i).f.pc).a.toNat 0) (fB C.dH (K.W i).f.pc).a.toNat t,pc:=wrap64 ((K.W i).f.pc+1)}):=by
 obtain⟨x,c⟩:=nm (fB C.dH (K.W i).f.pc);have b:∀f,(di K i d t f).W i={K.W i with parked:=false,hand:=t,f:=f}:=fun f=>jK (K:=K) a _
 have p:∀f g,(di K i d t f).cI (.own i) g=di K i d t g:=fun f g=>by
  show KS.bj _ i _=_
  rw[b];unfold KS.bj di;dsimp only;rw[List.set_set]
 have s:az C (gO (aP K i d) i (K.W i).f K.mem) i none (.own i) (fB C.dH (K.W i).f.pc)=(0,di K i d t {(K.W i).f with r:=fW (fW (K.W i).f.r x.a.toNat 0) x.a.toNat t}):=by
  rw[c,jS];rw[c]at l;unfold az;rw[if_neg (by omega),if_neg (by omega),if_neg (by omega),if_pos (by omega)];unfold b0;dsimp only;rw[if_neg (by omega),if_neg (by omega),if_pos l,hT a];have o:(bb K i d {(K.W i).f with r:=fW (K.W i).f.r x.a.toNat 0} false K.mem).W i={K.W i with parked:=false,f:={(K.W i).f with r:=fW (K.W i).f.r x.a.toNat 0}}:=gW a;rw[if_pos (by rw[o];exact u)];have z:(bb K i d {(K.W i).f with r:=fW (K.W i).f.r x.a.toNat 0} false K.mem).ring=[t]:=y;rw[z];have e:(({bb K i d {(K.W i).f with r:=fW (K.W i).f.r x.a.toNat 0} false K.mem with ring:=(gS [t]).2.2}:KS).bj i {({bb K i d {(K.W i).f with r:=fW (K.W i).f.r x.a.toNat 0} false K.mem with ring:=(gS [t]).2.2}:KS).W i with hand:=(gS [t]).1})=di K i d t {(K.W i).f with r:=fW (K.W i).f.r x.a.toNat 0}:=by
   have B:({bb K i d {(K.W i).f with r:=fW (K.W i).f.r x.a.toNat 0} false K.mem with ring:=(gS [t]).2.2}:KS).W i={K.W i with parked:=false,f:={(K.W i).f with r:=fW (K.W i).f.r x.a.toNat 0}}:=o;rw[B];unfold KS.bj bb di;dsimp only;rw[List.set_set];rfl
  rw[e,b];unfold KS.ax;rw[show(di K i d t {(K.W i).f with r:=fW (K.W i).f.r x.a.toNat 0}).F (.own i)={(K.W i).f with r:=fW (K.W i).f.r x.a.toNat 0}from by show(KS.W _ i).f=_;rw[b],p]
 rw[gP a A d v h s];have q:(di K i d t {(K.W i).f with r:=fW (fW (K.W i).f.r x.a.toNat 0) x.a.toNat t}).fA (.own i)=di K i d t {(K.W i).f with r:=fW (fW (K.W i).f.r x.a.toNat 0) x.a.toNat t,pc:=wrap64 ((K.W i).f.pc+1)}:=by
  unfold KS.fA;rw[show(di K i d t {(K.W i).f with r:=fW (fW (K.W i).f.r x.a.toNat 0) x.a.toNat t}).F (.own i)={(K.W i).f with r:=fW (fW (K.W i).f.r x.a.toNat 0) x.a.toNat t}from by show(KS.W _ i).f=_;rw[b],p]
 rw[q,c];have:(di K i d t {(K.W i).f with r:=fW (fW (K.W i).f.r x.a.toNat 0) x.a.toNat t,pc:=wrap64 ((K.W i).f.pc+1)}).out=[]:=k;rw[this];unfold di aP;rw[k]
theorem tP(hlen:K.wk.length=n)(L:j<n)(I:(K.W j).slot=0)(z:(K.W j).hand=0)(F:K.out=[])(H:K.ring=[t])(x:qN C.dH n j lp w K.ring m (K.W j).f (bot j))
 (r:(fB C.dH (K.W j).f.pc).op=34) (d:Int):∃f',ht C K 1 j d=([],di K j d t f')/\Gj C.dH t 1 f'/\f'.r 0<=w/\bot j=1:=by
 obtain⟨a,k,b,M,c⟩:=x;have b:=b.jJ lp;rw[<-jM]at c;obtain⟨a,s⟩:∃a0,jJ lp a=a0:=⟨_,rfl⟩;rw[s]at b c;have E:jJ lp a=a:=by rw[<-s,gY]
 unfold qd at c;rw[E,Bool.and_eq_true]at c;obtain⟨e,u⟩:=c;have p:(K.W j).f.pc=a.p:=b.pc;rw[p]at r;rw[r]at e;have e:(!a.b&&kt C.dH a.p)=true:=e;rw[Bool.and_eq_true]at e;obtain⟨hb,i⟩:=e;have A:=i;unfold kt at i;dsimp only at i;simp only[Bool.and_eq_true,beq_iff_eq,decide_eq_true_eq]at i;have y:(fB C.dH a.p).a=16:=i.1.1.1.1.1.1.1.1.1;cases o:Bx C.dH n a with
 |none=>rw[o]at u;cases u
 |some l=>
  unfold Bx at o;dsimp only at o;by_cases q:¬(0<=a.p/\a.p<C.dH.length)∨bC (fB C.dH a.p) C.dH.length=false∨(fB C.dH a.p).m≠0
  ·rw[if_pos q]at o;cases o
  have G:0<=a.p/\a.p<C.dH.length:=Classical.byContradiction fun h=>q (Or.inl h)
  have D:bC (fB C.dH a.p) C.dH.length≠false:=fun h=>q (Or.inr (Or.inl h))
  have B:(fB C.dH a.p).m=0:=Classical.byContradiction fun h=>q (Or.inr (Or.inr h))
  have J:bM aI.acc C.dH (K.W j).f K.mem=(1,(K.W j).f,K.mem):=by
   unfold bM;rw[if_neg (by omega),p,fO G];dsimp only;rw[if_neg D,if_neg (by omega),if_neg (by omega),if_neg (by omega)]
  have v:=vs (by omega) I z F H d (by rw[p];exact B) J (by rw[p];exact r);rw[p,y]at v;refine⟨_,v,⟨rfl,Or.inl ⟨rfl,a.p,rfl,A⟩⟩,b.le,?_⟩;rw[b.bot];simp only[Bool.not_eq_true']at hb;rw[hb];rfl
end
end
def Fc(n:Nat):be:=⟨(n%64:Nat),(n/64%32:Nat),(n/2048%64:Nat)-1,(n/131072%64:Nat)-1,if n/8388608%1024=1023 then 18446744073709551615 else(n/8388608%1024:Nat),(n/8589934592%128:Nat),(n/1099511627776:Nat)⟩
def e':List be:=List.map Fc [
 134173,151129101,134246,8557713,169169,16946449,175441,2661764,2932107,159518093,8435012,2923845,2927939,8565778,8428675,8557727,8523201,132564,133136,134352257,3061131,360844685,2930179,8441411,185963,360844877,185874,2532746,327290254,8435076,3057029,3059075,8568273,8441220,3057029,3069315,8568274,8430787,226625548,16946770,
 185602,183618,84019212,133153,133136,134246,8557713,8428676,8557714,169169,2661771,587337102,16946449,175441,8435012,2923845,2927939,8565777,2661770,520228238,134174,133136,173442,8431043,3184032,8558034,2669962,578948494,134145,133136,8557778,134145,133136,169169,8557713,2532747,738332045,16946449,175441,8435012,
 2925893,2927939,8565777,173442,8431043,3184032,2669962,746720654,134145,133136,131089,8392771,58724485,981600397,33560778,1006766286,16783562,1023543502,377620495,1057098766,134178,1057098766,133290,138343,612501519,1057098766,133313,133288,401547,964823181,140391,612501519,1057098766,8396995,897714188,133156,755107852,134178,1057098766,822216716,
 134246,1040320524,25170057,138343,612501519,822217741,134179,755107852,152215,8522433,154324,8542993,1600266,1099041549,133136,152215,8522433,8542932,133136,133993,1078091,133136,1073874959,163208909649,947018,1250036558,1132595215,92408321,133136,1166149647,1291979598,1132595215,922880513,133136,94490087896,1132595215,133660,133136,1073874959,133633,
 936779,1401031501,103080022873,1401031501,8407555,133135,1342310412,1132595215,133136,1468140493,171800679258,1468140365,8422340,8407555,1417807884,133136,133698,135554,137666,139586,1191315471,149506,133185,133178,133698,135554,137538,1325533199,149570,133121,133178,133698,135554,138114,140226,1073874959,1753352204,133698,8522113,138114,
 140226,1073874959,163208909649,291658,1753353038,1132595215,92407809,133185,133178,8581679425,133633,936779,1828850509,103080022873,1837239117,8407555,133135,1770129420,1417807887,1132595215,149570,133121,133178,133295,1937901709,8590198960,1963067533,133135,137282,133121,133178,184682497,133185,133178,92407809,133185,133178,25298945,133185,133178,
 293734401,133185,133178,133121,133185,133178,133221,135794,1073874959,17180002357,8581679425,103080022873,2130840397,133135,1132595215,133175,133221,264330,2013399182,133297,1988233357,133746,1073874959,163208890545,8394954,2307000526,25172170,2273446094,1132595215,1988233357,1937901580,25769937014,1132595215,133121,133178,133171,8581679553,8581679425,94490087896,1132595215,
 133660,25769937014,133121,133178,133297,1988233357,133746,1073874959,163208890545,8394954,2483161294,25172170,2483161294,1132595215,1988233357,1937901580,34359871540,1132595215,2038564876,133221,133121,133178,133176,2038564876,133225,133121,133178,2038564877,133609,147907,147595,2625767565,8581679553,133221,135794,1073874959,133441,94490087896,1132595215,133660,
 2038564876,25299073,395403,1937901709,33685611,2801928269,25301010,42958196909,2785151117,137282,133121,133178,133228,1963067404,100796417,133185,133178,134350849,133185,133178,8521729,133185,133178,922880001,133185,133178,163208890513,2827094158,51539742638,133164,2038564876,8581679169,2986477583,137218,133185,133178,25299153,3120695501,133413,8522065,
 667978,3120695629,8397130,3322022222,16910673,67242369,930187,3305245069,8401219,77326322002,133249,133136,133313,8521985,1159641827541,3254913229,16910529,1159641303251,3254913229,133698,16910721,135618,8581679425,1191315471,922765514,3154249933,922880129,133136,133413,8522002,8521985,16910610,133249,133136,92407937,133136,293734529,133136,25299153,3439462605,
 133413,8522065,667978,3439462733,8397130,2827094350,2986477583,137218,133185,133178,133313,8521985,154619480277,2827094222,3254913039,137218,133185,133178,3540125711,137218,133185,133178,25299153,3674343629,133413,8522065,667978,3607234894,8521857,133136,16910673,8522113,801163,3674343821,8401220,85916256594,133249,133136,133313,8521938,
 68719610067,16785610,3749841101,133698,8522113,8581679425,1325533199,133249,133136]
def hh:List bB:=[⟨1,223,0,0,0,0⟩,⟨2,246,0,0,0,0⟩,⟨3,256,0,0,0,0⟩,⟨4,284,0,0,0,0⟩,⟨5,299,0,0,0,0⟩,⟨6,302,0,0,0,0⟩,⟨7,307,0,0,0,0⟩,⟨8,304,0,0,0,0⟩,⟨10,321,0,0,0,0⟩,⟨11,346,1,0,0,0⟩,⟨12,351,1,0,0,0⟩,⟨13,398,1,0,0,0⟩,⟨14,352,1,0,0,0⟩,⟨15,418,1,0,0,0⟩,⟨70,176,7,0,0,0⟩,⟨71,184,7,0,0,0⟩,⟨72,191,7,0,7,0⟩,⟨73,197,7,0,7,0⟩]
def uLib18(n:Nat):Bool:=qd e' n 90 121 (uStart 90)&&rch e' n 90 120 (uStart 90)
theorem Dp:(uLib18 1&&uLib18 2&&uLib18 3&&uLib18 4)=true:=by kernel_rfl
