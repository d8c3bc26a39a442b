import Derived.Test.YtlihkblppjgebaaGreatDoorCards
import Derived.Test.YtlihkblppjgebaaGreatDoorTie
import Derived.HandedShaped
import Derived.LaidMore
import Derived.LaidHandle
import Derived.ProofKit
import Derived.OpenShut
import Derived.ChangeSame
import Derived.Stop.Joined
import Derived.WideKeyArgs
import Derived.Deep.Slices
import Derived.Deep.Fields
import Derived.SizedLaws
import Derived.ChangeAt
import Derived.Shelf.Vars
import Derived.Deep.RegionLaw
import Derived.Deep.DeepCutAuto
import Derived.Test.YtlihkblppjgebaaGreatDoorZAm
import Derived.Test.YtlihkblppjgebaaGreatDoorZAn
set_option linter.all false
set_option maxRecDepth 100000
set_option maxHeartbeats 0
namespace Go.Proofs.YtlihkblppjgebaaGreatDoor
open Go.RowKit Go.Proofs.Tryz
variable{w:World}{χ:Nat->a'}{L:cU}{Y:Var}{C:KC}{K:KS}
theorem En{i:Nat}(a:i<K.wk.length)(c:cJ)(v:Bool):(K.bj i {K.W i with parked:=v}).F c=K.F c:=by
 cases c with
 |own j=>
  show((K.bj i _).W j).f=(K.W j).f
  by_cases e:i=j
  ·subst e;rw[gM a]
  ·have:(K.bj i {K.W i with parked:=v}).W j=K.W j:=by
    unfold KS.W KS.bj;simp only[List.getD_eq_getElem?_getD,List.getElem?_set_ne e]
   rw[this]
 |ai id k=>rfl
theorem uA(n:Value)(idO:Option Int)(i:Nat)(c:cJ)(b o:Nat)(a d e g f j:Int)(h:ae w χ L Y C K):
 Calls prog 133 #[(L.mb,0),(L.wb,i*38),n,(b,o),.agg #[.int .i64 22,a,d,e,.int .u64 g,f,j]] w (dO (az C K i idO c ⟨22,a,d,e,g,f,j⟩) χ L Y C K w):=by
 obtain⟨w0,m,p,k,l⟩:=h.sh 22 a d e g f j;have t0:=l.c1;have E:Hid (az C K i idO c ⟨22,a,d,e,g,f,j⟩=(2,K)):=Z (by unfold az;dsimp only;rw[if_neg (by decide),if_neg (by decide),if_neg (by decide),if_neg (by decide),if_neg (by decide),if_neg (by decide),if_neg (by decide),if_pos rfl]);go_in
 go_wp2
 try rw[m]
 go_ret;rw[E];exact⟨rfl,χ,Y,k.at_,k.nx,fun _=>k.yk⟩
theorem uB(a2:Value)(idO:Option Int)(i:Nat)(W:i<K.wk.length)(c:cJ)(b o:Nat)(V:aj K c)(a0:aR L Y c b o)(a m n r p s:Int)(U:0<=a/\a<32)(h:ae w χ L Y C K):
 Calls prog 133 #[(L.mb,0),(L.wb,i*38),a2,(b,o),.agg #[.int .i64 36,a,m,n,.int .u64 r,p,s]] w (dO (az C K i idO c ⟨36,a,m,n,r,p,s⟩) χ L Y C K w):=by
 have G:=Z V;have H:=Z a0;have x:=Z W;obtain⟨w0,Q,a3,A,u⟩:=h.pre 36 a m n r p s;obtain⟨t0,t1⟩:=u.1.c2;obtain⟨am,ap⟩:=U;have X:L.wb≠w.heap.size:=Nat.ne_of_lt (h.wk (by simp)).is.lt;have ad:=X.symm;obtain⟨q,d⟩:=nm (gu K 0);have I:=Z (fun w h=>xF (K:=K) (w:=w) (χ:=χ) (L:=L) (Y:=Y) (C:=C) 0 ⟨by omega,by omega⟩ h);have N:q.2.ai=K.ai/\q.2.wk=K.wk:=by rw[<-d];exact⟨rfl,rfl⟩
 have hF:(q.2.F c)=K.F c:=by rw[<-d];cases c<;>rfl
 rw[d]at I;have T:=Z d;obtain⟨pv,K1⟩:=q;dsimp only at N hF;have f:=Z N;obtain⟨t,D⟩:∃y,(K.F c).r a.toNat=y:=⟨_,rfl⟩;have a4:=Z D;have z:Hid ((K1.F c).r a.toNat=t):=Z (by rw[hF];exact D);have F:=A.at_.aA G H a.toNat (by omega);rw[D]at F;obtain⟨l,a1⟩:=nm ((pv==t));have E:Hid (az C K i idO c ⟨36,a,m,n,r,p,s⟩=((if l then 1 else 0),K1.bj i {K1.W i with parked:=l})):=Z (by unfold az;dsimp only;rw[if_neg (by decide),if_neg (by decide),if_pos rfl,T];dsimp only;rw[z,a1];cases l<;>rfl);cases l
 all_goals
  go_in
  go_wp2
  try rw[Q]
  try clear Q
  go_region_held3 (fun w'=>w'.cell? ⟨w.heap.size,1,none⟩=some (.int .i64 a)/\w'.cell? (b,o+1+a.toNat)=some (.int .u64 t)) (go_keep) ((go_at_call 51;refine(I _ A.at_.drew).mono ?_;rintro e w1 ⟨rfl,dZ,Y1,M⟩;have g:=Z ((A.af ay).trans (Gr.refl _) M);have S:=Z (((Nx.af (Ch.refl _ w0).drew).trans M.nx).row u.1 u.2);have j:=Z (g.cur G H (Gr.of_eq f.1) (by rw[f.2]));have t1:=S.1.k 1 rfl;have F:=g.at_.aA j.1 j.2 a.toNat (by omega);rw[z]at F;have al:=g.at_.we (i:=i) (by rw[f.2];exact x);have a5:=g.at_.uq (i*38+2);have O:=Z (fun v=>g.at_.pH (i:=i) (by rw[f.2];exact x) v);have P:∀v,(w1.setCell (L.wb,i*38+2) (.bool v)).cell? (b,o+1+a.toNat)=some (.int .u64 t):=(fun v=>by obtain⟨R,J,k⟩:=O v;have d:=k.cur j.1 j.2 (Gr.of_eq rfl) (bG _ _);have:=k.at_.aA d.1 d.2 a.toNat (by omega);rw[En (by rw[f.2];exact x) c v,z]at this;exact this);have a9:=P false;have ab:=P true))
  all_goals
   go_wp2
   go_ret;rw[E];obtain⟨R,J,k⟩:=O _;have B:=g.trans (Gr.of_eq f.1) k;exact⟨rfl,R,J,B.at_,B.nx,fun _=>B.yk⟩
section
variable{l:List aF}{id:Int}{r:aF}{i p:Nat}{t:Thread}{x y:aC}
structure fF(f:cP):Prop where
 r:∀k,k<32->aK (f.r k)
 back:f.back.length<=8
structure e6(l:List Frame):Prop where
 n0:0<l.length
 n8:l.length<=8
 cg:∀k f,l[k]?=some f->f.cg=(k%2==1)
 lY:∀f∈l,fF f.f
structure od(id:Int)(t:Thread):Prop where
 id:t.id=id
 eY:aK t.eY
 l:e6 t.l
structure hW(x:aC):Prop where
 f:fF x.f
 l0:0<=x.left
 l1:x.left<=24
def eH(l:List aF)(id:Int):Option aF:=match l[(id%64).toNat]? with|none=>none|some r=>if r.taken&&r.t.id==id then some r else none
def st(l:List aF)(id:Int):Int:=match eH l id with|none=>0|some r=>r.t.state
theorem fi:(d' l id=none/\eH l id=none)∨∃r,d' l id=some (id%64).toNat/\l[(id%64).toNat]?=some r/\eH l id=some r:=by
 unfold d' eH;cases h:l[(id%64).toNat]? with
 |none=>exact Or.inl ⟨rfl,rfl⟩
 |some r=>
  dsimp only;by_cases a:(r.taken&&r.t.id==id)=true
  ·rw[if_pos a,if_pos a];exact Or.inr ⟨r,rfl,rfl,rfl⟩
  ·rw[if_neg a,if_neg a];exact Or.inl ⟨rfl,rfl⟩
theorem uD(h:eH l id=some r):l[(id%64).toNat]?=some r/\r.taken=true/\r.t.id=id:=by
 unfold eH at h;split at h
 ·cases h
 ·rename_i r' b
  split at h
  ·rename_i a
   rw[Bool.and_eq_true,beq_iff_eq]at a;have:r'=r:=Option.some.inj h;subst this;exact⟨b,a.1,a.2⟩
  ·cases h
theorem nj(a:p<l.length)(r':aF)(id:Int):eH (l.set p r') id=if(id%64).toNat=p then(if r'.taken&&r'.t.id==id then some r' else none)else eH l id:=by
 unfold eH;by_cases e:(id%64).toNat=p
 ·rw[if_pos e,e,List.getElem?_set_self a]
 ·rw[if_neg e,List.getElem?_set_ne (fun h=>e h.symm)]
theorem Cy(h:eH l id=some r)(r':aF)(b:r'.taken=true->r'.t.id=id):
 (∀j,j≠id->eH (l.set (id%64).toNat r') j=eH l j)/\eH (l.set (id%64).toNat r') id=if r'.taken then some r' else none:=by
 obtain⟨c,m,g⟩:=uD h;have f:=(List.getElem?_eq_some_iff.1 c).1;refine⟨fun j d=> ?_,?_⟩
 ·rw[nj f]
  split
  ·rename_i e
   rw[if_neg]
   ·unfold eH;rw[e,c];dsimp only;rw[if_neg]
    rw[Bool.and_eq_true,beq_iff_eq];exact fun a=>d (by rw[<-a.2,g])
   ·rw[Bool.and_eq_true,beq_iff_eq]
    exact fun a=>d (by rw[<-a.2,b a.1])
  ·rfl
 ·rw[nj f,if_pos rfl]
  cases k:r'.taken with
  |false=>rfl
  |true=>simp[b k]
theorem lZ(K:KS)(id:Int):cz K id=st K.table id:=by
 unfold cz fx st;rcases fi (l:=K.table) (id:=id)with⟨a,b⟩|⟨r,a,b,c⟩
 ·rw[a,b];rfl
 ·rw[a,c];dsimp only;rw[b]
structure pM(N p:Nat)(r:aF):Prop where
 t0:0<=r.times
 t1:r.times<=N
 id:r.taken=true->r.t.id%64=p/\64<=r.t.id/\r.t.id<=64*N+63
 home:aK r.t.home
 value:aK r.t.value
structure e0(N:Nat)(l:List aF):Prop where
 len:l.length=64
 row:∀p r,l[p]?=some r->pM N p r
theorem pM.more{N N':Nat}(h:pM N p r)(b:N<=N'):pM N' p r:=⟨h.t0,by have:=h.t1;omega,fun a=>by have:=h.id a;omega,h.home,h.value⟩
theorem e0.more{N N':Nat}(h:e0 N l)(a:N<=N'):e0 N' l:=⟨h.len,fun p r b=>(h.row p r b).more a⟩
theorem e0.set{N:Nat}(h:e0 N l)(c:pM N p r):e0 N (l.set p r):=by
 refine⟨by rw[List.length_set,h.len],fun q x a=> ?_⟩;by_cases e:p=q
 ·subst e
  have b:p<l.length:=by have:=(List.getElem?_eq_some_iff.1 a).1;simpa using this
  rw[List.getElem?_set_self b]at a;rw[<-Option.some.inj a];exact c
 ·rw[List.getElem?_set_ne e]at a;exact h.row q x a
theorem e0.at{N:Nat}(h:e0 N l)(d:eH l id=some r):pM N (id%64).toNat r/\r.taken=true/\r.t.id=id/\64<=id/\id<=64*N+63:=by
 obtain⟨b,a,c⟩:=uD d;have:=h.row _ _ b;have e:=this.id a;exact⟨this,a,c,by omega,by omega⟩
def iO(wk:List aC)(id:Int):Nat:=wk.countP fun x=>x.slot==id
def qR(wk:List aC)(id:Int):Nat:=wk.countP fun x=>x.hand==id
def oe(ring:List Int)(id:Int):Nat:=ring.countP fun x=>x==id
def ev(wk:List aC)(ring:List Int)(id:Int):Nat:=iO wk id+qR wk id+oe ring id
theorem mO{α:Type}(p:α->Bool)(l:List α)(i:Nat)(x y:α)(h:l[i]?=some x):(l.set i y).countP p+(if p x then 1 else 0)=l.countP p+(if p y then 1 else 0):=by
 induction l generalizing i with
 |nil=>cases h
 |cons z l ih=>
  cases i with
  |zero=>
   have:z=x:=Option.some.inj h;subst this;rw[List.set_cons_zero,List.countP_cons,List.countP_cons];omega
  |succ i=>
   rw[List.set_cons_succ,List.countP_cons,List.countP_cons];have:=ih i h;omega
structure Core(N:Nat)(tb:List aF)(th:List (Int×Thread))(ws:List aC)(ring:List Int):Prop where
 cZ:e0 N tb
 al:∀id r,eH tb id=some r->fU r.t.state=true->(aw th id).isSome=true
 ai:∀id t,aw th id=some t->od id t/\∃r,eH tb id=some r/\(r.t.state=4->r.t.aG=true)
 one:∀id,id≠0->ev ws ring id<=1
 sH:∀id,id≠0->0<ev ws ring id->(aw th id).isSome=true/\st tb id≠3
 slt:∀id,id≠0->0<iO ws id->st tb id≠1
 wk:∀x∈ws,hW x
section
variable{N N':Nat}{tb lC:List aF}{ai yf:List (Int×Thread)}{wk uE:List aC}{ring k8:List Int}
theorem DF{l':List aF}(h:eH l' id=eH l id):st l' id=st l id:=by unfold st;rw[h]
theorem Core.fW(c:Core N tb ai wk ring)(id:Int)(o:e0 N' lC)
 (b:∀j,j≠id->eH lC j=eH tb j) (g:∀j,j≠id->aw yf j=aw ai j)
 (d:∀j,j≠id->j≠0->iO uE j<=iO wk j/\ev uE k8 j<=ev wk ring j)
 (w:∀x∈uE,hW x)
 (q:∀r,eH lC id=some r->fU r.t.state=true->(aw yf id).isSome=true)
 (v:∀t,aw yf id=some t->od id t/\∃r,eH lC id=some r/\(r.t.state=4->r.t.aG=true))
 (n:id≠0->ev uE k8 id<=1)
 (s:id≠0->0<ev uE k8 id->(aw yf id).isSome=true/\st lC id≠3)
 (u:id≠0->0<iO uE id->st lC id≠1):Core N' lC yf uE k8 where
 cZ:=o
 al:=fun j r k m=>by
  by_cases e:j=id
  ·subst e;exact q r k m
  ·rw[b j e]at k;rw[g j e];exact c.al j r k m
 ai:=fun j t h=>by
  by_cases e:j=id
  ·subst e;exact v t h
  ·rw[g j e]at h;rw[b j e];exact c.ai j t h
 one:=fun j a=>by
  by_cases e:j=id
  ·subst e;exact n a
  ·have:=(d j e a).2;have:=c.one j a;omega
 sH:=fun j a f=>by
  by_cases e:j=id
  ·subst e;exact s a f
  ·rw[g j e,DF (b j e)];exact c.sH j a (by have:=(d j e a).2;omega)
 slt:=fun j a f=>by
  by_cases e:j=id
  ·subst e;exact u a f
  ·rw[DF (b j e)];exact c.slt j a (by have:=(d j e a).1;omega)
 wk:=w
theorem Core.more(c:Core N tb ai wk ring)(a:N<=N'):Core N' tb ai wk ring:=⟨c.cZ.more a,c.al,c.ai,c.one,c.sH,c.slt,c.wk⟩
theorem Core.row(c:Core N tb ai wk ring)(h:aw ai id=some t):∃r,eH tb id=some r/\(r.t.state=4->r.t.aG=true)/\64<=id/\id<=64*N+63:=by
 obtain⟨_,r,a,b⟩:=c.ai id t h;have:=c.cZ.at a;exact⟨r,a,b,this.2.2.2⟩
theorem Core.cp(c:Core N tb ai wk ring){b:Thread}(h:aw ai id=some t)(d:od id b):Core N tb (cn ai id b) wk ring:=
 c.fW id c.cZ (fun _ _=>rfl) (fun j f=>by rw[aV,if_neg f]) (fun _ _ _=>⟨Nat.le_refl _,Nat.le_refl _⟩) c.wk
  (fun r m k=>by rw[aV,if_pos rfl];rfl)
  (fun u a=>by rw[aV,if_pos rfl]at a;rw[<-Option.some.inj a];exact⟨d,(c.ai id t h).2⟩)
  (c.one id) (fun e g=>⟨by rw[aV,if_pos rfl];rfl,(c.sH id e g).2⟩) (c.slt id)
theorem e1(h:wk[i]?=some x)(id:Int):iO (wk.set i y) id+(if x.slot==id then 1 else 0)=iO wk id+(if y.slot==id then 1 else 0):=mO _ _ _ _ _ h
theorem e2(h:wk[i]?=some x)(id:Int):qR (wk.set i y) id+(if x.hand==id then 1 else 0)=qR wk id+(if y.hand==id then 1 else 0):=mO _ _ _ _ _ h
theorem hX{P:aC->Prop}(h:∀x∈wk,P x)(c:P y):∀x∈wk.set i y,P x:=fun x b=>by
 rcases List.mem_or_eq_of_mem_set b with a|rfl
 ·exact h x a
 ·exact c
theorem Core.bj(c:Core N tb ai wk ring)(h:wk[i]?=some x)(k:y.slot=x.slot)(g:y.hand=x.hand)(m:hW y):Core N tb ai (wk.set i y) ring:=by
 have d:∀j,iO (wk.set i y) j=iO wk j:=fun j=>by have:=e1 (y:=y) h j;rw[k]at this;omega
 have f:∀j,qR (wk.set i y) j=qR wk j:=fun j=>by have:=e2 (y:=y) h j;rw[g]at this;omega
 have e:∀j,ev (wk.set i y) ring j=ev wk ring j:=fun j=>by unfold ev;rw[d,f]
 exact⟨c.cZ,c.al,c.ai,fun id a=>by rw[e];exact c.one id a,fun id a b=>c.sH id a (by rwa [e]at b),fun id a b=>c.slt id a (by rwa [d]at b),hX c.wk m⟩
theorem Er(l:List aF)(id s:Int):(j4 l id s).2=match eH l id with|none=>l|some r=>if fU s=true/\r.t.state≠4 then l.set (id%64).toNat {r with t:={r.t with state:=s}}else l:=by
 unfold j4;rcases fi (l:=l) (id:=id)with⟨a,b⟩|⟨r,a,b,e⟩
 ·rw[a,b]
 ·rw[a,e];dsimp only;rw[b];dsimp only
  by_cases c:fU s=true
  ·by_cases d:r.t.state=4
   ·simp[c,d]
   ·simp[c,d]
  ·simp[c]
theorem Cz(l:List aF)(id v:Int):(gi l id v).2=match eH l id with|none=>l|some r=>if r.t.state≠4 then l.set (id%64).toNat {r with t:={r.t with state:=4,value:=v,aG:=true}}else l:=by
 unfold gi;rcases fi (l:=l) (id:=id)with⟨a,b⟩|⟨r,a,b,d⟩
 ·rw[a,b]
 ·rw[a,d];dsimp only;rw[b];dsimp only
  by_cases c:r.t.state=4
  ·simp[c]
  ·simp[c]
theorem Aj(l:List aF)(id a:Int):(hJ l id a).2=match eH l id with|none=>l|some r=>if a≠0/\r.t.bH=0/\r.t.loose=false then l.set (id%64).toNat {r with t:={r.t with bH:=a}}else l:=by
 unfold hJ;rcases fi (l:=l) (id:=id)with⟨b,c⟩|⟨r,b,c,e⟩
 ·rw[b,c]
 ·rw[b,e];dsimp only;rw[c];dsimp only
  by_cases d:a=0
  ·simp[d]
  ·by_cases f:r.t.bH=0<;>cases g:r.t.loose<;>simp[d,f,g]
theorem yg(l:List aF)(id:Int):(e8 l id).2=match eH l id with|none=>l|some r=>if r.t.bH=0/\r.t.loose=false then(if r.t.state=4/\r.t.aG=false then l.set (id%64).toNat r.gone else l.set (id%64).toNat {r with t:={r.t with loose:=true}})else l:=by
 unfold e8;rcases fi (l:=l) (id:=id)with⟨a,b⟩|⟨r,a,b,c⟩
 ·rw[a,b]
 ·rw[a,c];dsimp only;rw[b];dsimp only
  by_cases e:r.t.bH=0<;>cases f:r.t.loose<;>by_cases d:r.t.state=4<;>cases g:r.t.aG<;>simp[e,f,d,g]
theorem yh(l:List aF)(id:Int):(eN l id).2=match eH l id with|none=>l|some r=>if r.t.aG=true then(if r.t.loose=true∨r.bL=true then l.set (id%64).toNat r.gone else l.set (id%64).toNat {r with t:={r.t with aG:=false}})else l:=by
 unfold eN;rcases fi (l:=l) (id:=id)with⟨a,b⟩|⟨r,a,b,c⟩
 ·rw[a,b]
 ·rw[a,c];dsimp only;rw[b];dsimp only
  cases e:r.t.loose<;>cases d:r.bL<;>cases f:r.t.aG<;>simp[e,d,f]
theorem Ak(l:List aF)(id:Int):(fy l id).2.2.2.2=(match eH l id with|none=>l|some r=>if r.t.state=4/\r.t.loose=false/\r.bL=false then(if r.t.aG=true then l.set (id%64).toNat {r with bL:=true}else l.set (id%64).toNat r.gone)else l)/\
 ((fy l id).2.1=0∨∃r,eH l id=some r/\(fy l id).2.1=r.t.value)/\((fy l id).2.2.1=0∨∃r,eH l id=some r/\(fy l id).2.2.1=r.t.home):=by
 unfold fy;rcases fi (l:=l) (id:=id)with⟨a,b⟩|⟨r,a,b,c⟩
 ·rw[a,b];exact⟨rfl,Or.inl rfl,Or.inl rfl⟩
 ·rw[a,c];dsimp only;rw[b];dsimp only
  by_cases d:r.t.state=4<;>cases e:r.t.loose<;>cases f:r.bL<;>cases g:r.t.aG<;>simp[d,e,f,g]
structure eh(N:Nat)(tb lC:List aF)(id:Int):Prop where
 ok:e0 N lC
 Ft:∀j,j≠id->eH lC j=eH tb j
theorem eh.refl(h:e0 N tb)(id:Int):eh N tb tb id:=⟨h,fun _ _=>rfl⟩
theorem eh.set(h:e0 N tb)(c:eH tb id=some r){r':aF}(d:r'.times=r.times)(b:r'.taken=true->r'.t.id=id)(k:aK r'.t.home)(m:aK r'.t.value):eh N tb (tb.set (id%64).toNat r') id/\eH (tb.set (id%64).toNat r') id=if r'.taken then some r' else none:=by
 obtain⟨a,n,o,g,j⟩:=h.at c;have f:=Cy c r' b;refine⟨⟨h.set ⟨by rw[d];exact a.t0,by rw[d];exact a.t1,fun e=> ?_,k,m⟩,f.1⟩,f.2⟩;rw[b e];exact⟨by omega,g,j⟩
theorem eh.trans{b:List aF}(h:eh N tb lC id)(k:eh N lC b id):eh N tb b id:=⟨k.ok,fun j a=>(k.Ft j a).trans (h.Ft j a)⟩
theorem bE:aK (0:Int):=⟨by decide,by decide⟩
theorem CA(h:e0 N tb)(id s:Int)(f:fU s=true):eh N tb (j4 tb id s).2 id/\(eH tb id=none->eH (j4 tb id s).2 id=none)/\
 ∀r,eH tb id=some r->∃r',eH (j4 tb id s).2 id=some r'/\((r.t.state=4/\r'=r)∨(r.t.state≠4/\r'.t.state=s)):=by
 rw[Er];cases c:eH tb id with
 |none=>dsimp only;exact⟨eh.refl h id,fun _=>c,fun r e=>by cases e⟩
 |some r=>
  dsimp only;by_cases b:r.t.state=4
  ·rw[if_neg (by rintro⟨_,e⟩;exact e b)]
   refine⟨eh.refl h id,(fun e=>by cases e),fun x d=> ?_⟩;have:r=x:=Option.some.inj d;subst this;exact⟨r,c,Or.inl ⟨b,rfl⟩⟩
  ·rw[if_pos ⟨f,b⟩]
   have a:=h.at c;have:=eh.set h c (r':={r with t:={r.t with state:=s}}) rfl (fun _=>a.2.2.1) a.1.home a.1.value;refine⟨this.1,(fun e=>by cases e),fun x d=> ?_⟩;have e:r=x:=Option.some.inj d;subst e;refine⟨_,by rw[this.2,if_pos a.2.1],Or.inr ⟨b,rfl⟩⟩
theorem sI(h:e0 N tb)(id v:Int)(g:aK v):eh N tb (gi tb id v).2 id/\(eH tb id=none->eH (gi tb id v).2 id=none)/\
 ∀r,eH tb id=some r->(r.t.state=4->r.t.aG=true)->∃r',eH (gi tb id v).2 id=some r'/\r'.t.state=4/\r'.t.aG=true:=by
 rw[Cz];cases b:eH tb id with
 |none=>dsimp only;exact⟨eh.refl h id,fun _=>b,fun r e=>by cases e⟩
 |some r=>
  dsimp only;by_cases a:r.t.state=4
  ·rw[if_neg (by intro e;exact e a)]
   refine⟨eh.refl h id,(fun e=>by cases e),fun x d f=> ?_⟩;have:r=x:=Option.some.inj d;subst this;exact⟨r,b,a,f a⟩
  ·rw[if_pos a]
   have c:=h.at b;have:=eh.set h b (r':={r with t:={r.t with state:=4,value:=v,aG:=true}}) rfl (fun _=>c.2.2.1) c.1.home g;refine⟨this.1,(fun e=>by cases e),fun x d _=> ?_⟩;exact⟨_,by rw[this.2,if_pos c.2.1],rfl,rfl⟩
theorem uF(h:e0 N tb)(id:Int):eh N tb (eN tb id).2 id/\
 ∀r,eH tb id=some r->r.t.state=4->∀r',eH (eN tb id).2 id=some r'->r'.t.state=4:=by
 rw[yh];cases d:eH tb id with
 |none=>dsimp only;exact⟨eh.refl h id,fun r e=>by cases e⟩
 |some r=>
  dsimp only;have b:=h.at d;split
  ·split
   ·have:=eh.set h d (r':=r.gone) rfl (fun e=>by cases e) bE bE
    refine⟨this.1,fun x f c r' a=> ?_⟩;rw[this.2,if_neg (by simp[aF.gone])]at a;cases a
   ·have:=eh.set h d (r':={r with t:={r.t with aG:=false}}) rfl (fun _=>b.2.2.1) b.1.home b.1.value
    refine⟨this.1,fun x f c r' a=> ?_⟩;rw[this.2,if_pos b.2.1]at a;rw[<-Option.some.inj a,Option.some.inj f];exact c
  ·refine⟨eh.refl h id,fun x f c r' a=> ?_⟩
   rw[d]at a;rw[<-Option.some.inj a,Option.some.inj f];exact c
def wq(tb lC:List aF)(id:Int):Prop:=(eH tb id=none->eH lC id=none)/\∀r,eH tb id=some r->(∃r',eH lC id=some r'/\r'.t.state=r.t.state/\r'.t.aG=r.t.aG)∨(eH lC id=none/\r.t.state=4/\r.t.aG=false)
theorem yi(h:e0 N tb)(id d:Int):eh N tb (hJ tb id d).2 id/\wq tb (hJ tb id d).2 id:=by
 rw[Aj];cases a:eH tb id with
 |none=>dsimp only;exact⟨eh.refl h id,fun _=>a,fun r e=>by rw[a]at e;cases e⟩
 |some r=>
  dsimp only;have c:=h.at a;split
  ·have:=eh.set h a (r':={r with t:={r.t with bH:=d}}) rfl (fun _=>c.2.2.1) c.1.home c.1.value
   refine⟨this.1,(fun e=>by rw[a]at e;cases e),fun x b=>Or.inl ?_⟩;rw[a]at b;exact⟨_,by rw[this.2,if_pos c.2.1],by rw[<-Option.some.inj b],by rw[<-Option.some.inj b]⟩
  ·exact⟨eh.refl h id,fun e=>e,fun x b=>Or.inl ⟨x,b,rfl,rfl⟩⟩
theorem uG(h:e0 N tb)(id:Int):eh N tb (e8 tb id).2 id/\wq tb (e8 tb id).2 id:=by
 rw[yg];cases a:eH tb id with
 |none=>dsimp only;exact⟨eh.refl h id,fun _=>a,fun r e=>by rw[a]at e;cases e⟩
 |some r=>
  dsimp only;have c:=h.at a;split
  ·split
   ·rename_i d
    have:=eh.set h a (r':=r.gone) rfl (fun e=>by cases e) bE bE;refine⟨this.1,(fun e=>by rw[a]at e;cases e),fun x b=>Or.inr ?_⟩;rw[a]at b;rw[<-Option.some.inj b];exact⟨by rw[this.2,if_neg (by simp[aF.gone])],d.1,d.2⟩
   ·have:=eh.set h a (r':={r with t:={r.t with loose:=true}}) rfl (fun _=>c.2.2.1) c.1.home c.1.value
    refine⟨this.1,(fun e=>by rw[a]at e;cases e),fun x b=>Or.inl ?_⟩;rw[a]at b;exact⟨_,by rw[this.2,if_pos c.2.1],by rw[<-Option.some.inj b],by rw[<-Option.some.inj b]⟩
  ·exact⟨eh.refl h id,fun e=>e,fun x b=>Or.inl ⟨x,b,rfl,rfl⟩⟩
theorem yj(h:e0 N tb)(id:Int):eh N tb (fy tb id).2.2.2.2 id/\wq tb (fy tb id).2.2.2.2 id/\aK (fy tb id).2.1:=by
 obtain⟨g,c,_⟩:=Ak tb id;have f:aK (fy tb id).2.1:=by
  rcases c with c|⟨r,a,c⟩
  ·rw[c];exact bE
  ·rw[c];exact(h.at a).1.value
 rw[g];cases a:eH tb id with
 |none=>dsimp only;exact⟨eh.refl h id,⟨fun _=>a,fun r e=>by rw[a]at e;cases e⟩,f⟩
 |some r=>
  dsimp only;have d:=h.at a;split
  ·rename_i j
   split
   ·have:=eh.set h a (r':={r with bL:=true}) rfl (fun _=>d.2.2.1) d.1.home d.1.value
    refine⟨this.1,⟨(fun e=>by rw[a]at e;cases e),fun x b=>Or.inl ?_⟩,f⟩;rw[a]at b;exact⟨_,by rw[this.2,if_pos d.2.1],by rw[<-Option.some.inj b],by rw[<-Option.some.inj b]⟩
   ·rename_i k
    have:=eh.set h a (r':=r.gone) rfl (fun e=>by cases e) bE bE;refine⟨this.1,⟨(fun e=>by rw[a]at e;cases e),fun x b=>Or.inr ?_⟩,f⟩;rw[a]at b;rw[<-Option.some.inj b];exact⟨by rw[this.2,if_neg (by simp[aF.gone])],j.1,by simpa using k⟩
  ·exact⟨eh.refl h id,⟨fun e=>e,fun x b=>Or.inl ⟨x,b,rfl,rfl⟩⟩,f⟩
theorem sJ{s:Int}:fU s=true↔s=1∨s=2∨s=3:=by unfold fU;simp[or_assoc]
theorem Core.same(c:Core N tb ai wk ring)(s:eh N tb lC id)(m:wq tb lC id):Core N lC ai wk ring:=by
 have q:(aw ai id).isSome=true->st lC id=st tb id:=fun u=>by
  obtain⟨t,n⟩:=Option.isSome_iff_exists.1 u;obtain⟨_,r,b,k⟩:=c.ai id t n;rcases m.2 r b with⟨r',d,a,_⟩|⟨_,a,f⟩
  ·unfold st;rw[d,b];exact a
  ·rw[k a]at f;cases f
 refine c.fW id s.ok s.Ft (fun _ _=>rfl) (fun _ _ _=>⟨Nat.le_refl _,Nat.le_refl _⟩) c.wk (fun r' h o=> ?_) (fun t n=>⟨(c.ai id t n).1,?_⟩) (c.one id) (fun g j=>⟨(c.sH id g j).1,?_⟩) (fun g j=> ?_)
 ·cases b:eH tb id with
  |none=>rw[m.1 b]at h;cases h
  |some r=>
   rcases m.2 r b with⟨v,d,a,_⟩|⟨d,_⟩
   ·rw[d]at h
    rw[<-Option.some.inj h,a]at o;exact c.al id r b o
   ·rw[d]at h;cases h
 ·obtain⟨_,r,b,k⟩:=c.ai id t n
  rcases m.2 r b with⟨r',d,a,f⟩|⟨_,a,f⟩
  ·exact⟨r',d,fun e=>by rw[f];exact k (by rw[<-a];exact e)⟩
  ·rw[k a]at f;cases f
 ·rw[q (c.sH id g j).1];exact(c.sH id g j).2
 ·rw[q (c.sH id g (by unfold ev;omega)).1];exact c.slt id g j
theorem Core.ended(c:Core N tb ai wk ring)(a:aw ai id=some t)(v:Int)(n:aK v):Core N (gi tb id v).2 ai wk ring:=by
 obtain⟨r,k,g,_⟩:=c.row a;obtain⟨b,_,f⟩:=sI c.cZ id v n;obtain⟨r',d,h,j⟩:=f r k g;have e:st (gi tb id v).2 id=4:=by unfold st;rw[d];exact h
 exact c.fW id b.ok b.Ft (fun _ _=>rfl) (fun _ _ _=>⟨Nat.le_refl _,Nat.le_refl _⟩) c.wk (fun _ _ _=>by rw[a];rfl) (fun u m=>⟨(c.ai id u m).1,r',d,fun _=>j⟩) (c.one id)
  (fun o q=>⟨by rw[a];rfl,by rw[e];decide⟩) (fun _ _=>by rw[e];decide)
theorem CB(h:wk[i]?=some x)(a:x.slot=id):0<iO wk id:=List.countP_pos_iff.2 ⟨x,List.mem_of_getElem? h,by simp[a]⟩
theorem CC(h:wk[i]?=some x)(a:x.hand=id):0<qR wk id:=List.countP_pos_iff.2 ⟨x,List.mem_of_getElem? h,by simp[a]⟩
theorem Core.k9(c:Core N tb ai wk ring)(h:wk[i]?=some x)(a:x.slot≠0):∃t,aw ai x.slot=some t:=Option.isSome_iff_exists.1 (c.sH _ a (by have:=CB h (id:=x.slot) rfl;unfold ev;omega)).1
theorem Core.qS(c:Core N tb ai wk ring)(h:wk[i]?=some x)(a:x.hand≠0):∃t,aw ai x.hand=some t:=Option.isSome_iff_exists.1 (c.sH _ a (by have:=CC h (id:=x.hand) rfl;unfold ev;omega)).1
theorem gz(ring:List Int)(id j:Int):oe (hG ring id).2 j<=oe ring j+(if id=j then 1 else 0)/\(j≠id->oe (hG ring id).2 j=oe ring j):=by
 unfold hG;split
 ·exact⟨Nat.le_add_right _ _,fun _=>rfl⟩
 ·unfold oe
  dsimp only;rw[List.countP_append,List.countP_cons,List.countP_nil];by_cases e:id=j
  ·subst e;simp
  ·have a:(id==j)=false:=by simpa using e
   simp[e,a]
theorem Core.move(c:Core N tb ai wk ring)(d:aw ai id=some t)(s:Int)(b:fU s=true)(C:∀x∈uE,hW x)
 (q:∀j,j≠id->j≠0->iO uE j<=iO wk j/\ev uE k8 j<=ev wk ring j) (m:ev uE k8 id<=1)
 (v:s=3->ev uE k8 id=0) (A:s=1->iO uE id=0):Core N (j4 tb id s).2 ai uE k8:=by
 obtain⟨r,z,o,_⟩:=c.row d;obtain⟨k,_,n⟩:=CA c.cZ id s b;obtain⟨r',f,a⟩:=n r z;have g:st (j4 tb id s).2 id=4∨st (j4 tb id s).2 id=s:=by
  unfold st;rw[f];rcases a with⟨a,rfl⟩|⟨_,a⟩
  ·exact Or.inl a
  ·exact Or.inr a
 refine c.fW id k.ok k.Ft (fun _ _=>rfl) q C (fun _ _ _=>by rw[d];rfl) (fun u B=>⟨(c.ai id u B).1,r',f,fun e=> ?_⟩) (fun _=>m) (fun _ w=>⟨by rw[d];rfl,?_⟩) (fun _ w=> ?_)
 ·rcases a with⟨a,rfl⟩|⟨_,a⟩
  ·exact o a
  ·rw[a]at e;rw[e]at b;exact absurd b (by decide)
 ·rcases g with h|h<;>rw[h]
  ·decide
  ·intro e;have:=v e;omega
 ·rcases g with h|h<;>rw[h]
  ·decide
  ·intro e;have:=A e;omega
end
end
section
variable{id:Int}{t:Thread}{i:Nat}{x y:aC}
section
variable{N N':Nat}{tb lC:List aF}{ai yf:List (Int×Thread)}{wk uE:List aC}{ring k8:List Int}
theorem Core.GF(c:Core N tb ai wk ring)(a:aw ai id=some t):id≠0:=by
 obtain⟨_,_,_,h,_⟩:=c.row a;omega
theorem iP{a b:Int}:(if(a==b)=true then 1 else 0:Nat)=if a=b then 1 else 0:=by simp
theorem Core.k'(c:Core N tb ai wk ring)(k:wk[i]?=some x)(f:x.slot≠0)(r:hW y)(p:y.slot=0)(n:y.hand=x.hand):
 Core N (j4 tb x.slot 1).2 ai (wk.set i y) (hG ring x.slot).2:=by
 obtain⟨t,q⟩:=c.k9 k f;have l:=c.one _ f;have g:=fun j=>e1 (y:=y) k j
 have h:=fun j=>e2 (y:=y) k j
 simp only[iP,p,n]at g h;refine c.move q 1 (by decide) (hX c.wk r) (fun j m o=> ?_) ?_ (fun e=>absurd e (by decide)) (fun _=> ?_)
 ·have a:=g j;have b:=h j;have d:=(gz ring x.slot j).2 m
  rw[if_neg (Ne.symm m),if_neg (Ne.symm o)]at a;unfold ev;omega
 ·have a:=g x.slot;have b:=h x.slot;have d:=(gz ring x.slot x.slot).1
  rw[if_pos rfl,if_neg (Ne.symm f)]at a;rw[if_pos rfl]at d;unfold ev at l⊢;omega
 ·have a:=g x.slot
  rw[if_pos rfl,if_neg (Ne.symm f)]at a;unfold ev at l;omega
theorem Core.l2(c:Core N tb ai wk ring)(h:wk[i]?=some x)(d:x.slot≠0)(q:hW y)(o:y.slot=0)(l:y.hand=x.hand):
 Core N (j4 tb x.slot 3).2 ai (wk.set i y) ring:=by
 obtain⟨t,p⟩:=c.k9 h d;have k:=c.one _ d;have g:=fun j=>e1 (y:=y) h j
 have f:=fun j=>e2 (y:=y) h j
 simp only[iP,o,l]at g f;have r:ev (wk.set i y) ring x.slot=0:=by
  have a:=g x.slot;have b:=f x.slot;rw[if_pos rfl,if_neg (Ne.symm d)]at a;unfold ev at k⊢;omega
 refine c.move p 3 (by decide) (hX c.wk q) (fun j m n=> ?_) (by omega) (fun _=>r) (fun e=>absurd e (by decide));have a:=g j;have b:=f j;rw[if_neg (Ne.symm m),if_neg (Ne.symm n)]at a;unfold ev;omega
theorem Core.oh(c:Core N tb ai wk ring)(k:wk[i]?=some x)(f:x.hand≠0)(r:hW y)(p:y.slot=x.slot)(n:y.hand=0):
 Core N (j4 tb x.hand 1).2 ai (wk.set i y) (hG ring x.hand).2:=by
 obtain⟨t,q⟩:=c.qS k f;have l:=c.one _ f;have h:=fun j=>e1 (y:=y) k j
 have g:=fun j=>e2 (y:=y) k j
 simp only[iP,p,n]at h g;refine c.move q 1 (by decide) (hX c.wk r) (fun j m o=> ?_) ?_ (fun e=>absurd e (by decide)) (fun _=> ?_)
 ·have a:=h j;have b:=g j;have d:=(gz ring x.hand j).2 m
  rw[if_neg (Ne.symm m),if_neg (Ne.symm o)]at b;unfold ev;omega
 ·have a:=h x.hand;have b:=g x.hand;have d:=(gz ring x.hand x.hand).1
  rw[if_pos rfl,if_neg (Ne.symm f)]at b;rw[if_pos rfl]at d;unfold ev at l⊢;omega
 ·have a:=h x.hand;have b:=g x.hand
  rw[if_pos rfl,if_neg (Ne.symm f)]at b;unfold ev at l;omega
theorem Core.Al(c:Core N tb ai wk ring)(h:wk[i]?=some x)(d:x.hand≠0)(q:x.slot=0)(r:hW y)(o:y.slot=x.hand)(n:y.hand=0):
 Core N (j4 tb x.hand 2).2 ai (wk.set i y) ring:=by
 obtain⟨t,p⟩:=c.qS h d;have m:=c.one _ d;have g:=fun j=>e1 (y:=y) h j
 have f:=fun j=>e2 (y:=y) h j
 simp only[iP,o,n,q]at g f;refine c.move p 2 (by decide) (hX c.wk r) (fun j k l=> ?_) ?_ (fun e=>absurd e (by decide)) (fun e=>absurd e (by decide))
 ·have a:=g j;have b:=f j
  rw[if_neg (Ne.symm k),if_neg (Ne.symm l)]at a;rw[if_neg (Ne.symm k),if_neg (Ne.symm l)]at b;unfold ev;omega
 ·have a:=g x.hand;have b:=f x.hand
  rw[if_pos rfl,if_neg (Ne.symm d)]at a;rw[if_pos rfl,if_neg (Ne.symm d)]at b;unfold ev at m⊢;omega
theorem Core.Es(c:Core N tb ai wk ring)(g:aw ai id=some t)(k:ev wk ring id=0)(h:wk[i]?=some x)(l:x.hand=0)(r:hW y)(q:y.slot=x.slot)(m:y.hand=id):
 Core N (j4 tb id 1).2 ai (wk.set i y) ring:=by
 have d:=fun j=>e1 (y:=y) h j
 have f:=fun j=>e2 (y:=y) h j
 simp only[iP,q,m,l]at d f;have n:=c.GF g;refine c.move g 1 (by decide) (hX c.wk r) (fun j o p=> ?_) ?_ (fun e=>absurd e (by decide)) (fun _=> ?_)
 ·have a:=d j;have b:=f j
  rw[if_neg (Ne.symm o),if_neg (Ne.symm p)]at b;unfold ev;omega
 ·have a:=d id;have b:=f id
  rw[if_pos rfl,if_neg (Ne.symm n)]at b;unfold ev at k⊢;omega
 ·have a:=d id
  unfold ev at k;omega
theorem Core.toRing(c:Core N tb ai wk ring)(f:aw ai id=some t)(a:ev wk ring id=0):Core N (j4 tb id 1).2 ai wk (hG ring id).2:=by
 refine c.move f 1 (by decide) c.wk (fun j b g=> ?_) ?_ (fun e=>absurd e (by decide)) (fun _=> ?_)
 ·have d:=(gz ring id j).2 b
  unfold ev;omega
 ·have d:=(gz ring id id).1
  rw[if_pos rfl]at d;unfold ev at a⊢;omega
 ·unfold ev at a;omega
theorem Core.Am(c:Core N tb ai wk ring)(h:st tb id=3):(∃t,aw ai id=some t)/\ev wk ring id=0:=by
 have d:(aw ai id).isSome=true:=by
  unfold st at h;cases a:eH tb id with
  |none=>rw[a]at h;cases h
  |some r=>rw[a]at h;exact c.al id r a (sJ.2 (Or.inr (Or.inr h)))
 obtain⟨t,b⟩:=Option.isSome_iff_exists.1 d;refine⟨⟨t,b⟩,?_⟩;exact Nat.eq_zero_of_not_pos fun e=>(c.sH id (c.GF b) e).2 h
theorem Core.CD(c:Core N tb ai wk ring)(h:st tb id=1)(l:∀x∈wk,x.hand≠id)(m:id∉ring):(∃t,aw ai id=some t)/\ev wk ring id=0:=by
 have n:(aw ai id).isSome=true:=by
  unfold st at h;cases f:eH tb id with
  |none=>rw[f]at h;cases h
  |some r=>rw[f]at h;exact c.al id r f (sJ.2 (Or.inl h))
 obtain⟨t,j⟩:=Option.isSome_iff_exists.1 n;refine⟨⟨t,j⟩,?_⟩;have a:iO wk id=0:=Nat.eq_zero_of_not_pos fun o=>c.slt id (c.GF j) o h
 have b:qR wk id=0:=List.countP_eq_zero.2 fun x g=>by simpa using l x g
 have d:oe ring id=0:=List.countP_eq_zero.2 fun x g e=>m (by
  have k:x=id:=by simpa using e
  rw[<-k];exact g)
 unfold ev;omega
theorem Core.take(c:Core N tb ai wk ring)(h:st tb id=1)(m:∀x∈wk,x.hand≠id)(n:id∉ring)(g:wk[i]?=some x)(l:x.hand=0)(u:hW y)(s:y.slot=x.slot)(o:y.hand=id):
 Core N tb ai (wk.set i y) ring:=by
 obtain⟨⟨t,f⟩,k⟩:=c.CD h m n;have d:=fun j=>e1 (y:=y) g j
 have e:=fun j=>e2 (y:=y) g j
 simp only[iP,s,o,l]at d e;have p:=c.GF f;refine c.fW id c.cZ (fun _ _=>rfl) (fun _ _=>rfl) (fun j q r=> ?_) (hX c.wk u) (fun _ _ _=>by rw[f];rfl) (c.ai id) (fun _=> ?_) (fun _ _=>⟨by rw[f];rfl,by rw[h];decide⟩) (fun _ v=> ?_)
 ·have a:=d j;have b:=e j
  rw[if_neg (Ne.symm q),if_neg (Ne.symm r)]at b;unfold ev;omega
 ·have a:=d id;have b:=e id
  rw[if_pos rfl,if_neg (Ne.symm p)]at b;unfold ev at k⊢;omega
 ·have a:=d id
  unfold ev at k;omega
theorem Core.An(c:Core N tb ai wk ring)(m:wk[i]?=some x)(n:x.hand=0)(q:hW y)(p:y.slot=x.slot)(l:y.hand=(gS ring).1):
 Core N tb ai (wk.set i y) (gS ring).2.2:=by
 cases ring with
 |nil=>exact c.bj m p (by rw[l,n];rfl) q
 |cons id ring=>
  change y.hand=id at l;show Core N tb ai (wk.set i y) ring
  have g:=fun j=>e1 (y:=y) m j
  have h:=fun j=>e2 (y:=y) m j
  simp only[iP,p,l,n]at g h;have k:∀j,oe (id::ring) j=oe ring j+if id=j then 1 else 0:=fun j=>by
   unfold oe;rw[List.countP_cons];simp
  refine c.fW id c.cZ (fun _ _=>rfl) (fun _ _=>rfl) (fun j o r=> ?_) (hX c.wk q) (c.al id) (c.ai id) (fun f=> ?_) (fun f s=>c.sH id f ?_) (fun f s=>c.slt id f ?_)
  ·have a:=g j;have b:=h j;have d:=k j
   rw[if_neg (Ne.symm o),if_neg (Ne.symm r)]at b;rw[if_neg (Ne.symm o)]at d;unfold ev;omega
  ·have a:=g id;have b:=h id;have d:=k id;have e:=c.one id f
   rw[if_pos rfl,if_neg (Ne.symm f)]at b;rw[if_pos rfl]at d;unfold ev at e⊢;omega
  ·have d:=k id
   rw[if_pos rfl]at d;unfold ev;omega
  ·have a:=g id
   omega
theorem Core.gone(c:Core N tb ai wk ring)(k:wk[i]?=some x)(e:x.slot≠0)(C:hW y)(B:y.slot=0)(q:y.hand=x.hand)(u:gn ai):
 Core N (eN (gi tb x.slot 0).2 x.slot).2 (fs ai x.slot) (wk.set i y) ring:=by
 obtain⟨t,d⟩:=c.k9 k e;obtain⟨r,w,p,_⟩:=c.row d;obtain⟨u1,_,u3⟩:=sI c.cZ x.slot 0 bE;obtain⟨E,A,n,F⟩:=u3 r w p;obtain⟨u4,u5⟩:=uF u1.ok x.slot;have g:=fun j=>e1 (y:=y) k j
 have f:=fun j=>e2 (y:=y) k j
 simp only[iP,B,q]at g f;have o:=c.one _ e;have D:ev (wk.set i y) ring x.slot=0:=by
  have a:=g x.slot;have b:=f x.slot;rw[if_pos rfl,if_neg (Ne.symm e)]at a;unfold ev at o⊢;omega
 have hd:=(u.del x.slot).2;have m:=u1.trans u4;refine c.fW x.slot m.ok m.Ft (fun j h=>gm _ _ _ h) (fun j h s=> ?_) (hX c.wk C) (fun r' z l=> ?_) (fun t d=>by rw[hd]at d;cases d) (fun _=>by omega) (fun _ v=>by omega) (fun _ v=>by unfold ev at D;omega)
 ·have a:=g j;have b:=f j
  rw[if_neg (Ne.symm h),if_neg (Ne.symm s)]at a;unfold ev;omega
 ·rw[u5 E A n r' z]at l;exact absurd l (by decide)
theorem oi:∀(l:List aF) (k p:Nat),iY l k=some p->k<=p/\∃r,l[p-k]?=some r/\r.taken=false
 |[],_,_,h=>by cases h
 |r::l,k,p,h=>by
  unfold iY at h;split at h
  ·obtain⟨d,r',a,b⟩:=oi l (k+1) p h
   refine⟨by omega,r',?_,b⟩;rw[show p-k=(p-(k+1))+1 by omega,List.getElem?_cons_succ];exact a
  ·rename_i c
   have:k=p:=Option.some.inj h;subst this;exact⟨Nat.le_refl _,r,by rw[Nat.sub_self];rfl,by simpa using c⟩
theorem Core.born(c:Core N tb ai wk ring)(I:N<=1000000)(home:Int)(B:aK home){lC:List aF}(hb:dh tb home=(some id,lC))(G:od id t):
 aw ai id=none/\Core (N+1) lC (cn ai id t) wk ring/\ev wk ring id=0/\64<=id/\id<=64*(N+1)+63/\st lC id=1:=by
 unfold dh at hb;cases g:iY tb 0 with
 |none=>rw[g]at hb;cases hb
 |some p=>
  obtain⟨_,r,a,v⟩:=oi tb 0 p g;rw[Nat.sub_zero]at a;rw[g]at hb;dsimp only at hb;rw[a]at hb;dsimp only at hb;have q:=c.cZ.row p r a;have b:p<64:=by have:=(List.getElem?_eq_some_iff.1 a).1;rw[c.cZ.len]at this;exact this
  have m:p<tb.length:=(List.getElem?_eq_some_iff.1 a).1;have t0:=q.t0;have t1:=q.t1;have w1:IntKind.u64.wrap (r.times+1)=r.times+1:=by unfold IntKind.wrap IntKind.bits IntKind.signed;simp;omega
  have w2:IntKind.u64.wrap (64*(r.times+1))=64*(r.times+1):=by unfold IntKind.wrap IntKind.bits IntKind.signed;simp;omega
  have H:IntKind.u64.wrap ((p:Int)+64*(r.times+1))=(p:Int)+64*(r.times+1):=by unfold IntKind.wrap IntKind.bits IntKind.signed;simp;omega
  rw[w1,w2,H]at hb;injection hb with d f
  injection d with d
  have hid:id%64=p:=by omega
  have l:(id%64).toNat=p:=by omega
  have D:eH tb id=none:=by
   unfold eH;rw[l,a];simp[v]
  have n:aw ai id=none:=by
   cases C:aw ai id with
   |none=>rfl
   |some u=>obtain⟨_,r',k,_⟩:=c.ai id u C;rw[D]at k;cases k
  have z:ev wk ring id=0:=by
   have:=(fun b=>(c.sH id (by omega) b).1);rw[n]at this;have:¬0<ev wk ring id:=(fun b=>by cases this b);omega
  have A:e0 (N+1) lC:=by
   rw[<-f];refine e0.set (c.cZ.more (Nat.le_succ _)) ⟨?_,?_,fun _=> ?_,B,bE⟩
   ·show 0<=r.times+1;omega
   ·show r.times+1<=((N+1:Nat):Int);omega
   ·show((p:Int)+64*(r.times+1))%64=p/\64<=(p:Int)+64*(r.times+1)/\(p:Int)+64*(r.times+1)<=64*((N+1:Nat):Int)+63
    omega
  have E:∃r',eH lC id=some r'/\r'.t.state=1:=by
   rw[<-f,nj m,if_pos l];exact⟨_,if_pos (by simp[d]),rfl⟩
  have F:∀j,j≠id->eH lC j=eH tb j:=fun j h=>by
   rw[<-f,nj m];split
   ·rename_i e
    rw[if_neg (by simp[d,Ne.symm h])];unfold eH;rw[e,a];simp[v]
   ·rfl
  obtain⟨r',o,s⟩:=E;refine⟨n,?_,z,by omega,by omega,by unfold st;rw[o];exact s⟩;refine c.fW id A F (fun j h=>by rw[aV,if_neg h]) (fun _ _ _=>⟨Nat.le_refl _,Nat.le_refl _⟩) c.wk (fun _ _ _=>by rw[aV,if_pos rfl];rfl)
   (fun u w=>by
    rw[aV,if_pos rfl]at w;rw[<-Option.some.inj w];exact⟨G,r',o,fun e=>by rw[s]at e;cases e⟩)
   (fun _=>by omega) (fun _ b=>by omega) (fun _ b=>by unfold ev at z;omega)
end
end
section
variable{N' i:Nat}{id:Int}{s:fQ}{S:ah}{f:cP}{t:Thread}{c:cJ}
def oj(N:Nat)(q:List (List fQ)):Prop:=(∀s∈q.flatten,aK s.id)/\q.flatten.length<=N
section
variable{N:Nat}{q:List (List fQ)}
theorem oj.more(h:oj N q)(a:N<=N'):oj N' q:=⟨h.1,Nat.le_trans h.2 a⟩
theorem oj.find(h:oj N q)(a:gq q id=some s):aK s.id:=h.1 s (List.mem_of_find?_eq_some a)
theorem kl(q:List (List fQ))(id:Int):(dw q id).2.flatten=q.flatten.filter fun s=>s.id !=id:=by
 unfold dw;split
 ·rename_i a
  rw[List.filter_eq_self.2];intro s b;have:=List.find?_eq_none.1 a s b;simpa using this
 ·rw[List.filter_flatten]
theorem oj.drop(h:oj N q)(id:Int):oj N (dw q id).2:=
 ⟨fun s a=>h.1 s (by rw[kl]at a;exact(List.mem_filter.1 a).1),by rw[kl];exact Nat.le_trans (List.length_filter_le _ _) h.2⟩
theorem om(s:fQ):∀(q:List (List fQ)) (k:Nat),(q.modify k (·++[s])).flatten.length<=q.flatten.length+1
 |[],k=>by cases k<;>simp
 |l::q,0=>by simp;omega
 |l::q,k+1=>by
  have:=om s q k;rw[List.modify_succ_cons,List.flatten_cons,List.flatten_cons,List.length_append,List.length_append];omega
theorem oj.link(h:oj N q)(s:fQ)(o:aK s.id):oj (N+1) (pB q s):=by
 refine⟨?_,Nat.le_trans (om _ _ _) (Nat.succ_le_succ h.2)⟩;intro x p;obtain⟨l,n,b⟩:=List.mem_flatten.1 p;obtain⟨k,a⟩:=List.getElem?_of_mem n;unfold pB at a;rw[List.getElem?_modify]at a;cases g:q[k]? with
 |none=>rw[g]at a;cases a
 |some d=>
  rw[g]at a;have m:(if(bg s.ad 8).toNat=k then d++[s]else d)=l:=by simpa using a
  have j:∀y∈d,aK y.id:=fun y r=>h.1 y (List.mem_flatten.2 ⟨d,List.mem_of_getElem? g,r⟩)
  rw[<-m]at b;split at b
  ·rcases List.mem_append.1 b with e|e
   ·exact j x e
   ·rw[List.mem_singleton.1 e];exact o
  ·exact j x b
theorem oo{d mask:Int}{each:Bool}(e:lN q d mask each=some s):s∈q.flatten:=by
 have a:=List.mem_of_find?_eq_some e;rw[List.getD_eq_getElem?_getD]at a;cases b:q[(bg d 8).toNat]? with
 |none=>rw[b]at a;cases a
 |some l=>rw[b]at a;exact List.mem_flatten.2 ⟨l,List.mem_of_getElem? b,a⟩
theorem oj.put(h:oj N q)(id a mask:Int)(hid:aK id):oj (N+1) (kM q id a mask).2:=by
 unfold kM;split
 ·exact h.more (Nat.le_succ _)
 ·split
  ·exact h.more (Nat.le_succ _)
  ·exact h.link _ hid
theorem oj.take(h:oj N q)(a mask:Int):oj N (eJ q a mask).2.2/\aK (eJ q a mask).1:=by
 unfold eJ;split
 ·exact⟨h,bE⟩
 ·rename_i s b;exact⟨h.drop _,h.1 s (oo b)⟩
theorem oj.move(h:oj N q)(fr tt:Int):oj N (ij q fr tt).2.2/\aK (ij q fr tt).1:=by
 unfold ij;split
 ·exact⟨h,bE⟩
 ·rename_i s b
  have a:=oo b;have d:(q.flatten.filter fun x=>x.id !=s.id).length<q.flatten.length:=by
   rw[List.length_filter_lt_length_iff_exists];exact⟨s,a,by simp⟩
  have hd:oj (N-1) (dw q s.id).2:=⟨(h.drop _).1,by rw[kl];have:=h.2;omega⟩;exact⟨(hd.link {s with ad:=tt} (h.1 s a)).more (by have:=h.2;omega),h.1 s a⟩
end
section
variable{P:ba->Prop}
theorem la(h:∀x∈S.l,P x)(i:Nat){t:ba}(b:P t):∀x∈(S.lay i t).l,P x:=fun x d=>by
 rcases List.mem_or_eq_of_mem_set (show x∈S.l.set i t from d)with a|rfl
 ·exact h x a
 ·exact b
theorem sK:∀(f:Nat) (S:ah) (i:Nat) (t:ba),(∀x∈S.l,P x)->(∀x∈(gZ f S i t).1.l,P x)/\(gZ f S i t).1.l.length=S.l.length
 |0,S,i,t,h=>⟨h,rfl⟩
 |f+1,S,i,t,h=>by
  unfold gZ;split
  ·exact⟨h,rfl⟩
  ·split
   ·exact⟨h,rfl⟩
   ·rename_i p a
    split
    ·have:=sK f (S.lay i p) ((i-1)/2) t (la h i (h p (List.mem_of_getElem? a)))
     exact⟨this.1,this.2.trans (S.b7 i p)⟩
    ·exact⟨h,rfl⟩
theorem oq:∀(f:Nat) (S:ah) (i:Nat) (t:ba),(∀x∈S.l,P x)->(∀x∈(bU f S i t).1.l,P x)/\(bU f S i t).1.l.length=S.l.length
 |0,S,i,t,h=>⟨h,rfl⟩
 |f+1,S,i,t,h=>by
  unfold bU;split
  ·exact⟨h,rfl⟩
  ·split
   ·exact⟨h,rfl⟩
   ·rename_i c _ _ x a
    split
    ·have:=oq f (S.lay i x) (jZ S i c) t (la h i (h x (List.mem_of_getElem? a)))
     exact⟨this.1,this.2.trans (S.b7 i x)⟩
    ·exact⟨h,rfl⟩
theorem Ao(h:∀x∈S.l,P x)(i:Nat):(∀x∈(S.up i).l,P x)/\(S.up i).l.length=S.l.length:=by
 unfold ah.up;split
 ·exact⟨h,rfl⟩
 ·rename_i t a
  have:=sK (i+1) S i t h;exact⟨la this.1 _ (h t (List.mem_of_getElem? a)),((gZ (i+1) S i t).1.b7 _ t).trans this.2⟩
theorem Ap(h:∀x∈S.l,P x)(i:Nat):(∀x∈(S.down i).l,P x)/\(S.down i).l.length=S.l.length:=by
 unfold ah.down;split
 ·exact⟨h,rfl⟩
 ·rename_i t a
  have:=oq (S.l.length+1) S i t h;exact⟨la this.1 _ (h t (List.mem_of_getElem? a)),((bU (S.l.length+1) S i t).1.b7 _ t).trans this.2⟩
theorem CE(h:∀x∈S.l,P x)(d a:Int)(e:∀n,P ⟨d,a,n⟩):(∀x∈(S.put d a).2.l,P x)/\(S.put d a).2.l.length=S.l.length+1:=by
 unfold ah.put;have:=Ao (P:=P) (S:={S with last:=wrap64 (S.last+1),l:=S.l++[⟨d,a,wrap64 (S.last+1)⟩]}) (fun x g=>by
  rcases List.mem_append.1 g with b|b
  ·exact h x b
  ·rw[List.mem_singleton.1 b];exact e _) S.l.length
 exact⟨this.1,this.2.trans (by simp)⟩
theorem CF(h:∀x∈S.l,P x)(k:Int):(∀x∈(S.cut k).l,P x)/\(S.cut k).l.length<=S.l.length:=⟨fun x a=>h x (List.mem_of_mem_take a),by unfold ah.cut;simp⟩
theorem sL(h:∀x∈S.l,P x)(k:Int):(∀x∈(S.drop k).2.2.l,P x)/\(S.drop k).2.2.l.length<=S.l.length/\((S.drop k).2.1=true->∃x∈S.l,(S.drop k).1=x.bY):=by
 unfold ah.drop;cases j:aw S.at_ k with
 |none=>exact⟨h,Nat.le_refl _,fun e=>by cases e⟩
 |some i=>
  dsimp only;cases a:S.l[i.toNat]? with
  |none=>exact⟨h,Nat.le_refl _,fun e=>by cases e⟩
  |some t=>
   cases b:S.l[S.l.length-1]? with
   |none=>exact⟨h,Nat.le_refl _,fun e=>by cases e⟩
   |some last=>
    dsimp only;have c:=CF h k;split
    ·have g:=la c.1 i.toNat (h last (List.mem_of_getElem? b))
     have u:=Ao g i.toNat;have d:=Ap u.1 ((aw (((S.cut k).lay i.toNat last).up i.toNat).at_ last.h).getD 0).toNat;refine⟨d.1,?_,fun _=>⟨t,List.mem_of_getElem? a,rfl⟩⟩;dsimp only;rw[d.2,u.2,ah.b7];exact c.2
    ·exact⟨c.1,c.2,fun _=>⟨t,List.mem_of_getElem? a,rfl⟩⟩
theorem CG(h:∀x∈S.l,P x)(now:Int):(∀x∈(S.pop now).2.2.l,P x)/\(S.pop now).2.2.l.length<=S.l.length/\((S.pop now).2.1=true->∃x∈S.l,(S.pop now).1=x.bY):=by
 unfold ah.pop;split
 ·rename_i b;exact⟨fun x a=>h x a,Nat.le_refl _,fun e=>by cases e⟩
 ·split
  ·exact⟨fun x a=>h x a,Nat.le_refl _,fun e=>by cases e⟩
  ·exact sL h _
end
structure fS(N:Nat)(S:aN):Prop where
 wf:S.heap.WF
 len:S.heap.l.length<=N
 bY:∀t∈S.heap.l,aK t.bY
 now:aK S.now
theorem fS.more{N:Nat}{S:aN}(h:fS N S)(a:N<=N'):fS N' S:=⟨h.wf,Nat.le_trans h.len a,h.bY,h.now⟩
theorem fS.ok{N:Nat}{S:aN}(h:fS N S)(a:N<=900000):S.Ok:=⟨h.wf,Nat.le_trans h.len a⟩
theorem fS.bp{N:Nat}{S:aN}(h:fS N S)(id:Int):fS N (S.bp id).2:=by
 unfold aN.bp;split
 ·exact h
 ·rename_i x _
  have:=sL h.bY x.1;exact⟨h.wf.drop _,Nat.le_trans this.2.1 h.len,this.1,h.now⟩
theorem fS.arm{N:Nat}{S:aN}(h:fS N S)(id dl:Int)(hid:aK id):fS (N+1) (S.arm id dl).2:=by
 unfold aN.arm;split
 ·exact h.more (Nat.le_succ _)
 ·split
  ·exact h.more (Nat.le_succ _)
  ·split
   ·have:=CE h.bY dl id (fun _=>hid)
    exact⟨h.wf.put _ _,by rw[this.2];have:=h.len;omega,this.1,h.now⟩
   ·exact h.more (Nat.le_succ _)
theorem pN{N:Nat}:∀(f:Nat) (S:aN) (acc:List Int),fS N S->(∀x∈acc,aK x)->fS N (ej f S acc).1/\(∀x∈(ej f S acc).2,aK x)/\(ej f S acc).2.length<=acc.length+f
 |0,S,acc,h,a=>⟨h,a,Nat.le_refl _⟩
 |f+1,S,acc,h,a=>by
  unfold ej;split
  ·rename_i g
   have p:=CG h.bY S.now;have j:aK (S.heap.pop S.now).1:=(by obtain⟨x,d,e⟩:=p.2.2 g;rw[e];exact h.bY x d);have:=pN (N:=N) f {S with heap:=(S.heap.pop S.now).2.2,fl:=fs S.fl (S.heap.pop S.now).1} (acc++[(S.heap.pop S.now).1]) ⟨h.wf.pop _,Nat.le_trans p.2.1 h.len,p.1,h.now⟩ (fun x d=>by
    rcases List.mem_append.1 d with b|b
    ·exact a x b
    ·rw[List.mem_singleton.1 b];exact j)
   refine⟨this.1,this.2.1,Nat.le_trans this.2.2 ?_⟩;rw[List.length_append,List.length_singleton];omega
  ·exact⟨h,a,by show acc.length<=acc.length+(f+1);omega⟩
theorem fS.tick{N:Nat}{S:aN}(h:fS N S):fS N S.tick.1/\(∀x∈S.tick.2,aK x)/\S.tick.2.length<=N+1:=by
 unfold aN.tick;have:=pN (N:=N) (S.heap.l.length+1) {S with now:=IntKind.u64.wrap (S.now+1)} [] ⟨h.wf,h.len,h.bY,bO _⟩ (fun x a=>by cases a);refine⟨this.1,this.2.1,Nat.le_trans this.2.2 ?_⟩;have:=h.len
 simp;omega
structure b8(M:aI):Prop where
 u:∀x∈M.cells,aK x
 qg:M.cells.length<=65536
theorem b8.set{M:aI}(h:b8 M)(i:Nat)(v:Int)(b:aK v):b8 {M with cells:=M.cells.set i v}:=
 ⟨fun x d=>by
  rcases List.mem_or_eq_of_mem_set (show x∈M.cells.set i v from d)with a|rfl
  ·exact h.u x a
  ·exact b,by show(M.cells.set i v).length<=65536;rw[List.length_set];exact h.qg⟩
theorem b8.get{M:aI}(h:b8 M)(i:Nat):aK (M.cells.getD i 0):=by
 rw[List.getD_eq_getElem?_getD];cases a:M.cells[i]? with
 |none=>exact bE
 |some x=>exact h.u x (List.mem_of_getElem? a)
theorem b8.acc{M:aI}(h:b8 M)(kind a d v:Int)(b:aK v):b8 (M.acc kind a d v).2/\∀x,(M.acc kind a d v).1=some x->aK x:=by
 unfold aI.acc;dsimp only;have g:∀x,some (M.cells.getD a.toNat 0)=some x->aK x:=fun x e=>by rw[<-Option.some.inj e];exact h.get _
 split
 ·exact⟨h,fun x e=>by cases e⟩
 ·split
  ·exact⟨h.set _ _ (m9 _ _ _),g⟩
  ·split
   ·split
    ·exact⟨h.set _ _ (iF _ _ b),g⟩
    ·exact⟨h,g⟩
   ·split
    ·exact⟨h.set _ _ (iF _ _ b),g⟩
    ·exact⟨h,g⟩
theorem sM{P:Int->Prop}{l:List Int}(h:∀x∈l,P x)(a:Nat){v:Int}(b:P v):∀k,∀x∈ax l a v k,P x
 |0=>h
 |k+1=>fun x e=>by
  rcases List.mem_or_eq_of_mem_set (show x∈(ax l a v k).set (a+k) v from e)with d|rfl
  ·exact sM h a b k x d
  ·exact b
theorem b8.laid{M:aI}(h:b8 M)(a n:Nat)(b:Int):b8 (M.laid a n b):=
 ⟨sM h.u a bE n,by show(ax M.cells a 0 n).length<=65536;rw[dt];exact h.qg⟩
theorem b8.map{M:aI}(h:b8 M)(a n:Nat)(b:Int):b8 (M.map a n b).2:=by
 unfold aI.map;split
 ·exact h.laid _ _ _
 ·exact h
theorem b8.gj{M:aI}(h:b8 M)(a n:Nat):b8 (M.gj a n).2:=by
 unfold aI.gj;split
 ·exact h.laid _ _ _
 ·exact h
structure js(N:Nat)(S:a8):Prop where
 from_:S.from_<=70000
 y9:S.y9<=70000
 l:∀x∈S.l,x.at_+x.n<=65536
 len:S.l.length<=N
theorem js.more{N:Nat}{S:a8}(h:js N S)(a:N<=N'):js N' S:=⟨h.from_,h.y9,h.l,Nat.le_trans h.len a⟩
theorem js.ok{N:Nat}{S:a8}(h:js N S)(a:N<=900000):S.Ok:=⟨h.from_,h.y9,fun x b=>by have:=h.l x b;omega,Nat.le_trans h.len a⟩
theorem nk{N:Nat}{S:a8}{M:aI}(h:js N S)(d:b8 M)(n:Nat):js (N+1) (df S M n).2.1/\b8 (df S M n).2.2/\∀a,(df S M n).1=some a->aK (a:Int):=by
 unfold df;split
 ·exact⟨h.more (Nat.le_succ _),d,fun a e=>by cases e⟩
 ·split
  ·exact⟨h.more (Nat.le_succ _),d,fun a e=>by cases e⟩
  ·rename_i i k
   split
   ·rename_i g
    have l:S.ek i+n<=M.cells.length:=by
     unfold aI.map at g;split at g
     ·rename_i j;exact(jN j.2).1
     ·cases g
    have hb:=d.qg;refine⟨⟨h.from_,h.y9,fun x b=> ?_,?_⟩,d.map _ _ _,fun a e=> ?_⟩
    ·rcases List.mem_append.1 b with b|b
     ·rcases List.mem_append.1 b with b|b
      ·exact h.l x (List.mem_of_mem_take b)
      ·rw[List.mem_singleton.1 b];show S.ek i+n<=65536;omega
     ·exact h.l x (List.mem_of_mem_drop b)
    ·have:=h.len
     simp only[List.length_append,List.length_take,List.length_drop,List.length_singleton];omega
    ·have:S.ek i=a:=Option.some.inj e
     exact⟨by omega,by omega⟩
   ·exact⟨h.more (Nat.le_succ _),d,fun a e=>by cases e⟩
theorem CH{N:Nat}{S:a8}{M:aI}(h:js N S)(b:b8 M)(a:Int):js N (m1 S M a).2.1/\b8 (m1 S M a).2.2:=by
 unfold m1;split
 ·exact⟨h,b⟩
 ·split
  ·exact⟨h,b⟩
  ·refine⟨⟨h.from_,h.y9,fun x d=>h.l x (List.mem_of_mem_eraseIdx d),?_⟩,b.gj _ _⟩
   exact Nat.le_trans (List.length_eraseIdx_le _ _) h.len
def ir(l:List bq):Prop:=∀r∈l,aK r.addr
theorem ir.set{l:List bq}(h:ir l)(p:Nat)(r:bq)(b:aK r.addr):ir (l.set p r):=fun x d=>by
 rcases List.mem_or_eq_of_mem_set d with a|rfl
 ·exact h x a
 ·exact b
theorem ir.find{l:List bq}(h:ir l)(a k:Int):∀x,gp l a k=some x->aK x:=fun x b=>by
 unfold gp at b;split at b
 ·cases b
 ·split at b
  ·cases b
  ·rename_i r d
   split at b
   ·cases b
   ·rw[<-Option.some.inj b];exact h r (List.mem_of_getElem? d)
theorem ir.make{l:List bq}(h:ir l)(k a:Int)(b:aK a):ir (fP l k a).2/\∀x,(fP l k a).1=some x->aK x:=by
 unfold fP;split
 ·exact⟨h,fun x e=>by cases e⟩
 ·split
  ·exact⟨h,fun x e=>by cases e⟩
  ·split
   ·exact⟨h,fun x e=>by cases e⟩
   ·exact⟨h.set _ _ b,fun x e=>by rw[<-Option.some.inj e];exact bO _⟩
theorem ir.gone{l:List bq}(h:ir l)(a:Int):ir (iZ l a).2:=by
 unfold iZ;split
 ·exact h
 ·split
  ·exact h
  ·exact h.set _ _ bE
structure Inv(N M:Nat)(K:KS):Prop where
 core:Core N K.table K.ai K.wk K.ring
 nd:gn K.ai
 q:oj N K.q
 b2:fS N K.clock
 bI:js N K.blocks
 mem:b8 K.mem
 obj:ir K.cT
 draw:aK K.draw
 w0:1<=K.wk.length
 w1:K.wk.length<=64
 out:K.out.length<=M
theorem Inv.more{N M b:Nat}{K:KS}(h:Inv N M K)(a:N<=N')(d:M<=b):Inv N' b K:=⟨h.core.more a,h.nd,h.q.more a,h.b2.more a,h.bI.more a,h.mem,h.obj,h.draw,h.w0,h.w1,Nat.le_trans h.out d⟩
section
variable{N M:Nat}{K:KS}
theorem fF.ax(h:fF f)(k:Nat)(x:Int)(b:aK x):fF {f with r:=fW f.r k x}:=⟨fun j a=>by
 show aK (fW f.r k x j)
 unfold fW;split
 ·exact b
 ·exact h.r j a,h.back⟩
theorem fF.pc(h:fF f)(p:Int):fF {f with pc:=p}:=⟨h.r,h.back⟩
theorem e6.get{l:List Frame}(h:e6 l){k:Nat}{f:Frame}(a:l[k]?=some f):fF f.f:=h.lY f (List.mem_of_getElem? a)
theorem e6.cI{l:List Frame}(h:e6 l)(k:Nat)(f:cP)(m:fF f):e6 (l.set k {l.getD k default with f:=f}):=by
 refine⟨by rw[List.length_set];exact h.n0,by rw[List.length_set];exact h.n8,fun j g a=> ?_,fun g n=> ?_⟩
 ·by_cases e:k=j
  ·subst e
   have b:k<l.length:=(by have:=(List.getElem?_eq_some_iff.1 a).1;simpa using this);rw[List.getElem?_set_self b]at a;rw[<-Option.some.inj a];show(l.getD k default).cg=_
   rw[List.getD_eq_getElem?_getD,List.getElem?_eq_getElem b];exact h.cg k _ (List.getElem?_eq_getElem b)
  ·rw[List.getElem?_set_ne e]at a;exact h.cg j g a
 ·rcases List.mem_or_eq_of_mem_set n with d|rfl
  ·exact h.lY g d
  ·exact m
theorem e6.take{l:List Frame}(h:e6 l)(n:Nat)(d:0<n):e6 (l.take n):=by
 refine⟨by rw[List.length_take];have:=h.n0;omega,by rw[List.length_take];have:=h.n8;omega,fun k f a=> ?_,fun f b=>h.lY f (List.mem_of_mem_take b)⟩;rw[List.getElem?_take]at a;split at a
 ·exact h.cg k f a
 ·cases a
theorem e6.push{l:List Frame}(h:e6 l)(f:Frame)(n:l.length<8)(d:fF f.f)(hb:f.cg=(l.length%2==1)):e6 (l++[f]):=by
 refine⟨by simp,by simp;omega,fun k g a=> ?_,fun g j=> ?_⟩
 ·by_cases e:k<l.length
  ·rw[List.getElem?_append_left e]at a;exact h.cg k g a
  ·have m:k=l.length:=by
    have:=(List.getElem?_eq_some_iff.1 a).1;simp at this;omega
   subst m;rw[List.getElem?_concat_length]at a;rw[<-Option.some.inj a];exact hb
 ·rcases List.mem_append.1 j with b|b
  ·exact h.lY g b
  ·rw[List.mem_singleton.1 b];exact d
theorem Inv.gA(h:Inv N M K)(a:i<K.wk.length):hW (K.W i):=h.core.wk _ (List.mem_of_getElem? (KS.ha a))
theorem Inv.de(h:Inv N M K)(a:aw K.ai id=some t):od id t:=(h.core.ai id t a).1
theorem Inv.lY(h:Inv N M K)(a:aj K c):fF (K.F c):=by
 cases c with
 |own i=>exact(h.gA a).f
 |ai id k=>
  obtain⟨t,d,b⟩:=a;show fF ((K.T id).l.getD k default).f
  rw[KS.dm d,List.getD_eq_getElem?_getD,List.getElem?_eq_getElem b];exact(h.de d).l.get (List.getElem?_eq_getElem b)
theorem Inv.o9(h:Inv N M K)(a:aj K c){x:Int}(b:0<=x/\x<32):aK ((K.F c).r x.toNat):=(h.lY a).r _ (by omega)
theorem Inv.cp(h:Inv N M K){a:Thread}(d:aw K.ai id=some t)(b:od id a):Inv N M (K.cp id a):=
 ⟨h.core.cp d b,h.nd.put _ _,h.q,h.b2,h.bI,h.mem,h.obj,h.draw,h.w0,h.w1,h.out⟩
theorem Inv.bj(h:Inv N M K)(b:i<K.wk.length){y:aC}(d:y.slot=(K.W i).slot)(a:y.hand=(K.W i).hand)(e:hW y):Inv N M (K.bj i y):=
 ⟨h.core.bj (KS.ha b) d a e,h.nd,h.q,h.b2,h.bI,h.mem,h.obj,h.draw,by show 1<=(K.wk.set i y).length;rw[List.length_set];exact h.w0,by show(K.wk.set i y).length<=64;rw[List.length_set];exact h.w1,h.out⟩
theorem Inv.cI(h:Inv N M K)(a:aj K c)(d:fF f):Inv N M (K.cI c f):=by
 cases c with
 |own i=>exact h.bj a rfl rfl ⟨d,(h.gA a).l0,(h.gA a).l1⟩
 |ai id k=>
  obtain⟨t,b,e⟩:=a;have:=h.de b;refine h.cp b ?_;rw[KS.dm b];exact⟨this.id,this.eY,this.l.cI k f d⟩
theorem Inv.ax(h:Inv N M K)(a:aj K c)(k:Nat)(x:Int)(b:aK x):Inv N M (K.ax c k x):=h.cI a ((h.lY a).ax k x b)
theorem Inv.tell(h:Inv N M K)(e:Ev):Inv N (M+1) (tell K e):=
 ⟨h.core,h.nd,h.q,h.b2,h.bI,h.mem,h.obj,h.draw,h.w0,h.w1,by show(K.out++[_]).length<=M+1;rw[List.length_append];have:=h.out;simp;omega⟩
theorem Inv.qT(h:Inv N M K){S:aI}(a:b8 S):Inv N M {K with mem:=S}:=⟨h.core,h.nd,h.q,h.b2,h.bI,a,h.obj,h.draw,h.w0,h.w1,h.out⟩
theorem Inv.km(h:Inv N M K){q:List (List fQ)}(a:oj N q):Inv N M {K with q:=q}:=⟨h.core,h.nd,a,h.b2,h.bI,h.mem,h.obj,h.draw,h.w0,h.w1,h.out⟩
theorem Inv.uH(h:Inv N M K){S:aN}(a:fS N S):Inv N M {K with clock:=S}:=⟨h.core,h.nd,h.q,a,h.bI,h.mem,h.obj,h.draw,h.w0,h.w1,h.out⟩
theorem Inv.setObj(h:Inv N M K){l:List bq}(a:ir l):Inv N M {K with cT:=l}:=⟨h.core,h.nd,h.q,h.b2,h.bI,h.mem,a,h.draw,h.w0,h.w1,h.out⟩
theorem Inv.uI(h:Inv N M K){a:a8}{S:aI}(b:js N a)(d:b8 S):Inv N M {K with blocks:=a,mem:=S}:=⟨h.core,h.nd,h.q,h.b2,b,d,h.obj,h.draw,h.w0,h.w1,h.out⟩
theorem Inv.ot(h:Inv N M K){l:List aF}(a:Core N l K.ai K.wk K.ring):Inv N M {K with table:=l}:=⟨a,h.nd,h.q,h.b2,h.bI,h.mem,h.obj,h.draw,h.w0,h.w1,h.out⟩
theorem Inv.jm(h:Inv N M K)(a:Int):Inv N M (jm K a):=by
 have:=CH h.bI h.mem a;exact h.uI this.1 this.2
theorem Inv.home(h:Inv N M K)(id a:Int):Inv N M (eo K id a):=by
 unfold eo;split
 ·exact h.jm _
 ·exact h
theorem l3(C:KC)(a:i<K.wk.length):dB C K i={K with wk:=K.wk.set i {K.W i with slot:=0,f:={(K.W i).f with pc:=C.loop,back:=[]}}}:=by
 unfold dB gJ;rw[gM a];unfold KS.bj;simp only[List.set_set]
theorem hW.left{x:aC}(h:hW x)(s:Int)(p:Int):hW {x with slot:=s,f:={x.f with pc:=p,back:=[]}}:=⟨⟨h.f.r,by simp⟩,h.l0,h.l1⟩
end
end
section
variable{id v:Int}{t:Thread}{i:Nat}{x:be}{c:cJ}
section
variable{N M:Nat}{K:KS}{C:KC}
theorem Aq:aK (1:Int):=⟨by decide,by decide⟩
theorem pO{x:Int}(a:0<=x)(b:x<=100000000):aK x:=⟨a,by omega⟩
theorem Inv.Et(h:Inv N M K)(e:N<=900000)(a:aw K.ai id=some t):aK id/\id≠0:=by
 obtain⟨_,_,_,b,d⟩:=h.core.row a;exact⟨pO (by omega) (by omega),by omega⟩
theorem Inv.Ar(h:Inv N M K)(b:N<=900000)(d:i<K.wk.length):aK (K.W i).hand:=by
 by_cases a:(K.W i).hand=0
 ·rw[a];exact bE
 ·obtain⟨t,e⟩:=h.core.qS (KS.ha d) a
  exact(h.Et b e).1
theorem Inv.F1(h:Inv N M K)(b:N<=900000)(d:id∈K.ring):aK id:=by
 by_cases a:id=0
 ·rw[a];exact bE
 ·have:0<oe K.ring id:=List.countP_pos_iff.2 ⟨id,d,by simp⟩
  obtain⟨t,e⟩:=Option.isSome_iff_exists.1 (h.core.sH id a (by unfold ev;omega)).1;exact(h.Et b e).1
theorem Inv.F2(h:Inv N M K)(a:N<=900000):aK (gS K.ring).1:=by
 cases b:K.ring with
 |nil=>exact bE
 |cons x l=>exact h.F1 a (by rw[b];exact List.mem_cons_self)
theorem kn(h:Inv N M K):b8 (K.mem.acc 3 0 0 1).2:=(h.mem.acc 3 0 0 1 Aq).1
theorem Inv.toRing(h:Inv N M K)(a:aw K.ai id=some t)(b:ev K.wk K.ring id=0):Inv N M (cr K id):=
 ⟨h.core.toRing a b,h.nd,h.q,h.b2,h.bI,kn h,h.obj,h.draw,h.w0,h.w1,h.out⟩
theorem Inv.k'(h:Inv N M K)(a:i<K.wk.length)(b:(K.W i).slot≠0):Inv N M (dB C (cr K (K.W i).slot) i):=by
 rw[l3 C (K:=cr K (K.W i).slot) a];exact⟨h.core.k' (KS.ha a) b ((h.gA a).left 0 C.loop) rfl rfl,h.nd,h.q,h.b2,h.bI,kn h,h.obj,h.draw,by show 1<=(K.wk.set i _).length;rw[List.length_set];exact h.w0,by show(K.wk.set i _).length<=64;rw[List.length_set];exact h.w1,h.out⟩
theorem Inv.l2(h:Inv N M K)(a:i<K.wk.length)(b:(K.W i).slot≠0):Inv N M (dB C {K with table:=(j4 K.table (K.W i).slot 3).2} i):=by
 rw[l3 C (K:={K with table:=(j4 K.table (K.W i).slot 3).2}) a];exact⟨h.core.l2 (KS.ha a) b ((h.gA a).left 0 C.loop) rfl rfl,h.nd,h.q,h.b2,h.bI,h.mem,h.obj,h.draw,by show 1<=(K.wk.set i _).length;rw[List.length_set];exact h.w0,by show(K.wk.set i _).length<=64;rw[List.length_set];exact h.w1,h.out⟩
theorem hW.jt{x:aC}(h:hW x)(v:Int):hW {x with hand:=v}:=⟨h.f,h.l0,h.l1⟩
theorem Inv.oh(h:Inv N M K)(a:i<K.wk.length)(b:(K.W i).hand≠0):Inv N M ((cr K (K.W i).hand).bj i {(cr K (K.W i).hand).W i with hand:=0}):=
 ⟨h.core.oh (KS.ha a) b ((h.gA a).jt 0) rfl rfl,h.nd,h.q,h.b2,h.bI,kn h,h.obj,h.draw,by show 1<=(K.wk.set i _).length;rw[List.length_set];exact h.w0,by show(K.wk.set i _).length<=64;rw[List.length_set];exact h.w1,h.out⟩
theorem Inv.F3(h:Inv N M K)(b:i<K.wk.length)(d:aw K.ai id=some t)(e:ev K.wk K.ring id=0):Inv N M (ep K i id):=by
 unfold ep;split
 ·exact h.toRing d e
 ·rename_i a
  have a:(K.W i).hand=0:=Classical.not_not.1 a;exact⟨h.core.Es d e (KS.ha b) a ((h.gA b).jt id) rfl rfl,h.nd,h.q,h.b2,h.bI,h.mem,h.obj,h.draw,by show 1<=(K.wk.set i _).length;rw[List.length_set];exact h.w0,by show(K.wk.set i _).length<=64;rw[List.length_set];exact h.w1,h.out⟩
theorem Inv.take(h:Inv N M K)(b:i<K.wk.length)(id:Int):Inv N M (eK K i id):=by
 unfold eK;split
 ·exact h
 ·rename_i a
  split
  ·exact h
  ·rename_i d
   split
   ·exact h
   ·rename_i f
    have g:(K.W i).hand=0:=(Classical.not_not.1 fun e=>a (Or.inl e));have j:st K.table id=1:=(by rw[<-lZ];exact Classical.not_not.1 fun e=>a (Or.inr e));have k:∀x∈K.wk,x.hand≠id:=(fun x n e=>d (List.any_eq_true.2 ⟨x,n,by simp[e]⟩));have l:id∉K.ring:=(fun m=>f (List.any_eq_true.2 ⟨id,m,by simp⟩));exact⟨h.core.take j k l (KS.ha b) g ((h.gA b).jt id) rfl rfl,h.nd,h.q,h.b2,h.bI,h.mem,h.obj,h.draw,by show 1<=(K.wk.set i _).length;rw[List.length_set];exact h.w0,by show(K.wk.set i _).length<=64;rw[List.length_set];exact h.w1,h.out⟩
theorem Core.qU{tb:List aF}{ai:List (Int×Thread)}{wk:List aC}{ring:List Int}(c:Core N tb ai wk ring){x y:aC}(h:wk[i]?=some x)(o:hW y)(n:y.slot=x.slot)(k:y.hand=0):Core N tb ai (wk.set i y) ring:=by
 have f:=fun j=>e1 (y:=y) h j
 have g:=fun j=>e2 (y:=y) h j
 simp only[iP,n,k]at f g;have e:∀j,j≠0->ev (wk.set i y) ring j<=ev wk ring j:=fun j l=>by
  have a:=f j;have b:=g j;rw[if_neg (Ne.symm l)]at b;unfold ev;omega
 exact⟨c.cZ,c.al,c.ai,fun id d=>by have:=e id d;have:=c.one id d;omega,fun id d m=>c.sH id d (by have:=e id d;omega),fun id d m=>c.slt id d (by have:=f id;omega),hX c.wk o⟩
theorem Inv.qU(h:Inv N M K)(a:i<K.wk.length):Inv N M (K.bj i {K.W i with hand:=0}):=
 ⟨h.core.qU (KS.ha a) ((h.gA a).jt 0) rfl rfl,h.nd,h.q,h.b2,h.bI,h.mem,h.obj,h.draw,by show 1<=(K.wk.set i _).length;rw[List.length_set];exact h.w0,by show(K.wk.set i _).length<=64;rw[List.length_set];exact h.w1,h.out⟩
theorem Inv.born(h:Inv N M K)(G:N<=900000)(place a:Int)(A:aK a):Inv (N+1) M (bQ K place a).2/\aK (bQ K place a).1/\
 ((bQ K place a).1≠0->∃t,aw (bQ K place a).2.ai (bQ K place a).1=some t/\ev (bQ K place a).2.wk (bQ K place a).2.ring (bQ K place a).1=0):=by
 unfold bQ;have d:=nk h.bI h.mem 1;cases z:df K.blocks K.mem 1 with
 |mk o p=>
  obtain⟨b,m⟩:=p;rw[z]at d;have l:Inv (N+1) M {K with blocks:=b,mem:=m}:=(h.more (Nat.le_succ _) (Nat.le_refl _)).uI d.1 d.2.1;cases o with
  |none=>exact⟨l,bE,fun e=>absurd rfl e⟩
  |some g=>
   dsimp only;cases hb:dh K.table g with
   |mk B t2=>
    cases B with
    |none=>
     dsimp only;have s:t2=K.table:=by
      unfold dh at hb;split at hb
      ·injection hb with _ e;exact e.symm
      ·split at hb
       ·injection hb with _ e;exact e.symm
       ·injection hb with e;cases e
     subst s;exact⟨(show Inv (N+1) M ({K with blocks:=b,mem:=m}:KS)from l).jm _,bE,fun e=>absurd rfl e⟩
    |some id=>
     dsimp only;have u:od id ⟨id,[⟨⟨place,fun j=>if j=0 then a else 0,[]⟩,false,0⟩],0⟩:=⟨rfl,bE,by simp,by simp,fun k f n=>by
      have y:k=0:=(by have:=(List.getElem?_eq_some_iff.1 n).1;simpa using this);subst y;rw[<-Option.some.inj n];rfl,fun f w=>by
      rw[List.mem_singleton.1 w];exact⟨fun k _=>by
       show aK (if k=0 then a else 0)
       split
       ·exact A
       ·exact bE,by simp⟩⟩
     obtain⟨D,q,r,E,F,_⟩:=h.core.born (by omega) g (d.2.2 g rfl) hb u;refine⟨⟨q,h.nd.put _ _,h.q.more (Nat.le_succ _),h.b2.more (Nat.le_succ _),d.1,d.2.1,h.obj,h.draw,h.w0,h.w1,h.out⟩,pO (by omega) (by omega),fun _=>⟨_,by show aw (cn K.ai id _) id=_;rw[aV,if_pos rfl],r⟩⟩
theorem Inv.hz(h:Inv N M K)(v:Int)(d:aK v):Inv N M (b3 K id v):=by
 unfold b3;split
 ·rename_i b
  obtain⟨t,a⟩:=Option.isSome_iff_exists.1 b;have:=h.de a;rw[KS.dm a];exact h.cp a ⟨this.id,d,this.l⟩
 ·exact h
theorem Inv.ended(h:Inv N M K)(d:N<=900000)(a:i<K.wk.length)(b:(K.W i).slot≠0):Inv N (M+1) (m3 C K i (K.W i).slot):=by
 unfold m3;dsimp only;refine Inv.home ?_ _ _;rw[l3 C (by exact a)];exact⟨h.core.gone (KS.ha a) b ((h.gA a).left 0 C.loop) rfl rfl h.nd,(h.nd.del _).1,h.q.drop _,h.b2.bp _,h.bI,h.mem,h.obj,h.draw,by show 1<=(K.wk.set i _).length;rw[List.length_set];exact h.w0,by show(K.wk.set i _).length<=64;rw[List.length_set];exact h.w1,by show(K.out++[_]).length<=M+1;rw[List.length_append];have:=h.out;simp;omega⟩
theorem Inv.returned(h:Inv N M K)(b:aw K.ai id=some t)(num:Int){code:Int}(e:aK code)(k:aK v):Inv N (M+1) (dq K id num code v):=by
 unfold dq;dsimp only;have a:aj K (.ai id (K.top id)):=⟨t,b,by unfold KS.top;rw[KS.dm b];have:=(h.de b).l.n0;omega⟩;have d:=h.ax a 0 code e;have j:∀n,(K.ax (.ai id n) 0 code).top id=K.top id:=fun n=>by
  unfold KS.top
  congr 1
  have:aw (K.ax (.ai id n) 0 code).ai id=some {K.T id with l:=(K.T id).l.set n {(K.T id).l.getD n default with f:={K.F (.ai id n)with r:=fW (K.F (.ai id n)).r 0 code}}}:=by
   show aw (cn K.ai id _) id=_
   rw[aV,if_pos rfl]
  rw[KS.dm this,List.length_set]
 have g:aj (K.ax (.ai id (K.top id)) 0 code) (.ai id (K.top id)):=a.gr (bA a _) (br _ _);rw[j];exact(d.ax g 1 v k).tell _
theorem Inv.answer(h:Inv N M K)(a:aw K.ai id=some t)(g:1<t.l.length){code:Int}(d:aK code)(f:aK v):Inv N (M+1) (eE K id code v):=by
 unfold eE;dsimp only;have b:=h.de a;have e:K.top id=t.l.length-1:=by unfold KS.top;rw[KS.dm a]
 refine Inv.returned (t:={K.T id with l:=(K.T id).l.take (K.top id)}) (h.cp a ?_) (by show aw (cn K.ai id _) id=_;rw[aV,if_pos rfl]) _ d f;rw[KS.dm a,e];exact⟨b.id,b.eY,b.l.take _ (by omega)⟩
structure jc(x:be):Prop where
 a:x.a.toNat<32
 b:x.b.toNat<32
 c:x.c.toNat<32
 v:aK x.v
theorem qV(h:Inv N M K)(k:N<=900000)(f:i<K.wk.length)(g:(K.W i).slot=id)(e:id≠0)(a:aw K.ai id=some t)(q:t.l.length%2=0)(l:aj K c)(j:jc x):
 Inv (N+1) (M+1) (aB C K i id c x).2:=by
 have d:=h.lY l;have o:=d.r _ j.a;have hb:=d.r _ j.b;have r:=d.r _ j.c;have hid:=(h.Et k a).1;have b:=h.de a;have up:∀{K':KS},Inv N M K'->Inv (N+1) (M+1) K':=fun h=>h.more (Nat.le_succ _) (Nat.le_succ _)
 have n:∀{K':KS},Inv N (M+1) K'->Inv (N+1) (M+1) K':=fun h=>h.more (Nat.le_succ _) (Nat.le_refl _)
 have s:t.l.length≠1:=by omega
 have p:1<t.l.length:=by have:=b.l.n0;omega
 unfold aB;dsimp only;split
 ·split
  ·exact((up h).km (h.q.put _ _ _ hid)).uH (h.b2.arm _ _ hid)
  ·exact(up h).km (h.q.put _ _ _ hid)
 split
 ·split
  ·subst g;exact up (h.l2 f e)
  ·rw[KS.dm a];exact up (h.ax l _ _ b.eY)
 split
 ·have:=yi h.core.cZ ((K.F c).r x.a.toNat) id
  exact up (h.ot (h.core.same this.1 this.2))
 split
 ·exact up (h.ot (h.core.ended a _ o))
 split
 ·subst g;exact n (h.ended k f e)
 split
 ·subst g;exact up (h.k' f e)
 split
 ·split
  ·rename_i m
   rw[KS.dm a]at m⊢;refine up (h.cp a ⟨b.id,b.eY,b.l.push _ m.2 ⟨fun _ _=>bE,by simp⟩ ?_⟩);simp[q]
  ·exact up h
 split
 ·exact n (h.answer a p (d.r 0 (by omega)) (d.r 1 (by omega)))
 ·exact up h
theorem qW(h:Inv N M K)(g:i<K.wk.length)(e:aj K c)(j:jc x):Inv N M (bf K i c x).2:=by
 have f:=h.lY e;have k:=f.r _ j.a;have m:=f.r _ j.c;unfold bf;dsimp only;split
 ·have a:=h.qT (h.mem.acc 1 (dE (K.F c).r x) 0 _ k).1
  split
  ·exact a
  ·exact a.qU g
 ·have b:=h.mem.acc 4 (dE (K.F c).r x) ((K.F c).r x.a.toNat) _ m
  have a:=h.qT b.1;split
  ·exact a
  ·rename_i held n
   have l:aj ({K with mem:=(K.mem.acc 4 (dE (K.F c).r x) ((K.F c).r x.a.toNat) ((K.F c).r x.c.toNat)).2}:KS) c:=(by cases c<;>exact e);have d:=a.ax l x.a.toNat held (b.2 held n);split
   ·exact d.take (Nat.lt_of_lt_of_eq (show i<({K with mem:=(K.mem.acc 4 (dE (K.F c).r x) ((K.F c).r x.a.toNat) ((K.F c).r x.c.toNat)).2}:KS).wk.length from g) (br _ _).symm) _
   ·exact d
theorem yl(h:Inv N M K)(m:N<=900000)(d:i<K.wk.length)(f:aj K c)(o:jc x):Inv N M (b0 K i c x):=by
 unfold b0;dsimp only;split
 ·exact h.take d _
 split
 ·split
  ·rename_i b;exact h.oh d b
  ·exact h
 split
 ·have a:=h.ax f x.a.toNat 0 bE
  have hlen:(K.ax c x.a.toNat 0).wk.length=K.wk.length:=br _ _;have g:i<(K.ax c x.a.toNat 0).wk.length:=by rw[hlen];exact d
  have k:aj (K.ax c x.a.toNat 0) c:=f.gr (bA f _) hlen;split
  ·rename_i b
   have n:=a.F2 m;have l:Inv N M (({K.ax c x.a.toNat 0 with ring:=(gS (K.ax c x.a.toNat 0).ring).2.2}:KS).bj i {(({K.ax c x.a.toNat 0 with ring:=(gS (K.ax c x.a.toNat 0).ring).2.2}:KS).W i)with hand:=(gS (K.ax c x.a.toNat 0).ring).1}):=
    ⟨a.core.An (KS.ha g) b ((a.gA g).jt _) rfl rfl,a.nd,a.q,a.b2,a.bI,a.mem,a.obj,a.draw,by show 1<=(List.set _ i _).length;rw[List.length_set];exact a.w0,by show(List.set _ i _).length<=64;rw[List.length_set];exact a.w1,a.out⟩
   refine l.ax ?_ _ _ ?_
   ·cases c with
    |own j=>show j<(List.set _ i _).length;rw[List.length_set];exact k
    |ai _ _=>exact k
   ·rw[gM (by exact g)];exact n
  ·exact a
 split
 ·split
  ·rename_i b
   have e:((K.bj i {K.W i with slot:=(K.W i).hand,hand:=0,left:=24}).W i).slot=(K.W i).hand:=(by rw[gM d]);rw[e];exact⟨h.core.Al (KS.ha d) b.1 b.2.2 ⟨(h.gA d).f,show(0:Int)<=24 by decide,show(24:Int)<=24 by decide⟩ rfl rfl,h.nd,h.q,h.b2,h.bI,h.mem,h.obj,h.draw,by show 1<=(K.wk.set i _).length;rw[List.length_set];exact h.w0,by show(K.wk.set i _).length<=64;rw[List.length_set];exact h.w1,h.out⟩
  ·exact h
 ·exact h
theorem dy{K':KS}(a:aj K c)(e:K'.ai=K.ai)(f:K'.wk=K.wk):aj K' c:=by
 cases c with
 |own i=>show i<_;rw[f];exact a
 |ai id k=>obtain⟨t,b,d⟩:=a;exact⟨t,by rw[e];exact b,d⟩
theorem uJ(h:Inv N M K)(b:aj K c)(k:jc x):Inv (N+1) M (bh K c x):=by
 have g:=h.lY b;have o:=g.r _ k.a;have hb:=g.r _ k.b;have up:∀{K':KS},Inv N M K'->Inv (N+1) M K':=fun h=>h.more (Nat.le_succ _) (Nat.le_refl _)
 unfold bh;dsimp only;split
 ·have d:=h.ax b x.a.toNat 0 bE
  have hlen:(K.ax c x.a.toNat 0).wk.length=K.wk.length:=br _ _;have l:aj (K.ax c x.a.toNat 0) c:=b.gr (bA b _) hlen;have key:∀n:Int,Inv (N+1) M (if n<=4096 then({K.ax c x.a.toNat 0 with blocks:=(df (K.ax c x.a.toNat 0).blocks (K.ax c x.a.toNat 0).mem n.toNat).2.1,mem:=(df (K.ax c x.a.toNat 0).blocks (K.ax c x.a.toNat 0).mem n.toNat).2.2}:KS).ax c x.a.toNat (match(df (K.ax c x.a.toNat 0).blocks (K.ax c x.a.toNat 0).mem n.toNat).1 with|some h=>(h:Int)|none=>0)else K.ax c x.a.toNat 0):=fun n=>by
   split
   ·have f:=nk d.bI d.mem n.toNat
    refine((up d).uI f.1 f.2.1).ax (dy l rfl rfl) _ _ ?_;split
    ·rename_i a e;exact f.2.2 a e
    ·exact bE
   ·exact up d
  exact key _
 split
 ·split
  ·exact up (h.jm _)
  ·exact up h
 split
 ·split
  ·have j:=h.obj.make x.v ((K.F c).r x.b.toNat) hb
   refine up ((h.setObj j.1).ax (dy b rfl rfl) _ _ ?_);cases m:(fP K.cT x.v ((K.F c).r x.b.toNat)).1 with
   |none=>exact bE
   |some y=>exact j.2 y m
  ·exact up (h.ax b _ _ bE)
 split
 ·exact up (h.setObj (h.obj.gone _))
 ·exact up h
theorem Inv.fresh(h:Inv N M K)(s:N<=900000):∀f id,(dh K.table f).1=some id->aw K.ai id=none:=fun f id hb=>by
 cases m:aw K.ai id with
 |none=>rfl
 |some t=>
  cases a:dh K.table f with
  |mk o t2=>
   rw[a]at hb;have hb:o=some id:=hb;subst hb;unfold dh at a;cases d:iY K.table 0 with
   |none=>rw[d]at a;cases a
   |some p=>
    obtain⟨_,r,b,n⟩:=oi K.table 0 p d;rw[Nat.sub_zero]at b;rw[d]at a;dsimp only at a;rw[b]at a;dsimp only at a;injection a with g _
    injection g with g
    obtain⟨_,r',l,_⟩:=h.core.ai id t m;have k:=h.core.cZ.row p r b;have u:p<64:=(by have:=(List.getElem?_eq_some_iff.1 b).1;rw[h.core.cZ.len]at this;exact this);have t0:=k.t0;have t1:=k.t1;have w1:IntKind.u64.wrap (r.times+1)=r.times+1:=(by unfold IntKind.wrap IntKind.bits IntKind.signed;simp;omega);have w2:IntKind.u64.wrap (64*(r.times+1))=64*(r.times+1):=(by unfold IntKind.wrap IntKind.bits IntKind.signed;simp;omega);have q:IntKind.u64.wrap ((p:Int)+64*(r.times+1))=(p:Int)+64*(r.times+1):=(by unfold IntKind.wrap IntKind.bits IntKind.signed;simp;omega);rw[w1,w2,q]at g;have:=(uD l);have e:(id%64).toNat=p:=(by omega);rw[e,b]at this;have j:=this.2.1;rw[<-Option.some.inj this.1,n]at j;cases j
theorem pP(b:aj K c)(id a:Int):aj (eo K id a) c:=dy b (hg K id a) (kZ K id a)
theorem uK(h:Inv N M K)(m:N<=900000)(z:i<K.wk.length)(a:aj K c)(g:jc x):Inv (N+1) M (bD C K i c x):=by
 have f:=h.lY a;have e:=f.r _ g.a;have hb:=f.r _ g.b;have w:=f.r _ g.c;have up:∀{K':KS},Inv N M K'->Inv (N+1) M K':=fun h=>h.more (Nat.le_succ _) (Nat.le_refl _)
 unfold bD;dsimp only;split
 ·split
  ·obtain⟨j,k,p⟩:=h.born m (wrap64 ((K.F c).r x.b.toNat)) ((K.F c).r x.c.toNat) w
   have y:=k6 (K:=K) (wrap64 ((K.F c).r x.b.toNat)) ((K.F c).r x.c.toNat) (h.fresh m);have o:(bQ K (wrap64 ((K.F c).r x.b.toNat)) ((K.F c).r x.c.toNat)).2.wk=K.wk:=n9 _ _;have n:aj (bQ K (wrap64 ((K.F c).r x.b.toNat)) ((K.F c).r x.c.toNat)).2 c:=a.gr y (by rw[o]);split
   ·rename_i q
    obtain⟨t,B,D⟩:=p q;have A:i<(bQ K (wrap64 ((K.F c).r x.b.toNat)) ((K.F c).r x.c.toNat)).2.wk.length:=(by rw[o];exact z);exact(j.F3 A B D).ax (n.gr (dV _ _ _) (fE _ _ _)) _ _ k
   ·exact j.ax n _ _ k
  ·exact up (h.ax a _ _ bE)
 split
 ·have d:=uG h.core.cZ ((K.F c).r x.a.toNat)
  have b:=h.ot (h.core.same d.1 d.2);split
  ·exact up ((b.home _ _).ax (pP (K:=({K with table:=(e8 K.table ((K.F c).r x.a.toNat)).2}:KS)) (dy a rfl rfl) _ _) _ _ e)
  ·exact up (b.ax (dy a rfl rfl) _ _ e)
 split
 ·have d:=yj h.core.cZ ((K.F c).r x.b.toNat)
  have b:=h.ot (h.core.same d.1 d.2.1);split
  ·exact up ((b.home _ _).ax (pP (K:=({K with table:=(fy K.table ((K.F c).r x.b.toNat)).2.2.2.2}:KS)) (dy a rfl rfl) _ _) _ _ d.2.2)
  ·exact up (b.ax (dy a rfl rfl) _ _ d.2.2)
 split
 ·exact up (h.ax a _ _ (bO _))
 split
 ·refine up (h.ax a _ _ ?_)
  unfold fx;rcases fi (l:=K.table) (id:=(K.F c).r x.b.toNat)with⟨b,_⟩|⟨r,b,s,u⟩
  ·rw[b];exact bE
  ·rw[b];dsimp only;rw[s];exact(h.core.cZ.at u).1.home
 ·exact up (h.ax a _ _ e)
theorem pQ(K:KS)(pid v:Int):(b3 K pid v).wk=K.wk/\(b3 K pid v).ring=K.ring/\(b3 K pid v).table=K.table:=by unfold b3;split<;>exact⟨rfl,rfl,rfl⟩
theorem qX(h:Inv N M K)(o:i<K.wk.length)(d:aj K c)(w:jc x):Inv N M (bl K i c x):=by
 unfold bl;dsimp only;split
 ·have a:=h.q.take ((K.F c).r x.b.toNat) ((K.F c).r x.c.toNat)
  obtain⟨p,r⟩:=nm (eJ K.q ((K.F c).r x.b.toNat) ((K.F c).r x.c.toNat));rw[r]at a⊢;have g:=h.km a.1;split
  ·have m:=g.uH (g.b2.bp p.1)
   have b:=m.hz (id:=p.1) 0 bE;obtain⟨e,f⟩:=nm (b3 ({K with q:=p.2.2,clock:=(K.clock.bp p.1).2}:KS) p.1 0);have n:Gr K e:=(by rw[<-f];exact(Gr.of_eq (K':=({K with q:=p.2.2,clock:=(K.clock.bp p.1).2}:KS)) rfl).trans (jU _ _ _));have l:e.wk=K.wk:=(by rw[<-f];exact(pQ _ _ _).1);have b:Inv N M e:=(by rw[<-f];exact b);show Inv N M (KS.ax (if cz (b3 ({K with q:=p.2.2,clock:=(K.clock.bp p.1).2}:KS) p.1 0) p.1=3 then ep (b3 ({K with q:=p.2.2,clock:=(K.clock.bp p.1).2}:KS) p.1 0) i p.1 else b3 ({K with q:=p.2.2,clock:=(K.clock.bp p.1).2}:KS) p.1 0) c x.a.toNat p.1)
   rw[f];have j:aj e c:=d.gr n (by rw[l]);split
   ·rename_i k
    rw[lZ]at k;obtain⟨⟨t,s⟩,u⟩:=b.core.Am k;exact(b.F3 (by rw[l];exact o) s u).ax (j.gr (dV _ _ _) (fE _ _ _)) _ _ a.2
   ·exact b.ax j _ _ a.2
  ·exact g.ax (dy d rfl rfl) _ _ bE
 split
 ·have a:=h.q.move ((K.F c).r x.b.toNat) ((K.F c).r x.c.toNat)
  exact(h.km a.1).ax (dy d rfl rfl) _ _ a.2
 split
 ·refine h.ax d _ _ ?_
  split
  ·exact Aq
  ·exact bE
 ·exact h.ax d _ _ bE
theorem As(h:Inv N M K)(a:N<=900000)(b:i<K.wk.length)(hid:aK id)(c:cJ)(x:be):aK (ik C K i id c x):=by
 unfold ik;dsimp only
 repeat' split
 all_goals first|exact bO _|exact h.b2.now|exact hid|exact h.draw|exact h.Ar a b|exact Aq|exact bE
theorem ju(h:Inv N M K)(g:N<=900000)(a:i<K.wk.length){idO:Option Int}(d:aj K c)(f:jc x)
 (l:∀id,idO=some id->(K.W i).slot=id/\id≠0/\∃t,aw K.ai id=some t/\t.l.length%2=0):Inv (N+1) (M+1) (az C K i idO c x).2:=by
 have up:∀{K':KS},Inv N M K'->Inv (N+1) (M+1) K':=fun h=>h.more (Nat.le_succ _) (Nat.le_succ _)
 have m:∀{K':KS},Inv (N+1) M K'->Inv (N+1) (M+1) K':=fun h=>h.more (Nat.le_refl _) (Nat.le_succ _)
 unfold az;dsimp only;split
 ·cases idO with
  |none=>exact up h
  |some id=>
   obtain⟨e,j,t,k,n⟩:=l id rfl;exact qV h g a e j k n d f
 split
 ·exact up (qW h a d f)
 split
 ·have e:Inv N M (gu K 0).2:=h.qT (h.mem.acc 0 0 0 0 bE).1
  have j:∀b,Inv N M ((gu K 0).2.bj i {(gu K 0).2.W i with parked:=b}):=fun b=>e.bj (by exact a) rfl rfl ⟨(e.gA (by exact a)).f,(e.gA (by exact a)).l0,(e.gA (by exact a)).l1⟩
  split
  ·exact up (j _)
  ·exact up (j _)
 split
 ·exact up (yl h g a d f)
 split
 ·exact m (uJ h d f)
 split
 ·exact m (uK h g a d f)
 split
 ·exact up (qX h a d f)
 split
 ·exact up h
 ·refine up (h.ax d _ _ (As h g a ?_ c x))
  cases idO with
  |none=>exact bE
  |some id=>
   obtain⟨_,_,t,k,_⟩:=l id rfl;exact(h.Et g k).1
end
theorem ou{n:Int}{used less:Bool}(h:fp n used less=true):(0<=n/\n<32)∨(n=-1/\less=true):=by
 unfold fp at h;split at h
 ·rw[Bool.or_eq_true,Bool.and_eq_true]at h
  rcases h with h|⟨a,b⟩
  ·exact Or.inl (by simpa using h)
  ·exact Or.inr ⟨by simpa using b,a⟩
 ·have:n=0:=by simpa using h
  subst this;exact Or.inl ⟨by decide,by decide⟩
theorem dz{n:Nat}(h:bC x n=true):(0<=x.a/\x.a<32)/\((0<=x.b/\x.b<32)∨(x.b=-1/\nE x.op=true))/\((0<=x.c/\x.c<32)∨(x.c=-1/\mx x.op=true))/\1<=x.op/\x.op<=58:=by
 obtain⟨y,d,e,f,g,b⟩:=jk h;unfold eD j8 my at b;simp only[Bool.and_eq_true]at b;obtain⟨⟨⟨a,_⟩,⟨⟨j,k⟩,l⟩,_⟩,_⟩:=b;have a:1<=y.op/\y.op<=58:=by simpa using a
 rw[<-d,<-e,<-f,<-g];refine⟨?_,ou k,ou l,a⟩;rcases ou j with h|⟨_,h⟩
 ·exact h
 ·cases h
end
def G7(Y:Var):Option Int->Value
 |none=> .pointer none
 |some id=> .pointer (some (Y.bI id,0))
theorem mP{N M:Nat}(s:Inv N M K)(a0:N<=800000)(I:M<=800000)(i:Nat)(r:i<K.wk.length)(idO:Option Int)
 (J:∀id,idO=some id->(K.W i).slot=id/\id≠0/\∃t,aw K.ai id=some t/\t.l.length%2=0) (c:cJ) (b o:Nat) (l:aj K c) (m:aR L Y c b o)
 (x:be) (n:Nat) (U:bC x n=true) (V:22<=x.op) (B:aK x.v) (Z:0<=K.w/\K.w<K.wk.length) (E:C.bs.length<=2048) (h:ae w χ L Y C K):
 Calls prog 133 #[(L.mb,0),(L.wb,i*38),G7 Y idO,(b,o),aL x] w (dO (az C K i idO c x) χ L Y C K w):=by
 obtain⟨q,D,O,_,R⟩:=dz U;obtain⟨op,f,d,a,j,g,k⟩:=x;dsimp only at q D O R V B;have z:0<=a/\a<32:=O.elim id fun e=>by have:=e.2;unfold mx at this;simp at this;omega
 have A:(op≠31/\op≠32/\op≠43)->0<=d/\d<32:=fun a1=>D.elim id fun e=>by have:=e.2;unfold nE at this;simp at this;omega
 have S:=(nk s.bI s.mem 1).1;have p:=(s.lY l).r;have W:(op=22∨op=36)∨(op=24∨op=28∨op=51∨op=53∨op=55∨op=56∨op=57∨op=58)∨(op=31∨op=32)∨(op=30∨op=33∨op=34∨op=35)∨(op=43∨op=44∨op=45∨op=46)∨(op=48∨op=52∨op=54∨op=49∨op=50)∨(op=25∨op=26∨op=27)∨(op=23∨op=41∨op=37∨op=40∨op=42∨op=29∨op=38∨op=39∨op=47):=by omega
 rcases W with(rfl|rfl)|e|e|e|e|e|e|e
 ·exact uA _ _ i c b o f d a j g k h
 ·exact uB _ _ i r c b o l m f d a j g k q h
 ·cases idO with
  |none=>exact xS i c b o op f d a j g k e h
  |some id=>
   obtain⟨X,Q,t,u,T⟩:=J id rfl;have v:=(s.de u).id;have G:=(s.de u).l;have F:=G.n8;have P:1<t.l.length:=(by have:=G.n0;omega);have y:=(s.Et (by omega) u).1;have hb:=A (by omega);refine xM id i c b o op f d a j g k e rfl (fun w h=> ?_) h;rcases e with rfl|rfl|rfl|rfl|rfl|rfl|rfl|rfl
   ·exact sq i r id t u v y c b o l m p f d a j g k q hb z (s.b2.ok (by omega)) h
   ·exact sr i r id t u v y c b o l m p f d a j g k q h
   ·exact sk i r id t u v y c b o l m p f d a j g k q h
   ·exact sm i r id t u v y c b o l m p f d a j g k q h
   ·exact sn i r id t u v y c b o l m p f d a j g k (s.b2.ok (by omega)) (s.bI.ok (by omega)) (Nat.le_trans s.out I) h
   ·exact so i r id t u v y c b o l m p f d a j g k h
   ·exact ss i r id t u v y c b o l m p f d a j g k q (by omega) F E h
   ·exact sp i r id t u v y c b o l m p f d a j g k P F (Nat.le_trans s.out I) h
 ·refine xN _ _ i c b o op f d a j g k e rfl (fun w h=> ?_) h
  rcases e with rfl|rfl
  ·exact sE i r c b o l m p f d a j g k q B h
  ·exact sF i r c b o l m p f d a j g k q z B (s.mem.acc 4 _ _ _ (p _ (by omega))).2 h
 ·refine xO _ _ i c b o op f d a j g k e rfl (fun w h=> ?_) h
  rcases e with rfl|rfl|rfl|rfl
  ·exact Ad i r c b o l m p f d a j g k q h
  ·exact Ae i r c b o l m p f d a j g k q (s.Ar (by omega) r) h
  ·exact Af i r c b o l m p f d a j g k q h
  ·exact Ag i r c b o l m p f d a j g k q (s.Ar (by omega) r) h
 ·refine xP _ _ i c b o op f d a j g k e rfl (fun w h=> ?_) h
  have B1:=s.bI.ok (by omega);rcases e with rfl|rfl|rfl|rfl
  ·rcases D with hb|⟨rfl,_⟩
   ·exact ux c b o l m p f d a j g k q hb B1 h
   ·exact uy c b o l m p f a j g k q B B1 h
  ·exact xT c b o l m p f d a j g k q B1 h
  ·exact xV c b o l m p f d a j g k q (A (by decide)) B h
  ·exact xU c b o l m p f d a j g k q h
 ·refine xQ _ _ i c b o op f d a j g k e rfl (fun w h=> ?_) h
  have B1:=s.bI.ok (by omega);have hb:=A (by omega);rcases e with rfl|rfl|rfl|rfl|rfl
  ·exact x' i r c b o l m p f d a j g k q hb z E B1 (S.ok (by omega)) (s.fresh (by omega)) (s.born (by omega) _ _ (p _ (by omega))).2.1 h
  ·exact xZ i r c b o l m p f d a j g k q hb B1 h
  ·exact xY i r c b o l m p f d a j g k q hb B1 h
  ·exact xW i r c b o l m p f d a j g k q hb h
  ·exact xX i r c b o l m p f d a j g k q hb h
 ·refine xR _ _ i c b o op f d a j g k e rfl (fun w h=> ?_) h
  have hb:=A (by omega);rcases e with rfl|rfl|rfl
  ·exact sA i r c b o l m p f d a j g k q hb z (s.b2.ok (by omega)) (s.q.take _ _).2 h
  ·exact sD i r c b o l m p f d a j g k q hb z h
  ·exact sB i r c b o l m p f d a j g k q hb z h
 ·have hb:=A (by omega)
  have H:∀id w,ae w χ L Y C K->Calls prog 170 #[(L.mb,0),(L.wb,i*38),.int .u64 id,(b,o),aL ⟨op,f,d,a,j,g,k⟩] w (nh (ik C K i id c ⟨op,f,d,a,j,g,k⟩) w):=fun id w h=>Ai i r id c b o l m p op f d a j g k e hb Z E h
  cases idO with
  |none=>exact yb i c b o l m op f d a j g k q e (H 0) h
  |some id=>
   obtain⟨X,Q,t,u,T⟩:=J id rfl;exact yc id t u (s.de u).id i c b o l m op f d a j g k q e (H id) h
section
variable{x:be}{f:cP}{c:cJ}{id:Int}{t:Thread}{i:Nat}
theorem Au(h:fF f):fF (dG x f).2/\((dG x f).1=0∨(dG x f).1=2∨(dG x f).1=3):=by
 unfold dG;split
 ·split
  ·exact⟨h,Or.inr (Or.inl rfl)⟩
  ·exact⟨⟨h.r,by show(f.back.take _).length<=8;rw[List.length_take];have:=h.back;omega⟩,Or.inl rfl⟩
 ·split
  ·split
   ·exact⟨h,Or.inr (Or.inr rfl)⟩
   ·exact⟨⟨h.r,by show(f.back++[_]).length<=8;rw[List.length_append,List.length_singleton];omega⟩,Or.inl rfl⟩
  ·split
   ·exact⟨h.pc _,Or.inl rfl⟩
   ·split
    ·exact⟨h.pc _,Or.inl rfl⟩
    ·exact⟨h.pc _,Or.inl rfl⟩
theorem CI(h:fF f)(n:Int):aK (gR f.r n):=xd h.r n
theorem sN{o:Type}{Q Q':o->Prop}(acc:o->Int->Int->Int->Int->Option Int×o)(m:∀S kind a u v,Q S->aK v->Q' (acc S kind a u v).2/\∀x,(acc S kind a u v).1=some x->aK x)(h:∀S,Q S->Q' S)
 (l:List be) (B:∀x∈l,aK x.v) (f:cP) (d:fF f) (S:o) (b:Q S):fF (bM acc l f S).2.1/\Q' (bM acc l f S).2.2/\
 ((bM acc l f S).1=0∨(bM acc l f S).1=1∨(bM acc l f S).1=2∨(bM acc l f S).1=3)/\
 ((bM acc l f S).1=0∨(bM acc l f S).1=1->bC (fB l f.pc) l.length=true/\fB l f.pc∈l)/\
 ((bM acc l f S).1=1->22<=(fB l f.pc).op/\(bM acc l f S).2.1=f/\(bM acc l f S).2.2=S):=by
 unfold bM;split
 ·exact⟨d,h _ b,Or.inr (Or.inr (Or.inr rfl)),(fun e=>by rcases e with e|e<;>cases e),fun e=>by cases e⟩
 ·rename_i G
  split
  ·exact⟨d,h _ b,Or.inr (Or.inr (Or.inr rfl)),(fun e=>by rcases e with e|e<;>cases e),fun e=>by cases e⟩
  ·rename_i x s
   have F:=(List.getElem?_eq_some_iff.1 s).1;have z:fB l f.pc=x:=by
    have:=oc (l:=l) (pc:=f.pc) (by omega) (by omega);rw[s]at this;exact(Option.some.inj this).symm
   have j:x∈l:=List.mem_of_getElem? s;rw[z];split
   ·exact⟨d,h _ b,Or.inr (Or.inr (Or.inr rfl)),(fun e=>by rcases e with e|e<;>cases e),fun e=>by cases e⟩
   ·rename_i g
    have g:bC x l.length=true:=(by simpa using g);split
    ·have:=Au (x:=x) d
     refine⟨this.1,h _ b,?_,fun _=>⟨g,j⟩,fun e=> ?_⟩
     ·rcases this.2 with e|e|e
      ·exact Or.inl e
      ·exact Or.inr (Or.inr (Or.inl e))
      ·exact Or.inr (Or.inr (Or.inr e))
     ·exfalso
      have e:(dG x f).1=1:=e;rcases this.2 with p|p|p<;>rw[p]at e<;>cases e
    ·split
     ·have k:Q' (cR acc S x f.r).2/\∀v,(cR acc S x f.r).1=some v->aK v:=by
       have n:aK (f.r x.a.toNat):=by
        have:=(dz g).1;exact d.r _ (by omega)
       have A:aK (f.r x.c.toNat):=by
        have:=(dz g).2.2.1;exact d.r _ (by omega)
       unfold cR;dsimp only;split
       ·exact m _ _ _ _ _ b bE
       ·split
        ·have:=m S 1 (dE f.r x) 0 _ b n
         refine⟨this.1,fun v e=> ?_⟩;cases q:(acc S 1 (dE f.r x) 0 (f.r x.a.toNat)).1 with
         |none=>rw[q]at e;cases e
         |some y=>rw[q]at e;rw[<-Option.some.inj e];exact n
        ·split
         ·exact m _ _ _ _ _ b n
         ·split
          ·exact m _ _ _ _ _ b n
          ·exact m _ _ _ _ _ b A
      split
      ·rename_i w r
       rw[r]at k;exact⟨d,k.1,Or.inr (Or.inr (Or.inr rfl)),fun _=>⟨g,j⟩,fun e=>by cases e⟩
      ·rename_i v w r
       rw[r]at k;exact⟨(d.ax x.a.toNat v (k.2 v rfl)).pc _,k.1,Or.inl rfl,fun _=>⟨g,j⟩,fun e=>by cases e⟩
     ·split
      ·exact⟨(d.ax x.a.toNat _ (t' x _ _ (B x j) (CI d _))).pc _,h _ b,Or.inl rfl,fun _=>⟨g,j⟩,fun e=>by cases e⟩
      ·rename_i q D E
       refine⟨d,h _ b,Or.inr (Or.inl rfl),fun _=>⟨g,j⟩,fun _=>⟨?_,rfl,rfl⟩⟩;have:=(dz g).2.2.2;omega
structure ow(C:KC):Prop where
 ll:C.dH.length<=2048
 pl:C.bs.length<=2048
 cl:C.calls.length<=2048
 lv:∀x∈C.dH,aK x.v
 pv:∀x∈C.bs,aK x.v
 F4:∀x∈C.bs,eD x C.bs.length false=true
 bw:0<=C.wide/\C.wide<=256/\0<=C.narrow/\C.narrow<=256
 Eu:C.rows.length=1000
 rows:∀r∈C.rows,0<=r/\r<=C.calls.length
section
variable{N M:Nat}{K:KS}{C:KC}
theorem jc.of{n:Nat}(h:bC x n=true)(a:aK x.v):jc x:=by
 obtain⟨b,d,e,_⟩:=dz h;exact⟨by omega,by omega,by omega,a⟩
theorem l4(d:ow C)(h:Inv N M K)(g:aj K c):Inv N M (cB C K c).2.2/\((cB C K c).2.1=0∨(cB C K c).2.1=1∨(cB C K c).2.1=2∨(cB C K c).2.1=3)/\
 ((cB C K c).2.1=0∨(cB C K c).2.1=1->bC (cB C K c).1 C.dH.length=true/\aK (cB C K c).1.v)/\((cB C K c).2.1=1->22<=(cB C K c).1.op):=by
 have b:=sN (Q:=b8) (Q':=b8) aI.acc (fun S kind a l v j k=>j.acc kind a l v k) (fun _ h=>h) C.dH d.lv (K.F c) (h.lY g) K.mem h.mem;unfold cB;dsimp only;exact⟨(h.qT b.2.1).cI (dy g rfl rfl) b.1,b.2.2.1,fun e=>⟨(b.2.2.2.1 e).1,d.lv _ (b.2.2.2.1 e).2⟩,fun e=>(b.2.2.2.2 e).1⟩
theorem nl{K1:KS}(d:aj K c)(a:K1.ai=K.ai)(b:K1.wk=K.wk)(f:cP):Gr K (K1.cI c f)/\(K1.cI c f).wk.length=K.wk.length:=
 ⟨(Gr.of_eq a).trans (bA (dy d a b) f),(br c f).trans (by rw[b])⟩
theorem ox(C:KC)(a:aj K c):Gr K (cB C K c).2.2/\(cB C K c).2.2.wk.length=K.wk.length:=by
 unfold cB;dsimp only;exact nl (K1:=({K with mem:=(bM aI.acc C.dH (K.F c) K.mem).2.2}:KS)) a rfl rfl _
theorem oy(C:KC)(i:Nat)(a:i<K.wk.length):((cB C K c).2.2.W i).slot=(K.W i).slot/\(cB C K c).2.2.w=K.w:=by
 unfold cB;dsimp only;cases c with
 |own j=>
  refine⟨?_,rfl⟩;show((KS.bj _ j _).W i).slot=_
  by_cases e:i=j
  ·subst e;rw[gM (by exact a)];rfl
  ·unfold KS.W KS.bj
   dsimp only;rw[List.getD_eq_getElem?_getD,List.getElem?_set_ne (fun h=>e h.symm),List.getD_eq_getElem?_getD]
 |ai id k=>exact⟨rfl,rfl⟩
theorem pR(C:KC){k:Nat}(b:aw K.ai id=some t):∃a,aw (cB C K (.ai id k)).2.2.ai id=some a/\a.l.length=t.l.length/\a.id=t.id:=by
 unfold cB;dsimp only;refine⟨_,by show aw (cn K.ai id _) id=_;rw[aV,if_pos rfl],?_,?_⟩
 ·show(List.set (K.T id).l k _).length=_
  rw[List.length_set,KS.dm b]
 ·show(K.T id).id=_
  rw[KS.dm b]
theorem ef(a:aj K c)(k:Nat)(x:Int):Gr K (K.ax c k x):=bA a _
theorem ym(C:KC)(i:Nat):Gr K (dB C K i):=Gr.of_eq rfl
theorem oz(i:Nat)(id:Int):Gr K (eK K i id)/\(eK K i id).wk.length=K.wk.length:=by
 unfold eK
 repeat' split
 all_goals first|exact⟨Gr.refl _,rfl⟩|exact⟨Gr.of_eq rfl,bG _ _⟩
theorem yn(C:KC)(i:Nat):(dB C K i).wk.length=K.wk.length:=by unfold dB gJ;rw[bG,bG]
theorem sO(i:Nat)(a:aw K.ai id=some t)(b:aj K c)(x:be):(aB C K i id c x).1=0->Gr K (aB C K i id c x).2/\(aB C K i id c x).2.wk.length=K.wk.length:=by
 unfold aB;dsimp only;split
 ·split
  ·exact fun _=>⟨Gr.of_eq rfl,rfl⟩
  ·exact fun _=>⟨Gr.of_eq rfl,rfl⟩
 split
 ·split
  ·intro e;cases e
  ·exact fun _=>⟨ef b _ _,br _ _⟩
 split
 ·exact fun _=>⟨Gr.of_eq rfl,rfl⟩
 split
 ·exact fun _=>⟨Gr.of_eq rfl,rfl⟩
 split
 ·intro e;cases e
 split
 ·exact fun _=>⟨(Gr.of_eq (sy K id)).trans (ym C i),yn C i⟩
 split
 ·split
  ·exact fun _=>⟨by rw[KS.dm a];exact qQ a (by simp),rfl⟩
  ·exact fun _=>⟨Gr.refl _,rfl⟩
 split
 ·intro e;cases e
 ·exact fun _=>⟨Gr.refl _,rfl⟩
theorem sP(a:aj K c)(x:be):(bf K i c x).1=0->Gr K (bf K i c x).2/\(bf K i c x).2.wk.length=K.wk.length:=by
 unfold bf;dsimp only;split
 ·split
  ·intro e;cases e
  ·exact fun _=>⟨Gr.of_eq rfl,bG _ _⟩
 ·split
  ·intro e;cases e
  ·rename_i held b
   have g:=nl (K1:=({K with mem:=(K.mem.acc 4 (dE (K.F c).r x) ((K.F c).r x.a.toNat) ((K.F c).r x.c.toNat)).2}:KS)) a rfl rfl {({K with mem:=(K.mem.acc 4 (dE (K.F c).r x) ((K.F c).r x.a.toNat) ((K.F c).r x.c.toNat)).2}:KS).F c with r:=fW (({K with mem:=(K.mem.acc 4 (dE (K.F c).r x) ((K.F c).r x.a.toNat) ((K.F c).r x.c.toNat)).2}:KS).F c).r x.a.toNat held};split
   ·exact fun _=>⟨g.1.trans (oz _ _).1,(oz _ _).2.trans g.2⟩
   ·exact fun _=>g
theorem Av(i:Nat)(a:aj K c)(x:be):Gr K (b0 K i c x)/\(b0 K i c x).wk.length=K.wk.length:=by
 unfold b0;dsimp only;split
 ·exact oz _ _
 split
 ·split
  ·exact⟨Gr.of_eq rfl,bG _ _⟩
  ·exact⟨Gr.refl _,rfl⟩
 split
 ·have hlen:(K.ax c x.a.toNat 0).wk.length=K.wk.length:=br _ _
  have g:=ef a x.a.toNat 0;split
  ·have b:aj ((({K.ax c x.a.toNat 0 with ring:=(gS (K.ax c x.a.toNat 0).ring).2.2}:KS)).bj i {(({K.ax c x.a.toNat 0 with ring:=(gS (K.ax c x.a.toNat 0).ring).2.2}:KS)).W i with hand:=(gS (K.ax c x.a.toNat 0).ring).1}) c:=
    (a.gr g hlen).gr (Gr.of_eq rfl) (bG _ _)
   exact⟨(g.trans (Gr.of_eq rfl)).trans (ef b _ _),(br _ _).trans ((bG _ _).trans hlen)⟩
  ·exact⟨g,hlen⟩
 split
 ·split
  ·exact⟨Gr.of_eq rfl,bG _ _⟩
  ·exact⟨Gr.refl _,rfl⟩
 ·exact⟨Gr.refl _,rfl⟩
theorem yo(a:aj K c)(x:be):Gr K (bh K c x)/\(bh K c x).wk.length=K.wk.length:=by
 unfold bh;dsimp only;split
 ·have hlen:(K.ax c x.a.toNat 0).wk.length=K.wk.length:=br _ _
  have g:=ef a x.a.toNat 0;have key:∀n:Int,Gr K (if n<=4096 then({K.ax c x.a.toNat 0 with blocks:=(df (K.ax c x.a.toNat 0).blocks (K.ax c x.a.toNat 0).mem n.toNat).2.1,mem:=(df (K.ax c x.a.toNat 0).blocks (K.ax c x.a.toNat 0).mem n.toNat).2.2}:KS).ax c x.a.toNat (match(df (K.ax c x.a.toNat 0).blocks (K.ax c x.a.toNat 0).mem n.toNat).1 with|some h=>(h:Int)|none=>0)else K.ax c x.a.toNat 0)/\(if n<=4096 then({K.ax c x.a.toNat 0 with blocks:=(df (K.ax c x.a.toNat 0).blocks (K.ax c x.a.toNat 0).mem n.toNat).2.1,mem:=(df (K.ax c x.a.toNat 0).blocks (K.ax c x.a.toNat 0).mem n.toNat).2.2}:KS).ax c x.a.toNat (match(df (K.ax c x.a.toNat 0).blocks (K.ax c x.a.toNat 0).mem n.toNat).1 with|some h=>(h:Int)|none=>0)else K.ax c x.a.toNat 0).wk.length=K.wk.length:=fun n=>by
   split
   ·have q:=nl (K:=K.ax c x.a.toNat 0) (K1:=({K.ax c x.a.toNat 0 with blocks:=(df (K.ax c x.a.toNat 0).blocks (K.ax c x.a.toNat 0).mem n.toNat).2.1,mem:=(df (K.ax c x.a.toNat 0).blocks (K.ax c x.a.toNat 0).mem n.toNat).2.2}:KS)) (a.gr g hlen) rfl rfl
    exact⟨g.trans (q _).1,(q _).2.trans hlen⟩
   ·exact⟨g,hlen⟩
  exact key _
 split
 ·split
  ·exact⟨Gr.of_eq rfl,rfl⟩
  ·exact⟨Gr.refl _,rfl⟩
 split
 ·split
  ·exact nl (K1:=({K with cT:=(fP K.cT x.v ((K.F c).r x.b.toNat)).2}:KS)) a rfl rfl _
  ·exact⟨ef a _ _,br _ _⟩
 split
 ·exact⟨Gr.of_eq rfl,rfl⟩
 ·exact⟨Gr.refl _,rfl⟩
theorem yp(h:Inv N M K)(p:N<=900000)(g:aj K c)(x:be):Gr K (bD C K i c x)/\(bD C K i c x).wk.length=K.wk.length:=by
 unfold bD;dsimp only;split
 ·split
  ·have j:=k6 (K:=K) (wrap64 ((K.F c).r x.b.toNat)) ((K.F c).r x.c.toNat) (h.fresh p)
   have k:(bQ K (wrap64 ((K.F c).r x.b.toNat)) ((K.F c).r x.c.toNat)).2.wk=K.wk:=n9 _ _;have n:aj (bQ K (wrap64 ((K.F c).r x.b.toNat)) ((K.F c).r x.c.toNat)).2 c:=g.gr j (by rw[k]);split
   ·exact⟨(j.trans (dV _ _ _)).trans (ef (n.gr (dV _ _ _) (fE _ _ _)) _ _),(br _ _).trans ((fE _ _ _).trans (by rw[k]))⟩
   ·exact⟨j.trans (ef n _ _),(br _ _).trans (by rw[k])⟩
  ·exact⟨ef g _ _,br _ _⟩
 have o:∀(K1:KS) (id a:Int) (y:Nat) (v:Int),K1.ai=K.ai->K1.wk=K.wk->Gr K ((eo K1 id a).ax c y v)/\((eo K1 id a).ax c y v).wk.length=K.wk.length:=fun K1 id a y v d e=>by
  have l:(eo K1 id a).ai=K.ai:=(hg K1 id a).trans d;have m:(eo K1 id a).wk=K.wk:=(kZ K1 id a).trans e;exact⟨(Gr.of_eq l).trans (ef (dy g l m) _ _),(br _ _).trans (by rw[m])⟩
 have b:∀(K1:KS) (y:Nat) (v:Int),K1.ai=K.ai->K1.wk=K.wk->Gr K (K1.ax c y v)/\(K1.ax c y v).wk.length=K.wk.length:=fun K1 y v d e=>
  ⟨(Gr.of_eq d).trans (ef (dy g d e) _ _),(br _ _).trans (by rw[e])⟩
 split
 ·split
  ·exact o _ _ _ _ _ rfl rfl
  ·exact b _ _ _ rfl rfl
 split
 ·split
  ·exact o _ _ _ _ _ rfl rfl
  ·exact b _ _ _ rfl rfl
 split
 ·exact b _ _ _ rfl rfl
 split
 ·exact b _ _ _ rfl rfl
 ·exact b _ _ _ rfl rfl
theorem sQ(k:aj K c)(x:be):Gr K (bl K i c x)/\(bl K i c x).wk.length=K.wk.length:=by
 have a:∀(K1:KS) (y:Nat) (v:Int),K1.ai=K.ai->K1.wk=K.wk->Gr K (K1.ax c y v)/\(K1.ax c y v).wk.length=K.wk.length:=fun K1 y v h j=>
  ⟨(Gr.of_eq h).trans (ef (dy k h j) _ _),(br _ _).trans (by rw[j])⟩
 unfold bl;dsimp only;split
 ·split
  ·obtain⟨p,m⟩:=nm (eJ K.q ((K.F c).r x.b.toNat) ((K.F c).r x.c.toNat))
   rw[m];obtain⟨b,d⟩:=nm (b3 ({K with q:=p.2.2,clock:=(K.clock.bp p.1).2}:KS) p.1 0);have e:Gr K b:=(by rw[<-d];exact(Gr.of_eq (K':=({K with q:=p.2.2,clock:=(K.clock.bp p.1).2}:KS)) rfl).trans (jU _ _ _));have g:b.wk=K.wk:=(by rw[<-d];exact(pQ _ _ _).1);have l:aj b c:=k.gr e (by rw[g]);show Gr K (KS.ax (if cz (b3 ({K with q:=p.2.2,clock:=(K.clock.bp p.1).2}:KS) p.1 0) p.1=3 then ep (b3 ({K with q:=p.2.2,clock:=(K.clock.bp p.1).2}:KS) p.1 0) i p.1 else b3 ({K with q:=p.2.2,clock:=(K.clock.bp p.1).2}:KS) p.1 0) c x.a.toNat p.1)/\(KS.ax (if cz (b3 ({K with q:=p.2.2,clock:=(K.clock.bp p.1).2}:KS) p.1 0) p.1=3 then ep (b3 ({K with q:=p.2.2,clock:=(K.clock.bp p.1).2}:KS) p.1 0) i p.1 else b3 ({K with q:=p.2.2,clock:=(K.clock.bp p.1).2}:KS) p.1 0) c x.a.toNat p.1).wk.length=_
   rw[d];split
   ·exact⟨(e.trans (dV _ _ _)).trans (ef (l.gr (dV _ _ _) (fE _ _ _)) _ _),(br _ _).trans ((fE _ _ _).trans (by rw[g]))⟩
   ·exact⟨e.trans (ef l _ _),(br _ _).trans (by rw[g])⟩
  ·exact a _ _ _ rfl rfl
 split
 ·exact a _ _ _ rfl rfl
 split
 ·exact a _ _ _ rfl rfl
 ·exact a _ _ _ rfl rfl
theorem ko(h:Inv N M K)(b:N<=900000){idO:Option Int}(a:aj K c)(x:be)(d:∀id,idO=some id->∃t,aw K.ai id=some t):
 (az C K i idO c x).1=0->Gr K (az C K i idO c x).2/\(az C K i idO c x).2.wk.length=K.wk.length:=by
 unfold az;dsimp only;split
 ·cases idO with
  |none=>exact fun _=>⟨Gr.refl _,rfl⟩
  |some id=>obtain⟨t,g⟩:=d id rfl;exact sO i g a x
 split
 ·exact sP a x
 split
 ·split
  ·intro e;cases e
  ·exact fun _=>⟨Gr.of_eq rfl,bG _ _⟩
 split
 ·exact fun _=>Av i a x
 split
 ·exact fun _=>yo a x
 split
 ·exact fun _=>yp h b a x
 split
 ·exact fun _=>sQ a x
 split
 ·intro e;cases e
 ·exact fun _=>⟨ef a _ _,br _ _⟩
theorem oA(K:KS)(i:Nat)(idO:Option Int)(c:cJ)(x:be):(az C K i idO c x).1=0∨(az C K i idO c x).1=1∨(az C K i idO c x).1=2:=by
 have b:∀id,(aB C K i id c x).1=0∨(aB C K i id c x).1=1∨(aB C K i id c x).1=2:=fun id=>by
  unfold aB;dsimp only
  repeat' split
  all_goals first|exact Or.inl rfl|exact Or.inr (Or.inl rfl)
 have a:(bf K i c x).1=0∨(bf K i c x).1=1∨(bf K i c x).1=2:=by
  unfold bf;dsimp only
  repeat' split
  all_goals first|exact Or.inl rfl|exact Or.inr (Or.inr rfl)
 unfold az;dsimp only;split
 ·cases idO with
  |none=>exact Or.inl rfl
  |some id=>exact b id
 split
 ·exact a
 repeat' split
 all_goals first|exact Or.inl rfl|exact Or.inr (Or.inl rfl)|exact Or.inr (Or.inr rfl)
theorem jv(K:KS)(i:Nat)(idO:Option Int)(c:cJ)(x:be):(az C K i idO c x).1=2->(az C K i idO c x).2.ai=K.ai/\(az C K i idO c x).2.wk=K.wk:=by
 have a:∀id,(aB C K i id c x).1≠2:=fun id=>by
  unfold aB;dsimp only
  repeat' split
  all_goals(intro e;cases e)
 unfold az;dsimp only;split
 ·cases idO with
  |none=>intro e;cases e
  |some id=>exact fun e=>absurd e (a id)
 split
 ·unfold bf
  dsimp only;split
  ·split
   ·exact fun _=>⟨rfl,rfl⟩
   ·intro e;cases e
  ·split
   ·exact fun _=>⟨rfl,rfl⟩
   ·split
    ·intro e;cases e
    ·intro e;cases e
 repeat' split
 all_goals first|exact fun _=>⟨rfl,rfl⟩|(intro e;cases e)
end
end
variable{M N:Nat}
theorem Aw(c1:ow C)(c2:Inv N M K)(fT:N<=700000)(fO:M<=700000)(i:Nat)(V:i<K.wk.length)(fd:0<=K.w/\K.w<K.wk.length)(h:ae w χ L Y C K):
 Calls prog 88 #[(L.mb,0),(L.wb,i*38)] w (si (.tuple #[]) χ L C (kg C K i) w):=by
 obtain⟨dZ,Y1,ex⟩:=h.pH V false;have g1:=h.we V;have g2:=h.uq (i*38+2);have c3:Inv N M (K.bj i {K.W i with parked:=false}):=c2.bj V rfl rfl ⟨(c2.gA V).f,(c2.gA V).l0,(c2.gA V).l1⟩;obtain⟨K1,c4⟩:=nm (K.bj i {K.W i with parked:=false});have cC:i<K1.wk.length:=by rw[<-c4,bG];exact V
 have fk:0<=K1.w/\K1.w<K1.wk.length:=by rw[<-c4,bG];exact fd
 have a1:Hid (kg C K i=if(eF C K1 i none (.own i)).2.1=0 then dc (eF C K1 i none (.own i)).2.2 0 (.own i) (eF C K1 i none (.own i)).1 else if(eF C K1 i none (.own i)).2.1=3∨(eF C K1 i none (.own i)).2.1=2 then gJ C (eF C K1 i none (.own i)).2.2 i else(eF C K1 i none (.own i)).2.2):=Z (by unfold kg;rw[c4]);rw[c4]at ex c3;have G:=Z ex;have U:aj K1 (.own i):=cC;have en:aR L Y1 (.own i) L.wb (i*38+4):=⟨rfl,rfl⟩;have ct:=fun w (h:ae w dZ L Y1 C K1)=>pL (.own i) L.wb (i*38+4) U en (c3.lY U).r (c3.lY U).back c1.lv c1.ll h
 have cF:=l4 c1 c3 U;have W:=ox C U;have cL:=oy C (c:=.own i) i cC;obtain⟨s,bb⟩:=nm (cB C K1 (.own i));rw[bb]at ct cF W cL;obtain⟨x,r,m⟩:=s;dsimp only at ct cF W cL;obtain⟨a2,e',e4,eS⟩:=cF;have a4:i<m.wk.length:=by rw[W.2];exact cC
 have fn:0<=m.w/\m.w<m.wk.length:=by rw[cL.2,W.2];exact fk
 have a3:aj m (.own i):=U.gr W.1 W.2;obtain⟨b,a,d,f,k,g,l⟩:=x;have a0:Hid (∀w,ae w dZ L Y1 C K1->Calls prog 132 #[(L.mb,0),(L.wb,i*38+4)] w (dk (.tuple #[.agg #[b,a,d,f,.int .u64 k,g,l],r]) dZ L Y1 C K1 m w)):=Z ct;have fL:=Z W;have F:=Z (And.intro U en);rcases e' with rfl|rfl|rfl|rfl
 ·obtain⟨aP,dr⟩:=e4 (Or.inl rfl)
  have cq:Hid (i' b=true->0<=a/\a<32):=Z (fun _=>(dz aP).1);have X:Hid (m.out.length<=900000):=Z (by have:=a2.out;omega);have ci:=Z a3;have E:Hid (kg C K i=dc m 0 (.own i) ⟨b,a,d,f,k,g,l⟩):=Z (by rw[a1];unfold eF;rw[bb];rfl);go_in
  go_wp2_with fail
  with_reducible refine(a0.out _ G.out.at_).mono ?_
  rintro e w2 ⟨rfl,P,I,o⟩;have y:=Z o;have H:=Z (G.nx.trans o.nx);have J:Hid (aR L I (.own i) L.wb (i*38+4)):=Z (F.2.yk F.1 o.yk);go_wp2
  obtain⟨u,q⟩:=nm (w2.alloc (.cells #[b,a,d,f,.int .u64 k,g,l] 184));have t:=Z (Ch.al (D:=ag) q);have B:Hid (Row u w2.heap.size 184 [b,a,d,f,.int .u64 k,g,l]/\P w2.heap.size=.no):=Z ⟨by rw[<-q];exact Row.new w2 _ _,y.at_.fresh (Nat.le_refl _)⟩;rw[q];have T:=Z (y.af t);have ad:=Z T.at_;have cl:=Z (jV 0 (.own i) L.wb (i*38+4) ci J b a d f k g l cq X ad.drew);obtain⟨c6,c7,c8,c9,ca,cb,cd⟩:=B.1.c7;go_still_tail 5,(by kernel_rfl)
  change wpList _ _ _ _ _ u.drew;go_wp2_with fail
  with_reducible refine cl.out.mono ?_
  rintro e ce ⟨rfl,Q,O,A⟩;have z:=Z (And.intro A.at_ ((H.trans (Nx.af t)).trans ((Nx.af (Ch.refl _ u).drew).trans A.nx)));go_wp2
  go_end0
  rw[E];exact⟨rfl,Q,O,z.1,z.2⟩
 ·obtain⟨aP,dr⟩:=e4 (Or.inr rfl)
  have eW:=eS rfl;have cq:Hid (i' b=true->0<=a/\a<32):=Z (fun _=>(dz aP).1);have es:=fun(w:World) (χ:Nat->a') (Y:Var) (cQ:aR L Y (.own i) L.wb (i*38+4)) (h:ae w χ L Y C m)=>mP a2 (by omega) (by omega) i a4 none (fun j av=>by cases av) (.own i) L.wb (i*38+4) a3 cQ ⟨b,a,d,f,k,g,l⟩ _ aP eW dr fn c1.pl h
  have bd:=ju (C:=C) a2 (by omega) a4 (idO:=none) a3 (jc.of aP dr) (fun j av=>by cases av);have dp:=ko (C:=C) a2 (by omega) (i:=i) (idO:=none) a3 ⟨b,a,d,f,k,g,l⟩ (fun j av=>by cases av);have cW:=jv (C:=C) m i none (.own i) ⟨b,a,d,f,k,g,l⟩;have di:=oA (C:=C) m i none (.own i) ⟨b,a,d,f,k,g,l⟩;have bx:Hid (eF C K1 i none (.own i)=if(az C m i none (.own i) ⟨b,a,d,f,k,g,l⟩).1=0 then(⟨b,a,d,f,k,g,l⟩,0,(az C m i none (.own i) ⟨b,a,d,f,k,g,l⟩).2.fA (.own i))else if(az C m i none (.own i) ⟨b,a,d,f,k,g,l⟩).1=2 then(⟨b,a,d,f,k,g,l⟩,3,(az C m i none (.own i) ⟨b,a,d,f,k,g,l⟩).2)else(⟨b,a,d,f,k,g,l⟩,1,(az C m i none (.own i) ⟨b,a,d,f,k,g,l⟩).2)):=Z (by unfold eF;rw[bb];rfl);obtain⟨p,cQ⟩:=nm (az C m i none (.own i) ⟨b,a,d,f,k,g,l⟩);rw[cQ]at es bd dp cW di bx;obtain⟨n,v⟩:=p;dsimp only at bd dp cW di;have cm:Hid (∀(w:World) (χ:Nat->a') (Y:Var),aR L Y (.own i) L.wb (i*38+4)->ae w χ L Y C m->Calls prog 133 #[(L.mb,0),(L.wb,i*38),.pointer none,(L.wb,i*38+4),.agg #[b,a,d,f,.int .u64 k,g,l]] w (dO (n,v) χ L Y C m w)):=Z es;rcases di with rfl|rfl|rfl
  ·have c5:=dp rfl
   have g0:i<v.wk.length:=(by rw[c5.2];exact a4);have cA:aj v (.own i):=a3.gr c5.1 c5.2;have a9:=Z (And.intro cA (And.intro a3 c5));have ci:Hid (aj (v.fA (.own i)) (.own i)):=Z (cA.gr (bA cA _) (br _ _));have fM:=Z bd;have X:Hid ((v.fA (.own i)).out.length<=900000):=Z (by have:(v.fA (.own i)).out=v.out:=sx _ _;rw[this];have:=bd.out;omega);have E:Hid (kg C K i=dc (v.fA (.own i)) 0 (.own i) ⟨b,a,d,f,k,g,l⟩):=Z (by rw[a1,bx];rfl);go_in
   go_wp2_with fail
   with_reducible refine(a0.out _ G.out.at_).mono ?_
   rintro e w2 ⟨rfl,P,I,o⟩;have y:=Z o;have H:=Z (G.nx.trans o.nx);have J:Hid (aR L I (.own i) L.wb (i*38+4)):=Z (F.2.yk F.1 o.yk);go_wp2
   obtain⟨u,q⟩:=nm (w2.alloc (.cells #[b,a,d,f,.int .u64 k,g,l] 184));have t:=Z (Ch.al (D:=ag) q);have B:Hid (Row u w2.heap.size 184 [b,a,d,f,.int .u64 k,g,l]/\P w2.heap.size=.no):=Z ⟨by rw[<-q];exact Row.new w2 _ _,y.at_.fresh (Nat.le_refl _)⟩;rw[q];have T:=Z (y.af t);obtain⟨c6,c7,c8,c9,ca,cb,cd⟩:=B.1.c7;go_still_tail 6,(by kernel_rfl)
   change wpList _ _ _ _ _ u.drew;go_wp2_with fail
   have ap:=cm _ _ _ J T.at_.drew;with_reducible refine ap.mono ?_
   rintro e w4 ⟨rfl,ch,c0,am,bi,bv⟩;have S:=Z am;have R:=Z ((Nx.af (Ch.refl _ u).drew).trans bi);have al:=Z ((H.trans (Nx.af t)).trans R);have cs:=Z bv;have bw:=Z (R.row B.1 B.2);have bZ:=Z (J.yk a9.2.1 (cs (by intro e;cases e)));have fz:=S.uu a9.1 bZ;have f0:=S.hy a9.1 bZ (i*38+4);obtain⟨pc,cS⟩:=nm ((v.F (.own i)).pc);rw[cS]at fz;have et:=S.qM a9.1 bZ (wrap64 ((v.F (.own i)).pc+1));rw[cS]at et;have eG:=Z et;have eC:=Z cS;go_wp2
   obtain⟨fK,eL,dN⟩:=eG.out;obtain⟨dC,fr⟩:=nm (w4.setCell (L.wb,i*38+4) (.int .i64 (wrap64 (pc+1))));rw[fr]at dN⊢;have bX:Hid (dD ch L c0 C v (v.fA (.own i)) w4 fK eL dC):=Z (by unfold KS.fA;rw[eC];exact dN);have eA:=Z bX.at_;have eI:=Z (bZ.yk a9.1 bX.yk);have ey:=Z (bX.nx.row bw.1 bw.2);have cl:=Z (jV 0 (.own i) L.wb (i*38+4) ci eI b a d f k g l cq X eA.drew);obtain⟨c6,c7,c8,c9,ca,cb,cd⟩:=ey.1.c7;go_still_tail 5,(by kernel_rfl)
   change wpList _ _ _ _ _ dC.drew;go_wp2_with fail
   with_reducible refine cl.out.mono ?_
   rintro e ce ⟨rfl,Q,O,A⟩;have z:=Z (And.intro A.at_ ((al.trans bX.nx).trans ((Nx.af (Ch.refl _ dC).drew).trans A.nx)));go_wp2
   go_end0
   rw[E];exact⟨rfl,Q,O,z.1,z.2⟩
  ·have E:Hid (kg C K i=v):=Z (by rw[a1,bx];rfl)
   go_in
   go_wp2_with fail
   with_reducible refine(a0.out _ G.out.at_).mono ?_
   rintro e w2 ⟨rfl,P,I,o⟩;have y:=Z o;have H:=Z (G.nx.trans o.nx);have J:Hid (aR L I (.own i) L.wb (i*38+4)):=Z (F.2.yk F.1 o.yk);go_wp2
   obtain⟨u,q⟩:=nm (w2.alloc (.cells #[b,a,d,f,.int .u64 k,g,l] 184));have t:=Z (Ch.al (D:=ag) q);have B:Hid (Row u w2.heap.size 184 [b,a,d,f,.int .u64 k,g,l]/\P w2.heap.size=.no):=Z ⟨by rw[<-q];exact Row.new w2 _ _,y.at_.fresh (Nat.le_refl _)⟩;rw[q];have T:=Z (y.af t);obtain⟨c6,c7,c8,c9,ca,cb,cd⟩:=B.1.c7;go_still_tail 6,(by kernel_rfl)
   change wpList _ _ _ _ _ u.drew;go_wp2_with fail
   have ap:=cm _ _ _ J T.at_.drew;with_reducible refine ap.mono ?_
   rintro e w4 ⟨rfl,ch,c0,am,bi,bv⟩;have S:=Z am;have R:=Z ((Nx.af (Ch.refl _ u).drew).trans bi);have al:=Z ((H.trans (Nx.af t)).trans R);have cs:=Z bv;have bw:=Z (R.row B.1 B.2);go_wp2
   go_end0
   rw[E];exact⟨rfl,ch,c0,S,al⟩
  ·have fb:=cW rfl
   have X:Hid (v.out.length<=900000):=Z (by have:=bd.out;omega);have ab:Hid (i<v.wk.length):=Z (by rw[fb.2];exact a4);have E:Hid (kg C K i=gJ C v i):=Z (by rw[a1,bx];rfl);go_in
   go_wp2_with fail
   with_reducible refine(a0.out _ G.out.at_).mono ?_
   rintro e w2 ⟨rfl,P,I,o⟩;have y:=Z o;have H:=Z (G.nx.trans o.nx);have J:Hid (aR L I (.own i) L.wb (i*38+4)):=Z (F.2.yk F.1 o.yk);go_wp2
   obtain⟨u,q⟩:=nm (w2.alloc (.cells #[b,a,d,f,.int .u64 k,g,l] 184));have t:=Z (Ch.al (D:=ag) q);have B:Hid (Row u w2.heap.size 184 [b,a,d,f,.int .u64 k,g,l]/\P w2.heap.size=.no):=Z ⟨by rw[<-q];exact Row.new w2 _ _,y.at_.fresh (Nat.le_refl _)⟩;rw[q];have T:=Z (y.af t);obtain⟨c6,c7,c8,c9,ca,cb,cd⟩:=B.1.c7;go_still_tail 6,(by kernel_rfl)
   change wpList _ _ _ _ _ u.drew;go_wp2_with fail
   have ap:=cm _ _ _ J T.at_.drew;with_reducible refine ap.mono ?_
   rintro e w4 ⟨rfl,ch,c0,am,bi,bv⟩;have S:=Z am;have R:=Z ((Nx.af (Ch.refl _ u).drew).trans bi);have al:=Z ((H.trans (Nx.af t)).trans R);have cs:=Z bv;have bw:=Z (R.row B.1 B.2);have a5:=Z (iM i ab S);go_wp2_with fail
   with_reducible refine a5.out.mono ?_
   rintro e ce ⟨rfl,Q,O,A⟩;have z:=Z (And.intro A.at_ ((al).trans A.nx));go_wp2
   go_end0
   rw[E];exact⟨rfl,Q,O,z.1,z.2⟩
 ·have X:Hid (m.out.length<=900000):=Z (by have:=a2.out;omega)
  have ab:=Z a4;have E:Hid (kg C K i=gJ C m i):=Z (by rw[a1];unfold eF;rw[bb];rfl);go_in
  go_wp2_with fail
  with_reducible refine(a0.out _ G.out.at_).mono ?_
  rintro e w2 ⟨rfl,P,I,o⟩;have y:=Z o;have H:=Z (G.nx.trans o.nx);have J:Hid (aR L I (.own i) L.wb (i*38+4)):=Z (F.2.yk F.1 o.yk);go_wp2_with fail
  generalize q:w2.alloc _=u;have t:=Z (Ch.al (D:=ag) q);have ad:=Z (y.af t).at_;have a5:=Z (iM i ab ad);go_wp2_with fail
  with_reducible refine a5.out.mono ?_
  rintro e ce ⟨rfl,Q,O,A⟩;have z:=Z (And.intro A.at_ ((H.trans (Nx.af t)).trans A.nx));go_wp2
  go_end0
  rw[E];exact⟨rfl,Q,O,z.1,z.2⟩
 ·have X:Hid (m.out.length<=900000):=Z (by have:=a2.out;omega)
  have ab:=Z a4;have E:Hid (kg C K i=gJ C m i):=Z (by rw[a1];unfold eF;rw[bb];rfl);go_in
  go_wp2_with fail
  with_reducible refine(a0.out _ G.out.at_).mono ?_
  rintro e w2 ⟨rfl,P,I,o⟩;have y:=Z o;have H:=Z (G.nx.trans o.nx);have J:Hid (aR L I (.own i) L.wb (i*38+4)):=Z (F.2.yk F.1 o.yk);go_wp2_with fail
  generalize q:w2.alloc _=u;have t:=Z (Ch.al (D:=ag) q);have ad:=Z (y.af t).at_;have a5:=Z (iM i ab ad);go_wp2_with fail
  with_reducible refine a5.out.mono ?_
  rintro e ce ⟨rfl,Q,O,A⟩;have z:=Z (And.intro A.at_ ((H.trans (Nx.af t)).trans A.nx));go_wp2
  go_end0
  rw[E];exact⟨rfl,Q,O,z.1,z.2⟩
theorem ld(cm:ow C)(g8:Inv N M K)(gY:N<=700000)(gW:M<=700000)(i:Nat)(g9:i<K.wk.length)(id:Int)(t:Thread)(bX:aw K.ai id=some t)(gk:(K.W i).slot=id)(fn:id≠0)(fK:t.l.length%2=0)(k:Nat)(he:k+1=t.l.length)(gr:0<=K.w/\K.w<K.wk.length)(h:ae w χ L Y C K):
 Calls prog 90 #[(L.mb,0),(L.wb,i*38),(Y.bI id,0),(Y.fb id k,0)] w (si (.tuple #[]) χ L C (cD C K i id k) w):=by
 have es:=g8;have fz:=g9;have gs:=gr;have U:=Z (dD.refl h);have bv:Hid (cD C K i id k=if(eF C K i (some id) (.ai id k)).2.1=0 then dc (eF C K i (some id) (.ai id k)).2.2 id (.ai id k) (eF C K i (some id) (.ai id k)).1 else if(eF C K i (some id) (.ai id k)).2.1=3∨(eF C K i (some id) (.ai id k)).2.1=2 then eE (eF C K i (some id) (.ai id k)).2.2 id 22 0 else(eF C K i (some id) (.ai id k)).2.2):=Z (by unfold cD;rfl);have ap:aj K (.ai id k):=⟨t,bX,by omega⟩;obtain⟨b,hb⟩:=nm (Y.fb id k);obtain⟨tb,c7⟩:=nm (Y.bI id);have fO:aR L Y (.ai id k) b 0:=⟨hb.symm,rfl⟩;rw[hb,c7];have eS:=pR C (K:=K) (k:=k) bX;have et:=fun w (h:ae w χ L Y C K)=>pL (.ai id k) b 0 ap fO (es.lY ap).r (es.lY ap).back cm.lv cm.ll h
 have ey:=l4 cm es ap;have av:=ox C ap;have cs:=oy C (c:=.ai id k) i fz;obtain⟨s,c6⟩:=nm (cB C K (.ai id k));rw[c6]at et ey av cs eS;obtain⟨x,r,g⟩:=s;dsimp only at et ey av cs eS;obtain⟨P,ge,fM,gc⟩:=ey;have ex:i<g.wk.length:=by rw[av.2];exact fz
 have gt:0<=g.w/\g.w<g.wk.length:=by rw[cs.2,av.2];exact gs
 have bw:aj g (.ai id k):=ap.gr av.1 av.2;obtain⟨t2,B,fL,_⟩:=eS;have cq:=(P.de B).id;have fT:(g.W i).slot=id:=cs.1.trans gk;obtain⟨f,a,l,m,q,o,y⟩:=x;have bi:Hid (∀w,ae w χ L Y C K->Calls prog 132 #[(L.mb,0),(b,0)] w (dk (.tuple #[.agg #[f,a,l,m,.int .u64 q,o,y],r]) χ L Y C K g w)):=Z et;have gO:=Z av;have T:=Z (And.intro ap fO);rcases ge with rfl|rfl|rfl|rfl
 ·have J:=Z (And.intro bX c7)
  have G:Hid (aw g.ai id=some t2/\t2.id=id/\1<t2.l.length/\t2.l.length<=8):=Z ⟨B,cq,by have:=(P.de B).l.n0;omega,(P.de B).l.n8⟩;obtain⟨c5,e'⟩:=fM (Or.inl rfl);have dN:Hid (i' f=true->0<=a/\a<32):=Z (fun _=>(dz c5).1);have a2:Hid (g.out.length<=900000):=Z (by have:=P.out;omega);have dp:=Z bw;have E:Hid (cD C K i id k=dc g id (.ai id k) ⟨f,a,l,m,q,o,y⟩):=Z (by rw[bv];unfold eF;rw[c6];rfl);go_in
  go_wp2_with fail
  with_reducible refine(bi.out _ U.out.at_).mono ?_
  rintro e w2 ⟨rfl,a4,W,d⟩;have O:=Z d;have V:=Z (U.nx.trans d.nx);have a1:Hid (aR L W (.ai id k) b 0):=Z (T.2.yk T.1 d.yk);have H:=(d.yk id t J.1).1;rw[J.2]at H;have S:=Z H;go_wp2
  obtain⟨I,A⟩:=nm (w2.alloc (.cells #[f,a,l,m,.int .u64 q,o,y] 184));have F:=Z (Ch.al (D:=ag) A);have R:Hid (Row I w2.heap.size 184 [f,a,l,m,.int .u64 q,o,y]/\a4 w2.heap.size=.no):=Z ⟨by rw[<-A];exact Row.new w2 _ _,O.at_.fresh (Nat.le_refl _)⟩;rw[A];have am:=Z (O.af F);have bd:=Z am.at_;have dr:=Z (jV id (.ai id k) b 0 dp a1 f a l m q o y dN a2 bd.drew);obtain⟨ct,cA,cC,cF,cL,cQ,cS⟩:=R.1.c7;have en:=bd.gw G.1;rw[G.2.1,S]at en;go_still_tail 9,(by kernel_rfl)
  change wpList _ _ _ _ _ I.drew;go_wp2_with fail
  with_reducible refine dr.out.mono ?_
  rintro e cW ⟨rfl,a5,a3,X⟩;have Q:=Z (And.intro X.at_ ((V.trans (Nx.af F)).trans ((Nx.af (Ch.refl _ I).drew).trans X.nx)));go_wp2
  go_end0
  rw[E];exact⟨rfl,a5,a3,Q.1,Q.2⟩
 ·have J:=Z (And.intro bX c7)
  have G:Hid (aw g.ai id=some t2/\t2.id=id/\1<t2.l.length/\t2.l.length<=8):=Z ⟨B,cq,by have:=(P.de B).l.n0;omega,(P.de B).l.n8⟩;obtain⟨c5,e'⟩:=fM (Or.inr rfl);have gd:=gc rfl;have dN:Hid (i' f=true->0<=a/\a<32):=Z (fun _=>(dz c5).1);have g0:=fun(w:World) (χ:Nat->a') (Y:Var) (eA:aR L Y (.ai id k) b 0) (h:ae w χ L Y C g)=>mP P (by omega) (by omega) i ex (some id) (fun j a0=>by injection a0 with a0;subst a0;exact⟨fT,fn,t2,B,by rw[fL];exact fK⟩) (.ai id k) b 0 bw eA ⟨f,a,l,m,q,o,y⟩ _ c5 gd e' gt cm.pl h
  have aP:=ju (C:=C) P (by omega) ex (idO:=(some id)) bw (jc.of c5 e') (fun j a0=>by injection a0 with a0;subst a0;exact⟨fT,fn,t2,B,by rw[fL];exact fK⟩);have eL:=ko (C:=C) P (by omega) (i:=i) (idO:=(some id)) bw ⟨f,a,l,m,q,o,y⟩ (fun j a0=>by injection a0 with a0;subst a0;exact⟨t2,B⟩);have eG:=jv (C:=C) g i (some id) (.ai id k) ⟨f,a,l,m,q,o,y⟩;have eI:=oA (C:=C) g i (some id) (.ai id k) ⟨f,a,l,m,q,o,y⟩;have ce:Hid (eF C K i (some id) (.ai id k)=if(az C g i (some id) (.ai id k) ⟨f,a,l,m,q,o,y⟩).1=0 then(⟨f,a,l,m,q,o,y⟩,0,(az C g i (some id) (.ai id k) ⟨f,a,l,m,q,o,y⟩).2.fA (.ai id k))else if(az C g i (some id) (.ai id k) ⟨f,a,l,m,q,o,y⟩).1=2 then(⟨f,a,l,m,q,o,y⟩,3,(az C g i (some id) (.ai id k) ⟨f,a,l,m,q,o,y⟩).2)else(⟨f,a,l,m,q,o,y⟩,1,(az C g i (some id) (.ai id k) ⟨f,a,l,m,q,o,y⟩).2)):=Z (by unfold eF;rw[c6];rfl);obtain⟨p,eA⟩:=nm (az C g i (some id) (.ai id k) ⟨f,a,l,m,q,o,y⟩);rw[eA]at g0 aP eL eG eI ce;obtain⟨n,z⟩:=p;dsimp only at aP eL eG eI;have dC:Hid (∀(w:World) (χ:Nat->a') (Y:Var),aR L Y (.ai id k) b 0->ae w χ L Y C g->Calls prog 133 #[(L.mb,0),(L.wb,i*38),(Y.bI id,0),(b,0),.agg #[f,a,l,m,.int .u64 q,o,y]] w (dO (n,z) χ L Y C g w)):=Z g0;rcases eI with rfl|rfl|rfl
  ·have c4:=eL rfl
   have hd:i<z.wk.length:=(by rw[c4.2];exact ex);have bx:aj z (.ai id k):=bw.gr c4.1 c4.2;have bb:=Z (And.intro bx (And.intro bw c4));have dp:Hid (aj (z.fA (.ai id k)) (.ai id k)):=Z (bx.gr (bA bx _) (br _ _));have gP:=Z aP;have a2:Hid ((z.fA (.ai id k)).out.length<=900000):=Z (by have:(z.fA (.ai id k)).out=z.out:=sx _ _;rw[this];have:=aP.out;omega);have E:Hid (cD C K i id k=dc (z.fA (.ai id k)) id (.ai id k) ⟨f,a,l,m,q,o,y⟩):=Z (by rw[bv,ce];rfl);obtain⟨t4,g2⟩:∃t4,aw (z.fA (.ai id k)).ai id=some t4:=by obtain⟨u,eW,_⟩:=c4.1 id t2 B;obtain⟨v,go,_⟩:=bA bx {z.F (.ai id k)with pc:=wrap64 ((z.F (.ai id k)).pc+1)} id u eW;exact⟨v,go⟩
   have fk:Hid (aw (z.fA (.ai id k)).ai id=some t4/\t4.id=id):=Z ⟨g2,((aP.cI bx ((aP.lY bx).pc _)).de g2).id⟩;go_in
   go_wp2_with fail
   with_reducible refine(bi.out _ U.out.at_).mono ?_
   rintro e w2 ⟨rfl,a4,W,d⟩;have O:=Z d;have V:=Z (U.nx.trans d.nx);have a1:Hid (aR L W (.ai id k) b 0):=Z (T.2.yk T.1 d.yk);have H:=(d.yk id t J.1).1;rw[J.2]at H;have S:=Z H;go_wp2
   obtain⟨I,A⟩:=nm (w2.alloc (.cells #[f,a,l,m,.int .u64 q,o,y] 184));have F:=Z (Ch.al (D:=ag) A);have R:Hid (Row I w2.heap.size 184 [f,a,l,m,.int .u64 q,o,y]/\a4 w2.heap.size=.no):=Z ⟨by rw[<-A];exact Row.new w2 _ _,O.at_.fresh (Nat.le_refl _)⟩;rw[A];have am:=Z (O.af F);obtain⟨ct,cA,cC,cF,cL,cQ,cS⟩:=R.1.c7;go_still_tail 7,(by kernel_rfl)
   change wpList _ _ _ _ _ I.drew;go_wp2_with fail
   have ad:=dC _ _ _ a1 am.at_.drew;rw[S]at ad;with_reducible refine ad.mono ?_
   rintro e w4 ⟨rfl,di,cl,c3,c9,cb⟩;have al:=Z c3;have a9:=Z ((Nx.af (Ch.refl _ I).drew).trans c9);have c1:=Z ((V.trans (Nx.af F)).trans a9);have c2:=Z cb;have cd:=Z (a9.row R.1 R.2);have ci:=Z (a1.yk bb.2.1 (c2 (by intro e;cases e)));have gG:=al.uu bb.1 ci;have f0:=al.hy bb.1 ci 0;obtain⟨pc,eC⟩:=nm ((z.F (.ai id k)).pc);rw[eC]at gG;have g1:=al.qM bb.1 ci (wrap64 ((z.F (.ai id k)).pc+1));rw[eC]at g1;have g5:=Z g1;have g4:=Z eC;have c8:=(c2 (by intro e;cases e) id t2 G.1).1;rw[S]at c8;have e4:=Z c8;go_wp2
   obtain⟨gH,g7,fr⟩:=g5.out;obtain⟨fb,gF⟩:=nm (w4.setCell (b,0) (.int .i64 (wrap64 (pc+1))));rw[gF]at fr⊢;have c0:Hid (dD di L cl C z (z.fA (.ai id k)) w4 gH g7 fb):=Z (by unfold KS.fA;rw[g4];exact fr);have fd:=Z c0.at_;have g6:=Z (ci.yk bb.1 c0.yk);have g3:=Z (c0.nx.row cd.1 cd.2);have dr:=Z (jV id (.ai id k) b 0 dp g6 f a l m q o y dN a2 fd.drew);obtain⟨ct,cA,cC,cF,cL,cQ,cS⟩:=g3.1.c7;have en:=fd.gw fk.1;obtain⟨u,eW,_⟩:=bb.2.2.1 id t2 G.1;rw[fk.2,(c0.yk id u eW).1,e4]at en;go_still_tail 9,(by kernel_rfl)
   change wpList _ _ _ _ _ fb.drew;go_wp2_with fail
   with_reducible refine dr.out.mono ?_
   rintro e cW ⟨rfl,a5,a3,X⟩;have Q:=Z (And.intro X.at_ ((c1.trans c0.nx).trans ((Nx.af (Ch.refl _ fb).drew).trans X.nx)));go_wp2
   go_end0
   rw[E];exact⟨rfl,a5,a3,Q.1,Q.2⟩
  ·have E:Hid (cD C K i id k=z):=Z (by rw[bv,ce];rfl)
   go_in
   go_wp2_with fail
   with_reducible refine(bi.out _ U.out.at_).mono ?_
   rintro e w2 ⟨rfl,a4,W,d⟩;have O:=Z d;have V:=Z (U.nx.trans d.nx);have a1:Hid (aR L W (.ai id k) b 0):=Z (T.2.yk T.1 d.yk);have H:=(d.yk id t J.1).1;rw[J.2]at H;have S:=Z H;go_wp2
   obtain⟨I,A⟩:=nm (w2.alloc (.cells #[f,a,l,m,.int .u64 q,o,y] 184));have F:=Z (Ch.al (D:=ag) A);have R:Hid (Row I w2.heap.size 184 [f,a,l,m,.int .u64 q,o,y]/\a4 w2.heap.size=.no):=Z ⟨by rw[<-A];exact Row.new w2 _ _,O.at_.fresh (Nat.le_refl _)⟩;rw[A];have am:=Z (O.af F);obtain⟨ct,cA,cC,cF,cL,cQ,cS⟩:=R.1.c7;go_still_tail 7,(by kernel_rfl)
   change wpList _ _ _ _ _ I.drew;go_wp2_with fail
   have ad:=dC _ _ _ a1 am.at_.drew;rw[S]at ad;with_reducible refine ad.mono ?_
   rintro e w4 ⟨rfl,di,cl,c3,c9,cb⟩;have al:=Z c3;have a9:=Z ((Nx.af (Ch.refl _ I).drew).trans c9);have c1:=Z ((V.trans (Nx.af F)).trans a9);have c2:=Z cb;have cd:=Z (a9.row R.1 R.2);go_wp2
   go_end0
   rw[E];exact⟨rfl,di,cl,al,c1⟩
  ·have gf:=eG rfl
   have a2:Hid (z.out.length<=900000):=Z (by have:=aP.out;omega);have ch:Hid (aw z.ai id=some t2/\t2.id=id/\1<t2.l.length/\t2.l.length<=8):=Z ⟨by rw[gf.1];exact B,G.2⟩;have E:Hid (cD C K i id k=eE z id 22 0):=Z (by rw[bv,ce];rfl);go_in
   go_wp2_with fail
   with_reducible refine(bi.out _ U.out.at_).mono ?_
   rintro e w2 ⟨rfl,a4,W,d⟩;have O:=Z d;have V:=Z (U.nx.trans d.nx);have a1:Hid (aR L W (.ai id k) b 0):=Z (T.2.yk T.1 d.yk);have H:=(d.yk id t J.1).1;rw[J.2]at H;have S:=Z H;go_wp2
   obtain⟨I,A⟩:=nm (w2.alloc (.cells #[f,a,l,m,.int .u64 q,o,y] 184));have F:=Z (Ch.al (D:=ag) A);have R:Hid (Row I w2.heap.size 184 [f,a,l,m,.int .u64 q,o,y]/\a4 w2.heap.size=.no):=Z ⟨by rw[<-A];exact Row.new w2 _ _,O.at_.fresh (Nat.le_refl _)⟩;rw[A];have am:=Z (O.af F);obtain⟨ct,cA,cC,cF,cL,cQ,cS⟩:=R.1.c7;go_still_tail 7,(by kernel_rfl)
   change wpList _ _ _ _ _ I.drew;go_wp2_with fail
   have ad:=dC _ _ _ a1 am.at_.drew;rw[S]at ad;with_reducible refine ad.mono ?_
   rintro e w4 ⟨rfl,di,cl,c3,c9,cb⟩;have al:=Z c3;have a9:=Z ((Nx.af (Ch.refl _ I).drew).trans c9);have c1:=Z ((V.trans (Nx.af F)).trans a9);have c2:=Z cb;have cd:=Z (a9.row R.1 R.2);have c8:=(c2 (by intro e;cases e) id t2 G.1).1;rw[S]at c8;have e4:=Z c8;have ab:=hO id t2 ch.1 ch.2.1 ch.2.2.1 ch.2.2.2 22 0 a2 al;rw[e4]at ab;have bZ:=Z ab;go_wp2_with fail
   with_reducible refine bZ.out.mono ?_
   rintro e cW ⟨rfl,a5,a3,X,ca⟩;have Q:=Z (And.intro X ((c1).trans ca));go_wp2
   go_end0
   rw[E];exact⟨rfl,a5,a3,Q.1,Q.2⟩
 ·have J:=Z (And.intro bX c7)
  have G:Hid (aw g.ai id=some t2/\t2.id=id/\1<t2.l.length/\t2.l.length<=8):=Z ⟨B,cq,by have:=(P.de B).l.n0;omega,(P.de B).l.n8⟩;have a2:Hid (g.out.length<=900000):=Z (by have:=P.out;omega);have E:Hid (cD C K i id k=eE g id 22 0):=Z (by rw[bv];unfold eF;rw[c6];rfl);go_in
  go_wp2_with fail
  with_reducible refine(bi.out _ U.out.at_).mono ?_
  rintro e w2 ⟨rfl,a4,W,d⟩;have O:=Z d;have V:=Z (U.nx.trans d.nx);have a1:Hid (aR L W (.ai id k) b 0):=Z (T.2.yk T.1 d.yk);have H:=(d.yk id t J.1).1;rw[J.2]at H;have S:=Z H;go_wp2_with fail
  generalize A:w2.alloc _=I;have F:=Z (Ch.al (D:=ag) A);have bd:=Z (O.af F).at_;have ab:=hO id t2 G.1 G.2.1 G.2.2.1 G.2.2.2 22 0 a2 bd;rw[S]at ab;have bZ:=Z ab;go_wp2_with fail
  with_reducible refine bZ.out.mono ?_
  rintro e cW ⟨rfl,a5,a3,X,ca⟩;have Q:=Z (And.intro X ((V.trans (Nx.af F)).trans ca));go_wp2
  go_end0
  rw[E];exact⟨rfl,a5,a3,Q.1,Q.2⟩
 ·have J:=Z (And.intro bX c7)
  have G:Hid (aw g.ai id=some t2/\t2.id=id/\1<t2.l.length/\t2.l.length<=8):=Z ⟨B,cq,by have:=(P.de B).l.n0;omega,(P.de B).l.n8⟩;have a2:Hid (g.out.length<=900000):=Z (by have:=P.out;omega);have E:Hid (cD C K i id k=eE g id 22 0):=Z (by rw[bv];unfold eF;rw[c6];rfl);go_in
  go_wp2_with fail
  with_reducible refine(bi.out _ U.out.at_).mono ?_
  rintro e w2 ⟨rfl,a4,W,d⟩;have O:=Z d;have V:=Z (U.nx.trans d.nx);have a1:Hid (aR L W (.ai id k) b 0):=Z (T.2.yk T.1 d.yk);have H:=(d.yk id t J.1).1;rw[J.2]at H;have S:=Z H;go_wp2_with fail
  generalize A:w2.alloc _=I;have F:=Z (Ch.al (D:=ag) A);have bd:=Z (O.af F).at_;have ab:=hO id t2 G.1 G.2.1 G.2.2.1 G.2.2.2 22 0 a2 bd;rw[S]at ab;have bZ:=Z ab;go_wp2_with fail
  with_reducible refine bZ.out.mono ?_
  rintro e cW ⟨rfl,a5,a3,X,ca⟩;have Q:=Z (And.intro X ((V.trans (Nx.af F)).trans ca));go_wp2
  go_end0
  rw[E];exact⟨rfl,a5,a3,Q.1,Q.2⟩
variable{b:Nat}{t:TypeId}{pre:List Value}{v:Value}{f:cP}
def uL(T:TypeId)(l:List Value)(w:World)(p:Value)(wc:World):Prop:=∃a,p=.pointer (some ⟨a,0,none⟩)/\Row wc a T l/\Ch ag w wc/\w.heap.size<=a
theorem hR{w:World}{post:List Value}(h:aJ w b 0 t pre post v f)(k:Nat)(a:k<32):w.cell? (b,1+k)=some (.int .u64 (f.r k)):=by
 have:=h.mD k a
 rwa [show 0+1+k=1+k by omega]at this
theorem e3{w:World}{post:List Value}(h:aJ w b 0 t pre post v f)(c:t≠3)(k:Nat)(a:k<32)(x:Int):aJ (w.setCell (b,1+k) (.int .u64 x)) b 0 t pre post v {f with r:=fW f.r k x}:=by
 have:=h.qu c k a x
 rwa [show 0+1+k=1+k by omega]at this
theorem CJ{f:FuncId}{args:Array Value}{w:World}(h:Calls prog f args w (ez v w)):Calls prog f args w (ds v w):=h.mono fun _ _ h=>⟨h.1,by rw[h.2];exact Ch.refl _ _⟩
def bn(K:KS)(k0 k1 k2 k3 a0 a1 a2 a3:Int)(k:Nat):Nat->Int:=fun j=>
 if j=0 then(if k<=0 then a0 else dg K k0 a0)else if j=1 then(if k<=1 then a1 else dg K k1 a1)else if j=2 then(if k<=2 then a2 else dg K k2 a2)else if j=3 then(if k<=3 then a3 else dg K k3 a3)else 0
variable{k0 k1 k2 k3 a0 a1 a2 a3:Int}
theorem qZ(x:Int)(h:x=dg K k0 a0):fW (bn K k0 k1 k2 k3 a0 a1 a2 a3 0) 0 x=bn K k0 k1 k2 k3 a0 a1 a2 a3 1:=by
 funext j;unfold fW bn
 by_cases a:j=0
 ·subst a;simp[h]
 ·by_cases c:j=1<;>by_cases d:j=2<;>by_cases e:j=3<;>simp[a,c,d,e]
theorem q0(x:Int)(h:x=dg K k1 a1):fW (bn K k0 k1 k2 k3 a0 a1 a2 a3 1) 1 x=bn K k0 k1 k2 k3 a0 a1 a2 a3 2:=by
 funext j;unfold fW bn
 by_cases a:j=1
 ·subst a;simp[h]
 ·by_cases c:j=0<;>by_cases d:j=2<;>by_cases e:j=3<;>simp[c,a,d,e]
theorem q1(x:Int)(h:x=dg K k2 a2):fW (bn K k0 k1 k2 k3 a0 a1 a2 a3 2) 2 x=bn K k0 k1 k2 k3 a0 a1 a2 a3 3:=by
 funext j;unfold fW bn
 by_cases a:j=2
 ·subst a;simp[h]
 ·by_cases c:j=0<;>by_cases d:j=1<;>by_cases e:j=3<;>simp[c,d,a,e]
theorem q2(x:Int)(h:x=dg K k3 a3):fW (bn K k0 k1 k2 k3 a0 a1 a2 a3 3) 3 x=bn K k0 k1 k2 k3 a0 a1 a2 a3 4:=by
 funext j;unfold fW bn
 by_cases a:j=3
 ·subst a;simp[h]
 ·by_cases c:j=0<;>by_cases d:j=1<;>by_cases e:j=2<;>simp[c,d,e,a]
theorem AB(h:a0=dg K k0 a0):bn K k0 k1 k2 k3 a0 a1 a2 a3 1=bn K k0 k1 k2 k3 a0 a1 a2 a3 0:=by rw[<-qZ a0 h];funext j;unfold fW bn;by_cases e:j=0<;>simp[e]
theorem AD(h:a1=dg K k1 a1):bn K k0 k1 k2 k3 a0 a1 a2 a3 2=bn K k0 k1 k2 k3 a0 a1 a2 a3 1:=by rw[<-q0 a1 h];funext j;unfold fW bn;by_cases e:j=1<;>simp[e]
theorem AE(h:a2=dg K k2 a2):bn K k0 k1 k2 k3 a0 a1 a2 a3 3=bn K k0 k1 k2 k3 a0 a1 a2 a3 2:=by rw[<-q1 a2 h];funext j;unfold fW bn;by_cases e:j=2<;>simp[e]
theorem AF(h:a3=dg K k3 a3):bn K k0 k1 k2 k3 a0 a1 a2 a3 4=bn K k0 k1 k2 k3 a0 a1 a2 a3 3:=by rw[<-q2 a3 h];funext j;unfold fW bn;by_cases e:j=3<;>simp[e]
def pS(K:KS)(k0 k1 k2 k3 a0 a1 a2 a3 n:Int):Nat->Int:=fun j=>if j=0 then dg K k0 a0 else if j=1 then dg K k1 a1 else if j=2 then dg K k2 a2 else if j=3 then dg K k3 a3 else if j=30 then a0 else if j=31 then n else 0
theorem yq(n:Int):fW (fW (bn K k0 k1 k2 k3 a0 a1 a2 a3 4) 30 a0) 31 n=pS K k0 k1 k2 k3 a0 a1 a2 a3 n:=by
 funext j;unfold fW bn pS
 by_cases a:j=31
 ·subst a;simp
 ·by_cases c:j=30
  ·subst c;simp
  ·simp[a,c]
variable{w':World}
theorem pT{N M:Nat}(a9:ow C)(c8:Inv N M K)(md:N<=700000)(mc:M<=700000)(id:Int)(t:Thread)(bb:aw K.ai id=some t)(k:Nat)(ih:k+1=t.l.length)(ii:t.l.length%2=1)(num:Int)(ip:0<=num)(es:num<=1000000)(h:ae w χ L Y C K):
 Calls prog 138 #[(L.mb,0),(Y.bI id,0),.pointer (some ⟨Y.fb id k,0,none⟩),num] w (si (.tuple #[]) χ L C (hr C K id k num) w):=by
 have c9:aj K (.ai id k):=⟨t,bb,by omega⟩;have hid:=(c8.de bb).id;have g1:=(c8.de bb).l;have je:=(c8.lY c9).r;obtain⟨b,hb⟩:=nm (Y.fb id k);obtain⟨tb,ex⟩:=nm (Y.bI id);have cF:aR L Y (.ai id k) b 0:=⟨hb.symm,rfl⟩;rw[hb,ex];obtain⟨a0,fk⟩:∃a,(K.F (.ai id k)).r 0=a:=⟨_,rfl⟩;obtain⟨a1,fn⟩:∃a,(K.F (.ai id k)).r 1=a:=⟨_,rfl⟩;obtain⟨a2,fz⟩:∃a,(K.F (.ai id k)).r 2=a:=⟨_,rfl⟩;obtain⟨a3,fK⟩:∃a,(K.F (.ai id k)).r 3=a:=⟨_,rfl⟩;have jI:w.cell? (b,1)=some (.int .u64 a0):=by have:=h.aA c9 cF 0 (by omega);rw[fk]at this;exact this
 have jJ:w.cell? (b,2)=some (.int .u64 a1):=by have:=h.aA c9 cF 1 (by omega);rw[fn]at this;exact this
 have jK:w.cell? (b,3)=some (.int .u64 a2):=by have:=h.aA c9 cF 2 (by omega);rw[fz]at this;exact this
 have jL:w.cell? (b,4)=some (.int .u64 a3):=by have:=h.aA c9 cF 3 (by omega);rw[fK]at this;exact this
 have c5:=h.gw bb;rw[hid,ex]at c5;have mi:∀w,(Instr.arrayAt 80 (.slice (some (b,1)) 4 32)).run prog w=.ok (.pointer (some (b,1))) w:=fun w=>by kernel_rfl
 obtain⟨K1,cA⟩:=nm (tell K ⟨1,0,0,id,num,a0,a1,a2,a3,0,0⟩);have fd:Inv N (M+1) K1:=by rw[<-cA];exact c8.tell _
 have cL:aw K1.ai id=some t:=by rw[<-cA];exact bb
 have g9:=Z (fun w (h:ae w χ L Y C K)=>dI 1 0 0 id num a0 a1 a2 a3 0 0 (by have:=c8.out;omega) h);rw[cA]at g9;have fO:=g1.n8;have et:=g1.n0;have g8:=Z (fun(w:World) (χ:Nat->a') (Y:Var) (h:ae w χ L Y C K1)=>qY id t cL et fO num ip a0 a1 a2 a3 a9.bw a9.rows a9.cl h);have dC:Hid (hr C K id k num=if cM C K1 id num a0 a1 a2 a3≠0 then dq K1 id num (cM C K1 id num a0 a1 a2 a3) 0 else
  K1.cp id {K1.T id with l:=(K1.T id).l++[⟨⟨(C.calls.getD (C.rows.getD num.toNat 0-1).toNat default).at_,fun j=>if j=0 then dg K1 (C.calls.getD (C.rows.getD num.toNat 0-1).toNat default).k0 a0 else if j=1 then dg K1 (C.calls.getD (C.rows.getD num.toNat 0-1).toNat default).k1 a1 else if j=2 then dg K1 (C.calls.getD (C.rows.getD num.toNat 0-1).toNat default).k2 a2 else if j=3 then dg K1 (C.calls.getD (C.rows.getD num.toNat 0-1).toNat default).k3 a3 else if j=30 then a0 else if j=31 then IntKind.u64.wrap num else 0,[]⟩,true,num⟩]}):=Z (by unfold hr;dsimp only;rw[fk,fn,fz,fK,cA])
 obtain⟨g3,fT⟩:=nm (cM C K1 id num a0 a1 a2 a3);rw[fT]at g8 dC;have J:=Z (And.intro bb (And.intro ex (And.intro cL hid)));have e':=Z (dD.refl h);have ku:Hid (K1.out.length<=900000):=Z (by have:=fd.out;omega);by_cases gO:g3=0
 ·subst gO
  have kG:=Z fT;have it:num<1000/\C.rows.getD num.toNat 0≠0/\(t.l.length<7∨num=2):=by
   have:=kG.out;unfold cM at this;split at this
   ·cases this
   ·rename_i I
    split at this
    ·cases this
    ·rename_i G
     rw[KS.dm cL]at G;refine⟨by omega,fun e=>I (Or.inr e),?_⟩;by_cases e:num=2
     ·exact Or.inr e
     ·exact Or.inl (by omega)
  obtain⟨m,rfl⟩:=Int.eq_ofNat_of_zero_le ip;have fM:m<C.rows.length:=by rw[a9.Eu];omega
  obtain⟨r,g0⟩:∃r,C.rows[m]?=some r:=⟨_,List.getElem?_eq_getElem fM⟩;have ls:=a9.rows r (List.mem_of_getElem? g0);have gH:C.rows.getD (m:Int).toNat 0=r:=by rw[Int.toNat_natCast,List.getD_eq_getElem?_getD,g0];rfl
  obtain⟨q,rfl⟩:∃q:Nat,r=(q:Int)+1:=⟨(r-1).toNat,by have:=it.2.1;rw[gH]at this;omega⟩;obtain⟨c6,O⟩:∃c6,C.calls[q]?=some c6:=⟨_,List.getElem?_eq_getElem (by omega)⟩;have i5:C.calls.getD (C.rows.getD (m:Int).toNat 0-1).toNat default=c6:=by rw[gH,show((q:Int)+1-1).toNat=q by omega,List.getD_eq_getElem?_getD,O];rfl
  rw[i5]at dC;obtain⟨hS,cat,k0,k1,k2,k3⟩:=c6;dsimp only at dC;have hf:=Z (And.intro g0 O);have mp:(m:Int)<1000:=by omega
  have mm:(0:Int)<=(m:Int):=by omega
  have mq:(0:Int)<=(q:Int):=by omega
  have mL:IntKind.i64.wrap (q:Int)=q:=IntWalk.i64_in _ (by have:=a9.cl;have:=(List.getElem?_eq_some_iff.1 O).1;omega);obtain⟨hB,i0⟩:=nm C.calls.length;have mv:(q:Int)<(hB:Int):=by have:=(List.getElem?_eq_some_iff.1 O).1;omega
  have kh:=Z i0;have lu:IntKind.i64.wrap ((q:Int)+1-1)=q:=by rw[show(q:Int)+1-1=q by omega];exact IntWalk.i64_in _ (by have:=a9.cl;omega)
  have lv:(q:Int)+1-1=q:=by omega
  have ms:(q:Int)<=2048:=by have:=a9.cl;omega
  have io:t.l.length<8:=by omega
  obtain⟨dN,i1⟩:=mn t.l.length;have dr:=Z (And.intro i1 (And.intro io et));have mG:dN<8:=by omega
  have i3:0<=gT K1/\gT K1<=600:=by have:=fd.w1;unfold gT;omega
  have cW:=Z (fun(w:World) (χ:Nat->a') (Y:Var) (h:ae w χ L Y C K1)=>lT h);obtain⟨V,go⟩:=nm (gT K1);rw[go]at cW i3;have eG:=Z go;have eL:=Z (fun(w:World) (χ:Nat->a') (Y:Var) (a k:Int) (h:ae w χ L Y C K1)=>zX (K:=K1) a k h);obtain⟨mj,mk⟩:=i3;have cQ:IntKind.u64.wrap V=V:=by unfold IntKind.wrap IntKind.bits IntKind.signed;simp;omega
  have av:=Z cQ;obtain⟨lx,i9,d,jG,jH⟩:=info_parts Ab;have eS:=Z (And.intro i9 (And.intro d (And.intro jG jH)));clear i9 d jG jH it fM ls gH i5 g0 O i0 io i1 go cQ;clear h c9 cF bb hb ex c8 fk fn fz fK je hid g1 a9 ih ii fO et fd cL cA fT;go_in
  go_wp2
  obtain⟨w1,ad⟩:=nm (w.alloc (.cells #[.int .u64 a0,.int .u64 a1,.int .u64 a2,.int .u64 a3] 80));have g6:=Z (Ch.al (D:=ag) ad);have bd:Hid (Row w1 w.heap.size 80 [.int .u64 a0,.int .u64 a1,.int .u64 a2,.int .u64 a3]/\χ w.heap.size=.no):=Z ⟨by rw[<-ad];exact Row.new w _ _,e'.at_.fresh (Nat.le_refl _)⟩;rw[ad];clear ad jI jJ jK jL;have c0:=Z (e'.af g6);obtain⟨al,ci,cl,cm⟩:=bd.1.c4;have c5:=c0.at_.gw J.1;rw[J.2.2.2,J.2.1]at c5;go_still_tail 8,(by kernel_rfl)
  change wpList _ _ _ _ _ w1.drew;go_wp2_with fail
  with_reducible refine(g9.out _ c0.out.at_.drew).mono ?_
  rintro e w2 ⟨rfl,lA,hE,G⟩;have c1:=Z ((c0.af (Ch.refl _ w1).drew).trans (Gr.refl _) G);have bi:=Z (((Nx.af (Ch.refl _ w1).drew).trans G.nx).row bd.1 bd.2);have cd:=(c1.yk id t J.1).1;rw[J.2.1]at cd;have bZ:=Z cd;clear G cd al ci cl cm c5;obtain⟨al,ci,cl,cm⟩:=bi.1.c4;go_wp2_with fail
  have cb:=g8 _ _ _ c1.at_;rw[bZ]at cb;with_reducible refine cb.mono ?_
  clear cb;rintro e am ⟨rfl,ca⟩;have c2:=Z (c1.af ca);have eC:=Z ((Nx.af ca).row bi.1 bi.2);clear ca al ci cl cm;have al:=eC.1.c1;obtain⟨ab,i8,g5,jR,jS,k4,k5,kb⟩:=c2.at_.wu hf.2;dsimp only at g5 jR jS k4 k5 kb;have a4:=c2.at_.c2;rw[i8,kh]at a4;have c6:=c2.at_.Ec hf.1;clear i8;go_wp2
  go_cut [10] (fun p wc=>uL 158 [hS,cat,k0,k1,k2,k3] am p wc)
  case first=>
   have mZ:=World.new_ne am ⟨L.mb,2,none⟩ a4;have n0:=World.new_ne am ⟨L.mb,7+m,none⟩ c6;have n1:=World.new_ne am ⟨ab,q*6,none⟩ g5;have mW:L.mb≠am.heap.size:=Nat.ne_of_lt (aQ a4);have mY:ab≠am.heap.size:=Nat.ne_of_lt (aQ g5);go_region_held3 (fun w'=>w'.cell? (L.mb,2)=some (.slice (some (ab,0)) hB L.GB)/\w'.cell? (L.mb,7+m)=some (.int .i64 ((q:Int)+1))/\w'.cell? (ab,q*6)=some (.int .i64 hS)/\w'.cell? (ab,q*6+1)=some (.int .i64 cat)/\w'.cell? (ab,q*6+2)=some (.int .i64 k0)/\w'.cell? (ab,q*6+3)=some (.int .i64 k1)/\w'.cell? (ab,q*6+4)=some (.int .i64 k2)/\w'.cell? (ab,q*6+5)=some (.int .i64 k3)) (go_keep) (fail)
   all_goals(go_wp2_with fail;go_meet)
   all_goals exact⟨am.heap.size,rfl,(Row.new am _ _).drew,ay,Nat.le_refl _⟩
  case rest=>
   obtain⟨mb,rfl,jf,gr,hle⟩:=hcut;obtain⟨w4,lw⟩:=nm wc;subst lw;have ap:=Z jf;have ct:=Z (c2.af gr);have bv:=Z ((Nx.af gr).row eC.1 eC.2);clear jf gr al g5 jR jS k4 k5 kb a4 c6 lu lv hle;have x1:=ap.k 1 rfl;have x2:=ap.k 2 rfl;have x3:=ap.k 3 rfl;have x4:=ap.k 4 rfl;have x5:=ap.k 5 rfl;go_upto_region 7 with fail
   obtain⟨jM,ey⟩:=nm (wc.alloc (.cells #[.int .i64 0,.int .u64 0,.int .u64 0,.int .u64 0,.int .u64 0,.int .u64 0,.int .u64 0,.int .u64 0,.int .u64 0,.int .u64 0,.int .u64 0,.int .u64 0,.int .u64 0,.int .u64 0,.int .u64 0,.int .u64 0,.int .u64 0,.int .u64 0,.int .u64 0,.int .u64 0,.int .u64 0,.int .u64 0,.int .u64 0,.int .u64 0,.int .u64 0,.int .u64 0,.int .u64 0,.int .u64 0,.int .u64 0,.int .u64 0,.int .u64 0,.int .u64 0,.int .u64 0,.slice none 0 0,.bool true,.int .i64 (m:Int)] 127));have di:=Z (Ch.al (D:=ag) ey);have dp:=Z (Row.al ey);have hv:Hid (jM.heap.size=wc.heap.size+1):=Z (by rw[<-ey];simp);rw[ey];clear ey;obtain⟨F,hF⟩:=mn wc.heap.size;have kt:=Z (ct.at_.fresh (i:=F) (by rw[hF];exact Nat.le_refl _));have R:=Z hF;rw[<-hF]at dp hv⊢;clear hF;have kO:=Z (ct.af di);have kd:=Z ((Nx.af di).row bv.1 bv.2);have hu:=Z (ap.ch di (fun h=>h));clear x1 x2 x3 x4 x5;have x1:=hu.k 1 rfl;have f0:=dp.c1;have e4:=dp.free 0;go_upto_region 8 with fail
   obtain⟨cq,eA⟩:=nm (jM.setCell (F,0) (.int .i64 cat));have eI:Hid (Ch ag wc cq):=Z (by rw[<-eA];exact di.set (p:=⟨F,0,none⟩) (Or.inr (by rw[R];exact Nat.le_refl _)) _);have g7:Hid (Row cq F 127 [cat,.int .u64 0,.int .u64 0,.int .u64 0,.int .u64 0,.int .u64 0,.int .u64 0,.int .u64 0,.int .u64 0,.int .u64 0,.int .u64 0,.int .u64 0,.int .u64 0,.int .u64 0,.int .u64 0,.int .u64 0,.int .u64 0,.int .u64 0,.int .u64 0,.int .u64 0,.int .u64 0,.int .u64 0,.int .u64 0,.int .u64 0,.int .u64 0,.int .u64 0,.int .u64 0,.int .u64 0,.int .u64 0,.int .u64 0,.int .u64 0,.int .u64 0,.int .u64 0,.slice none 0 0,.bool true,.int .i64 (m:Int)]):=Z (by rw[<-eA];exact dp.set 0 _);rw[eA];have l':Hid (cq.heap.size=F+1):=Z (by rw[<-eA];simpa using hv.out);clear eA x1 f0 e4;have hd:=Z ((Nx.af eI).row bv.1 bv.2);have kw:=Z (ap.ch eI (fun h=>h));have i4:=nN (P:=prog) cq.drew 29 29 3 39 1 F 1 32 32 ⟨w.heap.size,0,none⟩ 4 4 _ 127 [.int .u64 a0,.int .u64 a1,.int .u64 a2,.int .u64 a3] underlying29 (by kernel_rfl) g7.drew (by rfl) (fun j v z=>by
    have:=hd.1.drew.cell (i:=j) z;by_cases e:j=0
    ·subst e;simpa[Addr.add]using this
    ·simpa[Addr.add,e]using this) (by simp) (by simp[Value.oneCell'])
   generalize gP:World.setRow cq.drew F _=g4 at i4;have he:Hid (Ch (aH F) cq.drew g4):=Z (by rw[<-gP];exact pz _ _ _);have hi:Hid (Row g4 F 127 [cat,.int .u64 a0,.int .u64 a1,.int .u64 a2,.int .u64 a3,.int .u64 0,.int .u64 0,.int .u64 0,.int .u64 0,.int .u64 0,.int .u64 0,.int .u64 0,.int .u64 0,.int .u64 0,.int .u64 0,.int .u64 0,.int .u64 0,.int .u64 0,.int .u64 0,.int .u64 0,.int .u64 0,.int .u64 0,.int .u64 0,.int .u64 0,.int .u64 0,.int .u64 0,.int .u64 0,.int .u64 0,.int .u64 0,.int .u64 0,.int .u64 0,.int .u64 0,.int .u64 0,.slice none 0 0,.bool true,.int .i64 (m:Int)]):=Z (by
    rw[<-gP];unfold Row;rw[setRow_heap _ _ _ _ _ _ g7.drew]
    rfl)
   clear gP;go_still_tail 6,(by kernel_rfl)
   change wpList _ _ _ _ _ cq.drew;go_upto_region 9 with fail
   have hh:Hid (Ch ag wc g4):=Z (eI.drew.join he (fun i en gs=>by have e:i=F:=gs;have:=R.out;omega));have kf:Hid (aJ g4 F 0 127 [] [.bool true,.int .i64 (m:Int)] (.slice none 0 0) ⟨cat,bn K1 k0 k1 k2 k3 a0 a1 a2 a3 0,[]⟩):=Z ⟨hi,rfl,cv.nil _⟩;have eW:=Z (ap.ch hh (fun h=>h));clear i4;have x2:=eW.k 2 rfl;have x3:=eW.k 3 rfl;have x4:=eW.k 4 rfl;have x5:=eW.k 5 rfl;clear dp g7 hi di eI he kd hd hu kw kO;go_wp2
   clear x2 x3 x4 x5;go_loopg [74] 5 (fun gk u wr=>∃kk:Nat,kk<=4/\gk=4-kk+1/\u=.int .i64 kk/\Hid (Ch ag wc wr/\aJ wr F 0 127 [] [.bool true,.int .i64 (m:Int)] (.slice none 0 0) ⟨cat,bn K1 k0 k1 k2 k3 a0 a1 a2 a3 kk,[]⟩))
   case atStart=>exact⟨0,by omega,by omega,rfl,hh,kf⟩
   case round=>
    obtain⟨kk,ml,rfl,rfl,c⟩:=hrel;have X:=Z (ct.af c.1);have cS:=Z ((Nx.af c.1).row bv.1 bv.2);have ly:L.mb≠F:=(fun e=>by have I:=ct.at_.GY;rw[e,R]at I;exact absurd I (Nat.lt_irrefl _));have lz:w.heap.size≠F:=(fun e=>by have I:=bv.1.lt;rw[e,R]at I;exact absurd I (Nat.lt_irrefl _));have n2:=ly.symm;have n8:=lz.symm;obtain rfl|rfl|rfl|rfl|rfl:kk=0∨kk=1∨kk=2∨kk=3∨kk=4:=by omega
    ·have W:=cS.1.c1
     have e4:wr.cell? (F,1)=_:=hR c.2 0 (by omega);have gd:=c.2.free 1;have gt:=Ax k0 k1 k2 k3;by_cases d:k0=0
     ·have O:bn K1 k0 k1 k2 k3 a0 a1 a2 a3 1=bn K1 k0 k1 k2 k3 a0 a1 a2 a3 0:=AB (by unfold dg;rw[if_pos d])
      have bX:=Z O;have ch:(k0==0)=true:=(by simpa using d);clear O d;go_wp2
      go_roundg (4)
      case measure=>omega
      case rel=>exact⟨1,by omega,rfl,rfl,c.1,by rw[bX];exact c.2⟩
     ·have ch:(k0==0)=false:=by rw[beq_eq_false_iff_ne];exact d
      by_cases x:k0=7
      ·have z:IntKind.u64.wrap (V+a0)=dg K1 k0 a0:=by unfold dg;rw[if_neg d,if_pos x,eG,av]
       have ce:(k0==7)=true:=(by simpa using x);have S:=Z z;have bw:=Z (CJ (cW wr.drew _ _ X.at_.drew));have cQ:=av.out;clear z d x;go_wp2
       go_region_held3 (fun w'=>w'.cell? ⟨w.heap.size,0,none⟩=some (.int .u64 a0)) (go_keep) ((go_at_call 40;refine bw.mono ?_;rintro e s ⟨rfl,A⟩;have n:Hid (Ch ag wr s):=Z (Ch.trans ay A);have o:=Z (aJ.ch c.2 n (fun h=>h) (fun _ _ h=>h));have c3:=n.k W;have c4:s.cell? (F,1)=_:=hR o 0 (by omega);have a4:=o.free 1;clear A))
       all_goals
        go_wp2
        go_roundg (4)
        case measure=>omega
        case rel=>
         have B:=e3 o (by decide) 0 (by omega) (IntKind.u64.wrap (V+a0));rw[show({({pc:=cat,r:=bn K1 k0 k1 k2 k3 a0 a1 a2 a3 0,back:=[]}:cP)with r:=fW (bn K1 k0 k1 k2 k3 a0 a1 a2 a3 0) 0 (IntKind.u64.wrap (V+a0))}:cP)=⟨cat,bn K1 k0 k1 k2 k3 a0 a1 a2 a3 1,[]⟩from by rw[qZ _ S]]at B;exact⟨1,by omega,rfl,rfl,(c.1.trans n).set (p:=⟨F,1,none⟩) (Or.inr (by rw[R];exact Nat.le_refl _)) _,B⟩
      ·have ce:(k0==7)=false:=by rw[beq_eq_false_iff_ne];exact x
       have Q:=Z (eL wr.drew _ _ a0 k0 X.at_.drew);have co:=X.at_.iq;obtain⟨a5,T⟩:=nm (gp K1.cT a0 k0);rw[T]at Q;obtain⟨H,U⟩:∃v,a5.getD 0=v:=⟨_,rfl⟩;have z:H=dg K1 k0 a0:=(by unfold dg;rw[if_neg d,if_neg x,T,U]);have S:=Z z;have bx:Hid (Calls prog 181 #[(L.ob,0),.int .u64 a0,k0] wr.drew (fun e w'=>(∃v,e=.returned (.tuple #[.int .u64 H,v]))/\Ch ag wr.drew w')):=Z (Q.mono fun e w' h=>by
        obtain⟨I,G⟩:=h;refine⟨?_,G⟩;rw[<-U];cases a5 with
        |none=>obtain⟨v,c7,_⟩:=I;exact⟨v,c7⟩
        |some y=>exact⟨_,I⟩)
       clear z d x T U Q;go_wp2
       go_region_held3 (fun w'=>w'.cell? (L.mb,1013)=some (.pointer (some (L.ob,0)))/\w'.cell? ⟨w.heap.size,0,none⟩=some (.int .u64 a0)) (go_keep) ((go_at_call 181;refine bx.mono ?_;rintro e s ⟨⟨gW,rfl⟩,A⟩;have n:Hid (Ch ag wr s):=Z (Ch.trans ay A);have o:=Z (aJ.ch c.2 n (fun h=>h) (fun _ _ h=>h));have c3:=n.k W;have gc:=n.k co;have c4:s.cell? (F,1)=_:=hR o 0 (by omega);have a4:=o.free 1;clear A))
       all_goals
        go_wp2
        go_roundg (4)
        case measure=>omega
        case rel=>
         have B:=e3 o (by decide) 0 (by omega) H;rw[show({({pc:=cat,r:=bn K1 k0 k1 k2 k3 a0 a1 a2 a3 0,back:=[]}:cP)with r:=fW (bn K1 k0 k1 k2 k3 a0 a1 a2 a3 0) 0 H}:cP)=⟨cat,bn K1 k0 k1 k2 k3 a0 a1 a2 a3 1,[]⟩from by rw[qZ _ S]]at B;exact⟨1,by omega,rfl,rfl,(c.1.trans n).set (p:=⟨F,1,none⟩) (Or.inr (by rw[R];exact Nat.le_refl _)) _,B⟩
    ·have W:=cS.1.k 1 rfl
     have e4:wr.cell? (F,2)=_:=hR c.2 1 (by omega);have gd:=c.2.free 2;have gt:=Ay k0 k1 k2 k3;by_cases d:k1=0
     ·have O:bn K1 k0 k1 k2 k3 a0 a1 a2 a3 2=bn K1 k0 k1 k2 k3 a0 a1 a2 a3 1:=AD (by unfold dg;rw[if_pos d])
      have bX:=Z O;have ch:(k1==0)=true:=(by simpa using d);clear O d;go_wp2
      go_roundg (3)
      case measure=>omega
      case rel=>exact⟨2,by omega,rfl,rfl,c.1,by rw[bX];exact c.2⟩
     ·have ch:(k1==0)=false:=by rw[beq_eq_false_iff_ne];exact d
      by_cases x:k1=7
      ·have z:IntKind.u64.wrap (V+a1)=dg K1 k1 a1:=by unfold dg;rw[if_neg d,if_pos x,eG,av]
       have ce:(k1==7)=true:=(by simpa using x);have S:=Z z;have bw:=Z (CJ (cW wr.drew _ _ X.at_.drew));have cQ:=av.out;clear z d x;go_wp2
       go_region_held3 (fun w'=>w'.cell? ⟨w.heap.size,1,none⟩=some (.int .u64 a1)) (go_keep) ((go_at_call 40;refine bw.mono ?_;rintro e s ⟨rfl,A⟩;have n:Hid (Ch ag wr s):=Z (Ch.trans ay A);have o:=Z (aJ.ch c.2 n (fun h=>h) (fun _ _ h=>h));have c3:=n.k W;have c4:s.cell? (F,2)=_:=hR o 1 (by omega);have a4:=o.free 2;clear A))
       all_goals
        go_wp2
        go_roundg (3)
        case measure=>omega
        case rel=>
         have B:=e3 o (by decide) 1 (by omega) (IntKind.u64.wrap (V+a1));rw[show({({pc:=cat,r:=bn K1 k0 k1 k2 k3 a0 a1 a2 a3 1,back:=[]}:cP)with r:=fW (bn K1 k0 k1 k2 k3 a0 a1 a2 a3 1) 1 (IntKind.u64.wrap (V+a1))}:cP)=⟨cat,bn K1 k0 k1 k2 k3 a0 a1 a2 a3 2,[]⟩from by rw[q0 _ S]]at B;exact⟨2,by omega,rfl,rfl,(c.1.trans n).set (p:=⟨F,2,none⟩) (Or.inr (by rw[R];exact Nat.le_refl _)) _,B⟩
      ·have ce:(k1==7)=false:=by rw[beq_eq_false_iff_ne];exact x
       have Q:=Z (eL wr.drew _ _ a1 k1 X.at_.drew);have co:=X.at_.iq;obtain⟨a5,T⟩:=nm (gp K1.cT a1 k1);rw[T]at Q;obtain⟨H,U⟩:∃v,a5.getD 0=v:=⟨_,rfl⟩;have z:H=dg K1 k1 a1:=(by unfold dg;rw[if_neg d,if_neg x,T,U]);have S:=Z z;have bx:Hid (Calls prog 181 #[(L.ob,0),.int .u64 a1,k1] wr.drew (fun e w'=>(∃v,e=.returned (.tuple #[.int .u64 H,v]))/\Ch ag wr.drew w')):=Z (Q.mono fun e w' h=>by
        obtain⟨I,G⟩:=h;refine⟨?_,G⟩;rw[<-U];cases a5 with
        |none=>obtain⟨v,c7,_⟩:=I;exact⟨v,c7⟩
        |some y=>exact⟨_,I⟩)
       clear z d x T U Q;go_wp2
       go_region_held3 (fun w'=>w'.cell? (L.mb,1013)=some (.pointer (some (L.ob,0)))/\w'.cell? ⟨w.heap.size,1,none⟩=some (.int .u64 a1)) (go_keep) ((go_at_call 181;refine bx.mono ?_;rintro e s ⟨⟨gW,rfl⟩,A⟩;have n:Hid (Ch ag wr s):=Z (Ch.trans ay A);have o:=Z (aJ.ch c.2 n (fun h=>h) (fun _ _ h=>h));have c3:=n.k W;have gc:=n.k co;have c4:s.cell? (F,2)=_:=hR o 1 (by omega);have a4:=o.free 2;clear A))
       all_goals
        go_wp2
        go_roundg (3)
        case measure=>omega
        case rel=>
         have B:=e3 o (by decide) 1 (by omega) H;rw[show({({pc:=cat,r:=bn K1 k0 k1 k2 k3 a0 a1 a2 a3 1,back:=[]}:cP)with r:=fW (bn K1 k0 k1 k2 k3 a0 a1 a2 a3 1) 1 H}:cP)=⟨cat,bn K1 k0 k1 k2 k3 a0 a1 a2 a3 2,[]⟩from by rw[q0 _ S]]at B;exact⟨2,by omega,rfl,rfl,(c.1.trans n).set (p:=⟨F,2,none⟩) (Or.inr (by rw[R];exact Nat.le_refl _)) _,B⟩
    ·have W:=cS.1.k 2 rfl
     have e4:wr.cell? (F,3)=_:=hR c.2 2 (by omega);have gd:=c.2.free 3;have gt:=Az k0 k1 k2 k3;by_cases d:k2=0
     ·have O:bn K1 k0 k1 k2 k3 a0 a1 a2 a3 3=bn K1 k0 k1 k2 k3 a0 a1 a2 a3 2:=AE (by unfold dg;rw[if_pos d])
      have bX:=Z O;have ch:(k2==0)=true:=(by simpa using d);clear O d;go_wp2
      go_roundg (2)
      case measure=>omega
      case rel=>exact⟨3,by omega,rfl,rfl,c.1,by rw[bX];exact c.2⟩
     ·have ch:(k2==0)=false:=by rw[beq_eq_false_iff_ne];exact d
      by_cases x:k2=7
      ·have z:IntKind.u64.wrap (V+a2)=dg K1 k2 a2:=by unfold dg;rw[if_neg d,if_pos x,eG,av]
       have ce:(k2==7)=true:=(by simpa using x);have S:=Z z;have bw:=Z (CJ (cW wr.drew _ _ X.at_.drew));have cQ:=av.out;clear z d x;go_wp2
       go_region_held3 (fun w'=>w'.cell? ⟨w.heap.size,2,none⟩=some (.int .u64 a2)) (go_keep) ((go_at_call 40;refine bw.mono ?_;rintro e s ⟨rfl,A⟩;have n:Hid (Ch ag wr s):=Z (Ch.trans ay A);have o:=Z (aJ.ch c.2 n (fun h=>h) (fun _ _ h=>h));have c3:=n.k W;have c4:s.cell? (F,3)=_:=hR o 2 (by omega);have a4:=o.free 3;clear A))
       all_goals
        go_wp2
        go_roundg (2)
        case measure=>omega
        case rel=>
         have B:=e3 o (by decide) 2 (by omega) (IntKind.u64.wrap (V+a2));rw[show({({pc:=cat,r:=bn K1 k0 k1 k2 k3 a0 a1 a2 a3 2,back:=[]}:cP)with r:=fW (bn K1 k0 k1 k2 k3 a0 a1 a2 a3 2) 2 (IntKind.u64.wrap (V+a2))}:cP)=⟨cat,bn K1 k0 k1 k2 k3 a0 a1 a2 a3 3,[]⟩from by rw[q1 _ S]]at B;exact⟨3,by omega,rfl,rfl,(c.1.trans n).set (p:=⟨F,3,none⟩) (Or.inr (by rw[R];exact Nat.le_refl _)) _,B⟩
      ·have ce:(k2==7)=false:=by rw[beq_eq_false_iff_ne];exact x
       have Q:=Z (eL wr.drew _ _ a2 k2 X.at_.drew);have co:=X.at_.iq;obtain⟨a5,T⟩:=nm (gp K1.cT a2 k2);rw[T]at Q;obtain⟨H,U⟩:∃v,a5.getD 0=v:=⟨_,rfl⟩;have z:H=dg K1 k2 a2:=(by unfold dg;rw[if_neg d,if_neg x,T,U]);have S:=Z z;have bx:Hid (Calls prog 181 #[(L.ob,0),.int .u64 a2,k2] wr.drew (fun e w'=>(∃v,e=.returned (.tuple #[.int .u64 H,v]))/\Ch ag wr.drew w')):=Z (Q.mono fun e w' h=>by
        obtain⟨I,G⟩:=h;refine⟨?_,G⟩;rw[<-U];cases a5 with
        |none=>obtain⟨v,c7,_⟩:=I;exact⟨v,c7⟩
        |some y=>exact⟨_,I⟩)
       clear z d x T U Q;go_wp2
       go_region_held3 (fun w'=>w'.cell? (L.mb,1013)=some (.pointer (some (L.ob,0)))/\w'.cell? ⟨w.heap.size,2,none⟩=some (.int .u64 a2)) (go_keep) ((go_at_call 181;refine bx.mono ?_;rintro e s ⟨⟨gW,rfl⟩,A⟩;have n:Hid (Ch ag wr s):=Z (Ch.trans ay A);have o:=Z (aJ.ch c.2 n (fun h=>h) (fun _ _ h=>h));have c3:=n.k W;have gc:=n.k co;have c4:s.cell? (F,3)=_:=hR o 2 (by omega);have a4:=o.free 3;clear A))
       all_goals
        go_wp2
        go_roundg (2)
        case measure=>omega
        case rel=>
         have B:=e3 o (by decide) 2 (by omega) H;rw[show({({pc:=cat,r:=bn K1 k0 k1 k2 k3 a0 a1 a2 a3 2,back:=[]}:cP)with r:=fW (bn K1 k0 k1 k2 k3 a0 a1 a2 a3 2) 2 H}:cP)=⟨cat,bn K1 k0 k1 k2 k3 a0 a1 a2 a3 3,[]⟩from by rw[q1 _ S]]at B;exact⟨3,by omega,rfl,rfl,(c.1.trans n).set (p:=⟨F,3,none⟩) (Or.inr (by rw[R];exact Nat.le_refl _)) _,B⟩
    ·have W:=cS.1.k 3 rfl
     have e4:wr.cell? (F,4)=_:=hR c.2 3 (by omega);have gd:=c.2.free 4;have gt:=AA k0 k1 k2 k3;by_cases d:k3=0
     ·have O:bn K1 k0 k1 k2 k3 a0 a1 a2 a3 4=bn K1 k0 k1 k2 k3 a0 a1 a2 a3 3:=AF (by unfold dg;rw[if_pos d])
      have bX:=Z O;have ch:(k3==0)=true:=(by simpa using d);clear O d;go_wp2
      go_roundg (1)
      case measure=>omega
      case rel=>exact⟨4,by omega,rfl,rfl,c.1,by rw[bX];exact c.2⟩
     ·have ch:(k3==0)=false:=by rw[beq_eq_false_iff_ne];exact d
      by_cases x:k3=7
      ·have z:IntKind.u64.wrap (V+a3)=dg K1 k3 a3:=by unfold dg;rw[if_neg d,if_pos x,eG,av]
       have ce:(k3==7)=true:=(by simpa using x);have S:=Z z;have bw:=Z (CJ (cW wr.drew _ _ X.at_.drew));have cQ:=av.out;clear z d x;go_wp2
       go_region_held3 (fun w'=>w'.cell? ⟨w.heap.size,3,none⟩=some (.int .u64 a3)) (go_keep) ((go_at_call 40;refine bw.mono ?_;rintro e s ⟨rfl,A⟩;have n:Hid (Ch ag wr s):=Z (Ch.trans ay A);have o:=Z (aJ.ch c.2 n (fun h=>h) (fun _ _ h=>h));have c3:=n.k W;have c4:s.cell? (F,4)=_:=hR o 3 (by omega);have a4:=o.free 4;clear A))
       all_goals
        go_wp2
        go_roundg (1)
        case measure=>omega
        case rel=>
         have B:=e3 o (by decide) 3 (by omega) (IntKind.u64.wrap (V+a3));rw[show({({pc:=cat,r:=bn K1 k0 k1 k2 k3 a0 a1 a2 a3 3,back:=[]}:cP)with r:=fW (bn K1 k0 k1 k2 k3 a0 a1 a2 a3 3) 3 (IntKind.u64.wrap (V+a3))}:cP)=⟨cat,bn K1 k0 k1 k2 k3 a0 a1 a2 a3 4,[]⟩from by rw[q2 _ S]]at B;exact⟨4,by omega,rfl,rfl,(c.1.trans n).set (p:=⟨F,4,none⟩) (Or.inr (by rw[R];exact Nat.le_refl _)) _,B⟩
      ·have ce:(k3==7)=false:=by rw[beq_eq_false_iff_ne];exact x
       have Q:=Z (eL wr.drew _ _ a3 k3 X.at_.drew);have co:=X.at_.iq;obtain⟨a5,T⟩:=nm (gp K1.cT a3 k3);rw[T]at Q;obtain⟨H,U⟩:∃v,a5.getD 0=v:=⟨_,rfl⟩;have z:H=dg K1 k3 a3:=(by unfold dg;rw[if_neg d,if_neg x,T,U]);have S:=Z z;have bx:Hid (Calls prog 181 #[(L.ob,0),.int .u64 a3,k3] wr.drew (fun e w'=>(∃v,e=.returned (.tuple #[.int .u64 H,v]))/\Ch ag wr.drew w')):=Z (Q.mono fun e w' h=>by
        obtain⟨I,G⟩:=h;refine⟨?_,G⟩;rw[<-U];cases a5 with
        |none=>obtain⟨v,c7,_⟩:=I;exact⟨v,c7⟩
        |some y=>exact⟨_,I⟩)
       clear z d x T U Q;go_wp2
       go_region_held3 (fun w'=>w'.cell? (L.mb,1013)=some (.pointer (some (L.ob,0)))/\w'.cell? ⟨w.heap.size,3,none⟩=some (.int .u64 a3)) (go_keep) ((go_at_call 181;refine bx.mono ?_;rintro e s ⟨⟨gW,rfl⟩,A⟩;have n:Hid (Ch ag wr s):=Z (Ch.trans ay A);have o:=Z (aJ.ch c.2 n (fun h=>h) (fun _ _ h=>h));have c3:=n.k W;have gc:=n.k co;have c4:s.cell? (F,4)=_:=hR o 3 (by omega);have a4:=o.free 4;clear A))
       all_goals
        go_wp2
        go_roundg (1)
        case measure=>omega
        case rel=>
         have B:=e3 o (by decide) 3 (by omega) H;rw[show({({pc:=cat,r:=bn K1 k0 k1 k2 k3 a0 a1 a2 a3 3,back:=[]}:cP)with r:=fW (bn K1 k0 k1 k2 k3 a0 a1 a2 a3 3) 3 H}:cP)=⟨cat,bn K1 k0 k1 k2 k3 a0 a1 a2 a3 4,[]⟩from by rw[q2 _ S]]at B;exact⟨4,by omega,rfl,rfl,(c.1.trans n).set (p:=⟨F,4,none⟩) (Or.inr (by rw[R];exact Nat.le_refl _)) _,B⟩
    ·have W:=cS.1.c1
     have l1:wr.cell? (F,31)=_:=hR c.2 30 (by omega);have lb:wr.cell? (F,32)=_:=hR c.2 31 (by omega);have f30:=c.2.free 31;have f31:=c.2.free 32;have jp:IntKind.u64.wrap (m:Int)=m:=(by unfold IntKind.wrap IntKind.bits IntKind.signed;simp;omega);have kN:=Z jp;have le:(⟨F,31,none⟩:Addr)≠⟨F,32,none⟩:=(by simp);have li:(⟨F,32,none⟩:Addr)≠⟨F,31,none⟩:=(by simp);have i7:=aJ.drew (e3 (e3 c.2 (by decide) 30 (by omega) a0) (by decide) 31 (by omega) (m:Int));have i6:Ch ag wc (((wr.setCell (F,1+30) (.int .u64 a0)).setCell (F,1+31) (.int .u64 (m:Int))).drew):=((c.1.set (p:=⟨F,1+30,none⟩) (Or.inr (by rw[R];exact Nat.le_refl _)) _).set (p:=⟨F,1+31,none⟩) (Or.inr (by rw[R];exact Nat.le_refl _)) _).drew;have hm:=Z (And.intro i7 i6);clear i7 i6;go_wp2
     go_region
     go_upto_region 19 with fail
     obtain⟨s,g2⟩:=nm (((wr.setCell (F,31) (.int .u64 a0)).setCell (F,32) (.int .u64 (m:Int))).drew);have o:Hid (aJ s F 0 127 [] [.bool true,.int .i64 (m:Int)] (.slice none 0 0) ⟨cat,pS K1 k0 k1 k2 k3 a0 a1 a2 a3 (m:Int),[]⟩):=Z (by rw[<-g2,<-yq];exact hm.1);have n:Hid (Ch ag wc s):=Z (by rw[<-g2];exact hm.2);rw[g2];clear g2 l1 lb f30 f31 W le li jp;have aP:=Z (ct.af n);obtain⟨g,cap,cC,ll,_⟩:=aP.at_.hV J.2.2.1 dr.2.2;rw[<-dr.1]at cC ll;have hn:=Z cC;have fb:=aP.at_.DB J.2.2.1;have hT:=aP.at_.sf J.2.2.1 1;rw[bZ]at fb hT;rw[cC]at fb;have gF:=(aP.at_.tl id t J.2.2.1 (by simp)).is;rw[cC,<-dr.1]at gF;have iX:tb<s.heap.size:=aQ fb;have jE:(Value.slice (some (g,0)) dN cap).ownBlock≠some tb:=by
      have:=aZ (aP.at_.tl id t J.2.2.1 (by simp)).is (aP.at_.th id t J.2.2.1 (by simp)).is (by decide);rw[cC,bZ]at this;exact this
     have E:Hid (hr C K id k (m:Int)=K1.cp id {t with l:=t.l++[⟨⟨cat,pS K1 k0 k1 k2 k3 a0 a1 a2 a3 (m:Int),[]⟩,true,(m:Int)⟩]}):=Z (by
      rw[dC,if_neg (by decide),KS.dm J.2.2.1];unfold pS;rw[kN])
     clear cC;go_wp2_with (at_builtin;refine wpList_append_lies _ rfl _ _ _ rfl 0 125 lx _ 1 8 underlying122 eS.1 eS.2.1 eS.2.2.1 eS.2.2.2 rfl (by omega) _ dN ((List.range dN).map fun k=>bk (hE.fb id k)) rfl (gF.alloc _) ⟨s.heap.size,0,none⟩ 1 1 [(F,0)] rfl rfl (World.news_of_block (cs:=#[(F,0)]) (t:=125) (fr:=(0,0)) (heap_alloc_new s _)) (by simp[Value.oneCell']) (by omega) (by unfold maxLen;omega) (by omega) (by simp) (s.heap.size+1) (by simp) ?_)
     intro lc l0 gY iC fL i2 lo;have gf:=aP.at_.DC J.2.2.1 (f:=⟨⟨cat,pS K1 k0 k1 k2 k3 a0 a1 a2 a3 (m:Int),[]⟩,true,(m:Int)⟩) o kt rfl (g:=lc) (cap:=l0) (w4:=gY) (by rw[<-dr.1];exact iC) (by rw[hn];exact ao fL) (by
      rw[hn];rcases i2 with G|G
      ·exact Or.inl (by rw[G])
      ·exact Or.inr (by omega))
     rw[bZ,<-dr.1]at gf;have kv:=Z gf;have na:gY.cell? (tb,1)=some (.slice (some (g,0)) dN cap):=((Ch.bK (ao fL)).cell (p:=⟨tb,1,none⟩) iX jE).trans fb;have nc:gY.frozen? (tb,1)=false:=((Ch.bK (ao fL)).frozen (p:=⟨tb,1,none⟩) iX jE).trans hT;clear gf iC fL i2 lo gF;go_wp2
     go_end0
     rw[E];obtain⟨aY,Y',fM,lt,mS,lm⟩:=kv.out;have es:=aP.nx;have mC:w.heap.size<=wc.heap.size:=ct.nx.ch.size;exact⟨rfl,aY,Y',fM,⟨es.ch.join lm (fun i en gs=>by rw[<-es.same i en];exact gs),fun i en=>(lt i (Nat.lt_of_lt_of_le en es.ch.size) (by rw[R];omega)).trans (es.same i en)⟩⟩
 ·have mA:(g3==0)=false:=by rw[beq_eq_false_iff_ne];exact gO
  have E:Hid (hr C K id k num=dq K1 id num g3 0):=Z (by rw[dC,if_pos gO]);have kx:=Z (fun(w:World) (χ:Nat->a') (Y:Var) (h:ae w χ L Y C K1)=>j3 id t cL hid et fO num g3 0 ku h);clear h c9 cF bb hb ex c8 fk fn fz fK je hid g1 a9 ih ii fO et fd cL cA fT;go_in
  go_wp2
  obtain⟨w1,ad⟩:=nm (w.alloc (.cells #[.int .u64 a0,.int .u64 a1,.int .u64 a2,.int .u64 a3] 80));have g6:=Z (Ch.al (D:=ag) ad);have bd:Hid (Row w1 w.heap.size 80 [.int .u64 a0,.int .u64 a1,.int .u64 a2,.int .u64 a3]/\χ w.heap.size=.no):=Z ⟨by rw[<-ad];exact Row.new w _ _,e'.at_.fresh (Nat.le_refl _)⟩;rw[ad];clear ad jI jJ jK jL;have c0:=Z (e'.af g6);obtain⟨al,ci,cl,cm⟩:=bd.1.c4;have c5:=c0.at_.gw J.1;rw[J.2.2.2,J.2.1]at c5;go_still_tail 8,(by kernel_rfl)
  change wpList _ _ _ _ _ w1.drew;go_wp2_with fail
  with_reducible refine(g9.out _ c0.out.at_.drew).mono ?_
  rintro e w2 ⟨rfl,lA,hE,G⟩;have c1:=Z ((c0.af (Ch.refl _ w1).drew).trans (Gr.refl _) G);have bi:=Z (((Nx.af (Ch.refl _ w1).drew).trans G.nx).row bd.1 bd.2);have cd:=(c1.yk id t J.1).1;rw[J.2.1]at cd;have bZ:=Z cd;clear G cd al ci cl cm c5;obtain⟨al,ci,cl,cm⟩:=bi.1.c4;go_wp2_with fail
  have cb:=g8 _ _ _ c1.at_;rw[bZ]at cb;with_reducible refine cb.mono ?_
  clear cb;rintro e am ⟨rfl,ca⟩;have c2:=Z (c1.af ca);have eC:=Z ((Nx.af ca).row bi.1 bi.2);clear ca al ci cl cm;go_wp2_with fail
  have gG:=kx _ _ _ c2.at_;rw[bZ]at gG;with_reducible refine gG.mono ?_
  clear gG;rintro e w4 ⟨rfl,lB,kT,ge⟩;have hw:=Z (And.intro ge.at_ (c2.nx.trans ge.nx));clear ge;go_wp2
  go_end0
  rw[E];exact⟨rfl,lB,kT,hw.1,hw.2⟩
section
variable{id:Int}{i k:Nat}{t:Thread}{c:cJ}
section
variable{N M:Nat}{K:KS}{C:KC}
theorem dP(b:aw K.ai id=some t)(f:cP):∃a,aw (K.cI (.ai id k) f).ai id=some a/\a.l.length=t.l.length/\a.id=t.id:=by
 refine⟨_,by show aw (cn K.ai id _) id=_;rw[aV,if_pos rfl],?_,?_⟩
 ·show(List.set (K.T id).l k _).length=_
  rw[List.length_set,KS.dm b]
 ·show(K.T id).id=_
  rw[KS.dm b]
theorem yr(h:Inv N M K)(a:i<K.wk.length):Inv N M (gJ C K i):=
 h.bj a rfl rfl ⟨⟨(h.gA a).f.r,by simp⟩,(h.gA a).l0,(h.gA a).l1⟩
theorem sR(h:Inv N M K)(id:Int)(c:cJ)(x:be):Inv N (M+1) (dc K id c x):=by
 unfold dc;split
 ·exact h.more (Nat.le_refl _) (Nat.le_succ _)
 ·dsimp only
  repeat' split
  all_goals first|exact h.tell _|exact h.more (Nat.le_refl _) (Nat.le_succ _)
theorem lf(h:Inv N M K)(a:aj K c):Inv N M (K.fA c):=h.cI a ((h.lY a).pc _)
theorem wx(A:ow C)(h:Inv N M K)(I:N<=800000)(u:i<K.wk.length){idO:Option Int}(m:aj K c)
 (v:∀id,idO=some id->(K.W i).slot=id/\id≠0/\c=.ai id (K.top id)/\∃t,aw K.ai id=some t/\t.l.length%2=0):
 Inv (N+1) (M+1) (eF C K i idO c).2.2/\((eF C K i idO c).2.1=2∨(eF C K i idO c).2.1=3->(eF C K i idO c).2.2.wk.length=K.wk.length/\∀id t,idO=some id->aw K.ai id=some t->∃a,aw (eF C K i idO c).2.2.ai id=some a/\a.l.length=t.l.length):=by
 obtain⟨k1,k2,k3,G⟩:=l4 A h m;have f:=ox C m;have w:=oy C (c:=c) i u;unfold eF;obtain⟨s,o⟩:=nm (cB C K c);have p:∀id t,idO=some id->aw K.ai id=some t->∃a,aw s.2.2.ai id=some a/\a.l.length=t.l.length:=fun id t e d=>by
  obtain⟨_,_,j,_⟩:=v id e;obtain⟨a,b,g,_⟩:=pR C (k:=K.top id) d;rw[j]at o;rw[o]at b;exact⟨a,b,g⟩
 rw[o]at k1 k2 k3 G f w⊢;dsimp only;split
 ·rename_i b
  obtain⟨E,F⟩:=k3 (Or.inr b);have B:i<s.2.2.wk.length:=by rw[f.2];exact u
  have n:aj s.2.2 c:=m.gr f.1 f.2;have q:∀id,idO=some id->(s.2.2.W i).slot=id/\id≠0/\∃t,aw s.2.2.ai id=some t/\t.l.length%2=0:=fun id e=>by
   obtain⟨x,j,H,t,d,D⟩:=v id e;obtain⟨a,b,g⟩:=p id t e d;exact⟨w.1.trans x,j,a,b,by rw[g];exact D⟩
  have l:=ju (C:=C) k1 (by omega) B n (jc.of E F) q;split
  ·rename_i y
   have r:=ko (C:=C) k1 (by omega) (i:=i) (idO:=idO) n s.1 (fun id e=>by obtain⟨_,_,t,d,_⟩:=q id e;exact⟨t,d⟩) y;exact⟨lf l (n.gr r.1 r.2),(fun e=>by rcases e with e|e<;>cases e)⟩
  ·split
   ·rename_i g
    have:=jv (C:=C) s.2.2 i idO c s.1 g;refine⟨l,fun _=>⟨by rw[show _=_ from this.2];exact f.2,fun id t e d=> ?_⟩⟩;obtain⟨a,b,z⟩:=p id t e d;exact⟨a,by rw[show _=_ from this.1];exact b,z⟩
   ·exact⟨l,(fun e=>by rcases e with e|e<;>cases e)⟩
 ·exact⟨k1.more (Nat.le_succ _) (Nat.le_succ _),fun _=>⟨f.2,p⟩⟩
theorem CK(j:ow C)(h:Inv N M K)(l:N<=800000)(a:i<K.wk.length):Inv (N+1) (M+2) (kg C K i):=by
 unfold kg;dsimp only;have f:Inv N M (K.bj i {K.W i with parked:=false}):=h.bj a rfl rfl ⟨(h.gA a).f,(h.gA a).l0,(h.gA a).l1⟩;have d:i<(K.bj i {K.W i with parked:=false}).wk.length:=by rw[bG];exact a
 have b:=wx j f l d (idO:=none) (c:=.own i) d (fun id e=>by cases e);split
 ·exact sR b.1 _ _ _
 ·split
  ·rename_i g
   exact(yr b.1 (by rw[(b.2 g.symm).1];exact d)).more (Nat.le_refl _) (Nat.le_succ _)
  ·exact b.1.more (Nat.le_refl _) (Nat.le_succ _)
theorem sS(l:ow C)(h:Inv N M K)(m:N<=800000)(n:i<K.wk.length)(a:aw K.ai id=some t)(p:(K.W i).slot=id)(d:id≠0)(o:t.l.length%2=0)(s:k+1=t.l.length):Inv (N+1) (M+2) (cD C K i id k):=by
 unfold cD;dsimp only;have q:K.top id=k:=by unfold KS.top;rw[KS.dm a];omega
 have b:=wx l h m n (idO:=some id) (c:=.ai id k) ⟨t,a,by omega⟩ (fun j e=>by injection e with e;subst e;exact⟨p,d,by rw[q],t,a,o⟩);split
 ·exact sR b.1 _ _ _
 ·split
  ·rename_i g
   obtain⟨u,f,r⟩:=(b.2 g.symm).2 id t rfl a;exact b.1.answer f (by have:=(h.de a).l.n0;omega) ⟨by decide,by decide⟩ bE
  ·exact b.1.more (Nat.le_refl _) (Nat.le_succ _)
theorem AG(h:Inv N M K)(k a:Int)(b:aK a):aK (dg K k a):=by
 unfold dg;split
 ·exact b
 ·split
  ·exact bO _
  ·cases d:gp K.cT a k with
   |none=>exact bE
   |some x=>exact h.obj.find a k x d
theorem oB(C:KC)(K:KS):∀l,aK (cw C K l)
 |[]=>bE
 |(k,a)::l=>by
  unfold cw;have b:aK (22:Int):=⟨by decide,by decide⟩
  repeat' split
  all_goals first|exact b|exact oB C K l
theorem q3(C:KC)(K:KS)(id num a0 a1 a2 a3:Int):aK (cM C K id num a0 a1 a2 a3):=by
 unfold cM;have b:aK (38:Int):=⟨by decide,by decide⟩;have a:aK (11:Int):=⟨by decide,by decide⟩
 repeat' split
 all_goals first|exact b|exact a|exact oB C K _
theorem sT(h:Inv N M K)(g:aw K.ai id=some t)(m:t.l.length%2=1)(p:k+1=t.l.length)(num:Int):Inv N (M+2) (hr C K id k num):=by
 have l:aj K (.ai id k):=⟨t,g,by omega⟩;have f:=(h.lY l).r;unfold hr;dsimp only;obtain⟨K1,e⟩:=nm (tell K ⟨1,0,0,id,num,(K.F (.ai id k)).r 0,(K.F (.ai id k)).r 1,(K.F (.ai id k)).r 2,(K.F (.ai id k)).r 3,0,0⟩);have a:Inv N (M+1) K1:=by rw[<-e];exact h.tell _
 have d:aw K1.ai id=some t:=by rw[<-e];exact g
 rw[e];split
 ·exact a.returned d _ (q3 _ _ _ _ _ _ _ _) bE
 ·have b:=a.de d
  have n:=b.l.n8;rw[KS.dm d];refine Inv.more (N:=N) (M:=M+1) (a.cp d ⟨b.id,b.eY,?_⟩) (Nat.le_refl _) (Nat.le_succ _);refine b.l.push _ (by omega) ⟨fun j o=> ?_,by simp⟩ (by simp[m]);dsimp only;have a0:=AG a
  repeat' split
  all_goals first|exact a0 _ _ (f _ (by omega))|exact f _ (by omega)|exact bO _|exact bE
theorem sU(h:Inv N M K)(u:N<=800000)(p:i<K.wk.length)(f:aw K.ai id=some t)(q:(K.W i).slot=id)(l:id≠0)(y:t.l.length%2=1)(w:k+1=t.l.length)(v:Int)(j:aK v):Inv N (M+2) (eZ C K i id k v):=by
 have b:aj K (.ai id k):=⟨t,f,by omega⟩;have m:=h.ax b 0 v j;have o:aj (K.ax (.ai id k) 0 v) (.ai id k):=b.gr (bA b _) (br _ _);have a:=lf m o;obtain⟨t1,s,x,_⟩:=dP (K:=K) (k:=k) f {K.F (.ai id k)with r:=fW (K.F (.ai id k)).r 0 v};obtain⟨t2,g,z,_⟩:=dP (K:=K.ax (.ai id k) 0 v) (k:=k) s {(K.ax (.ai id k) 0 v).F (.ai id k)with pc:=wrap64 (((K.ax (.ai id k) 0 v).F (.ai id k)).pc+1)};unfold eZ;dsimp only;split
 ·exact sT a g (by omega) (by omega) 2
 ·have n:=a.ot (a.core.ended g v j)
  have e:((({(K.ax (.ai id k) 0 v).fA (.ai id k)with table:=(gi ((K.ax (.ai id k) 0 v).fA (.ai id k)).table id v).2}:KS)).W i).slot=id:=q;have d:=Inv.ended (C:=C) n (by omega) (i:=i) p (by rw[e];exact l);rw[e]at d;exact d.more (Nat.le_refl _) (Nat.le_succ _)
theorem AH(id op:Int)(S:aI×List Ev)(kind a d v:Int)(b:b8 S.1/\S.2.length<=M)(h:aK v):(b8 (bR C K id op S kind a d v).2.1/\(bR C K id op S kind a d v).2.2.length<=M+1)/\∀x,(bR C K id op S kind a d v).1=some x->aK x:=by
 unfold bR;split
 ·exact⟨⟨b.1,Nat.le_succ_of_le b.2⟩,fun x e=>by cases e⟩
 ·dsimp only
  have f:=b.1.acc kind (IntKind.u64.wrap (IntKind.u64.wrap (gT K)+a)) d v h;split
  ·exact⟨⟨f.1,Nat.le_succ_of_le b.2⟩,fun x e=>by cases e⟩
  ·rename_i held g
   refine⟨⟨(f.1.acc 0 _ 0 0 bE).1,?_⟩,fun x e=>by rw[<-Option.some.inj e];exact f.2 held g⟩;rw[List.length_append];have:=b.2;simp;omega
theorem uM{x:be}{n:Int}(h:eD x n false=true):x.op<=22/\(x.op=22->x.v<1000):=by
 unfold eD my j8 at h;simp only[Bool.and_eq_true]at h;obtain⟨⟨⟨_,b⟩,⟨_,a⟩⟩,_⟩:=h;refine⟨?_,fun e=> ?_⟩
 ·have:x.op<=22/\x.m=0:=by simpa using b
  exact this.1
 ·unfold rH at a
  rw[if_neg (by omega),if_pos e]at a;simpa using a
theorem pU(d:ow C)(h:Inv N M K)(n:aw K.ai id=some t)(j:k<t.l.length)(op:Int):Inv N (M+1) (({K with mem:=(bM (bR C K id op) C.bs (K.F (.ai id k)) (K.mem,K.out)).2.2.1,out:=(bM (bR C K id op) C.bs (K.F (.ai id k)) (K.mem,K.out)).2.2.2}:KS).cI (.ai id k) (bM (bR C K id op) C.bs (K.F (.ai id k)) (K.mem,K.out)).2.1)/\
 ((bM (bR C K id op) C.bs (K.F (.ai id k)) (K.mem,K.out)).1=0∨(bM (bR C K id op) C.bs (K.F (.ai id k)) (K.mem,K.out)).1=1∨(bM (bR C K id op) C.bs (K.F (.ai id k)) (K.mem,K.out)).1=2∨(bM (bR C K id op) C.bs (K.F (.ai id k)) (K.mem,K.out)).1=3)/\
 ((bM (bR C K id op) C.bs (K.F (.ai id k)) (K.mem,K.out)).1=1->(fB C.bs (K.F (.ai id k)).pc).op=22/\0<=(fB C.bs (K.F (.ai id k)).pc).v/\(fB C.bs (K.F (.ai id k)).pc).v<1000):=by
 have w:aj K (.ai id k):=⟨t,n,j⟩;have m:=sN (Q:=fun S:aI×List Ev=>b8 S.1/\S.2.length<=M) (Q':=fun S:aI×List Ev=>b8 S.1/\S.2.length<=M+1) (bR C K id op) (fun S kind a A v b z=>AH id op S kind a A v b z) (fun S b=>⟨b.1,Nat.le_succ_of_le b.2⟩) C.bs d.pv (K.F (.ai id k)) (h.lY w) (K.mem,K.out) ⟨h.mem,h.out⟩;obtain⟨s,y⟩:=nm (bM (bR C K id op) C.bs (K.F (.ai id k)) (K.mem,K.out));rw[y]at m⊢;obtain⟨o,g,p,q,r⟩:=m;refine⟨?_,p,fun e=> ?_⟩
 ·have u:Inv N (M+1) ({K with mem:=s.2.2.1,out:=s.2.2.2}:KS):=⟨h.core,h.nd,h.q,h.b2,h.bI,g.1,h.obj,h.draw,h.w0,h.w1,g.2⟩
  exact u.cI (c:=.ai id k) ⟨t,n,j⟩ o
 ·have l:=(q (Or.inr e)).2
  have x:=uM (d.F4 _ l);have B:=(r e).1;have f:(fB C.bs (K.F (.ai id k)).pc).op=22:=by omega
  exact⟨f,(d.pv _ l).1,x.2 f⟩
theorem uN(p:ow C)(h:Inv N M K)(g:N<=800000)(q:i<K.wk.length)(o:aw K.ai id=some t)(v:(K.W i).slot=id)(f:id≠0)(z:t.l.length%2=1)(x:k+1=t.l.length):Inv N (M+4) (cx C K i id k):=by
 unfold cx;dsimp only;have m:=pU p h o (k:=k) (by omega) (fB C.bs (K.F (.ai id k)).pc).op;obtain⟨s,u⟩:=nm (bM (bR C K id (fB C.bs (K.F (.ai id k)).pc).op) C.bs (K.F (.ai id k)) (K.mem,K.out));rw[u]at m⊢;obtain⟨a,_,_⟩:=m;obtain⟨t1,b,y,_⟩:=dP (K:=({K with mem:=s.2.2.1,out:=s.2.2.2}:KS)) (k:=k) (id:=id) o s.2.1;obtain⟨K1,d⟩:=nm (({K with mem:=s.2.2.1,out:=s.2.2.2}:KS).cI (.ai id k) s.2.1);have l:i<K1.wk.length:=by rw[<-d];exact q
 have n:(K1.W i).slot=id:=by rw[<-d];exact v
 rw[d]at a b⊢;have j:aj K1 (.ai id k):=⟨t1,b,by omega⟩;split
 ·obtain⟨t2,w,A,_⟩:=dP (K:=K1) (k:=k) b {K1.F (.ai id k)with pc:=wrap64 ((K1.F (.ai id k)).pc+1)}
  exact(sT (lf a j) w (by omega) (by omega) _).more (Nat.le_refl _) (by omega)
 ·split
  ·split
   ·rename_i r
    have e:=a.de b;rw[KS.dm b];exact Inv.more (N:=N) (M:=M+1) (a.cp b ⟨e.id,e.eY,e.l.take _ r⟩) (Nat.le_refl _) (by omega)
   ·exact(sU a g l b n f (by omega) (by omega) _ ((a.lY j).r 0 (by omega))).more (Nat.le_refl _) (by omega)
  ·split
   ·exact sU (a.tell _) g (K:=tell K1 _) l b n f (by omega) (by omega) _ ⟨by decide,by decide⟩
   ·exact a.more (Nat.le_refl _) (by omega)
theorem AI(j:ow C)(h:Inv N M K)(l:N<=800000)(a:i<K.wk.length):Inv (N+1) (M+4) (fR C K i):=by
 unfold fR;split
 ·exact(CK j h l a).more (Nat.le_refl _) (by omega)
 ·rename_i e
  dsimp only;obtain⟨t,d⟩:=h.core.k9 (KS.ha a) e;have o:=h.de d;have m:K.top (K.W i).slot=t.l.length-1:=by unfold KS.top;rw[KS.dm d]
  have v:=o.l.n0;obtain⟨f,p⟩:∃f,t.l[t.l.length-1]?=some f:=⟨_,List.getElem?_eq_getElem (by omega)⟩;have u:(K.T (K.W i).slot).l.getD (K.top (K.W i).slot) default=f:=by rw[KS.dm d,m,List.getD_eq_getElem?_getD,p];rfl
  have g:=o.l.cg _ f p;rw[u];split
  ·exact(h.k' a e).more (Nat.le_succ _) (by omega)
  ·have s:=h.gA a
   have n:Inv N M (K.bj i {K.W i with left:=max ((K.W i).left-1) 0}):=h.bj a rfl rfl ⟨s.f,by show 0<=max ((K.W i).left-1) 0;omega,by have:=s.l1;show max ((K.W i).left-1) 0<=24;omega⟩;have q:i<(K.bj i {K.W i with left:=max ((K.W i).left-1) 0}).wk.length:=(by rw[bG];exact a);have r:((K.bj i {K.W i with left:=max ((K.W i).left-1) 0}).W i).slot=(K.W i).slot:=(by rw[gM a]);split
   ·rename_i b
    rw[b]at g;have:(t.l.length-1)%2=1:=(by simpa using g.symm);exact(sS j n l q d r e (by omega) (by rw[m];omega)).more (Nat.le_refl _) (by omega)
   ·rename_i b
    have b:f.cg=false:=(by simpa using b);rw[b]at g;have:(t.l.length-1)%2≠1:=(by simpa using g.symm);exact(uN j n l q d r e (by omega) (by rw[m];omega)).more (Nat.le_succ _) (Nat.le_refl _)
theorem sV(h:Inv N M K)(id:Int):Inv N M (cy K id):=by
 rw[kk];have a:=(h.km (h.q.drop id)).hz (id:=id) 110 ⟨by decide,by decide⟩;split
 ·rename_i b
  rw[lZ]at b;obtain⟨⟨t,d⟩,e⟩:=a.core.Am b;exact a.toRing d e
 ·exact a
theorem oC:∀(l:List Int) (K:KS),Inv N M K->Inv N M (l.foldl cy K)
 |[],_,h=>h
 |x::l,K,h=>oC l _ (sV h x)
theorem AJ(h:Inv N M K):Inv N (M+1) (hs K):=by
 unfold hs;dsimp only;exact oC _ _ ((h.uH h.b2.tick.1).tell _)
theorem q4(d:ow C)(h:Inv N 0 K)(e:N<=800000)(kind wk draw:Int)(hd:aK draw):Inv (N+1) 0 (ht C K kind wk draw).2:=by
 have a:∀w,Inv N 0 ({K with at_:=K.entries,w:=w,draw:=draw,entries:=wrap64 (K.entries+1)}:KS):=fun w=>⟨h.core,h.nd,h.q,h.b2,h.bI,h.mem,h.obj,hd,h.w0,h.w1,h.out⟩
 have b:∀{M:Nat} {K':KS},Inv (N+1) M K'->Inv (N+1) 0 ({K' with out:=[]}:KS):=fun h=>⟨h.core,h.nd,h.q,h.b2,h.bI,h.mem,h.obj,h.draw,h.w0,h.w1,Nat.le_refl _⟩
 unfold ht;dsimp only;split
 ·exact b ((AJ (a (-1))).more (Nat.le_succ _) (Nat.le_refl _))
 ·split
  ·split
   ·rename_i f
    exact b (AI d (a wk) e (i:=wk.toNat) (by have:=f.2;show wk.toNat<K.wk.length;omega))
   ·exact b ((a (-1)).more (Nat.le_succ _) (Nat.le_refl _))
  ·exact b ((a (-1)).more (Nat.le_succ _) (Nat.le_refl _))
end
end
theorem l5{N M:Nat}(T:ow C)(bb:Inv N M K)(c8:N<=600000)(c7:M<=600000)(i:Nat)(bv:i<K.wk.length)(id:Int)(t:Thread)(y:aw K.ai id=some t)(k:Nat)(ca:k+1=t.l.length)(cb:t.l.length%2=1)(v:Int)(c0:aK v)(h:ae w χ L Y C K):
 Calls prog 139 #[(L.mb,0),(L.wb,i*38),(Y.bI id,0),(Y.fb id k,0),.int .u64 v] w (si (.tuple #[]) χ L C (eZ C K i id k v) w):=by
 have l:aj K (.ai id k):=⟨t,y,by omega⟩;obtain⟨b,hb⟩:=nm (Y.fb id k);obtain⟨tb,a1⟩:=nm (Y.bI id);have s:aR L Y (.ai id k) b 0:=⟨hb.symm,rfl⟩;rw[hb,a1];obtain⟨dZ,Y1,n⟩:=h.a7 l s 0 (by omega) v;obtain⟨K1,g⟩:=nm (K.ax (.ai id k) 0 v);have U:Inv N M K1:=by rw[<-g];exact bb.ax l 0 v c0
 have W:Gr K K1:=by rw[<-g];exact bA l _
 have a2:K1.wk.length=K.wk.length:=by rw[<-g];exact br _ _
 obtain⟨t1,bZ,cd,_⟩:∃d,aw K1.ai id=some d/\d.l.length=t.l.length/\d.id=t.id:=by rw[<-g];exact dP y _
 rw[g]at n;obtain⟨m,D⟩:=n.cur l s W a2;obtain⟨I,o,H⟩:=n.at_.qM m D (wrap64 ((K1.F (.ai id k)).pc+1));obtain⟨a,j⟩:=nm (K1.fA (.ai id k));have f:Inv N M a:=by rw[<-j];exact U.cI m ((U.lY m).pc _)
 have c9:Gr K1 a:=by rw[<-j];exact bA m _
 have G:a.wk.length=K1.wk.length:=by rw[<-j];exact br _ _
 obtain⟨t2,p,ce,_⟩:∃d,aw a.ai id=some d/\d.l.length=t1.l.length/\d.id=t1.id:=by rw[<-j];exact dP bZ _
 have bd:K1.cI (.ai id k) {K1.F (.ai id k)with pc:=wrap64 ((K1.F (.ai id k)).pc+1)}=a:=j;rw[bd]at H;have ch:w.cell? (b,1)=some (.int .u64 ((K.F (.ai id k)).r 0)):=h.aA l s 0 (by omega);have f0:=h.hy l s 1;have a5:=n.at_.uu m D;have f1:=n.at_.hy m D 0;obtain⟨pc,bx⟩:=nm ((K1.F (.ai id k)).pc);rw[bx]at a5 H;have z:=n.trans W H;have a3:o.bI id=tb:=((z.yk id t y).1).trans a1;have a4:o.fb id k=b:=((z.yk id t y).2 k (by omega)).trans hb;have c:Hid (dD χ L Y C K a w I o ((w.setCell (b,1) (.int .u64 v)).setCell (b,0) (.int .i64 (wrap64 (pc+1))))):=Z z;have p1:(w.setCell (b,1) (.int .u64 v)).cell? (b,0)=some (.int .i64 pc):=a5;have f2:(w.setCell (b,1) (.int .u64 v)).frozen? (b,0)=false:=f1;obtain⟨r,a0⟩:∃r,C.rows[2]?=some r:=⟨_,List.getElem?_eq_getElem (by rw[T.Eu];omega)⟩;have av:((w.setCell (b,1) (.int .u64 v)).setCell (b,0) (.int .i64 (wrap64 (pc+1)))).cell? (L.mb,9)=some (.int .i64 r):=z.at_.Ec a0;have bX:C.rows.getD 2 0=r:=by rw[List.getD_eq_getElem?_getD,a0];rfl
 have P:Hid (eZ C K i id k v=if 0<r then hr C a id k 2 else m3 C {a with table:=(gi a.table id v).2} i id):=Z (by unfold eZ;dsimp only;rw[g,j,bX]);have X:=(f.de p).id;have F:=(f.Et (by omega) p).1;have bw:i<a.wk.length:=by rw[G,a2];exact bv
 have Q:=Z (And.intro a3 a4);by_cases x:0<r
 ·have bi:decide (0<r)=true:=by simpa using x
  have E:Hid (eZ C K i id k v=hr C a id k 2):=Z (by rw[P,if_pos x]);have O:=Z (fun w (h:ae w I L o C a)=>pT T f (by omega) (by omega) id t2 p k (by omega) (by omega) 2 (by decide) (by decide) h);rw[a3,a4]at O;go_in
  go_wp2_with fail
  with_reducible refine(O.out _ c.out.at_).mono ?_
  rintro e c4 ⟨rfl,a9,B,q,c2⟩;have R:=Z (And.intro q (c.nx.trans c2));go_wp2
  go_end0
  rw[E];exact⟨rfl,a9,B,R.1,R.2⟩
 ·have bi:decide (0<r)=false:=by simpa using x
  have E:Hid (eZ C K i id k v=m3 C {a with table:=(gi a.table id v).2} i id):=Z (by rw[P,if_neg x]);have ad:=Z (fun w (h:ae w I L o C a)=>qJ id v F h);have ab:=Z (fun(w:World) (χ:Nat->a') (Y:Var) (h:ae w χ L Y C ({a with table:=(gi a.table id v).2}:KS))=>sj (K:=({a with table:=(gi a.table id v).2}:KS)) i bw id t2 p X F (f.b2.ok (by omega)) (f.bI.ok (by omega)) (by show a.out.length<=800000;have:=f.out;omega) h);have A:=Z (And.intro p X);go_in
  go_wp2
  obtain⟨w2,G⟩:=nm (((w.setCell (b,1) (.int .u64 v)).setCell (b,0) (.int .i64 (wrap64 (pc+1)))));rw[G]at c av⊢;have ap:=c.at_.gw A.1;rw[Q.1,A.2]at ap;have c6:=c.at_.ee;go_still_tail 9,(by kernel_rfl)
  change wpList _ _ _ _ _ w2.drew;go_wp2_with fail
  with_reducible refine(ad.out _ c.out.at_.drew).mono ?_
  rintro e c4 ⟨⟨u,rfl,F⟩,a9,B,q⟩;have J:=Z q;have c1:B.bI id=tb:=((q.yk id t2 A.1).1).trans Q.1;have al:=Z c1;go_wp2_with fail
  have V:=ab _ _ _ J.at_;rw[al]at V;with_reducible refine V.mono ?_
  rintro e w4 ⟨rfl,c5,am,aP,c3⟩;have S:=Z (And.intro aP ((c.nx.trans ((Nx.af (Ch.refl _ w2).drew).trans J.nx)).trans c3));go_wp2
  go_end0
  rw[E];exact⟨rfl,c5,am,S.1,S.2⟩
theorem aJ.same{w:World}{b o:Nat}{t:TypeId}{c e d g:List Value}{h i:Value}{f1 f2:cP}(j:aJ w b o t c e h f1)(k:aJ w b o t d g i f2):c=d/\e=g/\h=i:=by
 have hlen:c.length=d.length:=by rw[j.len,k.len]
 have s:c++(f1.cells h++e)=d++(f2.cells i++g):=by
  have m:=j.row;have a:=k.row;unfold Row at m a;rw[m]at a;injection a with a
  injection a with a _ _
  exact congrArg Array.toList a
 obtain⟨p,v⟩:=List.append_inj s hlen;obtain⟨x,q⟩:=List.append_inj v (by rw[cP.db,cP.db]);have n:=congrArg (fun l=>l[33]?) x;have r:∀(f:cP) u,(f.cells u)[33]?=some u:=fun f u=>by
  unfold cP.cells;rw[List.getElem?_cons_succ,List.getElem?_append_right (by rw[bz];omega),bz];rfl
 simp only[r]at n;exact⟨p,q,Option.some.inj n⟩
theorem AM{α:Type}(l:List (Int×α))(k:Int)(x y:α):cn (cn l k x) k y=cn l k y:=by
 induction l with
 |nil=>rw[kF,kF,dY,if_pos rfl]
 |cons z l ih=>
  rw[dY,dY];by_cases e:k=z.1
  ·rw[if_pos e,if_pos e,dY,if_pos rfl]
  ·rw[if_neg e,if_neg e,dY,if_neg e,ih]
theorem yu{id:Int}{k:Nat}{t:Thread}(c:aw K.ai id=some t)(b:k<t.l.length)(f g:cP):(K.cI (.ai id k) f).cI (.ai id k) g=K.cI (.ai id k) g:=by
 have a:(K.cI (.ai id k) f).T id={K.T id with l:=(K.T id).l.set k {(K.T id).l.getD k default with f:=f}}:=KS.dm (by show aw (cn _ _ _) _=_;rw[aV,if_pos rfl]);show(K.cI (.ai id k) f).cp id _=K.cp id _
 rw[a];unfold KS.cI KS.cp;dsimp only;rw[AM]
 congr 2
 rw[KS.dm c,List.set_set,List.getD_eq_getElem?_getD,List.getElem?_set_self b];rfl
def GG(a:KS)(c:cJ)(S:aI×List Ev)(K':KS):Prop:=K'={a with mem:=S.1,out:=S.2}∨∃f,K'=({a with mem:=S.1,out:=S.2}:KS).cI c f
theorem Ey(X:Array Value)(w:World):(Go.method 546 287 (.agg X) "Load").run prog w=.ok (290,.agg X) w:=by kernel_rfl
theorem Ez(X:Array Value)(w:World):(Go.method 546 287 (.agg X) "Store").run prog w=.ok (291,.agg X) w:=by kernel_rfl
theorem EA(X:Array Value)(w:World):(Go.method 546 287 (.agg X) "Swap").run prog w=.ok (292,.agg X) w:=by kernel_rfl
theorem EB(X:Array Value)(w:World):(Go.method 546 287 (.agg X) "Add").run prog w=.ok (288,.agg X) w:=by kernel_rfl
theorem EC(X:Array Value)(w:World):(Go.method 546 287 (.agg X) "Cas").run prog w=.ok (289,.agg X) w:=by kernel_rfl
theorem ED(X:Array Value)(w:World):(nilAhead 546 287 (.agg X) "Cas").run prog w=.ok (some false) w:=by kernel_rfl
theorem EE(args:Array Value)(w:World):(callFunc 290 args).run prog w=.ok (.enter 290 args) w:=by kernel_rfl
theorem EF(args:Array Value)(w:World):(callFunc 291 args).run prog w=.ok (.enter 291 args) w:=by kernel_rfl
theorem EG(args:Array Value)(w:World):(callFunc 292 args).run prog w=.ok (.enter 292 args) w:=by kernel_rfl
theorem EH(args:Array Value)(w:World):(callFunc 288 args).run prog w=.ok (.enter 288 args) w:=by kernel_rfl
theorem EI(args:Array Value)(w:World):(callFunc 289 args).run prog w=.ok (.enter 289 args) w:=by kernel_rfl
theorem CM{w0:World}{c:cJ}{id op kind a b v:Int}(k:Ch ag w0 w){e:Ending}{w':World}(h:iQ (bR C K id op (K.mem,K.out) kind a b v).1 χ L Y C K (pe C K id op kind a b v) w e w'):
 m2 (bR C K id op (K.mem,K.out) kind a b v).1 (fun w'=>(∃K' aY Y',GG K c (bR C K id op (K.mem,K.out) kind a b v).2 K'/\dD χ L Y C K K' w0 aY Y' w')/\Ch (fun i=>χ i=.mem∨χ i=.gL∨χ i=.out) w w') e w':=by
 obtain⟨d,⟨aY,Y',f⟩,j⟩:=h;refine⟨?_,⟨_,aY,Y',Or.inl rfl,f.at_,(Nx.af k).trans f.nx,f.yk⟩,j⟩;cases g:(bR C K id op (K.mem,K.out) kind a b v).1 with
 |none=>rw[g]at d;exact d
 |some x=>rw[g]at d;exact d
def CN(w0:World)(χ:Nat->a')(L:cU)(Y:Var)(C:KC)(K:KS)(c:cJ)(id op:Int)(g:0<=C.wide/\C.wide<=256/\0<=C.narrow/\C.narrow<=256)(j:K.out.length<=900000):qw 287 (.agg #[(L.mb,0),.int .u64 id,op]) (aI×List Ev) where
 At:=fun S w=>S=(K.mem,K.out)/\ae w χ L Y C K/\Ch ag w0 w
 vS:=fun S w=>∃K' aY Y',GG K c S K'/\dD χ L Y C K K' w0 aY Y' w
 Ok:=fun _=>True
 D:=fun i=>χ i=.mem∨χ i=.gL∨χ i=.out
 acc:=bR C K id op
 FL:=290
 FS:=291
 FW:=292
 FA:=288
 FC:=289
 mL:=Ey _
 mS:=Ez _
 mW:=EA _
 mA:=EB _
 mC:=EC _
 nC:=ED _
 eL:=EE
 eS:=EF
 eW:=EG
 eA:=EH
 eC:=EI
 keep:=fun _ _ _ h k=>⟨h.1,h.2.1.af k,h.2.2.trans k⟩
 Ds:=fun S w h=>⟨K,χ,Y,Or.inl (by rw[h.1]),h.2.1,Nx.af h.2.2,Yk.refl _ _⟩
 zy:=fun S w w' ⟨K',aY,Y',b,d⟩ k=>⟨K',aY,Y',b,d.af k⟩
 cL:=fun S a w _ e h=>by
  obtain⟨rfl,b,d⟩:=h;exact(uO g j id op a e b).mono fun _ _ h=>CM d h
 cS:=fun S a v w _ e f h=>by
  obtain⟨rfl,b,d⟩:=h;refine(sX g j id op a v e f b).mono fun _ _ h=> ?_
  obtain⟨m,⟨aY,Y',l⟩,n⟩:=h;exact⟨m,⟨_,aY,Y',Or.inl rfl,l.at_,(Nx.af d).trans l.nx,l.yk⟩,n⟩
 cW:=fun S a v w _ e f h=>by
  obtain⟨rfl,b,d⟩:=h;exact(oD g j id op a v e f b).mono fun _ _ h=>CM d h
 cA:=fun S a v w _ e f h=>by
  obtain⟨rfl,b,d⟩:=h;exact(ys g j id op a v e f b).mono fun _ _ h=>CM d h
 cC:=fun S a o v w _ e p f h=>by
  obtain⟨rfl,b,d⟩:=h;exact(yt g j id op a o v e p f b).mono fun _ _ h=>CM d h
def wy(C:KC)(K:KS)(id op:Int)(k:Nat):Int×KS:=
 let s:=bM (bR C K id op) C.bs (K.F (.ai id k)) (K.mem,K.out)
 (s.1,({K with mem:=s.2.2.1,out:=s.2.2.2}:KS).cI (.ai id k) s.2.1)
theorem GG.next{c:cJ}{a K':KS}{S:aI×List Ev}{id:Int}{k:Nat}{t:Thread}(h:GG a (.ai id k) S K')(e:aw a.ai id=some t)(d:k<t.l.length):aj K' (.ai id k)/\Gr a K'/\∀g,K'.cI (.ai id k) g=({a with mem:=S.1,out:=S.2}:KS).cI (.ai id k) g:=by
 have b:aj ({a with mem:=S.1,out:=S.2}:KS) (.ai id k):=⟨t,e,d⟩;rcases h with rfl|⟨f,rfl⟩
 ·exact⟨b,Gr.of_eq rfl,fun _=>rfl⟩
 ·exact⟨b.gr (bA b f) (br _ _),(Gr.of_eq (K':=({a with mem:=S.1,out:=S.2}:KS)) rfl).trans (bA b f),fun g=>yu (K:=({a with mem:=S.1,out:=S.2}:KS)) e d f g⟩
theorem dD.Hv{K1:KS}{dZ:Nat->a'}{Y1:Var}{w1 w2:World}{id:Int}{k:Nat}{b:Nat}{t:Thread}(m:dD χ L Y C K K1 w dZ Y1 w1)(r:aw K.ai id=some t)(o:k<t.l.length)(q:aR L Y (.ai id k) b 0)(f:aj K1 (.ai id k))(g:Gr K K1){pre post:List Value}{i j:Value}{f1 f2:cP}(l:aJ w1 b 0 127 pre post i f1)(n:aJ w2 b 0 127 pre post j f2)(p:aS w1 i j)(c:Ch (aH b) w1 w2):
 ∃d a,dD χ L Y C K (K1.cI (.ai id k) f2) w d a w2:=by
 have h:aR L Y1 (.ai id k) b 0:=q.yk ⟨t,r,o⟩ m.yk;obtain⟨v,u,x,e⟩:=m.at_.cur f h;obtain⟨rfl,rfl,rfl⟩:=aJ.same (t:=127) l e;obtain⟨d,a,s⟩:=m.at_.z1 f h e n p c;exact⟨d,a,m.trans g s⟩
theorem EJ(id op:Int)(k:Nat){t:Thread}(m:aw K.ai id=some t)(l:k<t.l.length)(b:Nat)(r:aR L Y (.ai id k) b 0)(Q:∀j,j<32->aK ((K.F (.ai id k)).r j))(E:(K.F (.ai id k)).back.length<=8)(T:∀x∈C.bs,aK x.v)(W:C.bs.length<=2048)(F:0<=C.wide/\C.wide<=256/\0<=C.narrow/\C.narrow<=256)(P:K.out.length<=900000)(h:ae w χ L Y C K):
 Calls prog 137 #[(b,0),.slice L.pc C.bs.length L.Cm,.iface 287 (.agg #[(L.mb,0),.int .u64 id,op])] w
  (zz (wy C K id op k).1 (fun w'=>∃aY Y',dD χ L Y C K (wy C K id op k).2 w aY Y' w')):=by
 have G:aj K (.ai id k):=⟨t,m,l⟩;obtain⟨pre,post,v,I,O,U⟩:=h.FZ G r;have y:=h.code (by simp);have R:=rQ (CN w χ L Y C K (.ai id k) id op F P) (K.mem,K.out) (Z trivial) b 0 127 (by decide) pre post v (K.F (.ai id k)) C.bs L.pc C.bs.length L.Cm rfl y.m5 (by omega) E Q T w I
  (fun B=>by obtain⟨g,a,d,_⟩:=y.prog (by intro e;rw[e]at B;exact absurd B (by simp));exact⟨g,0,a,fun j u N=>by rw[Nat.zero_add];exact d.cell j u N⟩) ⟨rfl,h,Ch.refl _ _⟩
  (fun S w1 w2 a0 f1 a1 f2 ⟨K',aY,Y',a,d⟩ J M A H=>by
   obtain⟨p,f,q⟩:=a.next (c:=.ai id k) m l;obtain⟨s,o,n⟩:=d.Hv m l r p f J M A H;exact⟨_,s,o,Or.inr ⟨f2,q f2⟩,n⟩)
  (fun e=>by
   rcases O with a|⟨_,_,a⟩<;>rcases e with e|e|e<;>rw[a]at e<;>cases e)
  (fun i X e=>by
   have:=h.small i (by rcases e with e|e|e<;>rw[e]<;>simp);omega)
  (fun g f e=>by
   have a:=U g f;rcases e with e|e|e<;>rw[a]at e<;>cases e)
 refine R.mono ?_;rintro e w' ⟨a,⟨v',z,A⟩,⟨K',aY,Y',d,D⟩,V⟩;refine⟨a,?_⟩;obtain⟨p,f,q⟩:=d.next (c:=.ai id k) m l;obtain⟨s,o,n⟩:=D.Hv m l r p f z z (aS.refl _ _) ay;refine⟨s,o,?_⟩;rw[q]at n;exact n
theorem sY{N M:Nat}(I:ow C)(U:Inv N M K)(mS:N<=500000)(mL:M<=500000)(i:Nat)(di:i<K.wk.length)(id:Int)(t:Thread)(Q:aw K.ai id=some t)(k:Nat)(dr:k+1=t.l.length)(eS:t.l.length%2=1)(h:ae w χ L Y C K):
 Calls prog 91 #[(L.mb,0),(L.wb,i*38),(Y.bI id,0),(Y.fb id k,0)] w (si (.tuple #[]) χ L C (cx C K i id k) w):=by
 have a3:k<t.l.length:=by omega
 have bd:aj K (.ai id k):=⟨t,Q,a3⟩;obtain⟨b,hb⟩:=nm (Y.fb id k);obtain⟨tb,cC⟩:=nm (Y.bI id);have c3:aR L Y (.ai id k) b 0:=⟨hb.symm,rfl⟩;rw[hb,cC];have hid:=(U.de Q).id;obtain⟨x,bw⟩:=nm (fB C.bs (K.F (.ai id k)).pc);have J:=fun w (h:ae w χ L Y C K)=>EJ id x.op k Q a3 b c3 (U.lY bd).r (U.lY bd).back I.pv I.pl I.bw (by have:=U.out;omega) h
 have gG:=pU I U Q (k:=k) a3 x.op;rw[bw]at gG;obtain⟨s,bi⟩:=nm (bM (bR C K id x.op) C.bs (K.F (.ai id k)) (K.mem,K.out));obtain⟨K1,V⟩:=nm (({K with mem:=s.2.2.1,out:=s.2.2.2}:KS).cI (.ai id k) s.2.1);have cS:wy C K id x.op k=(s.1,K1):=by unfold wy;rw[bi];dsimp only;rw[V]
 rw[bi,V]at gG;obtain⟨P,hi,c5⟩:=gG;have cW:Gr K K1:=by rw[<-V];exact(Gr.of_eq (K':=({K with mem:=s.2.2.1,out:=s.2.2.2}:KS)) rfl).trans (bA (c:=.ai id k) ⟨t,Q,a3⟩ _)
 have B:K1.wk.length=K.wk.length:=by rw[<-V];exact br _ _
 obtain⟨t1,O,dC,_⟩:∃hw,aw K1.ai id=some hw/\hw.l.length=t.l.length/\hw.id=t.id:=by rw[<-V];exact dP (K:=({K with mem:=s.2.2.1,out:=s.2.2.2}:KS)) Q _
 rw[cS]at J;have bZ:Hid (cx C K i id k=if s.1=1 then hr C (K1.fA (.ai id k)) id k (wrap64 x.v)else if s.1=2 then(if 0<K1.top id then K1.cp id {K1.T id with l:=(K1.T id).l.take (K1.top id)}else eZ C K1 i id k ((K1.F (.ai id k)).r 0))else if s.1=3 then eZ C (tell K1 ⟨4,0,0,id,x.op,0,0,0,0,if x.op≠15/\x.op≠0 then dE (K1.F (.ai id k)).r x else 0,0⟩) i id k 18446744073709551615 else K1):=Z (by unfold cx;dsimp only;rw[bw,bi,V]);have bv:(K.F (.ai id k)).pc<0∨(C.bs.length:Int)<=(K.F (.ai id k)).pc->s.1=3:=fun e=>by
  rw[<-bi];unfold bM;rcases e with e|e
  ·rw[if_pos e]
  ·split
   ·rfl
   ·rw[List.getElem?_eq_none (by omega)]
 have cQ:=h.code (by simp);have dp:=(P.de O).id;have c2:i<K1.wk.length:=by rw[B];exact di
 have c1:aj K1 (.ai id k):=⟨t1,O,by omega⟩;obtain⟨r,dN⟩:=nm s.1;rw[dN]at J hi c5 bZ bv;dsimp only at J;have o:=Z (And.intro Q (And.intro cC (And.intro hb (And.intro hid a3))));have d:=Z (And.intro O (And.intro dp (And.intro dC (And.intro cW (And.intro B c1)))));have cF:=Z (And.intro bd c3);have fM:=Z (dD.refl h);obtain⟨pc,c4⟩:=nm ((K.F (.ai id k)).pc);have ge:=Z c4;rw[c4]at bw bv;obtain⟨ab,W⟩:=nm C.bs.length;have c9:=Z W;have n1:ab<=2048:=by rw[<-W];exact I.pl
 rw[W]at J bv;have G:=h.uu bd c3;rw[c4]at G;have k3:=h.c3;rw[W]at k3;have jS:=Z cQ.prog;have ct:=bw;by_cases i8:pc<0∨(ab:Int)<=pc
 ·have hd:(¬0<=pc/\decide (0<=pc)=false)∨(0<=pc/\decide (0<=pc)=true/\decide (pc<(ab:Int))=false):=by
   by_cases e:pc<0
   ·exact Or.inl ⟨by omega,by simpa using e⟩
   ·exact Or.inr ⟨by omega,by simpa using e,by simpa using i8.resolve_left e⟩
  have ll:r=3:=bv i8;subst ll;have ly:x=⟨0,0,0,0,0,0,0⟩:=by rw[<-ct];exact lX (by rw[W];omega)
  subst ly;try dsimp only at J
  try dsimp only at bZ
  have gk:Hid (∀w,ae w χ L Y C K->Calls prog 137 #[(b,0),.slice L.pc ab L.Cm,.iface 287 (.agg #[(L.mb,0),.int .u64 id,.int .i64 0])] w (zz 3 (fun w'=>∃aY Y',dD χ L Y C K K1 w aY Y' w'))):=Z J;have c8:=Z (fun(w:World) (χ:Nat->a') (Y:Var) (v:Int) (h:ae w χ L Y C (tell K1 ⟨4,0,0,id,0,0,0,0,0,v,0⟩))=>l5 I (P.tell ⟨4,0,0,id,0,0,0,0,0,v,0⟩) (by omega) (by omega) i c2 id t1 O k (by omega) (by omega) 18446744073709551615 ⟨by decide,by decide⟩ h);have eC:=Z (fun(w:World) (χ:Nat->a') (Y:Var) (v:Int) (h:ae w χ L Y C K1)=>dI 4 0 0 id 0 0 0 0 0 v 0 (by have:=P.out;omega) h);have bx:Hid (cx C K i id k=eZ C (tell K1 ⟨4,0,0,id,0,0,0,0,0,if 0≠15/\0≠0 then dE (K1.F (.ai id k)).r ⟨0,0,0,0,0,0,0⟩else 0,0⟩) i id k 18446744073709551615):=Z (by rw[bZ,if_neg (by decide),if_neg (by decide),if_pos rfl];try rfl);clear h U I Q cC hb hid a3 bd c3 bw J bi V cS P hi c5 cW B O dC bv cQ dp c2 c1 dN c4 W dr eS di ct;rcases hd with⟨lm,i6⟩|⟨lm,i6,lo⟩
  all_goals
   go_in
   go_wp2
   obtain⟨w1,B⟩:=nm (w.alloc (.cells #[.int .i64 0,.int .i64 0,.int .i64 0,.int .i64 0,.int .u64 0,.int .i64 0,.int .i64 0] 184));have fz:=Z (Ch.al (D:=ag) B);have eA:Hid (Row w1 w.heap.size 184 [.int .i64 0,.int .i64 0,.int .i64 0,.int .i64 0,.int .u64 0,.int .i64 0,.int .i64 0]/\χ w.heap.size=.no):=Z ⟨by rw[<-B];exact Row.new w _ _,fM.at_.fresh (Nat.le_refl _)⟩;rw[B];clear B G k3;have ce:=Z (fM.af fz);have G:=ce.at_.uu cF.1 cF.2;rw[ge]at G;have k3:=ce.at_.c3;rw[c9]at k3;go_quiet (fail)
   generalize eW:w1.drewN _=fn;have fK:=Z (Ch.dN (D:=ag) eW);clear eW G k3;have a9:=Z (ce.af fK);have c7:=Z ((Nx.af fK).row eA.1 eA.2);have G:=a9.at_.c3;rw[c9]at G;have gt:=a9.at_.gw o.1;rw[o.2.2.2.1,o.2.1]at gt;have x0:=c7.1.c1;go_wp2
   go_region_held3 (fun w'=>w'.cell? (L.mb,3)=some (.slice L.pc ab L.Cm)/\w'.cell? (tb,0)=some (.int .u64 id)/\w'.cell? ⟨w.heap.size,0,none⟩=some (.int .i64 0)) (go_keep) ((go_at_call 137;refine(gk _ a9.at_.drew).mono ?_;rintro e w4 ⟨⟨u,rfl,hn⟩,ey,cL,cs⟩;have f:=Z ((a9.af ay).trans (Gr.refl _) cs);have R:=Z (((Nx.af (Ch.refl _ fn).drew).trans cs.nx).row c7.1 c7.2);have fb:=((f.yk id t o.1).1).trans o.2.1;have fd:=((f.yk id t o.1).2 k o.2.2.2.2).trans o.2.2.1;have q:=Z (And.intro fb fd);clear cs hn fb fd;have p4:=f.at_.c3;rw[c9]at p4;have T:=f.at_.gw d.1;rw[d.2.1,q.1]at T;have x4:=R.1.c1))
   all_goals
    clear p4;go_wp2
    go_cut [12] (fun p wc=>uL 82 [.int .i64 4,.int .i64 0,.int .i64 0,.int .u64 id,.int .i64 0,.int .u64 0,.int .u64 0,.int .u64 0,.int .u64 0,.int .u64 0,.int .u64 0] w4 p wc)
    case first=>
     have lz:=World.new_ne w4 ⟨tb,0,none⟩ T;have lA:=World.new_ne w4 ⟨w.heap.size,0,none⟩ x4;have lB:tb≠w4.heap.size:=Nat.ne_of_lt (aQ T);have l':w.heap.size≠w4.heap.size:=Nat.ne_of_lt (aQ x4);go_region_held3 (fun w'=>w'.cell? (tb,0)=some (.int .u64 id)/\w'.cell? ⟨w.heap.size,0,none⟩=some (.int .i64 0)) (go_keep) (fail)
     all_goals(go_wp2_with fail;go_meet)
     all_goals exact⟨w4.heap.size,rfl,(Row.new w4 _ _).drew,ay,Nat.le_refl _⟩
    case rest=>
     obtain⟨c0,rfl,c6,cA,hle⟩:=hcut;have ca:=Z c6;have hT:=Z hle;have H:=Z (f.af cA);have bX:=Z ((Nx.af cA).row R.1 R.2);have hS:Hid (ey c0=.no):=Z (f.at_.fresh hle);have he:c0≠w.heap.size:=(fun e=>by have li:=R.1.lt;omega);have lv:=he.symm;clear c6 cA hle T x4;have x5:=bX.1.c1;have E:Hid (cx C K i id k=eZ C (tell K1 ⟨4,0,0,id,0,0,0,0,0,0,0⟩) i id k 18446744073709551615):=Z (by rw[bx,if_neg (by decide)]);obtain⟨ad,al,am,ap,av,aP,bb,cl,cm,cq,ci⟩:=ca.BJ;go_wp2_with fail
     with_reducible refine(eC.out _ _ _ 0 H.out.at_).mono ?_
     rintro e hE ⟨rfl,hF,gs,n⟩;have ch:=Z n;have X:=((n.yk id t1 d.1).1).trans q.1;have a1:=((n.yk id t1 d.1).2 k (by rw[d.2.2.1];exact o.2.2.2.2)).trans q.2;have hex:=c8 _ _ _ 0 n.at_;rw[X,a1]at hex;have a5:=Z hex;clear hex n X a1 ad al am ap av aP bb cl cm cq ci;go_wp2_with fail
     with_reducible refine a5.out.mono ?_
     rintro e fr ⟨rfl,a2,S,A,F⟩;have z:=Z (And.intro A ((H.nx.trans ch.nx).trans F));clear A F;go_wp2
     go_end0
     rw[E];exact⟨rfl,a2,S,z.1,z.2⟩
 ·have hh:0<=pc:=by omega
  have i3:pc<(ab:Int):=by omega
  have i6:decide (0<=pc)=true:=by simpa using hh
  have lo:decide (pc<(ab:Int))=true:=by simpa using i3
  have e':C.bs[pc.toNat]?=some x:=by rw[<-ct];exact oc hh (by rw[W];exact i3)
  obtain⟨g,gP,c6,_⟩:=jS (by intro e;rw[e]at e';cases e');have kb:=Z c6;have fL:=Z gP;rw[gP]at k3 J;obtain⟨m,rfl⟩:=Int.eq_ofNat_of_zero_le hh;rw[Int.toNat_natCast]at e';obtain⟨g2,g3,g4,g5,g6,g7,g8⟩:=eU C.bs m x e';have cd:=Z (And.intro g2 (And.intro g3 (And.intro g4 (And.intro g5 (And.intro g6 (And.intro g7 g8))))));obtain⟨j,e4,en,es,a4,et,ex⟩:=x;try dsimp only at J
  try dsimp only at bZ
  try dsimp only at c5
  have jR:Hid (k<=7):=Z (by have:=(U.de Q).l.n8;omega);have gk:Hid (∀w,ae w χ L Y C K->Calls prog 137 #[(b,0),.slice (some (g,0)) ab L.Cm,.iface 287 (.agg #[(L.mb,0),.int .u64 id,j])] w (zz r (fun w'=>∃aY Y',dD χ L Y C K K1 w aY Y' w'))):=Z J;clear e' g2 g3 g4 g5 g6 g7 g8 c6 gP;rcases hi with rfl|rfl|rfl|rfl
  have E:Hid (cx C K i id k=K1):=Z (by rw[bZ,if_neg (by decide),if_neg (by decide),if_neg (by decide)]);clear h U I Q cC hb hid a3 bd c3 bw J bi V cS P c5 cW B O dC bv cQ dp c2 c1 dN c4 W dr eS di ct;have kh:=True.intro
  rotate_left
  obtain⟨lw,lx,n2⟩:=c5 rfl;obtain⟨t2,i9,lu,_⟩:=dP (K:=K1) (k:=k) O {K1.F (.ai id k)with pc:=wrap64 ((K1.F (.ai id k)).pc+1)};have i2:=lf P c1;have jK:=Z (fun(w:World) (χ:Nat->a') (Y:Var) (h:ae w χ L Y C (K1.fA (.ai id k)))=>pT I i2 (by omega) (by omega) id t2 i9 k (by omega) (by omega) a4 lx (by omega) h);have io:wrap64 a4=a4:=by unfold wrap64;omega
  have E:Hid (cx C K i id k=hr C (K1.fA (.ai id k)) id k a4):=Z (by rw[bZ,if_pos rfl,io]);clear i9 lu i2 io lw;clear h U I Q cC hb hid a3 bd c3 bw J bi V cS P c5 cW B O dC bv cQ dp c2 c1 dN c4 W dr eS di ct;have kt:=True.intro
  rotate_left
  have hu:aK ((K1.F (.ai id k)).r 0):=(P.lY c1).r 0 (by omega);obtain⟨a0,fO⟩:∃a,(K1.F (.ai id k)).r 0=a:=⟨_,rfl⟩;rw[fO]at hu;have jH:=Z fO;have c8:=Z (fun(w:World) (χ:Nat->a') (Y:Var) (h:ae w χ L Y C K1)=>l5 I P (by omega) (by omega) i c2 id t1 O k (by omega) (by omega) a0 hu h);have ih:K1.top id=k:=by unfold KS.top;rw[KS.dm O];omega
  have bx:Hid (cx C K i id k=if 0<k then K1.cp id {t1 with l:=t1.l.take k}else eZ C K1 i id k a0):=Z (by rw[bZ,if_neg (by decide),if_pos rfl,ih,KS.dm O,fO]);have jM:=Z dr;clear fO hu ih;clear h U I Q cC hb hid a3 bd c3 bw J bi V cS P c5 cW B O dC bv cQ dp c2 c1 dN c4 W dr eS di ct;have ku:=True.intro
  rotate_left
  have c8:=Z (fun(w:World) (χ:Nat->a') (Y:Var) (v:Int) (h:ae w χ L Y C (tell K1 ⟨4,0,0,id,j,0,0,0,0,v,0⟩))=>l5 I (P.tell ⟨4,0,0,id,j,0,0,0,0,v,0⟩) (by omega) (by omega) i c2 id t1 O k (by omega) (by omega) 18446744073709551615 ⟨by decide,by decide⟩ h);have eC:=Z (fun(w:World) (χ:Nat->a') (Y:Var) (v:Int) (h:ae w χ L Y C K1)=>dI 4 0 0 id j 0 0 0 0 v 0 (by have:=P.out;omega) h);have bx:Hid (cx C K i id k=eZ C (tell K1 ⟨4,0,0,id,j,0,0,0,0,if j≠15/\j≠0 then dE (K1.F (.ai id k)).r ⟨j,e4,en,es,a4,et,ex⟩else 0,0⟩) i id k 18446744073709551615):=Z (by rw[bZ,if_neg (by decide),if_neg (by decide),if_pos rfl];try rfl);clear h U I Q cC hb hid a3 bd c3 bw J bi V cS P c5 cW B O dC bv cQ dp c2 c1 dN c4 W dr eS di ct;have kv:=True.intro
  rotate_left
  all_goals
   go_in
   go_wp2
   obtain⟨w1,B⟩:=nm (w.alloc (.cells #[.int .i64 0,.int .i64 0,.int .i64 0,.int .i64 0,.int .u64 0,.int .i64 0,.int .i64 0] 184));have fz:=Z (Ch.al (D:=ag) B);have eA:Hid (Row w1 w.heap.size 184 [.int .i64 0,.int .i64 0,.int .i64 0,.int .i64 0,.int .u64 0,.int .i64 0,.int .i64 0]/\χ w.heap.size=.no):=Z ⟨by rw[<-B];exact Row.new w _ _,fM.at_.fresh (Nat.le_refl _)⟩;rw[B];clear B G k3;have ce:=Z (fM.af fz);have G:=ce.at_.uu cF.1 cF.2;rw[ge]at G;have k3:=ce.at_.c3;rw[c9,fL]at k3;go_quiet (fail)
   generalize eW:w1.drewN _=w2;have gc:=Z (Ch.dN (D:=ag) eW);clear eW G k3;have go:=Z (ce.af gc);have y:=Z ((Nx.af gc).row eA.1 eA.2);have G:=go.at_.uu cF.1 cF.2;rw[ge]at G;have k3:=go.at_.c3;rw[c9,fL]at k3;have cb:=Z (kb.ch (fz.trans gc) (fun h=>h));have it:=cb.cell _ _ cd.1;have iC:=cb.cell _ _ cd.2.1;have iX:=cb.cell _ _ cd.2.2.1;have je:=cb.cell _ _ cd.2.2.2.1;have jf:=cb.cell _ _ cd.2.2.2.2.1;have jp:=cb.cell _ _ cd.2.2.2.2.2.1;have jE:=cb.cell _ _ cd.2.2.2.2.2.2;have kw:=y.1.c1;have ad:=y.1.free 0;have kx:=y.1.k 1 rfl;have al:=y.1.free 1;have kG:=y.1.k 2 rfl;have am:=y.1.free 2;have kN:=y.1.k 3 rfl;have ap:=y.1.free 3;have kO:=y.1.k 4 rfl;have av:=y.1.free 4;have kT:=y.1.k 5 rfl;have aP:=y.1.free 5;have l0:=y.1.k 6 rfl;have bb:=y.1.free 6;try dsimp only at it iC iX je jf jp jE
   go_wp2
   go_still_tail 12,(by kernel_rfl)
   change wpList _ _ _ _ _ w2.drew;go_upto_region 3 with fail
   obtain⟨fn,g0⟩:=nm (((((((((w2.setCell ⟨w.heap.size,0,none⟩ (.int .i64 j)).setCell ⟨w.heap.size,1,none⟩ (.int .i64 e4)).setCell ⟨w.heap.size,2,none⟩ (.int .i64 en)).setCell ⟨w.heap.size,3,none⟩ (.int .i64 es)).setCell ⟨w.heap.size,4,none⟩ (.int .u64 a4)).setCell ⟨w.heap.size,5,none⟩ (.int .i64 et)).setCell ⟨w.heap.size,6,none⟩ (.int .i64 ex))).drew);have fK:Hid (Ch (aH w.heap.size) w2 fn):=Z (by rw[<-g0];exact ay);have c7:Hid (Row fn w.heap.size 184 [j,e4,en,es,.int .u64 a4,et,ex]/\χ w.heap.size=.no):=Z ⟨by rw[<-g0];exact((((((((y.1.set 0 _).set 1 _).set 2 _).set 3 _).set 4 _).set 5 _).set 6 _)).drew,y.2⟩;rw[g0];have a9:=Z (go.plain y.2 (Nat.le_refl _) fK);clear g0 G k3 it iC iX je jf jp jE kw kx kG kN kO kT l0 ad al am ap av aP bb;have G:=a9.at_.c3;rw[c9,fL]at G;have gt:=a9.at_.gw o.1;rw[o.2.2.2.1,o.2.1]at gt;have x0:=c7.1.c1;go_wp2
   go_region_held3 (fun w'=>w'.cell? (L.mb,3)=some (.slice (some (g,0)) ab L.Cm)/\w'.cell? (tb,0)=some (.int .u64 id)/\w'.cell? ⟨w.heap.size,0,none⟩=some (.int .i64 j)) (go_keep) ((go_at_call 137;refine(gk _ a9.at_.drew).mono ?_;rintro e w4 ⟨⟨u,rfl,hn⟩,ey,cL,cs⟩;have f:=Z ((a9.af ay).trans (Gr.refl _) cs);have R:=Z (((Nx.af (Ch.refl _ fn).drew).trans cs.nx).row c7.1 c7.2);have fb:=((f.yk id t o.1).1).trans o.2.1;have fd:=((f.yk id t o.1).2 k o.2.2.2.2).trans o.2.2.1;have q:=Z (And.intro fb fd);clear cs hn fb fd;have p4:=f.at_.c3;rw[c9,fL]at p4;have T:=f.at_.gw d.1;rw[d.2.1,q.1]at T;have x4:=R.1.c1))
  all_goals
   first
    |(clear kh
      go_wp2
      go_end0
      rw[E];exact⟨rfl,ey,cL,f.at_,f.nx⟩)
    |(clear kt
      clear p4 T x4;have x4:=R.1.k 4 rfl;have eG:Hid (aR L cL (.ai id k) b 0):=Z ⟨q.2.symm,rfl⟩;have hv:=f.at_.uu d.2.2.2.2.2 eG;have f0:=f.at_.hy d.2.2.2.2.2 eG 0;obtain⟨mb,fT⟩:=nm ((K1.F (.ai id k)).pc);rw[fT]at hv;have hm:=f.at_.qM d.2.2.2.2.2 eG (wrap64 ((K1.F (.ai id k)).pc+1));rw[fT]at hm;have kd:=Z hm;have k2:=Z fT;clear hm fT;go_upto_region 7 with fail
      obtain⟨mq,gr,gF⟩:=kd.out;obtain⟨mi,ii⟩:=nm (w4.setCell (b,0) (.int .i64 (wrap64 (mb+1))));rw[ii]at gF⊢;have H:Hid (dD ey L cL C K1 (K1.fA (.ai id k)) w4 mq gr mi):=Z (by unfold KS.fA;rw[k2];exact gF);clear gF ii hv f0 x4;have bX:=Z (H.nx.row R.1 R.2);have x4:=bX.1.k 4 rfl;have gH:=jK _ _ _ H.at_;rw[(H.yk id t1 d.1).1,q.1,(H.yk id t1 d.1).2 k (by rw[d.2.2.1];exact o.2.2.2.2),q.2]at gH;have jL:=Z gH;clear gH;go_wp2_with fail
      with_reducible refine jL.out.mono ?_
      rintro e fr ⟨rfl,a2,S,A,F⟩;have z:=Z (And.intro A ((f.nx.trans H.nx).trans F));clear A F;go_wp2
      go_end0
      rw[E];exact⟨rfl,a2,S,z.1,z.2⟩)
    |(clear ku
      clear p4 T x4;obtain⟨mG,l1,gY,i5,_⟩:=f.at_.hV d.1 (by rw[d.2.2.1];exact Nat.lt_of_le_of_lt (Nat.zero_le _) o.2.2.2.2);have i1:=f.at_.DB d.1;have le:=f.at_.sf d.1 1;rw[q.1]at i1 le;have k1:=Z gY;have hlen:t1.l.length=k+1:=(by rw[d.2.2.1,<-jM]);rw[gY,hlen]at i1;have k0:=Z hlen;rw[hlen]at i5;have n0:k<=l1:=(by omega);have mY:(k:Int)+1-1=(k:Int):=(by omega);have mZ:(k:Int)<=8:=(by have:=jR.out;omega);have mW:k<=k+1:=(by omega);clear gY hlen i5;by_cases gW:0<k
      ·have ls:decide (0<(k:Int))=true:=by simpa using gW
       have lt:(0:Int)<(k:Int):=(by omega);have hf:=f.at_.FU (m:=k) d.1 k1 (by rw[k0];omega);rw[q.1]at hf;have k4:=Z hf;have E:Hid (cx C K i id k=K1.cp id {t1 with l:=t1.l.take k}):=Z (by rw[bx,if_pos gW]);clear hf;go_wp2
       go_end0
       rw[E];obtain⟨gr,ip,_⟩:=k4.out;exact⟨rfl,ey,gr,ip.at_,f.nx.trans ip.nx⟩
      ·have ls:decide (0<(k:Int))=false:=by simp;omega
       have lt:¬(0:Int)<(k:Int):=(by omega);have eG:Hid (aR L cL (.ai id k) b 0):=Z ⟨q.2.symm,rfl⟩;have hv:w4.cell? (b,1)=some (.int .u64 a0):=(by have:=f.at_.aA d.2.2.2.2.2 eG 0 (by omega);rw[jH]at this;exact this);have E:Hid (cx C K i id k=eZ C K1 i id k a0):=Z (by rw[bx,if_neg gW]);have hex:=c8 _ _ _ f.at_;rw[q.1,q.2]at hex;have a5:=Z hex;clear hex;go_wp2_with fail
       with_reducible refine a5.out.mono ?_
       rintro e fr ⟨rfl,a2,S,A,F⟩;have z:=Z (And.intro A (f.nx.trans F));clear A F;go_wp2
       go_end0
       rw[E];exact⟨rfl,a2,S,z.1,z.2⟩)
    |(clear kv
      clear p4;go_wp2
      go_cut [12] (fun p wc=>uL 82 [.int .i64 4,.int .i64 0,.int .i64 0,.int .u64 id,j,.int .u64 0,.int .u64 0,.int .u64 0,.int .u64 0,.int .u64 0,.int .u64 0] w4 p wc)
      case first=>
       have lz:=World.new_ne w4 ⟨tb,0,none⟩ T;have lA:=World.new_ne w4 ⟨w.heap.size,0,none⟩ x4;have lB:tb≠w4.heap.size:=Nat.ne_of_lt (aQ T);have l':w.heap.size≠w4.heap.size:=Nat.ne_of_lt (aQ x4);go_region_held3 (fun w'=>w'.cell? (tb,0)=some (.int .u64 id)/\w'.cell? ⟨w.heap.size,0,none⟩=some (.int .i64 j)) (go_keep) (fail)
       all_goals(go_wp2_with fail;go_meet)
       all_goals exact⟨w4.heap.size,rfl,(Row.new w4 _ _).drew,ay,Nat.le_refl _⟩
      case rest=>
       obtain⟨c0,rfl,c6,cA,hle⟩:=hcut;have ca:=Z c6;have hT:=Z hle;have H:=Z (f.af cA);have bX:=Z ((Nx.af cA).row R.1 R.2);have hS:Hid (ey c0=.no):=Z (f.at_.fresh hle);have he:c0≠w.heap.size:=(fun e=>by have li:=R.1.lt;omega);have lv:=he.symm;clear c6 cA hle T x4;have x5:=bX.1.c1;by_cases eL:j=15
       ·subst eL
        have E:Hid (cx C K i id k=eZ C (tell K1 ⟨4,0,0,id,15,0,0,0,0,0,0⟩) i id k 18446744073709551615):=Z (by rw[bx,if_neg (by decide)]);go_upto_region 17 with fail
        obtain⟨ad,al,am,ap,av,aP,bb,cl,cm,cq,ci⟩:=ca.BJ;go_wp2_with fail
        with_reducible refine(eC.out _ _ _ 0 H.out.at_).mono ?_
        rintro e hE ⟨rfl,hF,gs,n⟩;have ch:=Z n;have X:=((n.yk id t1 d.1).1).trans q.1;have a1:=((n.yk id t1 d.1).2 k (by rw[d.2.2.1];exact o.2.2.2.2)).trans q.2;have hex:=c8 _ _ _ 0 n.at_;rw[X,a1]at hex;have a5:=Z hex;clear hex n X a1 ad al am ap av aP bb cl cm cq ci;go_wp2_with fail
        with_reducible refine a5.out.mono ?_
        rintro e fr ⟨rfl,a2,S,A,F⟩;have z:=Z (And.intro A ((H.nx.trans ch.nx).trans F));clear A F;go_wp2
        go_end0
        rw[E];exact⟨rfl,a2,S,z.1,z.2⟩
       ·by_cases fk:j=0
        ·subst fk
         have E:Hid (cx C K i id k=eZ C (tell K1 ⟨4,0,0,id,0,0,0,0,0,0,0⟩) i id k 18446744073709551615):=Z (by rw[bx,if_neg (by decide)]);go_upto_region 17 with fail
         obtain⟨ad,al,am,ap,av,aP,bb,cl,cm,cq,ci⟩:=ca.BJ;go_wp2_with fail
         with_reducible refine(eC.out _ _ _ 0 H.out.at_).mono ?_
         rintro e hE ⟨rfl,hF,gs,n⟩;have ch:=Z n;have X:=((n.yk id t1 d.1).1).trans q.1;have a1:=((n.yk id t1 d.1).2 k (by rw[d.2.2.1];exact o.2.2.2.2)).trans q.2;have hex:=c8 _ _ _ 0 n.at_;rw[X,a1]at hex;have a5:=Z hex;clear hex n X a1 ad al am ap av aP bb cl cm cq ci;go_wp2_with fail
         with_reducible refine a5.out.mono ?_
         rintro e fr ⟨rfl,a2,S,A,F⟩;have z:=Z (And.intro A ((H.nx.trans ch.nx).trans F));clear A F;go_wp2
         go_end0
         rw[E];exact⟨rfl,a2,S,z.1,z.2⟩
        ·have ms:(j==15)=false:=by rw[beq_eq_false_iff_ne];exact eL
         have mv:(j !=15)=true:=(by simpa using eL);have mA:(j==0)=false:=(by rw[beq_eq_false_iff_ne];exact fk);have mC:(j !=0)=true:=(by simpa using fk);obtain⟨eI,gO⟩:∃v,dE (K1.F (.ai id k)).r ⟨j,e4,en,es,a4,et,ex⟩=v:=⟨_,rfl⟩;have E:Hid (cx C K i id k=eZ C (tell K1 ⟨4,0,0,id,j,0,0,0,0,eI,0⟩) i id k 18446744073709551615):=Z (by rw[bx,if_pos ⟨eL,fk⟩,gO]);have kf:Hid (aR L cL (.ai id k) b 0):=Z ⟨q.2.symm,rfl⟩;obtain⟨na,n8,nc,i7⟩:=H.at_.cur d.2.2.2.2.2 kf;have g9:=Z (kD b 0 (K1.F (.ai id k)).pc (K1.F (.ai id k)).r ⟨j,e4,en,es,a4,et,ex⟩ wc.drew i7.fr.drew);rw[gO,xL]at g9;dsimp only at g9;clear i7 gO eL fk;obtain⟨y0,mj,mk,ml,mm,mn,mp⟩:=bX.1.c7;have lc:=ca.k 9 rfl;have lb:=ca.free 9;go_wp2
         go_region_held3 (fun w'=>w'.cell? ⟨w.heap.size,0,none⟩=some (.int .i64 j)/\w'.cell? ⟨w.heap.size,1,none⟩=some (.int .i64 e4)/\w'.cell? ⟨w.heap.size,2,none⟩=some (.int .i64 en)/\w'.cell? ⟨w.heap.size,3,none⟩=some (.int .i64 es)/\w'.cell? ⟨w.heap.size,4,none⟩=some (.int .u64 a4)/\w'.cell? ⟨w.heap.size,5,none⟩=some (.int .i64 et)/\w'.cell? ⟨w.heap.size,6,none⟩=some (.int .i64 ex)) (go_keep) ((go_at_call 140;refine g9.mono ?_;rintro e hB ⟨rfl,i4⟩;have gd:Hid (Ch ag wc hB):=Z (Ch.trans ay i4);have jI:=Z ((Nx.af gd).row bX.1 bX.2);have gf:=Z (ca.ch gd (fun h=>h));clear i4;obtain⟨g2,g3,g4,g5,g6,g7,g8⟩:=jI.1.c7;have mc:=gf.k 9 rfl;have md:=gf.free 9))
         all_goals
          go_upto_region 17 with fail
          obtain⟨jG,g1⟩:=nm (hB.setCell (c0,9) (.int .u64 eI));have jJ:Hid (Ch (aH c0) hB jG):=Z (by rw[<-g1];exact ay);have k5:Hid (Row jG c0 82 [.int .i64 4,.int .i64 0,.int .i64 0,.int .u64 id,j,.int .u64 0,.int .u64 0,.int .u64 0,.int .u64 0,.int .u64 eI,.int .u64 0]):=Z (by rw[<-g1];exact gf.set 9 _);rw[g1];clear g1 g2 g3 g4 g5 g6 g7 g8 mc md y0 mj mk ml mm mn mp lc lb;have i0:=Z ((H.af gd).plain hS (Nat.le_trans f.nx.ch.size hT) jJ);obtain⟨ad,al,am,ap,av,aP,bb,cl,cm,cq,ci⟩:=k5.BJ;go_wp2_with fail
          with_reducible refine(eC.out _ _ _ eI i0.out.at_).mono ?_
          rintro e hE ⟨rfl,hF,gs,n⟩;have ch:=Z n;have X:=((n.yk id t1 d.1).1).trans q.1;have a1:=((n.yk id t1 d.1).2 k (by rw[d.2.2.1];exact o.2.2.2.2)).trans q.2;have hex:=c8 _ _ _ eI n.at_;rw[X,a1]at hex;have a5:=Z hex;clear hex n X a1 ad al am ap av aP bb cl cm cq ci;go_wp2_with fail
          with_reducible refine a5.out.mono ?_
          rintro e fr ⟨rfl,a2,S,A,F⟩;have z:=Z (And.intro A ((i0.nx.trans ch.nx).trans F));clear A F;go_wp2
          go_end0
          rw[E];exact⟨rfl,a2,S,z.1,z.2⟩)
theorem yv{N M:Nat}(O:ow C)(A:Inv N M K)(di:N<=400000)(cW:M<=400000)(i:Nat)(x:i<K.wk.length)(R:0<=K.w/\K.w<K.wk.length)(h:ae w χ L Y C K):
 Calls prog 43 #[(L.mb,0),(L.wb,i*38)] w (si (.tuple #[]) χ L C (fR C K i) w):=by
 have cQ:=h.mK x;obtain⟨id,hid⟩:=nm ((K.W i).slot);rw[hid]at cQ;by_cases I:id=0
 ·subst I
  have cs:=Z (Aw O A (by omega) (by omega) i x R h);have E:Hid (fR C K i=kg C K i):=Z (by unfold fR;rw[if_pos hid]);clear h A O x R hid;go_in
  go_wp2_with fail
  with_reducible refine cs.out.mono ?_
  rintro e ch ⟨rfl,a9,a0,z,G⟩;have y:=Z (And.intro z G);clear z G;go_wp2
  go_end0
  rw[E];exact⟨rfl,a9,a0,y.1,y.2⟩
 ·have dp:(id==0)=false:=by rw[beq_eq_false_iff_ne];exact I
  obtain⟨t,v⟩:=A.core.k9 (KS.ha x) (by rw[hid];exact I);rw[hid]at v;have P:=A.de v;have c2:=P.l.n0;have c7:=P.l.n8;obtain⟨m,c1⟩:∃m,t.l.length=m+1:=⟨t.l.length-1,by omega⟩;have c3:K.top id=m:=by unfold KS.top;rw[KS.dm v];omega
  obtain⟨f,J⟩:∃f,t.l[m]?=some f:=⟨_,List.getElem?_eq_getElem (by omega)⟩;have U:=P.l.cg _ f J;have bx:(K.T id).l.getD m default=f:=by rw[KS.dm v,List.getD_eq_getElem?_getD,J];rfl
  have a5:=A.gA x;obtain⟨a,a3⟩:=nm ((K.W i).left);have bZ:=a5.l0;have cd:=a5.l1;rw[a3]at bZ cd;have ab:Hid (fR C K i=if f.cg=false/\a=0 then dB C (cr K id) i else if f.cg then cD C (K.bj i {K.W i with left:=max (a-1) 0}) i id m else cx C (K.bj i {K.W i with left:=max (a-1) 0}) i id m):=Z (by unfold fR;rw[hid,if_neg I];dsimp only;rw[c3,bx,a3]);obtain⟨g,cap,c0,c6,bX⟩:=h.hV v c2;obtain⟨b,hb⟩:=nm (Y.fb id m);obtain⟨tb,V⟩:=nm (Y.bI id);have r:=h.DB v;have s:=bX m (by omega);have l:=h.sg v J;have c8:=h.hN;have u:=h.Dy x;have av:=h.uq (i*38+3);have q:=h.gw v;rw[V]at r q;obtain⟨T,bw⟩:=nm t.l.length;rw[c0,bw]at r;rw[hb]at s l;rw[a3]at u;rw[P.id]at q;have ad:=fun n=>(h.drewN n).look id
  rw[v,V]at ad;dsimp only[Option.map,Option.getD,bk]at ad;have al:=h.look id;rw[v,V]at al;dsimp only[Option.map,Option.getD,bk]at al;have c5:=Z h;have k:=Z (And.intro v (And.intro V (And.intro hb (And.intro c1 P.id))));have e4:IntKind.i64.wrap ((T:Int)-1)=m:=by rw[show(T:Int)-1=m by omega];exact IntWalk.i64_in _ (by omega)
  have dC:(0:Int)<=(m:Int):=by omega
  have dN:(m:Int)<(T:Int):=by omega
  have en:IntKind.i64.wrap (m:Int)=m:=IntWalk.i64_in _ (by omega);have dr:T<=cap:=by omega
  have c4:=(A.Et (by omega) v).1;have a1:Inv N M (K.bj i {K.W i with left:=max (a-1) 0}):=A.bj x rfl rfl ⟨a5.f,by show 0<=max (a-1) 0;omega,by show max (a-1) 0<=24;omega⟩;have a2:i<(K.bj i {K.W i with left:=max (a-1) 0}).wk.length:=by rw[bG];exact x
  have am:((K.bj i {K.W i with left:=max (a-1) 0}).W i).slot=id:=by rw[gM x];exact hid
  have c9:=Z (fun w (h:ae w χ L Y C K)=>h.wm x (max (a-1) 0));cases Q:f.cg with
  |false=>
   rw[Q]at l U ab;have cF:m%2≠1:=(by simpa using U.symm);by_cases ap:a=0
   ·subst ap
    have E:Hid (fR C K i=dB C (cr K id) i):=Z (by rw[ab,if_pos ⟨rfl,rfl⟩]);have cm:=Z (fun w (h:ae w χ L Y C K)=>fh id c4 h);have cq:=Z (fun(w:World) (χ:Nat->a') (Y:Var) (h:ae w χ L Y C (cr K id))=>iN i (by exact x) h);clear h A O x R hid v P c2 c7 c1 bw c3 J U bx a5 a3 c0 c6 bX hb V c4 a1 a2 am Q bZ cd I;go_wp2
    go_quiet (fail)
    generalize p:World.drewN _ _=w1;have c:=Z (Ch.dN (D:=ag) p);clear p;have r:=c.k r;have s:=c.k s;have l:=c.k l;have u:=c.k u;have q:=c.k q;go_wp2
    go_region_held3 (fun w'=>w'.cell? (tb,1)=some (.slice (some (g,0)) T cap)/\w'.cell? ⟨g,m,none⟩=some (.pointer (some (b,0)))) (go_keep) (fail)
    generalize p:World.drew w1=w2;have d:Hid (Ch ag w1 w2):=Z (by rw[<-p];exact ay);clear p;have r:=d.k r;have s:=d.k s;have l:=d.k l;have u:=d.k u;have q:=d.k q;have H:=Z (c5.af (c.trans d));have X:=Z (Nx.af (χ:=χ) (c.trans d));clear ad al s c8;go_wp2_with fail
    with_reducible refine(cm.out _ H.out).mono ?_
    rintro e ce ⟨rfl,ci,ca,j⟩;have S:=Z j;clear j r l u q;go_wp2_with fail
    with_reducible refine(cq.out _ _ _ S.out.at_).mono ?_
    rintro e w4 ⟨rfl,cS,ct,cb⟩;have cl:=Z (And.intro cb.at_ ((X.trans S.nx).trans cb.nx));clear cb;go_wp2
    go_end0
    rw[E];exact⟨rfl,cS,ct,cl.1,cl.2⟩
   ·have B:max (a-1) 0=a-1:=by omega
    have cL:(a==0)=false:=(by rw[beq_eq_false_iff_ne];exact ap);have cC:1<=a:=(by omega);have cA:(0:Int)<=a-1:=(by omega);have E:Hid (fR C K i=cx C (K.bj i {K.W i with left:=a-1}) i id m):=Z (by rw[ab,if_neg (by rintro⟨_,e⟩;exact ap e),if_neg (by decide),B]);have aP:=Z J;have bb:=Z Q;have a4:0<=(K.bj i {K.W i with left:=max (a-1) 0}).w/\(K.bj i {K.W i with left:=max (a-1) 0}).w<(K.bj i {K.W i with left:=max (a-1) 0}).wk.length:=(by rw[bG];exact R);have o:=(fun(w:World) (χ:Nat->a') (Y:Var) (h:ae w χ L Y C (K.bj i {K.W i with left:=max (a-1) 0}))=>sY O a1 (by omega) (by omega) i a2 id t v m (by omega) (by omega) h);rw[B]at o;have bd:=Z o;clear o a4;clear h A O x R hid v P c2 c7 c1 bw c3 J U bx a5 a3 c0 c6 bX hb V c4 a1 a2 am Q bZ I;go_wp2
    go_quiet (fail)
    generalize p:World.drewN _ _=w1;have c:=Z (Ch.dN (D:=ag) p);clear p;have r:=c.k r;have s:=c.k s;have l:=c.k l;have u:=c.k u;have q:=c.k q;go_wp2
    go_region_held3 (fun w'=>w'.cell? (tb,1)=some (.slice (some (g,0)) T cap)/\w'.cell? ⟨g,m,none⟩=some (.pointer (some (b,0)))) (go_keep) (fail)
    generalize p:World.drew w1=w2;have d:Hid (Ch ag w1 w2):=Z (by rw[<-p];exact ay);clear p;have r:=d.k r;have s:=d.k s;have l:=d.k l;have u:=d.k u;have q:=d.k q;have H:=Z (c5.af (c.trans d));have X:=Z (Nx.af (χ:=χ) (c.trans d));clear ad al s c8;have av:=H.uq (i*38+3);have F:=c9 _ H;rw[B]at F;have bv:=Z F;clear F;go_wp2_with fail
    obtain⟨ci,ca,j⟩:=bv.out;obtain⟨ce,W⟩:=nm (w2.setCell (L.wb,i*38+3) (.int .i64 (a-1)));rw[W]at j⊢;have S:=Z j;have o:=bd _ _ _ j.at_;rw[(j.yk id t k.1).1,k.2.1,(j.yk id t k.1).2 m (by rw[k.2.2.2.1];exact Nat.lt_succ_self m),k.2.2.1]at o;have bi:=Z o;have l:=j.at_.sg k.1 aP;rw[(j.yk id t k.1).2 m (by rw[k.2.2.2.1];exact Nat.lt_succ_self m),k.2.2.1,bb]at l;clear j W o r u q av;go_wp2_with fail
    with_reducible refine bi.out.mono ?_
    rintro e ch ⟨rfl,a9,a0,z,G⟩;have y:=Z (And.intro z ((X.trans S.nx).trans G));clear z G;go_wp2
    go_end0
    rw[E];exact⟨rfl,a9,a0,y.1,y.2⟩
  |true=>
   rw[Q]at l U ab;have cF:m%2=1:=(by simpa using U.symm);by_cases ap:a=0
   ·subst ap
    have B:max ((0:Int)-1) 0=0:=(by decide);have E:Hid (fR C K i=cD C (K.bj i {K.W i with left:=0}) i id m):=Z (by rw[ab,if_neg (by rintro⟨e,_⟩;cases e),if_pos rfl,B]);have aP:=Z J;have bb:=Z Q;have a4:0<=(K.bj i {K.W i with left:=max ((0:Int)-1) 0}).w/\(K.bj i {K.W i with left:=max ((0:Int)-1) 0}).w<(K.bj i {K.W i with left:=max ((0:Int)-1) 0}).wk.length:=(by rw[bG];exact R);have o:=(fun(w:World) (χ:Nat->a') (Y:Var) (h:ae w χ L Y C (K.bj i {K.W i with left:=max ((0:Int)-1) 0}))=>ld O a1 (by omega) (by omega) i a2 id t v am I (by omega) m (by omega) (by exact a4) h);rw[B]at o;have bd:=Z o;clear o a4;clear h A O x R hid v P c2 c7 c1 bw c3 J U bx a5 a3 c0 c6 bX hb V c4 a1 a2 am Q bZ cd I;go_wp2
    go_quiet (fail)
    generalize p:World.drewN _ _=w1;have c:=Z (Ch.dN (D:=ag) p);clear p;have r:=c.k r;have s:=c.k s;have l:=c.k l;have u:=c.k u;have q:=c.k q;go_wp2
    go_region_held3 (fun w'=>w'.cell? (tb,1)=some (.slice (some (g,0)) T cap)/\w'.cell? ⟨g,m,none⟩=some (.pointer (some (b,0)))) (go_keep) (fail)
    generalize p:World.drew w1=w2;have d:Hid (Ch ag w1 w2):=Z (by rw[<-p];exact ay);clear p;have r:=d.k r;have s:=d.k s;have l:=d.k l;have u:=d.k u;have q:=d.k q;have H:=Z (c5.af (c.trans d));have X:=Z (Nx.af (χ:=χ) (c.trans d));clear ad al s c8;have av:=H.uq (i*38+3);have F:=c9 _ H;rw[B]at F;have bv:=Z F;clear F;go_wp2_with fail
    obtain⟨ci,ca,j⟩:=bv.out;try rw[show max (-1:Int) 0=0 from rfl]
    obtain⟨ce,W⟩:=nm (w2.setCell (L.wb,i*38+3) (.int .i64 (0)));rw[W]at j⊢;have S:=Z j;have o:=bd _ _ _ j.at_;rw[(j.yk id t k.1).1,k.2.1,(j.yk id t k.1).2 m (by rw[k.2.2.2.1];exact Nat.lt_succ_self m),k.2.2.1]at o;have bi:=Z o;have l:=j.at_.sg k.1 aP;rw[(j.yk id t k.1).2 m (by rw[k.2.2.2.1];exact Nat.lt_succ_self m),k.2.2.1,bb]at l;clear j W o r u q av;go_wp2_with fail
    with_reducible refine bi.out.mono ?_
    rintro e ch ⟨rfl,a9,a0,z,G⟩;have y:=Z (And.intro z ((X.trans S.nx).trans G));clear z G;go_wp2
    go_end0
    rw[E];exact⟨rfl,a9,a0,y.1,y.2⟩
   ·have B:max (a-1) 0=a-1:=by omega
    have cL:(a==0)=false:=(by rw[beq_eq_false_iff_ne];exact ap);have cC:1<=a:=(by omega);have cA:(0:Int)<=a-1:=(by omega);have E:Hid (fR C K i=cD C (K.bj i {K.W i with left:=a-1}) i id m):=Z (by rw[ab,if_neg (by rintro⟨e,_⟩;cases e),if_pos rfl,B]);have aP:=Z J;have bb:=Z Q;have a4:0<=(K.bj i {K.W i with left:=max (a-1) 0}).w/\(K.bj i {K.W i with left:=max (a-1) 0}).w<(K.bj i {K.W i with left:=max (a-1) 0}).wk.length:=(by rw[bG];exact R);have o:=(fun(w:World) (χ:Nat->a') (Y:Var) (h:ae w χ L Y C (K.bj i {K.W i with left:=max (a-1) 0}))=>ld O a1 (by omega) (by omega) i a2 id t v am I (by omega) m (by omega) (by exact a4) h);rw[B]at o;have bd:=Z o;clear o a4;clear h A O x R hid v P c2 c7 c1 bw c3 J U bx a5 a3 c0 c6 bX hb V c4 a1 a2 am Q bZ I;go_wp2
    go_quiet (fail)
    generalize p:World.drewN _ _=w1;have c:=Z (Ch.dN (D:=ag) p);clear p;have r:=c.k r;have s:=c.k s;have l:=c.k l;have u:=c.k u;have q:=c.k q;go_wp2
    go_region_held3 (fun w'=>w'.cell? (tb,1)=some (.slice (some (g,0)) T cap)/\w'.cell? ⟨g,m,none⟩=some (.pointer (some (b,0)))) (go_keep) (fail)
    generalize p:World.drew w1=w2;have d:Hid (Ch ag w1 w2):=Z (by rw[<-p];exact ay);clear p;have r:=d.k r;have s:=d.k s;have l:=d.k l;have u:=d.k u;have q:=d.k q;have H:=Z (c5.af (c.trans d));have X:=Z (Nx.af (χ:=χ) (c.trans d));clear ad al s c8;have av:=H.uq (i*38+3);have F:=c9 _ H;rw[B]at F;have bv:=Z F;clear F;go_wp2_with fail
    obtain⟨ci,ca,j⟩:=bv.out;obtain⟨ce,W⟩:=nm (w2.setCell (L.wb,i*38+3) (.int .i64 (a-1)));rw[W]at j⊢;have S:=Z j;have o:=bd _ _ _ j.at_;rw[(j.yk id t k.1).1,k.2.1,(j.yk id t k.1).2 m (by rw[k.2.2.2.1];exact Nat.lt_succ_self m),k.2.2.1]at o;have bi:=Z o;have l:=j.at_.sg k.1 aP;rw[(j.yk id t k.1).2 m (by rw[k.2.2.2.1];exact Nat.lt_succ_self m),k.2.2.1,bb]at l;clear j W o r u q av;go_wp2_with fail
    with_reducible refine bi.out.mono ?_
    rintro e ch ⟨rfl,a9,a0,z,G⟩;have y:=Z (And.intro z ((X.trans S.nx).trans G));clear z G;go_wp2
    go_end0
    rw[E];exact⟨rfl,a9,a0,y.1,y.2⟩
def iR(χ:Nat->a'):Nat->a':=fun i=>if χ i=.out then .no else χ i
theorem yw(χ:Nat->a')(i:Nat):iR χ i≠ .out:=by
 unfold iR;split
 ·decide
 ·assumption
theorem yx{χ:Nat->a'}{i:Nat}{k:a'}(h:χ i=k)(a:k≠ .out):iR χ i=k:=by
 unfold iR;rw[if_neg (by rw[h];exact a),h]
theorem ae.CO(h:ae w χ L Y C K):ae (w.setCell (L.mb,1020) (.slice none 0 0)) (iR χ) L {Y with ov:=.slice none 0 0} C {K with out:=[]}/\
 (w.setCell (L.mb,1020) (.slice none 0 0)).ownsRow 0 82 11 Y.ov K.out.length (K.out.flatMap Ev.cells):=by
 have o:=h.head (by simp);have y:=h.out (by simp);have c:Ch (aH L.mb) w (w.setCell (L.mb,1020) (.slice none 0 0)):=ay;have s:eT [.gL] χ χ (aH L.mb) w (w.setCell (L.mb,1020) (.slice none 0 0)):=eT.one c (fun i r=>by rw[show i=L.mb from r];simp[o.k]) h.small;have base:=h.step s (by simp);have a:∀{i:Nat} {k:a'},χ i=k->k≠ .out->iR χ i=k:=fun f m=>yx f m
 refine⟨{
  head:=fun b=>⟨o.row.bc _ _ ?_,o.rows,a o.k (by simp)⟩
  mem:=fun b=>⟨(base.mem (by simp)).is,a (base.mem (by simp)).k1 (by simp),a (base.mem (by simp)).k2 (by simp),a (base.mem (by simp)).k3 (by simp)⟩
  al:=fun b=>⟨(base.al (by simp)).is,a (base.al (by simp)).k1 (by simp),fun q d=>a ((base.al (by simp)).k2 q d) (by simp)⟩
  b2:=fun b=>⟨(base.b2 (by simp)).is,a (base.b2 (by simp)).k1 (by simp),a (base.b2 (by simp)).k2 (by simp),a (base.b2 (by simp)).k3 (by simp),a (base.b2 (by simp)).k4 (by simp),fun q d=>a ((base.b2 (by simp)).k5 q d) (by simp)⟩
  ring:=fun b=>⟨(base.ring (by simp)).is,a (base.ring (by simp)).k1 (by simp),a (base.ring (by simp)).k2 (by simp)⟩
  q:=fun b=>⟨(base.q (by simp)).is,(base.q (by simp)).b1,fun i r=>a ((base.q (by simp)).k i r) (by simp)⟩
  cZ:=fun b=>⟨(base.cZ (by simp)).is,a (base.cZ (by simp)).k1 (by simp),a (base.cZ (by simp)).k2 (by simp)⟩
  obj:=fun b=>⟨(base.obj (by simp)).is,a (base.obj (by simp)).k1 (by simp),a (base.obj (by simp)).k2 (by simp)⟩
  tm:=fun b=>⟨(base.tm (by simp)).is,a (base.tm (by simp)).k (by simp),(base.tm (by simp)).nd⟩
  th:=fun j u l b=>⟨(base.th j u l (by simp)).is,a (base.th j u l (by simp)).k (by simp)⟩
  tl:=fun j u l b=>⟨(base.tl j u l (by simp)).is,fun q d=>a ((base.tl j u l (by simp)).k q d) (by simp)⟩
  fr:=fun j u k t l v b=>⟨(base.fr j u k t l v (by simp)).is,a (base.fr j u k t l v (by simp)).kf (by simp),fun q d=>a ((base.fr j u k t l v (by simp)).kb q d) (by simp)⟩
  wk:=fun b=>⟨(base.wk (by simp)).is,a (base.wk (by simp)).k (by simp),(base.wk (by simp)).back,fun i x n q d=>a ((base.wk (by simp)).kb i x n q d) (by simp),(base.wk (by simp)).n⟩
  out:=fun b=>⟨⟨rfl,Or.inl ⟨rfl,rfl⟩⟩,fun q d=>by cases d⟩
  code:=fun b=>{
   m4:=(base.code (by simp)).m4
   jo:=(base.code (by simp)).jo
   m5:=(base.code (by simp)).m5
   cg:=fun n=>by obtain⟨q,f,m,p⟩:=(base.code (by simp)).cg n;exact⟨q,f,m,a p (by simp)⟩
   prog:=fun n=>by obtain⟨q,f,m,p⟩:=(base.code (by simp)).prog n;exact⟨q,f,m,a p (by simp)⟩
   calls:=fun n=>by obtain⟨q,j,f,m,p⟩:=(base.code (by simp)).calls n;exact⟨q,j,f,m,a p (by simp)⟩}
  small:=fun i r=>base.small i (fun e=>r (by unfold iR;rw[e];rfl))},?_⟩
 ·have:=n3 (L:=L) (C:=C) (ov:=Y.ov) (nw:=K.wk.length) (en:=K.entries) (at_:=K.at_) (wn:=K.w) (dr:=K.draw) o.rows 13 (.slice none 0 0)
  rw[this];rfl
 ·exact ak y.is c (fun g z e=>by
   have f:=y.k g z;rw[show g=L.mb from e,o.k]at f;cases f)
def DG(x:List Ev×KS)(χ:Nat->a')(L:cU)(C:KC)(w:World)(e:Ending)(w':World):Prop:=
 ∃v aY Y',e=.returned v/\w'.ownsRow w.heap.size 82 11 v x.1.length (x.1.flatMap Ev.cells)/\(∀g,v.ownBlock=some g->aY g=.no)/\ae w' aY L Y' C x.2/\Nx χ aY w w'/\∀i,aY i≠ .out
theorem yy{w:World}{e:TypeId}{z:Nat}{v:Value}{n B:Nat}{xs:List Value}(h:w.ownsRow 0 e z v n xs)(d:∀g,v.ownBlock=some g->B<=g):w.ownsRow B e z v n xs:=by
 refine⟨h.1,?_⟩;rcases h.2 with b|⟨g,cap,cur,a,_,c⟩
 ·exact Or.inl b
 ·exact Or.inr ⟨g,cap,cur,a,d g (by rw[a];rfl),c⟩
theorem ae.sZ(h:ae w' χ L Y C K){d:Nat->a'}(n:Nx d χ w w')(k:∀i,d i≠ .out):DG (K.out,{K with out:=[]}) d L C w (.returned Y.ov) (w'.setCell (L.mb,1020) (.slice none 0 0)):=by
 obtain⟨l,m⟩:=h.CO;have j:=h.out (by simp);have o:∀g,Y.ov.ownBlock=some g->w.heap.size<=g:=fun g b=>by
  rcases Nat.lt_or_ge g w.heap.size with a|a
  ·have f:=n.same g a
   rw[j.k g b]at f;exact absurd f.symm (k g)
  ·exact a
 refine⟨Y.ov,_,_,rfl,yy m o,fun g b=>by unfold iR;rw[if_pos (j.k g b)],l,?_,yw χ⟩;have p:=h.head (by simp);refine⟨n.ch.join (E:=aH L.mb) ay (fun i c e=> ?_),fun i c=> ?_⟩
 ·have:i=L.mb:=e
  subst this;rw[<-n.same _ c,p.k];decide
 ·unfold iR
  rw[n.same i c,if_neg (k i)]
theorem CP{N:Nat}(a5:ow C)(f:Inv N 0 K)(c1:N<=300000)(kind wk draw:Int)(hd:aK draw)(ab:∀i,χ i≠ .out)(h:ae w χ L Y C K):
 Calls prog 13 #[(L.mb,0),.agg #[kind,wk,.int .u64 draw]] w (DG (ht C K kind wk draw) χ L C w):=by
 obtain⟨w0,o⟩:=nm (w.alloc (.cells #[kind,wk,.int .u64 draw] 41));have p:=Z (Ch.al (D:=ag) o);have j:=Z (h.gU p);have d:Hid (Row w0 w.heap.size 41 [kind,wk,.int .u64 draw]/\χ w.heap.size=.no):=Z ⟨by rw[<-o];exact Row.new w _ _,h.fresh (Nat.le_refl _)⟩;obtain⟨t0,t1,t2⟩:=d.1.c3;obtain⟨en,S⟩:=nm K.entries;have T:=j.at_.setAt en;have U:=T.at_.DA (-1);have aP:=U.at_.Ct draw;have V:=(T.trans (Gr.of_eq rfl) U).trans (Gr.of_eq rfl) aP;have bb:=V.at_.Ei (wrap64 (en+1));have bd:=dD.af (V.trans (Gr.of_eq rfl) bb) (Ch.refl _ _).drew;obtain⟨K1,z⟩:=nm (({K with at_:=en,w:=-1,draw:=draw,entries:=wrap64 (en+1)}:KS));have c:Inv N 0 K1:=by rw[<-z];exact⟨f.core,f.nd,f.q,f.b2,f.bI,f.mem,f.obj,hd,f.w0,f.w1,f.out⟩
 have a:Hid (dD χ L Y C K K1 w0 χ Y (((((w0.setCell (L.mb,1017) (.int .i64 en)).setCell (L.mb,1018) (.int .i64 (-1))).setCell (L.mb,1019) (.int .u64 draw)).setCell (L.mb,1016) (.int .i64 (wrap64 (en+1)))).drew)):=Z (by rw[<-z];exact bd);have a2:=j.at_.FI;rw[S]at a2;have bx:=j.at_.Hu;have bX:=j.at_.GC;have bZ:=j.at_.Dv;have f1:=j.at_.fz 1016;have f2:=j.at_.fz 1017;have f3:=j.at_.fz 1018;have f4:=j.at_.fz 1019;have am:L.mb≠w.heap.size:=Nat.ne_of_lt h.GY;have c4:=am.symm;have M:K1.wk.length=K.wk.length:=by rw[<-z]
 have r:Hid (ht C K kind wk draw=((if kind=2 then hs K1 else if kind=1 then(if 0<=wk/\wk<K.wk.length then fR C {K1 with w:=wk} wk.toNat else K1)else K1).out,{(if kind=2 then hs K1 else if kind=1 then(if 0<=wk/\wk<K.wk.length then fR C {K1 with w:=wk} wk.toNat else K1)else K1)with out:=[]})):=Z (by rw[<-z,<-S];rfl);have q:=Z ab;obtain⟨s,Q⟩:=nm K.wk.length;rw[Q]at r M;have c5:s<=64:=by rw[<-Q];exact f.w1
 have u:=Z M;by_cases J:kind=2
 ·subst J
  have a1:=Z (fun w (h:ae w χ L Y C K1)=>ye (c.b2.ok (by omega)) c.b2.tick.2.1 (by have:=c.b2.tick.2.2;omega) (by have:=c.out;omega) h);have E:Hid (ht C K 2 wk draw=((hs K1).out,{hs K1 with out:=[]})):=Z (by rw[r,if_pos rfl]);go_in
  go_wp2
  try rw[o]
  go_region
  go_wp2_with fail
  obtain⟨B,k⟩:=nm ((((((w0.setCell (L.mb,1017) (.int .i64 en)).setCell (L.mb,1018) (.int .i64 (-1))).setCell (L.mb,1019) (.int .u64 draw)).setCell (L.mb,1016) (.int .i64 (wrap64 (en+1)))).drew));rw[k]at a⊢;have g:=Z (a.nx.row d.1 d.2);with_reducible refine(a1.out _ a.out.at_).mono ?_
  rintro e F ⟨rfl,c7,bv,a3⟩;have b:=Z a3;have co:=b.at_.sa;have y:=b.at_.fz 1020;go_wp2
  go_ret;rw[E];exact ae.sZ b.at_ (((Nx.af p).trans a.nx).trans b.nx) q
 ·have c3:(kind==2)=false:=by rw[beq_eq_false_iff_ne];exact J
  by_cases I:kind=1
  ·subst I
   by_cases O:0<=wk/\wk<s
   ·obtain⟨m,A⟩:=O
    obtain⟨i,rfl⟩:=Int.eq_ofNat_of_zero_le m;have al:i<K1.wk.length:=(by rw[M];omega);have a9:Inv N 0 ({K1 with w:=(i:Int)}:KS):=⟨c.core,c.nd,c.q,c.b2,c.bI,c.mem,c.obj,c.draw,c.w0,c.w1,c.out⟩;have a0:=Z (fun(w:World) (χ:Nat->a') (Y:Var) (h:ae w χ L Y C ({K1 with w:=(i:Int)}:KS))=>yv a5 a9 (by omega) (by omega) i al ⟨m,by show(i:Int)<K1.wk.length;omega⟩ h);have E:Hid (ht C K 1 i draw=((fR C {K1 with w:=(i:Int)} i).out,{fR C {K1 with w:=(i:Int)} i with out:=[]})):=Z (by rw[r,if_neg (by decide),if_pos rfl,if_pos ⟨m,A⟩];rfl);have R:decide (0<=(i:Int))=true:=(by simpa using m);have ad:decide ((i:Int)<(s:Int))=true:=(by simpa using A);go_in
    go_wp2
    try rw[o]
    go_region
    go_upto_region 7 with fail
    obtain⟨B,k⟩:=nm ((((((w0.setCell (L.mb,1017) (.int .i64 en)).setCell (L.mb,1018) (.int .i64 (-1))).setCell (L.mb,1019) (.int .u64 draw)).setCell (L.mb,1016) (.int .i64 (wrap64 (en+1)))).drew));rw[k]at a⊢;have g:=Z (a.nx.row d.1 d.2);have G:=g.1.k 1 rfl;have l:=a.at_.qH;rw[u]at l;go_quiet (fail)
    generalize t:World.drewN _ _=F;have n:=Z (Ch.dN (D:=ag) t);have b:=Z (a.af n);have H:=Z ((Nx.af n).row g.1 g.2);have G:=H.1.k 1 rfl;have l:=b.at_.GC;have c0:=b.at_.fz 1018;have ap:=b.at_.DA (i:Int);have P:=Z ap;go_upto_region 9 with fail
    obtain⟨W,av⟩:=nm (F.setCell (L.mb,1018) (.int .i64 (i:Int)));rw[av]at P⊢;have v:=P;have X:=Z (v.nx.row H.1 H.2);have G:=X.1.k 1 rfl;have l:=v.at_.qH;dsimp only at l;rw[u]at l;go_still_tail 8,(by kernel_rfl)
    change wpList _ _ _ _ _ W.drew;go_wp2_with fail
    with_reducible refine(a0.out _ _ _ v.out.at_.drew).mono ?_
    rintro e c6 ⟨rfl,c8,bw,a4,bi⟩;have x:=Z (And.intro a4 ((((((Nx.af p).trans a.nx).trans (Nx.af n)).trans v.nx).trans (Nx.af (Ch.refl _ W).drew)).trans bi));have co:=x.1.sa;have y:=x.1.fz 1020;go_wp2
    go_ret;rw[E];exact ae.sZ x.1 x.2 q
   ·have E:Hid (ht C K 1 wk draw=(K1.out,{K1 with out:=[]})):=Z (by rw[r,if_neg (by decide),if_pos rfl,if_neg O])
    by_cases m:0<=wk
    ·have R:decide (0<=wk)=true:=by simpa using m
     have A:¬wk<(s:Int):=(fun e=>O ⟨m,e⟩);have ad:decide (wk<(s:Int))=false:=(by simpa using A);go_in
     go_wp2
     try rw[o]
     go_region
     go_upto_region 7 with fail
     obtain⟨B,k⟩:=nm ((((((w0.setCell (L.mb,1017) (.int .i64 en)).setCell (L.mb,1018) (.int .i64 (-1))).setCell (L.mb,1019) (.int .u64 draw)).setCell (L.mb,1016) (.int .i64 (wrap64 (en+1)))).drew));rw[k]at a⊢;have g:=Z (a.nx.row d.1 d.2);have G:=g.1.k 1 rfl;have l:=a.at_.qH;rw[u]at l;go_quiet (fail)
     generalize t:World.drewN _ _=F;have n:=Z (Ch.dN (D:=ag) t);have b:=Z (a.af n);have co:=b.at_.sa;have y:=b.at_.fz 1020;go_wp2
     go_ret;rw[E];exact ae.sZ b.at_ ((Nx.af p).trans b.nx) q
    ·have R:decide (0<=wk)=false:=by simpa using m
     go_in
     go_wp2
     try rw[o]
     go_region
     go_upto_region 7 with fail
     obtain⟨B,k⟩:=nm ((((((w0.setCell (L.mb,1017) (.int .i64 en)).setCell (L.mb,1018) (.int .i64 (-1))).setCell (L.mb,1019) (.int .u64 draw)).setCell (L.mb,1016) (.int .i64 (wrap64 (en+1)))).drew));rw[k]at a⊢;have g:=Z (a.nx.row d.1 d.2);have G:=g.1.k 1 rfl;have l:=a.at_.qH;rw[u]at l;go_quiet (fail)
     generalize t:World.drewN _ _=F;have n:=Z (Ch.dN (D:=ag) t);have b:=Z (a.af n);have co:=b.at_.sa;have y:=b.at_.fz 1020;go_wp2
     go_ret;rw[E];exact ae.sZ b.at_ ((Nx.af p).trans b.nx) q
  ·have c2:(kind==1)=false:=by rw[beq_eq_false_iff_ne];exact I
   have E:Hid (ht C K kind wk draw=(K1.out,{K1 with out:=[]})):=Z (by rw[r,if_neg J,if_neg I]);go_in
   go_wp2
   try rw[o]
   go_region
   go_upto_region 10 with fail
   obtain⟨B,k⟩:=nm ((((((w0.setCell (L.mb,1017) (.int .i64 en)).setCell (L.mb,1018) (.int .i64 (-1))).setCell (L.mb,1019) (.int .u64 draw)).setCell (L.mb,1016) (.int .i64 (wrap64 (en+1)))).drew));rw[k]at a⊢;have g:=Z (a.nx.row d.1 d.2);have co:=a.at_.sa;have y:=a.at_.fz 1020;go_wp2
   go_ret;rw[E];exact ae.sZ a.at_ ((Nx.af p).trans a.nx) q
section
variable{i n wb:Nat}{v:Value}{na wi:Int}{S:aI}
structure NM(w:World)(mb:Nat)(pre:List Value)(rows:List Int)(post:List Value):Prop where
 row:Row w mb 113 (pre++(rows.map (Value.int .i64)++post))
 n1:pre.length=7
 n2:rows.length=1000
section
variable{w w':World}{mb:Nat}{pre:List Value}{rows:List Int}{post:List Value}
theorem NM.pc(h:NM w mb pre rows post)(a:pre[i]?=some v):w.cell? (mb,i)=some v:=h.row.cell (by
 rw[List.getElem?_append_left (List.getElem?_eq_some_iff.1 a).1];exact a)
theorem NM.rc(h:NM w mb pre rows post){v:Int}(a:rows[i]?=some v):w.cell? (mb,7+i)=some (.int .i64 v):=h.row.cell (by
 have b:=(List.getElem?_eq_some_iff.1 a).1;rw[List.getElem?_append_right (by rw[h.n1];omega),h.n1,List.getElem?_append_left (by rw[List.length_map];omega),List.getElem?_map,show 7+i-7=i by omega,a];rfl)
theorem NM.qc(h:NM w mb pre rows post){j:Nat}(a:post[j]?=some v):w.cell? (mb,1007+j)=some v:=h.row.cell (by
 rw[List.getElem?_append_right (by rw[h.n1];omega),h.n1,List.getElem?_append_right (by rw[List.length_map,h.n2];omega),List.length_map,h.n2,show 1007+j-7-1000=j by omega,a])
theorem NM.fz(h:NM w mb pre rows post)(i:Nat):w.frozen? (mb,i)=false:=h.row.free i
theorem NM.lt(h:NM w mb pre rows post):mb<w.heap.size:=h.row.lt
theorem NM.ch{D:Nat->Prop}(h:NM w mb pre rows post)(c:Ch D w w')(hd:¬D mb):NM w' mb pre rows post:=⟨h.row.ch c hd,h.n1,h.n2⟩
theorem NM.alloc(h:NM w mb pre rows post)(o:Obj):NM (w.alloc o) mb pre rows post:=⟨h.row.alloc o,h.n1,h.n2⟩
theorem NM.drew(h:NM w mb pre rows post):NM w.drew mb pre rows post:=⟨h.row.drew,h.n1,h.n2⟩
theorem NM.pg(h:NM w mb pre rows post)(a:i<7)(v:Value):NM (w.setCell (mb,i) v) mb (pre.set i v) rows post:=
 ⟨h.row.bc i v (by rw[List.set_append_left _ _ (by rw[h.n1];exact a)]),by rw[List.length_set];exact h.n1,h.n2⟩
theorem NM.ax(h:NM w mb pre rows post)(a:i<1000)(v:Int):NM (w.setCell (mb,7+i) (.int .i64 v)) mb pre (rows.set i v) post:=
 ⟨h.row.bc (7+i) _ (by rw[List.set_append_right _ _ (by rw[h.n1];omega),h.n1,List.set_append_left _ _ (by rw[List.length_map,h.n2];omega),show 7+i-7=i by omega,List.map_set]),h.n1,by rw[List.length_set];exact h.n2⟩
theorem NM.km(h:NM w mb pre rows post)(j:Nat)(v:Value):NM (w.setCell (mb,1007+j) v) mb pre rows (post.set j v):=
 ⟨h.row.bc (1007+j) _ (by rw[List.set_append_right _ _ (by rw[h.n1];omega),h.n1,List.set_append_right _ _ (by rw[List.length_map,h.n2];omega),List.length_map,h.n2,show 1007+j-7-1000=j by omega]),h.n1,h.n2⟩
structure NR(pre post:List Value)(wb n:Nat)(wi na:Int):Prop where
 p8:post[8]?=some (.slice (some (wb,0)) n n)
 r5:pre[5]?=some (.int .i64 wi)
 r6:pre[6]?=some (.int .i64 na)
 n0:1<=n
 Hc:n<=64
 Hw:0<=wi
 Hd:wi<=256
 Hx:0<=na
 He:na<=256
theorem pV(h:NM w mb pre rows post)(r:NR pre post wb n wi na):Calls prog 40 #[(mb,0)] w (ez (.int .i64 (17+8*(n:Int))) w):=by
 have c:=h.qc r.p8;have a:(n:Int)<=64:=by have:=r.Hc;omega
 go_wp2
 go_ret;exact ez.mk rfl
theorem uR(h:NM w mb pre rows post)(r:NR pre post wb n wi na):Calls prog 112 #[(mb,0)] w (fun e w'=>e=.returned (.int .i64 (wi+na))/\∃n,w'=w.drewN n):=by
 have a:=h.pc r.r5;have b:=h.pc r.r6;have c:IntKind.i64.wrap (wi+na)=wi+na:=IntWalk.i64_in _ (by have:=r.Hw;have:=r.Hd;have:=r.Hx;have:=r.He;omega);go_wp2
 go_quiet (fail)
 go_wp2
 go_ret;exact⟨rfl,nq,rfl⟩
end
def oG(S:aI)(n i:Nat):aI:=
 let a:=(S.acc 1 (gv i) 0 1).2
 let b:=(a.acc 1 (IntKind.u64.wrap (gv i+1)) 0 1).2
 let c:=(b.acc 1 (IntKind.u64.wrap (gv i+2)) 0 (17+3*n+5*i)).2
 (c.acc 1 (17+3*n+5*i) 0 4).2
def mT(S:aI)(n:Nat):Nat->aI
 |0=>S
 |k+1=>oG (mT S n k) n k
def fY(tt n wi na:Nat):aI:=
 let c:=((aI.new tt).map 0 (17+8*n) 64).2
 let a:=mT c n n
 let b:=if 0<wi then(a.map (17+8*n) wi 64).2 else a
 if 0<na then(b.map (17+8*n+wi) na 32).2 else b
theorem yz(h:b8 S)(n i:Nat)(e:n<=64)(d:i<=64):b8 (oG S n i):=by
 unfold oG;have a:=(h.acc 1 (gv i) 0 1 ⟨by decide,by decide⟩).1;have b:=(a.acc 1 (IntKind.u64.wrap (gv i+1)) 0 1 ⟨by decide,by decide⟩).1;have c:=(b.acc 1 (IntKind.u64.wrap (gv i+2)) 0 (17+3*n+5*i) ⟨by omega,by omega⟩).1;exact(c.acc 1 (17+3*n+5*i) 0 4 ⟨by decide,by decide⟩).1
theorem te(h:b8 S)(n:Nat)(a:n<=64):∀k,k<=64->b8 (mT S n k)
 |0,_=>h
 |k+1,b=>yz (te h n a k (by omega)) n k a (by omega)
theorem b8.new{tt:Nat}(h:tt<=65536):b8 (aI.new tt):=⟨fun x a=>by
 have:x=0:=(List.mem_replicate.1 a).2;rw[this];exact bE,by show(List.replicate tt (0:Int)).length<=_;rw[List.length_replicate];exact h⟩
theorem yA(tt n wi na:Nat)(c:tt<=65536)(b:n<=64):b8 (fY tt n wi na):=by
 unfold fY;have d:=(b8.new c).map 0 (17+8*n) 64;have a:=te d n b n b;dsimp only;split
 ·split
  ·exact(a.map _ _ _).map _ _ _
  ·exact a.map _ _ _
 ·split
  ·exact a.map _ _ _
  ·exact a
end
def ER(mb:Nat)(pre:List Value)(rows:List Int)(post:List Value)(tt n wi na:Nat)(w:World)(e:Ending)(w':World):Prop:=
 e=.returned (.tuple #[])/\∃m c d a,NM w' mb pre rows ((post.set 0 (bk m)).set 1 (bk a))/\aO w' m c d (fY tt n wi na)/\aT w' a m (.slice none 0 0) ⟨17+8*n+wi+na,tt,[]⟩/\w.heap.size<=m/\w.heap.size<=c/\w.heap.size<=d/\w.heap.size<=a/\Ch (aH mb) w w'
theorem Ch.q8{D E:Nat->Prop}{w a b:World}(c:Ch D w a)(d:Ch E a b)(g:∀i,i<w.heap.size->E i->D i):Ch D w b:=
 ⟨d.os.trans c.os,d.tape.trans c.tape,d.output.trans c.output,Nat.le_trans c.size d.size,fun j f hd=>(d.same j (Nat.lt_of_lt_of_le f c.size) (fun e=>hd (g j f e))).trans (c.same j f hd)⟩
theorem AO(mb:Nat)(pre:List Value)(rows:List Int)(post:List Value)(wb n wi na tt:Nat)(w:World)(h:NM w mb pre rows post)(r:NR pre post wb n wi na)(fK:2<=post.length)(fM:1<=tt)(cF:tt<=65536)(fL:17+8*n+wi+na<=tt):
 Calls prog 67 #[(mb,0),.int .i64 tt] w (ER mb pre rows post tt n wi na w):=by
 have cS:=Z h;have O:=Z r;have gr:=Z cF;have gf:=Z fK;have go:=Z fL;have di:=Z (uP tt fM cF w);have hh:(n:Int)<=64:=by have:=r.Hc;omega
 have hn:(wi:Int)<=256:=r.Hd;have hi:(na:Int)<=256:=r.He;obtain⟨fO,fr⟩:∃fO,post[0]?=some fO:=⟨_,List.getElem?_eq_getElem (by omega)⟩;obtain⟨p1,fz⟩:∃p1,post[1]?=some p1:=⟨_,List.getElem?_eq_getElem (by omega)⟩;have ey:=Z fr;have eA:=Z fz;clear h r fM cF fK fL fr fz;go_in
 go_wp2_with (first|(go_at_call 108;refine di.mono ?_;rintro e w1 ⟨m,c,d,rfl,fn,fb,eW,e',cl⟩;have ex:=Z fn;have cQ:=Z cl;have b:Hid (w.heap.size<=m/\w.heap.size<=c/\w.heap.size<=d):=Z ⟨fb,eW,e'⟩;have bd:=Z (cS.ch cl id);have u:=bd.fz 1007;have hd:=bd.qc ey;clear fn fb eW e' cl))
 obtain⟨w2,aP⟩:=nm (w1.setCell (mb,1007) (.pointer (some (m,0))));have C:Hid (mb<w.heap.size):=Z cS.lt;have a4:Hid (NM w2 mb pre rows (post.set 0 (bk m))):=Z (by rw[<-aP];exact bd.km 0 _);have gt:Hid (aO w2 m c d (aI.new tt)):=Z (by
  have l:∀x,w.heap.size<=x->¬aH mb x:=fun x bZ e=>by have s:x=mb:=e;have D:=C.out;omega
  rw[<-aP];exact ex.ch (((Ch.refl (aH mb) w1).only 1007 _)) (l m b.1) (l c b.2.1) (l d b.2.2))
 have P:Hid (Ch (aH mb) w w2):=Z (by rw[<-aP];exact(cQ.af).only _ _);have B:Hid (NR pre (post.set 0 (bk m)) wb n wi na):=Z ⟨by rw[List.getElem?_set_ne (by decide)];exact O.p8,O.r5,O.r6,O.n0,O.Hc,O.Hw,O.Hd,O.Hx,O.He⟩;have ad:Hid ((post.set 0 (bk m))[1]?=some p1):=Z (by rw[List.getElem?_set_ne (by decide)];exact eA);have v:Hid ((post.set 0 (bk m))[0]?=some (bk m)):=Z (by rw[List.getElem?_set_self (by have:=gf.out;omega)]);obtain⟨cL,cC⟩:∃p,post.set 0 (bk m)=p:=⟨_,rfl⟩;rw[aP];rw[cC]at a4 B ad v;have bw:=Z cC;clear aP cC u hd bd ex cQ di ey eA;have g9:=Z (fun w (h:NM w mb pre rows cL)=>pV h B);have eS:=a4.qc B.p8;go_region_held3 (fun w'=>w'.cell? (mb,1015)=some (.slice (some (wb,0)) n n)) (go_keep) ((go_at_call 40;refine(g9 _ a4.drew).mono ?_;rintro e f ⟨rfl,rfl⟩))
 all_goals
  have u:w2.cell? (mb,1007)=some (.pointer (some (m,0))):=a4.qc v;have ct:=fo m c d (aI.new tt) 0 (17+8*n) (by omega) (by omega) w2.drew gt.drew;rw[show((17+8*n:Nat):Int)=17+8*(n:Int)by omega,show((0:Nat):Int)=0 from rfl]at ct;obtain⟨al,fd⟩:=nm (((aI.new tt).map 0 (17+8*n) 64).2);have ab:=Z fd;have gd:=Z ct;clear ct fd eS;go_wp2_with (go_at_call 109;refine gd.mono ?_;rintro e hv ⟨⟨y,rfl,t⟩,cs,cm⟩;rw[ab]at cs;have gF:=Z cs;have g0:=Z cm;have cW:=Z (a4.drew.ch cm (fun e=>by have s:=b.out;have D:=C.out;rcases e with e|e|e<;>omega));have eS:=cW.qc B.p8;clear cs cm t u)
  go_loopg [34] (n+1) (fun gk i wr=>∃k:Nat,k<=n/\gk=n-k+1/\i=.int .i64 k/\Hid (aO wr m c d (mT al n k))/\Hid (NM wr mb pre rows cL)/\Hid (Ch (dL m c d) w2.drew wr))
  case atStart=>exact⟨0,by omega,by omega,rfl,gF,cW,g0⟩
  case round=>
   obtain⟨k,he,rfl,rfl,T,M,X⟩:=hrel;by_cases hf:k<n
   ·have gW:(k:Int)<n:=by omega
    obtain⟨S,V⟩:=nm (mT al n k);have Y:=Z V;rw[V]at T;have u:wr.cell? (mb,1007)=some (.pointer (some (m,0))):=M.qc v;have bv:=Z (fun w=>lS k (by omega) (by omega) (.pointer (some (mb,0))) w);have ci:aK (gv k):=bO _;obtain⟨a0,cq⟩:=nm (gv k);rw[cq]at bv ci;have gc:=Z cq;have gs:=Z ci;have fk:Hid (aK (17+3*(n:Int)+5*(k:Int))):=Z ⟨by omega,by omega⟩;have hm:IntKind.i64.wrap (3*(n:Int))=3*n:=IntWalk.i64_in _ (by omega);clear V cq ci;go_wp2_with fail
    have e4:=Z (eB m c d S a0 1 gs ⟨by decide,by decide⟩ wr.drew T.drew);obtain⟨eC,cb⟩:∃x,(S.acc 1 a0 0 1).2=x:=⟨_,rfl⟩;rw[cb]at e4;have g5:=Z cb;clear cb;refine wp_region_still_tail 7 (by kernel_rfl) (by kernel_rfl) ?_;simp only[List.take_succ_cons,List.take_zero,List.drop_succ_cons,List.drop_zero]
    repeat still_step
    still_call (b5 (bv _))
    repeat still_step
    try refine wpStill_nil ?_
    change wpList _ _ _ _ _ wr.drew;go_wp2_with (go_at_call 110;(with_reducible refine e4.out.mono ?_);rintro e c2 ⟨⟨y,rfl,t⟩,j,a⟩;have gG:=Z j;have g1:Hid (Ch (dL m c d) w2.drew c2):=Z ((X.out.drew).trans (a.mono (fun i J=>J.elim Or.inl (fun e=>Or.inr (Or.inl e)))));have dp:=Z (NM.ch (M.out.drew) a (fun e=>by have s:=b.out;have D:=C.out;rcases e with e|e<;>omega));have u:c2.cell? (mb,1007)=some (.pointer (some (m,0))):=dp.out.qc v.out;clear j a t)
    have en:=Z (eB m c d eC (IntKind.u64.wrap (a0+1)) 1 (bO _) ⟨by decide,by decide⟩ c2.drew gG.drew);obtain⟨eG,cd⟩:∃x,(eC.acc 1 (IntKind.u64.wrap (a0+1)) 0 1).2=x:=⟨_,rfl⟩;rw[cd]at en;have g6:=Z cd;clear cd;refine wp_region_still_tail 8 (by kernel_rfl) (by kernel_rfl) ?_;simp only[List.take_succ_cons,List.take_zero,List.drop_succ_cons,List.drop_zero]
    repeat still_step
    still_call (b5 (bv _))
    repeat still_step
    try refine wpStill_nil ?_
    change wpList _ _ _ _ _ c2.drew;go_wp2_with (go_at_call 110;(with_reducible refine en.out.mono ?_);rintro e c3 ⟨⟨y,rfl,t⟩,j,a⟩;have gH:=Z j;have g2:Hid (Ch (dL m c d) w2.drew c3):=Z ((g1.out.drew).trans (a.mono (fun i J=>J.elim Or.inl (fun e=>Or.inr (Or.inl e)))));have dr:=Z (NM.ch (dp.out.drew) a (fun e=>by have s:=b.out;have D:=C.out;rcases e with e|e<;>omega));have u:c3.cell? (mb,1007)=some (.pointer (some (m,0))):=dr.out.qc v.out;clear j a t)
    have es:=Z (eB m c d eG (IntKind.u64.wrap (a0+2)) (17+3*(n:Int)+5*(k:Int)) (bO _) fk c3.drew gH.drew);obtain⟨eI,ce⟩:∃x,(eG.acc 1 (IntKind.u64.wrap (a0+2)) 0 (17+3*(n:Int)+5*(k:Int))).2=x:=⟨_,rfl⟩;rw[ce]at es;have g7:=Z ce;clear ce;refine wp_region_still_tail 9 (by kernel_rfl) (by kernel_rfl) ?_;simp only[List.take_succ_cons,List.take_zero,List.drop_succ_cons,List.drop_zero]
    repeat still_step
    still_call (b5 (bv _))
    repeat still_step
    try refine wpStill_nil ?_
    change wpList _ _ _ _ _ c3.drew;go_wp2_with (go_at_call 110;(with_reducible refine es.out.mono ?_);rintro e wc ⟨⟨y,rfl,t⟩,j,a⟩;have gO:=Z j;have g3:Hid (Ch (dL m c d) w2.drew wc):=Z ((g2.out.drew).trans (a.mono (fun i J=>J.elim Or.inl (fun e=>Or.inr (Or.inl e)))));have dC:=Z (NM.ch (dr.out.drew) a (fun e=>by have s:=b.out;have D:=C.out;rcases e with e|e<;>omega));have u:wc.cell? (mb,1007)=some (.pointer (some (m,0))):=dC.out.qc v.out;clear j a t)
    have et:=Z (eB m c d eI (17+3*(n:Int)+5*(k:Int)) 4 fk ⟨by decide,by decide⟩ wc gO);obtain⟨eL,ch⟩:∃x,(eI.acc 1 (17+3*(n:Int)+5*(k:Int)) 0 4).2=x:=⟨_,rfl⟩;rw[ch]at et;have g8:=Z ch;clear ch;go_wp2_with (go_at_call 110;(with_reducible refine et.out.mono ?_);rintro e fT ⟨⟨y,rfl,t⟩,j,a⟩;have gP:=Z j;have g4:Hid (Ch (dL m c d) w2.drew fT):=Z ((g3.out).trans (a.mono (fun i J=>J.elim Or.inl (fun e=>Or.inr (Or.inl e)))));have dN:=Z (NM.ch (dC.out) a (fun e=>by have s:=b.out;have D:=C.out;rcases e with e|e<;>omega));have u:fT.cell? (mb,1007)=some (.pointer (some (m,0))):=dN.out.qc v.out;clear j a t)
    go_roundg (n-k)
    case measure=>omega
    case rel=>exact⟨k+1,by omega,by omega,by go_num,Z (by
     have e:mT al n (k+1)=eL:=by
      show oG (mT al n k) n k=eL
      rw[Y];unfold oG;dsimp only;rw[gc,g5,g6,g7,g8]
     rw[e];exact gP),dN,g4⟩
   ·have gW:¬(k:Int)<n:=by omega
    have gY:k=n:=(by omega);subst gY;obtain⟨S,V⟩:=nm (mT al k k);have Y:=Z V;rw[V]at T;clear V;have u:wr.cell? (mb,1007)=some (.pointer (some (m,0))):=M.qc v;have c0:=M.pc B.r5;have c1:=M.pc B.r6;have bi:=Z (fun w (h:NM w mb pre rows cL)=>uR h B);have hu:IntKind.i64.wrap (17+8*(k:Int)+((wi:Int)+(na:Int)))=17+8*(k:Int)+((wi:Int)+(na:Int)):=IntWalk.i64_in _ (by omega);have a5:=Z (q6 m (17+8*k+(wi+na)) tt (by have:=go.out;omega) (by have:=gr.out;omega));rw[show((17+8*k+(wi+na):Nat):Int)=17+8*(k:Int)+((wi:Int)+na)by omega]at a5;by_cases bX:0<wi
    ·have hb:(0:Int)<(wi:Int):=by omega
     by_cases av:0<na
     ·have cA:(0:Int)<(na:Int):=by omega
      have F:=fo m c d S (17+8*k) wi (by omega) (by omega) wr.drew T.drew;rw[show((17+8*k:Nat):Int)=17+8*(k:Int)by omega]at F;obtain⟨bx,ap⟩:∃x,(S.map (17+8*k) wi 64).2=x:=⟨_,rfl⟩;have a3:=Z ap;have a9:=Z F;clear ap F;go_wp2_with fail
      refine wp_region_still_tail 10 (by kernel_rfl) (by kernel_rfl) ?_;simp only[List.take_succ_cons,List.take_zero,List.drop_succ_cons,List.drop_zero]
      repeat still_step
      try refine wpStill_nil ?_
      change wpList _ _ _ _ _ wr.drew;go_wp2_with (go_at_call 109;(with_reducible refine a9.out.mono ?_);rintro e L ⟨⟨y,rfl,t⟩,j,a⟩;rw[a3.out]at j;have c6:=Z j;have bb:Hid (Ch (dL m c d) w2.drew L):=Z ((X.out.drew).trans a);have N:=Z (NM.ch (M.out.drew) a (fun e=>by have s:=b.out;have D:=C.out;rcases e with e|e|e<;>omega));have u:L.cell? (mb,1007)=some (.pointer (some (m,0))):=N.out.qc v.out;have c0:=N.out.pc B.out.r5;have c1:=N.out.pc B.out.r6;clear j a t)
      have c4:=kB m c d bx (17+8*k+wi) na (by omega) (by omega) L.drew c6.drew;rw[show((17+8*k+wi:Nat):Int)=17+8*(k:Int)+(wi:Int)by omega]at c4;obtain⟨c7,am⟩:∃x,(bx.map (17+8*k+wi) na 32).2=x:=⟨_,rfl⟩;have a2:=Z am;have ge:=Z c4;clear am c4;go_wp2_with fail
      refine wp_region_still_tail 16 (by kernel_rfl) (by kernel_rfl) ?_;simp only[List.take_succ_cons,List.take_zero,List.drop_succ_cons,List.drop_zero]
      repeat still_step
      try refine wpStill_nil ?_
      change wpList _ _ _ _ _ L.drew;go_wp2_with (go_at_call 109;(with_reducible refine ge.out.mono ?_);rintro e wn ⟨⟨y,rfl,t⟩,j,a⟩;rw[a2.out]at j;have c5:=Z j;have a1:Hid (Ch (dL m c d) w2.drew wn):=Z ((bb.out.drew).trans a);have G:=Z (NM.ch (N.out.drew) a (fun e=>by have s:=b.out;have D:=C.out;rcases e with e|e|e<;>omega));have u:wn.cell? (mb,1007)=some (.pointer (some (m,0))):=G.out.qc v.out;have c0:=G.out.pc B.out.r5;have c1:=G.out.pc B.out.r6;clear j a t)
      have R:=Z (bi wn.drew G.drew);go_region_held3 (fun w'=>w'.cell? (mb,1007)=some (.pointer (some (m,0)))) (first|go_keep|exact(World.cell?_setCell_other _ _ _ _ (by simp)).trans U) (first|(go_at_call 112;refine R.out.mono ?_;rintro e f ⟨rfl,nq,K⟩;have z:Hid (Ch ag wn f):=Z (by rw[K];exact ay);have c8:f.cell? (mb,1007)=some (.pointer (some (m,0))):=z.out.k u;clear K)|(go_at_call 111;(with_reducible refine(a5.out _).mono ?_);rintro e q ⟨rfl,H,I⟩;have Q:=Z H;have A:Hid (Ch ag wn q):=Z (z.out.trans I);have o:=Z (G.out.ch A.out id);have U:q.cell? (mb,1007)=some (.pointer (some (m,0))):=o.out.qc v.out;have c9:=o.out.qc ad.out;have ca:=o.out.fz 1008;clear H I))
      all_goals
       go_wp2
       go_end0
       have l:∀x,w.heap.size<=x->¬aH mb x:=(fun x bZ e=>by have s:x=mb:=e;have D:=C.out;omega);have E:w.heap.size<=f.heap.size:=Nat.le_trans P.size (Nat.le_trans (show w2.heap.size<=wn.heap.size from a1.out.size) z.size);have a:Ch (aH mb) q (q.setCell (mb,1008) (.pointer (some (f.heap.size,0)))):=ay;refine⟨rfl,m,c,d,f.heap.size,?_,?_,?_,b.1,b.2.1,b.2.2,E,?_⟩
       ·have:=o.km 1 (bk f.heap.size)
        rw[<-bw]at this;exact this
       ·have e:fY tt k wi na=c7:=by unfold fY;dsimp only;rw[ab,Y,if_pos bX,if_pos av,a3,a2]
        rw[e];exact(c5.ch A id id id).ch a (l m b.1) (l c b.2.1) (l d b.2.2)
       ·rw[show 17+8*k+wi+na=17+8*k+(wi+na)by omega]
        exact Q.ch a (l _ E) (fun g W=>by cases W)
       ·refine((P.drew.q8 ((a1)) ?_).trans (A.af)).trans a
        intro i J e;have s:=b.out;rcases e with e|e|e<;>omega
     ·have cA:decide ((0:Int)<(na:Int))=false:=decide_eq_false (by omega)
      have F:=fo m c d S (17+8*k) wi (by omega) (by omega) wr.drew T.drew;rw[show((17+8*k:Nat):Int)=17+8*(k:Int)by omega]at F;obtain⟨bx,ap⟩:∃x,(S.map (17+8*k) wi 64).2=x:=⟨_,rfl⟩;have a3:=Z ap;have a9:=Z F;clear ap F;go_wp2_with fail
      refine wp_region_still_tail 10 (by kernel_rfl) (by kernel_rfl) ?_;simp only[List.take_succ_cons,List.take_zero,List.drop_succ_cons,List.drop_zero]
      repeat still_step
      try refine wpStill_nil ?_
      change wpList _ _ _ _ _ wr.drew;go_wp2_with (go_at_call 109;(with_reducible refine a9.out.mono ?_);rintro e L ⟨⟨y,rfl,t⟩,j,a⟩;rw[a3.out]at j;have c6:=Z j;have bb:Hid (Ch (dL m c d) w2.drew L):=Z ((X.out.drew).trans a);have N:=Z (NM.ch (M.out.drew) a (fun e=>by have s:=b.out;have D:=C.out;rcases e with e|e|e<;>omega));have u:L.cell? (mb,1007)=some (.pointer (some (m,0))):=N.out.qc v.out;have c0:=N.out.pc B.out.r5;have c1:=N.out.pc B.out.r6;clear j a t)
      go_wp2
      try(any_goals (exfalso;omega))
      have R:=Z (bi L.drew N.drew);go_region_held3 (fun w'=>w'.cell? (mb,1007)=some (.pointer (some (m,0)))) (first|go_keep|exact(World.cell?_setCell_other _ _ _ _ (by simp)).trans U) (first|(go_at_call 112;refine R.out.mono ?_;rintro e f ⟨rfl,nq,K⟩;have z:Hid (Ch ag L f):=Z (by rw[K];exact ay);have c8:f.cell? (mb,1007)=some (.pointer (some (m,0))):=z.out.k u;clear K)|(go_at_call 111;(with_reducible refine(a5.out _).mono ?_);rintro e q ⟨rfl,H,I⟩;have Q:=Z H;have A:Hid (Ch ag L q):=Z (z.out.trans I);have o:=Z (N.out.ch A.out id);have U:q.cell? (mb,1007)=some (.pointer (some (m,0))):=o.out.qc v.out;have c9:=o.out.qc ad.out;have ca:=o.out.fz 1008;clear H I))
      all_goals
       go_wp2
       go_end0
       have l:∀x,w.heap.size<=x->¬aH mb x:=(fun x bZ e=>by have s:x=mb:=e;have D:=C.out;omega);have E:w.heap.size<=f.heap.size:=Nat.le_trans P.size (Nat.le_trans (show w2.heap.size<=L.heap.size from bb.out.size) z.size);have a:Ch (aH mb) q (q.setCell (mb,1008) (.pointer (some (f.heap.size,0)))):=ay;refine⟨rfl,m,c,d,f.heap.size,?_,?_,?_,b.1,b.2.1,b.2.2,E,?_⟩
       ·have:=o.km 1 (bk f.heap.size)
        rw[<-bw]at this;exact this
       ·have e:fY tt k wi na=bx:=by unfold fY;dsimp only;rw[ab,Y,if_pos bX,if_neg av,a3]
        rw[e];exact(c6.ch A id id id).ch a (l m b.1) (l c b.2.1) (l d b.2.2)
       ·rw[show 17+8*k+wi+na=17+8*k+(wi+na)by omega]
        exact Q.ch a (l _ E) (fun g W=>by cases W)
       ·refine((P.drew.q8 ((bb)) ?_).trans (A.af)).trans a
        intro i J e;have s:=b.out;rcases e with e|e|e<;>omega
    ·have hb:¬0<(wi:Int):=by omega
     by_cases av:0<na
     ·have cA:(0:Int)<(na:Int):=by omega
      have F:=kB m c d S (17+8*k+wi) na (by omega) (by omega) wr.drew T.drew;rw[show((17+8*k+wi:Nat):Int)=17+8*(k:Int)+(wi:Int)by omega]at F;obtain⟨c7,am⟩:∃x,(S.map (17+8*k+wi) na 32).2=x:=⟨_,rfl⟩;have a2:=Z am;have a9:=Z F;clear am F;go_wp2_with fail
      refine wp_region_still_tail 16 (by kernel_rfl) (by kernel_rfl) ?_;simp only[List.take_succ_cons,List.take_zero,List.drop_succ_cons,List.drop_zero]
      repeat still_step
      try refine wpStill_nil ?_
      change wpList _ _ _ _ _ wr.drew;go_wp2_with (go_at_call 109;(with_reducible refine a9.out.mono ?_);rintro e wn ⟨⟨y,rfl,t⟩,j,a⟩;rw[a2.out]at j;have c5:=Z j;have a1:Hid (Ch (dL m c d) w2.drew wn):=Z ((X.out.drew).trans a);have G:=Z (NM.ch (M.out.drew) a (fun e=>by have s:=b.out;have D:=C.out;rcases e with e|e|e<;>omega));have u:wn.cell? (mb,1007)=some (.pointer (some (m,0))):=G.out.qc v.out;have c0:=G.out.pc B.out.r5;have c1:=G.out.pc B.out.r6;clear j a t)
      have R:=Z (bi wn.drew G.drew);go_region_held3 (fun w'=>w'.cell? (mb,1007)=some (.pointer (some (m,0)))) (first|go_keep|exact(World.cell?_setCell_other _ _ _ _ (by simp)).trans U) (first|(go_at_call 112;refine R.out.mono ?_;rintro e f ⟨rfl,nq,K⟩;have z:Hid (Ch ag wn f):=Z (by rw[K];exact ay);have c8:f.cell? (mb,1007)=some (.pointer (some (m,0))):=z.out.k u;clear K)|(go_at_call 111;(with_reducible refine(a5.out _).mono ?_);rintro e q ⟨rfl,H,I⟩;have Q:=Z H;have A:Hid (Ch ag wn q):=Z (z.out.trans I);have o:=Z (G.out.ch A.out id);have U:q.cell? (mb,1007)=some (.pointer (some (m,0))):=o.out.qc v.out;have c9:=o.out.qc ad.out;have ca:=o.out.fz 1008;clear H I))
      all_goals
       go_wp2
       go_end0
       have l:∀x,w.heap.size<=x->¬aH mb x:=(fun x bZ e=>by have s:x=mb:=e;have D:=C.out;omega);have E:w.heap.size<=f.heap.size:=Nat.le_trans P.size (Nat.le_trans (show w2.heap.size<=wn.heap.size from a1.out.size) z.size);have a:Ch (aH mb) q (q.setCell (mb,1008) (.pointer (some (f.heap.size,0)))):=ay;refine⟨rfl,m,c,d,f.heap.size,?_,?_,?_,b.1,b.2.1,b.2.2,E,?_⟩
       ·have:=o.km 1 (bk f.heap.size)
        rw[<-bw]at this;exact this
       ·have e:fY tt k wi na=c7:=by unfold fY;dsimp only;rw[ab,Y,if_neg bX,if_pos av,a2]
        rw[e];exact(c5.ch A id id id).ch a (l m b.1) (l c b.2.1) (l d b.2.2)
       ·rw[show 17+8*k+wi+na=17+8*k+(wi+na)by omega]
        exact Q.ch a (l _ E) (fun g W=>by cases W)
       ·refine((P.drew.q8 ((a1)) ?_).trans (A.af)).trans a
        intro i J e;have s:=b.out;rcases e with e|e|e<;>omega
     ·have cA:decide ((0:Int)<(na:Int))=false:=decide_eq_false (by omega)
      go_wp2
      try(any_goals (exfalso;omega))
      have R:=Z (bi wr.drew M.drew);go_region_held3 (fun w'=>w'.cell? (mb,1007)=some (.pointer (some (m,0)))) (first|go_keep|exact(World.cell?_setCell_other _ _ _ _ (by simp)).trans U) (first|(go_at_call 112;refine R.out.mono ?_;rintro e f ⟨rfl,nq,K⟩;have z:Hid (Ch ag wr f):=Z (by rw[K];exact ay);have c8:f.cell? (mb,1007)=some (.pointer (some (m,0))):=z.out.k u;clear K)|(go_at_call 111;(with_reducible refine(a5.out _).mono ?_);rintro e q ⟨rfl,H,I⟩;have Q:=Z H;have A:Hid (Ch ag wr q):=Z (z.out.trans I);have o:=Z (M.out.ch A.out id);have U:q.cell? (mb,1007)=some (.pointer (some (m,0))):=o.out.qc v.out;have c9:=o.out.qc ad.out;have ca:=o.out.fz 1008;clear H I))
      all_goals
       go_wp2
       go_end0
       have l:∀x,w.heap.size<=x->¬aH mb x:=(fun x bZ e=>by have s:x=mb:=e;have D:=C.out;omega);have E:w.heap.size<=f.heap.size:=Nat.le_trans P.size (Nat.le_trans (show w2.heap.size<=wr.heap.size from X.out.size) z.size);have a:Ch (aH mb) q (q.setCell (mb,1008) (.pointer (some (f.heap.size,0)))):=ay;refine⟨rfl,m,c,d,f.heap.size,?_,?_,?_,b.1,b.2.1,b.2.2,E,?_⟩
       ·have:=o.km 1 (bk f.heap.size)
        rw[<-bw]at this;exact this
       ·have e:fY tt k wi na=S:=by unfold fY;dsimp only;rw[ab,Y,if_neg bX,if_neg av]
        rw[e];exact(T.ch A id id id).ch a (l m b.1) (l c b.2.1) (l d b.2.2)
       ·rw[show 17+8*k+wi+na=17+8*k+(wi+na)by omega]
        exact Q.ch a (l _ E) (fun g W=>by cases W)
       ·refine((P.drew.q8 ((X)) ?_).trans (A.af)).trans a
        intro i J e;have s:=b.out;rcases e with e|e|e<;>omega
variable{W:World}{B qm rg tm:Nat}
def aC.new(loop:Int):aC:=⟨0,0,false,0,⟨loop,DE,[]⟩⟩
def kp(C:KC)(n tt:Nat):KS where
 mem:=fY tt n C.wide.toNat C.narrow.toNat
 blocks:=⟨17+8*n+C.wide.toNat+C.narrow.toNat,tt,[]⟩
 clock:=aN.new
 ring:=[]
 q:=List.replicate 8 []
 table:=List.replicate 64 aF.zero
 cT:=List.replicate 64 bq.zero
 ai:=[]
 wk:=List.replicate n (aC.new C.loop)
 entries:=0
 at_:=0
 w:=0
 draw:=0
 out:=[]
def hY(C:KC)(n tt:Nat):KS:=
 let x:=bQ (kp C n tt) C.entry 0
 {x.2 with ring:=(hG x.2.ring x.1).2}
def CR(rg:Nat)(i:Nat)(t:TypeId):a':=
 if t=113 then .gL else if t=310 then .mem else if t=39 then(if i=rg then .ring else .mem)else if t=5 then .mem else if t=314 then .al
 else if t=226 then .b2 else if t=307 then .b2 else if t=229 then .ring else if t=214 then .q else if t=217 then .q
 else if t=208 then .cZ else if t=210 then .cZ else if t=235 then .obj else if t=237 then .obj else if t=120 then .wk
 else if t=184 then .code else if t=158 then .code else .no
def hZ(W:World)(B rg tm qm:Nat)(i:Nat):a':=
 if i<B then .no else match W.heap[i]? with
 |some (.cells _ t _)=>CR rg i t
 |some (.map _ _)=>if i=tm then .tm else if i=qm then .q else .b2
 |_=> .no
theorem bF{l:List Value}(h:Row W b t l)(hb:B<=b){k:a'}(a:CR rg b t=k):hZ W B rg tm qm b=k:=by
 unfold hZ;rw[if_neg (by omega),show W.heap[b]?=some (.cells l.toArray t (0,0))from h];exact a
theorem iS{α:Type}{q:IntKind}{enc:α->Value}{l:List (Int×α)}(h:bS W b q enc l)(hb:B<=b){k:a'}(d:(if b=tm then a'.tm else if b=qm then a'.q else a'.b2)=k):hZ W B rg tm qm b=k:=by
 obtain⟨e,c,a,_⟩:=h;unfold hZ;rw[if_neg (by omega),a];exact d
theorem pW{i:Nat}(h:hZ W B rg tm qm i≠ .no):B<=i/\i<W.heap.size:=by
 unfold hZ at h;split at h
 ·exact absurd rfl h
 ·refine⟨by omega,?_⟩
  rcases Nat.lt_or_ge i W.heap.size with a|a
  ·exact a
  ·rw[Array.getElem?_eq_none a]at h;exact absurd rfl h
theorem CS{p:Prop} [Decidable p]{a b:a'}(c:a≠ .out)(d:b≠ .out):(if p then a else b)≠ .out:=by
 split
 ·exact c
 ·exact d
theorem AP(rg i:Nat)(t:TypeId):CR rg i t≠ .out:=by
 unfold CR
 repeat' (refine CS ?_ ?_)
 all_goals(intro h;cases h)
theorem uS(i:Nat):hZ W B rg tm qm i≠ .out:=by
 unfold hZ;split
 ·intro h;cases h
 ·split
  ·exact AP _ _ _
  ·split
   ·intro h;cases h
   ·split
    ·intro h;cases h
    ·intro h;cases h
  ·intro h;cases h
theorem uT(n:Nat)(x:aC)(v:Value):(dj (List.replicate n x) (fun _=>v)).flatMap (fun y=>y.1.cells y.2)=(List.replicate n x).flatMap fun y=>y.cells v:=by
 unfold dj;rw[List.flatMap_map];have:∀(l:List aC) (k:Nat),(l.zipIdx k).flatMap (fun a=>a.1.cells v)=l.flatMap fun y=>y.cells v:=by
  intro l
  induction l with
  |nil=>intro k;rfl
  |cons a l ih=>intro k;rw[List.zipIdx_cons,List.flatMap_cons,List.flatMap_cons,ih]
 exact this _ 0
def l7(mb m c d a k l n o s rg qb r qm tb u p q tm wb e h f i g j:Nat):cU:=
 ⟨mb,m,c,d,a,k,l,n,o,s,rg,qb,r,qm,tb,u,p,q,tm,wb,some ⟨e,0,none⟩,h,some ⟨f,0,none⟩,i,some ⟨g,0,none⟩,j⟩
def newVar:Var:=⟨.slice none 0 0,.slice none 0 0,.slice none 0 0,List.replicate 8 [],fun _=>0,fun _=> .slice none 0 0,fun _ _=>0,fun _ _=> .slice none 0 0,fun _=> .slice none 0 0⟩
theorem wA{g:Nat}{l:List be}{c:List Value}(h:Row W g t (b4 l++c)):fN W g l:=⟨h.lt,fun j u a=>h.cell (by rw[List.getElem?_append_left (List.getElem?_eq_some_iff.1 a).1];exact a)⟩
theorem uU{mb m c d u w y a e F qb E tb G A D wb o J p K r L:Nat}{C:KC}{n tt:Nat}{am a3 ap:List Value}(ab:n<=64)
 (P:NM W mb (kV C (l7 mb m c d u w y a e F rg qb E qm tb G A D tm wb o J p K r L)) C.rows (hx (l7 mb m c d u w y a e F rg qb E qm tb G A D tm wb o J p K r L) (.slice none 0 0) n 0 0 0 0))
 (M:aO W m c d (kp C n tt).mem) (X:aT W u m (.slice none 0 0) (kp C n tt).blocks) (z:aX W w y a e (.slice none 0 0) aN.new) (Z:eP W F rg []) (N:iE W qb E qm (List.replicate 8 []))
 (S:aW W tb G (List.replicate 64 aF.zero)) (R:bP W A D (List.replicate 64 bq.zero)) (a0:bS (α:=Nat) W tm .u64 bk []) (a1:Row W wb 120 ((List.replicate n (aC.new C.loop)).flatMap fun x=>x.cells (.slice none 0 0)))
 (T:Row W o 184 (b4 C.dH++am)) (U:Row W p 158 (C.calls.flatMap bB.cells++a3)) (V:Row W r 184 (b4 C.bs++ap)) (k1:C.dH.length<=J) (k2:C.calls.length<=K) (k3:C.bs.length<=L)
 (av:c≠rg) (aP:a≠tm) (bb:e≠tm) (bd:a≠qm) (bi:e≠qm) (bv:qm≠tm)
 (a4:B<=mb) (H:B<=m/\B<=c/\B<=d/\B<=u) (I:B<=w/\B<=y/\B<=a/\B<=e) (v:B<=F/\B<=rg/\B<=qb/\B<=E/\B<=qm) (l:B<=tb/\B<=G/\B<=A/\B<=D/\B<=tm/\B<=wb) (O:B<=o/\B<=p/\B<=r):
 ae W (hZ W B rg tm qm) (l7 mb m c d u w y a e F rg qb E qm tb G A D tm wb o J p K r L) newVar C (kp C n tt) where
 head:=fun _=>⟨by
  have:=P.row;show Row W mb _ (cG _ (.slice none 0 0) C (List.replicate n (aC.new C.loop)).length 0 0 0 0)
  rw[List.length_replicate];exact this,P.n2,bF P.row a4 rfl⟩
 mem:=fun _=>⟨M,bF M.head H.1 rfl,bF M.cells H.2.1 (by show(if c=rg then a'.ring else a'.mem)=_;rw[if_neg av]),bF M.width H.2.2.1 rfl⟩
 al:=fun _=>⟨X,bF X.head H.2.2.2 rfl,fun g j=>by cases j⟩
 b2:=fun _=>⟨z,bF z.head I.1 rfl,bF z.heap.head I.2.1 rfl,iS z.heap.map I.2.2.1 (by rw[if_neg aP,if_neg bd]),iS z.fl I.2.2.2 (by rw[if_neg bb,if_neg bi]),fun g j=>by cases j⟩
 ring:=fun _=>by
  obtain⟨cs,fr,Y,_⟩:=id Z;exact⟨Z,bF Y.head v.1 rfl,bF Y.rows v.2.1 (by show(if rg=rg then a'.ring else a'.mem)=_;rw[if_pos rfl])⟩
 q:=fun _=>⟨N,rfl,fun i Q=>by
  rcases Q with rfl|rfl|rfl|⟨s,ad,_⟩
  ·exact bF N.head v.2.2.1 rfl
  ·exact bF N.ends v.2.2.2.1 rfl
  ·obtain⟨bw,a9,_⟩:=N.map
   exact iS a9 v.2.2.2.2 (by rw[if_neg bv,if_pos rfl])
  ·have:s∈(List.replicate 8 ([]:List Sl)).flatten:=ad
   simp at this⟩
 cZ:=fun _=>⟨S,bF S.head l.1 rfl,bF S.rows l.2.1 rfl⟩
 obj:=fun _=>⟨R,bF R.head l.2.2.1 rfl,bF R.rows l.2.2.2.1 rfl⟩
 tm:=fun _=>⟨a0,iS a0 l.2.2.2.2.1 (by rw[if_pos rfl]),List.nodup_nil⟩
 th:=fun id t h=>by cases h
 tl:=fun id t h=>by cases h
 fr:=fun id t k f h=>by cases h
 wk:=fun _=>⟨by
  show Row W wb _ ((dj (List.replicate n (aC.new C.loop)) fun _=> .slice none 0 0).flatMap fun x=>x.1.cells x.2)
  rw[uT];exact a1,bF a1 l.2.2.2.2.2 rfl,fun i x a2=>by
  have a5:x∈List.replicate n (aC.new C.loop):=List.mem_of_getElem? a2;rw[(List.mem_replicate.1 a5).2];exact cv.nil _,fun i x a2 g j=>(by cases j),by show(List.replicate n (aC.new C.loop)).length<=64;rw[List.length_replicate];exact ab⟩
 out:=fun _=>⟨⟨rfl,Or.inl ⟨rfl,rfl⟩⟩,fun g j=>by cases j⟩
 code:=fun _=>{
  m4:=k1
  jo:=k2
  m5:=k3
  cg:=fun _=>⟨o,rfl,wA T,bF T O.1 rfl⟩
  prog:=fun _=>⟨r,rfl,wA V,bF V O.2.2 rfl⟩
  calls:=fun _=>⟨p,a3,rfl,U,bF U O.2.1 rfl⟩}
 small:=fun i Q=>(pW Q).2
section
open Go.ChangeAt Go.ChangeShapes Go.WideShapes
variable{W W':World}{v:Value}
theorem own:ownKnob prog.godebug=none:=by kernel_rfl
theorem Ga{g:Type}{enc:TypeId×Value->g}{a:Assume}{C:Checked}{os:Os}{f:FuncId}{b:Func}{s:ChangeSpec}{conds:List PathCond}{apart fresh handsOn again:Bool}{X:World->Array Value->Prop}
 (m:∀(w w':World) (args:Array Value),w.heap=w'.heap->X w args->X w' args)
 (own:ownKnob C.prog.godebug=none) (started:os.Started) (D:C.prog.inits.idxOf? f=none) (o:C.prog.funcs[f]?=some b)
 (witness:∃(w:World) (tape:Tape) (i:Input),w.os=os/\(w.forCall tape i).Shaped C.prog/\i.vars=[]/\Input.okWide C.prog (w.forCall tape i) .any w.heap.size f i/\
  ((s.pre enc C.prog b conds apart (w.forCall tape i).memory i.args/\X (w.forCall tape i).memory i.args)/\sizedMet enc C.prog b (OpenSpec.ofChange s) apart (w.forCall tape i).memory i.args)/\a.holds C.prog (lone (Frame.enter C.prog f i.args .normal) [] (w.forCall tape i)))
 (k:∀(W:World) (base:Nat) (args:Array Value) (c d:List (DataW g)) (before:List MemPlace),
  (∀(j:Nat) t v,b.params[j]?=some t->args[j]?=some v->Value.okWide C.prog W .any base t v)->
  DataW.Whole enc C.prog b.params.toList s.vars apart W args.toList c d before->
  (DataW.weightsEach C.prog (b.params.toList++s.plain.varTypes C.prog) (c++d)).all (·<=reachBytes)=true->X W args->W.ShapedOpen C.prog->
  Calls C.prog f args W fun e W'=>∃v,e=.returned v/\s.post enc C.prog b apart fresh handsOn again W args v W'):
 ReturnsInHanded a C os f .any (fun w args=>(s.pre enc C.prog b conds apart w args/\X w args)/\sizedMet enc C.prog b (OpenSpec.ofChange s) apart w args) (s.post enc C.prog b apart fresh handsOn again):=by
 refine returnsInHanded_of_calls own started D witness ?_;intro w tape i _ x _ q u _;obtain⟨_,_,_,l,p,_,_,_,_,y⟩:=q;have e:l=b:=Option.some.inj (p.symm.trans o);subst e;obtain⟨⟨⟨c,d,before,h,E⟩,A⟩,B⟩:=u;have z:=DataW.Whole.of_heap (w':=w.forCall tape i) (by rfl) h;refine(k (w.forCall tape i) w.heap.size i.args c d before y z (B.weights h) (m _ _ _ (by rfl) A) x).mono fun e W' ⟨v,n,r⟩=> ?_
 subst n;exact ChangeSpec.post_blind r
theorem yB{d:Type}{enc:TypeId×Value->d}{P:Program}{f:Func}{s:ChangeSpec}{apart fresh handsOn again:Bool}{args:Array Value}{e g:List (DataW d)}{before pa pv:List MemPlace}
 (i:DataW.Whole enc P f.params.toList s.vars apart W args.toList e g before)
 (n:∀(b:Nat) (c:Nat->Bool) (hd:Bool),DataW.TrodAll enc P W' b c hd f.resultTypes.toList (v.resultList f.resultTypes.size) (s.fn d (e++g)).results [])
 (k:∀c:Nat->Bool,(∀p∈before,c p.block=true)->DataW.TrodAll enc P W' 0 c true f.params.toList args.toList (s.fn d (e++g)).args pa)
 (o:∀c:Nat->Bool,(∀p∈before,c p.block=true)->DataW.TrodVars enc P W' c s.vars (s.fn d (e++g)).vars pv)
 (h:before=pa++pv) (hb:Below W.heap.size W W')
 (w:∀(j:Nat) (t:TypeId) (r:Value),f.resultTypes[j]?=some t->(v.resultList f.resultTypes.size)[j]?=some r->Value.okWide P W' .any 0 t r):
 s.post enc P f apart fresh handsOn again W args v W':=by
 have m:∀p∈before,p.block<W.heap.size:=fun p a=>i.lt p a
 have hold:∀p∈before,(fun b=>decide (b<W.heap.size)) p.block=true:=fun p a=>by simpa using m p a
 refine⟨e,g,before,[],pa,pv,i,n _ _ _,k _ hold,o _ hold,World.keptBut_mono (fun p a=>⟨a,?_⟩) (hb.frame (·∈before)),fun _=> ?_⟩
 ·rw[h,List.mem_append]at a
  exact Or.inr a
 ·obtain⟨_,_,_,_,_,x,u⟩:=i
  refine⟨w,_,_,([]++pa)++pv,⟨[]++pa,pv,trodAll_append (k _ (fun _ _=>rfl)) (n _ _ _),o _ (fun _ _=>rfl),rfl,?_,?_⟩,?_⟩
  ·intro b off a
   have l:MemPlace.cell b off∈before:=(by rw[h];simpa using a);rw[hb.frozen (m _ l)];exact x b off l
  ·intro q
   have:=u q;rw[h]at this;simpa using this
  ·intro p a _
   rw[h];simpa using a
theorem EU.et:prog.globalNamed "errors.errorType" =some 0:=by kernel_rfl
theorem EU.rt:(prog.cutTypes.find? (·.1== "internal/reflectlite.rtype")).map (·.2)=some 390:=by kernel_rfl
theorem EU.EV:((List.range 446).filter fun t=>prog.rowNamed t [101,114,114,111,114])=[85]:=by kernel_rfl
theorem EU.size:prog.types.size=446:=by kernel_rfl
theorem AS:laidOutB prog=true:=by kernel_rfl
theorem l8{b:Type}{enc:TypeId×Value->b}{T:TypeId}{d:DataW b}{a:List MemPlace}(f:prog.readableRec T=true)(g:T<prog.types.size)
 (h:DataW.Trod enc prog W 0 (fun _=>true) true T v d a) (hb:Below W.heap.size W W') (e:∀x∈a,x.block<W.heap.size) {c:Nat->Bool} (i:∀p∈a,c p.block=true):DataW.Trod enc prog W' 0 c true T v d a:=
 WideElems.Trod_stays AS f g h (fun x j=>hb.same (e x j)) i
end
theorem o6{n:Int}(h:(Lit.int .u64 n).wf=true):aK n:=by
 unfold Lit.wf at h;simp at h;have a:IntKind.u64.min=0:=by decide
 have b:IntKind.u64.max=18446744073709551615:=by decide
 rw[a,b]at h;exact⟨h.1,by omega⟩
structure hI where
 kind:Int
 wk:Int
 draw:Int
 deriving Inhabited
def mo(x:hI):List Value:=[.int .i64 x.kind,.int .i64 x.wk,.int .u64 x.draw]
theorem Dj:(prog.info? 41).map (fun i=>(i.zero,i.size,i.bytes))=some (some (.agg #[.int .i64 0,.int .i64 0,.int .u64 0]),3,24):=by kernel_rfl
section
open Go.ChangeAt Go.ChangeShapes Go.WideShapes
variable{W:World}
def Nc:List (String×DataW Unit):=[("unicode/utf8.acceptRanges",Rows.laid_unicode_utf8_acceptRanges),("errors.errorType",Rows.laid_errors_errorType),("unicode/utf8.first",Rows.laid_unicode_utf8_first)]
theorem JK(h:laidMetH prog Nc W):W.cell? (0,0)=some (.iface 390 (.agg #[(4,85)])):=by
 have g:laidMet prog [("unicode/utf8.acceptRanges",Rows.laid_unicode_utf8_acceptRanges),("unicode/utf8.first",Rows.laid_unicode_utf8_first)] W/\handlesMet prog [("errors.errorType",Rows.laid_errors_errorType)] W:=h;obtain⟨name,u,ty,c,d,e,f,a⟩:=g.2 _ (List.mem_singleton.2 rfl);have en:name=[101,114,114,111,114]:=(Option.some.inj c).symm;subst en;obtain rfl:=Option.some.inj (EU.rt.symm.trans d);have b:ty∈(List.range 446).filter fun t=>prog.rowNamed t [101,114,114,111,114]:=List.mem_filter.2 ⟨List.mem_range.2 (by rw[<-EU.size];exact e),f⟩
 rw[EU.EV]at b;obtain rfl:=List.mem_singleton.1 b;have i:typeHandle prog 85=.pointer (some (4,85)):=by kernel_rfl
 rw[i]at a;simpa using World.var?_cell EU.et a 0
noncomputable def Lt (os:Os):World:=
 let w0:=World.doorLaid prog 60 os
 {w0 with heap:=w0.heap.modify 2 fun
  |.cells _ t fr=> .cells (Pinned.utf8FirstZ.map fun z:Nat=>Value.int .u8 (z:Int)).toArray t fr
  |o=>o}
theorem MY(os:Os)(args:Array Value):laidMetH prog Nc ((Lt os).forCall (fun _ _=>0) ⟨#[],args,[]⟩).memory:=
 laidMetH_of_parts3 (fuel:=8) (laidMet_of_run' 8 (by kernel_rfl) (by kernel_rfl)) (by kernel_rfl) (by kernel_rfl)
theorem KF(h:W.ShapedOpen prog):∃m,W.cell? (1,0)=some (.int .i64 m):=
 Go.Proofs.cell_of_shapedOpen_int (zero:=#[.int .i64 0]) (t:=3) h (of_decide_eq_true (by kernel_rfl)) (by kernel_rfl) rfl (by kernel_rfl) (by kernel_rfl) underlying3
end
theorem C3(id:Int):eH (List.replicate 64 aF.zero) id=none:=by
 unfold eH;rw[List.getElem?_replicate];split
 ·rfl
 ·rename_i r h
  split at h
  ·cases h;rfl
  ·cases h
theorem tx(n:Nat)(loop:Int)(id:Int)(h:id≠0):iO (List.replicate n (aC.new loop)) id=0:=by
 unfold iO;rw[List.countP_eq_zero];intro x a;rw[(List.mem_replicate.1 a).2];show¬((0:Int)==id)=true
 rw[beq_iff_eq];exact fun e=>h e.symm
theorem A1(n:Nat)(loop:Int)(id:Int)(h:id≠0):qR (List.replicate n (aC.new loop)) id=0:=by
 unfold qR;rw[List.countP_eq_zero];intro x a;rw[(List.mem_replicate.1 a).2];show¬((0:Int)==id)=true
 rw[beq_iff_eq];exact fun e=>h e.symm
theorem wL(n:Nat)(loop:Int)(id:Int)(h:id≠0):ev (List.replicate n (aC.new loop)) [] id=0:=by
 unfold ev;rw[tx n loop id h,A1 n loop id h];rfl
theorem wM(C:KC)(n tt:Nat)(g:1<=n)(f:n<=64)(c:tt<=65536)(b:17+8*n+C.wide.toNat+C.narrow.toNat<=tt):Inv 0 0 (kp C n tt) where
 core:={
  cZ:=⟨List.length_replicate,fun p r a=>by
   have k:r∈List.replicate 64 aF.zero:=List.mem_of_getElem? a;rw[(List.mem_replicate.1 k).2];exact⟨by decide,by decide,fun e=>(by cases e),⟨by decide,by decide⟩,⟨by decide,by decide⟩⟩⟩
  al:=fun id r b=>by
   have:=C3 id;rw[show eH (kp C n tt).table id=none from this]at b;cases b
  ai:=fun id t h=>by cases h
  one:=fun id h=>by show ev (List.replicate n (aC.new C.loop)) [] id<=1;rw[wL n _ id h];omega
  sH:=fun id h a=>by
   have:ev (List.replicate n (aC.new C.loop)) [] id=0:=wL n _ id h;have i:0<ev (List.replicate n (aC.new C.loop)) [] id:=a;omega
  slt:=fun id h a=>by
   have:iO (List.replicate n (aC.new C.loop)) id=0:=tx n _ id h;have i:0<iO (List.replicate n (aC.new C.loop)) id:=a;omega
  wk:=fun x d=>by
   rw[(List.mem_replicate.1 (show x∈List.replicate n (aC.new C.loop)from d)).2];exact⟨⟨fun j _=>bE,by show([]:List Int).length<=8;decide⟩,Int.le_refl 0,show(0:Int)<=24 by decide⟩}
 nd:=List.nodup_nil
 q:=⟨fun s l=>by
  have:s∈(List.replicate 8 ([]:List fQ)).flatten:=l;simp at this,Nat.le_refl _⟩
 b2:=⟨ah.D2,Nat.le_refl _,fun t c=>(by cases c),bE⟩
 bI:=⟨by show 17+8*n+C.wide.toNat+C.narrow.toNat<=70000;omega,by show tt<=70000;omega,fun x d=>(by cases d),Nat.le_refl _⟩
 mem:=yA tt n _ _ c f
 obj:=fun r b=>by
  rw[(List.mem_replicate.1 (show r∈List.replicate 64 bq.zero from b)).2];exact bE
 draw:=bE
 w0:=by show 1<=(List.replicate n (aC.new C.loop)).length;rw[List.length_replicate];exact g
 w1:=by show(List.replicate n (aC.new C.loop)).length<=64;rw[List.length_replicate];exact f
 out:=Nat.le_refl _
def A2(w:World)(e:Ending)(w':World):Prop:=(∃v,e=.returned (.tuple #[.pointer none,v])/\ar v)/\Ch ag w w'
variable{W w:World}{B g j kk n:Nat}{u v:Value}{l:List Int}{s x:Int}{L:List Value}
def HU(s:Int):Int:=IntKind.u64.wrap (IntKind.u64.wrap (s*6364136223846793005)+1442695040888963407)
def It(n:Int):Nat->List Int->Int->List hI×Int
 |0,_,s=>([],s)
 |f+1,left,s=>
  let s:=HU s
  let k:=(s/4294967296%(left.length:Int)).toNat
  let x:=left.getD k 0
  let p:=It n f (left.eraseIdx k) s
  ((if x=n then⟨2,0,0⟩else⟨1,x,s/4294967296⟩)::p.1,p.2)
def Jm(n:Nat):List Int:=(List.range (n+1)).map Int.ofNat
def HR(n:Nat):Nat->Int->List hI
 |0,_=>[]
 |r+1,s=>(It n (n+1) (Jm n) s).1++HR n r (It n (n+1) (Jm n) s).2
def Ln(S:List hI)(w:World)(e:Ending)(w':World):Prop:=∃v,e=.returned v/\w'.ownsRow w.heap.size 41 3 v S.length (S.flatMap mo)/\Ch ag w w'
def I7(w:World)(B:Nat)(v:Value)(l:List Int):Prop:=w.ownsRow B 3 1 v l.length (l.map (Value.int .i64))
theorem I8(n:Nat):(Jm n).length=n+1:=by unfold Jm;rw[List.length_map,List.length_range]
theorem MG{k:Nat}(h:w.ownsRow B 3 1 v k (((List.range k).map Int.ofNat).map (Value.int .i64)))(a:k=n+1):I7 w B v (Jm n):=by
 subst a;unfold I7;rw[I8];exact h
theorem JE{b:List Value}(h:Row w g 3 (l.map (Value.int .i64)++b)){q:Nat}(a:l[q]?=some x):w.cell? (g,q)=some (.int .i64 x):=
 h.cell (by rw[List.getElem?_append_left (by rw[List.length_map];exact(List.getElem?_eq_some_iff.1 a).1),List.getElem?_map,a];rfl)
theorem Ke{P:Program}{ops:Array Oper}{o:Oper}{a:Act}{K:Act->World->Prop}{Q:Exit->Act->World->Prop}{E:Prop}
 (p:o.guard=none) (s x:Operand) (t:TypeId) (y:o.op=Op.call {callee:=Callee.builtin Builtin.append,args:=#[s,x],argTypes:=#[t,t]})
 (e:TypeId) (i:TypeInfo) (f:P.underlying t=some (.slice e)) (h:P.info? e=some i) (b:Option Addr) (n cap:Nat) (A:a.eval s=.slice b n cap) (r:n<=cap) (d:Option Addr) (m c:Nat) (D:a.eval x=.slice d m c) (q:m=0)
 (k:∀v' w',v'=.slice b n cap->w'=w->K (a.put o.dst v') w'):
 if Region.wanted o (yielded ops a.tmps)=true then Oper.wp P o a w K Q else E:=by
 subst q;have C:Region.wanted o (yielded ops a.tmps)=true:=by simp[Region.wanted,p]
 rw[if_pos C];have z:(Builtin.append_ #[t,t] o.type #[.slice b n cap,.slice d 0 c]).run P w=.ok (.slice b n cap) w:=by
  cases b<;>cases d<;>simp[Builtin.append_,run_underlying f,sizeOf,typeInfo,h,Builtin.lenOf,Builtin.firstCells,r,storeCells,loadCells,loadCellsFrom]
 unfold Oper.wp;simp[execOp,y,resolve,invoke,builtin,A,D,z,Result.andThen];exact k _ _ rfl rfl
theorem K0{e:TypeId}{s:Nat}{xs:List Value}(h:w.ownsRow B e s v n xs):∃c,(∀a d b,v=.slice a d b->b=c)/\n<=c:=by
 rcases h.2 with⟨rfl,rfl⟩|⟨g,cap,cur,rfl,_,_,f,_⟩
 ·exact⟨0,(fun a d b e=>by injection e with _ _ e;exact e.symm),Nat.le_refl _⟩
 ·exact⟨cap,(fun a d b e=>by injection e with _ _ e;exact e.symm),f⟩
theorem Iw{P:Program}(w:World){ops:Array Oper}{o:Oper}{a:Act}{K:Act->World->Prop}{Q:Exit->Act->World->Prop}{E:Prop}(y:o.guard=none)(s x:Operand)(t:TypeId)
 (F:o.op=.call {callee:=.builtin .append,args:=#[s,x],argTypes:=#[t,t]}) (base:Nat) (e:TypeId) (i:TypeInfo) (z:Value) (size bytes:Nat) (H:P.underlying t=some (.slice e)) (A:P.info? e=some i) (ab:i.zero=some z)
 (a5:i.size=size) (X:i.bytes=bytes) (ad:z.cells.size=size) (a9:0<size) (b:Option Addr) (n c:Nat) (xs:List Value) (G:a.eval s=.slice b n c) (r:w.ownsRow base e size (.slice b n c) n xs)
 (k:Option Addr) (m p:Nat) (news:List Value) (I:a.eval x=.slice k m p) (C:news.length=m*size) (a4:m=0∨∃d,k=some d/\∀j u,news[j]?=some u->w.cell? (d.add j)=some u) (R:∀u∈news,u.oneCell'=true)
 (U:n+m<=maxLen) (Y:(n+m)*bytes<=140737488355328) (V:base<=w.heap.size)
 (h:∀v' w',w'.ownsRow base e size v' (n+m) (xs++news)->Ch (fun i=>(Value.slice b n c).ownBlock=some i) w w'->(∀g,v'.ownBlock=some g->(Value.slice b n c).ownBlock=some g∨w.heap.size<=g)->K (a.put o.dst v') w'):
 if Region.wanted o (yielded ops a.tmps)=true then Oper.wp P o a w K Q else E:=by
 by_cases D:m=0
 ·subst D
  obtain⟨al,a0,a3⟩:=K0 r;refine Ke y s x t F e i H A b n c G (by rw[a0 _ _ _ rfl];exact a3) k 0 p I rfl (fun v' w' J M=> ?_);subst J;subst M;have a2:news=[]:=List.eq_nil_of_length_eq_zero (by rw[C,Nat.zero_mul]);subst a2;exact h _ _ (by rw[List.append_nil];exact r) ay (fun g a1=>Or.inl a1)
 ·obtain⟨d,rfl,Z⟩:=a4.resolve_left D
  refine step_append_lies w y s x t F base e i z size bytes H A ab a5 X ad a9 _ n xs G r d m p news I C Z R (by omega) U Y V _ rfl (fun N am w2 S T f ap=>h _ _ S (Ch.bK T) (fun O q=> ?_));have q:N=O:=by simpa[Value.ownBlock]using q
  subst q;rcases f with f|f
  ·exact Or.inl f
  ·exact Or.inr (by omega)
theorem LS(W:World)(T:TypeId):(W.alloc (.cells #[] T)).drew.ownsRow W.heap.size T 1 (.slice (some (W.heap.size,0)) 0 0) 0 []:=
 ⟨by simp,Or.inr ⟨W.heap.size,0,#[],rfl,Nat.le_refl _,(Row.new W #[] T:Row _ _ _ []),Nat.le_refl _,by decide,by simp,by simp⟩⟩
theorem Mi{n:Int}{m:Nat}{left:List Int}{a:Int}{E:hI}(c:left.length=m+1)(e:HU s=a)(d:kk=(a/4294967296%((m+1:Nat):Int)).toNat)(f:left[kk]?=some x)(b:(if x=n then⟨2,0,0⟩else⟨1,x,a/4294967296⟩)=E):
 It n (m+1) left s=(E::(It n m (left.eraseIdx kk) a).1,(It n m (left.eraseIdx kk) a).2):=by
 show((if left.getD (HU s/4294967296%(left.length:Int)).toNat 0=n then(⟨2,0,0⟩:hI)else⟨1,left.getD (HU s/4294967296%(left.length:Int)).toNat 0,HU s/4294967296⟩)::(It n m (left.eraseIdx (HU s/4294967296%(left.length:Int)).toNat) (HU s)).1,(It n m (left.eraseIdx (HU s/4294967296%(left.length:Int)).toNat) (HU s)).2)=_
 rw[e,c,<-d,List.getD_eq_getElem?_getD,f,<-b];rfl
theorem K2(l:List Int):∀u∈l.map (Value.int .i64),u.oneCell'=true:=fun u a=>by
 obtain⟨x,_,rfl⟩:=List.mem_map.1 a;simp[Value.oneCell']
theorem Kq{c:List Value}(h:Row w g 3 (l.map (Value.int .i64)++c))(b:((l.take kk).map (Value.int .i64))[j]?=some u):w.cell? (g,j)=some u:=by
 rw[List.getElem?_map]at b;cases a:(l.take kk)[j]? with
 |none=>rw[a]at b;cases b
 |some x=>
  rw[a]at b;obtain rfl:=Option.some.inj b;refine JE h ?_;rw[List.getElem?_take]at a;split at a
  ·exact a
  ·cases a
theorem LU{k1:Nat}{c:List Value}(h:Row w g 3 (l.map (Value.int .i64)++c))(a:((l.drop k1).map (Value.int .i64))[j]?=some u):w.cell? (g,k1+j)=some u:=by
 rw[List.getElem?_map]at a;cases b:(l.drop k1)[j]? with
 |none=>rw[b]at a;cases a
 |some x=>
  rw[b]at a;obtain rfl:=Option.some.inj a;exact JE h (by rw[List.getElem?_drop]at b;exact b)
theorem Lx(h:∀(j:Nat) (u:Value),L[j]?=some u->W.cell? ⟨g,j,none⟩=some u):∀(j:Nat) (u:Value),L[j]?=some u->W.cell? ((⟨g,0,none⟩:Addr).add j)=some u:=fun j u a=>by
 rw[show(⟨g,0,none⟩:Addr).add j=⟨g,j,none⟩by unfold Addr.add;split<;>simp_all];exact h j u a
theorem MH{o:Nat}(h:∀(j:Nat) (u:Value),L[j]?=some u->W.cell? ⟨g,o+j,none⟩=some u):∀(j:Nat) (u:Value),L[j]?=some u->W.cell? ((⟨g,o,none⟩:Addr).add j)=some u:=fun j u a=>by
 rw[show(⟨g,o,none⟩:Addr).add j=⟨g,o+j,none⟩by unfold Addr.add;split<;>simp_all];exact h j u a
theorem M5{L:Nat}(h:aK s)(c:0<L)(d:L<=1000):∃kk:Nat,wrap64 ((s/4294967296).tmod (L:Int))=(kk:Int)/\kk<L/\Hid (kk=(s/4294967296%(L:Int)).toNat):=by
 have a:=Int.ediv_nonneg h.lo (b:=4294967296) (by decide);have e:=Int.emod_nonneg (s/4294967296) (b:=(L:Int)) (by omega);have f:=Int.emod_lt_of_pos (s/4294967296) (b:=(L:Int)) (by omega);refine⟨(s/4294967296%(L:Int)).toNat,?_,by omega,Z rfl⟩;rw[Int.tmod_eq_emod_of_nonneg a];unfold wrap64;omega
theorem MI(a:Option Addr)(n c i:Nat)(h:(Value.slice a n c).ownBlock=some i):some i=a.map Addr.block:=by rw[<-h];cases a<;>rfl
theorem Mj:(prog.info? 3).map (fun i=>(i.zero,i.size,i.bytes))=some (some (.int .i64 0),1,8):=by kernel_rfl
theorem J8(n K:Nat)(hu:1<=n/\n<=64)(go:K<=65536)(P:Int)(fO:aK P)(w:World):
 Calls prog 32 #[.int .i64 n,.int .i64 K,.int .u64 P] w (Ln (HR n K P) w):=by
 have hw:(n:Int)<=64:=by omega
 have hv:(1:Int)<=n:=by omega
 obtain⟨a3,ey⟩:=nm (HR n K P);have c1:=Z ey;have ct:=Z fO;rw[c1];go_wp2
 go_loopg [7,8,9] (K+1) (fun gk bd bi g5 wr=>∃(r:Nat) (S:List hI) (s:Int),r<=K/\gk=K-r+1/\g5=.int .i64 r/\bi=.int .u64 s/\Hid (Ch ag w wr/\wr.ownsRow w.heap.size 41 3 bd S.length (S.flatMap mo)/\S++HR n (K-r) s=a3/\aK s/\S.length=r*(n+1)))
 case atStart=>exact⟨0,[],P,by omega,by omega,rfl,rfl,Ch.refl _ _,⟨by simp,Or.inl ⟨rfl,rfl⟩⟩,c1,ct,by simp⟩
 case round=>
  obtain⟨r,S,s,hB,rfl,rfl,rfl,A⟩:=hrel;obtain⟨w1,rfl⟩:=mn wr;obtain⟨dr,en,rfl⟩:=au A.2.1;have hE:(r:Int)<=65536:=by omega
  by_cases hi:r<K
  ·have hm:(r:Int)<(K:Int):=by omega
   have hn:(r:Int)<65536:=(by omega);obtain⟨bb,eL,ap,av,aP⟩:=info_parts Mj;have a0:=Z eL;go_wp2
   go_loopg [10,11] (n+2) (fun gk v g3 wc=>∃k:Nat,k<=n+1/\gk=n+2-k/\g3=.int .i64 k/\Hid (wc.ownsRow w1.heap.size 3 1 v k (((List.range k).map Int.ofNat).map (Value.int .i64))/\Ch ag w1 wc))
   case atStart=>exact⟨0,by omega,by omega,rfl,Z ⟨⟨by simp,Or.inl ⟨rfl,rfl⟩⟩,Ch.refl _ _⟩⟩
   case round=>
    obtain⟨k,gF,rfl,rfl,D⟩:=hrel;obtain⟨gc,ge,rfl⟩:=au D.1;have g0:=D.2.size;by_cases hd:k<=n
    ·have e':(k:Int)<=n:=by omega
     go_wp2_with (at_builtin;refine wpList_append_lies _ rfl _ _ _ rfl w1.heap.size 3 bb _ 1 8 underlying45 a0 ap av aP rfl (by omega) _ k (((List.range k).map Int.ofNat).map (Value.int .i64)) rfl (D.1.alloc _) ⟨wr.heap.size,0,none⟩ 1 1 [.int .i64 k] rfl rfl (World.news_of_block (cs:=#[.int .i64 k]) (t:=3) (fr:=(0,0)) (heap_alloc_new wr _)) (by simp[Value.oneCell']) (by omega) (by unfold maxLen;omega) (by omega) (by simp;omega) (wr.heap.size+1) (by simp) ?_)
     intro c4 c3 ce ad ab eA fK;have a2:Hid (ce.ownsRow w1.heap.size 3 1 (.slice (some (c4,0)) (k+1) c3) (k+1) (((List.range (k+1)).map Int.ofNat).map (Value.int .i64))):=Z (by
      rw[List.range_succ,List.map_append,List.map_append];simpa using ad)
     have X:=Z (eX D.2 D.1 (Nat.le_refl _) (ao ab));go_wp2
     go_roundg (n+2-(k+1))
     case measure=>omega
     case rel=>exact⟨k+1,by omega,rfl,by go_num,Z ⟨a2,X⟩⟩
    ·have e':¬(k:Int)<=n:=by omega
     have fb:=Z (show k=n+1 by omega);go_wp2
     have cl:=Z (MG D.1 fb.out);have ch:=Z (A.1.trans D.2);have cA:Hid (wr.ownsRow w.heap.size 41 3 (.slice dr S.length en) S.length (S.flatMap mo)):=Z (ak A.2.1 D.2 (fun _ _ h=>h));obtain⟨w2,rfl⟩:=mn wr;go_loopg [7,8,10] (n+2) (fun gk bd bi v wb=>∃(left:List Int) (f:List hI) (G:Int),gk=left.length+1/\bi=.int .u64 G/\left.length<=n+1/\Hid (I7 wb w1.heap.size v left/\wb.ownsRow w.heap.size 41 3 bd f.length (f.flatMap mo)/\Ch ag w wb/\f++((It n left.length left G).1++HR n (K-(r+1)) (It n left.length left G).2)=a3/\aK G/\f.length+left.length=(r+1)*(n+1)/\∀x∈left,0<=x/\x<=n))
     case atStart=>
      refine⟨Jm n,S,s,by rw[I8],rfl,by rw[I8];exact Nat.le_refl _,Z ⟨cl,cA,ch,?_,A.2.2.2.1,?_,?_⟩⟩
      ·rw[I8,<-A.2.2.1,show K-r=(K-(r+1))+1 by omega]
       rfl
      ·rw[I8,A.2.2.2.2,Nat.succ_mul]
      ·intro x V
       obtain⟨q,fM,rfl⟩:=List.mem_map.1 V;have:=List.mem_range.1 fM;exact⟨Int.natCast_nonneg _,by show(q:Int)<=n;omega⟩
     case round=>
      obtain⟨left,f,G,rfl,rfl,fz,o⟩:=hrel;obtain⟨c2,gd,rfl⟩:=au o.2.1;obtain⟨L,c7⟩:=nm left.length;have z:=Z c7;have T:=o.1;unfold I7 at T;rw[c7]at fz T;by_cases c5:0<L
      ·obtain⟨a4,M,g2,rfl,fk,he,hf,fn,-⟩:=aE T c5
       have R:=Z fn;have es:(0:Int)<L:=(by omega);have gs:(L:Int)<=65:=(by omega);have gr:(L:Int)≠0:=(by omega);go_upto_region 16 with fail
       obtain⟨p,al⟩:=nm (HU G);have U:aK p:=(by rw[<-al];exact bO _);obtain⟨kk,fd,c9,ci⟩:∃kk:Nat,wrap64 ((p/4294967296).tmod (L:Int))=(kk:Int)/\kk<L/\Hid (kk=(p/4294967296%(L:Int)).toNat):=M5 U c5 (by omega);rw[show IntKind.u64.wrap (IntKind.u64.wrap (G*6364136223846793005)+1442695040888963407)=p from al,fd];have cC:=Z al;have cL:=Z U;have eG:aK (p/4294967296):=⟨Int.ediv_nonneg U.lo (by decide),by have:=U.hi;omega⟩;have g6:=Z eG;obtain⟨x,V⟩:∃x,left[kk]?=some x:=⟨_,List.getElem?_eq_getElem (by rw[z];exact c9)⟩;have gf:=JE R V;have cQ:=Z V;have hb:(kk:Int)<L:=(by omega);have gY:(0:Int)<=kk:=(by omega);obtain⟨i1,eS,ca,cb,cd⟩:=info_parts Dj;have bX:=Z eS;have g0:=o.2.2.1.size;have gt:f.length<=4259840:=by
        have F:=o.2.2.2.2.2.1;have a5:(r+1)*(n+1)<=65536*65:=Nat.mul_le_mul (by omega) (by omega);omega
       obtain⟨E,ex⟩:∃E:hI,(if x=(n:Int)then⟨2,0,0⟩else⟨1,x,p/4294967296⟩)=E:=⟨_,rfl⟩;have Y:=Z ex;go_upto_if 56 with fail
       go_cut [7] (fun v wc=>wc.ownsRow w.heap.size 41 3 v (f.length+1) ((f++[E]).flatMap mo)/\Ch ag w wc/\Ch (fun i=>some i=c2.map Addr.block) wr wc)
       case first=>
        rcases Decidable.em (x=(n:Int))with O|O
        case' inl=>
         have am:(x==(n:Int))=true:=(by simp;exact O);obtain rfl:E=⟨2,0,0⟩:=by have:=Y.out;rw[if_pos O]at this;exact this.symm
         rw[am];go_wp2_with (at_builtin;refine wpList_append_lies _ rfl _ _ _ rfl w.heap.size 41 i1 _ 3 24 underlying33 bX ca cb cd rfl (by omega) _ f.length (f.flatMap mo) rfl (o.2.1.alloc _) ⟨wr.heap.size,0,none⟩ 1 1 (mo ⟨2,0,0⟩) rfl rfl (World.news_of_block (cs:=#[.int .i64 2,.int .i64 0,.int .u64 0]) (t:=41) (fr:=(0,0)) (heap_alloc_new wr _)) (by simp[Value.oneCell',mo]) (by omega) (by unfold maxLen;omega) (by omega) (by simp;omega) (wr.heap.size+1) (by simp) ?_)
        case' inr=>
         have am:(x==(n:Int))=false:=(by simp;exact O);obtain rfl:E=⟨1,x,p/4294967296⟩:=by have:=Y.out;rw[if_neg O]at this;exact this.symm
         rw[am];go_wp2_with (at_builtin;refine wpList_append_lies _ rfl _ _ _ rfl w.heap.size 41 i1 _ 3 24 underlying33 bX ca cb cd rfl (by omega) _ f.length (f.flatMap mo) rfl (o.2.1.alloc _) ⟨wr.heap.size,0,none⟩ 1 1 (mo ⟨1,x,p/4294967296⟩) rfl rfl (World.news_of_block (cs:=#[.int .i64 1,.int .i64 x,.int .u64 (p/4294967296)]) (t:=41) (fr:=(0,0)) (heap_alloc_new wr _)) (by simp[Value.oneCell',mo]) (by omega) (by unfold maxLen;omega) (by omega) (by simp;omega) (wr.heap.size+1) (by simp) ?_)
        all_goals
         intro c4 c3 ce ad ab eA fK;have c8:=ao ab;have X:=Z (And.intro (eX o.2.2.1 o.2.1 (Nat.le_refl _) c8) ((Ch.bK c8).mono (fun i h=>MI _ _ _ _ h)));have a2:=Z ad;go_wp2
         go_meet
         exact⟨by rw[List.flatMap_append];simpa using a2.out,X⟩
       case rest=>
        have bw:=Z hcut;obtain⟨di,dC,rfl⟩:=au hcut.1;have fL:Row wc a4 3 (left.map (Value.int .i64)++g2):=R.ch hcut.2.2 (fun e=>aZ o.2.1 R (by decide) (by cases c2 with|none=>cases e|some q=>exact e.symm));have a1:=Z fL;obtain⟨k1,eW⟩:∃k1:Nat,kk+1=k1:=⟨_,rfl⟩;have bZ:=Z eW;have gO:IntKind.i64.wrap ((kk:Int)+1)=(k1:Int):=(by rw[IntWalk.i64_left];unfold wrap64;omega);have gG:(k1:Int)<=L:=(by omega);have gH:(k1:Int)<=M:=(by omega);have gP:(kk:Int)<=M:=(by omega);have gW:(kk:Int)<=k1:=(by omega);have hh:(L:Int)<=M:=(by omega);have hF:=hcut.2.1.size;have fT:w1.heap.size<=wc.heap.size:=Nat.le_trans (Nat.le_trans fk (Nat.le_of_lt R.lt)) hcut.2.2.size;have J:Hid ((left.eraseIdx kk).length=L-1):=Z (by rw[List.length_eraseIdx,if_pos (by rw[z.out];exact c9),z]);have cq:Hid (∀v C,I7 C w1.heap.size v (left.eraseIdx kk)->Ch ag wc C->I7 C w1.heap.size v (left.eraseIdx kk)/\C.ownsRow w.heap.size 41 3 (.slice di (f.length+1) dC) (f++[E]).length ((f++[E]).flatMap mo)/\Ch ag w C/\(f++[E])++((It n (left.eraseIdx kk).length (left.eraseIdx kk) p).1++HR n (K-(r+1)) (It n (left.eraseIdx kk).length (left.eraseIdx kk) p).2)=a3/\aK p/\(f++[E]).length+(left.eraseIdx kk).length=(r+1)*(n+1)/\∀x∈left.eraseIdx kk,0<=x/\x<=n):=Z (fun v C F a5=>by
         refine⟨F,?_,bw.2.1.trans a5,?_,cL,?_,fun y g1=>o.2.2.2.2.2.2 y (List.mem_of_mem_eraseIdx g1)⟩
         ·rw[List.length_append]
          exact ak bw.1 a5 (fun _ _ h=>h)
         ·have N:=o.2.2.2.1
          rw[z,show L=(L-1)+1 by omega,Mi (m:=L-1) (by rw[z];omega) cC (by rw[show((L-1+1:Nat):Int)=L by omega];exact ci) cQ Y]at N;rw[J,<-N];simp
         ·have et:=o.2.2.2.2.2.1
          rw[J,List.length_append,<-et,z];show f.length+1+_=_
          omega)
        have Q:Hid (Ch ag wc (wc.alloc (.cells #[] 3)).drew):=Z ay;have bx:Hid ((wc.alloc (.cells #[] 3)).drew.ownsRow wc.heap.size 3 1 (.slice (some ⟨wc.heap.size,0,none⟩) 0 0) 0 []):=Z (LS wc _);have g7:Hid (wc.heap.size<=(wc.alloc (.cells #[] 3)).drew.heap.size):=Z Q.size;have cF:Hid (∀j u,((left.take kk).map (Value.int .i64))[j]?=some u->(wc.alloc (.cells #[] 3)).drew.cell? ⟨a4,j,none⟩=some u):=Z (fun j u H=>(Q.cell (aQ (Kq a1 H)) id).trans (Kq a1 H));have c0:Hid (∀j u,((left.drop k1).map (Value.int .i64))[j]?=some u->wc.cell? ⟨a4,k1+j,none⟩=some u):=Z (fun j u H=>LU a1 H);have cS:Hid (((left.take kk).map (Value.int .i64)).length=kk*1):=Z (by rw[List.length_map,List.length_take,z];omega);have cW:Hid (((left.drop k1).map (Value.int .i64)).length=(L-k1)*1):=Z (by rw[List.length_map,List.length_drop,z];omega);rcases Decidable.em (M=k1)with eC|eC
        all_goals
         go_upto_region 19 with fail
         go_region_law (first
          |(refine Iw _ (by rfl) _ _ _ (by rfl) wc.heap.size 3 bb _ 1 8 underlying45 a0 ap av aP (by rfl) (by omega) _ 0 0 [] (by rfl) bx _ kk _ ((left.take kk).map (Value.int .i64)) (by rfl) cS (Or.inr ⟨_,rfl,Lx cF⟩) (K2 _) (by unfold maxLen;omega) (by omega) Q.size ?_;intro i2 i4 a9 dN hS;obtain⟨g8,i0,rfl⟩:=au a9;rw[Nat.zero_add]at a9;have I:=Z (And.intro a9 (Q.fresh dN (fun i eI e=>by have:=(bx.lt i e).1;omega))))
          |(refine Iw _ (by rfl) _ _ _ (by rfl) wc.heap.size 3 bb _ 1 8 underlying45 a0 ap av aP (by rfl) (by omega) _ kk _ ((left.take kk).map (Value.int .i64)) (by rfl) I.1 _ (L-k1) _ ((left.drop k1).map (Value.int .i64)) (by rfl) cW (by first|exact Or.inr ⟨_,rfl,MH (fun j u H=>(I.2.cell (aQ (c0 j u H)) id).trans (c0 j u H))⟩|exact Or.inl (by omega)) (K2 _) (by unfold maxLen;omega) (by omega) I.2.size ?_;intro i3 C c6 e4 hT;obtain⟨dp,g4,rfl⟩:=au c6;have bv:=Z (And.intro c6 (I.2.fresh e4 (fun i eI e=>by have:=(I.1.lt i e).1;omega)))))
         have cm:Hid (I7 C w1.heap.size (.slice dp (kk+(L-k1)) g4) (left.eraseIdx kk)):=Z (by
          have F:=bv.1;have F:C.ownsRow w1.heap.size 3 1 _ _ _:=⟨F.1,F.2.imp_right fun⟨g,c,cur,a,b,d⟩=>⟨g,c,cur,a,Nat.le_trans fT b,d⟩⟩;rw[<-List.map_append,show left.take kk++left.drop k1=left.eraseIdx kk by rw[List.eraseIdx_eq_take_drop_succ,bZ]]at F;unfold I7;rw[J,show L-1=kk+(L-k1)by have:=bZ.out;omega];exact F)
         go_wp2
         go_roundg (L-1+1)
         case measure=>have:=z.out;omega
         case rel=>exact⟨left.eraseIdx kk,f++[E],p,by rw[J],rfl,by rw[J];omega,Z (cq _ _ cm bv.2)⟩
      ·obtain⟨g9,M,rfl⟩:=au T
       have es:¬(0:Int)<L:=(by omega);go_wp2
       go_roundg (K-(r+1)+1)
       case measure=>omega
       case rel=>
        obtain rfl:left=[]:=List.eq_nil_of_length_eq_zero (by have:=z.out;omega);exact⟨r+1,f,G,by omega,rfl,by go_num,rfl,Z ⟨o.2.2.1,o.2.1,o.2.2.2.1,o.2.2.2.2.1,o.2.2.2.2.2.1⟩⟩
  ·obtain rfl:r=K:=by omega
   go_wp2
   go_ret;have N:=A.2.2.1;rw[Nat.sub_self,show HR n 0 s=[]from rfl,List.append_nil]at N;rw[<-N];exact⟨_,rfl,A.2.1,A.1⟩
