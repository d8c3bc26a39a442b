import Derived.Test.YtmfnplmcfkkdpaaGreatDoorZAr
set_option linter.all false
set_option maxRecDepth 100000
set_option maxHeartbeats 0
namespace Go.Proofs.YtmfnplmcfkkdpaaGreatDoor
open Go.RowKit Go.Proofs.Tryz
def mC(p:List be):KC:=vf e' 90 hh p 0 3 1
def ET:ByteArray:=⟨#[115,101,116,32,114,48,32]⟩
def Bq:ByteArray:=⟨#[10,99,97,108,108,32,49,48,10,109,111,118,32,114,49,48,32,114,49,10,109,111,118,32,114,48,32,114,49,48,10,99,97,108,108,32,49,50,10,109,111,118,32,114,48,32,114,49,48,10,99,97,108,108,32,49,49,10,115,116,32,114,48,32,91,48,93,10,109,111,118,32,114,48,32,114,49,48,10,99,97,108,108,32,49,53,10,109,111,118,32,114,48,32,114,49,48,10,99,97,108,108,32,49,49,10,115,116,32,114,48,32,91,49,93,10,109,111,118,32,114,48,32,114,49,48,10,99,97,108,108,32,49,50,10,115,116,32,114,48,32,91,50,93,10,115,101,116,32,114,48,32,48,10,99,97,108,108,32,49,48,10,101,113,32,114,50,32,114,49,32,114,49,48,10,115,116,32,114,50,32,91,51,93,10,114,101,116,10]⟩
def ly(k:Nat):ByteArray:=ET++jG k++Bq
def ca(k:Nat):List be:=((iV (ly k)).map Prod.fst).getD []
def goneK(k n:Nat):KS:=hY (mC (ca k)) n 600
def goneB(n:Nat)(Z:gF):Bool:=decide ((List.range 4).map (fun i=>Z.cells.getD (17+8*n+i) 0)=[16,0,22,0])&&(List.range 4).all (fun i=>Z.width.getD (17+8*n+i) 0 !=0)&&(gH Z.cT).length==1
def Fb(k n:Nat):UKinds:=vW (mC (ca k)) n 2000 ⟨gG n (goneK k n),0,1⟩
def ue(k n:Nat):Prop:=Gd (mC (ca k)) n (gG n (goneK k n)) (Fb k n) (goneB n)=(fun ρ=>(y8 n ρ 0 (Fb k n),true))/\(lu (Fb k n)&&kO n (goneK k n)&&decide (ey (Fb k n)+123<40*1400))=true
set_option maxRecDepth 1000000
theorem Ci:ue 0 1:=⟨by kernel_rfl,by kernel_rfl⟩
theorem Cj:ue 0 2:=⟨by kernel_rfl,by kernel_rfl⟩
theorem Ck:ue 0 3:=⟨by kernel_rfl,by kernel_rfl⟩
theorem CT:ue 0 4:=⟨by kernel_rfl,by kernel_rfl⟩
theorem C5:ue 1 1:=⟨by kernel_rfl,by kernel_rfl⟩
theorem C6:ue 1 2:=⟨by kernel_rfl,by kernel_rfl⟩
theorem C9:ue 1 3:=⟨by kernel_rfl,by kernel_rfl⟩
theorem C':ue 1 4:=⟨by kernel_rfl,by kernel_rfl⟩
theorem Da:ue 2 1:=⟨by kernel_rfl,by kernel_rfl⟩
theorem Db:ue 2 2:=⟨by kernel_rfl,by kernel_rfl⟩
theorem Dc:ue 2 3:=⟨by kernel_rfl,by kernel_rfl⟩
theorem Dd:ue 2 4:=⟨by kernel_rfl,by kernel_rfl⟩
theorem Gi:∀k n,k<3->1<=n->n<=4->ue k n:=fun k n a c d=>by
 have a:k=0∨k=1∨k=2:=by omega
 have b:n=1∨n=2∨n=3∨n=4:=by omega
 rcases a with rfl|rfl|rfl<;>rcases b with rfl|rfl|rfl|rfl
 ·exact Ci
 ·exact Cj
 ·exact Ck
 ·exact CT
 ·exact C5
 ·exact C6
 ·exact C9
 ·exact C'
 ·exact Da
 ·exact Db
 ·exact Dc
 ·exact Dd
theorem De(n:Nat)(b:1<=n)(c:n<=4):(qd e' n 90 121 (uStart 90)&&rch e' n 90 120 (uStart 90))=true:=by
 have h:=Dp;unfold uLib18 at h;simp only[Bool.and_eq_true]at h⊢;have a:n=1∨n=2∨n=3∨n=4:=by omega
 rcases a with rfl|rfl|rfl|rfl
 ·exact h.1.1.1
 ·exact h.1.1.2
 ·exact h.1.2
 ·exact h.2
theorem Df(k n:Nat)(t:k<3)(g:1<=n)(h:n<=4)(j:Int):fk (mC (ca k)) n j 1400 0 (goneK k n)=true/\∃tr K',Ji (mC (ca k)) n j (fun K=>mY K.table) 1400 0 [] (goneK k n)=(tr,K',true)/\K'.wk.length=n/\(gH K'.cT).length=1/\
 (∀i:Nat,i<4->(K'.mem.acc 0 ((17+8*n+i:Nat):Int) 0 0).1=some ([16,0,22,0].getD i 0)):=by
 obtain⟨o,b⟩:=Gi k n t g h;simp only[Bool.and_eq_true,decide_eq_true_eq]at b;obtain⟨⟨b,p⟩,q⟩:=b;obtain⟨u,tr,K',Zn,w,bot,e,c,r,d,-⟩:=vX (C:=mC (ca k)) g h (De n g h) p o b 1400 q (by decide) j;unfold goneB at d;simp only[Bool.and_eq_true,List.all_eq_true,List.mem_range,bne_iff_ne,beq_iff_eq,decide_eq_true_eq]at d;obtain⟨⟨f1,f2⟩,f3⟩:=d;refine⟨u,tr,K',e,c.len,by rw[c.cT];exact f3,fun i m=> ?_⟩;rw[vY c r (a:=17+8*n+i) (by omega) (f2 i m)];have:=congrArg (fun l=>l.getD i 0) f1;have this:((List.range 4).map (fun i=>Zn.cells.getD (17+8*n+i) 0)).getD i 0=[16,0,22,0].getD i 0:=this;have s:∀f:Nat->Int,((List.range 4).map f).getD i 0=f i:=fun f=>by
  rw[List.getD_eq_getElem?_getD,List.getElem?_map,List.getElem?_range m];rfl
 rw[s]at this;rw[this]
theorem E5(k:Nat)(a:k<3):∃l,iV (ly k)=some (ca k,l):=by
 have h:(iV (ly 0)).isSome&&(iV (ly 1)).isSome&&(iV (ly 2)).isSome=true:=by kernel_rfl
 simp only[Bool.and_eq_true]at h;have b:(iV (ly k)).isSome=true:=by
  have a:k=0∨k=1∨k=2:=by omega
  rcases a with rfl|rfl|rfl
  ·exact h.1.1
  ·exact h.1.2
  ·exact h.2
 unfold ca;cases c:iV (ly k)with
 |none=>rw[c]at b;cases b
 |some x=>exact⟨x.2,rfl⟩
def jH(p:List be):Bool:=eQ p 0 3 1&&p.all (fun x=>decide (0<=x.v/\x.v<18446744073709551616))&&decide (p.length<=2048)
theorem E6:e'.all (fun x=>decide (0<=x.v/\x.v<18446744073709551616))=true:=by kernel_rfl
def o4:ByteArray:=⟨#[115,101,116,32,114,48,32,48,10,99,97,108,108,32,49,48,10,115,101,116,32,114,48,32,119,111,114,107,10,99,97,108,108,32,49,10,109,111,118,32,114,49,48,32,114,49,10,115,101,116,32,114,48,32,119,111,114,107,10,99,97,108,108,32,49,10,109,111,118,32,114,49,49,32,114,49,10,109,111,118,32,114,48,32,114,49,48,10,99,97,108,108,32,51,10,109,111,118,32,114,48,32,114,49,49,10,99,97,108,108,32,51,10,114,101,116,10,119,111,114,107,58,10,115,101,116,32,114,54,32,49,10,119,49,58,10,106,122,32,114,54,32,119,57,10,115,101,116,32,114,48,32,49,10,99,97,108,108,32,49,50,10,108,100,32,114,50,32,91,48,93,10,97,100,100,32,114,50,32,114,50,32,49,10,97,100,100,32,114,51,32,114,51,32,49,10,97,100,100,32,114,51,32,114,51,32,49,10,115,116,32,114,50,32,91,48,93,10,115,101,116,32,114,48,32,49,10,99,97,108,108,32,49,53,10,115,117,98,32,114,54,32,114,54,32,49,10,106,109,112,32,119,49,10,119,57,58,10,114,101,116,10]⟩
def e4:List be:=((iV o4).map Prod.fst).getD []
def awakeK:KS:=hY (mC e4) 2 600
theorem Dg:(match Ji (mC e4) 2 5 (fun K=>mY K.table) 10 0 [] awakeK with|(_,K,d)=>d&&decide (K.wk.length=2)&&((K.mem.acc 0 33 0 0).1==some 2))=true:=by kernel_rfl
theorem Bf:fk (mC e4) 2 5 10 0 awakeK=true:=by kernel_rfl
